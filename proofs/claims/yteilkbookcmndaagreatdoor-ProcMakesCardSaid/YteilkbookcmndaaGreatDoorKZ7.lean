/- Texts that the claim's law stands on, cut down to what it reaches. -/
import Derived.Test.YteilkbookcmndaaGreatDoorKZ6
import Derived.Deep.RegionHeldLaw
import Derived.Deep.RegionHeld3
import Derived.Deep.LoopGhost
set_option linter.unusedVariables false
set_option linter.unusedSimpArgs false
section
namespace Go.Proofs.YteilkbookcmndaaGreatDoor.C
open Go.RowKit Go.Proofs.YteilkbookcmndaaGreatDoor.Q Go.Proofs.YteilkbookcmndaaGreatDoorW.PrintWords Go.Proofs.YteilkbookcmndaaGreatDoorW.PrintLast Go.Proofs.YteilkbookcmndaaGreatDoorW.PrintMore
attribute [local go_sem ↓] rd_at50 wr_at50 al_at50
attribute [local go_sem] rd50_new wr50_new al50
attribute [local go_sem ↓] rd_at45 wr_at45 rd_at47b wr_at47b rd_at55 wr_at55 rd_at57 wr_at57 rd_at42 wr_at42
attribute [local go_sem] rd45_new wr45_new wr47b_new wr57_new
theorem size_setRow (w : World) (g : Nat) (cs : Array Value) : (w.setRow g cs).heap.size = w.heap.size := by simp [World.setRow]
set_option maxHeartbeats 16000000 in
set_option maxRecDepth 1000000 in
theorem state_c (nb cb : Nat) (B : Option Addr) (s0 s1 s2 s3 s4 s5 s6 s7 s8 s9 s10 s11 s12 s13 s14 s15 : Int) (hl : Bool) (w : World) :
  Calls Tryz.prog 15 #[.agg #[.slice B nb cb, .int .i64 s0, .int .i64 s1, .int .i64 s2, .int .i64 s3, .int .i64 s4, .int .i64 s5, .int .i64 s6, .int .i64 s7, .int .i64 s8, .int .i64 s9, .int .i64 s10, .int .i64 s11, .int .i64 s12, .int .i64 s13, .int .i64 s14, .int .i64 s15, .slice none 0 0, .bool hl]] w fun e w' => e = .returned (.agg #[.slice B nb cb, .int .i64 s0, .int .i64 s1, .int .i64 s2, .int .i64 s3, .int .i64 s4, .int .i64 s5, .int .i64 s6, .int .i64 s7, .int .i64 s8, .int .i64 s9, .int .i64 s10, .int .i64 s11, .int .i64 s12, .int .i64 s13, .int .i64 s14, .int .i64 s15, .slice none 0 0, .bool hl]) ∧ Below w.heap.size w w' := by
 have E0a := Lib.hid (blk_alloc (blk_new w (.cells #[.slice B nb cb, .int .i64 s0, .int .i64 s1, .int .i64 s2, .int .i64 s3, .int .i64 s4, .int .i64 s5, .int .i64 s6, .int .i64 s7, .int .i64 s8, .int .i64 s9, .int .i64 s10, .int .i64 s11, .int .i64 s12, .int .i64 s13, .int .i64 s14, .int .i64 s15, .slice none 0 0, .bool hl] 47)) (.cells #[.slice none 0 0, .int .i64 0, .int .i64 0, .int .i64 0, .int .i64 0, .int .i64 0, .int .i64 0, .int .i64 0, .int .i64 0, .int .i64 0, .int .i64 0, .int .i64 0, .int .i64 0, .int .i64 0, .int .i64 0, .int .i64 0, .int .i64 0, .slice none 0 0, .bool false] 57))
 have c0 := (blk_cell (blk_alloc E0a.out (.cells #[.slice none 0 0, .int .i64 0, .int .i64 0, .int .i64 0, .int .i64 0, .int .i64 0, .int .i64 0, .int .i64 0, .int .i64 0, .int .i64 0, .int .i64 0, .int .i64 0, .int .i64 0, .int .i64 0, .int .i64 0, .int .i64 0, .int .i64 0, .slice none 0 0, .bool false] 57)) 0).trans rfl
 have c0b := (blk_cell E0a.out 0).trans rfl
 have E3z := Lib.hid (show (((w.alloc (.cells #[.slice B nb cb, .int .i64 s0, .int .i64 s1, .int .i64 s2, .int .i64 s3, .int .i64 s4, .int .i64 s5, .int .i64 s6, .int .i64 s7, .int .i64 s8, .int .i64 s9, .int .i64 s10, .int .i64 s11, .int .i64 s12, .int .i64 s13, .int .i64 s14, .int .i64 s15, .slice none 0 0, .bool hl] 47)).alloc (.cells #[.slice none 0 0, .int .i64 0, .int .i64 0, .int .i64 0, .int .i64 0, .int .i64 0, .int .i64 0, .int .i64 0, .int .i64 0, .int .i64 0, .int .i64 0, .int .i64 0, .int .i64 0, .int .i64 0, .int .i64 0, .int .i64 0, .int .i64 0, .slice none 0 0, .bool false] 57)).alloc (.cells #[.slice none 0 0, .int .i64 0, .int .i64 0, .int .i64 0, .int .i64 0, .int .i64 0, .int .i64 0, .int .i64 0, .int .i64 0, .int .i64 0, .int .i64 0, .int .i64 0, .int .i64 0, .int .i64 0, .int .i64 0, .int .i64 0, .int .i64 0, .slice none 0 0, .bool false] 57)).heap[w.heap.size + 1 + 1]? = some (.cells #[.slice none 0 0, .int .i64 0, .int .i64 0, .int .i64 0, .int .i64 0, .int .i64 0, .int .i64 0, .int .i64 0, .int .i64 0, .int .i64 0, .int .i64 0, .int .i64 0, .int .i64 0, .int .i64 0, .int .i64 0, .int .i64 0, .int .i64 0, .slice none 0 0, .bool false] 57) from by have h := blk_new ((w.alloc (.cells #[.slice B nb cb, .int .i64 s0, .int .i64 s1, .int .i64 s2, .int .i64 s3, .int .i64 s4, .int .i64 s5, .int .i64 s6, .int .i64 s7, .int .i64 s8, .int .i64 s9, .int .i64 s10, .int .i64 s11, .int .i64 s12, .int .i64 s13, .int .i64 s14, .int .i64 s15, .slice none 0 0, .bool hl] 47)).alloc (.cells #[.slice none 0 0, .int .i64 0, .int .i64 0, .int .i64 0, .int .i64 0, .int .i64 0, .int .i64 0, .int .i64 0, .int .i64 0, .int .i64 0, .int .i64 0, .int .i64 0, .int .i64 0, .int .i64 0, .int .i64 0, .int .i64 0, .int .i64 0, .slice none 0 0, .bool false] 57)) (.cells #[.slice none 0 0, .int .i64 0, .int .i64 0, .int .i64 0, .int .i64 0, .int .i64 0, .int .i64 0, .int .i64 0, .int .i64 0, .int .i64 0, .int .i64 0, .int .i64 0, .int .i64 0, .int .i64 0, .int .i64 0, .int .i64 0, .int .i64 0, .slice none 0 0, .bool false] 57); simp only [World.size_alloc] at h; exact h)
 have E2z := Lib.hid (show (((w.alloc (.cells #[.slice B nb cb, .int .i64 s0, .int .i64 s1, .int .i64 s2, .int .i64 s3, .int .i64 s4, .int .i64 s5, .int .i64 s6, .int .i64 s7, .int .i64 s8, .int .i64 s9, .int .i64 s10, .int .i64 s11, .int .i64 s12, .int .i64 s13, .int .i64 s14, .int .i64 s15, .slice none 0 0, .bool hl] 47)).alloc (.cells #[.slice none 0 0, .int .i64 0, .int .i64 0, .int .i64 0, .int .i64 0, .int .i64 0, .int .i64 0, .int .i64 0, .int .i64 0, .int .i64 0, .int .i64 0, .int .i64 0, .int .i64 0, .int .i64 0, .int .i64 0, .int .i64 0, .int .i64 0, .slice none 0 0, .bool false] 57)).alloc (.cells #[.slice none 0 0, .int .i64 0, .int .i64 0, .int .i64 0, .int .i64 0, .int .i64 0, .int .i64 0, .int .i64 0, .int .i64 0, .int .i64 0, .int .i64 0, .int .i64 0, .int .i64 0, .int .i64 0, .int .i64 0, .int .i64 0, .int .i64 0, .slice none 0 0, .bool false] 57)).heap[w.heap.size + 1]? = some (.cells #[.slice none 0 0, .int .i64 0, .int .i64 0, .int .i64 0, .int .i64 0, .int .i64 0, .int .i64 0, .int .i64 0, .int .i64 0, .int .i64 0, .int .i64 0, .int .i64 0, .int .i64 0, .int .i64 0, .int .i64 0, .int .i64 0, .int .i64 0, .slice none 0 0, .bool false] 57) from blk_alloc (by have h := blk_new (w.alloc (.cells #[.slice B nb cb, .int .i64 s0, .int .i64 s1, .int .i64 s2, .int .i64 s3, .int .i64 s4, .int .i64 s5, .int .i64 s6, .int .i64 s7, .int .i64 s8, .int .i64 s9, .int .i64 s10, .int .i64 s11, .int .i64 s12, .int .i64 s13, .int .i64 s14, .int .i64 s15, .slice none 0 0, .bool hl] 47)) (.cells #[.slice none 0 0, .int .i64 0, .int .i64 0, .int .i64 0, .int .i64 0, .int .i64 0, .int .i64 0, .int .i64 0, .int .i64 0, .int .i64 0, .int .i64 0, .int .i64 0, .int .i64 0, .int .i64 0, .int .i64 0, .int .i64 0, .int .i64 0, .slice none 0 0, .bool false] 57); simp only [World.size_alloc] at h; exact h) (.cells #[.slice none 0 0, .int .i64 0, .int .i64 0, .int .i64 0, .int .i64 0, .int .i64 0, .int .i64 0, .int .i64 0, .int .i64 0, .int .i64 0, .int .i64 0, .int .i64 0, .int .i64 0, .int .i64 0, .int .i64 0, .int .i64 0, .int .i64 0, .slice none 0 0, .bool false] 57))
 have hst3 := wr57_blk (cs := #[.slice B nb cb, .int .i64 0, .int .i64 0, .int .i64 0, .int .i64 0, .int .i64 0, .int .i64 0, .int .i64 0, .int .i64 0, .int .i64 0, .int .i64 0, .int .i64 0, .int .i64 0, .int .i64 0, .int .i64 0, .int .i64 0, .int .i64 0, .slice none 0 0, .bool false]) E3z.out rfl rfl (by simp [Value.oneCell'])
 have E3v := Lib.hid (setRow_heap _ _ _ (#[.slice B nb cb, .int .i64 0, .int .i64 0, .int .i64 0, .int .i64 0, .int .i64 0, .int .i64 0, .int .i64 0, .int .i64 0, .int .i64 0, .int .i64 0, .int .i64 0, .int .i64 0, .int .i64 0, .int .i64 0, .int .i64 0, .int .i64 0, .slice none 0 0, .bool false] : Array Value) _ _ E3z.out)
 have E2v := Lib.hid ((setRow_other _ (w.heap.size + 1 + 1) (w.heap.size + 1) (#[.slice B nb cb, .int .i64 0, .int .i64 0, .int .i64 0, .int .i64 0, .int .i64 0, .int .i64 0, .int .i64 0, .int .i64 0, .int .i64 0, .int .i64 0, .int .i64 0, .int .i64 0, .int .i64 0, .int .i64 0, .int .i64 0, .int .i64 0, .slice none 0 0, .bool false] : Array Value) (by omega)).trans E2z.out)
 have E0 := Lib.hid ((setRow_other _ (w.heap.size + 1 + 1) w.heap.size (#[.slice B nb cb, .int .i64 0, .int .i64 0, .int .i64 0, .int .i64 0, .int .i64 0, .int .i64 0, .int .i64 0, .int .i64 0, .int .i64 0, .int .i64 0, .int .i64 0, .int .i64 0, .int .i64 0, .int .i64 0, .int .i64 0, .int .i64 0, .slice none 0 0, .bool false] : Array Value) (by omega)).trans (blk_alloc E0a.out (.cells #[.slice none 0 0, .int .i64 0, .int .i64 0, .int .i64 0, .int .i64 0, .int .i64 0, .int .i64 0, .int .i64 0, .int .i64 0, .int .i64 0, .int .i64 0, .int .i64 0, .int .i64 0, .int .i64 0, .int .i64 0, .int .i64 0, .int .i64 0, .slice none 0 0, .bool false] 57)))
 have hrd := rd_in (t := 45) (k := 18) (o := 1) E0.out Tryz.isAgg45 Tryz.sizeOf45 (by show 1 + 18 ≤ 19; omega)
 have hrd4 := rd_in (t := 45) (k := 18) (o := 1) (blk_alloc E0.out (.cells #[.int .i64 0, .int .i64 0, .int .i64 0, .int .i64 0, .int .i64 0, .int .i64 0, .int .i64 0, .int .i64 0, .int .i64 0, .int .i64 0, .int .i64 0, .int .i64 0, .int .i64 0, .int .i64 0, .int .i64 0, .int .i64 0, .slice none 0 0, .bool false] 45)) Tryz.isAgg45 Tryz.sizeOf45 (by show 1 + 18 ≤ 19; omega)
 have E4z := Lib.hid (show (((((w.alloc (.cells #[.slice B nb cb, .int .i64 s0, .int .i64 s1, .int .i64 s2, .int .i64 s3, .int .i64 s4, .int .i64 s5, .int .i64 s6, .int .i64 s7, .int .i64 s8, .int .i64 s9, .int .i64 s10, .int .i64 s11, .int .i64 s12, .int .i64 s13, .int .i64 s14, .int .i64 s15, .slice none 0 0, .bool hl] 47)).alloc (.cells #[.slice none 0 0, .int .i64 0, .int .i64 0, .int .i64 0, .int .i64 0, .int .i64 0, .int .i64 0, .int .i64 0, .int .i64 0, .int .i64 0, .int .i64 0, .int .i64 0, .int .i64 0, .int .i64 0, .int .i64 0, .int .i64 0, .int .i64 0, .slice none 0 0, .bool false] 57)).alloc (.cells #[.slice none 0 0, .int .i64 0, .int .i64 0, .int .i64 0, .int .i64 0, .int .i64 0, .int .i64 0, .int .i64 0, .int .i64 0, .int .i64 0, .int .i64 0, .int .i64 0, .int .i64 0, .int .i64 0, .int .i64 0, .int .i64 0, .int .i64 0, .slice none 0 0, .bool false] 57)).setRow (w.heap.size + 1 + 1) #[.slice B nb cb, .int .i64 0, .int .i64 0, .int .i64 0, .int .i64 0, .int .i64 0, .int .i64 0, .int .i64 0, .int .i64 0, .int .i64 0, .int .i64 0, .int .i64 0, .int .i64 0, .int .i64 0, .int .i64 0, .int .i64 0, .int .i64 0, .slice none 0 0, .bool false]).alloc (.cells #[.int .i64 0, .int .i64 0, .int .i64 0, .int .i64 0, .int .i64 0, .int .i64 0, .int .i64 0, .int .i64 0, .int .i64 0, .int .i64 0, .int .i64 0, .int .i64 0, .int .i64 0, .int .i64 0, .int .i64 0, .int .i64 0, .slice none 0 0, .bool false] 45)).heap[w.heap.size + 1 + 1 + 1]? = some (.cells #[.int .i64 0, .int .i64 0, .int .i64 0, .int .i64 0, .int .i64 0, .int .i64 0, .int .i64 0, .int .i64 0, .int .i64 0, .int .i64 0, .int .i64 0, .int .i64 0, .int .i64 0, .int .i64 0, .int .i64 0, .int .i64 0, .slice none 0 0, .bool false] 45) from by have h := blk_new ((((w.alloc (.cells #[.slice B nb cb, .int .i64 s0, .int .i64 s1, .int .i64 s2, .int .i64 s3, .int .i64 s4, .int .i64 s5, .int .i64 s6, .int .i64 s7, .int .i64 s8, .int .i64 s9, .int .i64 s10, .int .i64 s11, .int .i64 s12, .int .i64 s13, .int .i64 s14, .int .i64 s15, .slice none 0 0, .bool hl] 47)).alloc (.cells #[.slice none 0 0, .int .i64 0, .int .i64 0, .int .i64 0, .int .i64 0, .int .i64 0, .int .i64 0, .int .i64 0, .int .i64 0, .int .i64 0, .int .i64 0, .int .i64 0, .int .i64 0, .int .i64 0, .int .i64 0, .int .i64 0, .int .i64 0, .slice none 0 0, .bool false] 57)).alloc (.cells #[.slice none 0 0, .int .i64 0, .int .i64 0, .int .i64 0, .int .i64 0, .int .i64 0, .int .i64 0, .int .i64 0, .int .i64 0, .int .i64 0, .int .i64 0, .int .i64 0, .int .i64 0, .int .i64 0, .int .i64 0, .int .i64 0, .int .i64 0, .slice none 0 0, .bool false] 57)).setRow (w.heap.size + 1 + 1) #[.slice B nb cb, .int .i64 0, .int .i64 0, .int .i64 0, .int .i64 0, .int .i64 0, .int .i64 0, .int .i64 0, .int .i64 0, .int .i64 0, .int .i64 0, .int .i64 0, .int .i64 0, .int .i64 0, .int .i64 0, .int .i64 0, .int .i64 0, .slice none 0 0, .bool false]) (.cells #[.int .i64 0, .int .i64 0, .int .i64 0, .int .i64 0, .int .i64 0, .int .i64 0, .int .i64 0, .int .i64 0, .int .i64 0, .int .i64 0, .int .i64 0, .int .i64 0, .int .i64 0, .int .i64 0, .int .i64 0, .int .i64 0, .slice none 0 0, .bool false] 45); simp only [size_setRow, World.size_alloc] at h; exact h)
 have hst4 := wr45_blk (cs := #[.int .i64 s0, .int .i64 s1, .int .i64 s2, .int .i64 s3, .int .i64 s4, .int .i64 s5, .int .i64 s6, .int .i64 s7, .int .i64 s8, .int .i64 s9, .int .i64 s10, .int .i64 s11, .int .i64 s12, .int .i64 s13, .int .i64 s14, .int .i64 s15, .slice none 0 0, .bool hl]) E4z.out rfl rfl (by simp [Value.oneCell'])
 have E4 := Lib.hid (setRow_heap _ _ _ (#[.int .i64 s0, .int .i64 s1, .int .i64 s2, .int .i64 s3, .int .i64 s4, .int .i64 s5, .int .i64 s6, .int .i64 s7, .int .i64 s8, .int .i64 s9, .int .i64 s10, .int .i64 s11, .int .i64 s12, .int .i64 s13, .int .i64 s14, .int .i64 s15, .slice none 0 0, .bool hl] : Array Value) _ _ E4z.out)
 have E3 := Lib.hid ((setRow_other _ (w.heap.size + 1 + 1 + 1) (w.heap.size + 1 + 1) (#[.int .i64 s0, .int .i64 s1, .int .i64 s2, .int .i64 s3, .int .i64 s4, .int .i64 s5, .int .i64 s6, .int .i64 s7, .int .i64 s8, .int .i64 s9, .int .i64 s10, .int .i64 s11, .int .i64 s12, .int .i64 s13, .int .i64 s14, .int .i64 s15, .slice none 0 0, .bool hl] : Array Value) (by omega)).trans (blk_alloc E3v.out (.cells #[.int .i64 0, .int .i64 0, .int .i64 0, .int .i64 0, .int .i64 0, .int .i64 0, .int .i64 0, .int .i64 0, .int .i64 0, .int .i64 0, .int .i64 0, .int .i64 0, .int .i64 0, .int .i64 0, .int .i64 0, .int .i64 0, .slice none 0 0, .bool false] 45)))
 have E2 := Lib.hid ((setRow_other _ (w.heap.size + 1 + 1 + 1) (w.heap.size + 1) (#[.int .i64 s0, .int .i64 s1, .int .i64 s2, .int .i64 s3, .int .i64 s4, .int .i64 s5, .int .i64 s6, .int .i64 s7, .int .i64 s8, .int .i64 s9, .int .i64 s10, .int .i64 s11, .int .i64 s12, .int .i64 s13, .int .i64 s14, .int .i64 s15, .slice none 0 0, .bool hl] : Array Value) (by omega)).trans (blk_alloc E2v.out (.cells #[.int .i64 0, .int .i64 0, .int .i64 0, .int .i64 0, .int .i64 0, .int .i64 0, .int .i64 0, .int .i64 0, .int .i64 0, .int .i64 0, .int .i64 0, .int .i64 0, .int .i64 0, .int .i64 0, .int .i64 0, .int .i64 0, .slice none 0 0, .bool false] 45)))
 have HB := Lib.hid (below_setRow (below_alloc (below_setRow (below_alloc (below_alloc (below_alloc (Below.refl w.heap.size w) (.cells #[.slice B nb cb, .int .i64 s0, .int .i64 s1, .int .i64 s2, .int .i64 s3, .int .i64 s4, .int .i64 s5, .int .i64 s6, .int .i64 s7, .int .i64 s8, .int .i64 s9, .int .i64 s10, .int .i64 s11, .int .i64 s12, .int .i64 s13, .int .i64 s14, .int .i64 s15, .slice none 0 0, .bool hl] 47)) (.cells #[.slice none 0 0, .int .i64 0, .int .i64 0, .int .i64 0, .int .i64 0, .int .i64 0, .int .i64 0, .int .i64 0, .int .i64 0, .int .i64 0, .int .i64 0, .int .i64 0, .int .i64 0, .int .i64 0, .int .i64 0, .int .i64 0, .int .i64 0, .slice none 0 0, .bool false] 57)) (.cells #[.slice none 0 0, .int .i64 0, .int .i64 0, .int .i64 0, .int .i64 0, .int .i64 0, .int .i64 0, .int .i64 0, .int .i64 0, .int .i64 0, .int .i64 0, .int .i64 0, .int .i64 0, .int .i64 0, .int .i64 0, .int .i64 0, .int .i64 0, .slice none 0 0, .bool false] 57)) (show w.heap.size ≤ w.heap.size + 1 + 1 by omega) (#[.slice B nb cb, .int .i64 0, .int .i64 0, .int .i64 0, .int .i64 0, .int .i64 0, .int .i64 0, .int .i64 0, .int .i64 0, .int .i64 0, .int .i64 0, .int .i64 0, .int .i64 0, .int .i64 0, .int .i64 0, .int .i64 0, .int .i64 0, .slice none 0 0, .bool false] : Array Value)) (.cells #[.int .i64 0, .int .i64 0, .int .i64 0, .int .i64 0, .int .i64 0, .int .i64 0, .int .i64 0, .int .i64 0, .int .i64 0, .int .i64 0, .int .i64 0, .int .i64 0, .int .i64 0, .int .i64 0, .int .i64 0, .int .i64 0, .slice none 0 0, .bool false] 45)) (show w.heap.size ≤ w.heap.size + 1 + 1 + 1 by omega) (#[.int .i64 s0, .int .i64 s1, .int .i64 s2, .int .i64 s3, .int .i64 s4, .int .i64 s5, .int .i64 s6, .int .i64 s7, .int .i64 s8, .int .i64 s9, .int .i64 s10, .int .i64 s11, .int .i64 s12, .int .i64 s13, .int .i64 s14, .int .i64 s15, .slice none 0 0, .bool hl] : Array Value))
 go_enter Tryz.func15, Tryz.ntmps15
 go_wp2
 refine sta3 (w.heap.size + 1 + 1) (w.heap.size + 1 + 1 + 1) (w.heap.size + 2) nb cb B s0 s1 s2 s3 s4 s5 s6 s7 s8 s9 s10 s11 s12 s13 s14 s15 hl _ _ _ _ _ _ _ _ _ _ _ _ _ _ _ _ _ _ _ _ _ _ _ _ _ _ _ _ _ _ _ _ _ _ _ _ _ _ _ _ _ _ _ _ _ _ _ _ _ _ _ _ _ _ _ _ _ _ _ _ _ _ _ _ _ _ _ _ _ E3.out E4.out (by omega) (by omega) ?_
 intro V t11 t12 t13 t14 t15 t16 t17 t18 t19 t20 t21 t22 t23 t24 t25 t26 t27 t28 t29 t30 t31 t32 t33 t34 h3 h4 hb
 have E3 := Lib.hid h3
 have E4 := Lib.hid h4
 have E2 := Lib.hid ((hb.block (w.heap.size + 1) (by omega)).trans E2.out)
 have HBV := Lib.hid (below_join HB.out hb (by omega))
 have q5 := (blk_cell E4.out 16).trans rfl
 clear h3 h4 hb c0 c0b hrd hrd4 hst3 hst4 E0 E0a HB E3z E2z E3v E2v E4z
 go_wp2
 go_loopg [5] 0 (fun kk s5 wr => s5 = .int .i64 0 ∧ wr = V)
 case atStart => exact ⟨rfl, rfl⟩
 case round =>
  obtain ⟨rfl, rfl⟩ := hrel
  have hr := rd57_blk E3.out rfl
  have hs := wr57_blk (cs := #[.slice B nb cb, .int .i64 s0, .int .i64 s1, .int .i64 s2, .int .i64 s3, .int .i64 s4, .int .i64 s5, .int .i64 s6, .int .i64 s7, .int .i64 s8, .int .i64 s9, .int .i64 s10, .int .i64 s11, .int .i64 s12, .int .i64 s13, .int .i64 s14, .int .i64 s15, .slice none 0 0, .bool hl]) E2.out rfl rfl (by simp [Value.oneCell'])
  have hX := setRow_heap _ _ _ (#[.slice B nb cb, .int .i64 s0, .int .i64 s1, .int .i64 s2, .int .i64 s3, .int .i64 s4, .int .i64 s5, .int .i64 s6, .int .i64 s7, .int .i64 s8, .int .i64 s9, .int .i64 s10, .int .i64 s11, .int .i64 s12, .int .i64 s13, .int .i64 s14, .int .i64 s15, .slice none 0 0, .bool hl] : Array Value) _ _ E2.out
  go_wp2
  refine bodyPost_ret (results_cell_row rfl _ _ (w.heap.size + 1) 57 _ (0, 0) _ rfl hX Tryz.underlying57 rfl (by kernel_rfl)) rfl ?_
  exact ⟨rfl, below_setRow HBV.out (by omega) _⟩
set_option maxHeartbeats 16000000 in
set_option maxRecDepth 1000000 in
theorem rmk9 (gs i tn c nb cb : Nat) (A : Option Addr) (bd : Addr) (u p : ByteArray) (a : S41) (md ke : Int) (nd : S50) (u1 u3 u5 u6 u7 u10 u11 u12 u13 u14 u15 u16 u17 u18 u19 u20 u21 u22 u23 u24 u25 u26 u27 u28 u29 u30 u31 u32 u33 u34 u35 u36 u37 u38 u39 u40 u41 u42 u43 u44 u45 u46 u47 u48 u49 u50 u51 : Value) (W : World) (Q : Exit → Act → World → Prop)
  (hm : W.heap[gs]? = some (.cells #[.string u, .int .i64 a.f0, .int .i64 a.f1, .int .i64 a.f2, .int .i64 a.f3] 60 (0, 0))) (hp : W.cell? (bd.add i) = some (.string p)) (hk : i < nb) (hnb : nb ≤ cb)
  (hS : ∀ w1 : World, Below W.heap.size W w1 → Calls Tryz.prog 30 #[.slice A tn c, .agg #[.string u, .int .i64 a.f0, .int .i64 a.f1, .int .i64 a.f2, .int .i64 a.f3], .string p, .int .i64 md] w1 fun e w' => ∃ A6 c6 A11 c11, e = .returned (.tuple #[.agg #[.string nd.f0, .bool nd.f1, .int .i64 nd.f2.f0, .int .i64 nd.f2.f1, .int .i64 nd.f2.f2, .int .i64 nd.f2.f3, .slice A6 nd.f3.length c6, .int .i64 nd.f4.f0, .int .i64 nd.f4.f1, .int .i64 nd.f4.f2, .int .i64 nd.f4.f3, .slice A11 nd.f5.length c11, .int .i64 nd.f6.f0, .int .i64 nd.f6.f1, .int .i64 nd.f6.f2, .int .i64 nd.f6.f3], .int .i64 ke]) ∧ Below w1.heap.size w1 w')
  (hpost : ∀ (g : Nat) (w' : World) (A6 : Option Addr) (c6 : Nat) (A11 : Option Addr) (c11 : Nat) (t29 t30 t31 t32 t33 t34 t35 t36 t37 t38 t39 : Value), w'.heap[g]? = some (.cells #[.string nd.f0, .bool nd.f1, .int .i64 nd.f2.f0, .int .i64 nd.f2.f1, .int .i64 nd.f2.f2, .int .i64 nd.f2.f3, .slice A6 nd.f3.length c6, .int .i64 nd.f4.f0, .int .i64 nd.f4.f1, .int .i64 nd.f4.f2, .int .i64 nd.f4.f3, .slice A11 nd.f5.length c11, .int .i64 nd.f6.f0, .int .i64 nd.f6.f1, .int .i64 nd.f6.f2, .int .i64 nd.f6.f3] 36 (0, 0)) → W.heap.size ≤ g → Below W.heap.size W w' → Q .normal ⟨#[.slice A tn c, u1, .slice (some bd) nb cb, u3, .pointer (some ⟨gs, 0, none⟩), u5, u6, u7, .int .i64 (i : Int), .int .i64 md, .pointer (some ⟨g, 0, none⟩), .int .i64 ke, u12, u13, u14, u15, u16, u17, u18, u19, u20, u21, u22, u23, u24, u25, u26, u27, u28, t29, t30, t31, t32, t33, t34, t35, t36, t37, t38, t39, u40, u41, u42, u43, u44, u45, u46, u47, u48, u49, u50, u51], []⟩ w') :
  Code.wp Tryz.prog (cReg Tryz.f13 9) Q ⟨#[.slice A tn c, u1, .slice (some bd) nb cb, u3, .pointer (some ⟨gs, 0, none⟩), u5, u6, u7, .int .i64 (i : Int), .int .i64 md, u10, u11, u12, u13, u14, u15, u16, u17, u18, u19, u20, u21, u22, u23, u24, u25, u26, u27, u28, u29, u30, u31, u32, u33, u34, u35, u36, u37, u38, u39, u40, u41, u42, u43, u44, u45, u46, u47, u48, u49, u50, u51], []⟩ W := by
 have EM := Lib.hid hm
 have EP := Lib.hid hp
 have HSE := Lib.hid hS
 have HPO := Lib.hid hpost
 have hi0 : (0 : Int) ≤ (i : Int) := by omega
 have hi1 : (i : Int) < (nb : Int) := by omega
 clear hm hp hS hpost
 have HB := Lib.hid (below_drew1 (Below.refl W.heap.size W))
 conv => arg 2; whnf
 refine wp_region_noPanic ?_
 refine wp_region_held_drew (S := fun W1 => W1.cell? ⟨gs, 0, none⟩ = some (.string u) ∧ W1.cell? ⟨gs, 1, none⟩ = some (.int .i64 a.f0) ∧ W1.cell? ⟨gs, 2, none⟩ = some (.int .i64 a.f1) ∧ W1.cell? ⟨gs, 3, none⟩ = some (.int .i64 a.f2) ∧ W1.cell? ⟨gs, 4, none⟩ = some (.int .i64 a.f3) ∧ W1.cell? (bd.add i) = some (.string p)) (by kernel_rfl) ?_ (fun hHeld => ?_)
 focus ((try dsimp only); exact ⟨(blk_cell (blk_below EM.out HB.out) 0).trans rfl, (blk_cell (blk_below EM.out HB.out) 1).trans rfl, (blk_cell (blk_below EM.out HB.out) 2).trans rfl, (blk_cell (blk_below EM.out HB.out) 3).trans rfl, (blk_cell (blk_below EM.out HB.out) 4).trans rfl, pw_cell_below HB.out EP.out⟩)
 refine tq 0 30 ?_ (by assumption)
 refine tq 1 31 ?_ (by assumption)
 refine tq 2 32 ?_ (by assumption)
 refine tq 3 33 ?_ (by assumption)
 refine tq 4 34 ?_ (by assumption)
 refine tq 5 35 ?_ (by assumption)
 refine tq 6 36 ?_ (by assumption)
 refine wpAnyH_ready (rs := [7, 11]) (by kernel_rfl) (by simp) ?_
 refine AllReadyH.cons rfl (fun K hK => ?_) ?_
 ·go_simp
  go_wp2_with (go_at_call 30; go_loud (refine (HSE.out _ HB.out).mono ?_; rintro e wa ⟨A6, c6, A11, c11, rfl, hb⟩; have HB := Lib.hid (below_step HB.out hb); clear hb))
  refine hK.out _ _ ?_ (fun hHeld => ?_)
  focus ((try dsimp only); exact ⟨(blk_cell (blk_below EM.out HB.out) 0).trans rfl, (blk_cell (blk_below EM.out HB.out) 1).trans rfl, (blk_cell (blk_below EM.out HB.out) 2).trans rfl, (blk_cell (blk_below EM.out HB.out) 3).trans rfl, (blk_cell (blk_below EM.out HB.out) 4).trans rfl, pw_cell_below HB.out EP.out⟩)
  clear hK K
  refine tq 8 29 ?_ (by assumption)
  refine tq 9 38 ?_ (by assumption)
  refine tq 10 39 ?_ (by assumption)
  refine wpAnyH_ready (rs := [11]) (by kernel_rfl) (by simp) ?_
  refine AllReadyH.cons rfl (fun K hK => ?_) ?_
  ·have EZ := Lib.hid (show (World.alloc wa (.cells #[.string (⟨#[]⟩ : ByteArray), .bool false, .int .i64 0, .int .i64 0, .int .i64 0, .int .i64 0, .slice none 0 0, .int .i64 0, .int .i64 0, .int .i64 0, .int .i64 0, .slice none 0 0, .int .i64 0, .int .i64 0, .int .i64 0, .int .i64 0] 36)).heap[wa.heap.size]? = some (.cells #[.string (⟨#[]⟩ : ByteArray), .bool false, .int .i64 0, .int .i64 0, .int .i64 0, .int .i64 0, .slice none 0 0, .int .i64 0, .int .i64 0, .int .i64 0, .int .i64 0, .slice none 0 0, .int .i64 0, .int .i64 0, .int .i64 0, .int .i64 0] 36) from blk_new wa (.cells #[.string (⟨#[]⟩ : ByteArray), .bool false, .int .i64 0, .int .i64 0, .int .i64 0, .int .i64 0, .slice none 0 0, .int .i64 0, .int .i64 0, .int .i64 0, .int .i64 0, .slice none 0 0, .int .i64 0, .int .i64 0, .int .i64 0, .int .i64 0] 36))
   have HZ := Lib.hid (show W.heap.size ≤ wa.heap.size from (by first | exact Nat.le_refl _ | exact below_size HB.out))
   have HB := Lib.hid (below_alloc HB.out (.cells #[.string (⟨#[]⟩ : ByteArray), .bool false, .int .i64 0, .int .i64 0, .int .i64 0, .int .i64 0, .slice none 0 0, .int .i64 0, .int .i64 0, .int .i64 0, .int .i64 0, .slice none 0 0, .int .i64 0, .int .i64 0, .int .i64 0, .int .i64 0] 36))
   go_simp
   refine hK.out _ _ ?_ (fun hHeld => ?_)
   focus ((try dsimp only); exact ⟨(blk_cell (blk_below EM.out HB.out) 0).trans rfl, (blk_cell (blk_below EM.out HB.out) 1).trans rfl, (blk_cell (blk_below EM.out HB.out) 2).trans rfl, (blk_cell (blk_below EM.out HB.out) 3).trans rfl, (blk_cell (blk_below EM.out HB.out) 4).trans rfl, pw_cell_below HB.out EP.out⟩)
   clear hK K
   refine wpAnyH_ready (rs := [12]) (by kernel_rfl) (by simp) ?_
   refine AllReadyH.cons rfl (fun K hK => ?_) ?_
   ·have hst := wr50_blk (cs := #[.string nd.f0, .bool nd.f1, .int .i64 nd.f2.f0, .int .i64 nd.f2.f1, .int .i64 nd.f2.f2, .int .i64 nd.f2.f3, .slice A6 nd.f3.length c6, .int .i64 nd.f4.f0, .int .i64 nd.f4.f1, .int .i64 nd.f4.f2, .int .i64 nd.f4.f3, .slice A11 nd.f5.length c11, .int .i64 nd.f6.f0, .int .i64 nd.f6.f1, .int .i64 nd.f6.f2, .int .i64 nd.f6.f3]) EZ.out rfl rfl (by simp [Value.oneCell'])
    have EX := Lib.hid (setRow_heap _ _ _ (#[.string nd.f0, .bool nd.f1, .int .i64 nd.f2.f0, .int .i64 nd.f2.f1, .int .i64 nd.f2.f2, .int .i64 nd.f2.f3, .slice A6 nd.f3.length c6, .int .i64 nd.f4.f0, .int .i64 nd.f4.f1, .int .i64 nd.f4.f2, .int .i64 nd.f4.f3, .slice A11 nd.f5.length c11, .int .i64 nd.f6.f0, .int .i64 nd.f6.f1, .int .i64 nd.f6.f2, .int .i64 nd.f6.f3] : Array Value) _ _ EZ.out)
    have HB := Lib.hid (below_setRow HB.out HZ.out (#[.string nd.f0, .bool nd.f1, .int .i64 nd.f2.f0, .int .i64 nd.f2.f1, .int .i64 nd.f2.f2, .int .i64 nd.f2.f3, .slice A6 nd.f3.length c6, .int .i64 nd.f4.f0, .int .i64 nd.f4.f1, .int .i64 nd.f4.f2, .int .i64 nd.f4.f3, .slice A11 nd.f5.length c11, .int .i64 nd.f6.f0, .int .i64 nd.f6.f1, .int .i64 nd.f6.f2, .int .i64 nd.f6.f3] : Array Value))
    go_simp
    refine hK.out _ _ ?_ (fun hHeld => ?_)
    focus ((try dsimp only); exact ⟨(blk_cell (blk_below EM.out HB.out) 0).trans rfl, (blk_cell (blk_below EM.out HB.out) 1).trans rfl, (blk_cell (blk_below EM.out HB.out) 2).trans rfl, (blk_cell (blk_below EM.out HB.out) 3).trans rfl, (blk_cell (blk_below EM.out HB.out) 4).trans rfl, pw_cell_below HB.out EP.out⟩)
    clear hK K
    refine tq 13 11 ?_ (by assumption)
    refine wpAnyH_done (by kernel_rfl) ?_ _
    refine NoPanic.normal ?_
    exact HPO.out _ _ A6 c6 A11 c11 _ _ _ _ _ _ _ _ _ _ _ EX.out HZ.out HB.out
   exact AllReadyH.nil
  exact AllReadyH.nil
 refine AllReadyH.cons rfl (fun K hK => ?_) ?_
 ·have EZ := Lib.hid (show (World.alloc W.drew (.cells #[.string (⟨#[]⟩ : ByteArray), .bool false, .int .i64 0, .int .i64 0, .int .i64 0, .int .i64 0, .slice none 0 0, .int .i64 0, .int .i64 0, .int .i64 0, .int .i64 0, .slice none 0 0, .int .i64 0, .int .i64 0, .int .i64 0, .int .i64 0] 36)).heap[W.heap.size]? = some (.cells #[.string (⟨#[]⟩ : ByteArray), .bool false, .int .i64 0, .int .i64 0, .int .i64 0, .int .i64 0, .slice none 0 0, .int .i64 0, .int .i64 0, .int .i64 0, .int .i64 0, .slice none 0 0, .int .i64 0, .int .i64 0, .int .i64 0, .int .i64 0] 36) from blk_new W.drew (.cells #[.string (⟨#[]⟩ : ByteArray), .bool false, .int .i64 0, .int .i64 0, .int .i64 0, .int .i64 0, .slice none 0 0, .int .i64 0, .int .i64 0, .int .i64 0, .int .i64 0, .slice none 0 0, .int .i64 0, .int .i64 0, .int .i64 0, .int .i64 0] 36))
  have HZ := Lib.hid (show W.heap.size ≤ W.heap.size from (by first | exact Nat.le_refl _ | exact below_size HB.out))
  have HB := Lib.hid (below_alloc HB.out (.cells #[.string (⟨#[]⟩ : ByteArray), .bool false, .int .i64 0, .int .i64 0, .int .i64 0, .int .i64 0, .slice none 0 0, .int .i64 0, .int .i64 0, .int .i64 0, .int .i64 0, .slice none 0 0, .int .i64 0, .int .i64 0, .int .i64 0, .int .i64 0] 36))
  go_simp
  refine hK.out _ _ ?_ (fun hHeld => ?_)
  focus ((try dsimp only); exact ⟨(blk_cell (blk_below EM.out HB.out) 0).trans rfl, (blk_cell (blk_below EM.out HB.out) 1).trans rfl, (blk_cell (blk_below EM.out HB.out) 2).trans rfl, (blk_cell (blk_below EM.out HB.out) 3).trans rfl, (blk_cell (blk_below EM.out HB.out) 4).trans rfl, pw_cell_below HB.out EP.out⟩)
  clear hK K
  refine wpAnyH_ready (rs := [7]) (by kernel_rfl) (by simp) ?_
  refine AllReadyH.cons rfl (fun K hK => ?_) ?_
  ·go_simp
   go_wp2_with (go_at_call 30; go_loud (refine (HSE.out _ HB.out).mono ?_; rintro e wa ⟨A6, c6, A11, c11, rfl, hb⟩; have HB := Lib.hid (below_step HB.out hb); have EZ := Lib.hid (blk_below EZ.out hb); clear hb))
   refine hK.out _ _ ?_ (fun hHeld => ?_)
   focus ((try dsimp only); exact ⟨(blk_cell (blk_below EM.out HB.out) 0).trans rfl, (blk_cell (blk_below EM.out HB.out) 1).trans rfl, (blk_cell (blk_below EM.out HB.out) 2).trans rfl, (blk_cell (blk_below EM.out HB.out) 3).trans rfl, (blk_cell (blk_below EM.out HB.out) 4).trans rfl, pw_cell_below HB.out EP.out⟩)
   clear hK K
   refine tq 8 29 ?_ (by assumption)
   refine tq 9 38 ?_ (by assumption)
   refine tq 10 39 ?_ (by assumption)
   refine wpAnyH_ready (rs := [12]) (by kernel_rfl) (by simp) ?_
   refine AllReadyH.cons rfl (fun K hK => ?_) ?_
   ·have hst := wr50_blk (cs := #[.string nd.f0, .bool nd.f1, .int .i64 nd.f2.f0, .int .i64 nd.f2.f1, .int .i64 nd.f2.f2, .int .i64 nd.f2.f3, .slice A6 nd.f3.length c6, .int .i64 nd.f4.f0, .int .i64 nd.f4.f1, .int .i64 nd.f4.f2, .int .i64 nd.f4.f3, .slice A11 nd.f5.length c11, .int .i64 nd.f6.f0, .int .i64 nd.f6.f1, .int .i64 nd.f6.f2, .int .i64 nd.f6.f3]) EZ.out rfl rfl (by simp [Value.oneCell'])
    have EX := Lib.hid (setRow_heap _ _ _ (#[.string nd.f0, .bool nd.f1, .int .i64 nd.f2.f0, .int .i64 nd.f2.f1, .int .i64 nd.f2.f2, .int .i64 nd.f2.f3, .slice A6 nd.f3.length c6, .int .i64 nd.f4.f0, .int .i64 nd.f4.f1, .int .i64 nd.f4.f2, .int .i64 nd.f4.f3, .slice A11 nd.f5.length c11, .int .i64 nd.f6.f0, .int .i64 nd.f6.f1, .int .i64 nd.f6.f2, .int .i64 nd.f6.f3] : Array Value) _ _ EZ.out)
    have HB := Lib.hid (below_setRow HB.out HZ.out (#[.string nd.f0, .bool nd.f1, .int .i64 nd.f2.f0, .int .i64 nd.f2.f1, .int .i64 nd.f2.f2, .int .i64 nd.f2.f3, .slice A6 nd.f3.length c6, .int .i64 nd.f4.f0, .int .i64 nd.f4.f1, .int .i64 nd.f4.f2, .int .i64 nd.f4.f3, .slice A11 nd.f5.length c11, .int .i64 nd.f6.f0, .int .i64 nd.f6.f1, .int .i64 nd.f6.f2, .int .i64 nd.f6.f3] : Array Value))
    go_simp
    refine hK.out _ _ ?_ (fun hHeld => ?_)
    focus ((try dsimp only); exact ⟨(blk_cell (blk_below EM.out HB.out) 0).trans rfl, (blk_cell (blk_below EM.out HB.out) 1).trans rfl, (blk_cell (blk_below EM.out HB.out) 2).trans rfl, (blk_cell (blk_below EM.out HB.out) 3).trans rfl, (blk_cell (blk_below EM.out HB.out) 4).trans rfl, pw_cell_below HB.out EP.out⟩)
    clear hK K
    refine tq 13 11 ?_ (by assumption)
    refine wpAnyH_done (by kernel_rfl) ?_ _
    refine NoPanic.normal ?_
    exact HPO.out _ _ A6 c6 A11 c11 _ _ _ _ _ _ _ _ _ _ _ EX.out HZ.out HB.out
   exact AllReadyH.nil
  exact AllReadyH.nil
 exact AllReadyH.nil
set_option maxHeartbeats 16000000 in
set_option maxRecDepth 1000000 in
theorem rmake_none (v0 : Value) (bl cb : Nat) (B : Option Addr) (u : ByteArray) (a : S41) (w : World) (hn : bl < 1 ∨ 4 < bl) :
  Calls Tryz.prog 13 #[v0, .agg #[.string u, .int .i64 a.f0, .int .i64 a.f1, .int .i64 a.f2, .int .i64 a.f3], .slice B bl cb] w fun e w' => e = .returned (.tuple #[.agg #[.slice none 0 0, .int .i64 0, .int .i64 0, .int .i64 0, .int .i64 0, .int .i64 0, .int .i64 0, .int .i64 0, .int .i64 0, .int .i64 0, .int .i64 0, .int .i64 0, .int .i64 0, .int .i64 0, .int .i64 0, .int .i64 0, .int .i64 0, .slice none 0 0, .bool false], .int .i64 1]) ∧ Below w.heap.size w w' := by
 have E6 := Lib.hid (show ((w.alloc (.cells #[.string u, .int .i64 a.f0, .int .i64 a.f1, .int .i64 a.f2, .int .i64 a.f3] 60)).alloc (.cells #[.slice none 0 0, .int .i64 0, .int .i64 0, .int .i64 0, .int .i64 0, .int .i64 0, .int .i64 0, .int .i64 0, .int .i64 0, .int .i64 0, .int .i64 0, .int .i64 0, .int .i64 0, .int .i64 0, .int .i64 0, .int .i64 0, .int .i64 0, .slice none 0 0, .bool false] 57)).heap[w.heap.size + 1]? = some (.cells #[.slice none 0 0, .int .i64 0, .int .i64 0, .int .i64 0, .int .i64 0, .int .i64 0, .int .i64 0, .int .i64 0, .int .i64 0, .int .i64 0, .int .i64 0, .int .i64 0, .int .i64 0, .int .i64 0, .int .i64 0, .int .i64 0, .int .i64 0, .slice none 0 0, .bool false] 57) from by have h := blk_new (w.alloc (.cells #[.string u, .int .i64 a.f0, .int .i64 a.f1, .int .i64 a.f2, .int .i64 a.f3] 60)) (.cells #[.slice none 0 0, .int .i64 0, .int .i64 0, .int .i64 0, .int .i64 0, .int .i64 0, .int .i64 0, .int .i64 0, .int .i64 0, .int .i64 0, .int .i64 0, .int .i64 0, .int .i64 0, .int .i64 0, .int .i64 0, .int .i64 0, .int .i64 0, .slice none 0 0, .bool false] 57); simp only [World.size_alloc] at h; exact h)
 have HB0 := Lib.hid (below_alloc (below_alloc (Below.refl w.heap.size w) (.cells #[.string u, .int .i64 a.f0, .int .i64 a.f1, .int .i64 a.f2, .int .i64 a.f3] 60)) (.cells #[.slice none 0 0, .int .i64 0, .int .i64 0, .int .i64 0, .int .i64 0, .int .i64 0, .int .i64 0, .int .i64 0, .int .i64 0, .int .i64 0, .int .i64 0, .int .i64 0, .int .i64 0, .int .i64 0, .int .i64 0, .int .i64 0, .int .i64 0, .slice none 0 0, .bool false] 57))
 have hst := wr57_blk (cs := #[.slice none 0 0, .int .i64 0, .int .i64 0, .int .i64 0, .int .i64 0, .int .i64 0, .int .i64 0, .int .i64 0, .int .i64 0, .int .i64 0, .int .i64 0, .int .i64 0, .int .i64 0, .int .i64 0, .int .i64 0, .int .i64 0, .int .i64 0, .slice none 0 0, .bool false]) E6.out rfl rfl (by simp [Value.oneCell'])
 have hX := setRow_heap _ _ _ (#[.slice none 0 0, .int .i64 0, .int .i64 0, .int .i64 0, .int .i64 0, .int .i64 0, .int .i64 0, .int .i64 0, .int .i64 0, .int .i64 0, .int .i64 0, .int .i64 0, .int .i64 0, .int .i64 0, .int .i64 0, .int .i64 0, .int .i64 0, .slice none 0 0, .bool false] : Array Value) _ _ E6.out
 rcases hn with hn | hn
 ·have h1 : (bl : Int) < 1 := by omega
  go_enter Tryz.func13, Tryz.ntmps13
  go_wp2
  refine bodyPost_ret (results_ct rfl _ _ (w.heap.size + 1) 57 _ (0, 0) _ rfl hX Tryz.underlying57 rfl (by kernel_rfl)) rfl ?_
  exact ⟨rfl, below_setRow HB0.out (by omega) _⟩
 ·have h1 : ¬ ((bl : Int) < 1) := by omega
  have h2 : (4 : Int) < (bl : Int) := by omega
  go_enter Tryz.func13, Tryz.ntmps13
  go_wp2
  refine bodyPost_ret (results_ct rfl _ _ (w.heap.size + 1) 57 _ (0, 0) _ rfl hX Tryz.underlying57 rfl (by kernel_rfl)) rfl ?_
  exact ⟨rfl, below_setRow HB0.out (by omega) _⟩
set_option maxHeartbeats 16000000 in
set_option maxRecDepth 1000000 in
theorem rmake_bad (tn c cb K : Nat) (A B : Option Addr) (u : ByteArray) (a : S41) (bs : List ByteArray) (nd : Nat → S50) (ke : Nat → Int) (w : World) (hb1 : 1 ≤ bs.length) (hb4 : bs.length ≤ 4) (hcb : bs.length ≤ cb) (hC : Kd.C Kd.string w B bs.length bs) (hok : ∀ i, i < K → ke i = 0 ∧ (nd i).f1 = false) (hK : K < bs.length) (hne : ke K ≠ 0)
  (hM : ∀ i, i ≤ K → i < bs.length → ∀ w1 : World, Below w.heap.size w w1 → Calls Tryz.prog 30 #[.slice A tn c, .agg #[.string u, .int .i64 a.f0, .int .i64 a.f1, .int .i64 a.f2, .int .i64 a.f3], .string (bs.getD i ⟨#[]⟩), .int .i64 (if i = 0 then 4 else 1)] w1 fun e w' => ∃ A6 c6 A11 c11, e = .returned (.tuple #[.agg #[.string (nd i).f0, .bool (nd i).f1, .int .i64 (nd i).f2.f0, .int .i64 (nd i).f2.f1, .int .i64 (nd i).f2.f2, .int .i64 (nd i).f2.f3, .slice A6 (nd i).f3.length c6, .int .i64 (nd i).f4.f0, .int .i64 (nd i).f4.f1, .int .i64 (nd i).f4.f2, .int .i64 (nd i).f4.f3, .slice A11 (nd i).f5.length c11, .int .i64 (nd i).f6.f0, .int .i64 (nd i).f6.f1, .int .i64 (nd i).f6.f2, .int .i64 (nd i).f6.f3], .int .i64 (ke i)]) ∧ Below w1.heap.size w1 w') :
  Calls Tryz.prog 13 #[.slice A tn c, .agg #[.string u, .int .i64 a.f0, .int .i64 a.f1, .int .i64 a.f2, .int .i64 a.f3], .slice B bs.length cb] w fun e w' => e = .returned (.tuple #[.agg #[.slice none 0 0, .int .i64 0, .int .i64 0, .int .i64 0, .int .i64 0, .int .i64 0, .int .i64 0, .int .i64 0, .int .i64 0, .int .i64 0, .int .i64 0, .int .i64 0, .int .i64 0, .int .i64 0, .int .i64 0, .int .i64 0, .int .i64 0, .slice none 0 0, .bool false], .int .i64 (ke K)]) ∧ Below w.heap.size w w' := by
 have HC := Lib.hid hC
 have HM := Lib.hid hM
 have HOK := Lib.hid hok
 have HNE := Lib.hid hne
 clear hne
 clear hC hM hok
 have hbi1 : ¬ ((bs.length : Int) < 1) := by omega
 have hbi4 : ¬ (4 < (bs.length : Int)) := by omega
 have HB0 := Lib.hid (below_alloc (below_alloc (Below.refl w.heap.size w) (.cells #[.string u, .int .i64 a.f0, .int .i64 a.f1, .int .i64 a.f2, .int .i64 a.f3] 60)) (.cells #[.slice none 0 0, .int .i64 0, .int .i64 0, .int .i64 0, .int .i64 0, .int .i64 0, .int .i64 0, .int .i64 0, .int .i64 0, .int .i64 0, .int .i64 0, .int .i64 0, .int .i64 0, .int .i64 0, .int .i64 0, .int .i64 0, .int .i64 0, .slice none 0 0, .bool false] 57))
 have ES := Lib.hid (blk_alloc (blk_new w (.cells #[.string u, .int .i64 a.f0, .int .i64 a.f1, .int .i64 a.f2, .int .i64 a.f3] 60)) (.cells #[.slice none 0 0, .int .i64 0, .int .i64 0, .int .i64 0, .int .i64 0, .int .i64 0, .int .i64 0, .int .i64 0, .int .i64 0, .int .i64 0, .int .i64 0, .int .i64 0, .int .i64 0, .int .i64 0, .int .i64 0, .int .i64 0, .int .i64 0, .slice none 0 0, .bool false] 57))
 have E6 := Lib.hid (show ((w.alloc (.cells #[.string u, .int .i64 a.f0, .int .i64 a.f1, .int .i64 a.f2, .int .i64 a.f3] 60)).alloc (.cells #[.slice none 0 0, .int .i64 0, .int .i64 0, .int .i64 0, .int .i64 0, .int .i64 0, .int .i64 0, .int .i64 0, .int .i64 0, .int .i64 0, .int .i64 0, .int .i64 0, .int .i64 0, .int .i64 0, .int .i64 0, .int .i64 0, .int .i64 0, .slice none 0 0, .bool false] 57)).heap[w.heap.size + 1]? = some (.cells #[.slice none 0 0, .int .i64 0, .int .i64 0, .int .i64 0, .int .i64 0, .int .i64 0, .int .i64 0, .int .i64 0, .int .i64 0, .int .i64 0, .int .i64 0, .int .i64 0, .int .i64 0, .int .i64 0, .int .i64 0, .int .i64 0, .int .i64 0, .slice none 0 0, .bool false] 57) from by have h := blk_new (w.alloc (.cells #[.string u, .int .i64 a.f0, .int .i64 a.f1, .int .i64 a.f2, .int .i64 a.f3] 60)) (.cells #[.slice none 0 0, .int .i64 0, .int .i64 0, .int .i64 0, .int .i64 0, .int .i64 0, .int .i64 0, .int .i64 0, .int .i64 0, .int .i64 0, .int .i64 0, .int .i64 0, .int .i64 0, .int .i64 0, .int .i64 0, .int .i64 0, .int .i64 0, .slice none 0 0, .bool false] 57); simp only [World.size_alloc] at h; exact h)
 obtain ⟨V, hV⟩ : ∃ V, V = (w.alloc (.cells #[.string u, .int .i64 a.f0, .int .i64 a.f1, .int .i64 a.f2, .int .i64 a.f3] 60)).alloc (.cells #[.slice none 0 0, .int .i64 0, .int .i64 0, .int .i64 0, .int .i64 0, .int .i64 0, .int .i64 0, .int .i64 0, .int .i64 0, .int .i64 0, .int .i64 0, .int .i64 0, .int .i64 0, .int .i64 0, .int .i64 0, .int .i64 0, .int .i64 0, .slice none 0 0, .bool false] 57) := ⟨_, rfl⟩
 go_enter Tryz.func13, Tryz.ntmps13
 go_wp2
 rw [← hV] at HB0 ES E6 ⊢
 have HV6 := blk_lt E6.out
 clear hV
 go_loopg [8] (K + 1) (fun kk s8 wr => ∃ i : Nat, i ≤ K ∧ K + 1 - i ≤ kk ∧ s8 = .int .i64 (i : Int) ∧ Hid (Below V.heap.size V wr))
 case atStart => exact ⟨0, Nat.zero_le _, Nat.le_refl _, rfl, Lib.hid (Below.refl _ _)⟩
 case round =>
  obtain ⟨i, hi, hik, rfl, HB⟩ := hrel
  have HBw := Lib.hid (below_step HB0.out HB.out)
  have ESr := Lib.hid (blk_below ES.out HB.out)
  by_cases hlt : i < K
  ·have HDI := Lib.hid (HOK.out i hlt).2
   have hk0 := (HOK.out i hlt).1
   have hil : i < bs.length := by omega
   have hli : (i : Int) < (bs.length : Int) := by omega
   obtain ⟨bd, hB, hbc⟩ := str_get (Kd.C_below HC.out HBw.out) i hil
   subst hB
   have HPC := Lib.hid hbc
   have HMi := Lib.hid (fun w2 (hb : Below wr.heap.size wr w2) => HM.out i hi hil w2 (below_step HBw.out hb))
   clear hbc
   obtain ⟨md, hmd⟩ : ∃ md, (if i = 0 then (4 : Int) else 1) = md := ⟨_, rfl⟩
   rw [hmd] at HMi
   generalize bs.getD i ⟨#[]⟩ = p at HPC HMi
   rw [hk0] at HMi
   clear hk0
   by_cases hz : i = 0
   ·subst hz
    obtain rfl : md = 4 := by rw [← hmd]; rfl
    clear hmd
    go_wp2
    refine rmk9 w.heap.size 0 tn c bs.length cb A bd u p a 4 0 (nd 0) _ _ _ _ _ _ _ _ _ _ _ _ _ _ _ _ _ _ _ _ _ _ _ _ _ _ _ _ _ _ _ _ _ _ _ _ _ _ _ _ _ _ _ _ _ _ _ wr _ ESr.out HPC.out hil hcb HMi.out ?_
    intro g w2 A6 c6 A11 c11 t29 t30 t31 t32 t33 t34 t35 t36 t37 t38 t39 hX hg hb
    have HX := Lib.hid hX
    have HB2 := Lib.hid (below_step HB.out hb)
    clear hX hb
    have qd : w2.cell? ⟨g, 1, none⟩ = some (.bool false) := (blk_cell HX.out 1).trans (congrArg (fun b => some (Value.bool b)) HDI.out)
    go_wp2
    go_roundg (K + 1 - (0 + 1))
    case measure => omega
    case rel => exact ⟨0 + 1, hlt, Nat.le_refl _, by go_num, HB2⟩
   ·have hz0 : ¬ (i : Int) = 0 := by omega
    obtain rfl : md = 1 := by rw [← hmd, if_neg hz]
    clear hmd
    go_wp2
    refine rmk9 w.heap.size i tn c bs.length cb A bd u p a 1 0 (nd i) _ _ _ _ _ _ _ _ _ _ _ _ _ _ _ _ _ _ _ _ _ _ _ _ _ _ _ _ _ _ _ _ _ _ _ _ _ _ _ _ _ _ _ _ _ _ _ wr _ ESr.out HPC.out hil hcb HMi.out ?_
    intro g w2 A6 c6 A11 c11 t29 t30 t31 t32 t33 t34 t35 t36 t37 t38 t39 hX hg hb
    have HX := Lib.hid hX
    have HB2 := Lib.hid (below_step HB.out hb)
    clear hX hb
    have qd : w2.cell? ⟨g, 1, none⟩ = some (.bool false) := (blk_cell HX.out 1).trans (congrArg (fun b => some (Value.bool b)) HDI.out)
    go_wp2
    go_roundg (K + 1 - (i + 1))
    case measure => omega
    case rel => exact ⟨i + 1, hlt, Nat.le_refl _, by go_num, HB2⟩
  ·have hik2 : i = K := by omega
   subst hik2
   have hil : i < bs.length := by omega
   have hli : (i : Int) < (bs.length : Int) := by omega
   obtain ⟨bd, hB, hbc⟩ := str_get (Kd.C_below HC.out HBw.out) i hil
   subst hB
   have HPC := Lib.hid hbc
   have HMi := Lib.hid (fun w2 (hb : Below wr.heap.size wr w2) => HM.out i hi hil w2 (below_step HBw.out hb))
   clear hbc
   obtain ⟨md, hmd⟩ : ∃ md, (if i = 0 then (4 : Int) else 1) = md := ⟨_, rfl⟩
   rw [hmd] at HMi
   generalize bs.getD i ⟨#[]⟩ = p at HPC HMi
   have hne := HNE.out
   obtain ⟨x, hx⟩ : ∃ x, ke i = x := ⟨_, rfl⟩
   have HXE := Lib.hid hx
   rw [hx] at hne HMi
   clear hx
   have hx0 : ¬ x = 0 := hne
   by_cases hz : i = 0
   ·subst hz
    obtain rfl : md = 4 := by rw [← hmd]; rfl
    clear hmd
    go_wp2
    refine rmk9 w.heap.size 0 tn c bs.length cb A bd u p a 4 x (nd 0) _ _ _ _ _ _ _ _ _ _ _ _ _ _ _ _ _ _ _ _ _ _ _ _ _ _ _ _ _ _ _ _ _ _ _ _ _ _ _ _ _ _ _ _ _ _ _ wr _ ESr.out HPC.out hil hcb HMi.out ?_
    intro g w2 A6 c6 A11 c11 t29 t30 t31 t32 t33 t34 t35 t36 t37 t38 t39 hX hg hb
    have HX := Lib.hid hX
    have HB2 := Lib.hid (below_step HB.out hb)
    clear hX hb
    have E6 := Lib.hid (blk_below E6.out HB2.out)
    have hst := wr57_blk (cs := #[.slice none 0 0, .int .i64 0, .int .i64 0, .int .i64 0, .int .i64 0, .int .i64 0, .int .i64 0, .int .i64 0, .int .i64 0, .int .i64 0, .int .i64 0, .int .i64 0, .int .i64 0, .int .i64 0, .int .i64 0, .int .i64 0, .int .i64 0, .slice none 0 0, .bool false]) E6.out rfl rfl (by simp [Value.oneCell'])
    have hX6 := setRow_heap _ _ _ (#[.slice none 0 0, .int .i64 0, .int .i64 0, .int .i64 0, .int .i64 0, .int .i64 0, .int .i64 0, .int .i64 0, .int .i64 0, .int .i64 0, .int .i64 0, .int .i64 0, .int .i64 0, .int .i64 0, .int .i64 0, .int .i64 0, .int .i64 0, .slice none 0 0, .bool false] : Array Value) _ _ E6.out
    go_wp2
    refine bodyPost_ret (results_ct rfl _ _ (w.heap.size + 1) 57 _ (0, 0) _ rfl hX6 Tryz.underlying57 rfl (by kernel_rfl)) rfl ?_
    exact ⟨by rw [HXE.out]; rfl, below_setRow (below_step HB0.out HB2.out) (by omega) _⟩
   ·have hz0 : ¬ (i : Int) = 0 := by omega
    obtain rfl : md = 1 := by rw [← hmd, if_neg hz]
    clear hmd
    go_wp2
    refine rmk9 w.heap.size i tn c bs.length cb A bd u p a 1 x (nd i) _ _ _ _ _ _ _ _ _ _ _ _ _ _ _ _ _ _ _ _ _ _ _ _ _ _ _ _ _ _ _ _ _ _ _ _ _ _ _ _ _ _ _ _ _ _ _ wr _ ESr.out HPC.out hil hcb HMi.out ?_
    intro g w2 A6 c6 A11 c11 t29 t30 t31 t32 t33 t34 t35 t36 t37 t38 t39 hX hg hb
    have HX := Lib.hid hX
    have HB2 := Lib.hid (below_step HB.out hb)
    clear hX hb
    have E6 := Lib.hid (blk_below E6.out HB2.out)
    have hst := wr57_blk (cs := #[.slice none 0 0, .int .i64 0, .int .i64 0, .int .i64 0, .int .i64 0, .int .i64 0, .int .i64 0, .int .i64 0, .int .i64 0, .int .i64 0, .int .i64 0, .int .i64 0, .int .i64 0, .int .i64 0, .int .i64 0, .int .i64 0, .int .i64 0, .slice none 0 0, .bool false]) E6.out rfl rfl (by simp [Value.oneCell'])
    have hX6 := setRow_heap _ _ _ (#[.slice none 0 0, .int .i64 0, .int .i64 0, .int .i64 0, .int .i64 0, .int .i64 0, .int .i64 0, .int .i64 0, .int .i64 0, .int .i64 0, .int .i64 0, .int .i64 0, .int .i64 0, .int .i64 0, .int .i64 0, .int .i64 0, .int .i64 0, .slice none 0 0, .bool false] : Array Value) _ _ E6.out
    go_wp2
    refine bodyPost_ret (results_ct rfl _ _ (w.heap.size + 1) 57 _ (0, 0) _ rfl hX6 Tryz.underlying57 rfl (by kernel_rfl)) rfl ?_
    exact ⟨by rw [HXE.out]; rfl, below_setRow (below_step HB0.out HB2.out) (by omega) _⟩
set_option maxHeartbeats 16000000 in
set_option maxRecDepth 1000000 in
theorem rmake_dir (tn c cb K : Nat) (A B : Option Addr) (u : ByteArray) (a : S41) (bs : List ByteArray) (nd : Nat → S50) (ke : Nat → Int) (w : World) (hb1 : 1 ≤ bs.length) (hb4 : bs.length ≤ 4) (hcb : bs.length ≤ cb) (hC : Kd.C Kd.string w B bs.length bs) (hok : ∀ i, i < K → ke i = 0 ∧ (nd i).f1 = false) (hK : K < bs.length) (hne : ke K = 0) (hdd : (nd K).f1 = true)
  (hM : ∀ i, i ≤ K → i < bs.length → ∀ w1 : World, Below w.heap.size w w1 → Calls Tryz.prog 30 #[.slice A tn c, .agg #[.string u, .int .i64 a.f0, .int .i64 a.f1, .int .i64 a.f2, .int .i64 a.f3], .string (bs.getD i ⟨#[]⟩), .int .i64 (if i = 0 then 4 else 1)] w1 fun e w' => ∃ A6 c6 A11 c11, e = .returned (.tuple #[.agg #[.string (nd i).f0, .bool (nd i).f1, .int .i64 (nd i).f2.f0, .int .i64 (nd i).f2.f1, .int .i64 (nd i).f2.f2, .int .i64 (nd i).f2.f3, .slice A6 (nd i).f3.length c6, .int .i64 (nd i).f4.f0, .int .i64 (nd i).f4.f1, .int .i64 (nd i).f4.f2, .int .i64 (nd i).f4.f3, .slice A11 (nd i).f5.length c11, .int .i64 (nd i).f6.f0, .int .i64 (nd i).f6.f1, .int .i64 (nd i).f6.f2, .int .i64 (nd i).f6.f3], .int .i64 (ke i)]) ∧ Below w1.heap.size w1 w') :
  Calls Tryz.prog 13 #[.slice A tn c, .agg #[.string u, .int .i64 a.f0, .int .i64 a.f1, .int .i64 a.f2, .int .i64 a.f3], .slice B bs.length cb] w fun e w' => e = .returned (.tuple #[.agg #[.slice none 0 0, .int .i64 0, .int .i64 0, .int .i64 0, .int .i64 0, .int .i64 0, .int .i64 0, .int .i64 0, .int .i64 0, .int .i64 0, .int .i64 0, .int .i64 0, .int .i64 0, .int .i64 0, .int .i64 0, .int .i64 0, .int .i64 0, .slice none 0 0, .bool false], .int .i64 3]) ∧ Below w.heap.size w w' := by
 have HC := Lib.hid hC
 have HM := Lib.hid hM
 have HOK := Lib.hid hok
 have HNE := Lib.hid hne
 have HDD := Lib.hid hdd
 clear hne hdd
 clear hC hM hok
 have hbi1 : ¬ ((bs.length : Int) < 1) := by omega
 have hbi4 : ¬ (4 < (bs.length : Int)) := by omega
 have HB0 := Lib.hid (below_alloc (below_alloc (Below.refl w.heap.size w) (.cells #[.string u, .int .i64 a.f0, .int .i64 a.f1, .int .i64 a.f2, .int .i64 a.f3] 60)) (.cells #[.slice none 0 0, .int .i64 0, .int .i64 0, .int .i64 0, .int .i64 0, .int .i64 0, .int .i64 0, .int .i64 0, .int .i64 0, .int .i64 0, .int .i64 0, .int .i64 0, .int .i64 0, .int .i64 0, .int .i64 0, .int .i64 0, .int .i64 0, .slice none 0 0, .bool false] 57))
 have ES := Lib.hid (blk_alloc (blk_new w (.cells #[.string u, .int .i64 a.f0, .int .i64 a.f1, .int .i64 a.f2, .int .i64 a.f3] 60)) (.cells #[.slice none 0 0, .int .i64 0, .int .i64 0, .int .i64 0, .int .i64 0, .int .i64 0, .int .i64 0, .int .i64 0, .int .i64 0, .int .i64 0, .int .i64 0, .int .i64 0, .int .i64 0, .int .i64 0, .int .i64 0, .int .i64 0, .int .i64 0, .slice none 0 0, .bool false] 57))
 have E6 := Lib.hid (show ((w.alloc (.cells #[.string u, .int .i64 a.f0, .int .i64 a.f1, .int .i64 a.f2, .int .i64 a.f3] 60)).alloc (.cells #[.slice none 0 0, .int .i64 0, .int .i64 0, .int .i64 0, .int .i64 0, .int .i64 0, .int .i64 0, .int .i64 0, .int .i64 0, .int .i64 0, .int .i64 0, .int .i64 0, .int .i64 0, .int .i64 0, .int .i64 0, .int .i64 0, .int .i64 0, .slice none 0 0, .bool false] 57)).heap[w.heap.size + 1]? = some (.cells #[.slice none 0 0, .int .i64 0, .int .i64 0, .int .i64 0, .int .i64 0, .int .i64 0, .int .i64 0, .int .i64 0, .int .i64 0, .int .i64 0, .int .i64 0, .int .i64 0, .int .i64 0, .int .i64 0, .int .i64 0, .int .i64 0, .int .i64 0, .slice none 0 0, .bool false] 57) from by have h := blk_new (w.alloc (.cells #[.string u, .int .i64 a.f0, .int .i64 a.f1, .int .i64 a.f2, .int .i64 a.f3] 60)) (.cells #[.slice none 0 0, .int .i64 0, .int .i64 0, .int .i64 0, .int .i64 0, .int .i64 0, .int .i64 0, .int .i64 0, .int .i64 0, .int .i64 0, .int .i64 0, .int .i64 0, .int .i64 0, .int .i64 0, .int .i64 0, .int .i64 0, .int .i64 0, .slice none 0 0, .bool false] 57); simp only [World.size_alloc] at h; exact h)
 obtain ⟨V, hV⟩ : ∃ V, V = (w.alloc (.cells #[.string u, .int .i64 a.f0, .int .i64 a.f1, .int .i64 a.f2, .int .i64 a.f3] 60)).alloc (.cells #[.slice none 0 0, .int .i64 0, .int .i64 0, .int .i64 0, .int .i64 0, .int .i64 0, .int .i64 0, .int .i64 0, .int .i64 0, .int .i64 0, .int .i64 0, .int .i64 0, .int .i64 0, .int .i64 0, .int .i64 0, .int .i64 0, .int .i64 0, .slice none 0 0, .bool false] 57) := ⟨_, rfl⟩
 go_enter Tryz.func13, Tryz.ntmps13
 go_wp2
 rw [← hV] at HB0 ES E6 ⊢
 have HV6 := blk_lt E6.out
 clear hV
 go_loopg [8] (K + 1) (fun kk s8 wr => ∃ i : Nat, i ≤ K ∧ K + 1 - i ≤ kk ∧ s8 = .int .i64 (i : Int) ∧ Hid (Below V.heap.size V wr))
 case atStart => exact ⟨0, Nat.zero_le _, Nat.le_refl _, rfl, Lib.hid (Below.refl _ _)⟩
 case round =>
  obtain ⟨i, hi, hik, rfl, HB⟩ := hrel
  have HBw := Lib.hid (below_step HB0.out HB.out)
  have ESr := Lib.hid (blk_below ES.out HB.out)
  by_cases hlt : i < K
  ·have HDI := Lib.hid (HOK.out i hlt).2
   have hk0 := (HOK.out i hlt).1
   have hil : i < bs.length := by omega
   have hli : (i : Int) < (bs.length : Int) := by omega
   obtain ⟨bd, hB, hbc⟩ := str_get (Kd.C_below HC.out HBw.out) i hil
   subst hB
   have HPC := Lib.hid hbc
   have HMi := Lib.hid (fun w2 (hb : Below wr.heap.size wr w2) => HM.out i hi hil w2 (below_step HBw.out hb))
   clear hbc
   obtain ⟨md, hmd⟩ : ∃ md, (if i = 0 then (4 : Int) else 1) = md := ⟨_, rfl⟩
   rw [hmd] at HMi
   generalize bs.getD i ⟨#[]⟩ = p at HPC HMi
   rw [hk0] at HMi
   clear hk0
   by_cases hz : i = 0
   ·subst hz
    obtain rfl : md = 4 := by rw [← hmd]; rfl
    clear hmd
    go_wp2
    refine rmk9 w.heap.size 0 tn c bs.length cb A bd u p a 4 0 (nd 0) _ _ _ _ _ _ _ _ _ _ _ _ _ _ _ _ _ _ _ _ _ _ _ _ _ _ _ _ _ _ _ _ _ _ _ _ _ _ _ _ _ _ _ _ _ _ _ wr _ ESr.out HPC.out hil hcb HMi.out ?_
    intro g w2 A6 c6 A11 c11 t29 t30 t31 t32 t33 t34 t35 t36 t37 t38 t39 hX hg hb
    have HX := Lib.hid hX
    have HB2 := Lib.hid (below_step HB.out hb)
    clear hX hb
    have qd : w2.cell? ⟨g, 1, none⟩ = some (.bool false) := (blk_cell HX.out 1).trans (congrArg (fun b => some (Value.bool b)) HDI.out)
    go_wp2
    go_roundg (K + 1 - (0 + 1))
    case measure => omega
    case rel => exact ⟨0 + 1, hlt, Nat.le_refl _, by go_num, HB2⟩
   ·have hz0 : ¬ (i : Int) = 0 := by omega
    obtain rfl : md = 1 := by rw [← hmd, if_neg hz]
    clear hmd
    go_wp2
    refine rmk9 w.heap.size i tn c bs.length cb A bd u p a 1 0 (nd i) _ _ _ _ _ _ _ _ _ _ _ _ _ _ _ _ _ _ _ _ _ _ _ _ _ _ _ _ _ _ _ _ _ _ _ _ _ _ _ _ _ _ _ _ _ _ _ wr _ ESr.out HPC.out hil hcb HMi.out ?_
    intro g w2 A6 c6 A11 c11 t29 t30 t31 t32 t33 t34 t35 t36 t37 t38 t39 hX hg hb
    have HX := Lib.hid hX
    have HB2 := Lib.hid (below_step HB.out hb)
    clear hX hb
    have qd : w2.cell? ⟨g, 1, none⟩ = some (.bool false) := (blk_cell HX.out 1).trans (congrArg (fun b => some (Value.bool b)) HDI.out)
    go_wp2
    go_roundg (K + 1 - (i + 1))
    case measure => omega
    case rel => exact ⟨i + 1, hlt, Nat.le_refl _, by go_num, HB2⟩
  ·have hik2 : i = K := by omega
   subst hik2
   have hil : i < bs.length := by omega
   have hli : (i : Int) < (bs.length : Int) := by omega
   obtain ⟨bd, hB, hbc⟩ := str_get (Kd.C_below HC.out HBw.out) i hil
   subst hB
   have HPC := Lib.hid hbc
   have HMi := Lib.hid (fun w2 (hb : Below wr.heap.size wr w2) => HM.out i hi hil w2 (below_step HBw.out hb))
   clear hbc
   obtain ⟨md, hmd⟩ : ∃ md, (if i = 0 then (4 : Int) else 1) = md := ⟨_, rfl⟩
   rw [hmd] at HMi
   generalize bs.getD i ⟨#[]⟩ = p at HPC HMi
   have hk0 := HNE.out
   have HDI := HDD
   rw [hk0] at HMi
   clear hk0
   by_cases hz : i = 0
   ·subst hz
    obtain rfl : md = 4 := by rw [← hmd]; rfl
    clear hmd
    go_wp2
    refine rmk9 w.heap.size 0 tn c bs.length cb A bd u p a 4 0 (nd 0) _ _ _ _ _ _ _ _ _ _ _ _ _ _ _ _ _ _ _ _ _ _ _ _ _ _ _ _ _ _ _ _ _ _ _ _ _ _ _ _ _ _ _ _ _ _ _ wr _ ESr.out HPC.out hil hcb HMi.out ?_
    intro g w2 A6 c6 A11 c11 t29 t30 t31 t32 t33 t34 t35 t36 t37 t38 t39 hX hg hb
    have HX := Lib.hid hX
    have HB2 := Lib.hid (below_step HB.out hb)
    clear hX hb
    have qd : w2.cell? ⟨g, 1, none⟩ = some (.bool true) := (blk_cell HX.out 1).trans (congrArg (fun b => some (Value.bool b)) HDI.out)
    have E6 := Lib.hid (blk_below E6.out HB2.out)
    have hst := wr57_blk (cs := #[.slice none 0 0, .int .i64 0, .int .i64 0, .int .i64 0, .int .i64 0, .int .i64 0, .int .i64 0, .int .i64 0, .int .i64 0, .int .i64 0, .int .i64 0, .int .i64 0, .int .i64 0, .int .i64 0, .int .i64 0, .int .i64 0, .int .i64 0, .slice none 0 0, .bool false]) E6.out rfl rfl (by simp [Value.oneCell'])
    have hX6 := setRow_heap _ _ _ (#[.slice none 0 0, .int .i64 0, .int .i64 0, .int .i64 0, .int .i64 0, .int .i64 0, .int .i64 0, .int .i64 0, .int .i64 0, .int .i64 0, .int .i64 0, .int .i64 0, .int .i64 0, .int .i64 0, .int .i64 0, .int .i64 0, .int .i64 0, .slice none 0 0, .bool false] : Array Value) _ _ E6.out
    go_wp2
    refine bodyPost_ret (results_ct rfl _ _ (w.heap.size + 1) 57 _ (0, 0) _ rfl hX6 Tryz.underlying57 rfl (by kernel_rfl)) rfl ?_
    exact ⟨rfl, below_setRow (below_step HB0.out HB2.out) (by omega) _⟩
   ·have hz0 : ¬ (i : Int) = 0 := by omega
    obtain rfl : md = 1 := by rw [← hmd, if_neg hz]
    clear hmd
    go_wp2
    refine rmk9 w.heap.size i tn c bs.length cb A bd u p a 1 0 (nd i) _ _ _ _ _ _ _ _ _ _ _ _ _ _ _ _ _ _ _ _ _ _ _ _ _ _ _ _ _ _ _ _ _ _ _ _ _ _ _ _ _ _ _ _ _ _ _ wr _ ESr.out HPC.out hil hcb HMi.out ?_
    intro g w2 A6 c6 A11 c11 t29 t30 t31 t32 t33 t34 t35 t36 t37 t38 t39 hX hg hb
    have HX := Lib.hid hX
    have HB2 := Lib.hid (below_step HB.out hb)
    clear hX hb
    have qd : w2.cell? ⟨g, 1, none⟩ = some (.bool true) := (blk_cell HX.out 1).trans (congrArg (fun b => some (Value.bool b)) HDI.out)
    have E6 := Lib.hid (blk_below E6.out HB2.out)
    have hst := wr57_blk (cs := #[.slice none 0 0, .int .i64 0, .int .i64 0, .int .i64 0, .int .i64 0, .int .i64 0, .int .i64 0, .int .i64 0, .int .i64 0, .int .i64 0, .int .i64 0, .int .i64 0, .int .i64 0, .int .i64 0, .int .i64 0, .int .i64 0, .int .i64 0, .slice none 0 0, .bool false]) E6.out rfl rfl (by simp [Value.oneCell'])
    have hX6 := setRow_heap _ _ _ (#[.slice none 0 0, .int .i64 0, .int .i64 0, .int .i64 0, .int .i64 0, .int .i64 0, .int .i64 0, .int .i64 0, .int .i64 0, .int .i64 0, .int .i64 0, .int .i64 0, .int .i64 0, .int .i64 0, .int .i64 0, .int .i64 0, .int .i64 0, .slice none 0 0, .bool false] : Array Value) _ _ E6.out
    go_wp2
    refine bodyPost_ret (results_ct rfl _ _ (w.heap.size + 1) 57 _ (0, 0) _ rfl hX6 Tryz.underlying57 rfl (by kernel_rfl)) rfl ?_
    exact ⟨rfl, below_setRow (below_step HB0.out HB2.out) (by omega) _⟩
set_option maxHeartbeats 16000000 in
set_option maxRecDepth 1000000 in
theorem rmake_ok (tn c cb K : Nat) (A B : Option Addr) (u : ByteArray) (a : S41) (bs : List ByteArray) (nd : Nat → S50) (ke : Nat → Int) (w : World) (hb1 : 1 ≤ bs.length) (hb4 : bs.length ≤ 4) (hcb : bs.length ≤ cb) (hC : Kd.C Kd.string w B bs.length bs) (hok : ∀ i, i < K → ke i = 0 ∧ (nd i).f1 = false) (hK : K = bs.length)
  (hM : ∀ i, i ≤ K → i < bs.length → ∀ w1 : World, Below w.heap.size w w1 → Calls Tryz.prog 30 #[.slice A tn c, .agg #[.string u, .int .i64 a.f0, .int .i64 a.f1, .int .i64 a.f2, .int .i64 a.f3], .string (bs.getD i ⟨#[]⟩), .int .i64 (if i = 0 then 4 else 1)] w1 fun e w' => ∃ A6 c6 A11 c11, e = .returned (.tuple #[.agg #[.string (nd i).f0, .bool (nd i).f1, .int .i64 (nd i).f2.f0, .int .i64 (nd i).f2.f1, .int .i64 (nd i).f2.f2, .int .i64 (nd i).f2.f3, .slice A6 (nd i).f3.length c6, .int .i64 (nd i).f4.f0, .int .i64 (nd i).f4.f1, .int .i64 (nd i).f4.f2, .int .i64 (nd i).f4.f3, .slice A11 (nd i).f5.length c11, .int .i64 (nd i).f6.f0, .int .i64 (nd i).f6.f1, .int .i64 (nd i).f6.f2, .int .i64 (nd i).f6.f3], .int .i64 (ke i)]) ∧ Below w1.heap.size w1 w') :
  Calls Tryz.prog 13 #[.slice A tn c, .agg #[.string u, .int .i64 a.f0, .int .i64 a.f1, .int .i64 a.f2, .int .i64 a.f3], .slice B bs.length cb] w fun e w' => ∃ B1 b1, e = .returned (.tuple #[.agg #[.slice B1 bs.length b1, .int .i64 0, .int .i64 0, .int .i64 4, .int .i64 0, .int .i64 0, .int .i64 0, .int .i64 4, .int .i64 1, .int .i64 0, .int .i64 4, .int .i64 2, .int .i64 0, .int .i64 4, .int .i64 3, .int .i64 0, .int .i64 4, .slice none 0 0, .bool false], .int .i64 0]) ∧ bs.length ≤ b1 ∧ Kd.C Kd.string w' B1 bs.length bs ∧ Below w.heap.size w w' := by
 have HC := Lib.hid hC
 have HM := Lib.hid hM
 have HOK := Lib.hid hok
 clear hC hM hok
 have hbi1 : ¬ ((bs.length : Int) < 1) := by omega
 have hbi4 : ¬ (4 < (bs.length : Int)) := by omega
 have HB0 := Lib.hid (below_alloc (below_alloc (Below.refl w.heap.size w) (.cells #[.string u, .int .i64 a.f0, .int .i64 a.f1, .int .i64 a.f2, .int .i64 a.f3] 60)) (.cells #[.slice none 0 0, .int .i64 0, .int .i64 0, .int .i64 0, .int .i64 0, .int .i64 0, .int .i64 0, .int .i64 0, .int .i64 0, .int .i64 0, .int .i64 0, .int .i64 0, .int .i64 0, .int .i64 0, .int .i64 0, .int .i64 0, .int .i64 0, .slice none 0 0, .bool false] 57))
 have ES := Lib.hid (blk_alloc (blk_new w (.cells #[.string u, .int .i64 a.f0, .int .i64 a.f1, .int .i64 a.f2, .int .i64 a.f3] 60)) (.cells #[.slice none 0 0, .int .i64 0, .int .i64 0, .int .i64 0, .int .i64 0, .int .i64 0, .int .i64 0, .int .i64 0, .int .i64 0, .int .i64 0, .int .i64 0, .int .i64 0, .int .i64 0, .int .i64 0, .int .i64 0, .int .i64 0, .int .i64 0, .slice none 0 0, .bool false] 57))
 have E6 := Lib.hid (show ((w.alloc (.cells #[.string u, .int .i64 a.f0, .int .i64 a.f1, .int .i64 a.f2, .int .i64 a.f3] 60)).alloc (.cells #[.slice none 0 0, .int .i64 0, .int .i64 0, .int .i64 0, .int .i64 0, .int .i64 0, .int .i64 0, .int .i64 0, .int .i64 0, .int .i64 0, .int .i64 0, .int .i64 0, .int .i64 0, .int .i64 0, .int .i64 0, .int .i64 0, .int .i64 0, .slice none 0 0, .bool false] 57)).heap[w.heap.size + 1]? = some (.cells #[.slice none 0 0, .int .i64 0, .int .i64 0, .int .i64 0, .int .i64 0, .int .i64 0, .int .i64 0, .int .i64 0, .int .i64 0, .int .i64 0, .int .i64 0, .int .i64 0, .int .i64 0, .int .i64 0, .int .i64 0, .int .i64 0, .int .i64 0, .slice none 0 0, .bool false] 57) from by have h := blk_new (w.alloc (.cells #[.string u, .int .i64 a.f0, .int .i64 a.f1, .int .i64 a.f2, .int .i64 a.f3] 60)) (.cells #[.slice none 0 0, .int .i64 0, .int .i64 0, .int .i64 0, .int .i64 0, .int .i64 0, .int .i64 0, .int .i64 0, .int .i64 0, .int .i64 0, .int .i64 0, .int .i64 0, .int .i64 0, .int .i64 0, .int .i64 0, .int .i64 0, .int .i64 0, .slice none 0 0, .bool false] 57); simp only [World.size_alloc] at h; exact h)
 obtain ⟨V, hV⟩ : ∃ V, V = (w.alloc (.cells #[.string u, .int .i64 a.f0, .int .i64 a.f1, .int .i64 a.f2, .int .i64 a.f3] 60)).alloc (.cells #[.slice none 0 0, .int .i64 0, .int .i64 0, .int .i64 0, .int .i64 0, .int .i64 0, .int .i64 0, .int .i64 0, .int .i64 0, .int .i64 0, .int .i64 0, .int .i64 0, .int .i64 0, .int .i64 0, .int .i64 0, .int .i64 0, .int .i64 0, .slice none 0 0, .bool false] 57) := ⟨_, rfl⟩
 go_enter Tryz.func13, Tryz.ntmps13
 go_wp2
 rw [← hV] at HB0 ES E6 ⊢
 have HV6 := blk_lt E6.out
 clear hV
 go_loopg [8] (K + 1) (fun kk s8 wr => ∃ i : Nat, i ≤ K ∧ K + 1 - i ≤ kk ∧ s8 = .int .i64 (i : Int) ∧ Hid (Below V.heap.size V wr))
 case atStart => exact ⟨0, Nat.zero_le _, Nat.le_refl _, rfl, Lib.hid (Below.refl _ _)⟩
 case round =>
  obtain ⟨i, hi, hik, rfl, HB⟩ := hrel
  have HBw := Lib.hid (below_step HB0.out HB.out)
  have ESr := Lib.hid (blk_below ES.out HB.out)
  by_cases hlt : i < K
  ·have HDI := Lib.hid (HOK.out i hlt).2
   have hk0 := (HOK.out i hlt).1
   have hil : i < bs.length := by omega
   have hli : (i : Int) < (bs.length : Int) := by omega
   obtain ⟨bd, hB, hbc⟩ := str_get (Kd.C_below HC.out HBw.out) i hil
   subst hB
   have HPC := Lib.hid hbc
   have HMi := Lib.hid (fun w2 (hb : Below wr.heap.size wr w2) => HM.out i hi hil w2 (below_step HBw.out hb))
   clear hbc
   obtain ⟨md, hmd⟩ : ∃ md, (if i = 0 then (4 : Int) else 1) = md := ⟨_, rfl⟩
   rw [hmd] at HMi
   generalize bs.getD i ⟨#[]⟩ = p at HPC HMi
   rw [hk0] at HMi
   clear hk0
   by_cases hz : i = 0
   ·subst hz
    obtain rfl : md = 4 := by rw [← hmd]; rfl
    clear hmd
    go_wp2
    refine rmk9 w.heap.size 0 tn c bs.length cb A bd u p a 4 0 (nd 0) _ _ _ _ _ _ _ _ _ _ _ _ _ _ _ _ _ _ _ _ _ _ _ _ _ _ _ _ _ _ _ _ _ _ _ _ _ _ _ _ _ _ _ _ _ _ _ wr _ ESr.out HPC.out hil hcb HMi.out ?_
    intro g w2 A6 c6 A11 c11 t29 t30 t31 t32 t33 t34 t35 t36 t37 t38 t39 hX hg hb
    have HX := Lib.hid hX
    have HB2 := Lib.hid (below_step HB.out hb)
    clear hX hb
    have qd : w2.cell? ⟨g, 1, none⟩ = some (.bool false) := (blk_cell HX.out 1).trans (congrArg (fun b => some (Value.bool b)) HDI.out)
    go_wp2
    go_roundg (K + 1 - (0 + 1))
    case measure => omega
    case rel => exact ⟨0 + 1, hlt, Nat.le_refl _, by go_num, HB2⟩
   ·have hz0 : ¬ (i : Int) = 0 := by omega
    obtain rfl : md = 1 := by rw [← hmd, if_neg hz]
    clear hmd
    go_wp2
    refine rmk9 w.heap.size i tn c bs.length cb A bd u p a 1 0 (nd i) _ _ _ _ _ _ _ _ _ _ _ _ _ _ _ _ _ _ _ _ _ _ _ _ _ _ _ _ _ _ _ _ _ _ _ _ _ _ _ _ _ _ _ _ _ _ _ wr _ ESr.out HPC.out hil hcb HMi.out ?_
    intro g w2 A6 c6 A11 c11 t29 t30 t31 t32 t33 t34 t35 t36 t37 t38 t39 hX hg hb
    have HX := Lib.hid hX
    have HB2 := Lib.hid (below_step HB.out hb)
    clear hX hb
    have qd : w2.cell? ⟨g, 1, none⟩ = some (.bool false) := (blk_cell HX.out 1).trans (congrArg (fun b => some (Value.bool b)) HDI.out)
    go_wp2
    go_roundg (K + 1 - (i + 1))
    case measure => omega
    case rel => exact ⟨i + 1, hlt, Nat.le_refl _, by go_num, HB2⟩
  ·have hik2 : i = K := by omega
   subst hik2
   subst hK
   have hli : ¬ ((bs.length : Int) < (bs.length : Int)) := by omega
   obtain ⟨bd, hB, _⟩ := str_get (Kd.C_below HC.out HBw.out) 0 (by omega)
   subst hB
   have hCw := Kd.C_below HC.out HBw.out
   obtain ⟨news, hr, hc⟩ := ReadsRow.inner_ hCw
   have H1 := Lib.hid (fun u hu => Reps_one (d := Kd.string) hr u hu : ∀ u ∈ news, u.oneCell' = true)
   have HCC := Lib.hid hc
   have HR := Lib.hid hr
   have hlen : news.length = bs.length * 1 := hr.1
   have hmax := hCw.2.1
   have hinfo : (Tryz.prog.info? 9).map (fun i => (i.zero, i.size, i.bytes)) = some (some (.string (⟨#[]⟩ : ByteArray)), 1, 16) := by kernel_rfl
   obtain ⟨i0, hi0, hv⟩ := Option.map_eq_some_iff.1 hinfo
   obtain ⟨hz0, hz1, hz2⟩ : i0.zero = some (.string (⟨#[]⟩ : ByteArray)) ∧ i0.size = 1 ∧ i0.bytes = 16 := by simpa using hv
   have hbig : bs.length * 16 ≤ 140737488355328 := by omega
   have HLEN := Lib.hid hlen
   clear hinfo hv hc hr hCw hlen
   go_wp2_with (first
    | (go_at_call 31; have hgate := HBR.out; clear hgate; refine (rnew_c _).mono ?_; rintro e w3 ⟨rfl, hb⟩; have HB2 := Lib.hid (below_step HBR.out hb); have HCB := Lib.hid (Kd.F_below HCB.out hb); have E6 := Lib.hid (blk_below E6.out (below_step HB.out HB2.out)); have hst := wr57_blk (cs := #[.slice A' bs.length c', .int .i64 0, .int .i64 0, .int .i64 4, .int .i64 0, .int .i64 0, .int .i64 0, .int .i64 4, .int .i64 1, .int .i64 0, .int .i64 4, .int .i64 2, .int .i64 0, .int .i64 4, .int .i64 3, .int .i64 0, .int .i64 4, .slice none 0 0, .bool false]) E6.out rfl rfl (by simp [Value.oneCell']); clear hb)
    | (at_builtin; go_loud (refine wpList_append_own _ rfl _ _ 39 rfl wr.heap.size 9 i0 (.string (⟨#[]⟩ : ByteArray)) 1 16 Tryz.underlying39 hi0 hz0 hz1 hz2 rfl (by decide) _ _ _ rfl (World.ownsRow_made wr #[] 0 (Nat.le_refl _) (Nat.zero_le _) (by simp)) bd bs.length cb news rfl HLEN.out (fun j u hj => Lib.cell?_alloc_some _ (HCC.out j u hj)) H1.out (by rw [Nat.zero_add]; exact hmax) (by rw [Nat.zero_add]; exact hbig) (by simp) ?_; intro v' w1 hown hgrow hnil; have hb : Below wr.heap.size wr w1 := ((Below.refl _ wr).alloc (Nat.le_refl _) _).grown hgrow (by simp) (by intro k hk; have hk2 : wr.heap.size = k := Option.some.inj hk; omega); have hO : OwnRow (Kd.string.M w1 wr.heap.size (fun k => wr.heap.size ≤ k ∧ some k ≠ v'.ownBlock)) 9 1 w1 wr.heap.size v' bs := ⟨news, by simpa using hown, HR.out.imp_ fun _ _ h => h⟩; have hR : Kd.string.R 9 w1 wr.heap.size (fun k => wr.heap.size ≤ k) v' bs := ⟨own_base hO.choose_spec.1, hO⟩; obtain ⟨A', c', rfl, hle, _⟩ := OwnRow.reads hO; have HCB := Lib.hid (Kd.R_F hR); have HBR := Lib.hid hb; have HLE := Lib.hid hle; clear hown hgrow hnil hb hO hR hle)))
   have hX := setRow_heap _ _ _ (#[.slice A' bs.length c', .int .i64 0, .int .i64 0, .int .i64 4, .int .i64 0, .int .i64 0, .int .i64 0, .int .i64 4, .int .i64 1, .int .i64 0, .int .i64 4, .int .i64 2, .int .i64 0, .int .i64 4, .int .i64 3, .int .i64 0, .int .i64 4, .slice none 0 0, .bool false] : Array Value) _ _ E6.out
   refine bodyPost_ret (results_ct rfl _ _ (w.heap.size + 1) 57 _ (0, 0) _ rfl hX Tryz.underlying57 rfl (by kernel_rfl)) rfl ?_
   have hV6 := HV6
   have hVw := HB.out.size
   exact ⟨A', c', rfl, HLE.out, Kd.F_now (Kd.F_step HCB.out (fun j hj _ => setRow_other _ _ j _ (by omega))), below_setRow (below_step HBw.out HB2.out) (by omega) _⟩
end Go.Proofs.YteilkbookcmndaaGreatDoor.C
end
