/- Texts that the claim's law stands on, cut down to what it reaches. -/
import Derived.Test.YteilkbookcmndaaGreatDoorKB2
import Derived.Deep.RegionHeldLaw
import Derived.Deep.RegionHeld3
import Derived.Deep.LoopGhost
set_option linter.unusedVariables false
set_option linter.unusedSimpArgs false
section
namespace Go.Proofs.YteilkbookcmndaaGreatDoor.C
open Go.RowKit Go.Proofs.YteilkbookcmndaaGreatDoor.Q Go.Proofs.YteilkbookcmndaaGreatDoorW.PrintWords Go.Proofs.YteilkbookcmndaaGreatDoorW.PrintLast Go.Proofs.YteilkbookcmndaaGreatDoorW.PrintMore
attribute [local go_sem ↓] rd_at50 wr_at50 al_at50
attribute [local go_sem] rd50_new wr50_new al50
theorem tq {P : Program} {md : Region.Mode} {ops : Array Oper} {Q : Exit → Act → World → Prop} {S : World → Prop} (i d : Nat) {oi : Oper} {v : Value} {fuel : Nat} {listed : Array Bool} {a a' : Act} {w : World}
  (h : wpAnyH P md ops (NoPanic Q) S fuel (listed.setIfInBounds i true) a' w) (hS : S w) (hi : ops.toList[i]? = some oi := by rfl) (hd : oi.dst = some d := by rfl)
  (hc : (Region.noSelect ops && Region.free md ops listed i && (Region.ready md ops listed).contains i) = true := by kernel_rfl) (hw : Region.wanted oi (yielded ops a.tmps) = true := by rfl) (hv : ∀ w, S w → (execOp a.eval oi).run P w = .ok (.value v) w := by intro w hSw; go_simp; try with_reducible rfl)
  (ha : a.put (some d) v = a' := by (try simp only [Act.put, List.setIfInBounds_toArray, List.set_cons_zero, List.set_cons_succ]); exact rfl) : wpAnyH P md ops (NoPanic Q) S (fuel + 1) listed a w := by
 subst ha
 simp only [Bool.and_eq_true] at hc
 exact take_at i d hi hd hc.1.1 hc.1.2 hc.2 (fun _ _ _ h => h) (Or.inl ⟨hw, hv⟩) hS h
theorem tk {P : Program} {md : Region.Mode} {ops : Array Oper} {Q : Exit → Act → World → Prop} {S : World → Prop} (i d : Nat) {oi : Oper} {v : Value} {fuel : Nat} {listed : Array Bool} {a : Act} {w : World} (hi : ops.toList[i]? = some oi) (hd : oi.dst = some d)
  (hc : (Region.noSelect ops && Region.free md ops listed i && (Region.ready md ops listed).contains i) = true) (hw : Region.wanted oi (yielded ops a.tmps) = true) (hv : ∀ w, S w → (execOp a.eval oi).run P w = .ok (.value v) w) (hS : S w)
  (h : wpAnyH P md ops (NoPanic Q) S fuel (listed.setIfInBounds i true) (a.put (some d) v) w) : wpAnyH P md ops (NoPanic Q) S (fuel + 1) listed a w := by
 simp only [Bool.and_eq_true] at hc
 exact take_at i d hi hd hc.1.1 hc.1.2 hc.2 (fun _ _ _ h => h) (Or.inl ⟨hw, hv⟩) hS h
theorem rd_at45 (x : Value) : Instr.loadAt 45 x = rdS 45 x := rd_at 45 x
theorem wr_at45 (x v : Value) : Instr.storeAt 45 x v = wrS 45 x v := wr_at 45 x v
theorem rd45_blk {W : World} {g : Nat} {cs : Array Value} (hg : W.heap[g]? = some (.cells cs 45 (0, 0))) (hi : cs.size = 18) : (rdS 45 (.pointer (some ⟨g, 0, none⟩))).run Tryz.prog W = .ok (.agg cs) W :=
 rd_row _ hg rfl Tryz.underlying45 (by rw [hi]; kernel_rfl)
theorem wr45_blk {W : World} {g : Nat} {old cs : Array Value} (hg : W.heap[g]? = some (.cells old 45 (0, 0))) (ho : old.size = 18) (hi : cs.size = 18) (h1 : cs.all (·.oneCell') = true) : (wrS 45 (.pointer (some ⟨g, 0, none⟩)) (.agg cs)).run Tryz.prog W = .ok () (W.setRow g cs) :=
 wr_row hg (by rw [hi]; kernel_rfl) (by rw [hi, ho]) h1
theorem rd45_new (w : World) (p0 : Int) (p1 : Int) (p2 : Int) (p3 : Int) (p4 : Int) (p5 : Int) (p6 : Int) (p7 : Int) (p8 : Int) (p9 : Int) (p10 : Int) (p11 : Int) (p12 : Int) (p13 : Int) (p14 : Int) (p15 : Int) (p16A : Option Addr) (p16 p16c : Nat) (p17 : Bool) : (rdS 45 (.pointer (some ⟨w.heap.size, 0, none⟩))).run Tryz.prog (w.alloc (.cells #[.int .i64 p0, .int .i64 p1, .int .i64 p2, .int .i64 p3, .int .i64 p4, .int .i64 p5, .int .i64 p6, .int .i64 p7, .int .i64 p8, .int .i64 p9, .int .i64 p10, .int .i64 p11, .int .i64 p12, .int .i64 p13, .int .i64 p14, .int .i64 p15, .slice p16A p16 p16c, .bool p17] 45)) = .ok (.agg #[.int .i64 p0, .int .i64 p1, .int .i64 p2, .int .i64 p3, .int .i64 p4, .int .i64 p5, .int .i64 p6, .int .i64 p7, .int .i64 p8, .int .i64 p9, .int .i64 p10, .int .i64 p11, .int .i64 p12, .int .i64 p13, .int .i64 p14, .int .i64 p15, .slice p16A p16 p16c, .bool p17]) (w.alloc (.cells #[.int .i64 p0, .int .i64 p1, .int .i64 p2, .int .i64 p3, .int .i64 p4, .int .i64 p5, .int .i64 p6, .int .i64 p7, .int .i64 p8, .int .i64 p9, .int .i64 p10, .int .i64 p11, .int .i64 p12, .int .i64 p13, .int .i64 p14, .int .i64 p15, .slice p16A p16 p16c, .bool p17] 45)) :=
 rd_row _ (heap_alloc_last w _) rfl Tryz.underlying45 (by kernel_rfl)
theorem wr45_new (w : World) (p0 : Int) (p1 : Int) (p2 : Int) (p3 : Int) (p4 : Int) (p5 : Int) (p6 : Int) (p7 : Int) (p8 : Int) (p9 : Int) (p10 : Int) (p11 : Int) (p12 : Int) (p13 : Int) (p14 : Int) (p15 : Int) (p16A : Option Addr) (p16 p16c : Nat) (p17 : Bool) (q0 : Int) (q1 : Int) (q2 : Int) (q3 : Int) (q4 : Int) (q5 : Int) (q6 : Int) (q7 : Int) (q8 : Int) (q9 : Int) (q10 : Int) (q11 : Int) (q12 : Int) (q13 : Int) (q14 : Int) (q15 : Int) (q16A : Option Addr) (q16 q16c : Nat) (q17 : Bool) : (wrS 45 (.pointer (some ⟨w.heap.size, 0, none⟩)) (.agg #[.int .i64 q0, .int .i64 q1, .int .i64 q2, .int .i64 q3, .int .i64 q4, .int .i64 q5, .int .i64 q6, .int .i64 q7, .int .i64 q8, .int .i64 q9, .int .i64 q10, .int .i64 q11, .int .i64 q12, .int .i64 q13, .int .i64 q14, .int .i64 q15, .slice q16A q16 q16c, .bool q17])).run Tryz.prog (w.alloc (.cells #[.int .i64 p0, .int .i64 p1, .int .i64 p2, .int .i64 p3, .int .i64 p4, .int .i64 p5, .int .i64 p6, .int .i64 p7, .int .i64 p8, .int .i64 p9, .int .i64 p10, .int .i64 p11, .int .i64 p12, .int .i64 p13, .int .i64 p14, .int .i64 p15, .slice p16A p16 p16c, .bool p17] 45)) = .ok () (w.alloc (.cells #[.int .i64 q0, .int .i64 q1, .int .i64 q2, .int .i64 q3, .int .i64 q4, .int .i64 q5, .int .i64 q6, .int .i64 q7, .int .i64 q8, .int .i64 q9, .int .i64 q10, .int .i64 q11, .int .i64 q12, .int .i64 q13, .int .i64 q14, .int .i64 q15, .slice q16A q16 q16c, .bool q17] 45)) := by
 rw [← wr_at]
 exact run_storeAt_new w 45 #[.int .i64 p0, .int .i64 p1, .int .i64 p2, .int .i64 p3, .int .i64 p4, .int .i64 p5, .int .i64 p6, .int .i64 p7, .int .i64 p8, .int .i64 p9, .int .i64 p10, .int .i64 p11, .int .i64 p12, .int .i64 p13, .int .i64 p14, .int .i64 p15, .slice p16A p16 p16c, .bool p17] #[.int .i64 q0, .int .i64 q1, .int .i64 q2, .int .i64 q3, .int .i64 q4, .int .i64 q5, .int .i64 q6, .int .i64 q7, .int .i64 q8, .int .i64 q9, .int .i64 q10, .int .i64 q11, .int .i64 q12, .int .i64 q13, .int .i64 q14, .int .i64 q15, .slice q16A q16 q16c, .bool q17] (by kernel_rfl) rfl (by simp [Value.oneCell'])
theorem rd_at150 (x : Value) : Instr.loadAt 150 x = rdS 150 x := rd_at 150 x
theorem wr_at150 (x v : Value) : Instr.storeAt 150 x v = wrS 150 x v := wr_at 150 x v
theorem rd150_blk {W : World} {g : Nat} {cs : Array Value} (hg : W.heap[g]? = some (.cells cs 150 (0, 0))) (hi : cs.size = 6) : (rdS 150 (.pointer (some ⟨g, 0, none⟩))).run Tryz.prog W = .ok (.agg cs) W :=
 rd_row _ hg rfl Tryz.underlying150 (by rw [hi]; kernel_rfl)
theorem wr150_blk {W : World} {g : Nat} {old cs : Array Value} (hg : W.heap[g]? = some (.cells old 150 (0, 0))) (ho : old.size = 6) (hi : cs.size = 6) (h1 : cs.all (·.oneCell') = true) : (wrS 150 (.pointer (some ⟨g, 0, none⟩)) (.agg cs)).run Tryz.prog W = .ok () (W.setRow g cs) :=
 wr_row hg (by rw [hi]; kernel_rfl) (by rw [hi, ho]) h1
theorem rd150_new (w : World) (p0A : Option Addr) (p0 p0c : Nat) (p1 : Int) (p2 : Int) (p3 : Int) (p4 : Int) (p5 : Int) : (rdS 150 (.pointer (some ⟨w.heap.size, 0, none⟩))).run Tryz.prog (w.alloc (.cells #[.slice p0A p0 p0c, .int .i64 p1, .int .i64 p2, .int .i64 p3, .int .i64 p4, .int .i64 p5] 150)) = .ok (.agg #[.slice p0A p0 p0c, .int .i64 p1, .int .i64 p2, .int .i64 p3, .int .i64 p4, .int .i64 p5]) (w.alloc (.cells #[.slice p0A p0 p0c, .int .i64 p1, .int .i64 p2, .int .i64 p3, .int .i64 p4, .int .i64 p5] 150)) :=
 rd_row _ (heap_alloc_last w _) rfl Tryz.underlying150 (by kernel_rfl)
theorem wr150_new (w : World) (p0A : Option Addr) (p0 p0c : Nat) (p1 : Int) (p2 : Int) (p3 : Int) (p4 : Int) (p5 : Int) (q0A : Option Addr) (q0 q0c : Nat) (q1 : Int) (q2 : Int) (q3 : Int) (q4 : Int) (q5 : Int) : (wrS 150 (.pointer (some ⟨w.heap.size, 0, none⟩)) (.agg #[.slice q0A q0 q0c, .int .i64 q1, .int .i64 q2, .int .i64 q3, .int .i64 q4, .int .i64 q5])).run Tryz.prog (w.alloc (.cells #[.slice p0A p0 p0c, .int .i64 p1, .int .i64 p2, .int .i64 p3, .int .i64 p4, .int .i64 p5] 150)) = .ok () (w.alloc (.cells #[.slice q0A q0 q0c, .int .i64 q1, .int .i64 q2, .int .i64 q3, .int .i64 q4, .int .i64 q5] 150)) := by
 rw [← wr_at]
 exact run_storeAt_new w 150 #[.slice p0A p0 p0c, .int .i64 p1, .int .i64 p2, .int .i64 p3, .int .i64 p4, .int .i64 p5] #[.slice q0A q0 q0c, .int .i64 q1, .int .i64 q2, .int .i64 q3, .int .i64 q4, .int .i64 q5] (by kernel_rfl) rfl (by simp [Value.oneCell'])
theorem rd_at47b (x : Value) : Instr.loadAt 47 x = rdS 47 x := rd_at 47 x
theorem wr_at47b (x v : Value) : Instr.storeAt 47 x v = wrS 47 x v := wr_at 47 x v
theorem rd47b_blk {W : World} {g : Nat} {cs : Array Value} (hg : W.heap[g]? = some (.cells cs 47 (0, 0))) (hi : cs.size = 19) : (rdS 47 (.pointer (some ⟨g, 0, none⟩))).run Tryz.prog W = .ok (.agg cs) W :=
 rd_row _ hg rfl Tryz.underlying47 (by rw [hi]; kernel_rfl)
theorem wr47b_blk {W : World} {g : Nat} {old cs : Array Value} (hg : W.heap[g]? = some (.cells old 47 (0, 0))) (ho : old.size = 19) (hi : cs.size = 19) (h1 : cs.all (·.oneCell') = true) : (wrS 47 (.pointer (some ⟨g, 0, none⟩)) (.agg cs)).run Tryz.prog W = .ok () (W.setRow g cs) :=
 wr_row hg (by rw [hi]; kernel_rfl) (by rw [hi, ho]) h1
theorem wr47b_new (w : World) (p0A : Option Addr) (p0 p0c : Nat) (p1 : Int) (p2 : Int) (p3 : Int) (p4 : Int) (p5 : Int) (p6 : Int) (p7 : Int) (p8 : Int) (p9 : Int) (p10 : Int) (p11 : Int) (p12 : Int) (p13 : Int) (p14 : Int) (p15 : Int) (p16 : Int) (p17A : Option Addr) (p17 p17c : Nat) (p18 : Bool) (q0A : Option Addr) (q0 q0c : Nat) (q1 : Int) (q2 : Int) (q3 : Int) (q4 : Int) (q5 : Int) (q6 : Int) (q7 : Int) (q8 : Int) (q9 : Int) (q10 : Int) (q11 : Int) (q12 : Int) (q13 : Int) (q14 : Int) (q15 : Int) (q16 : Int) (q17A : Option Addr) (q17 q17c : Nat) (q18 : Bool) : (wrS 47 (.pointer (some ⟨w.heap.size, 0, none⟩)) (.agg #[.slice q0A q0 q0c, .int .i64 q1, .int .i64 q2, .int .i64 q3, .int .i64 q4, .int .i64 q5, .int .i64 q6, .int .i64 q7, .int .i64 q8, .int .i64 q9, .int .i64 q10, .int .i64 q11, .int .i64 q12, .int .i64 q13, .int .i64 q14, .int .i64 q15, .int .i64 q16, .slice q17A q17 q17c, .bool q18])).run Tryz.prog (w.alloc (.cells #[.slice p0A p0 p0c, .int .i64 p1, .int .i64 p2, .int .i64 p3, .int .i64 p4, .int .i64 p5, .int .i64 p6, .int .i64 p7, .int .i64 p8, .int .i64 p9, .int .i64 p10, .int .i64 p11, .int .i64 p12, .int .i64 p13, .int .i64 p14, .int .i64 p15, .int .i64 p16, .slice p17A p17 p17c, .bool p18] 47)) = .ok () (w.alloc (.cells #[.slice q0A q0 q0c, .int .i64 q1, .int .i64 q2, .int .i64 q3, .int .i64 q4, .int .i64 q5, .int .i64 q6, .int .i64 q7, .int .i64 q8, .int .i64 q9, .int .i64 q10, .int .i64 q11, .int .i64 q12, .int .i64 q13, .int .i64 q14, .int .i64 q15, .int .i64 q16, .slice q17A q17 q17c, .bool q18] 47)) := by
 rw [← wr_at]
 exact run_storeAt_new w 47 #[.slice p0A p0 p0c, .int .i64 p1, .int .i64 p2, .int .i64 p3, .int .i64 p4, .int .i64 p5, .int .i64 p6, .int .i64 p7, .int .i64 p8, .int .i64 p9, .int .i64 p10, .int .i64 p11, .int .i64 p12, .int .i64 p13, .int .i64 p14, .int .i64 p15, .int .i64 p16, .slice p17A p17 p17c, .bool p18] #[.slice q0A q0 q0c, .int .i64 q1, .int .i64 q2, .int .i64 q3, .int .i64 q4, .int .i64 q5, .int .i64 q6, .int .i64 q7, .int .i64 q8, .int .i64 q9, .int .i64 q10, .int .i64 q11, .int .i64 q12, .int .i64 q13, .int .i64 q14, .int .i64 q15, .int .i64 q16, .slice q17A q17 q17c, .bool q18] (by kernel_rfl) rfl (by simp [Value.oneCell'])
theorem rd_in {t ty : TypeId} {W : World} {g o k : Nat} {cur : Array Value} {fr : Nat × Nat} (hg : W.heap[g]? = some (.cells cur ty fr)) (hag : ∀ w : World, (isAgg t).run Tryz.prog w = .ok true w) (hsz : ∀ w : World, (sizeOf t).run Tryz.prog w = .ok k w) (ho : o + k ≤ cur.size) : (rdS t (.pointer (some ⟨g, o, none⟩))).run Tryz.prog W = .ok (.agg ((cur.toList.drop o).take k).toArray) W := by
 rw [← rd_at]
 have hl : (loadCellsFrom ⟨g, o, none⟩ 0 k #[]).run Tryz.prog W = .ok ((cur.toList.drop o).take k).toArray W := by
  refine load50 (by rw [List.size_toArray, List.length_take, List.length_drop, Array.length_toList]; omega) fun j v hj => ?_
  rw [List.toList_toArray, List.getElem?_take] at hj
  split at hj
  ·rename_i hjk
   rw [List.getElem?_drop] at hj
   have := cell_of_row W g (o + j) cur ty fr hg
   have h3 : Addr.add ⟨g, o, none⟩ j = ⟨g, o + j, none⟩ := by unfold Addr.add; split <;> simp_all
   rw [h3, this, ← hj, Array.getElem?_toList]
  ·simp at hj
 simp only [Instr.loadAt, Instr.sureAddr, Sem.run_bind, Sem.run_pure, Result.andThen, loadVar, hag W, hsz W, if_true, loadCells, hl]
set_option maxHeartbeats 16000000 in
set_option maxRecDepth 1000000 in
theorem sg3 (gm k tl c nb cb : Nat) (A : Option Addr) (bd : Addr) (u p : ByteArray) (a : S41) (ke : Int) (nd : S50) (u2 u3 u4 u5 u6 u7 u8 u9 u10 u11 u12 u13 u14 u15 u16 u17 u18 u19 u20 u21 u22 u23 u24 u25 u26 u27 u28 u29 u30 u31 u32 u33 u34 u35 u36 u37 u38 u39 u40 u41 u42 u43 u44 u45 u46 u47 u48 u49 u50 u51 u52 u53 u54 u55 u56 u57 u58 u59 u60 u61 u62 u63 u64 u65 u66 u67 u68 u69 u70 u71 u72 u73 u74 u75 u76 u77 u78 u79 u80 u81 u82 u83 u84 u85 u86 u87 u88 u89 u90 : Value) (W : World) (Q : Exit → Act → World → Prop)
  (hm : W.heap[gm]? = some (.cells #[.slice A tl c, .string u, .int .i64 a.f0, .int .i64 a.f1, .int .i64 a.f2, .int .i64 a.f3, .slice (some bd) nb cb] 105 (0, 0))) (hp : W.cell? (bd.add k) = some (.string p)) (hk : k < nb) (hnb : nb ≤ cb)
  (hS : ∀ w1 : World, Below W.heap.size W w1 → Calls Tryz.prog 35 #[.slice A tl c, .agg #[.string u, .int .i64 a.f0, .int .i64 a.f1, .int .i64 a.f2, .int .i64 a.f3], .string p] w1 fun e w' => ∃ A6 c6 A11 c11, e = .returned (.tuple #[.agg #[.string nd.f0, .bool nd.f1, .int .i64 nd.f2.f0, .int .i64 nd.f2.f1, .int .i64 nd.f2.f2, .int .i64 nd.f2.f3, .slice A6 nd.f3.length c6, .int .i64 nd.f4.f0, .int .i64 nd.f4.f1, .int .i64 nd.f4.f2, .int .i64 nd.f4.f3, .slice A11 nd.f5.length c11, .int .i64 nd.f6.f0, .int .i64 nd.f6.f1, .int .i64 nd.f6.f2, .int .i64 nd.f6.f3], .int .i64 ke]) ∧ k50.FK w' (fun k => w1.heap.size ≤ k) nd [.string nd.f0, .bool nd.f1, .int .i64 nd.f2.f0, .int .i64 nd.f2.f1, .int .i64 nd.f2.f2, .int .i64 nd.f2.f3, .slice A6 nd.f3.length c6, .int .i64 nd.f4.f0, .int .i64 nd.f4.f1, .int .i64 nd.f4.f2, .int .i64 nd.f4.f3, .slice A11 nd.f5.length c11, .int .i64 nd.f6.f0, .int .i64 nd.f6.f1, .int .i64 nd.f6.f2, .int .i64 nd.f6.f3] ∧ Below w1.heap.size w1 w')
  (hpost : ∀ (g : Nat) (w' : World) (A6 : Option Addr) (c6 : Nat) (A11 : Option Addr) (c11 : Nat) (t25 t26 t27 t28 t29 t30 t31 t32 t33 t34 t35 t36 t37 t38 t39 t40 t41 t42 t43 : Value), k50.FK w' (fun k => k ≠ g ∧ W.heap.size ≤ k) nd [.string nd.f0, .bool nd.f1, .int .i64 nd.f2.f0, .int .i64 nd.f2.f1, .int .i64 nd.f2.f2, .int .i64 nd.f2.f3, .slice A6 nd.f3.length c6, .int .i64 nd.f4.f0, .int .i64 nd.f4.f1, .int .i64 nd.f4.f2, .int .i64 nd.f4.f3, .slice A11 nd.f5.length c11, .int .i64 nd.f6.f0, .int .i64 nd.f6.f1, .int .i64 nd.f6.f2, .int .i64 nd.f6.f3] → w'.heap[g]? = some (.cells #[.string nd.f0, .bool nd.f1, .int .i64 nd.f2.f0, .int .i64 nd.f2.f1, .int .i64 nd.f2.f2, .int .i64 nd.f2.f3, .slice A6 nd.f3.length c6, .int .i64 nd.f4.f0, .int .i64 nd.f4.f1, .int .i64 nd.f4.f2, .int .i64 nd.f4.f3, .slice A11 nd.f5.length c11, .int .i64 nd.f6.f0, .int .i64 nd.f6.f1, .int .i64 nd.f6.f2, .int .i64 nd.f6.f3] 36 (0, 0)) → W.heap.size ≤ g → Below W.heap.size W w' → Q .normal ⟨#[.pointer (some ⟨gm, 0, none⟩), .int .i64 (k : Int), u2, u3, u4, u5, .pointer (some ⟨g, 0, none⟩), .int .i64 ke, u8, u9, u10, u11, u12, u13, u14, u15, u16, u17, u18, u19, u20, u21, u22, u23, u24, t25, t26, t27, t28, t29, t30, t31, t32, t33, t34, t35, t36, t37, t38, t39, t40, t41, t42, t43, u44, u45, u46, u47, u48, u49, u50, u51, u52, u53, u54, u55, u56, u57, u58, u59, u60, u61, u62, u63, u64, u65, u66, u67, u68, u69, u70, u71, u72, u73, u74, u75, u76, u77, u78, u79, u80, u81, u82, u83, u84, u85, u86, u87, u88, u89, u90], []⟩ w') :
  Code.wp Tryz.prog (cReg Tryz.f148 3) Q ⟨#[.pointer (some ⟨gm, 0, none⟩), .int .i64 (k : Int), u2, u3, u4, u5, u6, u7, u8, u9, u10, u11, u12, u13, u14, u15, u16, u17, u18, u19, u20, u21, u22, u23, u24, u25, u26, u27, u28, u29, u30, u31, u32, u33, u34, u35, u36, u37, u38, u39, u40, u41, u42, u43, u44, u45, u46, u47, u48, u49, u50, u51, u52, u53, u54, u55, u56, u57, u58, u59, u60, u61, u62, u63, u64, u65, u66, u67, u68, u69, u70, u71, u72, u73, u74, u75, u76, u77, u78, u79, u80, u81, u82, u83, u84, u85, u86, u87, u88, u89, u90], []⟩ W := by
 have EM := Lib.hid hm
 have EP := Lib.hid hp
 have HSE := Lib.hid hS
 have HPO := Lib.hid hpost
 clear hm hp hS hpost
 have HB := Lib.hid (below_drew1 (Below.refl W.heap.size W))
 conv => arg 2; whnf
 refine wp_region_noPanic ?_
 refine wp_region_held_drew (S := fun W1 => W1.cell? ⟨gm, 0, none⟩ = some (.slice A tl c) ∧ W1.cell? ⟨gm, 1, none⟩ = some (.string u) ∧ W1.cell? ⟨gm, 2, none⟩ = some (.int .i64 a.f0) ∧ W1.cell? ⟨gm, 3, none⟩ = some (.int .i64 a.f1) ∧ W1.cell? ⟨gm, 4, none⟩ = some (.int .i64 a.f2) ∧ W1.cell? ⟨gm, 5, none⟩ = some (.int .i64 a.f3) ∧ W1.cell? ⟨gm, 6, none⟩ = some (.slice (some bd) nb cb) ∧ W1.cell? (bd.add k) = some (.string p)) (by kernel_rfl) ?_ (fun hHeld => ?_)
 focus ((try dsimp only); exact ⟨(blk_cell (blk_below EM.out HB.out) 0).trans rfl, (blk_cell (blk_below EM.out HB.out) 1).trans rfl, (blk_cell (blk_below EM.out HB.out) 2).trans rfl, (blk_cell (blk_below EM.out HB.out) 3).trans rfl, (blk_cell (blk_below EM.out HB.out) 4).trans rfl, (blk_cell (blk_below EM.out HB.out) 5).trans rfl, (blk_cell (blk_below EM.out HB.out) 6).trans rfl, pw_cell_below HB.out EP.out⟩)
 refine tq 0 26 ?_ (by assumption)
 refine tq 1 27 ?_ (by assumption)
 refine tq 2 28 ?_ (by assumption)
 refine tq 3 29 ?_ (by assumption)
 refine tq 4 30 ?_ (by assumption)
 refine tq 5 31 ?_ (by assumption)
 refine tq 6 32 ?_ (by assumption)
 refine tq 7 33 ?_ (by assumption)
 refine tq 8 34 ?_ (by assumption)
 refine tq 9 35 ?_ (by assumption)
 refine tq 10 36 ?_ (by assumption)
 refine tq 11 37 ?_ (by assumption)
 refine tq 12 38 ?_ (by assumption)
 refine tq 13 39 ?_ (by assumption)
 refine tq 14 40 ?_ (by assumption)
 refine wpAnyH_ready (rs := [15, 19]) (by kernel_rfl) (by simp) ?_
 refine AllReadyH.cons rfl (fun K hK => ?_) ?_
 ·go_simp
  go_wp2_with (go_at_call 35; go_loud (refine (HSE.out _ HB.out).mono ?_; rintro e wa ⟨A6, c6, A11, c11, rfl, hK, hb⟩; have HFK := Lib.hid hK; have HB := Lib.hid (below_step HB.out hb); clear hb hK))
  refine hK.out _ _ ?_ (fun hHeld => ?_)
  focus ((try dsimp only); exact ⟨(blk_cell (blk_below EM.out HB.out) 0).trans rfl, (blk_cell (blk_below EM.out HB.out) 1).trans rfl, (blk_cell (blk_below EM.out HB.out) 2).trans rfl, (blk_cell (blk_below EM.out HB.out) 3).trans rfl, (blk_cell (blk_below EM.out HB.out) 4).trans rfl, (blk_cell (blk_below EM.out HB.out) 5).trans rfl, (blk_cell (blk_below EM.out HB.out) 6).trans rfl, pw_cell_below HB.out EP.out⟩)
  clear hK K
  refine tq 16 25 ?_ (by assumption)
  refine tq 17 42 ?_ (by assumption)
  refine tq 18 43 ?_ (by assumption)
  refine wpAnyH_ready (rs := [19]) (by kernel_rfl) (by simp) ?_
  refine AllReadyH.cons rfl (fun K hK => ?_) ?_
  ·have EZ := Lib.hid (show (World.alloc wa (.cells #[.string (⟨#[]⟩ : ByteArray), .bool false, .int .i64 0, .int .i64 0, .int .i64 0, .int .i64 0, .slice none 0 0, .int .i64 0, .int .i64 0, .int .i64 0, .int .i64 0, .slice none 0 0, .int .i64 0, .int .i64 0, .int .i64 0, .int .i64 0] 36)).heap[wa.heap.size]? = some (.cells #[.string (⟨#[]⟩ : ByteArray), .bool false, .int .i64 0, .int .i64 0, .int .i64 0, .int .i64 0, .slice none 0 0, .int .i64 0, .int .i64 0, .int .i64 0, .int .i64 0, .slice none 0 0, .int .i64 0, .int .i64 0, .int .i64 0, .int .i64 0] 36) from blk_new wa (.cells #[.string (⟨#[]⟩ : ByteArray), .bool false, .int .i64 0, .int .i64 0, .int .i64 0, .int .i64 0, .slice none 0 0, .int .i64 0, .int .i64 0, .int .i64 0, .int .i64 0, .slice none 0 0, .int .i64 0, .int .i64 0, .int .i64 0, .int .i64 0] 36))
   have HZ := Lib.hid (show W.heap.size ≤ wa.heap.size from (by first | exact Nat.le_refl _ | exact below_size HB.out))
   have HFK := Lib.hid (Kd.FK_mono (Kd.FK_below (Kd.FK_bound HFK.out) (below_alloc (Below.refl _ _) (.cells #[.string (⟨#[]⟩ : ByteArray), .bool false, .int .i64 0, .int .i64 0, .int .i64 0, .int .i64 0, .slice none 0 0, .int .i64 0, .int .i64 0, .int .i64 0, .int .i64 0, .slice none 0 0, .int .i64 0, .int .i64 0, .int .i64 0, .int .i64 0] 36))) (ok' := fun k => k ≠ wa.heap.size ∧ W.heap.size ≤ k) (fun k hk => by have h2 := hk.2; have h1 : W.heap.size ≤ k := hk.1; omega))
   have HB := Lib.hid (below_alloc HB.out (.cells #[.string (⟨#[]⟩ : ByteArray), .bool false, .int .i64 0, .int .i64 0, .int .i64 0, .int .i64 0, .slice none 0 0, .int .i64 0, .int .i64 0, .int .i64 0, .int .i64 0, .slice none 0 0, .int .i64 0, .int .i64 0, .int .i64 0, .int .i64 0] 36))
   go_simp
   refine hK.out _ _ ?_ (fun hHeld => ?_)
   focus ((try dsimp only); exact ⟨(blk_cell (blk_below EM.out HB.out) 0).trans rfl, (blk_cell (blk_below EM.out HB.out) 1).trans rfl, (blk_cell (blk_below EM.out HB.out) 2).trans rfl, (blk_cell (blk_below EM.out HB.out) 3).trans rfl, (blk_cell (blk_below EM.out HB.out) 4).trans rfl, (blk_cell (blk_below EM.out HB.out) 5).trans rfl, (blk_cell (blk_below EM.out HB.out) 6).trans rfl, pw_cell_below HB.out EP.out⟩)
   clear hK K
   refine wpAnyH_ready (rs := [20]) (by kernel_rfl) (by simp) ?_
   refine AllReadyH.cons rfl (fun K hK => ?_) ?_
   ·have hst := wr50_blk (cs := #[.string nd.f0, .bool nd.f1, .int .i64 nd.f2.f0, .int .i64 nd.f2.f1, .int .i64 nd.f2.f2, .int .i64 nd.f2.f3, .slice A6 nd.f3.length c6, .int .i64 nd.f4.f0, .int .i64 nd.f4.f1, .int .i64 nd.f4.f2, .int .i64 nd.f4.f3, .slice A11 nd.f5.length c11, .int .i64 nd.f6.f0, .int .i64 nd.f6.f1, .int .i64 nd.f6.f2, .int .i64 nd.f6.f3]) EZ.out rfl rfl (by simp [Value.oneCell'])
    have EX := Lib.hid (setRow_heap _ _ _ (#[.string nd.f0, .bool nd.f1, .int .i64 nd.f2.f0, .int .i64 nd.f2.f1, .int .i64 nd.f2.f2, .int .i64 nd.f2.f3, .slice A6 nd.f3.length c6, .int .i64 nd.f4.f0, .int .i64 nd.f4.f1, .int .i64 nd.f4.f2, .int .i64 nd.f4.f3, .slice A11 nd.f5.length c11, .int .i64 nd.f6.f0, .int .i64 nd.f6.f1, .int .i64 nd.f6.f2, .int .i64 nd.f6.f3] : Array Value) _ _ EZ.out)
    have HFK := Lib.hid (Kd.FK_step (W1 := World.setRow _ _ (#[.string nd.f0, .bool nd.f1, .int .i64 nd.f2.f0, .int .i64 nd.f2.f1, .int .i64 nd.f2.f2, .int .i64 nd.f2.f3, .slice A6 nd.f3.length c6, .int .i64 nd.f4.f0, .int .i64 nd.f4.f1, .int .i64 nd.f4.f2, .int .i64 nd.f4.f3, .slice A11 nd.f5.length c11, .int .i64 nd.f6.f0, .int .i64 nd.f6.f1, .int .i64 nd.f6.f2, .int .i64 nd.f6.f3] : Array Value)) HFK.out (fun k hk hlt => setRow_other _ _ k _ hk.1))
    have HB := Lib.hid (below_setRow HB.out HZ.out (#[.string nd.f0, .bool nd.f1, .int .i64 nd.f2.f0, .int .i64 nd.f2.f1, .int .i64 nd.f2.f2, .int .i64 nd.f2.f3, .slice A6 nd.f3.length c6, .int .i64 nd.f4.f0, .int .i64 nd.f4.f1, .int .i64 nd.f4.f2, .int .i64 nd.f4.f3, .slice A11 nd.f5.length c11, .int .i64 nd.f6.f0, .int .i64 nd.f6.f1, .int .i64 nd.f6.f2, .int .i64 nd.f6.f3] : Array Value))
    go_simp
    refine hK.out _ _ ?_ (fun hHeld => ?_)
    focus ((try dsimp only); exact ⟨(blk_cell (blk_below EM.out HB.out) 0).trans rfl, (blk_cell (blk_below EM.out HB.out) 1).trans rfl, (blk_cell (blk_below EM.out HB.out) 2).trans rfl, (blk_cell (blk_below EM.out HB.out) 3).trans rfl, (blk_cell (blk_below EM.out HB.out) 4).trans rfl, (blk_cell (blk_below EM.out HB.out) 5).trans rfl, (blk_cell (blk_below EM.out HB.out) 6).trans rfl, pw_cell_below HB.out EP.out⟩)
    clear hK K
    refine tq 21 7 ?_ (by assumption)
    refine wpAnyH_done (by kernel_rfl) ?_ _
    refine NoPanic.normal ?_
    exact HPO.out _ _ A6 c6 A11 c11 _ _ _ _ _ _ _ _ _ _ _ _ _ _ _ _ _ _ _ HFK.out EX.out HZ.out HB.out
   exact AllReadyH.nil
  exact AllReadyH.nil
 refine AllReadyH.cons rfl (fun K hK => ?_) ?_
 ·have EZ := Lib.hid (show (World.alloc W.drew (.cells #[.string (⟨#[]⟩ : ByteArray), .bool false, .int .i64 0, .int .i64 0, .int .i64 0, .int .i64 0, .slice none 0 0, .int .i64 0, .int .i64 0, .int .i64 0, .int .i64 0, .slice none 0 0, .int .i64 0, .int .i64 0, .int .i64 0, .int .i64 0] 36)).heap[W.heap.size]? = some (.cells #[.string (⟨#[]⟩ : ByteArray), .bool false, .int .i64 0, .int .i64 0, .int .i64 0, .int .i64 0, .slice none 0 0, .int .i64 0, .int .i64 0, .int .i64 0, .int .i64 0, .slice none 0 0, .int .i64 0, .int .i64 0, .int .i64 0, .int .i64 0] 36) from blk_new W.drew (.cells #[.string (⟨#[]⟩ : ByteArray), .bool false, .int .i64 0, .int .i64 0, .int .i64 0, .int .i64 0, .slice none 0 0, .int .i64 0, .int .i64 0, .int .i64 0, .int .i64 0, .slice none 0 0, .int .i64 0, .int .i64 0, .int .i64 0, .int .i64 0] 36))
  have HZ := Lib.hid (show W.heap.size ≤ W.heap.size from (by first | exact Nat.le_refl _ | exact below_size HB.out))
  have HB := Lib.hid (below_alloc HB.out (.cells #[.string (⟨#[]⟩ : ByteArray), .bool false, .int .i64 0, .int .i64 0, .int .i64 0, .int .i64 0, .slice none 0 0, .int .i64 0, .int .i64 0, .int .i64 0, .int .i64 0, .slice none 0 0, .int .i64 0, .int .i64 0, .int .i64 0, .int .i64 0] 36))
  go_simp
  refine hK.out _ _ ?_ (fun hHeld => ?_)
  focus ((try dsimp only); exact ⟨(blk_cell (blk_below EM.out HB.out) 0).trans rfl, (blk_cell (blk_below EM.out HB.out) 1).trans rfl, (blk_cell (blk_below EM.out HB.out) 2).trans rfl, (blk_cell (blk_below EM.out HB.out) 3).trans rfl, (blk_cell (blk_below EM.out HB.out) 4).trans rfl, (blk_cell (blk_below EM.out HB.out) 5).trans rfl, (blk_cell (blk_below EM.out HB.out) 6).trans rfl, pw_cell_below HB.out EP.out⟩)
  clear hK K
  refine wpAnyH_ready (rs := [15]) (by kernel_rfl) (by simp) ?_
  refine AllReadyH.cons rfl (fun K hK => ?_) ?_
  ·go_simp
   go_wp2_with (go_at_call 35; go_loud (refine (HSE.out _ HB.out).mono ?_; rintro e wa ⟨A6, c6, A11, c11, rfl, hK, hb⟩; have HFK := Lib.hid (Kd.FK_mono hK (ok' := fun k => k ≠ W.heap.size ∧ W.heap.size ≤ k) (fun k hk => by rw [World.size_alloc] at hk; have hk' : W.heap.size + 1 ≤ k := hk; omega)); have HB := Lib.hid (below_step HB.out hb); have EZ := Lib.hid (blk_below EZ.out hb); clear hb hK))
   refine hK.out _ _ ?_ (fun hHeld => ?_)
   focus ((try dsimp only); exact ⟨(blk_cell (blk_below EM.out HB.out) 0).trans rfl, (blk_cell (blk_below EM.out HB.out) 1).trans rfl, (blk_cell (blk_below EM.out HB.out) 2).trans rfl, (blk_cell (blk_below EM.out HB.out) 3).trans rfl, (blk_cell (blk_below EM.out HB.out) 4).trans rfl, (blk_cell (blk_below EM.out HB.out) 5).trans rfl, (blk_cell (blk_below EM.out HB.out) 6).trans rfl, pw_cell_below HB.out EP.out⟩)
   clear hK K
   refine tq 16 25 ?_ (by assumption)
   refine tq 17 42 ?_ (by assumption)
   refine tq 18 43 ?_ (by assumption)
   refine wpAnyH_ready (rs := [20]) (by kernel_rfl) (by simp) ?_
   refine AllReadyH.cons rfl (fun K hK => ?_) ?_
   ·have hst := wr50_blk (cs := #[.string nd.f0, .bool nd.f1, .int .i64 nd.f2.f0, .int .i64 nd.f2.f1, .int .i64 nd.f2.f2, .int .i64 nd.f2.f3, .slice A6 nd.f3.length c6, .int .i64 nd.f4.f0, .int .i64 nd.f4.f1, .int .i64 nd.f4.f2, .int .i64 nd.f4.f3, .slice A11 nd.f5.length c11, .int .i64 nd.f6.f0, .int .i64 nd.f6.f1, .int .i64 nd.f6.f2, .int .i64 nd.f6.f3]) EZ.out rfl rfl (by simp [Value.oneCell'])
    have EX := Lib.hid (setRow_heap _ _ _ (#[.string nd.f0, .bool nd.f1, .int .i64 nd.f2.f0, .int .i64 nd.f2.f1, .int .i64 nd.f2.f2, .int .i64 nd.f2.f3, .slice A6 nd.f3.length c6, .int .i64 nd.f4.f0, .int .i64 nd.f4.f1, .int .i64 nd.f4.f2, .int .i64 nd.f4.f3, .slice A11 nd.f5.length c11, .int .i64 nd.f6.f0, .int .i64 nd.f6.f1, .int .i64 nd.f6.f2, .int .i64 nd.f6.f3] : Array Value) _ _ EZ.out)
    have HFK := Lib.hid (Kd.FK_step (W1 := World.setRow _ _ (#[.string nd.f0, .bool nd.f1, .int .i64 nd.f2.f0, .int .i64 nd.f2.f1, .int .i64 nd.f2.f2, .int .i64 nd.f2.f3, .slice A6 nd.f3.length c6, .int .i64 nd.f4.f0, .int .i64 nd.f4.f1, .int .i64 nd.f4.f2, .int .i64 nd.f4.f3, .slice A11 nd.f5.length c11, .int .i64 nd.f6.f0, .int .i64 nd.f6.f1, .int .i64 nd.f6.f2, .int .i64 nd.f6.f3] : Array Value)) HFK.out (fun k hk hlt => setRow_other _ _ k _ hk.1))
    have HB := Lib.hid (below_setRow HB.out HZ.out (#[.string nd.f0, .bool nd.f1, .int .i64 nd.f2.f0, .int .i64 nd.f2.f1, .int .i64 nd.f2.f2, .int .i64 nd.f2.f3, .slice A6 nd.f3.length c6, .int .i64 nd.f4.f0, .int .i64 nd.f4.f1, .int .i64 nd.f4.f2, .int .i64 nd.f4.f3, .slice A11 nd.f5.length c11, .int .i64 nd.f6.f0, .int .i64 nd.f6.f1, .int .i64 nd.f6.f2, .int .i64 nd.f6.f3] : Array Value))
    go_simp
    refine hK.out _ _ ?_ (fun hHeld => ?_)
    focus ((try dsimp only); exact ⟨(blk_cell (blk_below EM.out HB.out) 0).trans rfl, (blk_cell (blk_below EM.out HB.out) 1).trans rfl, (blk_cell (blk_below EM.out HB.out) 2).trans rfl, (blk_cell (blk_below EM.out HB.out) 3).trans rfl, (blk_cell (blk_below EM.out HB.out) 4).trans rfl, (blk_cell (blk_below EM.out HB.out) 5).trans rfl, (blk_cell (blk_below EM.out HB.out) 6).trans rfl, pw_cell_below HB.out EP.out⟩)
    clear hK K
    refine tq 21 7 ?_ (by assumption)
    refine wpAnyH_done (by kernel_rfl) ?_ _
    refine NoPanic.normal ?_
    exact HPO.out _ _ A6 c6 A11 c11 _ _ _ _ _ _ _ _ _ _ _ _ _ _ _ _ _ _ _ HFK.out EX.out HZ.out HB.out
   exact AllReadyH.nil
  exact AllReadyH.nil
 exact AllReadyH.nil
set_option maxHeartbeats 16000000 in
set_option maxRecDepth 1000000 in
theorem sg10 (gm k tl c nb cb : Nat) (A : Option Addr) (bd : Addr) (u p : ByteArray) (a : S41) (md ke : Int) (nd : S50) (u2 u3 u4 u5 u6 u7 u8 u9 u11 u12 u13 u14 u15 u16 u17 u18 u19 u20 u21 u22 u23 u24 u25 u26 u27 u28 u29 u30 u31 u32 u33 u34 u35 u36 u37 u38 u39 u40 u41 u42 u43 u44 u45 u46 u47 u48 u49 u50 u51 u52 u53 u54 u55 u56 u57 u58 u59 u60 u61 u62 u63 u64 u65 u66 u67 u68 u69 u70 u71 u72 u73 u74 u75 u76 u77 u78 u79 u80 u81 u82 u83 u84 u85 u86 u87 u88 u89 u90 : Value) (W : World) (Q : Exit → Act → World → Prop)
  (hm : W.heap[gm]? = some (.cells #[.slice A tl c, .string u, .int .i64 a.f0, .int .i64 a.f1, .int .i64 a.f2, .int .i64 a.f3, .slice (some bd) nb cb] 105 (0, 0))) (hp : W.cell? (bd.add k) = some (.string p)) (hk : k < nb) (hnb : nb ≤ cb)
  (hS : ∀ w1 : World, Below W.heap.size W w1 → Calls Tryz.prog 19 #[.slice A tl c, .agg #[.string u, .int .i64 a.f0, .int .i64 a.f1, .int .i64 a.f2, .int .i64 a.f3], .string p, .int .i64 md] w1 fun e w' => ∃ A6 c6 A11 c11, e = .returned (.tuple #[.agg #[.string nd.f0, .bool nd.f1, .int .i64 nd.f2.f0, .int .i64 nd.f2.f1, .int .i64 nd.f2.f2, .int .i64 nd.f2.f3, .slice A6 nd.f3.length c6, .int .i64 nd.f4.f0, .int .i64 nd.f4.f1, .int .i64 nd.f4.f2, .int .i64 nd.f4.f3, .slice A11 nd.f5.length c11, .int .i64 nd.f6.f0, .int .i64 nd.f6.f1, .int .i64 nd.f6.f2, .int .i64 nd.f6.f3], .int .i64 ke]) ∧ k50.FK w' (fun k => w1.heap.size ≤ k) nd [.string nd.f0, .bool nd.f1, .int .i64 nd.f2.f0, .int .i64 nd.f2.f1, .int .i64 nd.f2.f2, .int .i64 nd.f2.f3, .slice A6 nd.f3.length c6, .int .i64 nd.f4.f0, .int .i64 nd.f4.f1, .int .i64 nd.f4.f2, .int .i64 nd.f4.f3, .slice A11 nd.f5.length c11, .int .i64 nd.f6.f0, .int .i64 nd.f6.f1, .int .i64 nd.f6.f2, .int .i64 nd.f6.f3] ∧ Below w1.heap.size w1 w')
  (hpost : ∀ (g : Nat) (w' : World) (A6 : Option Addr) (c6 : Nat) (A11 : Option Addr) (c11 : Nat) (t62 t63 t64 t65 t66 t67 t68 t69 t70 t71 t72 t73 t74 t75 t76 t77 t78 t79 t80 t81 : Value), k50.FK w' (fun k => k ≠ g ∧ W.heap.size ≤ k) nd [.string nd.f0, .bool nd.f1, .int .i64 nd.f2.f0, .int .i64 nd.f2.f1, .int .i64 nd.f2.f2, .int .i64 nd.f2.f3, .slice A6 nd.f3.length c6, .int .i64 nd.f4.f0, .int .i64 nd.f4.f1, .int .i64 nd.f4.f2, .int .i64 nd.f4.f3, .slice A11 nd.f5.length c11, .int .i64 nd.f6.f0, .int .i64 nd.f6.f1, .int .i64 nd.f6.f2, .int .i64 nd.f6.f3] → w'.heap[g]? = some (.cells #[.string nd.f0, .bool nd.f1, .int .i64 nd.f2.f0, .int .i64 nd.f2.f1, .int .i64 nd.f2.f2, .int .i64 nd.f2.f3, .slice A6 nd.f3.length c6, .int .i64 nd.f4.f0, .int .i64 nd.f4.f1, .int .i64 nd.f4.f2, .int .i64 nd.f4.f3, .slice A11 nd.f5.length c11, .int .i64 nd.f6.f0, .int .i64 nd.f6.f1, .int .i64 nd.f6.f2, .int .i64 nd.f6.f3] 36 (0, 0)) → W.heap.size ≤ g → Below W.heap.size W w' → Q .normal ⟨#[.pointer (some ⟨gm, 0, none⟩), .int .i64 (k : Int), u2, u3, u4, u5, u6, u7, u8, u9, .int .i64 md, .pointer (some ⟨g, 0, none⟩), .int .i64 ke, u13, u14, u15, u16, u17, u18, u19, u20, u21, u22, u23, u24, u25, u26, u27, u28, u29, u30, u31, u32, u33, u34, u35, u36, u37, u38, u39, u40, u41, u42, u43, u44, u45, u46, u47, u48, u49, u50, u51, u52, u53, u54, u55, u56, u57, u58, u59, u60, u61, t62, t63, t64, t65, t66, t67, t68, t69, t70, t71, t72, t73, t74, t75, t76, t77, t78, t79, t80, t81, u82, u83, u84, u85, u86, u87, u88, u89, u90], []⟩ w') :
  Code.wp Tryz.prog (cReg Tryz.f148 10) Q ⟨#[.pointer (some ⟨gm, 0, none⟩), .int .i64 (k : Int), u2, u3, u4, u5, u6, u7, u8, u9, .int .i64 md, u11, u12, u13, u14, u15, u16, u17, u18, u19, u20, u21, u22, u23, u24, u25, u26, u27, u28, u29, u30, u31, u32, u33, u34, u35, u36, u37, u38, u39, u40, u41, u42, u43, u44, u45, u46, u47, u48, u49, u50, u51, u52, u53, u54, u55, u56, u57, u58, u59, u60, u61, u62, u63, u64, u65, u66, u67, u68, u69, u70, u71, u72, u73, u74, u75, u76, u77, u78, u79, u80, u81, u82, u83, u84, u85, u86, u87, u88, u89, u90], []⟩ W := by
 have EM := Lib.hid hm
 have EP := Lib.hid hp
 have HSE := Lib.hid hS
 have HPO := Lib.hid hpost
 clear hm hp hS hpost
 have HB := Lib.hid (below_drew1 (Below.refl W.heap.size W))
 conv => arg 2; whnf
 refine wp_region_noPanic ?_
 refine wp_region_held_drew (S := fun W1 => W1.cell? ⟨gm, 0, none⟩ = some (.slice A tl c) ∧ W1.cell? ⟨gm, 1, none⟩ = some (.string u) ∧ W1.cell? ⟨gm, 2, none⟩ = some (.int .i64 a.f0) ∧ W1.cell? ⟨gm, 3, none⟩ = some (.int .i64 a.f1) ∧ W1.cell? ⟨gm, 4, none⟩ = some (.int .i64 a.f2) ∧ W1.cell? ⟨gm, 5, none⟩ = some (.int .i64 a.f3) ∧ W1.cell? ⟨gm, 6, none⟩ = some (.slice (some bd) nb cb) ∧ W1.cell? (bd.add k) = some (.string p)) (by kernel_rfl) ?_ (fun hHeld => ?_)
 focus ((try dsimp only); exact ⟨(blk_cell (blk_below EM.out HB.out) 0).trans rfl, (blk_cell (blk_below EM.out HB.out) 1).trans rfl, (blk_cell (blk_below EM.out HB.out) 2).trans rfl, (blk_cell (blk_below EM.out HB.out) 3).trans rfl, (blk_cell (blk_below EM.out HB.out) 4).trans rfl, (blk_cell (blk_below EM.out HB.out) 5).trans rfl, (blk_cell (blk_below EM.out HB.out) 6).trans rfl, pw_cell_below HB.out EP.out⟩)
 refine tq 0 63 ?_ (by assumption)
 refine tq 1 64 ?_ (by assumption)
 refine tq 2 65 ?_ (by assumption)
 refine tq 3 66 ?_ (by assumption)
 refine tq 4 67 ?_ (by assumption)
 refine tq 5 68 ?_ (by assumption)
 refine tq 6 69 ?_ (by assumption)
 refine tq 7 70 ?_ (by assumption)
 refine tq 8 71 ?_ (by assumption)
 refine tq 9 72 ?_ (by assumption)
 refine tq 10 73 ?_ (by assumption)
 refine tq 11 74 ?_ (by assumption)
 refine tq 12 75 ?_ (by assumption)
 refine tq 13 76 ?_ (by assumption)
 refine tq 14 77 ?_ (by assumption)
 refine tq 15 78 ?_ (by assumption)
 refine wpAnyH_ready (rs := [16, 20]) (by kernel_rfl) (by simp) ?_
 refine AllReadyH.cons rfl (fun K hK => ?_) ?_
 ·go_simp
  go_wp2_with (go_at_call 19; go_loud (refine (HSE.out _ HB.out).mono ?_; rintro e wa ⟨A6, c6, A11, c11, rfl, hK, hb⟩; have HFK := Lib.hid hK; have HB := Lib.hid (below_step HB.out hb); clear hb hK))
  refine hK.out _ _ ?_ (fun hHeld => ?_)
  focus ((try dsimp only); exact ⟨(blk_cell (blk_below EM.out HB.out) 0).trans rfl, (blk_cell (blk_below EM.out HB.out) 1).trans rfl, (blk_cell (blk_below EM.out HB.out) 2).trans rfl, (blk_cell (blk_below EM.out HB.out) 3).trans rfl, (blk_cell (blk_below EM.out HB.out) 4).trans rfl, (blk_cell (blk_below EM.out HB.out) 5).trans rfl, (blk_cell (blk_below EM.out HB.out) 6).trans rfl, pw_cell_below HB.out EP.out⟩)
  clear hK K
  refine tq 17 62 ?_ (by assumption)
  refine tq 18 80 ?_ (by assumption)
  refine tq 19 81 ?_ (by assumption)
  refine wpAnyH_ready (rs := [20]) (by kernel_rfl) (by simp) ?_
  refine AllReadyH.cons rfl (fun K hK => ?_) ?_
  ·have EZ := Lib.hid (show (World.alloc wa (.cells #[.string (⟨#[]⟩ : ByteArray), .bool false, .int .i64 0, .int .i64 0, .int .i64 0, .int .i64 0, .slice none 0 0, .int .i64 0, .int .i64 0, .int .i64 0, .int .i64 0, .slice none 0 0, .int .i64 0, .int .i64 0, .int .i64 0, .int .i64 0] 36)).heap[wa.heap.size]? = some (.cells #[.string (⟨#[]⟩ : ByteArray), .bool false, .int .i64 0, .int .i64 0, .int .i64 0, .int .i64 0, .slice none 0 0, .int .i64 0, .int .i64 0, .int .i64 0, .int .i64 0, .slice none 0 0, .int .i64 0, .int .i64 0, .int .i64 0, .int .i64 0] 36) from blk_new wa (.cells #[.string (⟨#[]⟩ : ByteArray), .bool false, .int .i64 0, .int .i64 0, .int .i64 0, .int .i64 0, .slice none 0 0, .int .i64 0, .int .i64 0, .int .i64 0, .int .i64 0, .slice none 0 0, .int .i64 0, .int .i64 0, .int .i64 0, .int .i64 0] 36))
   have HZ := Lib.hid (show W.heap.size ≤ wa.heap.size from (by first | exact Nat.le_refl _ | exact below_size HB.out))
   have HFK := Lib.hid (Kd.FK_mono (Kd.FK_below (Kd.FK_bound HFK.out) (below_alloc (Below.refl _ _) (.cells #[.string (⟨#[]⟩ : ByteArray), .bool false, .int .i64 0, .int .i64 0, .int .i64 0, .int .i64 0, .slice none 0 0, .int .i64 0, .int .i64 0, .int .i64 0, .int .i64 0, .slice none 0 0, .int .i64 0, .int .i64 0, .int .i64 0, .int .i64 0] 36))) (ok' := fun k => k ≠ wa.heap.size ∧ W.heap.size ≤ k) (fun k hk => by have h2 := hk.2; have h1 : W.heap.size ≤ k := hk.1; omega))
   have HB := Lib.hid (below_alloc HB.out (.cells #[.string (⟨#[]⟩ : ByteArray), .bool false, .int .i64 0, .int .i64 0, .int .i64 0, .int .i64 0, .slice none 0 0, .int .i64 0, .int .i64 0, .int .i64 0, .int .i64 0, .slice none 0 0, .int .i64 0, .int .i64 0, .int .i64 0, .int .i64 0] 36))
   go_simp
   refine hK.out _ _ ?_ (fun hHeld => ?_)
   focus ((try dsimp only); exact ⟨(blk_cell (blk_below EM.out HB.out) 0).trans rfl, (blk_cell (blk_below EM.out HB.out) 1).trans rfl, (blk_cell (blk_below EM.out HB.out) 2).trans rfl, (blk_cell (blk_below EM.out HB.out) 3).trans rfl, (blk_cell (blk_below EM.out HB.out) 4).trans rfl, (blk_cell (blk_below EM.out HB.out) 5).trans rfl, (blk_cell (blk_below EM.out HB.out) 6).trans rfl, pw_cell_below HB.out EP.out⟩)
   clear hK K
   refine wpAnyH_ready (rs := [21]) (by kernel_rfl) (by simp) ?_
   refine AllReadyH.cons rfl (fun K hK => ?_) ?_
   ·have hst := wr50_blk (cs := #[.string nd.f0, .bool nd.f1, .int .i64 nd.f2.f0, .int .i64 nd.f2.f1, .int .i64 nd.f2.f2, .int .i64 nd.f2.f3, .slice A6 nd.f3.length c6, .int .i64 nd.f4.f0, .int .i64 nd.f4.f1, .int .i64 nd.f4.f2, .int .i64 nd.f4.f3, .slice A11 nd.f5.length c11, .int .i64 nd.f6.f0, .int .i64 nd.f6.f1, .int .i64 nd.f6.f2, .int .i64 nd.f6.f3]) EZ.out rfl rfl (by simp [Value.oneCell'])
    have EX := Lib.hid (setRow_heap _ _ _ (#[.string nd.f0, .bool nd.f1, .int .i64 nd.f2.f0, .int .i64 nd.f2.f1, .int .i64 nd.f2.f2, .int .i64 nd.f2.f3, .slice A6 nd.f3.length c6, .int .i64 nd.f4.f0, .int .i64 nd.f4.f1, .int .i64 nd.f4.f2, .int .i64 nd.f4.f3, .slice A11 nd.f5.length c11, .int .i64 nd.f6.f0, .int .i64 nd.f6.f1, .int .i64 nd.f6.f2, .int .i64 nd.f6.f3] : Array Value) _ _ EZ.out)
    have HFK := Lib.hid (Kd.FK_step (W1 := World.setRow _ _ (#[.string nd.f0, .bool nd.f1, .int .i64 nd.f2.f0, .int .i64 nd.f2.f1, .int .i64 nd.f2.f2, .int .i64 nd.f2.f3, .slice A6 nd.f3.length c6, .int .i64 nd.f4.f0, .int .i64 nd.f4.f1, .int .i64 nd.f4.f2, .int .i64 nd.f4.f3, .slice A11 nd.f5.length c11, .int .i64 nd.f6.f0, .int .i64 nd.f6.f1, .int .i64 nd.f6.f2, .int .i64 nd.f6.f3] : Array Value)) HFK.out (fun k hk hlt => setRow_other _ _ k _ hk.1))
    have HB := Lib.hid (below_setRow HB.out HZ.out (#[.string nd.f0, .bool nd.f1, .int .i64 nd.f2.f0, .int .i64 nd.f2.f1, .int .i64 nd.f2.f2, .int .i64 nd.f2.f3, .slice A6 nd.f3.length c6, .int .i64 nd.f4.f0, .int .i64 nd.f4.f1, .int .i64 nd.f4.f2, .int .i64 nd.f4.f3, .slice A11 nd.f5.length c11, .int .i64 nd.f6.f0, .int .i64 nd.f6.f1, .int .i64 nd.f6.f2, .int .i64 nd.f6.f3] : Array Value))
    go_simp
    refine hK.out _ _ ?_ (fun hHeld => ?_)
    focus ((try dsimp only); exact ⟨(blk_cell (blk_below EM.out HB.out) 0).trans rfl, (blk_cell (blk_below EM.out HB.out) 1).trans rfl, (blk_cell (blk_below EM.out HB.out) 2).trans rfl, (blk_cell (blk_below EM.out HB.out) 3).trans rfl, (blk_cell (blk_below EM.out HB.out) 4).trans rfl, (blk_cell (blk_below EM.out HB.out) 5).trans rfl, (blk_cell (blk_below EM.out HB.out) 6).trans rfl, pw_cell_below HB.out EP.out⟩)
    clear hK K
    refine tq 22 12 ?_ (by assumption)
    refine wpAnyH_done (by kernel_rfl) ?_ _
    refine NoPanic.normal ?_
    exact HPO.out _ _ A6 c6 A11 c11 _ _ _ _ _ _ _ _ _ _ _ _ _ _ _ _ _ _ _ _ HFK.out EX.out HZ.out HB.out
   exact AllReadyH.nil
  exact AllReadyH.nil
 refine AllReadyH.cons rfl (fun K hK => ?_) ?_
 ·have EZ := Lib.hid (show (World.alloc W.drew (.cells #[.string (⟨#[]⟩ : ByteArray), .bool false, .int .i64 0, .int .i64 0, .int .i64 0, .int .i64 0, .slice none 0 0, .int .i64 0, .int .i64 0, .int .i64 0, .int .i64 0, .slice none 0 0, .int .i64 0, .int .i64 0, .int .i64 0, .int .i64 0] 36)).heap[W.heap.size]? = some (.cells #[.string (⟨#[]⟩ : ByteArray), .bool false, .int .i64 0, .int .i64 0, .int .i64 0, .int .i64 0, .slice none 0 0, .int .i64 0, .int .i64 0, .int .i64 0, .int .i64 0, .slice none 0 0, .int .i64 0, .int .i64 0, .int .i64 0, .int .i64 0] 36) from blk_new W.drew (.cells #[.string (⟨#[]⟩ : ByteArray), .bool false, .int .i64 0, .int .i64 0, .int .i64 0, .int .i64 0, .slice none 0 0, .int .i64 0, .int .i64 0, .int .i64 0, .int .i64 0, .slice none 0 0, .int .i64 0, .int .i64 0, .int .i64 0, .int .i64 0] 36))
  have HZ := Lib.hid (show W.heap.size ≤ W.heap.size from (by first | exact Nat.le_refl _ | exact below_size HB.out))
  have HB := Lib.hid (below_alloc HB.out (.cells #[.string (⟨#[]⟩ : ByteArray), .bool false, .int .i64 0, .int .i64 0, .int .i64 0, .int .i64 0, .slice none 0 0, .int .i64 0, .int .i64 0, .int .i64 0, .int .i64 0, .slice none 0 0, .int .i64 0, .int .i64 0, .int .i64 0, .int .i64 0] 36))
  go_simp
  refine hK.out _ _ ?_ (fun hHeld => ?_)
  focus ((try dsimp only); exact ⟨(blk_cell (blk_below EM.out HB.out) 0).trans rfl, (blk_cell (blk_below EM.out HB.out) 1).trans rfl, (blk_cell (blk_below EM.out HB.out) 2).trans rfl, (blk_cell (blk_below EM.out HB.out) 3).trans rfl, (blk_cell (blk_below EM.out HB.out) 4).trans rfl, (blk_cell (blk_below EM.out HB.out) 5).trans rfl, (blk_cell (blk_below EM.out HB.out) 6).trans rfl, pw_cell_below HB.out EP.out⟩)
  clear hK K
  refine wpAnyH_ready (rs := [16]) (by kernel_rfl) (by simp) ?_
  refine AllReadyH.cons rfl (fun K hK => ?_) ?_
  ·go_simp
   go_wp2_with (go_at_call 19; go_loud (refine (HSE.out _ HB.out).mono ?_; rintro e wa ⟨A6, c6, A11, c11, rfl, hK, hb⟩; have HFK := Lib.hid (Kd.FK_mono hK (ok' := fun k => k ≠ W.heap.size ∧ W.heap.size ≤ k) (fun k hk => by rw [World.size_alloc] at hk; have hk' : W.heap.size + 1 ≤ k := hk; omega)); have HB := Lib.hid (below_step HB.out hb); have EZ := Lib.hid (blk_below EZ.out hb); clear hb hK))
   refine hK.out _ _ ?_ (fun hHeld => ?_)
   focus ((try dsimp only); exact ⟨(blk_cell (blk_below EM.out HB.out) 0).trans rfl, (blk_cell (blk_below EM.out HB.out) 1).trans rfl, (blk_cell (blk_below EM.out HB.out) 2).trans rfl, (blk_cell (blk_below EM.out HB.out) 3).trans rfl, (blk_cell (blk_below EM.out HB.out) 4).trans rfl, (blk_cell (blk_below EM.out HB.out) 5).trans rfl, (blk_cell (blk_below EM.out HB.out) 6).trans rfl, pw_cell_below HB.out EP.out⟩)
   clear hK K
   refine tq 17 62 ?_ (by assumption)
   refine tq 18 80 ?_ (by assumption)
   refine tq 19 81 ?_ (by assumption)
   refine wpAnyH_ready (rs := [21]) (by kernel_rfl) (by simp) ?_
   refine AllReadyH.cons rfl (fun K hK => ?_) ?_
   ·have hst := wr50_blk (cs := #[.string nd.f0, .bool nd.f1, .int .i64 nd.f2.f0, .int .i64 nd.f2.f1, .int .i64 nd.f2.f2, .int .i64 nd.f2.f3, .slice A6 nd.f3.length c6, .int .i64 nd.f4.f0, .int .i64 nd.f4.f1, .int .i64 nd.f4.f2, .int .i64 nd.f4.f3, .slice A11 nd.f5.length c11, .int .i64 nd.f6.f0, .int .i64 nd.f6.f1, .int .i64 nd.f6.f2, .int .i64 nd.f6.f3]) EZ.out rfl rfl (by simp [Value.oneCell'])
    have EX := Lib.hid (setRow_heap _ _ _ (#[.string nd.f0, .bool nd.f1, .int .i64 nd.f2.f0, .int .i64 nd.f2.f1, .int .i64 nd.f2.f2, .int .i64 nd.f2.f3, .slice A6 nd.f3.length c6, .int .i64 nd.f4.f0, .int .i64 nd.f4.f1, .int .i64 nd.f4.f2, .int .i64 nd.f4.f3, .slice A11 nd.f5.length c11, .int .i64 nd.f6.f0, .int .i64 nd.f6.f1, .int .i64 nd.f6.f2, .int .i64 nd.f6.f3] : Array Value) _ _ EZ.out)
    have HFK := Lib.hid (Kd.FK_step (W1 := World.setRow _ _ (#[.string nd.f0, .bool nd.f1, .int .i64 nd.f2.f0, .int .i64 nd.f2.f1, .int .i64 nd.f2.f2, .int .i64 nd.f2.f3, .slice A6 nd.f3.length c6, .int .i64 nd.f4.f0, .int .i64 nd.f4.f1, .int .i64 nd.f4.f2, .int .i64 nd.f4.f3, .slice A11 nd.f5.length c11, .int .i64 nd.f6.f0, .int .i64 nd.f6.f1, .int .i64 nd.f6.f2, .int .i64 nd.f6.f3] : Array Value)) HFK.out (fun k hk hlt => setRow_other _ _ k _ hk.1))
    have HB := Lib.hid (below_setRow HB.out HZ.out (#[.string nd.f0, .bool nd.f1, .int .i64 nd.f2.f0, .int .i64 nd.f2.f1, .int .i64 nd.f2.f2, .int .i64 nd.f2.f3, .slice A6 nd.f3.length c6, .int .i64 nd.f4.f0, .int .i64 nd.f4.f1, .int .i64 nd.f4.f2, .int .i64 nd.f4.f3, .slice A11 nd.f5.length c11, .int .i64 nd.f6.f0, .int .i64 nd.f6.f1, .int .i64 nd.f6.f2, .int .i64 nd.f6.f3] : Array Value))
    go_simp
    refine hK.out _ _ ?_ (fun hHeld => ?_)
    focus ((try dsimp only); exact ⟨(blk_cell (blk_below EM.out HB.out) 0).trans rfl, (blk_cell (blk_below EM.out HB.out) 1).trans rfl, (blk_cell (blk_below EM.out HB.out) 2).trans rfl, (blk_cell (blk_below EM.out HB.out) 3).trans rfl, (blk_cell (blk_below EM.out HB.out) 4).trans rfl, (blk_cell (blk_below EM.out HB.out) 5).trans rfl, (blk_cell (blk_below EM.out HB.out) 6).trans rfl, pw_cell_below HB.out EP.out⟩)
    clear hK K
    refine tq 22 12 ?_ (by assumption)
    refine wpAnyH_done (by kernel_rfl) ?_ _
    refine NoPanic.normal ?_
    exact HPO.out _ _ A6 c6 A11 c11 _ _ _ _ _ _ _ _ _ _ _ _ _ _ _ _ _ _ _ _ HFK.out EX.out HZ.out HB.out
   exact AllReadyH.nil
  exact AllReadyH.nil
 exact AllReadyH.nil
end Go.Proofs.YteilkbookcmndaaGreatDoor.C
end
