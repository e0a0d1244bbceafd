/- Texts that the claim's law stands on, cut down to what it reaches. -/
import Derived.Test.YteilkbookcmndaaGreatDoorKQ
import Derived.Lib.Strings
import Derived.Lib.Hide
import Derived.Deep.WholeRow
import Derived.Lib.SliceRun
import Derived.Lib.Walk
import Derived.Laws.CopyOwn
import Derived.Shelf.SlSorted.Search
import Derived.Test.YteilkbookcmndaaGreatDoorKP
set_option linter.unusedVariables false
set_option linter.unusedSimpArgs false
section
namespace Go.Proofs.YteilkbookcmndaaGreatDoor.C
open Go.RowKit Go.Proofs.YteilkbookcmndaaGreatDoor.Q Go.Proofs.YteilkbookcmndaaGreatDoorW.PrintWords Go.Proofs.YteilkbookcmndaaGreatDoorW.PrintLast Go.Proofs.YteilkbookcmndaaGreatDoorW.PrintMore
theorem at50 {w W : World} {A : Option Addr} {xs : List S50} (hC : Kd.C k50 w A xs.length xs) (hb : Below w.heap.size w W) (i : Nat) (hi : i < xs.length) :
    ∃ ad A6 c6 A11 c11, A = some ad ∧ (W.cell? (ad.add (i * 16)) = some (.string (xs[i]'hi).f0) ∧ W.cell? ⟨(ad.add (i * 16)).block, (ad.add (i * 16)).off + 1, none⟩ = some (.bool (xs[i]'hi).f1) ∧ W.cell? ⟨(ad.add (i * 16)).block, (ad.add (i * 16)).off + 2, none⟩ = some (.int .i64 (xs[i]'hi).f2.f0) ∧ W.cell? ⟨(ad.add (i * 16)).block, (ad.add (i * 16)).off + 3, none⟩ = some (.int .i64 (xs[i]'hi).f2.f1) ∧ W.cell? ⟨(ad.add (i * 16)).block, (ad.add (i * 16)).off + 4, none⟩ = some (.int .i64 (xs[i]'hi).f2.f2) ∧ W.cell? ⟨(ad.add (i * 16)).block, (ad.add (i * 16)).off + 5, none⟩ = some (.int .i64 (xs[i]'hi).f2.f3) ∧ W.cell? ⟨(ad.add (i * 16)).block, (ad.add (i * 16)).off + 6, none⟩ = some (.slice A6 (xs[i]'hi).f3.length c6) ∧ W.cell? ⟨(ad.add (i * 16)).block, (ad.add (i * 16)).off + 7, none⟩ = some (.int .i64 (xs[i]'hi).f4.f0) ∧ W.cell? ⟨(ad.add (i * 16)).block, (ad.add (i * 16)).off + 8, none⟩ = some (.int .i64 (xs[i]'hi).f4.f1) ∧ W.cell? ⟨(ad.add (i * 16)).block, (ad.add (i * 16)).off + 9, none⟩ = some (.int .i64 (xs[i]'hi).f4.f2) ∧ W.cell? ⟨(ad.add (i * 16)).block, (ad.add (i * 16)).off + 10, none⟩ = some (.int .i64 (xs[i]'hi).f4.f3) ∧ W.cell? ⟨(ad.add (i * 16)).block, (ad.add (i * 16)).off + 11, none⟩ = some (.slice A11 (xs[i]'hi).f5.length c11) ∧ W.cell? ⟨(ad.add (i * 16)).block, (ad.add (i * 16)).off + 12, none⟩ = some (.int .i64 (xs[i]'hi).f6.f0) ∧ W.cell? ⟨(ad.add (i * 16)).block, (ad.add (i * 16)).off + 13, none⟩ = some (.int .i64 (xs[i]'hi).f6.f1) ∧ W.cell? ⟨(ad.add (i * 16)).block, (ad.add (i * 16)).off + 14, none⟩ = some (.int .i64 (xs[i]'hi).f6.f2) ∧ W.cell? ⟨(ad.add (i * 16)).block, (ad.add (i * 16)).off + 15, none⟩ = some (.int .i64 (xs[i]'hi).f6.f3)) ∧
      Hid (k50.K w (xs[i]'hi) [.string (xs[i]'hi).f0, .bool (xs[i]'hi).f1, .int .i64 (xs[i]'hi).f2.f0, .int .i64 (xs[i]'hi).f2.f1, .int .i64 (xs[i]'hi).f2.f2, .int .i64 (xs[i]'hi).f2.f3, .slice A6 (xs[i]'hi).f3.length c6, .int .i64 (xs[i]'hi).f4.f0, .int .i64 (xs[i]'hi).f4.f1, .int .i64 (xs[i]'hi).f4.f2, .int .i64 (xs[i]'hi).f4.f3, .slice A11 (xs[i]'hi).f5.length c11, .int .i64 (xs[i]'hi).f6.f0, .int .i64 (xs[i]'hi).f6.f1, .int .i64 (xs[i]'hi).f6.f2, .int .i64 (xs[i]'hi).f6.f3]) := by
  obtain ⟨ad, A6, c6, A11, c11, e, h0, h1, h2, h3, h4, h5, h6, h7, h8, h9, h10, h11, h12, h13, h14, h15, l6, g6, l11, g11⟩ := at_T50 hC (i : Int) (by omega) (by omega)
  have hr : rd_T50 xs (i : Int) = xs[i]'hi := by unfold rd_T50; rw [Int.toNat_natCast, List.getD_eq_getElem?_getD, List.getElem?_eq_getElem hi]; rfl
  simp only [Int.toNat_natCast, hr] at h0 h1 h2 h3 h4 h5 h6 h7 h8 h9 h10 h11 h12 h13 h14 h15 l6 g6 l11 g11
  exact ⟨ad, A6, c6, A11, c11, e, ⟨pw_cell_below hb h0, pw_cell_below hb h1, pw_cell_below hb h2, pw_cell_below hb h3, pw_cell_below hb h4, pw_cell_below hb h5, pw_cell_below hb h6, pw_cell_below hb h7, pw_cell_below hb h8, pw_cell_below hb h9, pw_cell_below hb h10, pw_cell_below hb h11, pw_cell_below hb h12, pw_cell_below hb h13, pw_cell_below hb h14, pw_cell_below hb h15⟩, Lib.hid (k50_mk w (xs[i]'hi) l6 g6 l11 g11)⟩
def findL (l : List S50) (p : ByteArray) : Option S50 := l.find? fun n => decide (n.f0 = p)
def Found (w : World) (l : List S50) (p : ByteArray) (e : Ending) (w' : World) : Prop :=
  ∃ cs : List Value, e = .returned (.tuple #[.agg cs.toArray, .bool (findL l p).isSome]) ∧ k50.K w' ((findL l p).getD z50) cs ∧ Below w.heap.size w w'
theorem z50_K (w : World) : k50.K w z50 [.string (⟨#[]⟩ : ByteArray), .bool false, .int .i64 0, .int .i64 0, .int .i64 0, .int .i64 0, .slice none 0 0, .int .i64 0, .int .i64 0, .int .i64 0, .int .i64 0, .slice none 0 0, .int .i64 0, .int .i64 0, .int .i64 0, .int .i64 0] := by
  have h := k50_mk w z50 (A6 := none) (c6 := 0) (Nat.le_refl _) ⟨rfl, by decide, fun h => by cases h⟩ (A11 := none) (c11 := 0) (Nat.le_refl _) ⟨rfl, by decide, fun h => by cases h⟩
  exact h
theorem bytes_of_toList {a b : ByteArray} (h : a.toList = b.toList) : a = b := by
  rw [Lib.toList_data, Lib.toList_data] at h
  exact L.bytes_ext h
theorem find_some (l : List S50) (p : ByteArray) (i : Nat) (hi : i < l.length) (hj : ∀ j (h : j < l.length), j < i → (l[j]'h).f0 ≠ p) (he : (l[i]'hi).f0 = p) : findL l p = some (l[i]'hi) := by
  unfold findL
  rw [List.find?_eq_some_iff_getElem]
  exact ⟨by simpa using he, i, hi, rfl, fun j hji => by simpa using hj j (by omega) hji⟩
theorem find_none (l : List S50) (p : ByteArray) (hj : ∀ j (h : j < l.length), (l[j]'h).f0 ≠ p) : findL l p = none := by
  unfold findL
  rw [List.find?_eq_none]
  intro x hx
  obtain ⟨j, h, rfl⟩ := List.getElem_of_mem hx
  simpa using hj j h
theorem load50 {P : Program} {w : World} {a : Addr} {cs : Array Value} {n : Nat} (hn : cs.size = n) (h : ∀ j v, cs.toList[j]? = some v → w.cell? (a.add j) = some v) : (loadCellsFrom a 0 n #[]).run P w = .ok cs w := by
  subst hn
  have := run_loadCells_list (P := P) w a cs.toList h
  simpa [loadCells] using this
theorem alloc50 (w : World) : (Instr.alloc 36 true (.tuple #[])).run Tryz.prog w = .ok (.pointer (some ⟨w.heap.size, 0, none⟩)) (w.alloc (.cells #[.string (⟨#[]⟩ : ByteArray), .bool false, .int .i64 0, .int .i64 0, .int .i64 0, .int .i64 0, .slice none 0 0, .int .i64 0, .int .i64 0, .int .i64 0, .int .i64 0, .slice none 0 0, .int .i64 0, .int .i64 0, .int .i64 0, .int .i64 0] 36)) := by
  have hz := Tryz.zeroValue36
  go_simp
theorem storeAt50 (w : World) (ps : ByteArray) (pb : Bool) (p2 p3 p4 p5 : Int) (pA : Option Addr) (pn pc : Nat) (p7 p8 p9 p10 : Int) (pB : Option Addr) (pm pd : Nat) (p12 p13 p14 p15 : Int) (qs : ByteArray) (qb : Bool) (q2 q3 q4 q5 : Int) (qA : Option Addr) (qn qc : Nat) (q7 q8 q9 q10 : Int) (qB : Option Addr) (qm qd : Nat) (q12 q13 q14 q15 : Int) : (Instr.storeAt 36 (.pointer (some ⟨w.heap.size, 0, none⟩)) (.agg #[.string qs, .bool qb, .int .i64 q2, .int .i64 q3, .int .i64 q4, .int .i64 q5, .slice qA qn qc, .int .i64 q7, .int .i64 q8, .int .i64 q9, .int .i64 q10, .slice qB qm qd, .int .i64 q12, .int .i64 q13, .int .i64 q14, .int .i64 q15])).run Tryz.prog (w.alloc (.cells #[.string ps, .bool pb, .int .i64 p2, .int .i64 p3, .int .i64 p4, .int .i64 p5, .slice pA pn pc, .int .i64 p7, .int .i64 p8, .int .i64 p9, .int .i64 p10, .slice pB pm pd, .int .i64 p12, .int .i64 p13, .int .i64 p14, .int .i64 p15] 36)) = .ok () (w.alloc (.cells #[.string qs, .bool qb, .int .i64 q2, .int .i64 q3, .int .i64 q4, .int .i64 q5, .slice qA qn qc, .int .i64 q7, .int .i64 q8, .int .i64 q9, .int .i64 q10, .slice qB qm qd, .int .i64 q12, .int .i64 q13, .int .i64 q14, .int .i64 q15] 36)) :=
  run_storeAt_new w 36 #[.string ps, .bool pb, .int .i64 p2, .int .i64 p3, .int .i64 p4, .int .i64 p5, .slice pA pn pc, .int .i64 p7, .int .i64 p8, .int .i64 p9, .int .i64 p10, .slice pB pm pd, .int .i64 p12, .int .i64 p13, .int .i64 p14, .int .i64 p15] #[.string qs, .bool qb, .int .i64 q2, .int .i64 q3, .int .i64 q4, .int .i64 q5, .slice qA qn qc, .int .i64 q7, .int .i64 q8, .int .i64 q9, .int .i64 q10, .slice qB qm qd, .int .i64 q12, .int .i64 q13, .int .i64 q14, .int .i64 q15] (by kernel_rfl) rfl (by simp [Value.oneCell'])
theorem loadC50 {P : Program} {W : World} {a : Addr} {ps : ByteArray} {pb : Bool} {p2 p3 p4 p5 : Int} {pA : Option Addr} {pn pc : Nat} {p7 p8 p9 p10 : Int} {pB : Option Addr} {pm pd : Nat} {p12 p13 p14 p15 : Int} (h : W.cell? a = some (.string ps) ∧ W.cell? ⟨a.block, a.off + 1, none⟩ = some (.bool pb) ∧ W.cell? ⟨a.block, a.off + 2, none⟩ = some (.int .i64 p2) ∧ W.cell? ⟨a.block, a.off + 3, none⟩ = some (.int .i64 p3) ∧ W.cell? ⟨a.block, a.off + 4, none⟩ = some (.int .i64 p4) ∧ W.cell? ⟨a.block, a.off + 5, none⟩ = some (.int .i64 p5) ∧ W.cell? ⟨a.block, a.off + 6, none⟩ = some (.slice pA pn pc) ∧ W.cell? ⟨a.block, a.off + 7, none⟩ = some (.int .i64 p7) ∧ W.cell? ⟨a.block, a.off + 8, none⟩ = some (.int .i64 p8) ∧ W.cell? ⟨a.block, a.off + 9, none⟩ = some (.int .i64 p9) ∧ W.cell? ⟨a.block, a.off + 10, none⟩ = some (.int .i64 p10) ∧ W.cell? ⟨a.block, a.off + 11, none⟩ = some (.slice pB pm pd) ∧ W.cell? ⟨a.block, a.off + 12, none⟩ = some (.int .i64 p12) ∧ W.cell? ⟨a.block, a.off + 13, none⟩ = some (.int .i64 p13) ∧ W.cell? ⟨a.block, a.off + 14, none⟩ = some (.int .i64 p14) ∧ W.cell? ⟨a.block, a.off + 15, none⟩ = some (.int .i64 p15)) : (loadCellsFrom a 0 16 #[]).run P W = .ok #[.string ps, .bool pb, .int .i64 p2, .int .i64 p3, .int .i64 p4, .int .i64 p5, .slice pA pn pc, .int .i64 p7, .int .i64 p8, .int .i64 p9, .int .i64 p10, .slice pB pm pd, .int .i64 p12, .int .i64 p13, .int .i64 p14, .int .i64 p15] W := by
  obtain ⟨h0, h1, h2, h3, h4, h5, h6, h7, h8, h9, h10, h11, h12, h13, h14, h15⟩ := h
  obtain ⟨b, o, s⟩ := a
  refine load50 rfl fun j v hj => ?_
  rcases j with _ | _ | _ | _ | _ | _ | _ | _ | _ | _ | _ | _ | _ | _ | _ | _ | j
  · cases hj; exact h0
  · cases hj; exact h1
  · cases hj; exact h2
  · cases hj; exact h3
  · cases hj; exact h4
  · cases hj; exact h5
  · cases hj; exact h6
  · cases hj; exact h7
  · cases hj; exact h8
  · cases hj; exact h9
  · cases hj; exact h10
  · cases hj; exact h11
  · cases hj; exact h12
  · cases hj; exact h13
  · cases hj; exact h14
  · cases hj; exact h15
  · simp at hj
@[irreducible] noncomputable def rdS (t : TypeId) (x : Value) : Sem Value := Instr.loadAt t x
@[irreducible] noncomputable def wrS (t : TypeId) (x v : Value) : Sem Unit := Instr.storeAt t x v
@[irreducible] noncomputable def alS (t : TypeId) (b : Bool) (v : Value) : Sem Value := Instr.alloc t b v
theorem rd_at (t : TypeId) (x : Value) : Instr.loadAt t x = rdS t x := by unfold rdS; rfl
theorem wr_at (t : TypeId) (x v : Value) : Instr.storeAt t x v = wrS t x v := by unfold wrS; rfl
theorem al_at (t : TypeId) (b : Bool) (v : Value) : Instr.alloc t b v = alS t b v := by unfold alS; rfl
theorem rd_at50 (x : Value) : Instr.loadAt 36 x = rdS 36 x := rd_at 36 x
theorem wr_at50 (x v : Value) : Instr.storeAt 36 x v = wrS 36 x v := wr_at 36 x v
theorem al_at50 (b : Bool) (v : Value) : Instr.alloc 36 b v = alS 36 b v := al_at 36 b v
theorem rd50_of {W : World} {a : Addr} {cs : Array Value} (h : (loadCellsFrom a 0 16 #[]).run Tryz.prog W = .ok cs W) : (rdS 36 (.pointer (some a))).run Tryz.prog W = .ok (.agg cs) W := by
  rw [← rd_at]
  have hag := Tryz.isAgg36 W
  have hsz := Tryz.sizeOf36 W
  simp only [Instr.loadAt, Instr.sureAddr, Sem.run_bind, Sem.run_pure, Result.andThen, loadVar, hag, hsz, if_true, loadCells, h]
theorem rd_row {t ty : TypeId} {W : World} {g : Nat} {cs : Array Value} {fr : Nat × Nat} (d : TypeDesc) (hg : W.heap[g]? = some (.cells cs ty fr)) (hd : (match d with | .struct _ | .array _ _ => true | _ => false) = true) (hu : Tryz.prog.underlying t = some d) (hi : (Tryz.prog.info? t).map (·.size) = some cs.size) : (rdS t (.pointer (some ⟨g, 0, none⟩))).run Tryz.prog W = .ok (.agg cs) W := by
  rw [← rd_at]
  simp only [Instr.loadAt, Instr.sureAddr, Sem.run_bind, Sem.run_pure, Result.andThen]
  exact run_loadVar_row W g ty t cs fr d hg hu (by cases d <;> exact hd) hi
theorem wr_row {t ty : TypeId} {W : World} {g : Nat} {old cs : Array Value} (hg : W.heap[g]? = some (.cells old ty (0, 0))) (hi : (Tryz.prog.info? t).map (·.size) = some cs.size) (ho : old.size = cs.size) (h1 : cs.all (·.oneCell') = true) : (wrS t (.pointer (some ⟨g, 0, none⟩)) (.agg cs)).run Tryz.prog W = .ok () (W.setRow g cs) := by
  rw [← wr_at]
  simp only [Instr.storeAt, Instr.sureAddr, Sem.run_bind, Sem.run_pure, Result.andThen]
  exact run_storeVar_row W g ty t old cs hg hi ho h1
theorem rd50_new (w : World) (ps : ByteArray) (pb : Bool) (p2 p3 p4 p5 : Int) (pA : Option Addr) (pn pc : Nat) (p7 p8 p9 p10 : Int) (pB : Option Addr) (pm pd : Nat) (p12 p13 p14 p15 : Int) : (rdS 36 (.pointer (some ⟨w.heap.size, 0, none⟩))).run Tryz.prog (w.alloc (.cells #[.string ps, .bool pb, .int .i64 p2, .int .i64 p3, .int .i64 p4, .int .i64 p5, .slice pA pn pc, .int .i64 p7, .int .i64 p8, .int .i64 p9, .int .i64 p10, .slice pB pm pd, .int .i64 p12, .int .i64 p13, .int .i64 p14, .int .i64 p15] 36)) = .ok (.agg #[.string ps, .bool pb, .int .i64 p2, .int .i64 p3, .int .i64 p4, .int .i64 p5, .slice pA pn pc, .int .i64 p7, .int .i64 p8, .int .i64 p9, .int .i64 p10, .slice pB pm pd, .int .i64 p12, .int .i64 p13, .int .i64 p14, .int .i64 p15]) (w.alloc (.cells #[.string ps, .bool pb, .int .i64 p2, .int .i64 p3, .int .i64 p4, .int .i64 p5, .slice pA pn pc, .int .i64 p7, .int .i64 p8, .int .i64 p9, .int .i64 p10, .slice pB pm pd, .int .i64 p12, .int .i64 p13, .int .i64 p14, .int .i64 p15] 36)) :=
  rd_row _ (heap_alloc_last w _) rfl Tryz.underlying36 (by kernel_rfl)
theorem wr50_new (w : World) (ps : ByteArray) (pb : Bool) (p2 p3 p4 p5 : Int) (pA : Option Addr) (pn pc : Nat) (p7 p8 p9 p10 : Int) (pB : Option Addr) (pm pd : Nat) (p12 p13 p14 p15 : Int) (qs : ByteArray) (qb : Bool) (q2 q3 q4 q5 : Int) (qA : Option Addr) (qn qc : Nat) (q7 q8 q9 q10 : Int) (qB : Option Addr) (qm qd : Nat) (q12 q13 q14 q15 : Int) : (wrS 36 (.pointer (some ⟨w.heap.size, 0, none⟩)) (.agg #[.string qs, .bool qb, .int .i64 q2, .int .i64 q3, .int .i64 q4, .int .i64 q5, .slice qA qn qc, .int .i64 q7, .int .i64 q8, .int .i64 q9, .int .i64 q10, .slice qB qm qd, .int .i64 q12, .int .i64 q13, .int .i64 q14, .int .i64 q15])).run Tryz.prog (w.alloc (.cells #[.string ps, .bool pb, .int .i64 p2, .int .i64 p3, .int .i64 p4, .int .i64 p5, .slice pA pn pc, .int .i64 p7, .int .i64 p8, .int .i64 p9, .int .i64 p10, .slice pB pm pd, .int .i64 p12, .int .i64 p13, .int .i64 p14, .int .i64 p15] 36)) = .ok () (w.alloc (.cells #[.string qs, .bool qb, .int .i64 q2, .int .i64 q3, .int .i64 q4, .int .i64 q5, .slice qA qn qc, .int .i64 q7, .int .i64 q8, .int .i64 q9, .int .i64 q10, .slice qB qm qd, .int .i64 q12, .int .i64 q13, .int .i64 q14, .int .i64 q15] 36)) := by
  rw [← wr_at]
  exact storeAt50 w ps pb p2 p3 p4 p5 pA pn pc p7 p8 p9 p10 pB pm pd p12 p13 p14 p15 qs qb q2 q3 q4 q5 qA qn qc q7 q8 q9 q10 qB qm qd q12 q13 q14 q15
theorem al50 (w : World) : (alS 36 true (.tuple #[])).run Tryz.prog w = .ok (.pointer (some ⟨w.heap.size, 0, none⟩)) (w.alloc (.cells #[.string (⟨#[]⟩ : ByteArray), .bool false, .int .i64 0, .int .i64 0, .int .i64 0, .int .i64 0, .slice none 0 0, .int .i64 0, .int .i64 0, .int .i64 0, .int .i64 0, .slice none 0 0, .int .i64 0, .int .i64 0, .int .i64 0, .int .i64 0] 36)) := by
  rw [← al_at]
  exact alloc50 w
end Go.Proofs.YteilkbookcmndaaGreatDoor.C
namespace Go.Proofs.YteilkbookcmndaaGreatDoor.C
open Go.RowKit Go.Proofs.YteilkbookcmndaaGreatDoor.Q Go.Proofs.YteilkbookcmndaaGreatDoorW.PrintWords Go.Proofs.YteilkbookcmndaaGreatDoorW.PrintLast Go.Proofs.YteilkbookcmndaaGreatDoorW.PrintMore
def ClonedC {α : Type} (d : Kd α) (w : World) (xs : List α) (e : Ending) (w' : World) : Prop :=
  ∃ A' c', e = .returned (.slice A' xs.length c') ∧ xs.length ≤ c' ∧ d.F w' (fun k => w.heap.size ≤ k) A' xs.length xs ∧ Below w.heap.size w w'
theorem C_nil {α : Type} (d : Kd α) (w : World) (A : Option Addr) : d.C w A 0 [] := ⟨rfl, by decide, fun h => by omega⟩
theorem Reps_one {α : Type} {d : Kd α} {w : World} {xs : List α} {cs : List Value} (h : Reps (d.K w) d.sz xs cs) : ∀ u ∈ cs, u.oneCell' = true := by
  intro u hu
  obtain ⟨j, hj, rfl⟩ := List.getElem_of_mem hu
  have hl : cs.length = xs.length * d.sz := h.1
  have h0 : 0 < d.sz := by
    rcases Nat.eq_zero_or_pos d.sz with h0 | h0
    · rw [h0, Nat.mul_zero] at hl; omega
    · exact h0
  have hq : j / d.sz < xs.length := by
    rw [Nat.div_lt_iff_lt_mul h0]; omega
  have hk := h.2 (j / d.sz) _ (List.getElem?_eq_getElem hq)
  refine d.K_one hk _ ?_
  have hm : j % d.sz < d.sz := Nat.mod_lt _ h0
  have he : j / d.sz * d.sz + j % d.sz = j := by rw [Nat.mul_comm]; exact Nat.div_add_mod _ _
  refine List.mem_iff_getElem?.2 ⟨j % d.sz, ?_⟩
  rw [List.getElem?_take_of_lt hm, List.getElem?_drop, he, List.getElem?_eq_getElem hj]
set_option maxHeartbeats 2000000 in
set_option maxRecDepth 100000 in
theorem clone110 (xs : List S96) (A : Option Addr) (c : Nat) (w : World) (hC : Kd.C k96 w A xs.length xs) (hbig : xs.length * 24 ≤ 140737488355328) :
    Calls Tryz.prog 95 #[.slice A xs.length c] w (ClonedC k96 w xs) := by
  have q22 : ∀ (w : World) (a : Option Addr) (n c n' c' : Nat), (binOp .eql 31 (.slice a n c) (.slice none n' c')).run Tryz.prog w = .ok (.bool a.isNone) w := fun w a n c n' c' => Lib.run_eql_slice_nil w _ _ a n c n' c' Tryz.underlying31
  have hz := Tryz.zeroValue85
  have u22 : ∀ w, Sem.run Tryz.prog (underlying 31) w = .ok (TypeDesc.slice 85) w := run_underlying Tryz.underlying31
  have hinfo : (Tryz.prog.info? 85).map (fun i => (i.zero, i.size, i.bytes)) = some (some (.agg #[.string (⟨#[]⟩ : ByteArray), .int .i64 0]), 2, 24) := by kernel_rfl
  cases A with
  | none =>
    have h0 : xs = [] := by
      cases xs with
      | nil => rfl
      | cons x l => obtain ⟨ad, h, _⟩ := hC.2.2 (Nat.succ_pos _); cases h
    subst h0
    go_enter Tryz.func95, Tryz.ntmps95
    go_wp2
    go_ret
    exact ⟨_, _, rfl, Nat.le_refl _, fun _ _ => C_nil _ _ _, Below.refl _ _⟩
  | some ad =>
    obtain ⟨news, hr, hc⟩ := ReadsRow.inner_ hC
    have H1 := Lib.hid (fun u hu => Reps_one (d := k96) hr u hu : ∀ u ∈ news, u.oneCell' = true)
    have HC := Lib.hid hc
    have HR := Lib.hid hr
    have hlen : news.length = xs.length * 2 := hr.1
    have hmax := hC.2.1
    clear hc hr hC
    obtain ⟨i0, hi0, hv⟩ := Option.map_eq_some_iff.1 hinfo
    clear hinfo
    obtain ⟨hz0, hz1, hz2⟩ : i0.zero = some (.agg #[.string (⟨#[]⟩ : ByteArray), .int .i64 0]) ∧ i0.size = 2 ∧ i0.bytes = 24 := by simpa using hv
    clear hv
    go_enter Tryz.func95, Tryz.ntmps95
    go_wp2_with (at_builtin; refine wpList_append_own _ rfl _ _ 31 rfl w.heap.size 85 i0 (.agg #[.string (⟨#[]⟩ : ByteArray), .int .i64 0]) 2 24 Tryz.underlying31 hi0 hz0 hz1 hz2 rfl (by decide) _ _ _ rfl (World.ownsRow_made w #[] 0 (Nat.le_refl _) (Nat.zero_le _) (by simp)) ad xs.length c news rfl ?qc1 ?qc2 ?qc3 ?qc4 ?qc5 ?qc6 ?_)
    case qc1 => exact hlen
    case qc2 =>
      intro j u hj
      exact Lib.cell?_alloc_some _ (HC.out j u hj)
    case qc3 => exact H1.out
    case qc4 => rw [Nat.zero_add]; exact hmax
    case qc5 => rw [Nat.zero_add]; exact hbig
    case qc6 => simp
    intro v' w1 hown hgrow hnil
    go_wp2
    go_ret
    have hb : Below w.heap.size w w1 := ((Below.refl _ w).alloc (Nat.le_refl _) _).grown hgrow (by simp) (by intro k hk; simp [Value.ownBlock] at hk; omega)
    have hO : OwnRow (k96.M w1 w.heap.size (fun k => w.heap.size ≤ k ∧ some k ≠ v'.ownBlock)) 85 2 w1 w.heap.size v' xs := ⟨news, by simpa using hown, HR.out.imp_ fun _ _ h => by rw [k96_open h]; exact k96_mkM _ _ _ _⟩
    have hR : k96.R 85 w1 w.heap.size (fun k => w.heap.size ≤ k) v' xs := ⟨own_base hO.choose_spec.1, hO⟩
    obtain ⟨A', c', rfl, hle, _⟩ := OwnRow.reads hO
    exact ⟨A', c', rfl, hle, Kd.R_F hR, hb⟩
set_option maxHeartbeats 2000000 in
set_option maxRecDepth 100000 in
theorem clone111 (xs : List Int) (A : Option Addr) (c : Nat) (w : World) (hC : Kd.C (Kd.int .i64) w A xs.length xs) (hbig : xs.length * 8 ≤ 140737488355328) :
    Calls Tryz.prog 96 #[.slice A xs.length c] w (ClonedC (Kd.int .i64) w xs) := by
  have q22 : ∀ (w : World) (a : Option Addr) (n c n' c' : Nat), (binOp .eql 34 (.slice a n c) (.slice none n' c')).run Tryz.prog w = .ok (.bool a.isNone) w := fun w a n c n' c' => Lib.run_eql_slice_nil w _ _ a n c n' c' Tryz.underlying34
  have hz := Tryz.zeroValue2
  have u22 : ∀ w, Sem.run Tryz.prog (underlying 34) w = .ok (TypeDesc.slice 2) w := run_underlying Tryz.underlying34
  have hinfo : (Tryz.prog.info? 2).map (fun i => (i.zero, i.size, i.bytes)) = some (some (.int .i64 0), 1, 8) := by kernel_rfl
  cases A with
  | none =>
    have h0 : xs = [] := by
      cases xs with
      | nil => rfl
      | cons x l => obtain ⟨ad, h, _⟩ := hC.2.2 (Nat.succ_pos _); cases h
    subst h0
    go_enter Tryz.func96, Tryz.ntmps96
    go_wp2
    go_ret
    exact ⟨_, _, rfl, Nat.le_refl _, fun _ _ => C_nil _ _ _, Below.refl _ _⟩
  | some ad =>
    obtain ⟨news, hr, hc⟩ := ReadsRow.inner_ hC
    have H1 := Lib.hid (fun u hu => Reps_one (d := (Kd.int .i64)) hr u hu : ∀ u ∈ news, u.oneCell' = true)
    have HC := Lib.hid hc
    have HR := Lib.hid hr
    have hlen : news.length = xs.length * 1 := hr.1
    have hmax := hC.2.1
    clear hc hr hC
    obtain ⟨i0, hi0, hv⟩ := Option.map_eq_some_iff.1 hinfo
    clear hinfo
    obtain ⟨hz0, hz1, hz2⟩ : i0.zero = some (.int .i64 0) ∧ i0.size = 1 ∧ i0.bytes = 8 := by simpa using hv
    clear hv
    go_enter Tryz.func96, Tryz.ntmps96
    go_wp2_with (at_builtin; refine wpList_append_own _ rfl _ _ 34 rfl w.heap.size 2 i0 (.int .i64 0) 1 8 Tryz.underlying34 hi0 hz0 hz1 hz2 rfl (by decide) _ _ _ rfl (World.ownsRow_made w #[] 0 (Nat.le_refl _) (Nat.zero_le _) (by simp)) ad xs.length c news rfl ?qc1 ?qc2 ?qc3 ?qc4 ?qc5 ?qc6 ?_)
    case qc1 => exact hlen
    case qc2 =>
      intro j u hj
      exact Lib.cell?_alloc_some _ (HC.out j u hj)
    case qc3 => exact H1.out
    case qc4 => rw [Nat.zero_add]; exact hmax
    case qc5 => rw [Nat.zero_add]; exact hbig
    case qc6 => simp
    intro v' w1 hown hgrow hnil
    go_wp2
    go_ret
    have hb : Below w.heap.size w w1 := ((Below.refl _ w).alloc (Nat.le_refl _) _).grown hgrow (by simp) (by intro k hk; simp [Value.ownBlock] at hk; omega)
    have hO : OwnRow ((Kd.int .i64).M w1 w.heap.size (fun k => w.heap.size ≤ k ∧ some k ≠ v'.ownBlock)) 2 1 w1 w.heap.size v' xs := ⟨news, by simpa using hown, HR.out.imp_ fun _ _ h => h⟩
    have hR : (Kd.int .i64).R 2 w1 w.heap.size (fun k => w.heap.size ≤ k) v' xs := ⟨own_base hO.choose_spec.1, hO⟩
    obtain ⟨A', c', rfl, hle, _⟩ := OwnRow.reads hO
    exact ⟨A', c', rfl, hle, Kd.R_F hR, hb⟩
end Go.Proofs.YteilkbookcmndaaGreatDoor.C
namespace Go.Proofs.YteilkbookcmndaaGreatDoor.C
open Go.RowKit Go.Proofs.YteilkbookcmndaaGreatDoor.Q Go.Proofs.YteilkbookcmndaaGreatDoorW.PrintWords Go.Proofs.YteilkbookcmndaaGreatDoorW.PrintLast Go.Proofs.YteilkbookcmndaaGreatDoorW.PrintMore
attribute [local go_sem ↓] rd_at50 wr_at50 al_at50
attribute [local go_sem] rd50_new wr50_new al50
def NodeF (ok : Nat → Prop) (n : S50) (w : World) (e : Ending) (w' : World) : Prop := ∃ cs : List Value, e = .returned (.agg cs.toArray) ∧ k50.FK w' ok n cs ∧ Below w.heap.size w w'
def Fits (n : S50) : Prop := n.f3.length ≤ 1000 ∧ n.f5.length ≤ 1000
theorem rd50_blk {W : World} {g : Nat} {cs : Array Value} (hg : W.heap[g]? = some (.cells cs 36 (0, 0))) (hi : cs.size = 16) : (rdS 36 (.pointer (some ⟨g, 0, none⟩))).run Tryz.prog W = .ok (.agg cs) W :=
  rd_row _ hg rfl Tryz.underlying36 (by rw [hi]; kernel_rfl)
theorem wr50_blk {W : World} {g : Nat} {old cs : Array Value} (hg : W.heap[g]? = some (.cells old 36 (0, 0))) (ho : old.size = 16) (hi : cs.size = 16) (h1 : cs.all (·.oneCell') = true) : (wrS 36 (.pointer (some ⟨g, 0, none⟩)) (.agg cs)).run Tryz.prog W = .ok () (W.setRow g cs) :=
  wr_row hg (by rw [hi]; kernel_rfl) (by rw [hi, ho]) h1
def twin_T1 : Bool × List (List Nat × List Nat) := (true, [([], []), ([0], [0]), ([1], [1]), ([], []), ([3], [3]), ([4, 2], [4]), ([0, 1, 2, 3, 4], []), ([6, 2, 5, 0, 1, 2, 3, 4], [2, 6]), ([0, 1, 2, 3, 4, 5, 6, 7], []), ([8, 5, 7, 0, 1, 2, 3, 4, 5, 6, 7], [5, 8])])
def twin_B1 : List Nat := [0, 1, 3, 0, 8, 31, 31, 127, 255, 511]
theorem twin_tab1 : rtab .any (opsOf Tryz.f70 1) = twin_T1 := by kernel_rfl
theorem twin_bits1 : waitsOk twin_T1.2 twin_B1 = true := by kernel_rfl
set_option maxHeartbeats 1000000 in
set_option maxRecDepth 100000 in
theorem twin_c (n : S50) (cs : List Value) (w : World) (hK : k50.K w n cs) (hF : Fits n) :
    Calls Tryz.prog 70 #[.agg cs.toArray] w (NodeF (fun k => w.heap.size ≤ k) n w) := by
  obtain ⟨A6, c6, A11, c11, rfl, l6, g6, l11, g11⟩ := k50_open hK
  clear hK
  have HC := Lib.hid g6
  have HD := Lib.hid g11
  have HF := Lib.hid hF
  clear g6 g11 hF
  go_enter Tryz.func70, Tryz.ntmps70
  go_wp2
  generalize hW : (w.alloc _).alloc _ = W
  have B1 : W.heap[w.heap.size]? = some (.cells #[.string n.f0, .bool n.f1, .int .i64 n.f2.f0, .int .i64 n.f2.f1, .int .i64 n.f2.f2, .int .i64 n.f2.f3, .slice A6 n.f3.length c6, .int .i64 n.f4.f0, .int .i64 n.f4.f1, .int .i64 n.f4.f2, .int .i64 n.f4.f3, .slice A11 n.f5.length c11, .int .i64 n.f6.f0, .int .i64 n.f6.f1, .int .i64 n.f6.f2, .int .i64 n.f6.f3] 36 (0, 0)) := by rw [← hW]; exact blk_alloc (blk_new _ _) _
  have B2 : W.heap[w.heap.size + 1]? = some (.cells #[.string (⟨#[]⟩ : ByteArray), .bool false, .int .i64 0, .int .i64 0, .int .i64 0, .int .i64 0, .slice none 0 0, .int .i64 0, .int .i64 0, .int .i64 0, .int .i64 0, .slice none 0 0, .int .i64 0, .int .i64 0, .int .i64 0, .int .i64 0] 36 (0, 0)) := by rw [← hW]; exact (by simpa using blk_new (w.alloc _) _)
  have HB : Below w.heap.size w W := by rw [← hW]; exact below_alloc (below_alloc (Below.refl _ _) _) _
  clear hW
  have HG := Lib.hid HB
  clear HB
  refine start_ (n := 10) (S := fun w' => w'.heap[w.heap.size]? = some (.cells #[.string n.f0, .bool n.f1, .int .i64 n.f2.f0, .int .i64 n.f2.f1, .int .i64 n.f2.f2, .int .i64 n.f2.f3, .slice A6 n.f3.length c6, .int .i64 n.f4.f0, .int .i64 n.f4.f1, .int .i64 n.f4.f2, .int .i64 n.f4.f3, .slice A11 n.f5.length c11, .int .i64 n.f6.f0, .int .i64 n.f6.f1, .int .i64 n.f6.f2, .int .i64 n.f6.f3] 36 (0, 0))) (ds := [7, 9]) #[false, false, false, false, false, false, false, false, false, false] (by kernel_rfl) rfl rfl B1 (fun hHeld => ?_); refine with_tabW twin_tab1 twin_bits1 (fun HT_ HW_ => ?_)
  refine pure_ (i := 0) (N := some 3) (v := ?_) (a' := ?_) #[true, false, false, false, false, false, false, false, false, false] rfl rfl (any_of HT_.out (by kernel_rfl)) (fun _ _ _ h => h) (Or.inl ⟨by rfl, ?_⟩) ?_ ?_
  rotate_left
  · intro w'
    go_simp
    with_reducible rfl
  rotate_left
  · simp only [Act.put, List.setIfInBounds_toArray, List.set_cons_zero, List.set_cons_succ, i64_w, i32_w]
    rfl
  refine pure_ (i := 3) (N := some 6) (v := ?_) (a' := ?_) #[true, false, false, true, false, false, false, false, false, false] rfl rfl (any_of HT_.out (by kernel_rfl)) (fun _ _ _ h => h) (Or.inl ⟨by rfl, ?_⟩) ?_ ?_
  rotate_left
  · intro w'
    go_simp
    with_reducible rfl
  rotate_left
  · simp only [Act.put, List.setIfInBounds_toArray, List.set_cons_zero, List.set_cons_succ, i64_w, i32_w]
    rfl
  refine take_ (i := 1) (N := some 4) (v := ?_) (a' := ?_) #[true, true, false, true, false, false, false, false, false, false] rfl rfl (take_ofW HT_.out HW_.out (by kernel_rfl)) (fun _ _ _ h => h) (Or.inl ⟨by rfl, ?_⟩) hHeld ?_ ?_
  rotate_left
  · intro w' hS
    have hc := (blk_cell hS 6).trans rfl
    go_simp
    with_reducible rfl
  rotate_left
  · simp only [Act.put, List.setIfInBounds_toArray, List.set_cons_zero, List.set_cons_succ, i64_w, i32_w]
    rfl
  refine take_ (i := 4) (N := some 7) (v := ?_) (a' := ?_) #[true, true, false, true, true, false, false, false, false, false] rfl rfl (take_ofW HT_.out HW_.out (by kernel_rfl)) (fun _ _ _ h => h) (Or.inl ⟨by rfl, ?_⟩) hHeld ?_ ?_
  rotate_left
  · intro w' hS
    have hc := (blk_cell hS 11).trans rfl
    go_simp
    with_reducible rfl
  rotate_left
  · simp only [Act.put, List.setIfInBounds_toArray, List.set_cons_zero, List.set_cons_succ, i64_w, i32_w]
    rfl
  generalize hW : W.drew = V at hHeld ⊢
  have B2 : V.heap[w.heap.size + 1]? = some (.cells #[.string (⟨#[]⟩ : ByteArray), .bool false, .int .i64 0, .int .i64 0, .int .i64 0, .int .i64 0, .slice none 0 0, .int .i64 0, .int .i64 0, .int .i64 0, .int .i64 0, .slice none 0 0, .int .i64 0, .int .i64 0, .int .i64 0, .int .i64 0] 36 (0, 0)) := by rw [← hW]; exact B2
  have HG := Lib.hid (show Below w.heap.size w V by rw [← hW]; exact below_drew1 HG.out)
  have hV : w.heap.size + 1 < V.heap.size := blk_lt B2
  clear hW B1
  refine one_ (i := 2) (N := some 5) #[true, true, true, true, true, false, false, false, false, false] rfl rfl (one_of HT_.out (by kernel_rfl)) (by decide) (fun K hK => ?_)
  refine goes_ Tryz.func95 (by kernel_rfl) rfl #[.slice A6 n.f3.length c6] (by rfl) rfl rfl (by (try simp only [List.map_toArray, List.map_cons, List.map_nil]); first | done | rfl) ?_
  refine (clone110 _ _ _ _ (Kd.C_below HC.out HG.out) (by have := HF.out.1; omega)).mono ?_
  rintro e V1 ⟨B6, d6, rfl, hl6, hB6, hb⟩
  refine ⟨_, rfl, ?_⟩
  replace hHeld := blk_below hHeld hb
  replace B2 := blk_below B2 hb
  have HG := Lib.hid (below_step HG.out hb)
  have HC := Lib.hid (Kd.F_mono hB6 (ok' := fun k => w.heap.size + 1 < k) (fun k hk => Nat.lt_of_lt_of_le hV hk))
  refine hK.out _ _ hHeld ?_
  clear hK K hb hB6
  intro _
  refine norm_ (a' := ?_) ?_ ?_
  rotate_left
  · show Act.put _ (some 5) _ = _
    simp only [Act.put, List.setIfInBounds_toArray, List.set_cons_zero, List.set_cons_succ, i64_w, i32_w]
    rfl
  refine pure_ (i := 6) (N := some 9) (v := ?_) (a' := ?_) #[true, true, true, true, true, false, true, false, false, false] rfl rfl (any_of HT_.out (by kernel_rfl)) (fun _ _ _ h => h) (Or.inl ⟨by rfl, ?_⟩) ?_ ?_
  rotate_left
  · intro w'
    go_simp
    with_reducible rfl
  rotate_left
  · simp only [Act.put, List.setIfInBounds_toArray, List.set_cons_zero, List.set_cons_succ, i64_w, i32_w]
    rfl
  refine one_ (i := 5) (N := some 8) #[true, true, true, true, true, true, true, false, false, false] rfl rfl (one_of HT_.out (by kernel_rfl)) (by decide) (fun K hK => ?_)
  refine goes_ Tryz.func96 (by kernel_rfl) rfl #[.slice A11 n.f5.length c11] (by rfl) rfl rfl (by (try simp only [List.map_toArray, List.map_cons, List.map_nil]); first | done | rfl) ?_
  refine (clone111 _ _ _ _ (Kd.C_below HD.out HG.out) (by have := HF.out.2; omega)).mono ?_
  rintro e V2 ⟨B11, d11, rfl, hl11, hB11, hb⟩
  refine ⟨_, rfl, ?_⟩
  replace hHeld := blk_below hHeld hb
  have B2' := B2
  replace B2 := blk_below B2 hb
  have HG := Lib.hid (below_step HG.out hb)
  have HC := Lib.hid (Kd.F_below HC.out hb)
  have HD := Lib.hid (Kd.F_mono hB11 (ok' := fun k => w.heap.size + 1 < k) (fun k hk => Nat.lt_of_lt_of_le (blk_lt B2') hk))
  refine hK.out _ _ hHeld ?_
  clear hK K hb hB11
  intro _
  refine norm_ (a' := ?_) ?_ ?_
  rotate_left
  · show Act.put _ (some 8) _ = _
    simp only [Act.put, List.setIfInBounds_toArray, List.set_cons_zero, List.set_cons_succ, i64_w, i32_w]
    rfl
  refine last_ (i := 7) (N := none) #[true, true, true, true, true, true, true, true, false, false] rfl rfl (one_of HT_.out (by kernel_rfl)) (by decide) (fun K hK => ?_)
  have hs := (blk_cell hHeld 6).trans rfl
  have hf := blk_frozen hHeld 6
  refine skip_ (w1 := ?_) (by rfl) rfl ?_ ?_
  rotate_left
  · go_simp
    rfl
  clear hs hf
  refine hK.out _ _ ?_
  clear hK K
  refine pure_ (i := 8) (N := some 10) (v := ?_) (a' := ?_) #[true, true, true, true, true, true, true, true, true, false] rfl rfl (any_of HT_.out (by kernel_rfl)) (fun _ _ _ h => h) (Or.inl ⟨by rfl, ?_⟩) ?_ ?_
  rotate_left
  · intro w'
    go_simp
    with_reducible rfl
  rotate_left
  · simp only [Act.put, List.setIfInBounds_toArray, List.set_cons_zero, List.set_cons_succ, i64_w, i32_w]
    rfl
  refine last_ (i := 9) (N := none) #[true, true, true, true, true, true, true, true, true, true] rfl rfl (one_of HT_.out (by kernel_rfl)) (by decide) (fun K hK => ?_)
  have hs := (blk_cell hHeld 11).trans rfl
  have hf := blk_frozen hHeld 11
  refine skip_ (w1 := ?_) (by rfl) rfl ?_ ?_
  rotate_left
  · go_simp
    rfl
  clear hs hf
  refine hK.out _ _ ?_
  clear hK K
  refine done_ (done_of HT_.out (by kernel_rfl)) ?_
  clear HT_ HW_
  generalize hV : (V2.setCell ⟨w.heap.size, 6, none⟩ (.slice B6 n.f3.length d6)).setCell ⟨w.heap.size, 11, none⟩ (.slice B11 n.f5.length d11) = V3
  have E1 : V3.heap[w.heap.size]? = some (.cells #[.string n.f0, .bool n.f1, .int .i64 n.f2.f0, .int .i64 n.f2.f1, .int .i64 n.f2.f2, .int .i64 n.f2.f3, .slice B6 n.f3.length d6, .int .i64 n.f4.f0, .int .i64 n.f4.f1, .int .i64 n.f4.f2, .int .i64 n.f4.f3, .slice B11 n.f5.length d11, .int .i64 n.f6.f0, .int .i64 n.f6.f1, .int .i64 n.f6.f2, .int .i64 n.f6.f3] 36 (0, 0)) := by rw [← hV]; exact blk_put (blk_put hHeld 6 _ rfl) 11 _ rfl
  have E2 : V3.heap[w.heap.size + 1]? = some (.cells #[.string (⟨#[]⟩ : ByteArray), .bool false, .int .i64 0, .int .i64 0, .int .i64 0, .int .i64 0, .slice none 0 0, .int .i64 0, .int .i64 0, .int .i64 0, .int .i64 0, .slice none 0 0, .int .i64 0, .int .i64 0, .int .i64 0, .int .i64 0] 36 (0, 0)) := by rw [← hV]; exact blk_far (blk_far B2 (by simp) _) (by simp) _
  have hc : Kd.F k96 V3 (fun k => w.heap.size + 1 < k) B6 n.f3.length n.f3 := by rw [← hV]; exact Kd.F_far (Kd.F_far HC.out (p := ⟨w.heap.size, 6, none⟩) (fun k hk => by show k ≠ w.heap.size; omega) _) (p := ⟨w.heap.size, 11, none⟩) (fun k hk => by show k ≠ w.heap.size; omega) _
  have hd : Kd.F (Kd.int .i64) V3 (fun k => w.heap.size + 1 < k) B11 n.f5.length n.f5 := by rw [← hV]; exact Kd.F_far (Kd.F_far HD.out (p := ⟨w.heap.size, 6, none⟩) (fun k hk => by show k ≠ w.heap.size; omega) _) (p := ⟨w.heap.size, 11, none⟩) (fun k hk => by show k ≠ w.heap.size; omega) _
  have HB3 := Lib.hid (show Below w.heap.size w V3 by rw [← hV]; exact below_set (below_set HG.out (Nat.le_refl _)) (Nat.le_refl _))
  have HK3 := Lib.hid (k50_mkF V3 _ n hl6 hc hl11 hd)
  have r1 := rd50_blk E1 rfl
  have r2 := wr50_blk E2 (cs := #[.string n.f0, .bool n.f1, .int .i64 n.f2.f0, .int .i64 n.f2.f1, .int .i64 n.f2.f2, .int .i64 n.f2.f3, .slice B6 n.f3.length d6, .int .i64 n.f4.f0, .int .i64 n.f4.f1, .int .i64 n.f4.f2, .int .i64 n.f4.f3, .slice B11 n.f5.length d11, .int .i64 n.f6.f0, .int .i64 n.f6.f1, .int .i64 n.f6.f2, .int .i64 n.f6.f3]) rfl rfl (by simp [Value.oneCell'])
  have HE := Lib.hid (setRow_heap _ _ _ #[.string n.f0, .bool n.f1, .int .i64 n.f2.f0, .int .i64 n.f2.f1, .int .i64 n.f2.f2, .int .i64 n.f2.f3, .slice B6 n.f3.length d6, .int .i64 n.f4.f0, .int .i64 n.f4.f1, .int .i64 n.f4.f2, .int .i64 n.f4.f3, .slice B11 n.f5.length d11, .int .i64 n.f6.f0, .int .i64 n.f6.f1, .int .i64 n.f6.f2, .int .i64 n.f6.f3] _ _ E2)
  clear hc hd hV E1 E2 HC HD HG B2 hHeld
  go_wp2
  refine bodyPost_ret (results_cell_row rfl _ _ (w.heap.size + 1) 36 _ (0, 0) _ rfl HE.out Tryz.underlying36 rfl (by kernel_rfl)) rfl ?_
  refine ⟨_, rfl, ?_, below_setRow HB3.out (Nat.le_succ _) _⟩
  exact Kd.FK_mono (Kd.FK_step HK3.out fun k hk _ => setRow_other _ _ _ _ (by omega)) (fun k hk => by omega)
end Go.Proofs.YteilkbookcmndaaGreatDoor.C
namespace Go.Proofs.YteilkbookcmndaaGreatDoor.C
open Go.RowKit Go.Proofs.YteilkbookcmndaaGreatDoor.Q Go.Proofs.YteilkbookcmndaaGreatDoorW.PrintWords Go.Proofs.YteilkbookcmndaaGreatDoorW.PrintLast Go.Proofs.YteilkbookcmndaaGreatDoorW.PrintMore
open Go.Shelf Go.Lib Go.Sort
def lays16_ren : Go.Shelf.Ren := ⟨fun | 16 => 71 | n => n, fun | 35 => 148 | 38 => 141 | n => n, fun n => n⟩
theorem lays16 : Go.Proofs.SlLaysO.n16 Tryz.prog lays16_ren := {
  mixed := by kernel_rfl
  f16 := Tryz.func71.trans (congrArg some (by kernel_rfl))
  t3 := Tryz.underlying3
  a3 := Tryz.isAgg3
  z3 := Tryz.sizeOf3
  v3 := Tryz.zeroValue3
  t4 := Tryz.underlying4
  a4 := Tryz.isAgg4
  z4 := Tryz.sizeOf4
  v4 := Tryz.zeroValue4
  t35 := Tryz.underlying148
  a35 := Tryz.isAgg148
  z35 := Tryz.sizeOf148
  v35 := Tryz.zeroValue148
  t38 := Tryz.underlying141
  a38 := Tryz.isAgg141
  z38 := Tryz.sizeOf141
  v38 := Tryz.zeroValue141
}
def less (a b : ByteArray) : Bool := Op.bytesLess a.toList b.toList
theorem k50_f0 {w : World} {A : Option Addr} {xs : List S50} (hC : Kd.C k50 w A xs.length xs) (i : Nat) (hi : i < xs.length) : ∃ ad, A = some ad ∧ w.cell? (ad.add (i * 16)) = some (.string (xs.getD i z50).f0) := by
  obtain ⟨ad, A6, c6, A11, c11, e, h0, _⟩ := at_T50 hC (i : Int) (by omega) (by omega)
  exact ⟨ad, e, h0⟩
theorem k96_f0 {w : World} {A : Option Addr} {xs : List S96} (hC : Kd.C k96 w A xs.length xs) (i : Nat) (hi : i < xs.length) : ∃ ad, A = some ad ∧ w.cell? (ad.add (i * 2)) = some (.string (xs.getD i z96).f0) := by
  obtain ⟨ad, e, h0, _⟩ := at_T96 hC (i : Int) (by omega) (by omega)
  exact ⟨ad, e, h0⟩
def atN (l : List S50) (p : ByteArray) : Nat := (List.range l.length).countP fun i => less (l.getD i z50).f0 p
def isN (l : List S50) (p : ByteArray) : Bool := decide (atN l p < l.length) && ((l.getD (atN l p) z50).f0.toList == p.toList)
def RisingN (l : List S50) (p : ByteArray) : Prop := ∀ a b, a ≤ b → b < l.length → less (l.getD b z50).f0 p = true → less (l.getD a z50).f0 p = true
set_option maxHeartbeats 2000000 in
set_option maxRecDepth 100000 in
theorem closure109 (ba bx : Nat) (ad : Addr) (n cap : Nat) (x y : ByteArray) (i : Nat) (W : World) (hi : i < n)
    (ha : W.cell? ⟨ba, 0, none⟩ = some (.slice (some ad) n cap)) (hx : W.cell? ⟨bx, 0, none⟩ = some (.string x)) (hc : W.cell? (ad.add (i * 16)) = some (.string y)) :
    Calls Tryz.prog 72 (#[.int .i64 i] ++ #[.pointer (some ⟨ba, 0, none⟩), .pointer (some ⟨bx, 0, none⟩)]) W fun e w' => e = .returned (.bool (!less y x)) ∧ ∃ q, w' = W.drewN q := by
  have hiz : (i : Int) < (n : Int) := by omega
  have mixed : Tryz.prog.follows .mixedOrders = true := by kernel_rfl
  go_enter Tryz.func72, Tryz.ntmps72
  go_wp2
  go_region_o
  all_goals go_wp2
  all_goals go_ret
  all_goals exact ⟨by first | rfl | simp [less], 1, rfl⟩
theorem at_leN (l : List S50) (p : ByteArray) : atN l p ≤ l.length := by
  have := List.countP_le_length (p := fun i => less (l.getD i z50).f0 p) (l := List.range l.length)
  simpa [atN] using this
set_option maxHeartbeats 2000000 in
set_option maxRecDepth 100000 in
theorem placeN (l : List S50) (p : ByteArray) (A : Option Addr) (c : Nat) (w : World) (hC : Kd.C k50 w A l.length l) (hc : l.length ≤ c) (hn : l.length < 1000000) (hR : RisingN l p) :
    Calls Tryz.prog 50 #[.slice A l.length c, .string p] w fun e w' => e = .returned (.tuple #[.int .i64 (atN l p : Nat), .bool (isN l p)]) ∧ Below w.heap.size w w' := by
  obtain ⟨W0, hW0⟩ : ∃ W0, W0 = (w.alloc (.cells #[.slice A l.length c] 27)).alloc (.cells #[.string p] 9) := ⟨_, rfl⟩
  have hsize : W0.heap.size = w.heap.size + 1 + 1 := by rw [hW0]; simp
  have hB0 : Below w.heap.size w W0 := by rw [hW0]; exact below_alloc (below_alloc (Below.refl _ _) _) _
  have ca : W0.cell? ⟨w.heap.size, 0, none⟩ = some (.slice A l.length c) := by rw [hW0]; exact cell_alloc_sl _ (cell_new_sl w _ _)
  have cx : W0.cell? ⟨w.heap.size + 1, 0, none⟩ = some (.string p) := by rw [hW0]; have := cell_new_sl (w.alloc (.cells #[.slice A l.length c] 27)) (.string p) 9; rwa [World.size_alloc] at this
  have HC := Lib.hid (Kd.C_below hC hB0)
  clear hC
  have HB := Lib.hid hB0
  clear hB0
  have eg : ∀ args w, (callFunc 72 args).run Tryz.prog w = .ok (.enter 72 args) w := enters_of Tryz.func72 (by kernel_rfl) rfl
  have hel : ∀ (m : Nat) (os : Array Obj) (i : Nat), i < l.length → ∃ ad, A = some ad ∧ (grow (W0.drewN m) os).cell? (ad.add (i * 16)) = some (.string (l.getD i z50).f0) := by
    intro m os i hi
    obtain ⟨ad, hA, h0⟩ := (k50_f0 HC.out i hi)
    exact ⟨ad, hA, cell_grown (World.block_lt_of_cell? _ _ h0) h0 m os⟩
  have hS : Calls Tryz.prog 71 #[.int .i64 l.length, .func (.func 72) #[] #[.pointer (some ⟨w.heap.size, 0, none⟩), .pointer (some ⟨w.heap.size + 1, 0, none⟩)]] W0 fun e w' => e = .returned (.int .i64 ((List.range l.length).countP (fun i => !(!less (l.getD i z50).f0 p)) : Nat)) ∧ ∃ q os, w' = grow (W0.drewN q) os :=
    Any.sort_Search lays16 72 #[.pointer (some ⟨w.heap.size, 0, none⟩), .pointer (some ⟨w.heap.size + 1, 0, none⟩)] l.length (fun i => !less (l.getD i z50).f0 p) W0 eg (by omega)
      (fun m os i hi => by
        obtain ⟨ad, rfl, h0⟩ := hel m os i hi
        refine (closure109 _ _ ad _ c p _ i _ hi (cell_grown (by simp [hsize]; omega) ca m os) (cell_grown (by simp [hsize]) cx m os) h0).mono ?_
        rintro _ _ ⟨he, q, hq⟩
        exact ⟨he, q, #[], by rw [hq, grow_empty]⟩)
      (fun a b hab hb h => by
        cases hl : less (l.getD b z50).f0 p with
        | false => rfl
        | true => have := hR a b hab hb hl; simp only [this] at h; cases h)
  simp only [Bool.not_not] at hS
  replace hS : Calls Tryz.prog 71 _ W0 fun e w' => e = .returned (.int .i64 (atN l p : Nat)) ∧ ∃ q os, w' = grow (W0.drewN q) os := hS
  have hle := at_leN l p
  have HI0 : isN l p = (decide (atN l p < l.length) && ((l.getD (atN l p) z50).f0.toList == p.toList)) := rfl
  have HI := Lib.hid HI0
  clear HI0
  generalize atN l p = i at hS hle HI ⊢
  generalize isN l p = b at HI ⊢
  replace hS : Calls Tryz.prog 71 #[.int .i64 l.length, .func (.func 72) #[] #[.pointer (some ⟨w.heap.size, 0, none⟩), .pointer (some ⟨w.heap.size + 1, 0, none⟩)]] W0 fun e w' => e = .returned (.int .i64 (i : Nat)) ∧ w'.cell? ⟨w.heap.size, 0, none⟩ = some (.slice A l.length c) ∧ w'.cell? ⟨w.heap.size + 1, 0, none⟩ = some (.string p) ∧ Hid (i < l.length → ∃ ad, A = some ad ∧ w'.cell? (ad.add (i * 16)) = some (.string (l.getD i z50).f0)) ∧ Hid (RowKit.Below w.heap.size w w') := by
    refine hS.mono ?_
    rintro e w' ⟨rfl, q, os, rfl⟩
    exact ⟨rfl, cell_grown (by simp [hsize]; omega) ca q os, cell_grown (by simp [hsize]) cx q os, Lib.hid (hel q os i), Lib.hid (HB.out.trans (below_grown_sl w.heap.size W0 q os (by omega)))⟩
  clear hel hR ca cx
  have HW := Lib.hid hW0
  clear hW0
  have mixed : Tryz.prog.follows .mixedOrders = true := by kernel_rfl
  have e108 : ∀ args w, (callFunc 71 args).run Tryz.prog w = .ok (.enter 71 args) w := enters_of Tryz.func71 (by kernel_rfl) rfl
  by_cases hlt : i < l.length
  · have HI2 := Lib.hid (show b = ((l.getD i z50).f0.toList == p.toList) by rw [HI.out]; simp [hlt])
    clear HI
    go_enter Tryz.func50, Tryz.ntmps50
    go_wp2_with (go_at_fn 71; rw [← HW.out]; refine hS.mono ?_; rintro e w' ⟨rfl, hl, hp, HE, HB'⟩)
    obtain ⟨ad, rfl, he⟩ := HE.out hlt
    generalize (l.getD i z50).f0 = y at he HI2
    clear HE
    go_region_o
    all_goals go_wp2
    all_goals refine bodyPost_ret (results_tmp2 rfl _ _ _) rfl ?_
    all_goals exact ⟨by rw [HI2.out]; rfl, below_drew1 HB'.out⟩
  · have HI2 := Lib.hid (show b = false by rw [HI.out]; simp [hlt])
    clear HI
    go_enter Tryz.func50, Tryz.ntmps50
    go_wp2_with (go_at_fn 71; rw [← HW.out]; refine hS.mono ?_; rintro e w' ⟨rfl, hl, hp, HE, HB'⟩)
    clear HE
    go_region_o
    all_goals go_wp2
    all_goals refine bodyPost_ret (results_tmp2 rfl _ _ _) rfl ?_
    all_goals exact ⟨by rw [HI2.out]; rfl, below_drew1 HB'.out⟩
def atG (l : List S96) (p : ByteArray) : Nat := (List.range l.length).countP fun i => less (l.getD i z96).f0 p
def isG (l : List S96) (p : ByteArray) : Bool := decide (atG l p < l.length) && ((l.getD (atG l p) z96).f0.toList == p.toList)
def RisingG (l : List S96) (p : ByteArray) : Prop := ∀ a b, a ≤ b → b < l.length → less (l.getD b z96).f0 p = true → less (l.getD a z96).f0 p = true
set_option maxHeartbeats 2000000 in
set_option maxRecDepth 100000 in
theorem closure118 (ba bx : Nat) (ad : Addr) (n cap : Nat) (x y : ByteArray) (i : Nat) (W : World) (hi : i < n)
    (ha : W.cell? ⟨ba, 0, none⟩ = some (.slice (some ad) n cap)) (hx : W.cell? ⟨bx, 0, none⟩ = some (.string x)) (hc : W.cell? (ad.add (i * 2)) = some (.string y)) :
    Calls Tryz.prog 92 (#[.int .i64 i] ++ #[.pointer (some ⟨ba, 0, none⟩), .pointer (some ⟨bx, 0, none⟩)]) W fun e w' => e = .returned (.bool (!less y x)) ∧ ∃ q, w' = W.drewN q := by
  have hiz : (i : Int) < (n : Int) := by omega
  have mixed : Tryz.prog.follows .mixedOrders = true := by kernel_rfl
  go_enter Tryz.func92, Tryz.ntmps92
  go_wp2
  go_region_o
  all_goals go_wp2
  all_goals go_ret
  all_goals exact ⟨by first | rfl | simp [less], 1, rfl⟩
theorem at_leG (l : List S96) (p : ByteArray) : atG l p ≤ l.length := by
  have := List.countP_le_length (p := fun i => less (l.getD i z96).f0 p) (l := List.range l.length)
  simpa [atG] using this
set_option maxHeartbeats 2000000 in
set_option maxRecDepth 100000 in
theorem placeG (l : List S96) (p : ByteArray) (A : Option Addr) (c : Nat) (w : World) (hC : Kd.C k96 w A l.length l) (hc : l.length ≤ c) (hn : l.length < 1000000) (hR : RisingG l p) :
    Calls Tryz.prog 60 #[.slice A l.length c, .string p] w fun e w' => e = .returned (.tuple #[.int .i64 (atG l p : Nat), .bool (isG l p)]) ∧ Below w.heap.size w w' := by
  obtain ⟨W0, hW0⟩ : ∃ W0, W0 = (w.alloc (.cells #[.slice A l.length c] 31)).alloc (.cells #[.string p] 9) := ⟨_, rfl⟩
  have hsize : W0.heap.size = w.heap.size + 1 + 1 := by rw [hW0]; simp
  have hB0 : Below w.heap.size w W0 := by rw [hW0]; exact below_alloc (below_alloc (Below.refl _ _) _) _
  have ca : W0.cell? ⟨w.heap.size, 0, none⟩ = some (.slice A l.length c) := by rw [hW0]; exact cell_alloc_sl _ (cell_new_sl w _ _)
  have cx : W0.cell? ⟨w.heap.size + 1, 0, none⟩ = some (.string p) := by rw [hW0]; have := cell_new_sl (w.alloc (.cells #[.slice A l.length c] 31)) (.string p) 9; rwa [World.size_alloc] at this
  have HC := Lib.hid (Kd.C_below hC hB0)
  clear hC
  have HB := Lib.hid hB0
  clear hB0
  have eg : ∀ args w, (callFunc 92 args).run Tryz.prog w = .ok (.enter 92 args) w := enters_of Tryz.func92 (by kernel_rfl) rfl
  have hel : ∀ (m : Nat) (os : Array Obj) (i : Nat), i < l.length → ∃ ad, A = some ad ∧ (grow (W0.drewN m) os).cell? (ad.add (i * 2)) = some (.string (l.getD i z96).f0) := by
    intro m os i hi
    obtain ⟨ad, hA, h0⟩ := (k96_f0 HC.out i hi)
    exact ⟨ad, hA, cell_grown (World.block_lt_of_cell? _ _ h0) h0 m os⟩
  have hS : Calls Tryz.prog 71 #[.int .i64 l.length, .func (.func 92) #[] #[.pointer (some ⟨w.heap.size, 0, none⟩), .pointer (some ⟨w.heap.size + 1, 0, none⟩)]] W0 fun e w' => e = .returned (.int .i64 ((List.range l.length).countP (fun i => !(!less (l.getD i z96).f0 p)) : Nat)) ∧ ∃ q os, w' = grow (W0.drewN q) os :=
    Any.sort_Search lays16 92 #[.pointer (some ⟨w.heap.size, 0, none⟩), .pointer (some ⟨w.heap.size + 1, 0, none⟩)] l.length (fun i => !less (l.getD i z96).f0 p) W0 eg (by omega)
      (fun m os i hi => by
        obtain ⟨ad, rfl, h0⟩ := hel m os i hi
        refine (closure118 _ _ ad _ c p _ i _ hi (cell_grown (by simp [hsize]; omega) ca m os) (cell_grown (by simp [hsize]) cx m os) h0).mono ?_
        rintro _ _ ⟨he, q, hq⟩
        exact ⟨he, q, #[], by rw [hq, grow_empty]⟩)
      (fun a b hab hb h => by
        cases hl : less (l.getD b z96).f0 p with
        | false => rfl
        | true => have := hR a b hab hb hl; simp only [this] at h; cases h)
  simp only [Bool.not_not] at hS
  replace hS : Calls Tryz.prog 71 _ W0 fun e w' => e = .returned (.int .i64 (atG l p : Nat)) ∧ ∃ q os, w' = grow (W0.drewN q) os := hS
  have hle := at_leG l p
  have HI0 : isG l p = (decide (atG l p < l.length) && ((l.getD (atG l p) z96).f0.toList == p.toList)) := rfl
  have HI := Lib.hid HI0
  clear HI0
  generalize atG l p = i at hS hle HI ⊢
  generalize isG l p = b at HI ⊢
  replace hS : Calls Tryz.prog 71 #[.int .i64 l.length, .func (.func 92) #[] #[.pointer (some ⟨w.heap.size, 0, none⟩), .pointer (some ⟨w.heap.size + 1, 0, none⟩)]] W0 fun e w' => e = .returned (.int .i64 (i : Nat)) ∧ w'.cell? ⟨w.heap.size, 0, none⟩ = some (.slice A l.length c) ∧ w'.cell? ⟨w.heap.size + 1, 0, none⟩ = some (.string p) ∧ Hid (i < l.length → ∃ ad, A = some ad ∧ w'.cell? (ad.add (i * 2)) = some (.string (l.getD i z96).f0)) ∧ Hid (RowKit.Below w.heap.size w w') := by
    refine hS.mono ?_
    rintro e w' ⟨rfl, q, os, rfl⟩
    exact ⟨rfl, cell_grown (by simp [hsize]; omega) ca q os, cell_grown (by simp [hsize]) cx q os, Lib.hid (hel q os i), Lib.hid (HB.out.trans (below_grown_sl w.heap.size W0 q os (by omega)))⟩
  clear hel hR ca cx
  have HW := Lib.hid hW0
  clear hW0
  have mixed : Tryz.prog.follows .mixedOrders = true := by kernel_rfl
  have e108 : ∀ args w, (callFunc 71 args).run Tryz.prog w = .ok (.enter 71 args) w := enters_of Tryz.func71 (by kernel_rfl) rfl
  by_cases hlt : i < l.length
  · have HI2 := Lib.hid (show b = ((l.getD i z96).f0.toList == p.toList) by rw [HI.out]; simp [hlt])
    clear HI
    go_enter Tryz.func60, Tryz.ntmps60
    go_wp2_with (go_at_fn 71; rw [← HW.out]; refine hS.mono ?_; rintro e w' ⟨rfl, hl, hp, HE, HB'⟩)
    obtain ⟨ad, rfl, he⟩ := HE.out hlt
    generalize (l.getD i z96).f0 = y at he HI2
    clear HE
    go_region_o
    all_goals go_wp2
    all_goals refine bodyPost_ret (results_tmp2 rfl _ _ _) rfl ?_
    all_goals exact ⟨by rw [HI2.out]; rfl, below_drew1 HB'.out⟩
  · have HI2 := Lib.hid (show b = false by rw [HI.out]; simp [hlt])
    clear HI
    go_enter Tryz.func60, Tryz.ntmps60
    go_wp2_with (go_at_fn 71; rw [← HW.out]; refine hS.mono ?_; rintro e w' ⟨rfl, hl, hp, HE, HB'⟩)
    clear HE
    go_region_o
    all_goals go_wp2
    all_goals refine bodyPost_ret (results_tmp2 rfl _ _ _) rfl ?_
    all_goals exact ⟨by rw [HI2.out]; rfl, below_drew1 HB'.out⟩
end Go.Proofs.YteilkbookcmndaaGreatDoor.C
namespace Go.Proofs.YteilkbookcmndaaGreatDoor.C
open Go.RowKit Go.Proofs.YteilkbookcmndaaGreatDoor.Q Go.Proofs.YteilkbookcmndaaGreatDoorW.PrintWords Go.Proofs.YteilkbookcmndaaGreatDoorW.PrintLast Go.Proofs.YteilkbookcmndaaGreatDoorW.PrintMore
attribute [local go_sem ↓] rd_at50 wr_at50 al_at50
attribute [local go_sem] rd50_new wr50_new al50
def FoundF (ok : Nat → Prop) (n : S50) (b : Bool) (w : World) (e : Ending) (w' : World) : Prop := ∃ cs : List Value, e = .returned (.tuple #[.agg cs.toArray, .bool b]) ∧ k50.FK w' ok n cs ∧ Below w.heap.size w w'
def nodeN (l : List S50) (p : ByteArray) : S50 := if isN l p then l.getD (atN l p) z50 else z50
theorem isN_lt {l : List S50} {p : ByteArray} (h : isN l p = true) : atN l p < l.length := by
  simp only [isN, Bool.and_eq_true, decide_eq_true_eq] at h
  exact h.1
theorem z50_FK (w : World) (ok : Nat → Prop) : k50.FK w ok z50 [.string (⟨#[]⟩ : ByteArray), .bool false, .int .i64 0, .int .i64 0, .int .i64 0, .int .i64 0, .slice none 0 0, .int .i64 0, .int .i64 0, .int .i64 0, .int .i64 0, .slice none 0 0, .int .i64 0, .int .i64 0, .int .i64 0, .int .i64 0] := fun W' _ => z50_K W'
set_option maxHeartbeats 1000000 in
set_option maxRecDepth 100000 in
theorem tfind (l : List S50) (p : ByteArray) (A : Option Addr) (c : Nat) (w : World) (hC : Kd.C k50 w A l.length l) (hc : l.length ≤ c) (hn : l.length < 1000000) (hR : RisingN l p) (hF : ∀ n ∈ l, Fits n) :
    Calls Tryz.prog 57 #[.slice A l.length c, .string p] w (FoundF (fun k => w.heap.size ≤ k) (nodeN l p) (isN l p) w) := by
  have HC := Lib.hid hC
  have HP := Lib.hid fun w1 (hb : Below w.heap.size w w1) => placeN l p A c w1 (Kd.C_below hC hb) hc hn hR
  have HN := Lib.hid (fun h => isN_lt h : isN l p = true → atN l p < l.length)
  have HZ0 : nodeN l p = if isN l p then l.getD (atN l p) z50 else z50 := rfl
  have HZ := Lib.hid HZ0
  have HF := Lib.hid hF
  clear hC HZ0 hR hF
  generalize nodeN l p = nd at HZ ⊢
  generalize atN l p = i at HP HN HZ
  generalize isN l p = b at HP HN HZ ⊢
  go_enter Tryz.func57, Tryz.ntmps57
  cases b with
  | false =>
    go_wp2_with (go_at_call 50; refine (HP.out _ (below_alloc (Below.refl _ _) _)).mono ?_; rintro e w1 ⟨rfl, hb⟩; have E1 := blk_below (blk_new w _) hb; have r2 := wr50_blk E1 (cs := #[.string (⟨#[]⟩ : ByteArray), .bool false, .int .i64 0, .int .i64 0, .int .i64 0, .int .i64 0, .slice none 0 0, .int .i64 0, .int .i64 0, .int .i64 0, .int .i64 0, .slice none 0 0, .int .i64 0, .int .i64 0, .int .i64 0, .int .i64 0]) rfl rfl (by simp [Value.oneCell']); have HE := Lib.hid (setRow_heap _ _ _ #[.string (⟨#[]⟩ : ByteArray), .bool false, .int .i64 0, .int .i64 0, .int .i64 0, .int .i64 0, .slice none 0 0, .int .i64 0, .int .i64 0, .int .i64 0, .int .i64 0, .slice none 0 0, .int .i64 0, .int .i64 0, .int .i64 0, .int .i64 0] _ _ E1); have HB := Lib.hid (below_setRow (below_step (below_alloc (Below.refl w.heap.size w) _) hb) (Nat.le_refl _) #[.string (⟨#[]⟩ : ByteArray), .bool false, .int .i64 0, .int .i64 0, .int .i64 0, .int .i64 0, .slice none 0 0, .int .i64 0, .int .i64 0, .int .i64 0, .int .i64 0, .slice none 0 0, .int .i64 0, .int .i64 0, .int .i64 0, .int .i64 0]); clear E1 hb)
    refine bodyPost_ret (results_ct rfl _ _ w.heap.size 36 _ (0, 0) _ rfl HE.out Tryz.underlying36 rfl (by kernel_rfl)) rfl ?_
    refine ⟨_, rfl, ?_, HB.out⟩
    rw [HZ.out]
    exact z50_FK _ _
  | true =>
    have hi := HN.out rfl
    clear HN
    go_wp2_with (first | (go_at_call 50; refine (HP.out _ (below_alloc (Below.refl _ _) _)).mono ?_; rintro e w1 ⟨rfl, hb⟩; have E1 := Lib.hid (blk_below (blk_new w _) hb); have HB := Lib.hid (below_step (below_alloc (Below.refl w.heap.size w) _) hb); clear hb; obtain ⟨ad, A6, c6, A11, c11, rfl, hcs, HK⟩ := at50 HC.out HB.out i hi; have hld := rd50_of (loadC50 (P := Tryz.prog) hcs); have HT := Lib.hid (twin_c _ _ w1 (k50.K_below HB.out HK.out) (HF.out _ (List.getElem_mem hi))); have HZ2 := Lib.hid (show nd = l[i] by rw [HZ.out]; simp [List.getD_eq_getElem?_getD, List.getElem?_eq_getElem hi]); clear hcs HK HZ HC HF) | (go_at_call 70; refine HT.out.mono ?_; rintro e w2 ⟨cs2, rfl, hFK, hb⟩; have hw1 : w.heap.size < w1.heap.size := blk_lt E1.out; have E2 := blk_below E1.out hb; have hl2 : cs2.toArray.size = 16 := k50.K_len (Kd.FK_now hFK); have r2 := wr50_blk E2 (cs := cs2.toArray) rfl hl2 (by simpa using k50.K_one (Kd.FK_now hFK)); have HE := Lib.hid (setRow_heap _ _ _ cs2.toArray _ _ E2); have HB2 := Lib.hid (below_setRow (below_step HB.out hb) (Nat.le_refl _) cs2.toArray); have HFK := Lib.hid (Kd.FK_mono (Kd.FK_step hFK (W1 := w2.setRow w.heap.size cs2.toArray) fun k hk _ => setRow_other _ _ _ _ (by omega)) (ok' := fun k => w.heap.size ≤ k) (fun k hk => by omega)); have HL := Lib.hid hl2; clear E2 hb hFK hl2 HB HT E1))
    refine bodyPost_ret (results_ct rfl _ _ w.heap.size 36 _ (0, 0) _ rfl HE.out Tryz.underlying36 rfl (by rw [HL.out]; kernel_rfl)) rfl ?_
    refine ⟨_, rfl, ?_, HB2.out⟩
    rw [HZ2.out]
    exact HFK.out
end Go.Proofs.YteilkbookcmndaaGreatDoor.C
namespace Go.Proofs.YteilkbookcmndaaGreatDoor.C
open Go.RowKit Go.Proofs.YteilkbookcmndaaGreatDoor.Q Go.Proofs.YteilkbookcmndaaGreatDoorW.PrintWords Go.Proofs.YteilkbookcmndaaGreatDoorW.PrintLast Go.Proofs.YteilkbookcmndaaGreatDoorW.PrintMore
attribute [local go_sem ↓] rd_at50 wr_at50 al_at50
attribute [local go_sem] rd50_new wr50_new al50
attribute [local go_sem high] eqA41
def lover (a b : S41) : Bool := (label_Over.f a.f0 a.f1 a.f2 a.f3 b.f0 b.f1 b.f2 b.f3).getD false
theorem lover_calls (a b : S41) (w : World) : Calls Tryz.prog 58 #[.agg #[.int .i64 a.f0, .int .i64 a.f1, .int .i64 a.f2, .int .i64 a.f3], .agg #[.int .i64 b.f0, .int .i64 b.f1, .int .i64 b.f2, .int .i64 b.f3]] w fun e w' => e = .returned (.bool (lover a b)) ∧ Below w.heap.size w w' :=
  label_Over.calls _ _ _ _ _ _ _ _ _ w (by simp [lover, label_Over.f, label_Join.f])
def fitsB (a : S41) (n : S50) (mode : Int) : Bool := (bits .and .i64 mode 5 == 0 || lover a n.f2) && (bits .and .i64 mode 2 == 0 || (a.f0 == n.f2.f0 && (a.f1 == n.f2.f1 && (a.f2 == n.f2.f2 && a.f3 == n.f2.f3))))
set_option maxHeartbeats 1000000 in
set_option maxRecDepth 100000 in
theorem fits_c (u : ByteArray) (a : S41) (n : S50) (cs : List Value) (mode : Int) (w : World) (hK : k50.K w n cs) :
    Calls Tryz.prog 36 #[.agg #[.string u, .int .i64 a.f0, .int .i64 a.f1, .int .i64 a.f2, .int .i64 a.f3], .agg cs.toArray, .int .i64 mode] w fun e w' => e = .returned (.bool (fitsB a n mode)) ∧ Below w.heap.size w w' := by
  obtain ⟨A6, c6, A11, c11, rfl, l6, g6, l11, g11⟩ := k50_open hK
  clear hK g6 g11
  have HL := Lib.hid fun w1 => lover_calls a n.f2 w1
  have HB := Lib.hid (below_alloc (below_alloc (Below.refl w.heap.size w) (.cells #[.string u, .int .i64 a.f0, .int .i64 a.f1, .int .i64 a.f2, .int .i64 a.f3] 52)) (.cells #[.string n.f0, .bool n.f1, .int .i64 n.f2.f0, .int .i64 n.f2.f1, .int .i64 n.f2.f2, .int .i64 n.f2.f3, .slice A6 n.f3.length c6, .int .i64 n.f4.f0, .int .i64 n.f4.f1, .int .i64 n.f4.f2, .int .i64 n.f4.f3, .slice A11 n.f5.length c11, .int .i64 n.f6.f0, .int .i64 n.f6.f1, .int .i64 n.f6.f2, .int .i64 n.f6.f3] 36))
  obtain ⟨r, hr⟩ : ∃ r, r = fitsB a n mode := ⟨_, rfl⟩
  have HR := Lib.hid hr
  unfold fitsB at hr
  rw [← HR.out]
  by_cases h5 : bits .and .i64 mode 5 = 0
  · by_cases h2 : bits .and .i64 mode 2 = 0
    · have HQ := Lib.hid (show r = true by rw [hr]; simp [h5, h2])
      clear hr
      go_enter Tryz.func36, Tryz.ntmps36
      go_wp2
      all_goals go_ret
      all_goals exact ⟨by rw [HQ.out]; rfl, HB.out⟩
    · have HQ := Lib.hid (show r = (a.f0 == n.f2.f0 && (a.f1 == n.f2.f1 && (a.f2 == n.f2.f2 && a.f3 == n.f2.f3))) by rw [hr]; simp [h5, h2])
      have h2' : (bits .and .i64 mode 2 == 0) = false := by simpa using h2
      clear hr
      go_enter Tryz.func36, Tryz.ntmps36
      go_wp2
      all_goals go_ret
      all_goals exact ⟨by rw [HQ.out]; rfl, HB.out⟩
  · by_cases h2 : bits .and .i64 mode 2 = 0
    · have HQ := Lib.hid (show r = lover a n.f2 by rw [hr]; simp [h5, h2])
      clear hr
      go_enter Tryz.func36, Tryz.ntmps36
      go_wp2_with (go_at_call 58; refine (HL.out _).mono ?_; rintro e w1 ⟨rfl, hb⟩; have HB1 := Lib.hid (below_step HB.out hb); have E1 := blk_below (blk_alloc (blk_new w _) _) hb; have E2 := blk_below (blk_new (w.alloc _) _) hb; rw [World.size_alloc] at E2; have a1 := (blk_cell E1 1).trans rfl; have a2 := (blk_cell E1 2).trans rfl; have a3 := (blk_cell E1 3).trans rfl; have a4 := (blk_cell E1 4).trans rfl; have b2 := (blk_cell E2 2).trans rfl; have b3 := (blk_cell E2 3).trans rfl; have b4 := (blk_cell E2 4).trans rfl; have b5 := (blk_cell E2 5).trans rfl; clear E1 E2 hb; generalize lover a n.f2 = b at HQ ⊢)
      all_goals go_ret
      all_goals exact ⟨by first | (rw [HQ.out]; rfl) | (rw [HQ.out]; cases b <;> first | rfl | (simp_all; done)), HB1.out⟩
    · have HQ := Lib.hid (show r = (lover a n.f2 && (a.f0 == n.f2.f0 && (a.f1 == n.f2.f1 && (a.f2 == n.f2.f2 && a.f3 == n.f2.f3)))) by rw [hr, show (bits .and .i64 mode 5 == 0) = false by simpa using h5, show (bits .and .i64 mode 2 == 0) = false by simpa using h2]; rfl)
      have h2' : (bits .and .i64 mode 2 == 0) = false := by simpa using h2
      clear hr
      go_enter Tryz.func36, Tryz.ntmps36
      go_wp2_with (go_at_call 58; refine (HL.out _).mono ?_; rintro e w1 ⟨rfl, hb⟩; have HB1 := Lib.hid (below_step HB.out hb); have E1 := blk_below (blk_alloc (blk_new w _) _) hb; have E2 := blk_below (blk_new (w.alloc _) _) hb; rw [World.size_alloc] at E2; have a1 := (blk_cell E1 1).trans rfl; have a2 := (blk_cell E1 2).trans rfl; have a3 := (blk_cell E1 3).trans rfl; have a4 := (blk_cell E1 4).trans rfl; have b2 := (blk_cell E2 2).trans rfl; have b3 := (blk_cell E2 3).trans rfl; have b4 := (blk_cell E2 4).trans rfl; have b5 := (blk_cell E2 5).trans rfl; clear E1 E2 hb; generalize lover a n.f2 = b at HQ ⊢)
      all_goals go_ret
      all_goals exact ⟨by first | (rw [HQ.out]; rfl) | (rw [HQ.out]; cases b <;> first | rfl | (simp_all; done)), HB1.out⟩
end Go.Proofs.YteilkbookcmndaaGreatDoor.C
namespace Go.Proofs.YteilkbookcmndaaGreatDoor.C
open Go.RowKit Go.Proofs.YteilkbookcmndaaGreatDoor.Q Go.Proofs.YteilkbookcmndaaGreatDoorW.PrintWords Go.Proofs.YteilkbookcmndaaGreatDoorW.PrintLast Go.Proofs.YteilkbookcmndaaGreatDoorW.PrintMore
def star : ByteArray := ⟨#[42]⟩
def amodes (l : List S96) (u : ByteArray) : Int := if isG l u then (l.getD (atG l u) z96).f1 else if isG l star then (l.getD (atG l star) z96).f1 else 0
theorem isG_lt {l : List S96} {p : ByteArray} (h : isG l p = true) : atG l p < l.length := by
  simp only [isG, Bool.and_eq_true, decide_eq_true_eq] at h
  exact h.1
theorem k96_f1 {w : World} {A : Option Addr} {xs : List S96} (hC : Kd.C k96 w A xs.length xs) (i : Nat) (hi : i < xs.length) : ∃ ad, A = some ad ∧ w.cell? ⟨(ad.add (i * 2)).block, (ad.add (i * 2)).off + 1, none⟩ = some (.int .i64 (xs.getD i z96).f1) := by
  obtain ⟨ad, e, _, h1⟩ := at_T96 hC (i : Int) (by omega) (by omega)
  exact ⟨ad, e, h1⟩
set_option maxHeartbeats 1000000 in
set_option maxRecDepth 100000 in
theorem modes_c (l : List S96) (u : ByteArray) (A : Option Addr) (c : Nat) (w : World) (hC : Kd.C k96 w A l.length l) (hc : l.length ≤ c) (hn : l.length < 1000000) (hR : RisingG l u) (hR2 : RisingG l star) :
    Calls Tryz.prog 37 #[.slice A l.length c, .string u] w fun e w' => e = .returned (.int .i64 (amodes l u)) ∧ Below w.heap.size w w' := by
  have HC := Lib.hid hC
  have HP := Lib.hid fun w1 (hb : Below w.heap.size w w1) => placeG l u A c w1 (Kd.C_below hC hb) hc hn hR
  have HQ := Lib.hid fun w1 (hb : Below w.heap.size w w1) => placeG l star A c w1 (Kd.C_below hC hb) hc hn hR2
  have HN := Lib.hid (fun h => isG_lt h : isG l u = true → atG l u < l.length)
  have HM := Lib.hid (fun h => isG_lt h : isG l star = true → atG l star < l.length)
  have HZ0 : amodes l u = if isG l u then (l.getD (atG l u) z96).f1 else if isG l star then (l.getD (atG l star) z96).f1 else 0 := rfl
  have HZ := Lib.hid HZ0
  clear hC HZ0 hR hR2
  generalize amodes l u = r at HZ ⊢
  generalize atG l u = i at HP HN HZ
  generalize isG l u = b at HP HN HZ
  generalize atG l star = j at HQ HM HZ
  generalize isG l star = d at HQ HM HZ
  unfold star at HQ
  cases b with
  | true =>
    have hi := HN.out rfl
    have HZ2 := Lib.hid (show r = (l.getD i z96).f1 by rw [HZ.out]; simp)
    clear HN HM HQ HZ
    go_enter Tryz.func37, Tryz.ntmps37
    go_wp2_with (go_at_call 60; refine (HP.out _ (Below.refl _ _)).mono ?_; rintro e w1 ⟨rfl, hb⟩; have HB := Lib.hid hb; obtain ⟨ad, rfl, h1⟩ := k96_f1 (Kd.C_below HC.out hb) i hi; clear hb; generalize (l.getD i z96).f1 = y at h1 HZ2)
    all_goals go_ret
    all_goals exact ⟨by rw [HZ2.out]; rfl, HB.out⟩
  | false =>
    cases d with
    | true =>
      have hi := HM.out rfl
      have HZ2 := Lib.hid (show r = (l.getD j z96).f1 by rw [HZ.out]; simp)
      clear HN HM HZ
      go_enter Tryz.func37, Tryz.ntmps37
      go_wp2_with (go_at_call 60; first | (refine (HQ.out _ HB.out).mono ?_; rintro e w2 ⟨rfl, hb⟩; have HB2 := Lib.hid (below_step HB.out hb); obtain ⟨ad, rfl, h1⟩ := k96_f1 (Kd.C_below HC.out HB2.out) j hi; clear hb; generalize (l.getD j z96).f1 = y at h1 HZ2) | (refine (HP.out _ (Below.refl _ _)).mono ?_; rintro e w1 ⟨rfl, hb⟩; have HB := Lib.hid hb; clear hb))
      all_goals go_ret
      all_goals exact ⟨by rw [HZ2.out]; rfl, HB2.out⟩
    | false =>
      have HZ2 := Lib.hid (show r = 0 by rw [HZ.out]; simp)
      clear HN HM HZ
      go_enter Tryz.func37, Tryz.ntmps37
      go_wp2_with (go_at_call 60; first | (refine (HQ.out _ HB.out).mono ?_; rintro e w2 ⟨rfl, hb⟩; have HB2 := Lib.hid (below_step HB.out hb); clear hb) | (refine (HP.out _ (Below.refl _ _)).mono ?_; rintro e w1 ⟨rfl, hb⟩; have HB := Lib.hid hb; clear hb))
      all_goals go_ret
      all_goals exact ⟨by rw [HZ2.out]; rfl, HB2.out⟩
end Go.Proofs.YteilkbookcmndaaGreatDoor.C
namespace Go.Proofs.YteilkbookcmndaaGreatDoor.C
open Go.RowKit Go.Proofs.YteilkbookcmndaaGreatDoor.Q Go.Proofs.YteilkbookcmndaaGreatDoorW.PrintWords Go.Proofs.YteilkbookcmndaaGreatDoorW.PrintLast Go.Proofs.YteilkbookcmndaaGreatDoorW.PrintMore
def pth (ns : List (List UInt8)) : ByteArray := ⟨(L.render ns).toArray⟩
theorem pth_data (ns : List (List UInt8)) : (pth ns).data.toList = L.render ns := by simp [pth]
theorem pth_size (ns : List (List UInt8)) : (pth ns).size = (L.render ns).length := by rw [Lib.size_eq, pth_data]
theorem render_le (ns : List (List UInt8)) : (L.render ns).length ≤ (L.flat ns).length + 1 := by
  unfold L.render
  split <;> simp
theorem flat_take (ns : List (List UInt8)) (i : Nat) : (L.flat (ns.take i)).length ≤ (L.flat ns).length := by
  have h := L.flat_append (ns.take i) (ns.drop i)
  rw [List.take_append_drop] at h
  rw [h, List.length_append]
  omega
theorem flat_le (ns : List (List UInt8)) : (L.flat ns).length ≤ (L.render ns).length := by
  unfold L.render
  split
  · rename_i h; subst h; simp [L.flat]
  · exact Nat.le_refl _
theorem check_len {l : List UInt8} (h : L.checkL l = 0) : l.length ≤ 78 := by
  unfold L.checkL at h
  split at h
  · cases h
  · omega
theorem join_f (ns : List (List UInt8)) (n : List UInt8) (hn : ∀ x ∈ ns, L.Nm x) (h1 : (L.render ns).length ≤ 1000) (h2 : n.length ≤ 1000) : path_Join.f (pth ns) ⟨n.toArray⟩ = some (pth (ns ++ [n])) := by
  have hs : (pth ns).size ≤ 1000 := by rw [pth_size]; exact h1
  have hm : (⟨n.toArray⟩ : ByteArray).size ≤ 1000 := by rw [Lib.size_eq]; simpa using h2
  have ho : (⟨#[47]⟩ : ByteArray).size = 1 := rfl
  unfold path_Join.f
  by_cases h : (pth ns).toList = ([47] : List UInt8)
  · have h' : L.render ns = [47] := by rw [← pth_data, ← Lib.toList_data]; exact h
    rw [if_pos h, if_pos (by omega)]
    have hnil := (L.render_one hn).1 h'
    subst hnil
    congr 1
    refine L.bytes_ext ?_
    rw [P.append_data, pth_data, pth_data, L.render_snoc]
    simp [L.render, L.flat]
  · rw [if_neg h, if_pos (by omega), if_pos (by rw [P.append_size]; omega)]
    have hne : ns ≠ [] := by
      rintro rfl
      apply h
      rw [Lib.toList_data, pth_data]
      rfl
    congr 1
    refine L.bytes_ext ?_
    rw [P.append_data, P.append_data, pth_data, pth_data, L.render_snoc, L.render_flat _ hne]
    simp
end Go.Proofs.YteilkbookcmndaaGreatDoor.C
end
