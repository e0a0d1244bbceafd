/- Texts that the claim's law stands on, cut down to what it reaches. -/
import Derived.Test.YtmndeoncbocplaaDoorJQ
import Derived.Lib.Strings
import Derived.Lib.Hide
import Derived.Deep.WholeRow
import Derived.Lib.SliceRun
import Derived.Lib.Walk
import Derived.Laws.CopyOwn
import Derived.Shelf.SlSorted.Search
import Derived.Test.YtmndeoncbocplaaDoorJP
set_option linter.unusedVariables false
set_option linter.unusedSimpArgs false
section
set_option linter.unusedVariables false
set_option linter.unusedSimpArgs false
namespace Go.Proofs.YtmndeoncbocplaaDoor.C
open Go.RowKit Go.Proofs.YtmndeoncbocplaaDoor.Q Go.Proofs.YtmndeoncbocplaaDoorW.PrintWords Go.Proofs.YtmndeoncbocplaaDoorW.PrintLast Go.Proofs.YtmndeoncbocplaaDoorW.PrintMore
/-- What an element's cells hold, at a later world too. -/
theorem at50 {w W : World} {A : Option Addr} {xs : List S50} (hC : Kd.C k50 w A xs.length xs) (hb : Below w.heap.size w W) (i : Nat) (hi : i < xs.length) :
    ∃ ad A6 c6 A11 c11, A = some ad ∧ (W.cell? (ad.add (i * 16)) = some (.string (xs[i]'hi).f0) ∧ W.cell? ⟨(ad.add (i * 16)).block, (ad.add (i * 16)).off + 1, none⟩ = some (.bool (xs[i]'hi).f1) ∧ W.cell? ⟨(ad.add (i * 16)).block, (ad.add (i * 16)).off + 2, none⟩ = some (.int .i64 (xs[i]'hi).f2.f0) ∧ W.cell? ⟨(ad.add (i * 16)).block, (ad.add (i * 16)).off + 3, none⟩ = some (.int .i64 (xs[i]'hi).f2.f1) ∧ W.cell? ⟨(ad.add (i * 16)).block, (ad.add (i * 16)).off + 4, none⟩ = some (.int .i64 (xs[i]'hi).f2.f2) ∧ W.cell? ⟨(ad.add (i * 16)).block, (ad.add (i * 16)).off + 5, none⟩ = some (.int .i64 (xs[i]'hi).f2.f3) ∧ W.cell? ⟨(ad.add (i * 16)).block, (ad.add (i * 16)).off + 6, none⟩ = some (.slice A6 (xs[i]'hi).f3.length c6) ∧ W.cell? ⟨(ad.add (i * 16)).block, (ad.add (i * 16)).off + 7, none⟩ = some (.int .i64 (xs[i]'hi).f4.f0) ∧ W.cell? ⟨(ad.add (i * 16)).block, (ad.add (i * 16)).off + 8, none⟩ = some (.int .i64 (xs[i]'hi).f4.f1) ∧ W.cell? ⟨(ad.add (i * 16)).block, (ad.add (i * 16)).off + 9, none⟩ = some (.int .i64 (xs[i]'hi).f4.f2) ∧ W.cell? ⟨(ad.add (i * 16)).block, (ad.add (i * 16)).off + 10, none⟩ = some (.int .i64 (xs[i]'hi).f4.f3) ∧ W.cell? ⟨(ad.add (i * 16)).block, (ad.add (i * 16)).off + 11, none⟩ = some (.slice A11 (xs[i]'hi).f5.length c11) ∧ W.cell? ⟨(ad.add (i * 16)).block, (ad.add (i * 16)).off + 12, none⟩ = some (.int .i64 (xs[i]'hi).f6.f0) ∧ W.cell? ⟨(ad.add (i * 16)).block, (ad.add (i * 16)).off + 13, none⟩ = some (.int .i64 (xs[i]'hi).f6.f1) ∧ W.cell? ⟨(ad.add (i * 16)).block, (ad.add (i * 16)).off + 14, none⟩ = some (.int .i64 (xs[i]'hi).f6.f2) ∧ W.cell? ⟨(ad.add (i * 16)).block, (ad.add (i * 16)).off + 15, none⟩ = some (.int .i64 (xs[i]'hi).f6.f3)) ∧
      Hid (k50.K w (xs[i]'hi) [.string (xs[i]'hi).f0, .bool (xs[i]'hi).f1, .int .i64 (xs[i]'hi).f2.f0, .int .i64 (xs[i]'hi).f2.f1, .int .i64 (xs[i]'hi).f2.f2, .int .i64 (xs[i]'hi).f2.f3, .slice A6 (xs[i]'hi).f3.length c6, .int .i64 (xs[i]'hi).f4.f0, .int .i64 (xs[i]'hi).f4.f1, .int .i64 (xs[i]'hi).f4.f2, .int .i64 (xs[i]'hi).f4.f3, .slice A11 (xs[i]'hi).f5.length c11, .int .i64 (xs[i]'hi).f6.f0, .int .i64 (xs[i]'hi).f6.f1, .int .i64 (xs[i]'hi).f6.f2, .int .i64 (xs[i]'hi).f6.f3]) := by
  obtain ⟨ad, A6, c6, A11, c11, e, h0, h1, h2, h3, h4, h5, h6, h7, h8, h9, h10, h11, h12, h13, h14, h15, l6, g6, l11, g11⟩ := at_T50 hC (i : Int) (by omega) (by omega)
  have hr : rd_T50 xs (i : Int) = xs[i]'hi := by unfold rd_T50; rw [Int.toNat_natCast, List.getD_eq_getElem?_getD, List.getElem?_eq_getElem hi]; rfl
  simp only [Int.toNat_natCast, hr] at h0 h1 h2 h3 h4 h5 h6 h7 h8 h9 h10 h11 h12 h13 h14 h15 l6 g6 l11 g11
  exact ⟨ad, A6, c6, A11, c11, e, ⟨pw_cell_below hb h0, pw_cell_below hb h1, pw_cell_below hb h2, pw_cell_below hb h3, pw_cell_below hb h4, pw_cell_below hb h5, pw_cell_below hb h6, pw_cell_below hb h7, pw_cell_below hb h8, pw_cell_below hb h9, pw_cell_below hb h10, pw_cell_below hb h11, pw_cell_below hb h12, pw_cell_below hb h13, pw_cell_below hb h14, pw_cell_below hb h15⟩, Lib.hid (k50_mk w (xs[i]'hi) l6 g6 l11 g11)⟩
/-- The node of a path among nodes. -/
def findL (l : List S50) (p : ByteArray) : Option S50 := l.find? fun n => decide (n.f0 = p)
def Found (w : World) (l : List S50) (p : ByteArray) (e : Ending) (w' : World) : Prop :=
  ∃ cs : List Value, e = .returned (.tuple #[.agg cs.toArray, .bool (findL l p).isSome]) ∧ k50.K w' ((findL l p).getD z50) cs ∧ Below w.heap.size w w'
theorem z50_K (w : World) : k50.K w z50 [.string (⟨#[]⟩ : ByteArray), .bool false, .int .i64 0, .int .i64 0, .int .i64 0, .int .i64 0, .slice none 0 0, .int .i64 0, .int .i64 0, .int .i64 0, .int .i64 0, .slice none 0 0, .int .i64 0, .int .i64 0, .int .i64 0, .int .i64 0] := by
  have h := k50_mk w z50 (A6 := none) (c6 := 0) (Nat.le_refl _) ⟨rfl, by decide, fun h => by cases h⟩ (A11 := none) (c11 := 0) (Nat.le_refl _) ⟨rfl, by decide, fun h => by cases h⟩
  exact h
theorem bytes_of_toList {a b : ByteArray} (h : a.toList = b.toList) : a = b := by
  rw [Lib.toList_data, Lib.toList_data] at h
  exact L.bytes_ext h
theorem find_some (l : List S50) (p : ByteArray) (i : Nat) (hi : i < l.length) (hj : ∀ j (h : j < l.length), j < i → (l[j]'h).f0 ≠ p) (he : (l[i]'hi).f0 = p) : findL l p = some (l[i]'hi) := by
  unfold findL
  rw [List.find?_eq_some_iff_getElem]
  exact ⟨by simpa using he, i, hi, rfl, fun j hji => by simpa using hj j (by omega) hji⟩
theorem find_none (l : List S50) (p : ByteArray) (hj : ∀ j (h : j < l.length), (l[j]'h).f0 ≠ p) : findL l p = none := by
  unfold findL
  rw [List.find?_eq_none]
  intro x hx
  obtain ⟨j, h, rfl⟩ := List.getElem_of_mem hx
  simpa using hj j h
/-- The load of a whole element, as the walk meets it. -/
theorem load50 {P : Program} {w : World} {a : Addr} {cs : Array Value} {n : Nat} (hn : cs.size = n) (h : ∀ j v, cs.toList[j]? = some v → w.cell? (a.add j) = some v) : (loadCellsFrom a 0 n #[]).run P w = .ok cs w := by
  subst hn
  have := run_loadCells_list (P := P) w a cs.toList h
  simpa [loadCells] using this
theorem alloc50 (w : World) : (Instr.alloc 50 true (.tuple #[])).run Tryd.prog w = .ok (.pointer (some ⟨w.heap.size, 0, none⟩)) (w.alloc (.cells #[.string (⟨#[]⟩ : ByteArray), .bool false, .int .i64 0, .int .i64 0, .int .i64 0, .int .i64 0, .slice none 0 0, .int .i64 0, .int .i64 0, .int .i64 0, .int .i64 0, .slice none 0 0, .int .i64 0, .int .i64 0, .int .i64 0, .int .i64 0] 50)) := by
  have hz := Tryd.zeroValue50
  go_simp
theorem storeAt50 (w : World) (ps : ByteArray) (pb : Bool) (p2 p3 p4 p5 : Int) (pA : Option Addr) (pn pc : Nat) (p7 p8 p9 p10 : Int) (pB : Option Addr) (pm pd : Nat) (p12 p13 p14 p15 : Int) (qs : ByteArray) (qb : Bool) (q2 q3 q4 q5 : Int) (qA : Option Addr) (qn qc : Nat) (q7 q8 q9 q10 : Int) (qB : Option Addr) (qm qd : Nat) (q12 q13 q14 q15 : Int) : (Instr.storeAt 50 (.pointer (some ⟨w.heap.size, 0, none⟩)) (.agg #[.string qs, .bool qb, .int .i64 q2, .int .i64 q3, .int .i64 q4, .int .i64 q5, .slice qA qn qc, .int .i64 q7, .int .i64 q8, .int .i64 q9, .int .i64 q10, .slice qB qm qd, .int .i64 q12, .int .i64 q13, .int .i64 q14, .int .i64 q15])).run Tryd.prog (w.alloc (.cells #[.string ps, .bool pb, .int .i64 p2, .int .i64 p3, .int .i64 p4, .int .i64 p5, .slice pA pn pc, .int .i64 p7, .int .i64 p8, .int .i64 p9, .int .i64 p10, .slice pB pm pd, .int .i64 p12, .int .i64 p13, .int .i64 p14, .int .i64 p15] 50)) = .ok () (w.alloc (.cells #[.string qs, .bool qb, .int .i64 q2, .int .i64 q3, .int .i64 q4, .int .i64 q5, .slice qA qn qc, .int .i64 q7, .int .i64 q8, .int .i64 q9, .int .i64 q10, .slice qB qm qd, .int .i64 q12, .int .i64 q13, .int .i64 q14, .int .i64 q15] 50)) :=
  run_storeAt_new w 50 #[.string ps, .bool pb, .int .i64 p2, .int .i64 p3, .int .i64 p4, .int .i64 p5, .slice pA pn pc, .int .i64 p7, .int .i64 p8, .int .i64 p9, .int .i64 p10, .slice pB pm pd, .int .i64 p12, .int .i64 p13, .int .i64 p14, .int .i64 p15] #[.string qs, .bool qb, .int .i64 q2, .int .i64 q3, .int .i64 q4, .int .i64 q5, .slice qA qn qc, .int .i64 q7, .int .i64 q8, .int .i64 q9, .int .i64 q10, .slice qB qm qd, .int .i64 q12, .int .i64 q13, .int .i64 q14, .int .i64 q15] (by kernel_rfl) rfl (by simp [Value.oneCell'])
/-- All cells of a node, one by one. -/
theorem loadC50 {P : Program} {W : World} {a : Addr} {ps : ByteArray} {pb : Bool} {p2 p3 p4 p5 : Int} {pA : Option Addr} {pn pc : Nat} {p7 p8 p9 p10 : Int} {pB : Option Addr} {pm pd : Nat} {p12 p13 p14 p15 : Int} (h : W.cell? a = some (.string ps) ∧ W.cell? ⟨a.block, a.off + 1, none⟩ = some (.bool pb) ∧ W.cell? ⟨a.block, a.off + 2, none⟩ = some (.int .i64 p2) ∧ W.cell? ⟨a.block, a.off + 3, none⟩ = some (.int .i64 p3) ∧ W.cell? ⟨a.block, a.off + 4, none⟩ = some (.int .i64 p4) ∧ W.cell? ⟨a.block, a.off + 5, none⟩ = some (.int .i64 p5) ∧ W.cell? ⟨a.block, a.off + 6, none⟩ = some (.slice pA pn pc) ∧ W.cell? ⟨a.block, a.off + 7, none⟩ = some (.int .i64 p7) ∧ W.cell? ⟨a.block, a.off + 8, none⟩ = some (.int .i64 p8) ∧ W.cell? ⟨a.block, a.off + 9, none⟩ = some (.int .i64 p9) ∧ W.cell? ⟨a.block, a.off + 10, none⟩ = some (.int .i64 p10) ∧ W.cell? ⟨a.block, a.off + 11, none⟩ = some (.slice pB pm pd) ∧ W.cell? ⟨a.block, a.off + 12, none⟩ = some (.int .i64 p12) ∧ W.cell? ⟨a.block, a.off + 13, none⟩ = some (.int .i64 p13) ∧ W.cell? ⟨a.block, a.off + 14, none⟩ = some (.int .i64 p14) ∧ W.cell? ⟨a.block, a.off + 15, none⟩ = some (.int .i64 p15)) : (loadCellsFrom a 0 16 #[]).run P W = .ok #[.string ps, .bool pb, .int .i64 p2, .int .i64 p3, .int .i64 p4, .int .i64 p5, .slice pA pn pc, .int .i64 p7, .int .i64 p8, .int .i64 p9, .int .i64 p10, .slice pB pm pd, .int .i64 p12, .int .i64 p13, .int .i64 p14, .int .i64 p15] W := by
  obtain ⟨h0, h1, h2, h3, h4, h5, h6, h7, h8, h9, h10, h11, h12, h13, h14, h15⟩ := h
  obtain ⟨b, o, s⟩ := a
  refine load50 rfl fun j v hj => ?_
  rcases j with _ | _ | _ | _ | _ | _ | _ | _ | _ | _ | _ | _ | _ | _ | _ | _ | j
  · cases hj; exact h0
  · cases hj; exact h1
  · cases hj; exact h2
  · cases hj; exact h3
  · cases hj; exact h4
  · cases hj; exact h5
  · cases hj; exact h6
  · cases hj; exact h7
  · cases hj; exact h8
  · cases hj; exact h9
  · cases hj; exact h10
  · cases hj; exact h11
  · cases hj; exact h12
  · cases hj; exact h13
  · cases hj; exact h14
  · cases hj; exact h15
  · simp at hj
/-- A whole load, a whole store, an allocation, a composite, held shut: what they give is laid as a fact. -/
@[irreducible] noncomputable def rdS (t : TypeId) (x : Value) : Sem Value := Instr.loadAt t x
@[irreducible] noncomputable def wrS (t : TypeId) (x v : Value) : Sem Unit := Instr.storeAt t x v
@[irreducible] noncomputable def alS (t : TypeId) (b : Bool) (v : Value) : Sem Value := Instr.alloc t b v
theorem rd_at (t : TypeId) (x : Value) : Instr.loadAt t x = rdS t x := by unfold rdS; rfl
theorem wr_at (t : TypeId) (x v : Value) : Instr.storeAt t x v = wrS t x v := by unfold wrS; rfl
theorem al_at (t : TypeId) (b : Bool) (v : Value) : Instr.alloc t b v = alS t b v := by unfold alS; rfl
theorem rd_at50 (x : Value) : Instr.loadAt 50 x = rdS 50 x := rd_at 50 x
theorem wr_at50 (x v : Value) : Instr.storeAt 50 x v = wrS 50 x v := wr_at 50 x v
theorem al_at50 (b : Bool) (v : Value) : Instr.alloc 50 b v = alS 50 b v := al_at 50 b v
/-- The load of a whole node that lies in cells. -/
theorem rd50_of {W : World} {a : Addr} {cs : Array Value} (h : (loadCellsFrom a 0 16 #[]).run Tryd.prog W = .ok cs W) : (rdS 50 (.pointer (some a))).run Tryd.prog W = .ok (.agg cs) W := by
  rw [← rd_at]
  have hag := Tryd.isAgg50 W
  have hsz := Tryd.sizeOf50 W
  simp only [Instr.loadAt, Instr.sureAddr, Sem.run_bind, Sem.run_pure, Result.andThen, loadVar, hag, hsz, if_true, loadCells, h]
/-- A whole row out of its block, into it. -/
theorem rd_row {t ty : TypeId} {W : World} {g : Nat} {cs : Array Value} {fr : Nat × Nat} (d : TypeDesc) (hg : W.heap[g]? = some (.cells cs ty fr)) (hd : (match d with | .struct _ | .array _ _ => true | _ => false) = true) (hu : Tryd.prog.underlying t = some d) (hi : (Tryd.prog.info? t).map (·.size) = some cs.size) : (rdS t (.pointer (some ⟨g, 0, none⟩))).run Tryd.prog W = .ok (.agg cs) W := by
  rw [← rd_at]
  simp only [Instr.loadAt, Instr.sureAddr, Sem.run_bind, Sem.run_pure, Result.andThen]
  exact run_loadVar_row W g ty t cs fr d hg hu (by cases d <;> exact hd) hi
theorem wr_row {t ty : TypeId} {W : World} {g : Nat} {old cs : Array Value} (hg : W.heap[g]? = some (.cells old ty (0, 0))) (hi : (Tryd.prog.info? t).map (·.size) = some cs.size) (ho : old.size = cs.size) (h1 : cs.all (·.oneCell') = true) : (wrS t (.pointer (some ⟨g, 0, none⟩)) (.agg cs)).run Tryd.prog W = .ok () (W.setRow g cs) := by
  rw [← wr_at]
  simp only [Instr.storeAt, Instr.sureAddr, Sem.run_bind, Sem.run_pure, Result.andThen]
  exact run_storeVar_row W g ty t old cs hg hi ho h1
theorem rd50_new (w : World) (ps : ByteArray) (pb : Bool) (p2 p3 p4 p5 : Int) (pA : Option Addr) (pn pc : Nat) (p7 p8 p9 p10 : Int) (pB : Option Addr) (pm pd : Nat) (p12 p13 p14 p15 : Int) : (rdS 50 (.pointer (some ⟨w.heap.size, 0, none⟩))).run Tryd.prog (w.alloc (.cells #[.string ps, .bool pb, .int .i64 p2, .int .i64 p3, .int .i64 p4, .int .i64 p5, .slice pA pn pc, .int .i64 p7, .int .i64 p8, .int .i64 p9, .int .i64 p10, .slice pB pm pd, .int .i64 p12, .int .i64 p13, .int .i64 p14, .int .i64 p15] 50)) = .ok (.agg #[.string ps, .bool pb, .int .i64 p2, .int .i64 p3, .int .i64 p4, .int .i64 p5, .slice pA pn pc, .int .i64 p7, .int .i64 p8, .int .i64 p9, .int .i64 p10, .slice pB pm pd, .int .i64 p12, .int .i64 p13, .int .i64 p14, .int .i64 p15]) (w.alloc (.cells #[.string ps, .bool pb, .int .i64 p2, .int .i64 p3, .int .i64 p4, .int .i64 p5, .slice pA pn pc, .int .i64 p7, .int .i64 p8, .int .i64 p9, .int .i64 p10, .slice pB pm pd, .int .i64 p12, .int .i64 p13, .int .i64 p14, .int .i64 p15] 50)) :=
  rd_row _ (heap_alloc_last w _) rfl Tryd.underlying50 (by kernel_rfl)
theorem wr50_new (w : World) (ps : ByteArray) (pb : Bool) (p2 p3 p4 p5 : Int) (pA : Option Addr) (pn pc : Nat) (p7 p8 p9 p10 : Int) (pB : Option Addr) (pm pd : Nat) (p12 p13 p14 p15 : Int) (qs : ByteArray) (qb : Bool) (q2 q3 q4 q5 : Int) (qA : Option Addr) (qn qc : Nat) (q7 q8 q9 q10 : Int) (qB : Option Addr) (qm qd : Nat) (q12 q13 q14 q15 : Int) : (wrS 50 (.pointer (some ⟨w.heap.size, 0, none⟩)) (.agg #[.string qs, .bool qb, .int .i64 q2, .int .i64 q3, .int .i64 q4, .int .i64 q5, .slice qA qn qc, .int .i64 q7, .int .i64 q8, .int .i64 q9, .int .i64 q10, .slice qB qm qd, .int .i64 q12, .int .i64 q13, .int .i64 q14, .int .i64 q15])).run Tryd.prog (w.alloc (.cells #[.string ps, .bool pb, .int .i64 p2, .int .i64 p3, .int .i64 p4, .int .i64 p5, .slice pA pn pc, .int .i64 p7, .int .i64 p8, .int .i64 p9, .int .i64 p10, .slice pB pm pd, .int .i64 p12, .int .i64 p13, .int .i64 p14, .int .i64 p15] 50)) = .ok () (w.alloc (.cells #[.string qs, .bool qb, .int .i64 q2, .int .i64 q3, .int .i64 q4, .int .i64 q5, .slice qA qn qc, .int .i64 q7, .int .i64 q8, .int .i64 q9, .int .i64 q10, .slice qB qm qd, .int .i64 q12, .int .i64 q13, .int .i64 q14, .int .i64 q15] 50)) := by
  rw [← wr_at]
  exact storeAt50 w ps pb p2 p3 p4 p5 pA pn pc p7 p8 p9 p10 pB pm pd p12 p13 p14 p15 qs qb q2 q3 q4 q5 qA qn qc q7 q8 q9 q10 qB qm qd q12 q13 q14 q15
theorem al50 (w : World) : (alS 50 true (.tuple #[])).run Tryd.prog w = .ok (.pointer (some ⟨w.heap.size, 0, none⟩)) (w.alloc (.cells #[.string (⟨#[]⟩ : ByteArray), .bool false, .int .i64 0, .int .i64 0, .int .i64 0, .int .i64 0, .slice none 0 0, .int .i64 0, .int .i64 0, .int .i64 0, .int .i64 0, .slice none 0 0, .int .i64 0, .int .i64 0, .int .i64 0, .int .i64 0] 50)) := by
  rw [← al_at]
  exact alloc50 w
end Go.Proofs.YtmndeoncbocplaaDoor.C
namespace Go.Proofs.YtmndeoncbocplaaDoor.C
open Go.RowKit Go.Proofs.YtmndeoncbocplaaDoor.Q Go.Proofs.YtmndeoncbocplaaDoorW.PrintWords Go.Proofs.YtmndeoncbocplaaDoorW.PrintLast Go.Proofs.YtmndeoncbocplaaDoorW.PrintMore
theorem C_nil {α : Type} (d : Kd α) (w : World) (A : Option Addr) : d.C w A 0 [] := ⟨rfl, by decide, fun h => by omega⟩
theorem Reps_one {α : Type} {d : Kd α} {w : World} {xs : List α} {cs : List Value} (h : Reps (d.K w) d.sz xs cs) : ∀ u ∈ cs, u.oneCell' = true := by
  intro u hu
  obtain ⟨j, hj, rfl⟩ := List.getElem_of_mem hu
  have hl : cs.length = xs.length * d.sz := h.1
  have h0 : 0 < d.sz := by
    rcases Nat.eq_zero_or_pos d.sz with h0 | h0
    · rw [h0, Nat.mul_zero] at hl; omega
    · exact h0
  have hq : j / d.sz < xs.length := by
    rw [Nat.div_lt_iff_lt_mul h0]; omega
  have hk := h.2 (j / d.sz) _ (List.getElem?_eq_getElem hq)
  refine d.K_one hk _ ?_
  have hm : j % d.sz < d.sz := Nat.mod_lt _ h0
  have he : j / d.sz * d.sz + j % d.sz = j := by rw [Nat.mul_comm]; exact Nat.div_add_mod _ _
  refine List.mem_iff_getElem?.2 ⟨j % d.sz, ?_⟩
  rw [List.getElem?_take_of_lt hm, List.getElem?_drop, he, List.getElem?_eq_getElem hj]
end Go.Proofs.YtmndeoncbocplaaDoor.C
namespace Go.Proofs.YtmndeoncbocplaaDoor.C
open Go.RowKit Go.Proofs.YtmndeoncbocplaaDoor.Q Go.Proofs.YtmndeoncbocplaaDoorW.PrintWords Go.Proofs.YtmndeoncbocplaaDoorW.PrintLast Go.Proofs.YtmndeoncbocplaaDoorW.PrintMore
attribute [local go_sem ↓] rd_at50 wr_at50 al_at50
attribute [local go_sem] rd50_new wr50_new al50
theorem rd50_blk {W : World} {g : Nat} {cs : Array Value} (hg : W.heap[g]? = some (.cells cs 50 (0, 0))) (hi : cs.size = 16) : (rdS 50 (.pointer (some ⟨g, 0, none⟩))).run Tryd.prog W = .ok (.agg cs) W :=
  rd_row _ hg rfl Tryd.underlying50 (by rw [hi]; kernel_rfl)
theorem wr50_blk {W : World} {g : Nat} {old cs : Array Value} (hg : W.heap[g]? = some (.cells old 50 (0, 0))) (ho : old.size = 16) (hi : cs.size = 16) (h1 : cs.all (·.oneCell') = true) : (wrS 50 (.pointer (some ⟨g, 0, none⟩)) (.agg cs)).run Tryd.prog W = .ok () (W.setRow g cs) :=
  wr_row hg (by rw [hi]; kernel_rfl) (by rw [hi, ho]) h1
end Go.Proofs.YtmndeoncbocplaaDoor.C
namespace Go.Proofs.YtmndeoncbocplaaDoor.C
open Go.RowKit Go.Proofs.YtmndeoncbocplaaDoor.Q Go.Proofs.YtmndeoncbocplaaDoorW.PrintWords Go.Proofs.YtmndeoncbocplaaDoorW.PrintLast Go.Proofs.YtmndeoncbocplaaDoorW.PrintMore
open Go.Shelf Go.Lib Go.Sort
def lays16_ren : Go.Shelf.Ren := ⟨fun | 16 => 108 | n => n, fun | 35 => 128 | 38 => 126 | n => n, fun n => n⟩
theorem lays16 : Go.Proofs.SlLaysO.n16 Tryd.prog lays16_ren := {
  mixed := by kernel_rfl
  f16 := Tryd.func108.trans (congrArg some (by kernel_rfl))
  t3 := Tryd.underlying3
  a3 := Tryd.isAgg3
  z3 := Tryd.sizeOf3
  v3 := Tryd.zeroValue3
  t4 := Tryd.underlying4
  a4 := Tryd.isAgg4
  z4 := Tryd.sizeOf4
  v4 := Tryd.zeroValue4
  t35 := Tryd.underlying128
  a35 := Tryd.isAgg128
  z35 := Tryd.sizeOf128
  v35 := Tryd.zeroValue128
  t38 := Tryd.underlying126
  a38 := Tryd.isAgg126
  z38 := Tryd.sizeOf126
  v38 := Tryd.zeroValue126
}
/-- What a text is less than. -/
def less (a b : ByteArray) : Bool := Op.bytesLess a.toList b.toList
theorem k50_f0 {w : World} {A : Option Addr} {xs : List S50} (hC : Kd.C k50 w A xs.length xs) (i : Nat) (hi : i < xs.length) : ∃ ad, A = some ad ∧ w.cell? (ad.add (i * 16)) = some (.string (xs.getD i z50).f0) := by
  obtain ⟨ad, A6, c6, A11, c11, e, h0, _⟩ := at_T50 hC (i : Int) (by omega) (by omega)
  exact ⟨ad, e, h0⟩
/-- Where a key stands, or would; whether it stands there. -/
def atN (l : List S50) (p : ByteArray) : Nat := (List.range l.length).countP fun i => less (l.getD i z50).f0 p
def isN (l : List S50) (p : ByteArray) : Bool := decide (atN l p < l.length) && ((l.getD (atN l p) z50).f0.toList == p.toList)
def RisingN (l : List S50) (p : ByteArray) : Prop := ∀ a b, a ≤ b → b < l.length → less (l.getD b z50).f0 p = true → less (l.getD a z50).f0 p = true
set_option maxHeartbeats 2000000 in
set_option maxRecDepth 100000 in
theorem closure109 (ba bx : Nat) (ad : Addr) (n cap : Nat) (x y : ByteArray) (i : Nat) (W : World) (hi : i < n)
    (ha : W.cell? ⟨ba, 0, none⟩ = some (.slice (some ad) n cap)) (hx : W.cell? ⟨bx, 0, none⟩ = some (.string x)) (hc : W.cell? (ad.add (i * 16)) = some (.string y)) :
    Calls Tryd.prog 109 (#[.int .i64 i] ++ #[.pointer (some ⟨ba, 0, none⟩), .pointer (some ⟨bx, 0, none⟩)]) W fun e w' => e = .returned (.bool (!less y x)) ∧ ∃ q, w' = W.drewN q := by
  have hiz : (i : Int) < (n : Int) := by omega
  have mixed : Tryd.prog.follows .mixedOrders = true := by kernel_rfl
  go_enter Tryd.func109, Tryd.ntmps109
  go_wp2
  go_region_o
  all_goals go_wp2
  all_goals go_ret
  all_goals exact ⟨by first | rfl | simp [less], 1, rfl⟩
theorem at_leN (l : List S50) (p : ByteArray) : atN l p ≤ l.length := by
  have := List.countP_le_length (p := fun i => less (l.getD i z50).f0 p) (l := List.range l.length)
  simpa [atN] using this
set_option maxHeartbeats 2000000 in
set_option maxRecDepth 100000 in
theorem placeN (l : List S50) (p : ByteArray) (A : Option Addr) (c : Nat) (w : World) (hC : Kd.C k50 w A l.length l) (hc : l.length ≤ c) (hn : l.length < 1000000) (hR : RisingN l p) :
    Calls Tryd.prog 83 #[.slice A l.length c, .string p] w fun e w' => e = .returned (.tuple #[.int .i64 (atN l p : Nat), .bool (isN l p)]) ∧ Below w.heap.size w w' := by
  obtain ⟨W0, hW0⟩ : ∃ W0, W0 = (w.alloc (.cells #[.slice A l.length c] 42)).alloc (.cells #[.string p] 9) := ⟨_, rfl⟩
  have hsize : W0.heap.size = w.heap.size + 1 + 1 := by rw [hW0]; simp
  have hB0 : Below w.heap.size w W0 := by rw [hW0]; exact below_alloc (below_alloc (Below.refl _ _) _) _
  have ca : W0.cell? ⟨w.heap.size, 0, none⟩ = some (.slice A l.length c) := by rw [hW0]; exact cell_alloc_sl _ (cell_new_sl w _ _)
  have cx : W0.cell? ⟨w.heap.size + 1, 0, none⟩ = some (.string p) := by rw [hW0]; have := cell_new_sl (w.alloc (.cells #[.slice A l.length c] 42)) (.string p) 9; rwa [World.size_alloc] at this
  have HC := Lib.hid (Kd.C_below hC hB0)
  clear hC
  have HB := Lib.hid hB0
  clear hB0
  have eg : ∀ args w, (callFunc 109 args).run Tryd.prog w = .ok (.enter 109 args) w := enters_of Tryd.func109 (by kernel_rfl) rfl
  have hel : ∀ (m : Nat) (os : Array Obj) (i : Nat), i < l.length → ∃ ad, A = some ad ∧ (grow (W0.drewN m) os).cell? (ad.add (i * 16)) = some (.string (l.getD i z50).f0) := by
    intro m os i hi
    obtain ⟨ad, hA, h0⟩ := (k50_f0 HC.out i hi)
    exact ⟨ad, hA, cell_grown (World.block_lt_of_cell? _ _ h0) h0 m os⟩
  have hS : Calls Tryd.prog 108 #[.int .i64 l.length, .func (.func 109) #[] #[.pointer (some ⟨w.heap.size, 0, none⟩), .pointer (some ⟨w.heap.size + 1, 0, none⟩)]] W0 fun e w' => e = .returned (.int .i64 ((List.range l.length).countP (fun i => !(!less (l.getD i z50).f0 p)) : Nat)) ∧ ∃ q os, w' = grow (W0.drewN q) os :=
    Any.sort_Search lays16 109 #[.pointer (some ⟨w.heap.size, 0, none⟩), .pointer (some ⟨w.heap.size + 1, 0, none⟩)] l.length (fun i => !less (l.getD i z50).f0 p) W0 eg (by omega)
      (fun m os i hi => by
        obtain ⟨ad, rfl, h0⟩ := hel m os i hi
        refine (closure109 _ _ ad _ c p _ i _ hi (cell_grown (by simp [hsize]; omega) ca m os) (cell_grown (by simp [hsize]) cx m os) h0).mono ?_
        rintro _ _ ⟨he, q, hq⟩
        exact ⟨he, q, #[], by rw [hq, grow_empty]⟩)
      (fun a b hab hb h => by
        cases hl : less (l.getD b z50).f0 p with
        | false => rfl
        | true => have := hR a b hab hb hl; simp only [this] at h; cases h)
  simp only [Bool.not_not] at hS
  replace hS : Calls Tryd.prog 108 _ W0 fun e w' => e = .returned (.int .i64 (atN l p : Nat)) ∧ ∃ q os, w' = grow (W0.drewN q) os := hS
  have hle := at_leN l p
  have HI0 : isN l p = (decide (atN l p < l.length) && ((l.getD (atN l p) z50).f0.toList == p.toList)) := rfl
  have HI := Lib.hid HI0
  clear HI0
  generalize atN l p = i at hS hle HI ⊢
  generalize isN l p = b at HI ⊢
  replace hS : Calls Tryd.prog 108 #[.int .i64 l.length, .func (.func 109) #[] #[.pointer (some ⟨w.heap.size, 0, none⟩), .pointer (some ⟨w.heap.size + 1, 0, none⟩)]] W0 fun e w' => e = .returned (.int .i64 (i : Nat)) ∧ w'.cell? ⟨w.heap.size, 0, none⟩ = some (.slice A l.length c) ∧ w'.cell? ⟨w.heap.size + 1, 0, none⟩ = some (.string p) ∧ Hid (i < l.length → ∃ ad, A = some ad ∧ w'.cell? (ad.add (i * 16)) = some (.string (l.getD i z50).f0)) ∧ Hid (RowKit.Below w.heap.size w w') := by
    refine hS.mono ?_
    rintro e w' ⟨rfl, q, os, rfl⟩
    exact ⟨rfl, cell_grown (by simp [hsize]; omega) ca q os, cell_grown (by simp [hsize]) cx q os, Lib.hid (hel q os i), Lib.hid (HB.out.trans (below_grown_sl w.heap.size W0 q os (by omega)))⟩
  clear hel hR ca cx
  have HW := Lib.hid hW0
  clear hW0
  have mixed : Tryd.prog.follows .mixedOrders = true := by kernel_rfl
  have e108 : ∀ args w, (callFunc 108 args).run Tryd.prog w = .ok (.enter 108 args) w := enters_of Tryd.func108 (by kernel_rfl) rfl
  by_cases hlt : i < l.length
  · have HI2 := Lib.hid (show b = ((l.getD i z50).f0.toList == p.toList) by rw [HI.out]; simp [hlt])
    clear HI
    go_enter Tryd.func83, Tryd.ntmps83
    go_wp2_with (go_at_fn 108; rw [← HW.out]; refine hS.mono ?_; rintro e w' ⟨rfl, hl, hp, HE, HB'⟩)
    obtain ⟨ad, rfl, he⟩ := HE.out hlt
    generalize (l.getD i z50).f0 = y at he HI2
    clear HE
    go_region_o
    all_goals go_wp2
    all_goals refine bodyPost_ret (results_tmp2 rfl _ _ _) rfl ?_
    all_goals exact ⟨by rw [HI2.out]; rfl, below_drew1 HB'.out⟩
  · have HI2 := Lib.hid (show b = false by rw [HI.out]; simp [hlt])
    clear HI
    go_enter Tryd.func83, Tryd.ntmps83
    go_wp2_with (go_at_fn 108; rw [← HW.out]; refine hS.mono ?_; rintro e w' ⟨rfl, hl, hp, HE, HB'⟩)
    clear HE
    go_region_o
    all_goals go_wp2
    all_goals refine bodyPost_ret (results_tmp2 rfl _ _ _) rfl ?_
    all_goals exact ⟨by rw [HI2.out]; rfl, below_drew1 HB'.out⟩
end Go.Proofs.YtmndeoncbocplaaDoor.C
namespace Go.Proofs.YtmndeoncbocplaaDoor.C
open Go.RowKit Go.Proofs.YtmndeoncbocplaaDoor.Q Go.Proofs.YtmndeoncbocplaaDoorW.PrintWords Go.Proofs.YtmndeoncbocplaaDoorW.PrintLast Go.Proofs.YtmndeoncbocplaaDoorW.PrintMore
attribute [local go_sem ↓] rd_at50 wr_at50 al_at50
attribute [local go_sem] rd50_new wr50_new al50
def nodeN (l : List S50) (p : ByteArray) : S50 := if isN l p then l.getD (atN l p) z50 else z50
theorem isN_lt {l : List S50} {p : ByteArray} (h : isN l p = true) : atN l p < l.length := by
  simp only [isN, Bool.and_eq_true, decide_eq_true_eq] at h
  exact h.1
end Go.Proofs.YtmndeoncbocplaaDoor.C
namespace Go.Proofs.YtmndeoncbocplaaDoor.C
open Go.RowKit Go.Proofs.YtmndeoncbocplaaDoor.Q Go.Proofs.YtmndeoncbocplaaDoorW.PrintWords Go.Proofs.YtmndeoncbocplaaDoorW.PrintLast Go.Proofs.YtmndeoncbocplaaDoorW.PrintMore
attribute [local go_sem ↓] rd_at50 wr_at50 al_at50
attribute [local go_sem] rd50_new wr50_new al50
attribute [local go_sem high] eqA41
def lover (a b : S41) : Bool := (label_Over.f a.f0 a.f1 a.f2 a.f3 b.f0 b.f1 b.f2 b.f3).getD false
theorem lover_calls (a b : S41) (w : World) : Calls Tryd.prog 72 #[.agg #[.int .i64 a.f0, .int .i64 a.f1, .int .i64 a.f2, .int .i64 a.f3], .agg #[.int .i64 b.f0, .int .i64 b.f1, .int .i64 b.f2, .int .i64 b.f3]] w fun e w' => e = .returned (.bool (lover a b)) ∧ Below w.heap.size w w' :=
  label_Over.calls _ _ _ _ _ _ _ _ _ w (by simp [lover, label_Over.f, label_Join.f])
end Go.Proofs.YtmndeoncbocplaaDoor.C
namespace Go.Proofs.YtmndeoncbocplaaDoor.C
open Go.RowKit Go.Proofs.YtmndeoncbocplaaDoor.Q Go.Proofs.YtmndeoncbocplaaDoorW.PrintWords Go.Proofs.YtmndeoncbocplaaDoorW.PrintLast Go.Proofs.YtmndeoncbocplaaDoorW.PrintMore
/-- Who stands for all. -/
def star : ByteArray := ⟨#[42]⟩
end Go.Proofs.YtmndeoncbocplaaDoor.C
namespace Go.Proofs.YtmndeoncbocplaaDoor.C
open Go.RowKit Go.Proofs.YtmndeoncbocplaaDoor.Q Go.Proofs.YtmndeoncbocplaaDoorW.PrintWords Go.Proofs.YtmndeoncbocplaaDoorW.PrintLast Go.Proofs.YtmndeoncbocplaaDoorW.PrintMore
/-- A path of names. -/
def pth (ns : List (List UInt8)) : ByteArray := ⟨(L.render ns).toArray⟩
theorem pth_data (ns : List (List UInt8)) : (pth ns).data.toList = L.render ns := by simp [pth]
theorem pth_size (ns : List (List UInt8)) : (pth ns).size = (L.render ns).length := by rw [Lib.size_eq, pth_data]
theorem check_len {l : List UInt8} (h : L.checkL l = 0) : l.length ≤ 78 := by
  unfold L.checkL at h
  split at h
  · cases h
  · omega
theorem join_f (ns : List (List UInt8)) (n : List UInt8) (hn : ∀ x ∈ ns, L.Nm x) (h1 : (L.render ns).length ≤ 1000) (h2 : n.length ≤ 1000) : path_Join.f (pth ns) ⟨n.toArray⟩ = some (pth (ns ++ [n])) := by
  have hs : (pth ns).size ≤ 1000 := by rw [pth_size]; exact h1
  have hm : (⟨n.toArray⟩ : ByteArray).size ≤ 1000 := by rw [Lib.size_eq]; simpa using h2
  have ho : (⟨#[47]⟩ : ByteArray).size = 1 := rfl
  unfold path_Join.f
  by_cases h : (pth ns).toList = ([47] : List UInt8)
  · have h' : L.render ns = [47] := by rw [← pth_data, ← Lib.toList_data]; exact h
    rw [if_pos h, if_pos (by omega)]
    have hnil := (L.render_one hn).1 h'
    subst hnil
    congr 1
    refine L.bytes_ext ?_
    rw [P.append_data, pth_data, pth_data, L.render_snoc]
    simp [L.render, L.flat]
  · rw [if_neg h, if_pos (by omega), if_pos (by rw [P.append_size]; omega)]
    have hne : ns ≠ [] := by
      rintro rfl
      apply h
      rw [Lib.toList_data, pth_data]
      rfl
    congr 1
    refine L.bytes_ext ?_
    rw [P.append_data, P.append_data, pth_data, pth_data, L.render_snoc, L.render_flat _ hne]
    simp
end Go.Proofs.YtmndeoncbocplaaDoor.C
end
