/- Texts that the claim's law stands on, cut down to what it reaches. -/
import Derived.Test.YteilkbookcmndaaGreatDoorHB2
import Derived.Laws.CopyOwn
import Derived.Laws.MakeOwn
import Derived.Lib.AppendZerosOnto
import Derived.Lib.AppendZeros
import Derived.Shelf.Spec.SlicesInsert
import Derived.Deep.LoopGhost
import Derived.Laws.NewBlocks
import Derived.Deep.RegionHeldLaw
import Derived.Deep.RegionHeld3
set_option linter.unusedVariables false
set_option linter.unusedSimpArgs false
section
set_option linter.unusedVariables false
set_option linter.unusedSimpArgs false
namespace Go.Proofs.YteilkbookcmndaaGreatDoor.C
open Go.RowKit Go.Proofs.YteilkbookcmndaaGreatDoor.Q Go.Proofs.YteilkbookcmndaaGreatDoorW.PrintWords Go.Proofs.YteilkbookcmndaaGreatDoorW.PrintLast Go.Proofs.YteilkbookcmndaaGreatDoorW.PrintMore
/-- The zero node's cells. -/
def zero50 : Array Value := #[.string (⟨#[]⟩ : ByteArray), .bool false, .int .i64 0, .int .i64 0, .int .i64 0, .int .i64 0, .slice none 0 0, .int .i64 0, .int .i64 0, .int .i64 0, .int .i64 0, .slice none 0 0, .int .i64 0, .int .i64 0, .int .i64 0, .int .i64 0]
theorem info50 : ∃ i, Tryz.prog.info? 36 = some i ∧ i.zero = some (.agg zero50) ∧ i.size = 16 ∧ i.bytes = 168 := by
 have h := inf50
 cases hq : Tryz.prog.info? 36 with
 | none => rw [hq] at h; cases h
 | some i =>
  rw [hq] at h
  simp only [Option.map_some, Option.some.injEq, Prod.mk.injEq] at h
  exact ⟨i, rfl, h.1, h.2.1, h.2.2⟩
theorem wr50_in {W : World} {g o : Nat} {cur : List Value} {cs : Array Value} {ty : TypeId} (hg : W.heap[g]? = some (.cells cur.toArray ty (0, 0))) (ho : o + 16 ≤ cur.length) (hi : cs.size = 16) (h1 : cs.all (·.oneCell') = true) : (wrS 36 (.pointer (some ⟨g, o, none⟩)) (.agg cs)).run Tryz.prog W = .ok () (W.setRow g (splice cur o cs.toList).toArray) := by
 have hs := run_storeCells_at Tryz.prog g o ty cs.toList 0 cur.toArray W hg (by simp [hi]; omega) (fun v hv => (Array.all_eq_true_iff_forall_mem.1 h1) v (by simpa using hv))
 obtain ⟨i, hq, hz, hsz, _⟩ := info50
 rw [← wr_at]
 simp only [Instr.storeAt, Instr.sureAddr, Sem.run_bind, Sem.run_pure, Result.andThen]
 have hs2 : cs.size = i.size := by omega
 simp only [Nat.add_zero] at hs
 simp [storeVar, sizeOf, typeInfo, hq, Value.cells, hs2, hs, splice, hi]
theorem rd50_in {W : World} {g o : Nat} {cur : List Value} {ty : TypeId} {fr : Nat × Nat} (hg : W.heap[g]? = some (.cells cur.toArray ty fr)) (ho : o + 16 ≤ cur.length) : (rdS 36 (.pointer (some ⟨g, o, none⟩))).run Tryz.prog W = .ok (.agg ((cur.drop o).take 16).toArray) W := by
 refine rd50_of (load50 (by simp; omega) fun j v hj => ?_)
 have hj' : ((cur.drop o).take 16)[j]? = some v := hj
 rw [List.getElem?_take] at hj'
 split at hj'
 ·rw [List.getElem?_drop] at hj'
  have ha : (⟨g, o, none⟩ : Addr).add j = ⟨g, o + j, none⟩ := by unfold Addr.add; split <;> simp_all
  rw [ha]
  simp only [World.cell?, hg, Option.isSome_none, Bool.false_eq_true, if_false]
  rw [← Array.getElem?_toList]
  exact hj'
 ·cases hj'
theorem copy50 {W : World} {g o dLen dCap sLen sCap : Nat} {a : Addr} {cur : List Value} {cs : List Value} {t : TypeId} (hg : W.heap[g]? = some (.cells cur.toArray t (0, 0))) (hn : cs.length = Nat.min sLen dLen * 16)
  (hsrc : ∀ j v, cs[j]? = some v → W.cell? (a.add j) = some v) (hfit : o + cs.length ≤ cur.length) (h1 : ∀ v ∈ cs, v.oneCell' = true) (ty : TypeId) :
  (Builtin.copy_ #[27, 27] ty #[.slice (some ⟨g, o, none⟩) dLen dCap, .slice (some a) sLen sCap]).run Tryz.prog W = .ok (goInt (Nat.min sLen dLen)) (W.setRow g (splice cur o cs).toArray) := by
 have hl := run_firstCells_some (P := Tryz.prog) W 16 (Nat.min sLen dLen) a sLen sCap cs hn hsrc
 have hst := run_storeCells_at Tryz.prog g o t cs 0 cur.toArray W hg (by simpa using hfit) h1
 obtain ⟨i, hq, hz, hsz, _⟩ := info50
 simp only [Nat.add_zero] at hst
 simp [Builtin.copy_, run_underlying Tryz.underlying27, Builtin.lenOf, sizeOf, typeInfo, hq, hsz, hl, hst, splice]
theorem copy50_none {W : World} {g o dLen dCap sLen sCap : Nat} {sp : Option Addr} (hn : Nat.min sLen dLen = 0) (ty : TypeId) :
  (Builtin.copy_ #[27, 27] ty #[.slice (some ⟨g, o, none⟩) dLen dCap, .slice sp sLen sCap]).run Tryz.prog W = .ok (goInt 0) W := by
 obtain ⟨i, hq, hz, hsz, _⟩ := info50
 cases sp <;> simp [Builtin.copy_, run_underlying Tryz.underlying27, Builtin.lenOf, Builtin.firstCells, sizeOf, typeInfo, hq, hn, storeCells, loadCells, loadCellsFrom]
/-- A block g that holds nodes, each of which leads elsewhere than into it. -/
def NRow (W : World) (g : Nat) (l : List S50) (cur : List Value) : Prop :=
 W.heap[g]? = some (.cells cur.toArray 36 (0, 0)) ∧ l.length * 16 ≤ cur.length ∧ ∀ (j : Nat) (x : S50), l[j]? = some x → k50.FK W (fun k => k ≠ g) x ((cur.drop (j * 16)).take 16)
theorem fk_len {W : World} {ok : Nat → Prop} {x : S50} {cs : List Value} (h : k50.FK W ok x cs) : cs.length = 16 := by
 obtain ⟨A6, c6, A11, c11, rfl, _⟩ := k50_open (Kd.FK_now h)
 rfl
theorem fk_one {W : World} {ok : Nat → Prop} {x : S50} {cs : List Value} (h : k50.FK W ok x cs) : ∀ u ∈ cs, u.oneCell' = true := k50.K_one (Kd.FK_now h)
theorem nrow_C {W : World} {g : Nat} {l : List S50} {cur : List Value} (h : NRow W g l cur) (hn : l.length < 1000000) : Kd.C k50 W (some ⟨g, 0, none⟩) l.length l := by
 obtain ⟨h1, h2, h3⟩ := h
 refine ⟨rfl, by omega, fun _ => ⟨_, rfl, fun j q hj => ?_⟩⟩
 have hk := h3 j q hj
 have hlt := (List.getElem?_eq_some_iff.1 hj).1
 refine ⟨(cur.drop (j * 16)).take 16, fk_len hk, Kd.FK_now hk, fun i u hu => ?_⟩
 rw [List.getElem?_take] at hu
 split at hu
 ·rename_i hi
  rw [List.getElem?_drop] at hu
  show W.cell? ((⟨g, 0, none⟩ : Addr).add (j * 16 + i)) = some u
  have ha : (⟨g, 0, none⟩ : Addr).add (j * 16 + i) = ⟨g, j * 16 + i, none⟩ := by unfold Addr.add; split <;> simp_all
  rw [ha]
  simp only [World.cell?, h1, Option.isSome_none, Bool.false_eq_true, if_false]
  rw [← Array.getElem?_toList]
  exact hu
 ·cases hu
theorem nrow_step {W W' : World} {g : Nat} {l : List S50} {cur : List Value} (h : NRow W g l cur) (hb : ∀ k, k < W.heap.size → W'.heap[k]? = W.heap[k]?) : NRow W' g l cur :=
 ⟨(hb g (blk_lt h.1)).trans h.1, h.2.1, fun j x hj => (h.2.2 j x hj).step fun k _ hk => hb k hk⟩
theorem nrow_below {W W' : World} {g : Nat} {l : List S50} {cur : List Value} (h : NRow W g l cur) (hb : Below W.heap.size W W') : NRow W' g l cur := nrow_step h fun k hk => hb.block k hk
theorem splice_in {α : Type} (L cs : List α) (o : Nat) (h : o + cs.length ≤ L.length) : ((splice L o cs).drop o).take cs.length = cs := by
 unfold splice
 have e : (L.take o).length = o := by rw [List.length_take]; omega
 rw [List.drop_append_of_le_length (by omega), List.drop_of_length_le (by omega), List.nil_append]
 simp
theorem splice_ahead {α : Type} (L cs : List α) (o a n : Nat) (h : a + n ≤ o) (ho : o + cs.length ≤ L.length) : ((splice L o cs).drop a).take n = (L.drop a).take n := by
 apply List.ext_getElem?
 intro j
 by_cases hj : j < n
 ·rw [List.getElem?_take_of_lt hj, List.getElem?_take_of_lt hj, List.getElem?_drop, List.getElem?_drop]
  unfold splice
  rw [List.getElem?_append_left (by rw [List.length_take]; omega), List.getElem?_take_of_lt (by omega)]
 ·rw [List.getElem?_take_eq_none (by omega), List.getElem?_take_eq_none (by omega)]
theorem splice_behind {α : Type} (L cs : List α) (o a n : Nat) (h : o + cs.length ≤ a) (ho : o + cs.length ≤ L.length) : ((splice L o cs).drop a).take n = (L.drop a).take n := by
 have e : (splice L o cs).drop a = L.drop a := by
  unfold splice
  have e0 : (L.take o).length = o := by rw [List.length_take]; omega
  rw [List.drop_append, e0, List.drop_of_length_le (by omega), List.nil_append, List.drop_append, List.drop_of_length_le (by omega), List.nil_append, List.drop_drop]
  congr 1
  omega
 rw [e]
/-- A node stored into a place of the row. -/
theorem nrow_set {W : World} {g i : Nat} {l : List S50} {cur : List Value} {x : S50} {cs : List Value} (h : NRow W g l cur) (hi : i < l.length) (hx : k50.FK W (fun k => k ≠ g) x cs) : NRow (W.setRow g (splice cur (i * 16) cs).toArray) g (l.set i x) (splice cur (i * 16) cs) := by
 obtain ⟨h1, h2, h3⟩ := h
 have hl := fk_len hx
 have hm : ∀ {y : S50} {c : List Value}, k50.FK W (fun k => k ≠ g) y c → k50.FK (W.setRow g (splice cur (i * 16) cs).toArray) (fun k => k ≠ g) y c := fun hy => hy.step fun k hk _ => setRow_other W g k _ hk
 have hfit : i * 16 + cs.length ≤ cur.length := by omega
 refine ⟨setRow_heap _ _ _ _ _ _ h1, by rw [List.length_set, length_splice _ _ _ hfit]; exact h2, fun j y hj => ?_⟩
 rw [List.getElem?_set] at hj
 split at hj
 ·rename_i hij
  subst hij
  obtain rfl := Option.some.inj hj
  have := splice_in cur cs (i * 16) hfit
  rw [hl] at this
  rw [this]
  exact hm hx
 ·rename_i hij
  have hy := hm (h3 j y hj)
  rcases Nat.lt_or_gt_of_ne hij with hlt | hgt
  ·rw [splice_behind cur cs (i * 16) (j * 16) 16 (by omega) hfit]; exact hy
  ·rw [splice_ahead cur cs (i * 16) (j * 16) 16 (by omega) hfit]; exact hy
end Go.Proofs.YteilkbookcmndaaGreatDoor.C
end
section
set_option linter.unusedVariables false
set_option linter.unusedSimpArgs false
namespace Go.Proofs.YteilkbookcmndaaGreatDoor.C
open Go.RowKit Go.Proofs.YteilkbookcmndaaGreatDoor.Q Go.Proofs.YteilkbookcmndaaGreatDoorW.PrintWords Go.Proofs.YteilkbookcmndaaGreatDoorW.PrintLast Go.Proofs.YteilkbookcmndaaGreatDoorW.PrintMore
attribute [local go_sem ↓] rd_at50 wr_at50 al_at50
attribute [local go_sem] rd50_new wr50_new al50
theorem cell_agree {W W' : World} (h : ∀ k, k < W.heap.size → W'.heap[k]? = W.heap[k]?) {a : Addr} {v : Value} (hv : W.cell? a = some v) : W'.cell? a = some v := by
 have hb := World.block_lt_of_cell? W a hv
 unfold World.cell? at hv ⊢
 rw [h a.block hb]
 exact hv
theorem ints_agree {W W' : World} (h : ∀ k, k < W.heap.size → W'.heap[k]? = W.heap[k]?) {A : Option Addr} {n : Nat} {xs : List Int} (hC : Kd.C (Kd.int .i64) W A n xs) : Kd.C (Kd.int .i64) W' A n xs := by
 obtain ⟨h1, h2, h3⟩ := hC
 refine ⟨h1, h2, fun hn => ?_⟩
 obtain ⟨ad, e, hc⟩ := h3 hn
 refine ⟨ad, e, fun j p hj => ?_⟩
 obtain ⟨c, k1, k2, k3⟩ := hc j p hj
 exact ⟨c, k1, k2, fun i u hi => cell_agree h (k3 i u hi)⟩
theorem grants_agree {W W' : World} (h : ∀ k, k < W.heap.size → W'.heap[k]? = W.heap[k]?) {A : Option Addr} {n : Nat} {xs : List S96} (hC : Kd.C k96 W A n xs) : Kd.C k96 W' A n xs := by
 obtain ⟨h1, h2, h3⟩ := hC
 refine ⟨h1, h2, fun hn => ?_⟩
 obtain ⟨ad, e, hc⟩ := h3 hn
 refine ⟨ad, e, fun j p hj => ?_⟩
 obtain ⟨c, k1, k2, k3⟩ := hc j p hj
 exact ⟨c, k1, by rw [k96_open k2]; exact k96_mk W' p, fun i u hi => cell_agree h (k3 i u hi)⟩
theorem K_foot {W : World} {x : S50} {cs : List Value} (hK : k50.K W x cs) : k50.FK W (fun k => k < W.heap.size) x cs := by
 intro W' hW
 have h : ∀ k, k < W.heap.size → W'.heap[k]? = W.heap[k]? := fun k hk => hW k hk hk
 obtain ⟨A6, c6, A11, c11, rfl, l6, g6, l11, g11⟩ := k50_open hK
 exact k50_mk W' x l6 (grants_agree h g6) l11 (ints_agree h g11)
end Go.Proofs.YteilkbookcmndaaGreatDoor.C
end
section
set_option linter.unusedVariables false
set_option linter.unusedSimpArgs false
namespace Go.Proofs.YteilkbookcmndaaGreatDoor.C
open Go.RowKit Go.Proofs.YteilkbookcmndaaGreatDoor.Q Go.Proofs.YteilkbookcmndaaGreatDoorW.PrintWords Go.Proofs.YteilkbookcmndaaGreatDoorW.PrintLast Go.Proofs.YteilkbookcmndaaGreatDoorW.PrintMore
attribute [local go_sem ↓] rd_at50 wr_at50 al_at50
attribute [local go_sem] rd50_new wr50_new al50
theorem make50 (w : World) (n : Nat) (hn : n < 1000000) : (Instr.makeSlice 27 (.int .i64 (n : Int)) (.int .i64 (n : Int))).run Tryz.prog w = .ok (.slice (some ⟨w.heap.size, 0, none⟩) n n) (w.alloc (.cells (madeCells zero50 (n * 16)) 36)) := by
 obtain ⟨i, hq, hz, hsz, hby⟩ := info50
 have h := run_make (P := Tryz.prog) w 27 36 i (.agg zero50) Tryz.underlying27 hq hz .i64 .i64 (n : Int) (n : Int) (by omega) (Int.le_refl _) (by rw [hby]; omega) (by omega)
 rw [hsz, Int.toNat_natCast] at h
 exact h
/-- The row behind the copy: the nodes as they came in. -/
theorem nrow_copied {w W : World} {g : Nat} {l : List S50} {inner : List Value} (hr : Reps (k50.K w) 16 l inner) (hb : Below w.heap.size w W) (hg : w.heap.size ≤ g) (hh : W.heap[g]? = some (.cells inner.toArray 36 (0, 0))) : NRow W g l inner := by
 refine ⟨hh, by rw [hr.1]; exact Nat.le_refl _, fun j x hj => ?_⟩
 have hK := hr.2 j x hj
 exact ((K_foot hK).step fun k hk _ => hb.block k hk).mono fun k hk => by omega
theorem splice_all {α : Type} (L cs : List α) (h : L.length = cs.length) : splice L 0 cs = cs := by
 unfold splice
 rw [List.take_zero, List.nil_append, Nat.zero_add, List.drop_of_length_le (by omega), List.append_nil]
end Go.Proofs.YteilkbookcmndaaGreatDoor.C
end
section
set_option linter.unusedVariables false
set_option linter.unusedSimpArgs false
namespace Go.Proofs.YteilkbookcmndaaGreatDoor.C
open Go.RowKit Go.Proofs.YteilkbookcmndaaGreatDoor.Q Go.Proofs.YteilkbookcmndaaGreatDoorW.PrintWords Go.Proofs.YteilkbookcmndaaGreatDoorW.PrintLast Go.Proofs.YteilkbookcmndaaGreatDoorW.PrintMore
attribute [local go_sem ↓] rd_at50 wr_at50 al_at50
attribute [local go_sem] rd50_new wr50_new al50
def NRowF (W : World) (g B i : Nat) (l : List S50) (cur : List Value) : Prop :=
 NRow W g l cur ∧ ∀ j, j < i → ∀ x, l[j]? = some x → k50.FK W (fun k => B ≤ k ∧ k ≠ g) x ((cur.drop (j * 16)).take 16)
theorem nrowF_set {W : World} {g B i : Nat} {l : List S50} {cur : List Value} {x : S50} {cs : List Value} (h : NRowF W g B i l cur) (hi : i < l.length) (hx : k50.FK W (fun k => B ≤ k ∧ k ≠ g) x cs) : NRowF (W.setRow g (splice cur (i * 16) cs).toArray) g B (i + 1) (l.set i x) (splice cur (i * 16) cs) := by
 obtain ⟨h0, h4⟩ := h
 refine ⟨nrow_set h0 hi (hx.mono fun k hk => hk.2), fun j hj y hy => ?_⟩
 have hl := fk_len hx
 have hm : ∀ {y : S50} {c : List Value}, k50.FK W (fun k => B ≤ k ∧ k ≠ g) y c → k50.FK (W.setRow g (splice cur (i * 16) cs).toArray) (fun k => B ≤ k ∧ k ≠ g) y c := fun hy => hy.step fun k hk _ => setRow_other W g k _ hk.2
 have h2 := h0.2.1
 have hfit : i * 16 + cs.length ≤ cur.length := by omega
 rw [List.getElem?_set] at hy
 by_cases hij : i = j
 ·subst hij
  rw [if_pos rfl, if_pos hi] at hy
  obtain rfl := Option.some.inj hy
  have := splice_in cur cs (i * 16) hfit
  rw [hl] at this
  rw [this]
  exact hm hx
 ·rw [if_neg hij] at hy
  have hji : j < i := by omega
  rw [splice_ahead cur cs (i * 16) (j * 16) 16 (by omega) hfit]
  exact hm (h4 j hji y hy)
theorem nrowF_C {W : World} {g B : Nat} {l : List S50} {cur : List Value} (h : NRowF W g B l.length l cur) (hg : B ≤ g) (hn : l.length < 1000000) : Kd.F k50 W (fun k => B ≤ k) (some ⟨g, 0, none⟩) l.length l := by
 intro W' hW
 refine nrow_C (cur := cur) ⟨?_, h.1.2.1, fun j x hj => ?_⟩ hn
 ·rw [hW g hg (blk_lt h.1.1)]; exact h.1.1
 ·have hjl : j < l.length := (List.getElem?_eq_some_iff.1 hj).1
  exact (Kd.FK_step (h.2 j hjl x hj) (fun k hk hlt => hW k hk.1 hlt)).mono fun k hk => hk.2
theorem nrowF_below {W W' : World} {g B i : Nat} {l : List S50} {cur : List Value} (h : NRowF W g B i l cur) (hb : Below W.heap.size W W') : NRowF W' g B i l cur := ⟨nrow_below h.1 hb, fun j hj x hx => Kd.FK_below (h.2 j hj x hx) hb⟩
set_option maxHeartbeats 4000000 in
set_option maxRecDepth 100000 in
theorem twins_cF (l : List S50) (A : Option Addr) (c : Nat) (w : World) (hC : Kd.C k50 w A l.length l) (hc : l.length ≤ c) (hn : l.length < 1000000) (hF : ∀ n ∈ l, Fits n) :
  Calls Tryz.prog 49 #[.slice A l.length c] w fun e w' => ∃ g cs, e = .returned (.slice (some ⟨g, 0, none⟩) l.length l.length) ∧ w.heap.size ≤ g ∧ cs.length = l.length * 16 ∧ NRowF w' g w.heap.size l.length l cs ∧ Below w.heap.size w w' := by
 have HF := Lib.hid hF
 have hmk := make50 w l.length hn
 by_cases h0 : l.length = 0
 ·have hl0 : l = [] := List.eq_nil_of_length_eq_zero h0
  subst hl0
  have hmk0 : (Instr.makeSlice 27 (.int .i64 0) (.int .i64 0)).run Tryz.prog w = .ok (.slice (some ⟨w.heap.size, 0, none⟩) 0 0) (w.alloc (.cells #[] 36)) := by
   have e : madeCells zero50 0 = #[] := by first | rfl | (apply Array.eq_empty_of_size_eq_zero; exact size_madeCells _ _)
   have h := make50 w 0 (by omega)
   rw [Nat.zero_mul, e] at h
   exact h
  have hcp : ∀ (ty : TypeId), (Builtin.copy_ #[27, 27] ty #[.slice (some ⟨w.heap.size, 0, none⟩) 0 0, .slice A 0 c]).run Tryz.prog (w.alloc (.cells #[] 36)) = .ok (goInt 0) (w.alloc (.cells #[] 36)) := fun ty => copy50_none (by rfl) ty
  clear hmk
  go_enter Tryz.func49, Tryz.ntmps49
  go_wp2_with (at_builtin; refine wpList_copy_runI _ rfl _ _ 42 42 rfl _ _ rfl rfl (hcp _) ?_)
  go_loopg [14] 0 (fun k s14 wr => s14 = .int .i64 0 ∧ wr = w.alloc (.cells #[] 36))
  case atStart => exact ⟨rfl, rfl⟩
  case round =>
   obtain ⟨rfl, rfl⟩ := hrel
   go_wp2
   go_ret
   exact ⟨_, [], rfl, Nat.le_refl _, rfl, ⟨⟨blk_new _ _, Nat.le_refl _, fun j x hj => by simp at hj⟩, fun j hj => absurd hj (Nat.not_lt_zero _)⟩, below_alloc (Below.refl _ _) _⟩
 ·obtain ⟨ad, hA, _⟩ := hC.2.2 (by omega)
  subst hA
  obtain ⟨inner, hr, hcell⟩ := ReadsRow.inner_ hC
  have hil : inner.length = l.length * 16 := hr.1
  have HR := Lib.hid hr
  have hmm : Nat.min l.length l.length = l.length := Nat.min_self _
  have hml : (madeCells zero50 (l.length * 16)).toList.length = l.length * 16 := by rw [Array.length_toList, size_madeCells]
  have HB0 := Lib.hid (below_alloc (Below.refl w.heap.size w) (.cells (madeCells zero50 (l.length * 16)) 36))
  have HG0 := Lib.hid (blk_new w (.cells (madeCells zero50 (l.length * 16)) 36))
  have hcp : ∀ ty : TypeId, (Builtin.copy_ #[27, 27] ty #[.slice (some ⟨w.heap.size, 0, none⟩) l.length l.length, .slice (some ad) l.length c]).run Tryz.prog (w.alloc (.cells (madeCells zero50 (l.length * 16)) 36)) = .ok (goInt l.length) ((w.alloc (.cells (madeCells zero50 (l.length * 16)) 36)).setRow w.heap.size inner.toArray) := fun ty => by
   have h := copy50 (o := 0) (cur := (madeCells zero50 (l.length * 16)).toList) (cs := inner) (dLen := l.length) (dCap := l.length) (sLen := l.length) (sCap := c) (a := ad) (by rw [Array.toArray_toList]; exact HG0.out) (by rw [hil, hmm]) (fun j v hj => pw_cell_below HB0.out (hcell j v hj)) (by omega) (fun u hu => by
    obtain ⟨j, hj⟩ := List.getElem?_of_mem hu
    exact Reps_one hr u hu) ty
   rw [hmm, splice_all _ _ (by omega)] at h
   exact h
  have HB1 := Lib.hid (below_setRow HB0.out (Nat.le_refl w.heap.size) inner.toArray)
  have HG1 := Lib.hid (setRow_heap _ _ _ inner.toArray _ _ HG0.out)
  go_enter Tryz.func49, Tryz.ntmps49
  go_wp2_with (at_builtin; refine wpList_copy_runI _ rfl _ _ 42 42 rfl _ _ rfl rfl (hcp _) ?_)
  have HN1 := Lib.hid (nrow_copied HR.out HB1.out (Nat.le_refl _) HG1.out)
  generalize ((w.alloc (.cells (madeCells zero50 (l.length * 16)) 36)).setRow w.heap.size inner.toArray) = V at HB1 HN1 ⊢
  clear hcp hmk HG1 HG0 HB0 hcell HR hr
  go_loopg [14] l.length (fun k s14 wr => ∃ (i : Nat) (cur : List Value), i ≤ l.length ∧ l.length - i ≤ k ∧ s14 = .int .i64 i ∧ cur.length = l.length * 16 ∧ Hid (NRowF wr w.heap.size w.heap.size i l cur) ∧ Hid (Below w.heap.size w wr))
  case atStart => exact ⟨0, inner, Nat.zero_le _, Nat.le_refl _, rfl, hil, Lib.hid ⟨HN1.out, fun j hj => absurd hj (Nat.not_lt_zero _)⟩, HB1⟩
  case round =>
   clear HN1 HB1
   obtain ⟨i, cur, hi, hik, rfl, hcl, HNF, HB⟩ := hrel
   have HN := Lib.hid HNF.out.1
   have HP := Lib.hid HNF.out.2
   obtain ⟨W0, hW⟩ : ∃ W, W = wr := ⟨_, rfl⟩
   subst hW
   by_cases hlt : i < l.length
   ·have hx : l[i]? = some (l[i]'hlt) := List.getElem?_eq_getElem hlt
    have hfk := HN.out.2.2 i _ hx
    have hfit := HF.out _ (List.getElem_mem (l := l) (n := i) hlt)
    have hset : l.set i (l[i]'hlt) = l := List.set_getElem_self hlt
    generalize (l[i]'hlt) = n at hx hfk hfit hset
    obtain ⟨B6, e6, B11, e11, hseg, _⟩ := k50_open (Kd.FK_now hfk)
    have hld := rd50_in (o := i * 16) HN.out.1 (by omega)
    rw [hseg] at hld hfk
    have HFK := Lib.hid hfk
    have HFI := Lib.hid hfit
    have HSET := Lib.hid hset
    have hgl := blk_lt HN.out.1
    clear hseg hfk hfit hset hx
    go_wp2_with (go_at_call 70; go_loud (refine (twin_c n _ _ (Kd.FK_now (HFK.out.step (W1 := W0.alloc (.cells #[.string n.f0, .bool n.f1, .int .i64 n.f2.f0, .int .i64 n.f2.f1, .int .i64 n.f2.f2, .int .i64 n.f2.f3, .slice B6 n.f3.length e6, .int .i64 n.f4.f0, .int .i64 n.f4.f1, .int .i64 n.f4.f2, .int .i64 n.f4.f3, .slice B11 n.f5.length e11, .int .i64 n.f6.f0, .int .i64 n.f6.f1, .int .i64 n.f6.f2, .int .i64 n.f6.f3] 36)) fun k _ hk => heap_alloc_old W0 _ hk)) HFI.out).mono ?_; rintro e w2 ⟨cs2, rfl, hfk2, hb2⟩; have HP2 := Lib.hid (fun j hj x hx => Kd.FK_below (HP.out j hj x hx) (below_step (below_alloc (Below.refl W0.heap.size W0) (.cells #[.string n.f0, .bool n.f1, .int .i64 n.f2.f0, .int .i64 n.f2.f1, .int .i64 n.f2.f2, .int .i64 n.f2.f3, .slice B6 n.f3.length e6, .int .i64 n.f4.f0, .int .i64 n.f4.f1, .int .i64 n.f4.f2, .int .i64 n.f4.f3, .slice B11 n.f5.length e11, .int .i64 n.f6.f0, .int .i64 n.f6.f1, .int .i64 n.f6.f2, .int .i64 n.f6.f3] 36)) hb2)); have HB2 := Lib.hid (below_step HB.out (below_step (below_alloc (Below.refl W0.heap.size W0) (.cells #[.string n.f0, .bool n.f1, .int .i64 n.f2.f0, .int .i64 n.f2.f1, .int .i64 n.f2.f2, .int .i64 n.f2.f3, .slice B6 n.f3.length e6, .int .i64 n.f4.f0, .int .i64 n.f4.f1, .int .i64 n.f4.f2, .int .i64 n.f4.f3, .slice B11 n.f5.length e11, .int .i64 n.f6.f0, .int .i64 n.f6.f1, .int .i64 n.f6.f2, .int .i64 n.f6.f3] 36)) hb2)); have HN2 := Lib.hid (nrow_below HN.out (below_step (below_alloc (Below.refl W0.heap.size W0) (.cells #[.string n.f0, .bool n.f1, .int .i64 n.f2.f0, .int .i64 n.f2.f1, .int .i64 n.f2.f2, .int .i64 n.f2.f3, .slice B6 n.f3.length e6, .int .i64 n.f4.f0, .int .i64 n.f4.f1, .int .i64 n.f4.f2, .int .i64 n.f4.f3, .slice B11 n.f5.length e11, .int .i64 n.f6.f0, .int .i64 n.f6.f1, .int .i64 n.f6.f2, .int .i64 n.f6.f3] 36)) hb2)); have HFK2 := Lib.hid hfk2; have hst := wr50_in (o := i * 16) (cs := cs2.toArray) HN2.out.1 (by omega) (by rw [List.size_toArray]; exact fk_len HFK2.out) (Array.all_eq_true_iff_forall_mem.2 fun v hv => fk_one HFK2.out v (by simpa using hv)); clear hfk2 hb2))
    have hsz : W0.heap.size ≤ (W0.alloc (.cells #[.string n.f0, .bool n.f1, .int .i64 n.f2.f0, .int .i64 n.f2.f1, .int .i64 n.f2.f2, .int .i64 n.f2.f3, .slice B6 n.f3.length e6, .int .i64 n.f4.f0, .int .i64 n.f4.f1, .int .i64 n.f4.f2, .int .i64 n.f4.f3, .slice B11 n.f5.length e11, .int .i64 n.f6.f0, .int .i64 n.f6.f1, .int .i64 n.f6.f2, .int .i64 n.f6.f3] 36)).heap.size := (below_size (below_alloc (Below.refl W0.heap.size W0) (.cells #[.string n.f0, .bool n.f1, .int .i64 n.f2.f0, .int .i64 n.f2.f1, .int .i64 n.f2.f2, .int .i64 n.f2.f3, .slice B6 n.f3.length e6, .int .i64 n.f4.f0, .int .i64 n.f4.f1, .int .i64 n.f4.f2, .int .i64 n.f4.f3, .slice B11 n.f5.length e11, .int .i64 n.f6.f0, .int .i64 n.f6.f1, .int .i64 n.f6.f2, .int .i64 n.f6.f3] 36)))
    have hwz : w.heap.size ≤ W0.heap.size := HB.out.size
    have HN3 := nrowF_set (i := i) (x := n) ⟨HN2.out, HP2.out⟩ hlt (HFK2.out.mono fun k hk => by omega)
    rw [HSET.out] at HN3
    go_roundg (l.length - (i + 1))
    case measure => omega
    case rel => exact ⟨i + 1, _, hlt, Nat.le_refl _, by go_num, by rw [length_splice _ _ _ (by rw [fk_len HFK2.out]; omega)]; exact hcl, Lib.hid HN3, Lib.hid (below_setRow HB2.out (Nat.le_refl _) _)⟩
   ·obtain rfl : i = l.length := by omega
    go_wp2
    go_ret
    exact ⟨_, cur, rfl, Nat.le_refl _, hcl, HNF.out, HB.out⟩
set_option maxHeartbeats 4000000 in
set_option maxRecDepth 100000 in
theorem tdrop0_cF (l : List S50) (p : ByteArray) (A : Option Addr) (c : Nat) (w : World) (hC : Kd.C k50 w A l.length l) (hc : l.length ≤ c) (hn : l.length < 100000) (hR : RisingN l p) (hF : ∀ m ∈ l, Fits m) (h0 : isN l p = false) :
  Calls Tryz.prog 32 #[.slice A l.length c, .string p] w fun e w' => ∃ A' c', e = .returned (.slice A' l.length c') ∧ l.length ≤ c' ∧ Kd.F k50 w' (fun k => w.heap.size ≤ k) A' l.length l ∧ Below w.heap.size w w' := by
 have HTW := Lib.hid fun w1 (hb : Below w.heap.size w w1) => twins_cF l A c w1 (Kd.C_below hC hb) hc (by omega) hF
 have HPL := Lib.hid fun (g : Nat) (w1 : World) (h : Kd.C k50 w1 (some ⟨g, 0, none⟩) l.length l) => placeN l p (some ⟨g, 0, none⟩) l.length w1 h (Nat.le_refl _) (by omega) hR
 clear hC hR hF
 generalize atN l p = i at HPL
 rw [h0] at HPL
 clear h0
 go_enter Tryz.func32, Tryz.ntmps32
 go_wp2_with (first | (go_at_call 49; go_loud (refine (HTW.out _ (Below.refl _ _)).mono ?_; rintro e w1 ⟨g, cur, rfl, hg, hcl, hN, hb⟩; have HN1 := Lib.hid hN; have HG := Lib.hid hg; have HB1 := Lib.hid hb; clear hb hN hg)) | (go_at_call 50; go_loud (refine (HPL.out g _ (nrow_C HN1.out.1 (by omega))).mono ?_; rintro e w2 ⟨rfl, hb⟩; have HN2 := Lib.hid (nrowF_below HN1.out hb); have HB2 := Lib.hid (below_step HB1.out hb); clear hb)))
 go_ret
 exact ⟨some ⟨g, 0, none⟩, _, rfl, Nat.le_refl _, nrowF_C HN2.out HG.out (by omega), HB2.out⟩
end Go.Proofs.YteilkbookcmndaaGreatDoor.C
end
