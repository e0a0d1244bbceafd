/- Texts that the claim's law stands on, cut down to what it reaches. -/
import Derived.Test.YtmndeoncbocplaaDoorYD
import Derived.Laws.CopyOwn
import Derived.Laws.MakeOwn
import Derived.Lib.AppendZerosOnto
import Derived.Lib.AppendZeros
import Derived.Shelf.Spec.SlicesInsert
import Derived.Test.YtmndeoncbocplaaDoorYS
import Derived.Deep.LoopGhost
import Derived.Laws.NewBlocks
set_option linter.unusedVariables false
set_option linter.unusedSimpArgs false
section
set_option linter.unusedVariables false
set_option linter.unusedSimpArgs false
namespace Go.Proofs.YtmndeoncbocplaaDoor.C
open Go.RowKit Go.Proofs.YtmndeoncbocplaaDoor.Q Go.Proofs.YtmndeoncbocplaaDoorW.PrintWords Go.Proofs.YtmndeoncbocplaaDoorW.PrintLast Go.Proofs.YtmndeoncbocplaaDoorW.PrintMore
/-- The zero node's cells. -/
def zero50 : Array Value := #[.string (⟨#[]⟩ : ByteArray), .bool false, .int .i64 0, .int .i64 0, .int .i64 0, .int .i64 0, .slice none 0 0, .int .i64 0, .int .i64 0, .int .i64 0, .int .i64 0, .slice none 0 0, .int .i64 0, .int .i64 0, .int .i64 0, .int .i64 0]
theorem info50 : ∃ i, Tryd.prog.info? 50 = some i ∧ i.zero = some (.agg zero50) ∧ i.size = 16 ∧ i.bytes = 168 := by
  have h := inf50
  cases hq : Tryd.prog.info? 50 with
  | none => rw [hq] at h; cases h
  | some i =>
    rw [hq] at h
    simp only [Option.map_some, Option.some.injEq, Prod.mk.injEq] at h
    exact ⟨i, rfl, h.1, h.2.1, h.2.2⟩
theorem wr50_in {W : World} {g o : Nat} {cur : List Value} {cs : Array Value} {ty : TypeId} (hg : W.heap[g]? = some (.cells cur.toArray ty (0, 0))) (ho : o + 16 ≤ cur.length) (hi : cs.size = 16) (h1 : cs.all (·.oneCell') = true) : (wrS 50 (.pointer (some ⟨g, o, none⟩)) (.agg cs)).run Tryd.prog W = .ok () (W.setRow g (splice cur o cs.toList).toArray) := by
  have hs := run_storeCells_at Tryd.prog g o ty cs.toList 0 cur.toArray W hg (by simp [hi]; omega) (fun v hv => (Array.all_eq_true_iff_forall_mem.1 h1) v (by simpa using hv))
  obtain ⟨i, hq, hz, hsz, _⟩ := info50
  rw [← wr_at]
  simp only [Instr.storeAt, Instr.sureAddr, Sem.run_bind, Sem.run_pure, Result.andThen]
  have hs2 : cs.size = i.size := by omega
  simp only [Nat.add_zero] at hs
  simp [storeVar, sizeOf, typeInfo, hq, Value.cells, hs2, hs, splice, hi]
theorem rd50_in {W : World} {g o : Nat} {cur : List Value} {ty : TypeId} {fr : Nat × Nat} (hg : W.heap[g]? = some (.cells cur.toArray ty fr)) (ho : o + 16 ≤ cur.length) : (rdS 50 (.pointer (some ⟨g, o, none⟩))).run Tryd.prog W = .ok (.agg ((cur.drop o).take 16).toArray) W := by
  refine rd50_of (load50 (by simp; omega) fun j v hj => ?_)
  have hj' : ((cur.drop o).take 16)[j]? = some v := hj
  rw [List.getElem?_take] at hj'
  split at hj'
  · rw [List.getElem?_drop] at hj'
    have ha : (⟨g, o, none⟩ : Addr).add j = ⟨g, o + j, none⟩ := by unfold Addr.add; split <;> simp_all
    rw [ha]
    simp only [World.cell?, hg, Option.isSome_none, Bool.false_eq_true, if_false]
    rw [← Array.getElem?_toList]
    exact hj'
  · cases hj'
theorem copy50 {W : World} {g o dLen dCap sLen sCap : Nat} {a : Addr} {cur : List Value} {cs : List Value} {t : TypeId} (hg : W.heap[g]? = some (.cells cur.toArray t (0, 0))) (hn : cs.length = Nat.min sLen dLen * 16)
    (hsrc : ∀ j v, cs[j]? = some v → W.cell? (a.add j) = some v) (hfit : o + cs.length ≤ cur.length) (h1 : ∀ v ∈ cs, v.oneCell' = true) (ty : TypeId) :
    (Builtin.copy_ #[42, 42] ty #[.slice (some ⟨g, o, none⟩) dLen dCap, .slice (some a) sLen sCap]).run Tryd.prog W = .ok (goInt (Nat.min sLen dLen)) (W.setRow g (splice cur o cs).toArray) := by
  have hl := run_firstCells_some (P := Tryd.prog) W 16 (Nat.min sLen dLen) a sLen sCap cs hn hsrc
  have hst := run_storeCells_at Tryd.prog g o t cs 0 cur.toArray W hg (by simpa using hfit) h1
  obtain ⟨i, hq, hz, hsz, _⟩ := info50
  simp only [Nat.add_zero] at hst
  simp [Builtin.copy_, run_underlying Tryd.underlying42, Builtin.lenOf, sizeOf, typeInfo, hq, hsz, hl, hst, splice]
theorem copy50_none {W : World} {g o dLen dCap sLen sCap : Nat} {sp : Option Addr} (hn : Nat.min sLen dLen = 0) (ty : TypeId) :
    (Builtin.copy_ #[42, 42] ty #[.slice (some ⟨g, o, none⟩) dLen dCap, .slice sp sLen sCap]).run Tryd.prog W = .ok (goInt 0) W := by
  obtain ⟨i, hq, hz, hsz, _⟩ := info50
  cases sp <;> simp [Builtin.copy_, run_underlying Tryd.underlying42, Builtin.lenOf, Builtin.firstCells, sizeOf, typeInfo, hq, hn, storeCells, loadCells, loadCellsFrom]
/-- A block g that holds nodes, each of which leads elsewhere than into it. -/
def NRow (W : World) (g : Nat) (l : List S50) (cur : List Value) : Prop :=
  W.heap[g]? = some (.cells cur.toArray 50 (0, 0)) ∧ l.length * 16 ≤ cur.length ∧ ∀ (j : Nat) (x : S50), l[j]? = some x → k50.FK W (fun k => k ≠ g) x ((cur.drop (j * 16)).take 16)
theorem fk_len {W : World} {ok : Nat → Prop} {x : S50} {cs : List Value} (h : k50.FK W ok x cs) : cs.length = 16 := by
  obtain ⟨A6, c6, A11, c11, rfl, _⟩ := k50_open (Kd.FK_now h)
  rfl
theorem fk_one {W : World} {ok : Nat → Prop} {x : S50} {cs : List Value} (h : k50.FK W ok x cs) : ∀ u ∈ cs, u.oneCell' = true := k50.K_one (Kd.FK_now h)
theorem nrow_C {W : World} {g : Nat} {l : List S50} {cur : List Value} (h : NRow W g l cur) (hn : l.length < 1000000) : Kd.C k50 W (some ⟨g, 0, none⟩) l.length l := by
  obtain ⟨h1, h2, h3⟩ := h
  refine ⟨rfl, by omega, fun _ => ⟨_, rfl, fun j q hj => ?_⟩⟩
  have hk := h3 j q hj
  have hlt := (List.getElem?_eq_some_iff.1 hj).1
  refine ⟨(cur.drop (j * 16)).take 16, fk_len hk, Kd.FK_now hk, fun i u hu => ?_⟩
  rw [List.getElem?_take] at hu
  split at hu
  · rename_i hi
    rw [List.getElem?_drop] at hu
    show W.cell? ((⟨g, 0, none⟩ : Addr).add (j * 16 + i)) = some u
    have ha : (⟨g, 0, none⟩ : Addr).add (j * 16 + i) = ⟨g, j * 16 + i, none⟩ := by unfold Addr.add; split <;> simp_all
    rw [ha]
    simp only [World.cell?, h1, Option.isSome_none, Bool.false_eq_true, if_false]
    rw [← Array.getElem?_toList]
    exact hu
  · cases hu
theorem nrow_step {W W' : World} {g : Nat} {l : List S50} {cur : List Value} (h : NRow W g l cur) (hb : ∀ k, k < W.heap.size → W'.heap[k]? = W.heap[k]?) : NRow W' g l cur :=
  ⟨(hb g (blk_lt h.1)).trans h.1, h.2.1, fun j x hj => (h.2.2 j x hj).step fun k _ hk => hb k hk⟩
theorem nrow_below {W W' : World} {g : Nat} {l : List S50} {cur : List Value} (h : NRow W g l cur) (hb : Below W.heap.size W W') : NRow W' g l cur := nrow_step h fun k hk => hb.block k hk
theorem splice_in {α : Type} (L cs : List α) (o : Nat) (h : o + cs.length ≤ L.length) : ((splice L o cs).drop o).take cs.length = cs := by
  unfold splice
  have e : (L.take o).length = o := by rw [List.length_take]; omega
  rw [List.drop_append_of_le_length (by omega), List.drop_of_length_le (by omega), List.nil_append]
  simp
theorem splice_ahead {α : Type} (L cs : List α) (o a n : Nat) (h : a + n ≤ o) (ho : o + cs.length ≤ L.length) : ((splice L o cs).drop a).take n = (L.drop a).take n := by
  apply List.ext_getElem?
  intro j
  by_cases hj : j < n
  · rw [List.getElem?_take_of_lt hj, List.getElem?_take_of_lt hj, List.getElem?_drop, List.getElem?_drop]
    unfold splice
    rw [List.getElem?_append_left (by rw [List.length_take]; omega), List.getElem?_take_of_lt (by omega)]
  · rw [List.getElem?_take_eq_none (by omega), List.getElem?_take_eq_none (by omega)]
theorem splice_behind {α : Type} (L cs : List α) (o a n : Nat) (h : o + cs.length ≤ a) (ho : o + cs.length ≤ L.length) : ((splice L o cs).drop a).take n = (L.drop a).take n := by
  have e : (splice L o cs).drop a = L.drop a := by
    unfold splice
    have e0 : (L.take o).length = o := by rw [List.length_take]; omega
    rw [List.drop_append, e0, List.drop_of_length_le (by omega), List.nil_append, List.drop_append, List.drop_of_length_le (by omega), List.nil_append, List.drop_drop]
    congr 1
    omega
  rw [e]
/-- A node stored into a place of the row. -/
theorem nrow_set {W : World} {g i : Nat} {l : List S50} {cur : List Value} {x : S50} {cs : List Value} (h : NRow W g l cur) (hi : i < l.length) (hx : k50.FK W (fun k => k ≠ g) x cs) : NRow (W.setRow g (splice cur (i * 16) cs).toArray) g (l.set i x) (splice cur (i * 16) cs) := by
  obtain ⟨h1, h2, h3⟩ := h
  have hl := fk_len hx
  have hm : ∀ {y : S50} {c : List Value}, k50.FK W (fun k => k ≠ g) y c → k50.FK (W.setRow g (splice cur (i * 16) cs).toArray) (fun k => k ≠ g) y c := fun hy => hy.step fun k hk _ => setRow_other W g k _ hk
  have hfit : i * 16 + cs.length ≤ cur.length := by omega
  refine ⟨setRow_heap _ _ _ _ _ _ h1, by rw [List.length_set, length_splice _ _ _ hfit]; exact h2, fun j y hj => ?_⟩
  rw [List.getElem?_set] at hj
  split at hj
  · rename_i hij
    subst hij
    obtain rfl := Option.some.inj hj
    have := splice_in cur cs (i * 16) hfit
    rw [hl] at this
    rw [this]
    exact hm hx
  · rename_i hij
    have hy := hm (h3 j y hj)
    rcases Nat.lt_or_gt_of_ne hij with hlt | hgt
    · rw [splice_behind cur cs (i * 16) (j * 16) 16 (by omega) hfit]; exact hy
    · rw [splice_ahead cur cs (i * 16) (j * 16) 16 (by omega) hfit]; exact hy
end Go.Proofs.YtmndeoncbocplaaDoor.C
end
section
set_option linter.unusedVariables false
set_option linter.unusedSimpArgs false
namespace Go.Proofs.YtmndeoncbocplaaDoor.C
open Go.RowKit Go.Proofs.YtmndeoncbocplaaDoor.Q Go.Proofs.YtmndeoncbocplaaDoorW.PrintWords Go.Proofs.YtmndeoncbocplaaDoorW.PrintLast Go.Proofs.YtmndeoncbocplaaDoorW.PrintMore
attribute [local go_sem ↓] rd_at50 wr_at50 al_at50
attribute [local go_sem] rd50_new wr50_new al50
theorem make50 (w : World) (n : Nat) (hn : n < 1000000) : (Instr.makeSlice 42 (.int .i64 (n : Int)) (.int .i64 (n : Int))).run Tryd.prog w = .ok (.slice (some ⟨w.heap.size, 0, none⟩) n n) (w.alloc (.cells (madeCells zero50 (n * 16)) 50)) := by
  obtain ⟨i, hq, hz, hsz, hby⟩ := info50
  have h := run_make (P := Tryd.prog) w 42 50 i (.agg zero50) Tryd.underlying42 hq hz .i64 .i64 (n : Int) (n : Int) (by omega) (Int.le_refl _) (by rw [hby]; omega) (by omega)
  rw [hsz, Int.toNat_natCast] at h
  exact h
/-- The row behind the copy: the nodes as they came in. -/
theorem nrow_copied {w W : World} {g : Nat} {l : List S50} {inner : List Value} (hr : Reps (k50.K w) 16 l inner) (hb : Below w.heap.size w W) (hg : w.heap.size ≤ g) (hh : W.heap[g]? = some (.cells inner.toArray 50 (0, 0))) : NRow W g l inner := by
  refine ⟨hh, by rw [hr.1]; exact Nat.le_refl _, fun j x hj => ?_⟩
  have hK := hr.2 j x hj
  exact ((K_foot hK).step fun k hk _ => hb.block k hk).mono fun k hk => by omega
theorem splice_all {α : Type} (L cs : List α) (h : L.length = cs.length) : splice L 0 cs = cs := by
  unfold splice
  rw [List.take_zero, List.nil_append, Nat.zero_add, List.drop_of_length_le (by omega), List.append_nil]
set_option maxHeartbeats 4000000 in
set_option maxRecDepth 100000 in
theorem twins_c (l : List S50) (A : Option Addr) (c : Nat) (w : World) (hC : Kd.C k50 w A l.length l) (hc : l.length ≤ c) (hn : l.length < 1000000) (hF : ∀ n ∈ l, Fits n) :
    Calls Tryd.prog 85 #[.slice A l.length c] w fun e w' => ∃ g cs, e = .returned (.slice (some ⟨g, 0, none⟩) l.length l.length) ∧ w.heap.size ≤ g ∧ cs.length = l.length * 16 ∧ NRow w' g l cs ∧ Below w.heap.size w w' := by
  have HF := Lib.hid hF
  have hmk := make50 w l.length hn
  by_cases h0 : l.length = 0
  · have hl0 : l = [] := List.eq_nil_of_length_eq_zero h0
    subst hl0
    have hmk0 : (Instr.makeSlice 42 (.int .i64 0) (.int .i64 0)).run Tryd.prog w = .ok (.slice (some ⟨w.heap.size, 0, none⟩) 0 0) (w.alloc (.cells #[] 50)) := by
      have e : madeCells zero50 0 = #[] := by first | rfl | (apply Array.eq_empty_of_size_eq_zero; exact size_madeCells _ _)
      have h := make50 w 0 (by omega)
      rw [Nat.zero_mul, e] at h
      exact h
    have hcp : ∀ (ty : TypeId), (Builtin.copy_ #[42, 42] ty #[.slice (some ⟨w.heap.size, 0, none⟩) 0 0, .slice A 0 c]).run Tryd.prog (w.alloc (.cells #[] 50)) = .ok (goInt 0) (w.alloc (.cells #[] 50)) := fun ty => copy50_none (by rfl) ty
    clear hmk
    go_enter Tryd.func85, Tryd.ntmps85
    go_wp2_with (at_builtin; refine wpList_copy_runI _ rfl _ _ 42 42 rfl _ _ rfl rfl (hcp _) ?_)
    go_loopg [14] 0 (fun k s14 wr => s14 = .int .i64 0 ∧ wr = w.alloc (.cells #[] 50))
    case atStart => exact ⟨rfl, rfl⟩
    case round =>
      obtain ⟨rfl, rfl⟩ := hrel
      go_wp2
      go_ret
      exact ⟨_, [], rfl, Nat.le_refl _, rfl, ⟨blk_new _ _, Nat.le_refl _, fun j x hj => by simp at hj⟩, below_alloc (Below.refl _ _) _⟩
  · obtain ⟨ad, hA, _⟩ := hC.2.2 (by omega)
    subst hA
    obtain ⟨inner, hr, hcell⟩ := ReadsRow.inner_ hC
    have hil : inner.length = l.length * 16 := hr.1
    have HR := Lib.hid hr
    have hmm : Nat.min l.length l.length = l.length := Nat.min_self _
    have hml : (madeCells zero50 (l.length * 16)).toList.length = l.length * 16 := by rw [Array.length_toList, size_madeCells]
    have HB0 := Lib.hid (below_alloc (Below.refl w.heap.size w) (.cells (madeCells zero50 (l.length * 16)) 50))
    have HG0 := Lib.hid (blk_new w (.cells (madeCells zero50 (l.length * 16)) 50))
    have hcp : ∀ ty : TypeId, (Builtin.copy_ #[42, 42] ty #[.slice (some ⟨w.heap.size, 0, none⟩) l.length l.length, .slice (some ad) l.length c]).run Tryd.prog (w.alloc (.cells (madeCells zero50 (l.length * 16)) 50)) = .ok (goInt l.length) ((w.alloc (.cells (madeCells zero50 (l.length * 16)) 50)).setRow w.heap.size inner.toArray) := fun ty => by
      have h := copy50 (o := 0) (cur := (madeCells zero50 (l.length * 16)).toList) (cs := inner) (dLen := l.length) (dCap := l.length) (sLen := l.length) (sCap := c) (a := ad) (by rw [Array.toArray_toList]; exact HG0.out) (by rw [hil, hmm]) (fun j v hj => pw_cell_below HB0.out (hcell j v hj)) (by omega) (fun u hu => by
        obtain ⟨j, hj⟩ := List.getElem?_of_mem hu
        exact Reps_one hr u hu) ty
      rw [hmm, splice_all _ _ (by omega)] at h
      exact h
    have HB1 := Lib.hid (below_setRow HB0.out (Nat.le_refl w.heap.size) inner.toArray)
    have HG1 := Lib.hid (setRow_heap _ _ _ inner.toArray _ _ HG0.out)
    go_enter Tryd.func85, Tryd.ntmps85
    go_wp2_with (at_builtin; refine wpList_copy_runI _ rfl _ _ 42 42 rfl _ _ rfl rfl (hcp _) ?_)
    have HN1 := Lib.hid (nrow_copied HR.out HB1.out (Nat.le_refl _) HG1.out)
    generalize ((w.alloc (.cells (madeCells zero50 (l.length * 16)) 50)).setRow w.heap.size inner.toArray) = V at HB1 HN1 ⊢
    clear hcp hmk HG1 HG0 HB0 hcell HR hr
    go_loopg [14] l.length (fun k s14 wr => ∃ (i : Nat) (cur : List Value), i ≤ l.length ∧ l.length - i ≤ k ∧ s14 = .int .i64 i ∧ cur.length = l.length * 16 ∧ Hid (NRow wr w.heap.size l cur) ∧ Hid (Below w.heap.size w wr))
    case atStart => exact ⟨0, inner, Nat.zero_le _, Nat.le_refl _, rfl, hil, HN1, HB1⟩
    case round =>
      clear HN1 HB1
      obtain ⟨i, cur, hi, hik, rfl, hcl, HN, HB⟩ := hrel
      obtain ⟨W0, hW⟩ : ∃ W, W = wr := ⟨_, rfl⟩
      subst hW
      by_cases hlt : i < l.length
      · have hx : l[i]? = some (l[i]'hlt) := List.getElem?_eq_getElem hlt
        have hfk := HN.out.2.2 i _ hx
        have hfit := HF.out _ (List.getElem_mem (l := l) (n := i) hlt)
        have hset : l.set i (l[i]'hlt) = l := List.set_getElem_self hlt
        generalize (l[i]'hlt) = n at hx hfk hfit hset
        obtain ⟨B6, e6, B11, e11, hseg, _⟩ := k50_open (Kd.FK_now hfk)
        have hld := rd50_in (o := i * 16) HN.out.1 (by omega)
        rw [hseg] at hld hfk
        have HFK := Lib.hid hfk
        have HFI := Lib.hid hfit
        have HSET := Lib.hid hset
        have hgl := blk_lt HN.out.1
        clear hseg hfk hfit hset hx
        go_wp2_with (go_at_call 84; go_loud (refine (twin_c n _ _ (Kd.FK_now (HFK.out.step (W1 := W0.alloc (.cells #[.string n.f0, .bool n.f1, .int .i64 n.f2.f0, .int .i64 n.f2.f1, .int .i64 n.f2.f2, .int .i64 n.f2.f3, .slice B6 n.f3.length e6, .int .i64 n.f4.f0, .int .i64 n.f4.f1, .int .i64 n.f4.f2, .int .i64 n.f4.f3, .slice B11 n.f5.length e11, .int .i64 n.f6.f0, .int .i64 n.f6.f1, .int .i64 n.f6.f2, .int .i64 n.f6.f3] 50)) fun k _ hk => heap_alloc_old W0 _ hk)) HFI.out).mono ?_; rintro e w2 ⟨cs2, rfl, hfk2, hb2⟩; have HB2 := Lib.hid (below_step HB.out (below_step (below_alloc (Below.refl W0.heap.size W0) (.cells #[.string n.f0, .bool n.f1, .int .i64 n.f2.f0, .int .i64 n.f2.f1, .int .i64 n.f2.f2, .int .i64 n.f2.f3, .slice B6 n.f3.length e6, .int .i64 n.f4.f0, .int .i64 n.f4.f1, .int .i64 n.f4.f2, .int .i64 n.f4.f3, .slice B11 n.f5.length e11, .int .i64 n.f6.f0, .int .i64 n.f6.f1, .int .i64 n.f6.f2, .int .i64 n.f6.f3] 50)) hb2)); have HN2 := Lib.hid (nrow_below HN.out (below_step (below_alloc (Below.refl W0.heap.size W0) (.cells #[.string n.f0, .bool n.f1, .int .i64 n.f2.f0, .int .i64 n.f2.f1, .int .i64 n.f2.f2, .int .i64 n.f2.f3, .slice B6 n.f3.length e6, .int .i64 n.f4.f0, .int .i64 n.f4.f1, .int .i64 n.f4.f2, .int .i64 n.f4.f3, .slice B11 n.f5.length e11, .int .i64 n.f6.f0, .int .i64 n.f6.f1, .int .i64 n.f6.f2, .int .i64 n.f6.f3] 50)) hb2)); have HFK2 := Lib.hid hfk2; have hst := wr50_in (o := i * 16) (cs := cs2.toArray) HN2.out.1 (by omega) (by rw [List.size_toArray]; exact fk_len HFK2.out) (Array.all_eq_true_iff_forall_mem.2 fun v hv => fk_one HFK2.out v (by simpa using hv)); clear hfk2 hb2))
        have hsz : W0.heap.size ≤ (W0.alloc (.cells #[.string n.f0, .bool n.f1, .int .i64 n.f2.f0, .int .i64 n.f2.f1, .int .i64 n.f2.f2, .int .i64 n.f2.f3, .slice B6 n.f3.length e6, .int .i64 n.f4.f0, .int .i64 n.f4.f1, .int .i64 n.f4.f2, .int .i64 n.f4.f3, .slice B11 n.f5.length e11, .int .i64 n.f6.f0, .int .i64 n.f6.f1, .int .i64 n.f6.f2, .int .i64 n.f6.f3] 50)).heap.size := (below_size (below_alloc (Below.refl W0.heap.size W0) (.cells #[.string n.f0, .bool n.f1, .int .i64 n.f2.f0, .int .i64 n.f2.f1, .int .i64 n.f2.f2, .int .i64 n.f2.f3, .slice B6 n.f3.length e6, .int .i64 n.f4.f0, .int .i64 n.f4.f1, .int .i64 n.f4.f2, .int .i64 n.f4.f3, .slice B11 n.f5.length e11, .int .i64 n.f6.f0, .int .i64 n.f6.f1, .int .i64 n.f6.f2, .int .i64 n.f6.f3] 50)))
        have HN3 := nrow_set (i := i) (x := n) HN2.out hlt (HFK2.out.mono fun k hk => by omega)
        rw [HSET.out] at HN3
        go_roundg (l.length - (i + 1))
        case measure => omega
        case rel => exact ⟨i + 1, _, hlt, Nat.le_refl _, by go_num, by rw [length_splice _ _ _ (by rw [fk_len HFK2.out]; omega)]; exact hcl, Lib.hid HN3, Lib.hid (below_setRow HB2.out (Nat.le_refl _) _)⟩
      · obtain rfl : i = l.length := by omega
        go_wp2
        go_ret
        exact ⟨_, cur, rfl, Nat.le_refl _, hcl, HN.out, HB.out⟩
end Go.Proofs.YtmndeoncbocplaaDoor.C
end
section
set_option linter.unusedVariables false
set_option linter.unusedSimpArgs false
namespace Go.Proofs.YtmndeoncbocplaaDoor.C
open Go.RowKit Go.Proofs.YtmndeoncbocplaaDoor.Q Go.Proofs.YtmndeoncbocplaaDoorW.PrintWords Go.Proofs.YtmndeoncbocplaaDoorW.PrintLast Go.Proofs.YtmndeoncbocplaaDoorW.PrintMore
attribute [local go_sem ↓] rd_at50 wr_at50 al_at50
attribute [local go_sem] rd50_new wr50_new al50
/-- A row among rows: nodes ahead, one, nodes behind. -/
theorem nrow_ins {W W' : World} {g g' i : Nat} {l : List S50} {cur cs' vs : List Value} {x : S50} (h : NRow W g l cur) (hcl : cur.length = l.length * 16) (hi : i ≤ l.length) (hx : k50.FK W (fun _ => True) x vs) (hg : W.heap.size ≤ g') (hb : Below W.heap.size W W')
    (hh : W'.heap[g']? = some (.cells cs'.toArray 50 (0, 0))) (hc : cs'.take ((l.length + 1) * 16) = cur.take (i * 16) ++ (vs ++ cur.drop (i * 16))) : NRow W' g' (l.take i ++ x :: l.drop i) cs' := by
  have hvl := fk_len hx
  have hlen : (l.take i ++ x :: l.drop i).length = l.length + 1 := by rw [List.length_append, List.length_cons, List.length_take, List.length_drop]; omega
  have hm : ∀ {y : S50} {c : List Value} {ok : Nat → Prop}, k50.FK W ok y c → k50.FK W' (fun k => k ≠ g') y c := fun hy => (hy.bound.step fun k hk _ => hb.block k hk.2).mono fun k hk => by omega
  have hseg : ∀ j, j < l.length + 1 → (cs'.drop (j * 16)).take 16 = ((cur.take (i * 16) ++ (vs ++ cur.drop (i * 16))).drop (j * 16)).take 16 := by
    intro j hj
    rw [← hc, List.drop_take, List.take_take, Nat.min_eq_left (by omega)]
  refine ⟨hh, ?_, fun j y hj => ?_⟩
  · rw [hlen]
    have := congrArg List.length hc
    rw [List.length_take, List.length_append, List.length_append, List.length_take, List.length_drop] at this
    omega
  · have hjl := (List.getElem?_eq_some_iff.1 hj).1
    rw [hlen] at hjl
    rw [hseg j hjl]
    have hti : (cur.take (i * 16)).length = i * 16 := by rw [List.length_take]; omega
    have hli : (l.take i).length = i := by rw [List.length_take]; omega
    rcases Nat.lt_trichotomy j i with h1 | h1 | h1
    · rw [List.getElem?_append_left (by omega), List.getElem?_take_of_lt h1] at hj
      have hy := hm (h.2.2 j y hj)
      have e : ((cur.take (i * 16) ++ (vs ++ cur.drop (i * 16))).drop (j * 16)).take 16 = (cur.drop (j * 16)).take 16 := by
        rw [List.drop_append_of_le_length (by omega), List.take_append_of_le_length (by rw [List.length_drop]; omega), List.drop_take, List.take_take, Nat.min_eq_left (by omega)]
      rw [e]; exact hy
    · subst h1
      rw [List.getElem?_append_right (by omega), hli, Nat.sub_self] at hj
      obtain rfl : x = y := by simpa using hj
      have e : ((cur.take (j * 16) ++ (vs ++ cur.drop (j * 16))).drop (j * 16)).take 16 = vs := by
        rw [List.drop_append, hti, Nat.sub_self, List.drop_zero, List.drop_of_length_le (by omega), List.nil_append, List.take_append_of_le_length (by omega), List.take_of_length_le (by omega)]
      rw [e]; exact hm hx
    · rw [List.getElem?_append_right (by omega), hli] at hj
      obtain ⟨m, rfl⟩ : ∃ m, j = i + 1 + m := ⟨j - i - 1, by omega⟩
      rw [show i + 1 + m - i = m + 1 by omega, List.getElem?_cons_succ, List.getElem?_drop] at hj
      have hy := hm (h.2.2 (i + m) y hj)
      have e : ((cur.take (i * 16) ++ (vs ++ cur.drop (i * 16))).drop ((i + 1 + m) * 16)).take 16 = (cur.drop ((i + m) * 16)).take 16 := by
        rw [List.drop_append, hti, List.drop_of_length_le (by omega), List.nil_append, List.drop_append, List.drop_of_length_le (by omega), List.nil_append, List.drop_drop]
        congr 2
        omega
      rw [e]; exact hy
theorem nrow_one {W : World} {g : Nat} {l : List S50} {cur : List Value} (h : NRow W g l cur) (hcl : cur.length = l.length * 16) : ∀ v ∈ cur, v.oneCell' = true := by
  intro v hv
  obtain ⟨j, hj, rfl⟩ := List.getElem_of_mem hv
  have hlt : j / 16 < l.length := by omega
  have hk := h.2.2 (j / 16) _ (List.getElem?_eq_getElem hlt)
  refine fk_one hk _ ?_
  have e : ((cur.drop (j / 16 * 16)).take 16)[j % 16]? = some cur[j] := by
    rw [List.getElem?_take_of_lt (by omega), List.getElem?_drop, show j / 16 * 16 + j % 16 = j by omega]
    exact List.getElem?_eq_getElem hj
  exact List.mem_of_getElem? e
set_option maxHeartbeats 4000000 in
set_option maxRecDepth 100000 in
theorem insert_c (l : List S50) (g i vb : Nat) (cs vs : List Value) (x : S50) (w : World) (hN : NRow w g l cs) (hcl : cs.length = l.length * 16) (hn : l.length < 900000) (hi : i ≤ l.length) (hv : w.heap[vb]? = some (.cells vs.toArray 50 (0, 0))) (hx : k50.FK w (fun _ => True) x vs) :
    Calls Tryd.prog 86 #[.slice (some ⟨g, 0, none⟩) l.length l.length, .int .i64 (i : Int), .slice (some ⟨vb, 0, none⟩) 1 1] w fun e w' => ∃ g' cs' cap, e = .returned (.slice (some ⟨g', 0, none⟩) (l.length + 1) cap) ∧ l.length + 1 ≤ cap ∧ w.heap.size ≤ g' ∧ NRow w' g' (l.take i ++ x :: l.drop i) cs' ∧ Below w.heap.size w w' := by
  obtain ⟨i0, hi0, hz0, hzs, hzb⟩ := info50
  have hvl := fk_len hx
  have hzl : zero50.size = 16 := rfl
  have hcell : ∀ j v, cs[j]? = some v → w.cell? ((⟨g, 0, none⟩ : Addr).add j) = some v := fun j v hj => by
    have ha : (⟨g, 0, none⟩ : Addr).add j = ⟨g, j, none⟩ := by unfold Addr.add; split <;> simp_all
    rw [ha]
    simp only [World.cell?, hN.1, Option.isSome_none, Bool.false_eq_true, if_false]
    rw [← Array.getElem?_toList]; exact hj
  have hvcell : ∀ j v, vs[j]? = some v → w.cell? ((⟨vb, 0, none⟩ : Addr).add j) = some v := fun j v hj => by
    have ha : (⟨vb, 0, none⟩ : Addr).add j = ⟨vb, j, none⟩ := by unfold Addr.add; split <;> simp_all
    rw [ha]
    simp only [World.cell?, hv, Option.isSome_none, Bool.false_eq_true, if_false]
    rw [← Array.getElem?_toList]; exact hj
  have hG := grownCap_ge w (l.length + 1) l.length 50
  by_cases hie : i = l.length
  · subst hie
    have hap : ∀ ty, (Builtin.append_ #[42, 42] ty #[.slice (some ⟨g, 0, none⟩) l.length l.length, .slice (some ⟨vb, 0, none⟩) 1 1]).run Tryd.prog w = .ok (.slice (some ⟨w.heap.size, 0, none⟩) (l.length + 1) (grownCap w (l.length + 1) l.length 50)) (w.drew.alloc (.cells (cs.toArray ++ vs.toArray ++ Builtin.zeroCells zero50 (grownCap w (l.length + 1) l.length 50 - (l.length + 1))) 50)) := fun ty =>
      run_append_grow w 42 ty 50 i0 (.agg zero50) Tryd.underlying42 hi0 hz0 ⟨g, 0, none⟩ l.length l.length cs (by rw [hzs]; exact hcl) hcell ⟨vb, 0, none⟩ 1 1 vs (by rw [hzs, hvl]) hvcell (by omega) (by omega) (by rw [hzb]; exact growslice_fits (by omega) (by omega))
    have HN := Lib.hid hN
    have HX := Lib.hid hx
    generalize grownCap w (l.length + 1) l.length 50 = G at hap hG
    have hfin : ∃ cs' : List Value, (w.drew.alloc (.cells (cs.toArray ++ vs.toArray ++ Builtin.zeroCells zero50 (G - (l.length + 1))) 50)).heap[w.heap.size]? = some (.cells cs'.toArray 50 (0, 0)) ∧ cs'.take ((l.length + 1) * 16) = cs.take (l.length * 16) ++ (vs ++ cs.drop (l.length * 16)) := by
      refine ⟨cs ++ vs ++ (Builtin.zeroCells zero50 (G - (l.length + 1))).toList, ?_, ?_⟩
      · have h := blk_new w.drew (.cells (cs.toArray ++ vs.toArray ++ Builtin.zeroCells zero50 (G - (l.length + 1))) 50)
        have e : (cs ++ vs ++ (Builtin.zeroCells zero50 (G - (l.length + 1))).toList).toArray = cs.toArray ++ vs.toArray ++ Builtin.zeroCells zero50 (G - (l.length + 1)) := by simp
        rw [e]; exact h
      · rw [List.take_append_of_le_length (by rw [List.length_append]; omega), List.take_of_length_le (by rw [List.length_append]; omega), List.take_of_length_le (by omega), List.drop_of_length_le (by omega), List.append_nil]
    obtain ⟨cs', hh, hc⟩ := hfin
    have HB := Lib.hid (show Below w.heap.size w (w.drew.alloc (.cells (cs.toArray ++ vs.toArray ++ Builtin.zeroCells zero50 (G - (l.length + 1))) 50)) from below_alloc (below_drew1 (Below.refl _ _)) _)
    have HR := Lib.hid (nrow_ins HN.out hcl (Nat.le_refl _) HX.out (Nat.le_refl _) HB.out hh hc)
    obtain ⟨W1, hW1⟩ : ∃ W1, W1 = (w.drew.alloc (.cells (cs.toArray ++ vs.toArray ++ Builtin.zeroCells zero50 (G - (l.length + 1))) 50)) := ⟨_, rfl⟩
    rw [← hW1] at hap HR HB
    clear hW1 hh hc hcell hvcell hN hx hv
    go_enter Tryd.func86, Tryd.ntmps86
    go_wp2_with (at_builtin; refine Lib.wpList_append_run _ rfl _ _ _ _ rfl _ _ rfl rfl _ _ (hap _) ?_)
    go_ret
    exact ⟨_, cs', G, rfl, hG, Nat.le_refl _, HR.out, HB.out⟩
  · have hlt : i < l.length := by omega
    have hik : i + (l.length + 1 - i) = l.length + 1 := by omega
    have hold : (Builtin.firstCells i0.size i (.slice (some ⟨g, 0, none⟩) i l.length)).run Tryd.prog w.drew = .ok (cs.take (i * 16)).toArray w.drew := by
      rw [hzs]
      exact run_firstCells_some w.drew 16 i ⟨g, 0, none⟩ i l.length (cs.take (i * 16)) (by rw [List.length_take]; omega) (fun j v hj => by
        rw [List.getElem?_take] at hj
        split at hj
        · exact hcell j v hj
        · cases hj)
    have hap0 : ∀ ty, (Builtin.append_ #[42, 3] ty #[.slice (some ⟨g, 0, none⟩) i l.length, .int .i64 ((l.length + 1 - i : Nat) : Int)]).run Tryd.prog w = .ok (.slice (some ⟨w.heap.size, 0, none⟩) (l.length + 1) (grownCap w (l.length + 1) l.length 50)) (w.drew.alloc (.cells ((cs.take (i * 16)).toArray ++ Builtin.zeroCells zero50 (l.length + 1 - i) ++ Builtin.zeroCells zero50 (grownCap w (l.length + 1) l.length 50 - (l.length + 1))) 50)) := fun ty => by
      have h := Lib.run_append_grow_zeros w 42 3 ty 50 i0 (.agg zero50) .i64 .i64 Tryd.underlying42 Tryd.underlying3 hi0 hz0 (some ⟨g, 0, none⟩) i l.length (cs.take (i * 16)) hold (l.length + 1 - i) (by omega) (by omega) (by omega) (by omega) (by rw [hzb]; omega) (by rw [hzb, hik]; exact growslice_fits (by omega) (by omega))
      rw [hik] at h
      exact h
    have hii : (l.length : Int) + 1 - (i : Int) = ((l.length + 1 - i : Nat) : Int) := by omega
    have hap : ∀ ty, (Builtin.append_ #[42, 3] ty #[.slice (some ⟨g, 0, none⟩) i l.length, .int .i64 ((l.length : Int) + 1 - (i : Int))]).run Tryd.prog w = .ok (.slice (some ⟨w.heap.size, 0, none⟩) (l.length + 1) (grownCap w (l.length + 1) l.length 50)) (w.drew.alloc (.cells ((cs.take (i * 16)).toArray ++ Builtin.zeroCells zero50 (l.length + 1 - i) ++ Builtin.zeroCells zero50 (grownCap w (l.length + 1) l.length 50 - (l.length + 1))) 50)) := fun ty => by rw [hii]; exact hap0 ty
    clear hap0 hii
    have HN := Lib.hid hN
    have HX := Lib.hid hx
    generalize grownCap w (l.length + 1) l.length 50 = G at hap hG
    obtain ⟨row, hrow⟩ : ∃ row : List Value, row = cs.take (i * 16) ++ (Builtin.zeroCells zero50 (l.length + 1 - i)).toList ++ (Builtin.zeroCells zero50 (G - (l.length + 1))).toList := ⟨_, rfl⟩
    have hre : (cs.take (i * 16)).toArray ++ Builtin.zeroCells zero50 (l.length + 1 - i) ++ Builtin.zeroCells zero50 (G - (l.length + 1)) = row.toArray := by rw [hrow]; simp
    have hrl : row.length = G * 16 := by
      rw [hrow]
      simp only [List.length_append, Array.length_toList, size_zeroCells, hzl, List.length_take]
      omega
    have hrt : row.take (i * 16) = cs.take (i * 16) := by
      rw [hrow, List.append_assoc, List.take_append_of_le_length (by rw [List.length_take]; omega), List.take_take, Nat.min_self]
    simp only [hre] at hap
    have hh1 : (w.drew.alloc (.cells row.toArray 50)).heap[w.heap.size]? = some (.cells row.toArray 50 (0, 0)) := blk_new w.drew _
    have hB1 : Below w.heap.size w (w.drew.alloc (.cells row.toArray 50)) := below_alloc (below_drew1 (Below.refl _ _)) _
    obtain ⟨W1, hW1⟩ : ∃ W1, W1 = w.drew.alloc (.cells row.toArray 50) := ⟨_, rfl⟩
    rw [← hW1] at hap hh1 hB1
    clear hW1 hrow hre hold hik
    have hsp1 : (splice row (i * 16) vs).length = row.length := length_splice _ _ _ (by omega)
    have hcp1 : ∀ ty dc, (Builtin.copy_ #[42, 42] ty #[.slice (some ⟨w.heap.size, i * 16, none⟩) (l.length + 1 - i) dc, .slice (some ⟨vb, 0, none⟩) 1 1]).run Tryd.prog W1 = .ok (goInt 1) (W1.setRow w.heap.size (splice row (i * 16) vs).toArray) := fun ty dc => by
      have hm : Nat.min 1 (l.length + 1 - i) = 1 := Nat.min_eq_left (by omega)
      have h := copy50 (W := W1) (o := i * 16) (cs := vs) (dLen := l.length + 1 - i) (dCap := dc) (sLen := 1) (sCap := 1) (a := ⟨vb, 0, none⟩) hh1 (by rw [hm]; exact hvl) (fun j v hj => pw_cell_below hB1 (hvcell j v hj)) (by omega) (fk_one hx) ty
      rw [hm] at h
      exact h
    have hh2 : (W1.setRow w.heap.size (splice row (i * 16) vs).toArray).heap[w.heap.size]? = some (.cells (splice row (i * 16) vs).toArray 50 (0, 0)) := setRow_heap _ _ _ _ _ _ hh1
    have hB2 : Below w.heap.size w (W1.setRow w.heap.size (splice row (i * 16) vs).toArray) := below_setRow hB1 (Nat.le_refl _) _
    obtain ⟨W2, hW2⟩ : ∃ W2, W2 = W1.setRow w.heap.size (splice row (i * 16) vs).toArray := ⟨_, rfl⟩
    rw [← hW2] at hcp1 hh2 hB2
    clear hW2
    have hdl : (cs.drop (i * 16)).length = (l.length - i) * 16 := by rw [List.length_drop]; omega
    have hcp2 : ∀ (W : World), (∀ x, W.cell? x = W2.cell? x) → W.heap = W2.heap → ∀ ty dc sc, (Builtin.copy_ #[42, 42] ty #[.slice (some ⟨w.heap.size, (i + 1) * 16, none⟩) (l.length - i) dc, .slice (some ⟨g, i * 16, none⟩) (l.length - i) sc]).run Tryd.prog W = .ok (goInt ((l.length - i : Nat) : Int)) (W.setRow w.heap.size (splice (splice row (i * 16) vs) ((i + 1) * 16) (cs.drop (i * 16))).toArray) := fun W hWc hWh ty dc sc => by
      have hm : Nat.min (l.length - i) (l.length - i) = l.length - i := Nat.min_self _
      have h := copy50 (W := W) (g := w.heap.size) (o := (i + 1) * 16) (cs := cs.drop (i * 16)) (dLen := l.length - i) (dCap := dc) (sLen := l.length - i) (sCap := sc) (a := ⟨g, i * 16, none⟩) (by rw [hWh]; exact hh2) (by rw [hm]; exact hdl) (fun j v hj => by
        rw [hWc]
        rw [List.getElem?_drop] at hj
        have ha : (⟨g, i * 16, none⟩ : Addr).add j = (⟨g, 0, none⟩ : Addr).add (i * 16 + j) := by rw [Addr.add_lit, Addr.add_lit, Nat.zero_add]
        rw [ha]
        exact pw_cell_below hB2 (hcell _ v hj)) (by omega) (fun v hv => nrow_one hN hcl v (List.mem_of_mem_drop hv)) ty
      rw [hm] at h
      exact h
    have hfinal : (splice (splice row (i * 16) vs) ((i + 1) * 16) (cs.drop (i * 16))).take ((l.length + 1) * 16) = cs.take (i * 16) ++ (vs ++ cs.drop (i * 16)) := by
      have e1 : (splice row (i * 16) vs).take ((i + 1) * 16) = cs.take (i * 16) ++ vs := by
        unfold splice
        rw [← List.append_assoc, List.take_append_of_le_length (by rw [List.length_append, List.length_take]; omega), List.take_of_length_le (by rw [List.length_append, List.length_take]; omega), hrt]
      unfold splice at e1 ⊢
      rw [e1, ← List.append_assoc, List.take_append_of_le_length (by rw [List.length_append, List.length_append, List.length_take]; omega), List.take_of_length_le (by rw [List.length_append, List.length_append, List.length_take]; omega), List.append_assoc]
    have hh3 : (W2.setRow w.heap.size (splice (splice row (i * 16) vs) ((i + 1) * 16) (cs.drop (i * 16))).toArray).heap[w.heap.size]? = some (.cells (splice (splice row (i * 16) vs) ((i + 1) * 16) (cs.drop (i * 16))).toArray 50 (0, 0)) := setRow_heap _ _ _ _ _ _ hh2
    have hB3 : Below w.heap.size w (W2.setRow w.heap.size (splice (splice row (i * 16) vs) ((i + 1) * 16) (cs.drop (i * 16))).toArray) := below_setRow hB2 (Nat.le_refl _) _
    have HR := Lib.hid (nrow_ins HN.out hcl hi HX.out (Nat.le_refl _) hB3 hh3 hfinal)
    have HB := Lib.hid hB3
    generalize splice (splice row (i * 16) vs) ((i + 1) * 16) (cs.drop (i * 16)) = fin at hcp2 HR HB
    have hlen0 : ¬ ((i : Int) = (l.length : Int)) := by omega
    have hGi : ¬ (G = i) := by omega
    have hGi1 : ¬ (G = i + 1) := by omega
    have hli : ¬ (l.length = i) := by omega
    have hcp1' := hcp1
    clear hh3 hB3 hfinal hh2 hB2 hh1 hB1 hcell hvcell hN hx hv hsp1 hrt hrl hi0 hz0 hzs hzb hdl
    go_enter Tryd.func86, Tryd.ntmps86
    go_wp2_with (first
      | (at_builtin; refine Lib.wpList_append_run _ rfl _ _ _ _ rfl _ _ rfl rfl _ _ (hap _) ?_)
      | (at_builtin; refine wpList_copy_runI _ rfl _ _ 42 42 rfl _ _ rfl rfl (hcp1 _ _) ?_))
    have mixed : Tryd.prog.follows Departure.mixedOrders = true := by kernel_rfl
    have hw1 : IntKind.i64.wrap ((i : Int) + 1) = (i : Int) + 1 := by rw [IntKind.wrap_i64]; omega
    have hb1 : (0 : Int) ≤ (i : Int) + 1 := by omega
    have htn : ((i : Int) + 1).toNat = i + 1 := by omega
    have hb2 : (i : Int) + 1 ≤ (l.length : Int) + 1 := by omega
    have hb3 : (i : Int) ≤ (l.length : Int) := by omega
    go_region_law_o (go_loud (refine step_copy_runI rfl _ _ 42 42 rfl (.slice (some ⟨w.heap.size, (i + 1) * 16, none⟩) (l.length - i) (G - (i + 1))) (.slice (some ⟨g, i * 16, none⟩) (l.length - i) (l.length - i)) (by simp [Act.eval, Act.put]) (by simp [Act.eval, Act.put]) (hcp2 W2.drew (fun _ => rfl) rfl 3 (G - (i + 1)) (l.length - i)) ?_))
    go_wp2
    go_ret
    exact ⟨_, fin, G, rfl, hG, Nat.le_refl _, nrow_step HR.out (fun k _ => rfl), HB.out.drew⟩
end Go.Proofs.YtmndeoncbocplaaDoor.C
end
section
set_option linter.unusedVariables false
set_option linter.unusedSimpArgs false
namespace Go.Proofs.YtmndeoncbocplaaDoor.C
open Go.RowKit Go.Proofs.YtmndeoncbocplaaDoor.Q Go.Proofs.YtmndeoncbocplaaDoorW.PrintWords Go.Proofs.YtmndeoncbocplaaDoorW.PrintLast Go.Proofs.YtmndeoncbocplaaDoorW.PrintMore
attribute [local go_sem ↓] rd_at50 wr_at50 al_at50
attribute [local go_sem] rd50_new wr50_new al50
/-- A node put among others. -/
def putP (l : List S50) (n : S50) : List S50 := if isN l n.f0 then l.set (atN l n.f0) n else l.take (atN l n.f0) ++ n :: l.drop (atN l n.f0)
set_option maxHeartbeats 4000000 in
set_option maxRecDepth 100000 in
theorem tput_c (l : List S50) (n : S50) (cs : List Value) (A : Option Addr) (c : Nat) (w : World) (hC : Kd.C k50 w A l.length l) (hc : l.length ≤ c) (hn : l.length < 100000) (hR : RisingN l n.f0) (hF : ∀ m ∈ l, Fits m) (hK : k50.K w n cs) (hFn : Fits n) :
    Calls Tryd.prog 55 #[.slice A l.length c, .agg cs.toArray] w fun e w' => ∃ A' c', e = .returned (.slice A' (putP l n).length c') ∧ (putP l n).length ≤ c' ∧ Kd.C k50 w' A' (putP l n).length (putP l n) ∧ Below w.heap.size w w' := by
  obtain ⟨A6, c6, A11, c11, rfl, _⟩ := k50_open hK
  have HTW := Lib.hid fun w1 (hb : Below w.heap.size w w1) => twins_c l A c w1 (Kd.C_below hC hb) hc (by omega) hF
  have HPL := Lib.hid fun (g : Nat) (w1 : World) (h : Kd.C k50 w1 (some ⟨g, 0, none⟩) l.length l) => placeN l n.f0 (some ⟨g, 0, none⟩) l.length w1 h (Nat.le_refl _) (by omega) hR
  have HT1 := Lib.hid fun (w1 : World) (hb : Below w.heap.size w w1) => twin_c n _ w1 (k50.K_below hb hK) hFn
  have HLE := Lib.hid (at_leN l n.f0)
  have HLT := Lib.hid (fun h => isN_lt h : isN l n.f0 = true → atN l n.f0 < l.length)
  have HP := Lib.hid (show putP l n = if isN l n.f0 then l.set (atN l n.f0) n else l.take (atN l n.f0) ++ n :: l.drop (atN l n.f0) from rfl)
  clear hC hR hF hK hFn
  generalize putP l n = res at HP ⊢
  generalize atN l n.f0 = i at HPL HLE HLT HP
  generalize isN l n.f0 = b at HPL HLT HP
  have HBX := Lib.hid (blk_new w (.cells #[.string n.f0, .bool n.f1, .int .i64 n.f2.f0, .int .i64 n.f2.f1, .int .i64 n.f2.f2, .int .i64 n.f2.f3, .slice A6 n.f3.length c6, .int .i64 n.f4.f0, .int .i64 n.f4.f1, .int .i64 n.f4.f2, .int .i64 n.f4.f3, .slice A11 n.f5.length c11, .int .i64 n.f6.f0, .int .i64 n.f6.f1, .int .i64 n.f6.f2, .int .i64 n.f6.f3] 50))
  have HB0 := Lib.hid (below_alloc (Below.refl w.heap.size w) (.cells #[.string n.f0, .bool n.f1, .int .i64 n.f2.f0, .int .i64 n.f2.f1, .int .i64 n.f2.f2, .int .i64 n.f2.f3, .slice A6 n.f3.length c6, .int .i64 n.f4.f0, .int .i64 n.f4.f1, .int .i64 n.f4.f2, .int .i64 n.f4.f3, .slice A11 n.f5.length c11, .int .i64 n.f6.f0, .int .i64 n.f6.f1, .int .i64 n.f6.f2, .int .i64 n.f6.f3] 50))
  go_enter Tryd.func55, Tryd.ntmps55
  cases b with
  | true =>
    have hi := HLT.out rfl
    have hp := HP.out
    rw [if_pos rfl] at hp
    subst hp
    go_wp2_with (first | (go_at_call 85; go_loud (refine (HTW.out _ HB0.out).mono ?_; rintro e w1 ⟨g, cur, rfl, hg, hcl, hN, hb⟩; have HN1 := Lib.hid hN; have HB1 := Lib.hid (below_step HB0.out hb); have HG1 := Lib.hid (show w.heap.size + 1 ≤ g by simpa using hg); have HX1 := Lib.hid (blk_below HBX.out hb); have hp0 := (blk_cell HX1.out 0).trans rfl; clear hb hN hg)) | (go_at_call 83; go_loud (refine (HPL.out g _ (nrow_C HN1.out (by omega))).mono ?_; rintro e w2 ⟨rfl, hb⟩; have HN2 := Lib.hid (nrow_below HN1.out hb); have HB2 := Lib.hid (below_step HB1.out hb); have HX2 := Lib.hid (blk_below HX1.out hb); have hld := rd50_blk HX2.out rfl; clear hb)) | (go_at_call 84; go_loud (refine (HT1.out _ HB2.out).mono ?_; rintro e w3 ⟨cs2, rfl, hfk, hb⟩; have HN3 := Lib.hid (nrow_below HN2.out hb); have HB3 := Lib.hid (below_step HB2.out hb); have hgl := blk_lt HN2.out.1; have HFK := Lib.hid hfk; have hst := wr50_in (o := i * 16) (cs := cs2.toArray) HN3.out.1 (by omega) (by rw [List.size_toArray]; exact fk_len HFK.out) (Array.all_eq_true_iff_forall_mem.2 fun v hv => fk_one HFK.out v (by simpa using hv)); clear hb hfk)))
    go_ret
    have HN4 := nrow_set (i := i) (x := n) HN3.out hi (HFK.out.mono fun k hk => by omega)
    refine ⟨some ⟨g, 0, none⟩, l.length, by rw [List.length_set]; rfl, by rw [List.length_set]; exact Nat.le_refl _, nrow_C HN4 (by rw [List.length_set]; omega), below_setRow HB3.out (by have := HG1.out; omega) _⟩
  | false =>
    have hp := HP.out
    rw [if_neg (by simp)] at hp
    have hlen : res.length = l.length + 1 := by rw [hp, List.length_append, List.length_cons, List.length_take, List.length_drop]; have := HLE.out; omega
    have HP2 := Lib.hid hp
    clear hp
    go_wp2_with (first | (go_at_call 85; go_loud (refine (HTW.out _ HB0.out).mono ?_; rintro e w1 ⟨g, cur, rfl, hg, hcl, hN, hb⟩; have HN1 := Lib.hid hN; have HB1 := Lib.hid (below_step HB0.out hb); have HX1 := Lib.hid (blk_below HBX.out hb); have hp0 := (blk_cell HX1.out 0).trans rfl; clear hb hN hg)) | (go_at_call 83; go_loud (refine (HPL.out g _ (nrow_C HN1.out (by omega))).mono ?_; rintro e w2 ⟨rfl, hb⟩; have HN2 := Lib.hid (nrow_below HN1.out hb); have HB2 := Lib.hid (below_step HB1.out hb); have HX2 := Lib.hid (blk_below HX1.out hb); have hld := rd50_blk HX2.out rfl; clear hb)) | (go_at_call 84; go_loud (refine (HT1.out _ HB2.out).mono ?_; rintro e w3 ⟨cs2, rfl, hfk, hb⟩; obtain ⟨D6, d6, D11, d11, rfl, _⟩ := k50_open (Kd.FK_now hfk); have HN3 := Lib.hid (nrow_below HN2.out (below_step hb (below_alloc (Below.refl w3.heap.size w3) (.cells #[.string n.f0, .bool n.f1, .int .i64 n.f2.f0, .int .i64 n.f2.f1, .int .i64 n.f2.f2, .int .i64 n.f2.f3, .slice D6 n.f3.length d6, .int .i64 n.f4.f0, .int .i64 n.f4.f1, .int .i64 n.f4.f2, .int .i64 n.f4.f3, .slice D11 n.f5.length d11, .int .i64 n.f6.f0, .int .i64 n.f6.f1, .int .i64 n.f6.f2, .int .i64 n.f6.f3] 50)))); have HB3 := Lib.hid (below_step (below_step HB2.out hb) (below_alloc (Below.refl w3.heap.size w3) (.cells #[.string n.f0, .bool n.f1, .int .i64 n.f2.f0, .int .i64 n.f2.f1, .int .i64 n.f2.f2, .int .i64 n.f2.f3, .slice D6 n.f3.length d6, .int .i64 n.f4.f0, .int .i64 n.f4.f1, .int .i64 n.f4.f2, .int .i64 n.f4.f3, .slice D11 n.f5.length d11, .int .i64 n.f6.f0, .int .i64 n.f6.f1, .int .i64 n.f6.f2, .int .i64 n.f6.f3] 50))); have HV := Lib.hid (blk_new w3 (.cells #[.string n.f0, .bool n.f1, .int .i64 n.f2.f0, .int .i64 n.f2.f1, .int .i64 n.f2.f2, .int .i64 n.f2.f3, .slice D6 n.f3.length d6, .int .i64 n.f4.f0, .int .i64 n.f4.f1, .int .i64 n.f4.f2, .int .i64 n.f4.f3, .slice D11 n.f5.length d11, .int .i64 n.f6.f0, .int .i64 n.f6.f1, .int .i64 n.f6.f2, .int .i64 n.f6.f3] 50)); have HFK := Lib.hid (hfk.step (W1 := w3.alloc (.cells #[.string n.f0, .bool n.f1, .int .i64 n.f2.f0, .int .i64 n.f2.f1, .int .i64 n.f2.f2, .int .i64 n.f2.f3, .slice D6 n.f3.length d6, .int .i64 n.f4.f0, .int .i64 n.f4.f1, .int .i64 n.f4.f2, .int .i64 n.f4.f3, .slice D11 n.f5.length d11, .int .i64 n.f6.f0, .int .i64 n.f6.f1, .int .i64 n.f6.f2, .int .i64 n.f6.f3] 50)) fun k _ hk => (below_alloc (Below.refl w3.heap.size w3) (.cells #[.string n.f0, .bool n.f1, .int .i64 n.f2.f0, .int .i64 n.f2.f1, .int .i64 n.f2.f2, .int .i64 n.f2.f3, .slice D6 n.f3.length d6, .int .i64 n.f4.f0, .int .i64 n.f4.f1, .int .i64 n.f4.f2, .int .i64 n.f4.f3, .slice D11 n.f5.length d11, .int .i64 n.f6.f0, .int .i64 n.f6.f1, .int .i64 n.f6.f2, .int .i64 n.f6.f3] 50)).block k hk); clear hb hfk)) | (go_at_call 86; go_loud (refine (insert_c l g i w3.heap.size cur _ n _ HN3.out hcl (by omega) HLE.out HV.out (HFK.out.mono fun _ _ => trivial)).mono ?_; rintro e w4 ⟨g', cs4, cap, rfl, hcap, hg4, hN, hb⟩; have HN4 := Lib.hid hN; have HB4 := Lib.hid (below_step HB3.out hb); clear hb hN hg4)))
    have hn4 := nrow_C HN4.out (by rw [← HP2.out, hlen]; omega)
    rw [← HP2.out] at hn4
    go_ret
    exact ⟨some ⟨g', 0, none⟩, cap, by rw [hlen]; rfl, by rw [hlen]; exact hcap, hn4, HB4.out⟩
end Go.Proofs.YtmndeoncbocplaaDoor.C
end
