/- Texts that the claim's law stands on, cut down to what it reaches. -/
import Derived.Test.YtmndeoncbocplaaDoorZD
import Derived.Laws.CopyOwn
import Derived.Laws.MakeOwn
import Derived.Lib.AppendZerosOnto
import Derived.Lib.AppendZeros
import Derived.Shelf.Spec.SlicesInsert
import Derived.Test.YtmndeoncbocplaaDoorZS
import Derived.Deep.LoopGhost
import Derived.Laws.NewBlocks
import Derived.Deep.RegionHeldLaw
import Derived.Deep.RegionHeld3
set_option linter.unusedVariables false
set_option linter.unusedSimpArgs false
section
set_option linter.unusedVariables false
set_option linter.unusedSimpArgs false
namespace Go.Proofs.YtmndeoncbocplaaDoor.C
open Go.RowKit Go.Proofs.YtmndeoncbocplaaDoor.Q Go.Proofs.YtmndeoncbocplaaDoorW.PrintWords Go.Proofs.YtmndeoncbocplaaDoorW.PrintLast Go.Proofs.YtmndeoncbocplaaDoorW.PrintMore
/-- The zero node's cells. -/
def zero50 : Array Value := #[.string (⟨#[]⟩ : ByteArray), .bool false, .int .i64 0, .int .i64 0, .int .i64 0, .int .i64 0, .slice none 0 0, .int .i64 0, .int .i64 0, .int .i64 0, .int .i64 0, .slice none 0 0, .int .i64 0, .int .i64 0, .int .i64 0, .int .i64 0]
theorem info50 : ∃ i, Tryd.prog.info? 50 = some i ∧ i.zero = some (.agg zero50) ∧ i.size = 16 ∧ i.bytes = 168 := by
  have h := inf50
  cases hq : Tryd.prog.info? 50 with
  | none => rw [hq] at h; cases h
  | some i =>
    rw [hq] at h
    simp only [Option.map_some, Option.some.injEq, Prod.mk.injEq] at h
    exact ⟨i, rfl, h.1, h.2.1, h.2.2⟩
theorem wr50_in {W : World} {g o : Nat} {cur : List Value} {cs : Array Value} {ty : TypeId} (hg : W.heap[g]? = some (.cells cur.toArray ty (0, 0))) (ho : o + 16 ≤ cur.length) (hi : cs.size = 16) (h1 : cs.all (·.oneCell') = true) : (wrS 50 (.pointer (some ⟨g, o, none⟩)) (.agg cs)).run Tryd.prog W = .ok () (W.setRow g (splice cur o cs.toList).toArray) := by
  have hs := run_storeCells_at Tryd.prog g o ty cs.toList 0 cur.toArray W hg (by simp [hi]; omega) (fun v hv => (Array.all_eq_true_iff_forall_mem.1 h1) v (by simpa using hv))
  obtain ⟨i, hq, hz, hsz, _⟩ := info50
  rw [← wr_at]
  simp only [Instr.storeAt, Instr.sureAddr, Sem.run_bind, Sem.run_pure, Result.andThen]
  have hs2 : cs.size = i.size := by omega
  simp only [Nat.add_zero] at hs
  simp [storeVar, sizeOf, typeInfo, hq, Value.cells, hs2, hs, splice, hi]
theorem rd50_in {W : World} {g o : Nat} {cur : List Value} {ty : TypeId} {fr : Nat × Nat} (hg : W.heap[g]? = some (.cells cur.toArray ty fr)) (ho : o + 16 ≤ cur.length) : (rdS 50 (.pointer (some ⟨g, o, none⟩))).run Tryd.prog W = .ok (.agg ((cur.drop o).take 16).toArray) W := by
  refine rd50_of (load50 (by simp; omega) fun j v hj => ?_)
  have hj' : ((cur.drop o).take 16)[j]? = some v := hj
  rw [List.getElem?_take] at hj'
  split at hj'
  · rw [List.getElem?_drop] at hj'
    have ha : (⟨g, o, none⟩ : Addr).add j = ⟨g, o + j, none⟩ := by unfold Addr.add; split <;> simp_all
    rw [ha]
    simp only [World.cell?, hg, Option.isSome_none, Bool.false_eq_true, if_false]
    rw [← Array.getElem?_toList]
    exact hj'
  · cases hj'
theorem copy50 {W : World} {g o dLen dCap sLen sCap : Nat} {a : Addr} {cur : List Value} {cs : List Value} {t : TypeId} (hg : W.heap[g]? = some (.cells cur.toArray t (0, 0))) (hn : cs.length = Nat.min sLen dLen * 16)
    (hsrc : ∀ j v, cs[j]? = some v → W.cell? (a.add j) = some v) (hfit : o + cs.length ≤ cur.length) (h1 : ∀ v ∈ cs, v.oneCell' = true) (ty : TypeId) :
    (Builtin.copy_ #[42, 42] ty #[.slice (some ⟨g, o, none⟩) dLen dCap, .slice (some a) sLen sCap]).run Tryd.prog W = .ok (goInt (Nat.min sLen dLen)) (W.setRow g (splice cur o cs).toArray) := by
  have hl := run_firstCells_some (P := Tryd.prog) W 16 (Nat.min sLen dLen) a sLen sCap cs hn hsrc
  have hst := run_storeCells_at Tryd.prog g o t cs 0 cur.toArray W hg (by simpa using hfit) h1
  obtain ⟨i, hq, hz, hsz, _⟩ := info50
  simp only [Nat.add_zero] at hst
  simp [Builtin.copy_, run_underlying Tryd.underlying42, Builtin.lenOf, sizeOf, typeInfo, hq, hsz, hl, hst, splice]
theorem copy50_none {W : World} {g o dLen dCap sLen sCap : Nat} {sp : Option Addr} (hn : Nat.min sLen dLen = 0) (ty : TypeId) :
    (Builtin.copy_ #[42, 42] ty #[.slice (some ⟨g, o, none⟩) dLen dCap, .slice sp sLen sCap]).run Tryd.prog W = .ok (goInt 0) W := by
  obtain ⟨i, hq, hz, hsz, _⟩ := info50
  cases sp <;> simp [Builtin.copy_, run_underlying Tryd.underlying42, Builtin.lenOf, Builtin.firstCells, sizeOf, typeInfo, hq, hn, storeCells, loadCells, loadCellsFrom]
/-- A block g that holds nodes, each of which leads elsewhere than into it. -/
def NRow (W : World) (g : Nat) (l : List S50) (cur : List Value) : Prop :=
  W.heap[g]? = some (.cells cur.toArray 50 (0, 0)) ∧ l.length * 16 ≤ cur.length ∧ ∀ (j : Nat) (x : S50), l[j]? = some x → k50.FK W (fun k => k ≠ g) x ((cur.drop (j * 16)).take 16)
theorem fk_len {W : World} {ok : Nat → Prop} {x : S50} {cs : List Value} (h : k50.FK W ok x cs) : cs.length = 16 := by
  obtain ⟨A6, c6, A11, c11, rfl, _⟩ := k50_open (Kd.FK_now h)
  rfl
theorem fk_one {W : World} {ok : Nat → Prop} {x : S50} {cs : List Value} (h : k50.FK W ok x cs) : ∀ u ∈ cs, u.oneCell' = true := k50.K_one (Kd.FK_now h)
theorem nrow_C {W : World} {g : Nat} {l : List S50} {cur : List Value} (h : NRow W g l cur) (hn : l.length < 1000000) : Kd.C k50 W (some ⟨g, 0, none⟩) l.length l := by
  obtain ⟨h1, h2, h3⟩ := h
  refine ⟨rfl, by omega, fun _ => ⟨_, rfl, fun j q hj => ?_⟩⟩
  have hk := h3 j q hj
  have hlt := (List.getElem?_eq_some_iff.1 hj).1
  refine ⟨(cur.drop (j * 16)).take 16, fk_len hk, Kd.FK_now hk, fun i u hu => ?_⟩
  rw [List.getElem?_take] at hu
  split at hu
  · rename_i hi
    rw [List.getElem?_drop] at hu
    show W.cell? ((⟨g, 0, none⟩ : Addr).add (j * 16 + i)) = some u
    have ha : (⟨g, 0, none⟩ : Addr).add (j * 16 + i) = ⟨g, j * 16 + i, none⟩ := by unfold Addr.add; split <;> simp_all
    rw [ha]
    simp only [World.cell?, h1, Option.isSome_none, Bool.false_eq_true, if_false]
    rw [← Array.getElem?_toList]
    exact hu
  · cases hu
theorem nrow_step {W W' : World} {g : Nat} {l : List S50} {cur : List Value} (h : NRow W g l cur) (hb : ∀ k, k < W.heap.size → W'.heap[k]? = W.heap[k]?) : NRow W' g l cur :=
  ⟨(hb g (blk_lt h.1)).trans h.1, h.2.1, fun j x hj => (h.2.2 j x hj).step fun k _ hk => hb k hk⟩
theorem nrow_below {W W' : World} {g : Nat} {l : List S50} {cur : List Value} (h : NRow W g l cur) (hb : Below W.heap.size W W') : NRow W' g l cur := nrow_step h fun k hk => hb.block k hk
theorem splice_in {α : Type} (L cs : List α) (o : Nat) (h : o + cs.length ≤ L.length) : ((splice L o cs).drop o).take cs.length = cs := by
  unfold splice
  have e : (L.take o).length = o := by rw [List.length_take]; omega
  rw [List.drop_append_of_le_length (by omega), List.drop_of_length_le (by omega), List.nil_append]
  simp
theorem splice_ahead {α : Type} (L cs : List α) (o a n : Nat) (h : a + n ≤ o) (ho : o + cs.length ≤ L.length) : ((splice L o cs).drop a).take n = (L.drop a).take n := by
  apply List.ext_getElem?
  intro j
  by_cases hj : j < n
  · rw [List.getElem?_take_of_lt hj, List.getElem?_take_of_lt hj, List.getElem?_drop, List.getElem?_drop]
    unfold splice
    rw [List.getElem?_append_left (by rw [List.length_take]; omega), List.getElem?_take_of_lt (by omega)]
  · rw [List.getElem?_take_eq_none (by omega), List.getElem?_take_eq_none (by omega)]
theorem splice_behind {α : Type} (L cs : List α) (o a n : Nat) (h : o + cs.length ≤ a) (ho : o + cs.length ≤ L.length) : ((splice L o cs).drop a).take n = (L.drop a).take n := by
  have e : (splice L o cs).drop a = L.drop a := by
    unfold splice
    have e0 : (L.take o).length = o := by rw [List.length_take]; omega
    rw [List.drop_append, e0, List.drop_of_length_le (by omega), List.nil_append, List.drop_append, List.drop_of_length_le (by omega), List.nil_append, List.drop_drop]
    congr 1
    omega
  rw [e]
/-- A node stored into a place of the row. -/
theorem nrow_set {W : World} {g i : Nat} {l : List S50} {cur : List Value} {x : S50} {cs : List Value} (h : NRow W g l cur) (hi : i < l.length) (hx : k50.FK W (fun k => k ≠ g) x cs) : NRow (W.setRow g (splice cur (i * 16) cs).toArray) g (l.set i x) (splice cur (i * 16) cs) := by
  obtain ⟨h1, h2, h3⟩ := h
  have hl := fk_len hx
  have hm : ∀ {y : S50} {c : List Value}, k50.FK W (fun k => k ≠ g) y c → k50.FK (W.setRow g (splice cur (i * 16) cs).toArray) (fun k => k ≠ g) y c := fun hy => hy.step fun k hk _ => setRow_other W g k _ hk
  have hfit : i * 16 + cs.length ≤ cur.length := by omega
  refine ⟨setRow_heap _ _ _ _ _ _ h1, by rw [List.length_set, length_splice _ _ _ hfit]; exact h2, fun j y hj => ?_⟩
  rw [List.getElem?_set] at hj
  split at hj
  · rename_i hij
    subst hij
    obtain rfl := Option.some.inj hj
    have := splice_in cur cs (i * 16) hfit
    rw [hl] at this
    rw [this]
    exact hm hx
  · rename_i hij
    have hy := hm (h3 j y hj)
    rcases Nat.lt_or_gt_of_ne hij with hlt | hgt
    · rw [splice_behind cur cs (i * 16) (j * 16) 16 (by omega) hfit]; exact hy
    · rw [splice_ahead cur cs (i * 16) (j * 16) 16 (by omega) hfit]; exact hy
end Go.Proofs.YtmndeoncbocplaaDoor.C
end
section
set_option linter.unusedVariables false
set_option linter.unusedSimpArgs false
namespace Go.Proofs.YtmndeoncbocplaaDoor.C
open Go.RowKit Go.Proofs.YtmndeoncbocplaaDoor.Q Go.Proofs.YtmndeoncbocplaaDoorW.PrintWords Go.Proofs.YtmndeoncbocplaaDoorW.PrintLast Go.Proofs.YtmndeoncbocplaaDoorW.PrintMore
attribute [local go_sem ↓] rd_at50 wr_at50 al_at50
attribute [local go_sem] rd50_new wr50_new al50
theorem make50 (w : World) (n : Nat) (hn : n < 1000000) : (Instr.makeSlice 42 (.int .i64 (n : Int)) (.int .i64 (n : Int))).run Tryd.prog w = .ok (.slice (some ⟨w.heap.size, 0, none⟩) n n) (w.alloc (.cells (madeCells zero50 (n * 16)) 50)) := by
  obtain ⟨i, hq, hz, hsz, hby⟩ := info50
  have h := run_make (P := Tryd.prog) w 42 50 i (.agg zero50) Tryd.underlying42 hq hz .i64 .i64 (n : Int) (n : Int) (by omega) (Int.le_refl _) (by rw [hby]; omega) (by omega)
  rw [hsz, Int.toNat_natCast] at h
  exact h
/-- The row behind the copy: the nodes as they came in. -/
theorem nrow_copied {w W : World} {g : Nat} {l : List S50} {inner : List Value} (hr : Reps (k50.K w) 16 l inner) (hb : Below w.heap.size w W) (hg : w.heap.size ≤ g) (hh : W.heap[g]? = some (.cells inner.toArray 50 (0, 0))) : NRow W g l inner := by
  refine ⟨hh, by rw [hr.1]; exact Nat.le_refl _, fun j x hj => ?_⟩
  have hK := hr.2 j x hj
  exact ((K_foot hK).step fun k hk _ => hb.block k hk).mono fun k hk => by omega
theorem splice_all {α : Type} (L cs : List α) (h : L.length = cs.length) : splice L 0 cs = cs := by
  unfold splice
  rw [List.take_zero, List.nil_append, Nat.zero_add, List.drop_of_length_le (by omega), List.append_nil]
set_option maxHeartbeats 4000000 in
set_option maxRecDepth 100000 in
theorem twins_c (l : List S50) (A : Option Addr) (c : Nat) (w : World) (hC : Kd.C k50 w A l.length l) (hc : l.length ≤ c) (hn : l.length < 1000000) (hF : ∀ n ∈ l, Fits n) :
    Calls Tryd.prog 85 #[.slice A l.length c] w fun e w' => ∃ g cs, e = .returned (.slice (some ⟨g, 0, none⟩) l.length l.length) ∧ w.heap.size ≤ g ∧ cs.length = l.length * 16 ∧ NRow w' g l cs ∧ Below w.heap.size w w' := by
  have HF := Lib.hid hF
  have hmk := make50 w l.length hn
  by_cases h0 : l.length = 0
  · have hl0 : l = [] := List.eq_nil_of_length_eq_zero h0
    subst hl0
    have hmk0 : (Instr.makeSlice 42 (.int .i64 0) (.int .i64 0)).run Tryd.prog w = .ok (.slice (some ⟨w.heap.size, 0, none⟩) 0 0) (w.alloc (.cells #[] 50)) := by
      have e : madeCells zero50 0 = #[] := by first | rfl | (apply Array.eq_empty_of_size_eq_zero; exact size_madeCells _ _)
      have h := make50 w 0 (by omega)
      rw [Nat.zero_mul, e] at h
      exact h
    have hcp : ∀ (ty : TypeId), (Builtin.copy_ #[42, 42] ty #[.slice (some ⟨w.heap.size, 0, none⟩) 0 0, .slice A 0 c]).run Tryd.prog (w.alloc (.cells #[] 50)) = .ok (goInt 0) (w.alloc (.cells #[] 50)) := fun ty => copy50_none (by rfl) ty
    clear hmk
    go_enter Tryd.func85, Tryd.ntmps85
    go_wp2_with (at_builtin; refine wpList_copy_runI _ rfl _ _ 42 42 rfl _ _ rfl rfl (hcp _) ?_)
    go_loopg [14] 0 (fun k s14 wr => s14 = .int .i64 0 ∧ wr = w.alloc (.cells #[] 50))
    case atStart => exact ⟨rfl, rfl⟩
    case round =>
      obtain ⟨rfl, rfl⟩ := hrel
      go_wp2
      go_ret
      exact ⟨_, [], rfl, Nat.le_refl _, rfl, ⟨blk_new _ _, Nat.le_refl _, fun j x hj => by simp at hj⟩, below_alloc (Below.refl _ _) _⟩
  · obtain ⟨ad, hA, _⟩ := hC.2.2 (by omega)
    subst hA
    obtain ⟨inner, hr, hcell⟩ := ReadsRow.inner_ hC
    have hil : inner.length = l.length * 16 := hr.1
    have HR := Lib.hid hr
    have hmm : Nat.min l.length l.length = l.length := Nat.min_self _
    have hml : (madeCells zero50 (l.length * 16)).toList.length = l.length * 16 := by rw [Array.length_toList, size_madeCells]
    have HB0 := Lib.hid (below_alloc (Below.refl w.heap.size w) (.cells (madeCells zero50 (l.length * 16)) 50))
    have HG0 := Lib.hid (blk_new w (.cells (madeCells zero50 (l.length * 16)) 50))
    have hcp : ∀ ty : TypeId, (Builtin.copy_ #[42, 42] ty #[.slice (some ⟨w.heap.size, 0, none⟩) l.length l.length, .slice (some ad) l.length c]).run Tryd.prog (w.alloc (.cells (madeCells zero50 (l.length * 16)) 50)) = .ok (goInt l.length) ((w.alloc (.cells (madeCells zero50 (l.length * 16)) 50)).setRow w.heap.size inner.toArray) := fun ty => by
      have h := copy50 (o := 0) (cur := (madeCells zero50 (l.length * 16)).toList) (cs := inner) (dLen := l.length) (dCap := l.length) (sLen := l.length) (sCap := c) (a := ad) (by rw [Array.toArray_toList]; exact HG0.out) (by rw [hil, hmm]) (fun j v hj => pw_cell_below HB0.out (hcell j v hj)) (by omega) (fun u hu => by
        obtain ⟨j, hj⟩ := List.getElem?_of_mem hu
        exact Reps_one hr u hu) ty
      rw [hmm, splice_all _ _ (by omega)] at h
      exact h
    have HB1 := Lib.hid (below_setRow HB0.out (Nat.le_refl w.heap.size) inner.toArray)
    have HG1 := Lib.hid (setRow_heap _ _ _ inner.toArray _ _ HG0.out)
    go_enter Tryd.func85, Tryd.ntmps85
    go_wp2_with (at_builtin; refine wpList_copy_runI _ rfl _ _ 42 42 rfl _ _ rfl rfl (hcp _) ?_)
    have HN1 := Lib.hid (nrow_copied HR.out HB1.out (Nat.le_refl _) HG1.out)
    generalize ((w.alloc (.cells (madeCells zero50 (l.length * 16)) 50)).setRow w.heap.size inner.toArray) = V at HB1 HN1 ⊢
    clear hcp hmk HG1 HG0 HB0 hcell HR hr
    go_loopg [14] l.length (fun k s14 wr => ∃ (i : Nat) (cur : List Value), i ≤ l.length ∧ l.length - i ≤ k ∧ s14 = .int .i64 i ∧ cur.length = l.length * 16 ∧ Hid (NRow wr w.heap.size l cur) ∧ Hid (Below w.heap.size w wr))
    case atStart => exact ⟨0, inner, Nat.zero_le _, Nat.le_refl _, rfl, hil, HN1, HB1⟩
    case round =>
      clear HN1 HB1
      obtain ⟨i, cur, hi, hik, rfl, hcl, HN, HB⟩ := hrel
      obtain ⟨W0, hW⟩ : ∃ W, W = wr := ⟨_, rfl⟩
      subst hW
      by_cases hlt : i < l.length
      · have hx : l[i]? = some (l[i]'hlt) := List.getElem?_eq_getElem hlt
        have hfk := HN.out.2.2 i _ hx
        have hfit := HF.out _ (List.getElem_mem (l := l) (n := i) hlt)
        have hset : l.set i (l[i]'hlt) = l := List.set_getElem_self hlt
        generalize (l[i]'hlt) = n at hx hfk hfit hset
        obtain ⟨B6, e6, B11, e11, hseg, _⟩ := k50_open (Kd.FK_now hfk)
        have hld := rd50_in (o := i * 16) HN.out.1 (by omega)
        rw [hseg] at hld hfk
        have HFK := Lib.hid hfk
        have HFI := Lib.hid hfit
        have HSET := Lib.hid hset
        have hgl := blk_lt HN.out.1
        clear hseg hfk hfit hset hx
        go_wp2_with (go_at_call 84; go_loud (refine (twin_c n _ _ (Kd.FK_now (HFK.out.step (W1 := W0.alloc (.cells #[.string n.f0, .bool n.f1, .int .i64 n.f2.f0, .int .i64 n.f2.f1, .int .i64 n.f2.f2, .int .i64 n.f2.f3, .slice B6 n.f3.length e6, .int .i64 n.f4.f0, .int .i64 n.f4.f1, .int .i64 n.f4.f2, .int .i64 n.f4.f3, .slice B11 n.f5.length e11, .int .i64 n.f6.f0, .int .i64 n.f6.f1, .int .i64 n.f6.f2, .int .i64 n.f6.f3] 50)) fun k _ hk => heap_alloc_old W0 _ hk)) HFI.out).mono ?_; rintro e w2 ⟨cs2, rfl, hfk2, hb2⟩; have HB2 := Lib.hid (below_step HB.out (below_step (below_alloc (Below.refl W0.heap.size W0) (.cells #[.string n.f0, .bool n.f1, .int .i64 n.f2.f0, .int .i64 n.f2.f1, .int .i64 n.f2.f2, .int .i64 n.f2.f3, .slice B6 n.f3.length e6, .int .i64 n.f4.f0, .int .i64 n.f4.f1, .int .i64 n.f4.f2, .int .i64 n.f4.f3, .slice B11 n.f5.length e11, .int .i64 n.f6.f0, .int .i64 n.f6.f1, .int .i64 n.f6.f2, .int .i64 n.f6.f3] 50)) hb2)); have HN2 := Lib.hid (nrow_below HN.out (below_step (below_alloc (Below.refl W0.heap.size W0) (.cells #[.string n.f0, .bool n.f1, .int .i64 n.f2.f0, .int .i64 n.f2.f1, .int .i64 n.f2.f2, .int .i64 n.f2.f3, .slice B6 n.f3.length e6, .int .i64 n.f4.f0, .int .i64 n.f4.f1, .int .i64 n.f4.f2, .int .i64 n.f4.f3, .slice B11 n.f5.length e11, .int .i64 n.f6.f0, .int .i64 n.f6.f1, .int .i64 n.f6.f2, .int .i64 n.f6.f3] 50)) hb2)); have HFK2 := Lib.hid hfk2; have hst := wr50_in (o := i * 16) (cs := cs2.toArray) HN2.out.1 (by omega) (by rw [List.size_toArray]; exact fk_len HFK2.out) (Array.all_eq_true_iff_forall_mem.2 fun v hv => fk_one HFK2.out v (by simpa using hv)); clear hfk2 hb2))
        have hsz : W0.heap.size ≤ (W0.alloc (.cells #[.string n.f0, .bool n.f1, .int .i64 n.f2.f0, .int .i64 n.f2.f1, .int .i64 n.f2.f2, .int .i64 n.f2.f3, .slice B6 n.f3.length e6, .int .i64 n.f4.f0, .int .i64 n.f4.f1, .int .i64 n.f4.f2, .int .i64 n.f4.f3, .slice B11 n.f5.length e11, .int .i64 n.f6.f0, .int .i64 n.f6.f1, .int .i64 n.f6.f2, .int .i64 n.f6.f3] 50)).heap.size := (below_size (below_alloc (Below.refl W0.heap.size W0) (.cells #[.string n.f0, .bool n.f1, .int .i64 n.f2.f0, .int .i64 n.f2.f1, .int .i64 n.f2.f2, .int .i64 n.f2.f3, .slice B6 n.f3.length e6, .int .i64 n.f4.f0, .int .i64 n.f4.f1, .int .i64 n.f4.f2, .int .i64 n.f4.f3, .slice B11 n.f5.length e11, .int .i64 n.f6.f0, .int .i64 n.f6.f1, .int .i64 n.f6.f2, .int .i64 n.f6.f3] 50)))
        have HN3 := nrow_set (i := i) (x := n) HN2.out hlt (HFK2.out.mono fun k hk => by omega)
        rw [HSET.out] at HN3
        go_roundg (l.length - (i + 1))
        case measure => omega
        case rel => exact ⟨i + 1, _, hlt, Nat.le_refl _, by go_num, by rw [length_splice _ _ _ (by rw [fk_len HFK2.out]; omega)]; exact hcl, Lib.hid HN3, Lib.hid (below_setRow HB2.out (Nat.le_refl _) _)⟩
      · obtain rfl : i = l.length := by omega
        go_wp2
        go_ret
        exact ⟨_, cur, rfl, Nat.le_refl _, hcl, HN.out, HB.out⟩
end Go.Proofs.YtmndeoncbocplaaDoor.C
end
section
set_option linter.unusedVariables false
set_option linter.unusedSimpArgs false
namespace Go.Proofs.YtmndeoncbocplaaDoor.C
open Go.RowKit Go.Proofs.YtmndeoncbocplaaDoor.Q Go.Proofs.YtmndeoncbocplaaDoorW.PrintWords Go.Proofs.YtmndeoncbocplaaDoorW.PrintLast Go.Proofs.YtmndeoncbocplaaDoorW.PrintMore
attribute [local go_sem ↓] rd_at50 wr_at50 al_at50
attribute [local go_sem] rd50_new wr50_new al50
/-- A row among rows: nodes ahead, one, nodes behind. -/
theorem nrow_ins {W W' : World} {g g' i : Nat} {l : List S50} {cur cs' vs : List Value} {x : S50} (h : NRow W g l cur) (hcl : cur.length = l.length * 16) (hi : i ≤ l.length) (hx : k50.FK W (fun _ => True) x vs) (hg : W.heap.size ≤ g') (hb : Below W.heap.size W W')
    (hh : W'.heap[g']? = some (.cells cs'.toArray 50 (0, 0))) (hc : cs'.take ((l.length + 1) * 16) = cur.take (i * 16) ++ (vs ++ cur.drop (i * 16))) : NRow W' g' (l.take i ++ x :: l.drop i) cs' := by
  have hvl := fk_len hx
  have hlen : (l.take i ++ x :: l.drop i).length = l.length + 1 := by rw [List.length_append, List.length_cons, List.length_take, List.length_drop]; omega
  have hm : ∀ {y : S50} {c : List Value} {ok : Nat → Prop}, k50.FK W ok y c → k50.FK W' (fun k => k ≠ g') y c := fun hy => (hy.bound.step fun k hk _ => hb.block k hk.2).mono fun k hk => by omega
  have hseg : ∀ j, j < l.length + 1 → (cs'.drop (j * 16)).take 16 = ((cur.take (i * 16) ++ (vs ++ cur.drop (i * 16))).drop (j * 16)).take 16 := by
    intro j hj
    rw [← hc, List.drop_take, List.take_take, Nat.min_eq_left (by omega)]
  refine ⟨hh, ?_, fun j y hj => ?_⟩
  · rw [hlen]
    have := congrArg List.length hc
    rw [List.length_take, List.length_append, List.length_append, List.length_take, List.length_drop] at this
    omega
  · have hjl := (List.getElem?_eq_some_iff.1 hj).1
    rw [hlen] at hjl
    rw [hseg j hjl]
    have hti : (cur.take (i * 16)).length = i * 16 := by rw [List.length_take]; omega
    have hli : (l.take i).length = i := by rw [List.length_take]; omega
    rcases Nat.lt_trichotomy j i with h1 | h1 | h1
    · rw [List.getElem?_append_left (by omega), List.getElem?_take_of_lt h1] at hj
      have hy := hm (h.2.2 j y hj)
      have e : ((cur.take (i * 16) ++ (vs ++ cur.drop (i * 16))).drop (j * 16)).take 16 = (cur.drop (j * 16)).take 16 := by
        rw [List.drop_append_of_le_length (by omega), List.take_append_of_le_length (by rw [List.length_drop]; omega), List.drop_take, List.take_take, Nat.min_eq_left (by omega)]
      rw [e]; exact hy
    · subst h1
      rw [List.getElem?_append_right (by omega), hli, Nat.sub_self] at hj
      obtain rfl : x = y := by simpa using hj
      have e : ((cur.take (j * 16) ++ (vs ++ cur.drop (j * 16))).drop (j * 16)).take 16 = vs := by
        rw [List.drop_append, hti, Nat.sub_self, List.drop_zero, List.drop_of_length_le (by omega), List.nil_append, List.take_append_of_le_length (by omega), List.take_of_length_le (by omega)]
      rw [e]; exact hm hx
    · rw [List.getElem?_append_right (by omega), hli] at hj
      obtain ⟨m, rfl⟩ : ∃ m, j = i + 1 + m := ⟨j - i - 1, by omega⟩
      rw [show i + 1 + m - i = m + 1 by omega, List.getElem?_cons_succ, List.getElem?_drop] at hj
      have hy := hm (h.2.2 (i + m) y hj)
      have e : ((cur.take (i * 16) ++ (vs ++ cur.drop (i * 16))).drop ((i + 1 + m) * 16)).take 16 = (cur.drop ((i + m) * 16)).take 16 := by
        rw [List.drop_append, hti, List.drop_of_length_le (by omega), List.nil_append, List.drop_append, List.drop_of_length_le (by omega), List.nil_append, List.drop_drop]
        congr 2
        omega
      rw [e]; exact hy
theorem nrow_one {W : World} {g : Nat} {l : List S50} {cur : List Value} (h : NRow W g l cur) (hcl : cur.length = l.length * 16) : ∀ v ∈ cur, v.oneCell' = true := by
  intro v hv
  obtain ⟨j, hj, rfl⟩ := List.getElem_of_mem hv
  have hlt : j / 16 < l.length := by omega
  have hk := h.2.2 (j / 16) _ (List.getElem?_eq_getElem hlt)
  refine fk_one hk _ ?_
  have e : ((cur.drop (j / 16 * 16)).take 16)[j % 16]? = some cur[j] := by
    rw [List.getElem?_take_of_lt (by omega), List.getElem?_drop, show j / 16 * 16 + j % 16 = j by omega]
    exact List.getElem?_eq_getElem hj
  exact List.mem_of_getElem? e
set_option maxHeartbeats 4000000 in
set_option maxRecDepth 100000 in
theorem insert_c (l : List S50) (g i vb : Nat) (cs vs : List Value) (x : S50) (w : World) (hN : NRow w g l cs) (hcl : cs.length = l.length * 16) (hn : l.length < 900000) (hi : i ≤ l.length) (hv : w.heap[vb]? = some (.cells vs.toArray 50 (0, 0))) (hx : k50.FK w (fun _ => True) x vs) :
    Calls Tryd.prog 86 #[.slice (some ⟨g, 0, none⟩) l.length l.length, .int .i64 (i : Int), .slice (some ⟨vb, 0, none⟩) 1 1] w fun e w' => ∃ g' cs' cap, e = .returned (.slice (some ⟨g', 0, none⟩) (l.length + 1) cap) ∧ l.length + 1 ≤ cap ∧ w.heap.size ≤ g' ∧ NRow w' g' (l.take i ++ x :: l.drop i) cs' ∧ Below w.heap.size w w' := by
  obtain ⟨i0, hi0, hz0, hzs, hzb⟩ := info50
  have hvl := fk_len hx
  have hzl : zero50.size = 16 := rfl
  have hcell : ∀ j v, cs[j]? = some v → w.cell? ((⟨g, 0, none⟩ : Addr).add j) = some v := fun j v hj => by
    have ha : (⟨g, 0, none⟩ : Addr).add j = ⟨g, j, none⟩ := by unfold Addr.add; split <;> simp_all
    rw [ha]
    simp only [World.cell?, hN.1, Option.isSome_none, Bool.false_eq_true, if_false]
    rw [← Array.getElem?_toList]; exact hj
  have hvcell : ∀ j v, vs[j]? = some v → w.cell? ((⟨vb, 0, none⟩ : Addr).add j) = some v := fun j v hj => by
    have ha : (⟨vb, 0, none⟩ : Addr).add j = ⟨vb, j, none⟩ := by unfold Addr.add; split <;> simp_all
    rw [ha]
    simp only [World.cell?, hv, Option.isSome_none, Bool.false_eq_true, if_false]
    rw [← Array.getElem?_toList]; exact hj
  have hG := grownCap_ge w (l.length + 1) l.length 50
  by_cases hie : i = l.length
  · subst hie
    have hap : ∀ ty, (Builtin.append_ #[42, 42] ty #[.slice (some ⟨g, 0, none⟩) l.length l.length, .slice (some ⟨vb, 0, none⟩) 1 1]).run Tryd.prog w = .ok (.slice (some ⟨w.heap.size, 0, none⟩) (l.length + 1) (grownCap w (l.length + 1) l.length 50)) (w.drew.alloc (.cells (cs.toArray ++ vs.toArray ++ Builtin.zeroCells zero50 (grownCap w (l.length + 1) l.length 50 - (l.length + 1))) 50)) := fun ty =>
      run_append_grow w 42 ty 50 i0 (.agg zero50) Tryd.underlying42 hi0 hz0 ⟨g, 0, none⟩ l.length l.length cs (by rw [hzs]; exact hcl) hcell ⟨vb, 0, none⟩ 1 1 vs (by rw [hzs, hvl]) hvcell (by omega) (by omega) (by rw [hzb]; exact growslice_fits (by omega) (by omega))
    have HN := Lib.hid hN
    have HX := Lib.hid hx
    generalize grownCap w (l.length + 1) l.length 50 = G at hap hG
    have hfin : ∃ cs' : List Value, (w.drew.alloc (.cells (cs.toArray ++ vs.toArray ++ Builtin.zeroCells zero50 (G - (l.length + 1))) 50)).heap[w.heap.size]? = some (.cells cs'.toArray 50 (0, 0)) ∧ cs'.take ((l.length + 1) * 16) = cs.take (l.length * 16) ++ (vs ++ cs.drop (l.length * 16)) := by
      refine ⟨cs ++ vs ++ (Builtin.zeroCells zero50 (G - (l.length + 1))).toList, ?_, ?_⟩
      · have h := blk_new w.drew (.cells (cs.toArray ++ vs.toArray ++ Builtin.zeroCells zero50 (G - (l.length + 1))) 50)
        have e : (cs ++ vs ++ (Builtin.zeroCells zero50 (G - (l.length + 1))).toList).toArray = cs.toArray ++ vs.toArray ++ Builtin.zeroCells zero50 (G - (l.length + 1)) := by simp
        rw [e]; exact h
      · rw [List.take_append_of_le_length (by rw [List.length_append]; omega), List.take_of_length_le (by rw [List.length_append]; omega), List.take_of_length_le (by omega), List.drop_of_length_le (by omega), List.append_nil]
    obtain ⟨cs', hh, hc⟩ := hfin
    have HB := Lib.hid (show Below w.heap.size w (w.drew.alloc (.cells (cs.toArray ++ vs.toArray ++ Builtin.zeroCells zero50 (G - (l.length + 1))) 50)) from below_alloc (below_drew1 (Below.refl _ _)) _)
    have HR := Lib.hid (nrow_ins HN.out hcl (Nat.le_refl _) HX.out (Nat.le_refl _) HB.out hh hc)
    obtain ⟨W1, hW1⟩ : ∃ W1, W1 = (w.drew.alloc (.cells (cs.toArray ++ vs.toArray ++ Builtin.zeroCells zero50 (G - (l.length + 1))) 50)) := ⟨_, rfl⟩
    rw [← hW1] at hap HR HB
    clear hW1 hh hc hcell hvcell hN hx hv
    go_enter Tryd.func86, Tryd.ntmps86
    go_wp2_with (at_builtin; refine Lib.wpList_append_run _ rfl _ _ _ _ rfl _ _ rfl rfl _ _ (hap _) ?_)
    go_ret
    exact ⟨_, cs', G, rfl, hG, Nat.le_refl _, HR.out, HB.out⟩
  · have hlt : i < l.length := by omega
    have hik : i + (l.length + 1 - i) = l.length + 1 := by omega
    have hold : (Builtin.firstCells i0.size i (.slice (some ⟨g, 0, none⟩) i l.length)).run Tryd.prog w.drew = .ok (cs.take (i * 16)).toArray w.drew := by
      rw [hzs]
      exact run_firstCells_some w.drew 16 i ⟨g, 0, none⟩ i l.length (cs.take (i * 16)) (by rw [List.length_take]; omega) (fun j v hj => by
        rw [List.getElem?_take] at hj
        split at hj
        · exact hcell j v hj
        · cases hj)
    have hap0 : ∀ ty, (Builtin.append_ #[42, 3] ty #[.slice (some ⟨g, 0, none⟩) i l.length, .int .i64 ((l.length + 1 - i : Nat) : Int)]).run Tryd.prog w = .ok (.slice (some ⟨w.heap.size, 0, none⟩) (l.length + 1) (grownCap w (l.length + 1) l.length 50)) (w.drew.alloc (.cells ((cs.take (i * 16)).toArray ++ Builtin.zeroCells zero50 (l.length + 1 - i) ++ Builtin.zeroCells zero50 (grownCap w (l.length + 1) l.length 50 - (l.length + 1))) 50)) := fun ty => by
      have h := Lib.run_append_grow_zeros w 42 3 ty 50 i0 (.agg zero50) .i64 .i64 Tryd.underlying42 Tryd.underlying3 hi0 hz0 (some ⟨g, 0, none⟩) i l.length (cs.take (i * 16)) hold (l.length + 1 - i) (by omega) (by omega) (by omega) (by omega) (by rw [hzb]; omega) (by rw [hzb, hik]; exact growslice_fits (by omega) (by omega))
      rw [hik] at h
      exact h
    have hii : (l.length : Int) + 1 - (i : Int) = ((l.length + 1 - i : Nat) : Int) := by omega
    have hap : ∀ ty, (Builtin.append_ #[42, 3] ty #[.slice (some ⟨g, 0, none⟩) i l.length, .int .i64 ((l.length : Int) + 1 - (i : Int))]).run Tryd.prog w = .ok (.slice (some ⟨w.heap.size, 0, none⟩) (l.length + 1) (grownCap w (l.length + 1) l.length 50)) (w.drew.alloc (.cells ((cs.take (i * 16)).toArray ++ Builtin.zeroCells zero50 (l.length + 1 - i) ++ Builtin.zeroCells zero50 (grownCap w (l.length + 1) l.length 50 - (l.length + 1))) 50)) := fun ty => by rw [hii]; exact hap0 ty
    clear hap0 hii
    have HN := Lib.hid hN
    have HX := Lib.hid hx
    generalize grownCap w (l.length + 1) l.length 50 = G at hap hG
    obtain ⟨row, hrow⟩ : ∃ row : List Value, row = cs.take (i * 16) ++ (Builtin.zeroCells zero50 (l.length + 1 - i)).toList ++ (Builtin.zeroCells zero50 (G - (l.length + 1))).toList := ⟨_, rfl⟩
    have hre : (cs.take (i * 16)).toArray ++ Builtin.zeroCells zero50 (l.length + 1 - i) ++ Builtin.zeroCells zero50 (G - (l.length + 1)) = row.toArray := by rw [hrow]; simp
    have hrl : row.length = G * 16 := by
      rw [hrow]
      simp only [List.length_append, Array.length_toList, size_zeroCells, hzl, List.length_take]
      omega
    have hrt : row.take (i * 16) = cs.take (i * 16) := by
      rw [hrow, List.append_assoc, List.take_append_of_le_length (by rw [List.length_take]; omega), List.take_take, Nat.min_self]
    simp only [hre] at hap
    have hh1 : (w.drew.alloc (.cells row.toArray 50)).heap[w.heap.size]? = some (.cells row.toArray 50 (0, 0)) := blk_new w.drew _
    have hB1 : Below w.heap.size w (w.drew.alloc (.cells row.toArray 50)) := below_alloc (below_drew1 (Below.refl _ _)) _
    obtain ⟨W1, hW1⟩ : ∃ W1, W1 = w.drew.alloc (.cells row.toArray 50) := ⟨_, rfl⟩
    rw [← hW1] at hap hh1 hB1
    clear hW1 hrow hre hold hik
    have hsp1 : (splice row (i * 16) vs).length = row.length := length_splice _ _ _ (by omega)
    have hcp1 : ∀ ty dc, (Builtin.copy_ #[42, 42] ty #[.slice (some ⟨w.heap.size, i * 16, none⟩) (l.length + 1 - i) dc, .slice (some ⟨vb, 0, none⟩) 1 1]).run Tryd.prog W1 = .ok (goInt 1) (W1.setRow w.heap.size (splice row (i * 16) vs).toArray) := fun ty dc => by
      have hm : Nat.min 1 (l.length + 1 - i) = 1 := Nat.min_eq_left (by omega)
      have h := copy50 (W := W1) (o := i * 16) (cs := vs) (dLen := l.length + 1 - i) (dCap := dc) (sLen := 1) (sCap := 1) (a := ⟨vb, 0, none⟩) hh1 (by rw [hm]; exact hvl) (fun j v hj => pw_cell_below hB1 (hvcell j v hj)) (by omega) (fk_one hx) ty
      rw [hm] at h
      exact h
    have hh2 : (W1.setRow w.heap.size (splice row (i * 16) vs).toArray).heap[w.heap.size]? = some (.cells (splice row (i * 16) vs).toArray 50 (0, 0)) := setRow_heap _ _ _ _ _ _ hh1
    have hB2 : Below w.heap.size w (W1.setRow w.heap.size (splice row (i * 16) vs).toArray) := below_setRow hB1 (Nat.le_refl _) _
    obtain ⟨W2, hW2⟩ : ∃ W2, W2 = W1.setRow w.heap.size (splice row (i * 16) vs).toArray := ⟨_, rfl⟩
    rw [← hW2] at hcp1 hh2 hB2
    clear hW2
    have hdl : (cs.drop (i * 16)).length = (l.length - i) * 16 := by rw [List.length_drop]; omega
    have hcp2 : ∀ (W : World), (∀ x, W.cell? x = W2.cell? x) → W.heap = W2.heap → ∀ ty dc sc, (Builtin.copy_ #[42, 42] ty #[.slice (some ⟨w.heap.size, (i + 1) * 16, none⟩) (l.length - i) dc, .slice (some ⟨g, i * 16, none⟩) (l.length - i) sc]).run Tryd.prog W = .ok (goInt ((l.length - i : Nat) : Int)) (W.setRow w.heap.size (splice (splice row (i * 16) vs) ((i + 1) * 16) (cs.drop (i * 16))).toArray) := fun W hWc hWh ty dc sc => by
      have hm : Nat.min (l.length - i) (l.length - i) = l.length - i := Nat.min_self _
      have h := copy50 (W := W) (g := w.heap.size) (o := (i + 1) * 16) (cs := cs.drop (i * 16)) (dLen := l.length - i) (dCap := dc) (sLen := l.length - i) (sCap := sc) (a := ⟨g, i * 16, none⟩) (by rw [hWh]; exact hh2) (by rw [hm]; exact hdl) (fun j v hj => by
        rw [hWc]
        rw [List.getElem?_drop] at hj
        have ha : (⟨g, i * 16, none⟩ : Addr).add j = (⟨g, 0, none⟩ : Addr).add (i * 16 + j) := by rw [Addr.add_lit, Addr.add_lit, Nat.zero_add]
        rw [ha]
        exact pw_cell_below hB2 (hcell _ v hj)) (by omega) (fun v hv => nrow_one hN hcl v (List.mem_of_mem_drop hv)) ty
      rw [hm] at h
      exact h
    have hfinal : (splice (splice row (i * 16) vs) ((i + 1) * 16) (cs.drop (i * 16))).take ((l.length + 1) * 16) = cs.take (i * 16) ++ (vs ++ cs.drop (i * 16)) := by
      have e1 : (splice row (i * 16) vs).take ((i + 1) * 16) = cs.take (i * 16) ++ vs := by
        unfold splice
        rw [← List.append_assoc, List.take_append_of_le_length (by rw [List.length_append, List.length_take]; omega), List.take_of_length_le (by rw [List.length_append, List.length_take]; omega), hrt]
      unfold splice at e1 ⊢
      rw [e1, ← List.append_assoc, List.take_append_of_le_length (by rw [List.length_append, List.length_append, List.length_take]; omega), List.take_of_length_le (by rw [List.length_append, List.length_append, List.length_take]; omega), List.append_assoc]
    have hh3 : (W2.setRow w.heap.size (splice (splice row (i * 16) vs) ((i + 1) * 16) (cs.drop (i * 16))).toArray).heap[w.heap.size]? = some (.cells (splice (splice row (i * 16) vs) ((i + 1) * 16) (cs.drop (i * 16))).toArray 50 (0, 0)) := setRow_heap _ _ _ _ _ _ hh2
    have hB3 : Below w.heap.size w (W2.setRow w.heap.size (splice (splice row (i * 16) vs) ((i + 1) * 16) (cs.drop (i * 16))).toArray) := below_setRow hB2 (Nat.le_refl _) _
    have HR := Lib.hid (nrow_ins HN.out hcl hi HX.out (Nat.le_refl _) hB3 hh3 hfinal)
    have HB := Lib.hid hB3
    generalize splice (splice row (i * 16) vs) ((i + 1) * 16) (cs.drop (i * 16)) = fin at hcp2 HR HB
    have hlen0 : ¬ ((i : Int) = (l.length : Int)) := by omega
    have hGi : ¬ (G = i) := by omega
    have hGi1 : ¬ (G = i + 1) := by omega
    have hli : ¬ (l.length = i) := by omega
    have hcp1' := hcp1
    clear hh3 hB3 hfinal hh2 hB2 hh1 hB1 hcell hvcell hN hx hv hsp1 hrt hrl hi0 hz0 hzs hzb hdl
    go_enter Tryd.func86, Tryd.ntmps86
    go_wp2_with (first
      | (at_builtin; refine Lib.wpList_append_run _ rfl _ _ _ _ rfl _ _ rfl rfl _ _ (hap _) ?_)
      | (at_builtin; refine wpList_copy_runI _ rfl _ _ 42 42 rfl _ _ rfl rfl (hcp1 _ _) ?_))
    have mixed : Tryd.prog.follows Departure.mixedOrders = true := by kernel_rfl
    have hw1 : IntKind.i64.wrap ((i : Int) + 1) = (i : Int) + 1 := by rw [IntKind.wrap_i64]; omega
    have hb1 : (0 : Int) ≤ (i : Int) + 1 := by omega
    have htn : ((i : Int) + 1).toNat = i + 1 := by omega
    have hb2 : (i : Int) + 1 ≤ (l.length : Int) + 1 := by omega
    have hb3 : (i : Int) ≤ (l.length : Int) := by omega
    go_region_law_o (go_loud (refine step_copy_runI rfl _ _ 42 42 rfl (.slice (some ⟨w.heap.size, (i + 1) * 16, none⟩) (l.length - i) (G - (i + 1))) (.slice (some ⟨g, i * 16, none⟩) (l.length - i) (l.length - i)) (by simp [Act.eval, Act.put]) (by simp [Act.eval, Act.put]) (hcp2 W2.drew (fun _ => rfl) rfl 3 (G - (i + 1)) (l.length - i)) ?_))
    go_wp2
    go_ret
    exact ⟨_, fin, G, rfl, hG, Nat.le_refl _, nrow_step HR.out (fun k _ => rfl), HB.out.drew⟩
end Go.Proofs.YtmndeoncbocplaaDoor.C
end
section
set_option linter.unusedVariables false
set_option linter.unusedSimpArgs false
namespace Go.Proofs.YtmndeoncbocplaaDoor.C
open Go.RowKit Go.Proofs.YtmndeoncbocplaaDoor.Q Go.Proofs.YtmndeoncbocplaaDoorW.PrintWords Go.Proofs.YtmndeoncbocplaaDoorW.PrintLast Go.Proofs.YtmndeoncbocplaaDoorW.PrintMore
attribute [local go_sem ↓] rd_at50 wr_at50 al_at50
attribute [local go_sem] rd50_new wr50_new al50
/-- A node put among others. -/
def putP (l : List S50) (n : S50) : List S50 := if isN l n.f0 then l.set (atN l n.f0) n else l.take (atN l n.f0) ++ n :: l.drop (atN l n.f0)
set_option maxHeartbeats 4000000 in
set_option maxRecDepth 100000 in
theorem tput_c (l : List S50) (n : S50) (cs : List Value) (A : Option Addr) (c : Nat) (w : World) (hC : Kd.C k50 w A l.length l) (hc : l.length ≤ c) (hn : l.length < 100000) (hR : RisingN l n.f0) (hF : ∀ m ∈ l, Fits m) (hK : k50.K w n cs) (hFn : Fits n) :
    Calls Tryd.prog 55 #[.slice A l.length c, .agg cs.toArray] w fun e w' => ∃ A' c', e = .returned (.slice A' (putP l n).length c') ∧ (putP l n).length ≤ c' ∧ Kd.C k50 w' A' (putP l n).length (putP l n) ∧ Below w.heap.size w w' := by
  obtain ⟨A6, c6, A11, c11, rfl, _⟩ := k50_open hK
  have HTW := Lib.hid fun w1 (hb : Below w.heap.size w w1) => twins_c l A c w1 (Kd.C_below hC hb) hc (by omega) hF
  have HPL := Lib.hid fun (g : Nat) (w1 : World) (h : Kd.C k50 w1 (some ⟨g, 0, none⟩) l.length l) => placeN l n.f0 (some ⟨g, 0, none⟩) l.length w1 h (Nat.le_refl _) (by omega) hR
  have HT1 := Lib.hid fun (w1 : World) (hb : Below w.heap.size w w1) => twin_c n _ w1 (k50.K_below hb hK) hFn
  have HLE := Lib.hid (at_leN l n.f0)
  have HLT := Lib.hid (fun h => isN_lt h : isN l n.f0 = true → atN l n.f0 < l.length)
  have HP := Lib.hid (show putP l n = if isN l n.f0 then l.set (atN l n.f0) n else l.take (atN l n.f0) ++ n :: l.drop (atN l n.f0) from rfl)
  clear hC hR hF hK hFn
  generalize putP l n = res at HP ⊢
  generalize atN l n.f0 = i at HPL HLE HLT HP
  generalize isN l n.f0 = b at HPL HLT HP
  have HBX := Lib.hid (blk_new w (.cells #[.string n.f0, .bool n.f1, .int .i64 n.f2.f0, .int .i64 n.f2.f1, .int .i64 n.f2.f2, .int .i64 n.f2.f3, .slice A6 n.f3.length c6, .int .i64 n.f4.f0, .int .i64 n.f4.f1, .int .i64 n.f4.f2, .int .i64 n.f4.f3, .slice A11 n.f5.length c11, .int .i64 n.f6.f0, .int .i64 n.f6.f1, .int .i64 n.f6.f2, .int .i64 n.f6.f3] 50))
  have HB0 := Lib.hid (below_alloc (Below.refl w.heap.size w) (.cells #[.string n.f0, .bool n.f1, .int .i64 n.f2.f0, .int .i64 n.f2.f1, .int .i64 n.f2.f2, .int .i64 n.f2.f3, .slice A6 n.f3.length c6, .int .i64 n.f4.f0, .int .i64 n.f4.f1, .int .i64 n.f4.f2, .int .i64 n.f4.f3, .slice A11 n.f5.length c11, .int .i64 n.f6.f0, .int .i64 n.f6.f1, .int .i64 n.f6.f2, .int .i64 n.f6.f3] 50))
  go_enter Tryd.func55, Tryd.ntmps55
  cases b with
  | true =>
    have hi := HLT.out rfl
    have hp := HP.out
    rw [if_pos rfl] at hp
    subst hp
    go_wp2_with (first | (go_at_call 85; go_loud (refine (HTW.out _ HB0.out).mono ?_; rintro e w1 ⟨g, cur, rfl, hg, hcl, hN, hb⟩; have HN1 := Lib.hid hN; have HB1 := Lib.hid (below_step HB0.out hb); have HG1 := Lib.hid (show w.heap.size + 1 ≤ g by simpa using hg); have HX1 := Lib.hid (blk_below HBX.out hb); have hp0 := (blk_cell HX1.out 0).trans rfl; clear hb hN hg)) | (go_at_call 83; go_loud (refine (HPL.out g _ (nrow_C HN1.out (by omega))).mono ?_; rintro e w2 ⟨rfl, hb⟩; have HN2 := Lib.hid (nrow_below HN1.out hb); have HB2 := Lib.hid (below_step HB1.out hb); have HX2 := Lib.hid (blk_below HX1.out hb); have hld := rd50_blk HX2.out rfl; clear hb)) | (go_at_call 84; go_loud (refine (HT1.out _ HB2.out).mono ?_; rintro e w3 ⟨cs2, rfl, hfk, hb⟩; have HN3 := Lib.hid (nrow_below HN2.out hb); have HB3 := Lib.hid (below_step HB2.out hb); have hgl := blk_lt HN2.out.1; have HFK := Lib.hid hfk; have hst := wr50_in (o := i * 16) (cs := cs2.toArray) HN3.out.1 (by omega) (by rw [List.size_toArray]; exact fk_len HFK.out) (Array.all_eq_true_iff_forall_mem.2 fun v hv => fk_one HFK.out v (by simpa using hv)); clear hb hfk)))
    go_ret
    have HN4 := nrow_set (i := i) (x := n) HN3.out hi (HFK.out.mono fun k hk => by omega)
    refine ⟨some ⟨g, 0, none⟩, l.length, by rw [List.length_set]; rfl, by rw [List.length_set]; exact Nat.le_refl _, nrow_C HN4 (by rw [List.length_set]; omega), below_setRow HB3.out (by have := HG1.out; omega) _⟩
  | false =>
    have hp := HP.out
    rw [if_neg (by simp)] at hp
    have hlen : res.length = l.length + 1 := by rw [hp, List.length_append, List.length_cons, List.length_take, List.length_drop]; have := HLE.out; omega
    have HP2 := Lib.hid hp
    clear hp
    go_wp2_with (first | (go_at_call 85; go_loud (refine (HTW.out _ HB0.out).mono ?_; rintro e w1 ⟨g, cur, rfl, hg, hcl, hN, hb⟩; have HN1 := Lib.hid hN; have HB1 := Lib.hid (below_step HB0.out hb); have HX1 := Lib.hid (blk_below HBX.out hb); have hp0 := (blk_cell HX1.out 0).trans rfl; clear hb hN hg)) | (go_at_call 83; go_loud (refine (HPL.out g _ (nrow_C HN1.out (by omega))).mono ?_; rintro e w2 ⟨rfl, hb⟩; have HN2 := Lib.hid (nrow_below HN1.out hb); have HB2 := Lib.hid (below_step HB1.out hb); have HX2 := Lib.hid (blk_below HX1.out hb); have hld := rd50_blk HX2.out rfl; clear hb)) | (go_at_call 84; go_loud (refine (HT1.out _ HB2.out).mono ?_; rintro e w3 ⟨cs2, rfl, hfk, hb⟩; obtain ⟨D6, d6, D11, d11, rfl, _⟩ := k50_open (Kd.FK_now hfk); have HN3 := Lib.hid (nrow_below HN2.out (below_step hb (below_alloc (Below.refl w3.heap.size w3) (.cells #[.string n.f0, .bool n.f1, .int .i64 n.f2.f0, .int .i64 n.f2.f1, .int .i64 n.f2.f2, .int .i64 n.f2.f3, .slice D6 n.f3.length d6, .int .i64 n.f4.f0, .int .i64 n.f4.f1, .int .i64 n.f4.f2, .int .i64 n.f4.f3, .slice D11 n.f5.length d11, .int .i64 n.f6.f0, .int .i64 n.f6.f1, .int .i64 n.f6.f2, .int .i64 n.f6.f3] 50)))); have HB3 := Lib.hid (below_step (below_step HB2.out hb) (below_alloc (Below.refl w3.heap.size w3) (.cells #[.string n.f0, .bool n.f1, .int .i64 n.f2.f0, .int .i64 n.f2.f1, .int .i64 n.f2.f2, .int .i64 n.f2.f3, .slice D6 n.f3.length d6, .int .i64 n.f4.f0, .int .i64 n.f4.f1, .int .i64 n.f4.f2, .int .i64 n.f4.f3, .slice D11 n.f5.length d11, .int .i64 n.f6.f0, .int .i64 n.f6.f1, .int .i64 n.f6.f2, .int .i64 n.f6.f3] 50))); have HV := Lib.hid (blk_new w3 (.cells #[.string n.f0, .bool n.f1, .int .i64 n.f2.f0, .int .i64 n.f2.f1, .int .i64 n.f2.f2, .int .i64 n.f2.f3, .slice D6 n.f3.length d6, .int .i64 n.f4.f0, .int .i64 n.f4.f1, .int .i64 n.f4.f2, .int .i64 n.f4.f3, .slice D11 n.f5.length d11, .int .i64 n.f6.f0, .int .i64 n.f6.f1, .int .i64 n.f6.f2, .int .i64 n.f6.f3] 50)); have HFK := Lib.hid (hfk.step (W1 := w3.alloc (.cells #[.string n.f0, .bool n.f1, .int .i64 n.f2.f0, .int .i64 n.f2.f1, .int .i64 n.f2.f2, .int .i64 n.f2.f3, .slice D6 n.f3.length d6, .int .i64 n.f4.f0, .int .i64 n.f4.f1, .int .i64 n.f4.f2, .int .i64 n.f4.f3, .slice D11 n.f5.length d11, .int .i64 n.f6.f0, .int .i64 n.f6.f1, .int .i64 n.f6.f2, .int .i64 n.f6.f3] 50)) fun k _ hk => (below_alloc (Below.refl w3.heap.size w3) (.cells #[.string n.f0, .bool n.f1, .int .i64 n.f2.f0, .int .i64 n.f2.f1, .int .i64 n.f2.f2, .int .i64 n.f2.f3, .slice D6 n.f3.length d6, .int .i64 n.f4.f0, .int .i64 n.f4.f1, .int .i64 n.f4.f2, .int .i64 n.f4.f3, .slice D11 n.f5.length d11, .int .i64 n.f6.f0, .int .i64 n.f6.f1, .int .i64 n.f6.f2, .int .i64 n.f6.f3] 50)).block k hk); clear hb hfk)) | (go_at_call 86; go_loud (refine (insert_c l g i w3.heap.size cur _ n _ HN3.out hcl (by omega) HLE.out HV.out (HFK.out.mono fun _ _ => trivial)).mono ?_; rintro e w4 ⟨g', cs4, cap, rfl, hcap, hg4, hN, hb⟩; have HN4 := Lib.hid hN; have HB4 := Lib.hid (below_step HB3.out hb); clear hb hN hg4)))
    have hn4 := nrow_C HN4.out (by rw [← HP2.out, hlen]; omega)
    rw [← HP2.out] at hn4
    go_ret
    exact ⟨some ⟨g', 0, none⟩, cap, by rw [hlen]; rfl, by rw [hlen]; exact hcap, hn4, HB4.out⟩
end Go.Proofs.YtmndeoncbocplaaDoor.C
end
section
set_option linter.unusedVariables false
set_option linter.unusedSimpArgs false
namespace Go.Proofs.YtmndeoncbocplaaDoor.C
open Go.RowKit Go.Proofs.YtmndeoncbocplaaDoor.Q Go.Proofs.YtmndeoncbocplaaDoorW.PrintWords Go.Proofs.YtmndeoncbocplaaDoorW.PrintLast Go.Proofs.YtmndeoncbocplaaDoorW.PrintMore
attribute [local go_sem ↓] rd_at50 wr_at50 al_at50
attribute [local go_sem] rd50_new wr50_new al50
theorem step_append_runI {P : Program} {w : World} {ops : Array Oper} {o : Oper} {a : Act} {K : Act → World → Prop} {Q : Exit → Act → World → Prop} {E : Prop}
    (hg : o.guard = none) (d x : Operand) (dT sT : TypeId) (hop : o.op = Op.call { callee := Callee.builtin Builtin.append, args := #[d, x], argTypes := #[dT, sT] })
    (v u : Value) (hd : a.eval d = v) (hx : a.eval x = u) {v' : Value} {w' : World} (hr : (Builtin.append_ #[dT, sT] o.type #[v, u]).run P w = .ok v' w') (hK : K (a.put o.dst v') w') :
    if Region.wanted o (yielded ops a.tmps) = true then Oper.wp P o a w K Q else E := by
  have hw : Region.wanted o (yielded ops a.tmps) = true := by simp [Region.wanted, hg]
  rw [if_pos hw]
  unfold Oper.wp
  simp [execOp, hop, resolve, invoke, builtin, hd, hx, hr, Result.andThen]
  exact hK
theorem clear50 {W : World} {g o c : Nat} {cur : List Value} {t : TypeId} (hg : W.heap[g]? = some (.cells cur.toArray t (0, 0))) (ho : o + 16 ≤ cur.length) (ty : TypeId) :
    (Builtin.clear_ #[42] ty #[.slice (some ⟨g, o, none⟩) 1 c]).run Tryd.prog W = .ok (.tuple #[]) (W.setRow g (splice cur o zero50.toList).toArray) := by
  have hst := run_storeCells_at Tryd.prog g o t zero50.toList 0 cur.toArray W hg (by simpa [zero50] using ho) (by simp [zero50, Value.oneCell'])
  obtain ⟨i, hq, hz, hsz, _⟩ := info50
  have hzc : (Builtin.zeroCells zero50 1).toList = zero50.toList := by first | rfl | kernel_rfl
  simp only [Nat.add_zero] at hst
  simp [Builtin.clear_, run_underlying Tryd.underlying42, zeroValue, typeInfo, hq, hz, Value.cells, hzc, hst, splice]
/-- A node taken out. -/
theorem nrow_del {W W' : World} {g i : Nat} {l : List S50} {cur cs' : List Value} (h : NRow W g l cur) (hcl : cur.length = l.length * 16) (hi : i < l.length) (hb : ∀ k, k < W.heap.size → k ≠ g → W'.heap[k]? = W.heap[k]?)
    (hh : W'.heap[g]? = some (.cells cs'.toArray 50 (0, 0))) (hc : cs'.take ((l.length - 1) * 16) = cur.take (i * 16) ++ cur.drop ((i + 1) * 16)) : NRow W' g (l.take i ++ l.drop (i + 1)) cs' := by
  have hlen : (l.take i ++ l.drop (i + 1)).length = l.length - 1 := by rw [List.length_append, List.length_take, List.length_drop]; omega
  have hm : ∀ {y : S50} {c : List Value}, k50.FK W (fun k => k ≠ g) y c → k50.FK W' (fun k => k ≠ g) y c := fun hy => hy.step fun k hk hlt => hb k hlt hk
  have hseg : ∀ j, j < l.length - 1 → (cs'.drop (j * 16)).take 16 = ((cur.take (i * 16) ++ cur.drop ((i + 1) * 16)).drop (j * 16)).take 16 := by
    intro j hj
    rw [← hc, List.drop_take, List.take_take, Nat.min_eq_left (by omega)]
  have hti : (cur.take (i * 16)).length = i * 16 := by rw [List.length_take]; omega
  have hli : (l.take i).length = i := by rw [List.length_take]; omega
  refine ⟨hh, ?_, fun j y hj => ?_⟩
  · rw [hlen]
    have := congrArg List.length hc
    rw [List.length_take, List.length_append, hti, List.length_drop] at this
    omega
  · have hjl := (List.getElem?_eq_some_iff.1 hj).1
    rw [hlen] at hjl
    rw [hseg j hjl]
    rcases Nat.lt_or_ge j i with h1 | h1
    · rw [List.getElem?_append_left (by omega), List.getElem?_take_of_lt h1] at hj
      have hy := hm (h.2.2 j y hj)
      have e : ((cur.take (i * 16) ++ cur.drop ((i + 1) * 16)).drop (j * 16)).take 16 = (cur.drop (j * 16)).take 16 := by
        rw [List.drop_append_of_le_length (by omega), List.take_append_of_le_length (by rw [List.length_drop]; omega), List.drop_take, List.take_take, Nat.min_eq_left (by omega)]
      rw [e]; exact hy
    · rw [List.getElem?_append_right (by omega), hli, List.getElem?_drop] at hj
      have hy := hm (h.2.2 (i + 1 + (j - i)) y hj)
      have e : ((cur.take (i * 16) ++ cur.drop ((i + 1) * 16)).drop (j * 16)).take 16 = (cur.drop ((i + 1 + (j - i)) * 16)).take 16 := by
        rw [List.drop_append, hti, List.drop_of_length_le (by omega), List.nil_append, List.drop_drop]
        congr 2
        omega
      rw [e]; exact hy
set_option maxHeartbeats 4000000 in
set_option maxRecDepth 100000 in
theorem delete_c (l : List S50) (g i : Nat) (cs : List Value) (w : World) (hN : NRow w g l cs) (hcl : cs.length = l.length * 16) (hn : l.length < 900000) (hi : i < l.length) :
    Calls Tryd.prog 87 #[.slice (some ⟨g, 0, none⟩) l.length l.length, .int .i64 (i : Int), .int .i64 ((i : Int) + 1)] w fun e w' => ∃ cs', e = .returned (.slice (some ⟨g, 0, none⟩) (l.length - 1) l.length) ∧ NRow w' g (l.take i ++ l.drop (i + 1)) cs' ∧ ∀ B, B ≤ g → Below B w w' := by
  obtain ⟨i0, hi0, hz0, hzs, hzb⟩ := info50
  have hcell : ∀ j v, cs[j]? = some v → w.cell? ⟨g, j, none⟩ = some v := fun j v hj => by
    simp only [World.cell?, hN.1, Option.isSome_none, Bool.false_eq_true, if_false]
    rw [← Array.getElem?_toList]; exact hj
  have hdl : (cs.drop ((i + 1) * 16)).length = (l.length - (i + 1)) * 16 := by rw [List.length_drop]; omega
  obtain ⟨A, hA, hsrc⟩ : ∃ A : Addr, (if l.length = i + 1 then (⟨g, 0, none⟩ : Addr) else ⟨g, (i + 1) * 16, none⟩) = A ∧ ∀ t u, (cs.drop ((i + 1) * 16))[t]? = some u → w.drew.cell? (A.add t) = some u := by
    by_cases h : l.length = i + 1
    · refine ⟨⟨g, 0, none⟩, by rw [if_pos h], fun t u hu => ?_⟩
      rw [List.eq_nil_of_length_eq_zero (by omega : (cs.drop ((i + 1) * 16)).length = 0)] at hu
      cases hu
    · refine ⟨⟨g, (i + 1) * 16, none⟩, by rw [if_neg h], fun t u hu => ?_⟩
      rw [List.getElem?_drop] at hu
      rw [Addr.add_lit]
      exact hcell _ _ hu
  have hsp : (splice cs (i * 16) (cs.drop ((i + 1) * 16))).length = cs.length := length_splice _ _ _ (by omega)
  have hap : ∀ ty c, (Builtin.append_ #[42, 42] ty #[.slice (some ⟨g, 0, none⟩) i l.length, .slice (some A) (l.length - (i + 1)) c]).run Tryd.prog w.drew = .ok (.slice (some ⟨g, 0, none⟩) (l.length - 1) l.length) (w.drew.setRow g (splice cs (i * 16) (cs.drop ((i + 1) * 16))).toArray) := fun ty c => by
    have h := run_append_room (P := Tryd.prog) w.drew 42 ty 50 i0 Tryd.underlying42 hi0 g i l.length cs.toArray hN.1 A (l.length - (i + 1)) c (cs.drop ((i + 1) * 16)) (by rw [hzs]; exact hdl) hsrc (fun u hu => nrow_one hN hcl u (List.mem_of_mem_drop hu)) (by omega) (by rw [hzs]; simp; omega)
    rw [hzs, show i + (l.length - (i + 1)) = l.length - 1 by omega, List.append_assoc] at h
    exact h
  have hh1 : (w.drew.setRow g (splice cs (i * 16) (cs.drop ((i + 1) * 16))).toArray).heap[g]? = some (.cells (splice cs (i * 16) (cs.drop ((i + 1) * 16))).toArray 50 (0, 0)) := setRow_heap w.drew g cs.toArray _ 50 (0, 0) hN.1
  have ho1 : ∀ k, k ≠ g → (w.drew.setRow g (splice cs (i * 16) (cs.drop ((i + 1) * 16))).toArray).heap[k]? = w.heap[k]? := fun k hk => setRow_other w.drew g k _ hk
  have hB1 : ∀ B, B ≤ g → Below B w (w.drew.setRow g (splice cs (i * 16) (cs.drop ((i + 1) * 16))).toArray) := fun B hB => below_setRow (below_drew1 (Below.refl B w)) hB _
  have htk : (splice cs (i * 16) (cs.drop ((i + 1) * 16))).take ((l.length - 1) * 16) = cs.take (i * 16) ++ cs.drop ((i + 1) * 16) := by
    unfold splice
    rw [← List.append_assoc, List.take_append_of_le_length (by rw [List.length_append, List.length_take]; omega), List.take_of_length_le (by rw [List.length_append, List.length_take]; omega)]
  obtain ⟨W1, hW1⟩ : ∃ W1, W1 = w.drew.setRow g (splice cs (i * 16) (cs.drop ((i + 1) * 16))).toArray := ⟨_, rfl⟩
  rw [← hW1] at hap hh1 hB1
  have ho1' : ∀ k, k ≠ g → W1.heap[k]? = w.heap[k]? := by rw [hW1]; exact ho1
  clear hW1 ho1
  generalize splice cs (i * 16) (cs.drop ((i + 1) * 16)) = cs1 at hh1 htk hsp
  have hzl : zero50.toList.length = 16 := rfl
  have hcl2 : ∀ ty c, (Builtin.clear_ #[42] ty #[.slice (some ⟨g, (l.length - 1) * 16, none⟩) 1 c]).run Tryd.prog W1 = .ok (.tuple #[]) (W1.setRow g (splice cs1 ((l.length - 1) * 16) zero50.toList).toArray) := fun ty c => clear50 hh1 (by omega) ty
  have hh2 : (W1.setRow g (splice cs1 ((l.length - 1) * 16) zero50.toList).toArray).heap[g]? = some (.cells (splice cs1 ((l.length - 1) * 16) zero50.toList).toArray 50 (0, 0)) := setRow_heap _ _ _ _ _ _ hh1
  have htk2 : (splice cs1 ((l.length - 1) * 16) zero50.toList).take ((l.length - 1) * 16) = cs.take (i * 16) ++ cs.drop ((i + 1) * 16) := by
    rw [← htk]
    unfold splice
    rw [List.take_append_of_le_length (by rw [List.length_take]; omega), List.take_take, Nat.min_self]
  have HR := Lib.hid (nrow_del hN hcl hi (fun k hk hkg => (setRow_other W1 g k _ hkg).trans (ho1' k hkg)) hh2 htk2)
  have HB := Lib.hid fun B (hB : B ≤ g) => below_setRow (hB1 B hB) hB (splice cs1 ((l.length - 1) * 16) zero50.toList).toArray
  have mixed : Tryd.prog.follows Departure.mixedOrders = true := by kernel_rfl
  have hie : ¬ ((i : Int) = (i : Int) + 1) := by omega
  have hl1 : (0 : Int) ≤ (i : Int) + 1 := by omega
  have htn : ((i : Int) + 1).toNat = i + 1 := by omega
  have hl2 : (i : Int) + 1 ≤ (l.length : Int) := by omega
  have hl3 : (i : Int) ≤ (i : Int) + 1 := by omega
  have hl4 : i ≤ l.length := by omega
  have hl5 : i + 1 ≤ l.length := by omega
  have hnn : ¬ (l.length = l.length - 1) := by omega
  have h1n : l.length - (l.length - 1) = 1 := by omega
  clear hh2 htk2 hh1 htk hB1 ho1' hcell hsrc hdl hsp hN hi0 hz0 hzs hzb
  by_cases h : l.length = i + 1
  · rw [if_pos h] at hA
    subst hA
    go_enter Tryd.func87, Tryd.ntmps87
    have hap2 : ∀ ty, (Builtin.append_ #[42, 42] ty #[.slice (some ⟨g, 0, none⟩) i (i + 1), .slice (some ⟨g, 0, none⟩) 0 0]).run Tryd.prog w.drew = .ok (.slice (some ⟨g, 0, none⟩) i (i + 1)) W1 := fun ty => by
      have hx := hap ty 0
      rw [h, Nat.sub_self, Nat.add_sub_cancel] at hx
      exact hx
    have e16 : (l.length - 1) * 16 = i * 16 := by omega
    rw [e16] at HR HB hcl2
    have hcl3 := hcl2
    have hi1 : ¬ (i + 1 = i) := by omega
    clear hcl2 hap
    go_wp2
    go_region_law_o (go_loud (refine step_append_runI rfl (.tmp 22) (.tmp 25) 42 42 rfl (.slice (some ⟨g, 0, none⟩) i (i + 1)) (.slice (some ⟨g, 0, none⟩) 0 0) (by simp [Act.eval, Act.put]) (by simp [Act.eval, Act.put]) (hap2 42) ?_))
    go_wp2
    go_ret
    exact ⟨_, by rw [h]; rfl, HR.out, HB.out⟩
  · rw [if_neg h] at hA
    subst hA
    go_enter Tryd.func87, Tryd.ntmps87
    go_wp2
    go_region_law_o (go_loud (refine step_append_runI rfl (.tmp 22) (.tmp 25) 42 42 rfl (.slice (some ⟨g, 0, none⟩) i l.length) (.slice (some ⟨g, (i + 1) * 16, none⟩) (l.length - (i + 1)) (l.length - (i + 1))) (by simp [Act.eval, Act.put]) (by simp [Act.eval, Act.put]) (hap 42 (l.length - (i + 1))) ?_))
    go_wp2
    go_ret
    exact ⟨_, rfl, HR.out, HB.out⟩
end Go.Proofs.YtmndeoncbocplaaDoor.C
end
section
set_option linter.unusedVariables false
set_option linter.unusedSimpArgs false
namespace Go.Proofs.YtmndeoncbocplaaDoor.C
open Go.RowKit Go.Proofs.YtmndeoncbocplaaDoor.Q Go.Proofs.YtmndeoncbocplaaDoorW.PrintWords Go.Proofs.YtmndeoncbocplaaDoorW.PrintLast Go.Proofs.YtmndeoncbocplaaDoorW.PrintMore
attribute [local go_sem ↓] rd_at50 wr_at50 al_at50
attribute [local go_sem] rd50_new wr50_new al50
/-- A node taken away. -/
def dropP (l : List S50) (p : ByteArray) : List S50 := if isN l p then l.take (atN l p) ++ l.drop (atN l p + 1) else l
set_option maxHeartbeats 4000000 in
set_option maxRecDepth 100000 in
theorem tdrop_c (l : List S50) (p : ByteArray) (A : Option Addr) (c : Nat) (w : World) (hC : Kd.C k50 w A l.length l) (hc : l.length ≤ c) (hn : l.length < 100000) (hR : RisingN l p) (hF : ∀ m ∈ l, Fits m) :
    Calls Tryd.prog 58 #[.slice A l.length c, .string p] w fun e w' => ∃ A' c', e = .returned (.slice A' (dropP l p).length c') ∧ (dropP l p).length ≤ c' ∧ Kd.C k50 w' A' (dropP l p).length (dropP l p) ∧ Below w.heap.size w w' := by
  have HTW := Lib.hid fun w1 (hb : Below w.heap.size w w1) => twins_c l A c w1 (Kd.C_below hC hb) hc (by omega) hF
  have HPL := Lib.hid fun (g : Nat) (w1 : World) (h : Kd.C k50 w1 (some ⟨g, 0, none⟩) l.length l) => placeN l p (some ⟨g, 0, none⟩) l.length w1 h (Nat.le_refl _) (by omega) hR
  have HLT := Lib.hid (fun h => isN_lt h : isN l p = true → atN l p < l.length)
  have HP := Lib.hid (show dropP l p = if isN l p then l.take (atN l p) ++ l.drop (atN l p + 1) else l from rfl)
  clear hC hR hF
  generalize dropP l p = res at HP ⊢
  generalize atN l p = i at HPL HLT HP
  generalize isN l p = b at HPL HLT HP
  go_enter Tryd.func58, Tryd.ntmps58
  cases b with
  | true =>
    have hi := HLT.out rfl
    have hp := HP.out
    rw [if_pos rfl] at hp
    have hlen : res.length = l.length - 1 := by rw [hp, List.length_append, List.length_take, List.length_drop]; omega
    have HP2 := Lib.hid hp
    clear hp
    go_wp2_with (first | (go_at_call 85; go_loud (refine (HTW.out _ (Below.refl _ _)).mono ?_; rintro e w1 ⟨g, cur, rfl, hg, hcl, hN, hb⟩; have HN1 := Lib.hid hN; have HB1 := Lib.hid hb; have HG1 := Lib.hid hg; clear hb hN hg)) | (go_at_call 83; go_loud (refine (HPL.out g _ (nrow_C HN1.out (by omega))).mono ?_; rintro e w2 ⟨rfl, hb⟩; have HN2 := Lib.hid (nrow_below HN1.out hb); have HB2 := Lib.hid (below_step HB1.out hb); clear hb)) | (go_at_call 87; go_loud (refine (delete_c l g i cur _ HN2.out hcl (by omega) hi).mono ?_; rintro e w3 ⟨cs3, rfl, hN, hb⟩; have HN3 := Lib.hid hN; have HB3 := Lib.hid (below_join HB2.out (hb w.heap.size HG1.out) (Nat.le_refl _)); clear hb hN)))
    have hn3 := nrow_C HN3.out (by rw [← HP2.out, hlen]; omega)
    rw [← HP2.out] at hn3
    go_ret
    exact ⟨some ⟨g, 0, none⟩, l.length, by rw [hlen]; rfl, by rw [hlen]; omega, hn3, HB3.out⟩
  | false =>
    have hp := HP.out
    rw [if_neg (by simp)] at hp
    subst hp
    go_wp2_with (first | (go_at_call 85; go_loud (refine (HTW.out _ (Below.refl _ _)).mono ?_; rintro e w1 ⟨g, cur, rfl, hg, hcl, hN, hb⟩; have HN1 := Lib.hid hN; have HB1 := Lib.hid hb; clear hb hN hg)) | (go_at_call 83; go_loud (refine (HPL.out g _ (nrow_C HN1.out (by omega))).mono ?_; rintro e w2 ⟨rfl, hb⟩; have HN2 := Lib.hid (nrow_below HN1.out hb); have HB2 := Lib.hid (below_step HB1.out hb); clear hb)))
    go_ret
    exact ⟨some ⟨g, 0, none⟩, _, rfl, Nat.le_refl _, nrow_C HN2.out (by omega), HB2.out⟩
end Go.Proofs.YtmndeoncbocplaaDoor.C
end
section
set_option linter.unusedVariables false
set_option linter.unusedSimpArgs false
namespace Go.Proofs.YtmndeoncbocplaaDoor.C
open Go.RowKit Go.Proofs.YtmndeoncbocplaaDoor.Q Go.Proofs.YtmndeoncbocplaaDoorW.PrintWords Go.Proofs.YtmndeoncbocplaaDoorW.PrintLast Go.Proofs.YtmndeoncbocplaaDoorW.PrintMore
attribute [local go_sem ↓] rd_at50 wr_at50 al_at50
attribute [local go_sem] rd50_new wr50_new al50
theorem c16_below {W W1 : World} (hb : Below W.heap.size W W1) {b : Addr} {n : S50} {A6 A11 : Option Addr} {c6 c11 : Nat} (h : W.cell? b = some (.string n.f0) ∧ W.cell? ⟨(b).block, (b).off + 1, none⟩ = some (.bool n.f1) ∧ W.cell? ⟨(b).block, (b).off + 2, none⟩ = some (.int .i64 n.f2.f0) ∧ W.cell? ⟨(b).block, (b).off + 3, none⟩ = some (.int .i64 n.f2.f1) ∧ W.cell? ⟨(b).block, (b).off + 4, none⟩ = some (.int .i64 n.f2.f2) ∧ W.cell? ⟨(b).block, (b).off + 5, none⟩ = some (.int .i64 n.f2.f3) ∧ W.cell? ⟨(b).block, (b).off + 6, none⟩ = some (.slice A6 n.f3.length c6) ∧ W.cell? ⟨(b).block, (b).off + 7, none⟩ = some (.int .i64 n.f4.f0) ∧ W.cell? ⟨(b).block, (b).off + 8, none⟩ = some (.int .i64 n.f4.f1) ∧ W.cell? ⟨(b).block, (b).off + 9, none⟩ = some (.int .i64 n.f4.f2) ∧ W.cell? ⟨(b).block, (b).off + 10, none⟩ = some (.int .i64 n.f4.f3) ∧ W.cell? ⟨(b).block, (b).off + 11, none⟩ = some (.slice A11 n.f5.length c11) ∧ W.cell? ⟨(b).block, (b).off + 12, none⟩ = some (.int .i64 n.f6.f0) ∧ W.cell? ⟨(b).block, (b).off + 13, none⟩ = some (.int .i64 n.f6.f1) ∧ W.cell? ⟨(b).block, (b).off + 14, none⟩ = some (.int .i64 n.f6.f2) ∧ W.cell? ⟨(b).block, (b).off + 15, none⟩ = some (.int .i64 n.f6.f3)) : W1.cell? b = some (.string n.f0) ∧ W1.cell? ⟨(b).block, (b).off + 1, none⟩ = some (.bool n.f1) ∧ W1.cell? ⟨(b).block, (b).off + 2, none⟩ = some (.int .i64 n.f2.f0) ∧ W1.cell? ⟨(b).block, (b).off + 3, none⟩ = some (.int .i64 n.f2.f1) ∧ W1.cell? ⟨(b).block, (b).off + 4, none⟩ = some (.int .i64 n.f2.f2) ∧ W1.cell? ⟨(b).block, (b).off + 5, none⟩ = some (.int .i64 n.f2.f3) ∧ W1.cell? ⟨(b).block, (b).off + 6, none⟩ = some (.slice A6 n.f3.length c6) ∧ W1.cell? ⟨(b).block, (b).off + 7, none⟩ = some (.int .i64 n.f4.f0) ∧ W1.cell? ⟨(b).block, (b).off + 8, none⟩ = some (.int .i64 n.f4.f1) ∧ W1.cell? ⟨(b).block, (b).off + 9, none⟩ = some (.int .i64 n.f4.f2) ∧ W1.cell? ⟨(b).block, (b).off + 10, none⟩ = some (.int .i64 n.f4.f3) ∧ W1.cell? ⟨(b).block, (b).off + 11, none⟩ = some (.slice A11 n.f5.length c11) ∧ W1.cell? ⟨(b).block, (b).off + 12, none⟩ = some (.int .i64 n.f6.f0) ∧ W1.cell? ⟨(b).block, (b).off + 13, none⟩ = some (.int .i64 n.f6.f1) ∧ W1.cell? ⟨(b).block, (b).off + 14, none⟩ = some (.int .i64 n.f6.f2) ∧ W1.cell? ⟨(b).block, (b).off + 15, none⟩ = some (.int .i64 n.f6.f3) := by
  obtain ⟨h0, h1, h2, h3, h4, h5, h6, h7, h8, h9, h10, h11, h12, h13, h14, h15⟩ := h
  exact ⟨pw_cell_below hb h0, pw_cell_below hb h1, pw_cell_below hb h2, pw_cell_below hb h3, pw_cell_below hb h4, pw_cell_below hb h5, pw_cell_below hb h6, pw_cell_below hb h7, pw_cell_below hb h8, pw_cell_below hb h9, pw_cell_below hb h10, pw_cell_below hb h11, pw_cell_below hb h12, pw_cell_below hb h13, pw_cell_below hb h14, pw_cell_below hb h15⟩
set_option maxHeartbeats 4000000 in
set_option maxRecDepth 1000000 in
theorem rs6 (ad bd : Addr) (n c d i : Nat) (ca cb : List Value) (u2 u3 u4 u6 u7 u8 u9 u10 u11 u12 u13 u14 u15 u16 u17 u18 u19 u20 u21 u22 u23 u24 u25 u26 : Value) (W : World) (Q : Exit → Act → World → Prop)
    (hi : i < n) (hra : ∀ W1, Below W.heap.size W W1 → (rdS 50 (.pointer (some (ad.add (i * 16))))).run Tryd.prog W1 = .ok (.agg ca.toArray) W1) (hrb : ∀ W1, Below W.heap.size W W1 → (rdS 50 (.pointer (some (bd.add (i * 16))))).run Tryd.prog W1 = .ok (.agg cb.toArray) W1)
    (hs : ∀ w1, Below W.heap.size W w1 → Calls Tryd.prog 42 #[.agg ca.toArray, .agg cb.toArray] w1 fun e w' => e = .returned (.bool true) ∧ Below w1.heap.size w1 w')
    (hpost : ∀ (w' : World) (t17 t18 t19 t20 t21 t22 t23 t24 t25 : Value), Below W.heap.size W w' → Q .normal ⟨#[.slice (some ad) n c, .slice (some bd) n d, u2, u3, u4, .int .i64 (i : Int), u6, u7, u8, u9, u10, u11, u12, u13, u14, u15, u16, t17, t18, t19, t20, t21, t22, t23, t24, t25, .bool false], []⟩ w') :
    Code.wp Tryd.prog (cReg Tryd.f57 6) Q ⟨#[.slice (some ad) n c, .slice (some bd) n d, u2, u3, u4, .int .i64 (i : Int), u6, u7, u8, u9, u10, u11, u12, u13, u14, u15, u16, u17, u18, u19, u20, u21, u22, u23, u24, u25, u26], []⟩ W := by
  have HRA := Lib.hid hra
  have HRB := Lib.hid hrb
  have HS := Lib.hid hs
  have HPO := Lib.hid hpost
  clear hra hrb hs hpost
  have HB := Lib.hid (below_drew1 (Below.refl W.heap.size W))
  conv => arg 2; whnf
  refine wp_region_noPanic ?_
  refine wp_region_held_drew (S := fun W1 => (rdS 50 (.pointer (some (ad.add (i * 16))))).run Tryd.prog W1 = .ok (.agg ca.toArray) W1 ∧ (rdS 50 (.pointer (some (bd.add (i * 16))))).run Tryd.prog W1 = .ok (.agg cb.toArray) W1) (by kernel_rfl) ?_ (fun hHeld => ?_)
  focus ((try dsimp only); exact ⟨HRA.out _ HB.out, HRB.out _ HB.out⟩)
  first
    | (refine take_at 0 17 (v := ?_) rfl rfl (by kernel_rfl) (by kernel_rfl) (by kernel_rfl) (fun _ _ _ h => h) (Or.inl ⟨by rfl, ?_⟩) (by assumption) ?_; rotate_left; focus (intro w hSw; (try dsimp only at hSw); go_simp; try with_reducible rfl))
    | (refine take_at 0 17 (v := undef) rfl rfl (by kernel_rfl) (by kernel_rfl) (by kernel_rfl) (fun _ _ _ h => h) (Or.inr ⟨by rfl, rfl⟩) (by assumption) ?_)
  try simp only [Act.put, List.setIfInBounds_toArray, List.set_cons_zero, List.set_cons_succ]
  first
    | (refine take_at 1 18 (v := ?_) rfl rfl (by kernel_rfl) (by kernel_rfl) (by kernel_rfl) (fun _ _ _ h => h) (Or.inl ⟨by rfl, ?_⟩) (by assumption) ?_; rotate_left; focus (intro w hSw; (try dsimp only at hSw); go_simp; try with_reducible rfl))
    | (refine take_at 1 18 (v := undef) rfl rfl (by kernel_rfl) (by kernel_rfl) (by kernel_rfl) (fun _ _ _ h => h) (Or.inr ⟨by rfl, rfl⟩) (by assumption) ?_)
  try simp only [Act.put, List.setIfInBounds_toArray, List.set_cons_zero, List.set_cons_succ]
  first
    | (refine take_at 2 19 (v := ?_) rfl rfl (by kernel_rfl) (by kernel_rfl) (by kernel_rfl) (fun _ _ _ h => h) (Or.inl ⟨by rfl, ?_⟩) (by assumption) ?_; rotate_left; focus (intro w hSw; (try dsimp only at hSw); go_simp; try with_reducible rfl))
    | (refine take_at 2 19 (v := undef) rfl rfl (by kernel_rfl) (by kernel_rfl) (by kernel_rfl) (fun _ _ _ h => h) (Or.inr ⟨by rfl, rfl⟩) (by assumption) ?_)
  try simp only [Act.put, List.setIfInBounds_toArray, List.set_cons_zero, List.set_cons_succ]
  first
    | (refine take_at 3 20 (v := ?_) rfl rfl (by kernel_rfl) (by kernel_rfl) (by kernel_rfl) (fun _ _ _ h => h) (Or.inl ⟨by rfl, ?_⟩) (by assumption) ?_; rotate_left; focus (intro w hSw; (try dsimp only at hSw); go_simp; try with_reducible rfl))
    | (refine take_at 3 20 (v := undef) rfl rfl (by kernel_rfl) (by kernel_rfl) (by kernel_rfl) (fun _ _ _ h => h) (Or.inr ⟨by rfl, rfl⟩) (by assumption) ?_)
  try simp only [Act.put, List.setIfInBounds_toArray, List.set_cons_zero, List.set_cons_succ]
  first
    | (refine take_at 4 21 (v := ?_) rfl rfl (by kernel_rfl) (by kernel_rfl) (by kernel_rfl) (fun _ _ _ h => h) (Or.inl ⟨by rfl, ?_⟩) (by assumption) ?_; rotate_left; focus (intro w hSw; (try dsimp only at hSw); go_simp; try with_reducible rfl))
    | (refine take_at 4 21 (v := undef) rfl rfl (by kernel_rfl) (by kernel_rfl) (by kernel_rfl) (fun _ _ _ h => h) (Or.inr ⟨by rfl, rfl⟩) (by assumption) ?_)
  try simp only [Act.put, List.setIfInBounds_toArray, List.set_cons_zero, List.set_cons_succ]
  first
    | (refine take_at 5 22 (v := ?_) rfl rfl (by kernel_rfl) (by kernel_rfl) (by kernel_rfl) (fun _ _ _ h => h) (Or.inl ⟨by rfl, ?_⟩) (by assumption) ?_; rotate_left; focus (intro w hSw; (try dsimp only at hSw); go_simp; try with_reducible rfl))
    | (refine take_at 5 22 (v := undef) rfl rfl (by kernel_rfl) (by kernel_rfl) (by kernel_rfl) (fun _ _ _ h => h) (Or.inr ⟨by rfl, rfl⟩) (by assumption) ?_)
  try simp only [Act.put, List.setIfInBounds_toArray, List.set_cons_zero, List.set_cons_succ]
  first
    | (refine take_at 6 23 (v := ?_) rfl rfl (by kernel_rfl) (by kernel_rfl) (by kernel_rfl) (fun _ _ _ h => h) (Or.inl ⟨by rfl, ?_⟩) (by assumption) ?_; rotate_left; focus (intro w hSw; (try dsimp only at hSw); go_simp; try with_reducible rfl))
    | (refine take_at 6 23 (v := undef) rfl rfl (by kernel_rfl) (by kernel_rfl) (by kernel_rfl) (fun _ _ _ h => h) (Or.inr ⟨by rfl, rfl⟩) (by assumption) ?_)
  try simp only [Act.put, List.setIfInBounds_toArray, List.set_cons_zero, List.set_cons_succ]
  first
    | (refine take_at 7 24 (v := ?_) rfl rfl (by kernel_rfl) (by kernel_rfl) (by kernel_rfl) (fun _ _ _ h => h) (Or.inl ⟨by rfl, ?_⟩) (by assumption) ?_; rotate_left; focus (intro w hSw; (try dsimp only at hSw); go_simp; try with_reducible rfl))
    | (refine take_at 7 24 (v := undef) rfl rfl (by kernel_rfl) (by kernel_rfl) (by kernel_rfl) (fun _ _ _ h => h) (Or.inr ⟨by rfl, rfl⟩) (by assumption) ?_)
  try simp only [Act.put, List.setIfInBounds_toArray, List.set_cons_zero, List.set_cons_succ]
  refine wpAnyH_ready (rs := [8]) (by kernel_rfl) (by simp) ?_
  refine AllReadyH.cons rfl (fun K hK => ?_) AllReadyH.nil
  go_simp
  go_wp2_with ((go_at_call 42; (refine (HS.out _ HB.out).mono ?_; rintro e w5 ⟨rfl, hb⟩; have HB := Lib.hid (below_step HB.out hb); clear hb)))
  refine hK.out _ _ ?_ (fun hHeld => ?_)
  focus ((try dsimp only); exact ⟨HRA.out _ HB.out, HRB.out _ HB.out⟩)
  clear hK K
  first
    | (refine take_at 9 26 (v := ?_) rfl rfl (by kernel_rfl) (by kernel_rfl) (by kernel_rfl) (fun _ _ _ h => h) (Or.inl ⟨by rfl, ?_⟩) (by assumption) ?_; rotate_left; focus (intro w hSw; (try dsimp only at hSw); go_simp; try with_reducible rfl))
    | (refine take_at 9 26 (v := undef) rfl rfl (by kernel_rfl) (by kernel_rfl) (by kernel_rfl) (fun _ _ _ h => h) (Or.inr ⟨by rfl, rfl⟩) (by assumption) ?_)
  try simp only [Act.put, List.setIfInBounds_toArray, List.set_cons_zero, List.set_cons_succ]
  refine wpAnyH_done (by kernel_rfl) ?_ _
  refine NoPanic.normal ?_
  exact HPO.out _ _ _ _ _ _ _ _ _ _ HB.out
set_option maxHeartbeats 4000000 in
set_option maxRecDepth 100000 in
theorem same57_c (l : List S50) (A B : Option Addr) (c d : Nat) (w : World) (hA : Kd.C k50 w A l.length l) (hB : Kd.C k50 w B l.length l) :
    Calls Tryd.prog 57 #[.slice A l.length c, .slice B l.length d] w fun e w' => e = .returned (.bool true) ∧ Below w.heap.size w w' := by
  have HA := Lib.hid hA
  have HBB := Lib.hid hB
  have hln := hA.2.1
  clear hA hB
  go_enter Tryd.func57, Tryd.ntmps57
  go_wp2
  go_loopg [5] l.length (fun k s5 wr => ∃ i : Nat, i ≤ l.length ∧ l.length - i ≤ k ∧ s5 = .int .i64 i ∧ Hid (Below w.heap.size w wr))
  case atStart => exact ⟨0, Nat.zero_le _, Nat.le_refl _, rfl, Lib.hid (Below.refl _ _)⟩
  case round =>
    obtain ⟨i, hi, hik, rfl, HV⟩ := hrel
    obtain ⟨W0, hW⟩ : ∃ W, W = wr := ⟨_, rfl⟩
    subst hW
    by_cases hlt : i < l.length
    · obtain ⟨ad, A6, c6, A11, c11, hA, hcs, HK⟩ := at50 HA.out HV.out i hlt
      obtain ⟨bd, B6, e6, B11, e11, hB, hds, HL⟩ := at50 HBB.out HV.out i hlt
      subst hA hB
      go_wp2
      refine rs6 ad bd l.length c d i _ _ _ _ _ _ _ _ _ _ _ _ _ _ _ _ _ _ _ _ _ _ _ _ _ _ W0 _ hlt (fun W1 hb => rd50_of (loadC50 (P := Tryd.prog) (c16_below hb hcs))) (fun W1 hb => rd50_of (loadC50 (P := Tryd.prog) (c16_below hb hds))) (fun w1 hb => same_t _ _ _ w1 (k50.K_below (below_step HV.out hb) HK.out) (k50.K_below (below_step HV.out hb) HL.out)) ?_
      intro w5 t17 t18 t19 t20 t21 t22 t23 t24 t25 hb
      have HV5 := Lib.hid (below_step HV.out hb)
      clear hb hcs hds
      go_wp2
      go_roundg (l.length - (i + 1))
      case measure => omega
      case rel => exact ⟨i + 1, hlt, Nat.le_refl _, by go_num, HV5⟩
    · obtain rfl : i = l.length := by omega
      go_wp2
      go_ret
      exact ⟨rfl, HV.out⟩
/-- append(empty, l...): a row of its own. -/
theorem app50 (l : List S50) (A : Option Addr) (c : Nat) (w W : World) (hC : Kd.C k50 w A l.length l) (hb : Below w.heap.size w W) (hn : l.length < 100000) : ∃ v' w', ((Builtin.append_ #[42, 42] 42 #[.slice (some ⟨W.heap.size, 0, none⟩) 0 0, .slice A l.length c]).run Tryd.prog (W.alloc (.cells #[] 50)) = .ok v' w') ∧ (∃ A' c', v' = .slice A' l.length c' ∧ l.length ≤ c' ∧ Kd.C k50 w' A' l.length l) ∧ Below W.heap.size W w' := by
  obtain ⟨i0, hi0, hz0, hzs, hzb⟩ := info50
  have hown : (W.alloc (.cells #[] 50)).ownsRow W.heap.size 50 16 (.slice (some ⟨W.heap.size, 0, none⟩) 0 0) 0 [] := World.ownsRow_made W #[] 0 (Nat.le_refl _) (Nat.zero_le _) rfl
  have hBA := below_alloc hb (.cells #[] 50)
  obtain ⟨ad, inner, hr, hcell⟩ : ∃ ad : Addr, ∃ inner, Reps (k50.K w) 16 l inner ∧ (0 < l.length → A = some ad) ∧ ∀ j u, inner[j]? = some u → (W.alloc (.cells #[] 50)).cell? (ad.add j) = some u := by
    by_cases h0 : l.length = 0
    · refine ⟨⟨0, 0, none⟩, [], ?_, fun h => by omega, fun j u hu => by simp at hu⟩
      rw [List.eq_nil_of_length_eq_zero h0]
      exact Reps.none _ _
    · obtain ⟨ad, hA, _⟩ := hC.2.2 (by omega)
      subst hA
      obtain ⟨inner, hr, hcell⟩ := ReadsRow.inner_ hC
      exact ⟨ad, inner, hr, fun _ => rfl, fun j u hu => pw_cell_below hBA (hcell j u hu)⟩
  obtain ⟨hA, hcell⟩ := hcell
  have hil : inner.length = l.length * 16 := hr.1
  by_cases h0 : l.length = 0
  · have hl0 := List.eq_nil_of_length_eq_zero h0
    subst hl0
    refine ⟨.slice (some ⟨W.heap.size, 0, none⟩) 0 0, W.alloc (.cells #[] 50), ?_, ⟨some ⟨W.heap.size, 0, none⟩, 0, rfl, Nat.le_refl _, C_nil k50 _ _⟩, below_alloc (Below.refl _ _) _⟩
    cases A <;> simp [Builtin.append_, run_underlying Tryd.underlying42, sizeOf, typeInfo, hi0, Builtin.lenOf, Builtin.firstCells, storeCells, loadCells, loadCellsFrom]
  · have hA' := hA (by omega)
    subst hA'
    obtain ⟨v', w', hrun, hown', hg, _⟩ := run_append_own (P := Tryd.prog) (W.alloc (.cells #[] 50)) W.heap.size 42 42 50 i0 (.agg zero50) 16 168 Tryd.underlying42 hi0 hz0 hzs hzb rfl (by decide) _ 0 [] hown ad l.length c inner hil hcell (Reps_one hr) (by unfold maxLen; omega) (by omega) (by simp)
    rw [Nat.zero_add, List.nil_append] at hown'
    have hb' : Below W.heap.size W w' := ⟨hg.os, hg.tape, hg.output, Nat.le_trans (by simp) hg.size, fun k hk => (hg.block k (by simp; omega) (by intro e; have e1 : k = W.heap.size := Option.some.inj e; omega)).trans ((below_alloc (Below.refl W.heap.size W) (.cells #[] 50)).block k hk)⟩
    obtain ⟨A', c', rfl, hc', hR⟩ := OwnRow.reads (show OwnRow (k50.K w) 50 16 w' W.heap.size v' l from ⟨inner, hown', hr⟩)
    exact ⟨_, w', hrun, ⟨A', c', rfl, hc', C50_of hR (below_join hb hb' (below_size hb))⟩, hb'⟩
end Go.Proofs.YtmndeoncbocplaaDoor.C
end
