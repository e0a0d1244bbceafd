/- Texts that the claim's law stands on, cut down to what it reaches. -/
import Derived.Test.YtmndeoncbocplaaDoorJD
import Derived.Laws.CopyOwn
import Derived.Laws.MakeOwn
import Derived.Lib.AppendZerosOnto
import Derived.Lib.AppendZeros
import Derived.Shelf.Spec.SlicesInsert
import Derived.Test.YtmndeoncbocplaaDoorJS
import Derived.Deep.LoopGhost
import Derived.Laws.NewBlocks
import Derived.Deep.RegionHeldLaw
import Derived.Deep.RegionHeld3
set_option linter.unusedVariables false
set_option linter.unusedSimpArgs false
section
set_option linter.unusedVariables false
set_option linter.unusedSimpArgs false
namespace Go.Proofs.YtmndeoncbocplaaDoor.C
open Go.RowKit Go.Proofs.YtmndeoncbocplaaDoor.Q Go.Proofs.YtmndeoncbocplaaDoorW.PrintWords Go.Proofs.YtmndeoncbocplaaDoorW.PrintLast Go.Proofs.YtmndeoncbocplaaDoorW.PrintMore
/-- The zero node's cells. -/
def zero50 : Array Value := #[.string (⟨#[]⟩ : ByteArray), .bool false, .int .i64 0, .int .i64 0, .int .i64 0, .int .i64 0, .slice none 0 0, .int .i64 0, .int .i64 0, .int .i64 0, .int .i64 0, .slice none 0 0, .int .i64 0, .int .i64 0, .int .i64 0, .int .i64 0]
theorem info50 : ∃ i, Tryd.prog.info? 50 = some i ∧ i.zero = some (.agg zero50) ∧ i.size = 16 ∧ i.bytes = 168 := by
  have h := inf50
  cases hq : Tryd.prog.info? 50 with
  | none => rw [hq] at h; cases h
  | some i =>
    rw [hq] at h
    simp only [Option.map_some, Option.some.injEq, Prod.mk.injEq] at h
    exact ⟨i, rfl, h.1, h.2.1, h.2.2⟩
theorem wr50_in {W : World} {g o : Nat} {cur : List Value} {cs : Array Value} {ty : TypeId} (hg : W.heap[g]? = some (.cells cur.toArray ty (0, 0))) (ho : o + 16 ≤ cur.length) (hi : cs.size = 16) (h1 : cs.all (·.oneCell') = true) : (wrS 50 (.pointer (some ⟨g, o, none⟩)) (.agg cs)).run Tryd.prog W = .ok () (W.setRow g (splice cur o cs.toList).toArray) := by
  have hs := run_storeCells_at Tryd.prog g o ty cs.toList 0 cur.toArray W hg (by simp [hi]; omega) (fun v hv => (Array.all_eq_true_iff_forall_mem.1 h1) v (by simpa using hv))
  obtain ⟨i, hq, hz, hsz, _⟩ := info50
  rw [← wr_at]
  simp only [Instr.storeAt, Instr.sureAddr, Sem.run_bind, Sem.run_pure, Result.andThen]
  have hs2 : cs.size = i.size := by omega
  simp only [Nat.add_zero] at hs
  simp [storeVar, sizeOf, typeInfo, hq, Value.cells, hs2, hs, splice, hi]
/-- A block g that holds nodes, each of which leads elsewhere than into it. -/
def NRow (W : World) (g : Nat) (l : List S50) (cur : List Value) : Prop :=
  W.heap[g]? = some (.cells cur.toArray 50 (0, 0)) ∧ l.length * 16 ≤ cur.length ∧ ∀ (j : Nat) (x : S50), l[j]? = some x → k50.FK W (fun k => k ≠ g) x ((cur.drop (j * 16)).take 16)
theorem fk_len {W : World} {ok : Nat → Prop} {x : S50} {cs : List Value} (h : k50.FK W ok x cs) : cs.length = 16 := by
  obtain ⟨A6, c6, A11, c11, rfl, _⟩ := k50_open (Kd.FK_now h)
  rfl
theorem nrow_C {W : World} {g : Nat} {l : List S50} {cur : List Value} (h : NRow W g l cur) (hn : l.length < 1000000) : Kd.C k50 W (some ⟨g, 0, none⟩) l.length l := by
  obtain ⟨h1, h2, h3⟩ := h
  refine ⟨rfl, by omega, fun _ => ⟨_, rfl, fun j q hj => ?_⟩⟩
  have hk := h3 j q hj
  have hlt := (List.getElem?_eq_some_iff.1 hj).1
  refine ⟨(cur.drop (j * 16)).take 16, fk_len hk, Kd.FK_now hk, fun i u hu => ?_⟩
  rw [List.getElem?_take] at hu
  split at hu
  · rename_i hi
    rw [List.getElem?_drop] at hu
    show W.cell? ((⟨g, 0, none⟩ : Addr).add (j * 16 + i)) = some u
    have ha : (⟨g, 0, none⟩ : Addr).add (j * 16 + i) = ⟨g, j * 16 + i, none⟩ := by unfold Addr.add; split <;> simp_all
    rw [ha]
    simp only [World.cell?, h1, Option.isSome_none, Bool.false_eq_true, if_false]
    rw [← Array.getElem?_toList]
    exact hu
  · cases hu
theorem splice_in {α : Type} (L cs : List α) (o : Nat) (h : o + cs.length ≤ L.length) : ((splice L o cs).drop o).take cs.length = cs := by
  unfold splice
  have e : (L.take o).length = o := by rw [List.length_take]; omega
  rw [List.drop_append_of_le_length (by omega), List.drop_of_length_le (by omega), List.nil_append]
  simp
theorem splice_ahead {α : Type} (L cs : List α) (o a n : Nat) (h : a + n ≤ o) (ho : o + cs.length ≤ L.length) : ((splice L o cs).drop a).take n = (L.drop a).take n := by
  apply List.ext_getElem?
  intro j
  by_cases hj : j < n
  · rw [List.getElem?_take_of_lt hj, List.getElem?_take_of_lt hj, List.getElem?_drop, List.getElem?_drop]
    unfold splice
    rw [List.getElem?_append_left (by rw [List.length_take]; omega), List.getElem?_take_of_lt (by omega)]
  · rw [List.getElem?_take_eq_none (by omega), List.getElem?_take_eq_none (by omega)]
theorem splice_behind {α : Type} (L cs : List α) (o a n : Nat) (h : o + cs.length ≤ a) (ho : o + cs.length ≤ L.length) : ((splice L o cs).drop a).take n = (L.drop a).take n := by
  have e : (splice L o cs).drop a = L.drop a := by
    unfold splice
    have e0 : (L.take o).length = o := by rw [List.length_take]; omega
    rw [List.drop_append, e0, List.drop_of_length_le (by omega), List.nil_append, List.drop_append, List.drop_of_length_le (by omega), List.nil_append, List.drop_drop]
    congr 1
    omega
  rw [e]
/-- A node stored into a place of the row. -/
theorem nrow_set {W : World} {g i : Nat} {l : List S50} {cur : List Value} {x : S50} {cs : List Value} (h : NRow W g l cur) (hi : i < l.length) (hx : k50.FK W (fun k => k ≠ g) x cs) : NRow (W.setRow g (splice cur (i * 16) cs).toArray) g (l.set i x) (splice cur (i * 16) cs) := by
  obtain ⟨h1, h2, h3⟩ := h
  have hl := fk_len hx
  have hm : ∀ {y : S50} {c : List Value}, k50.FK W (fun k => k ≠ g) y c → k50.FK (W.setRow g (splice cur (i * 16) cs).toArray) (fun k => k ≠ g) y c := fun hy => hy.step fun k hk _ => setRow_other W g k _ hk
  have hfit : i * 16 + cs.length ≤ cur.length := by omega
  refine ⟨setRow_heap _ _ _ _ _ _ h1, by rw [List.length_set, length_splice _ _ _ hfit]; exact h2, fun j y hj => ?_⟩
  rw [List.getElem?_set] at hj
  split at hj
  · rename_i hij
    subst hij
    obtain rfl := Option.some.inj hj
    have := splice_in cur cs (i * 16) hfit
    rw [hl] at this
    rw [this]
    exact hm hx
  · rename_i hij
    have hy := hm (h3 j y hj)
    rcases Nat.lt_or_gt_of_ne hij with hlt | hgt
    · rw [splice_behind cur cs (i * 16) (j * 16) 16 (by omega) hfit]; exact hy
    · rw [splice_ahead cur cs (i * 16) (j * 16) 16 (by omega) hfit]; exact hy
end Go.Proofs.YtmndeoncbocplaaDoor.C
end
section
set_option linter.unusedVariables false
set_option linter.unusedSimpArgs false
namespace Go.Proofs.YtmndeoncbocplaaDoor.C
open Go.RowKit Go.Proofs.YtmndeoncbocplaaDoor.Q Go.Proofs.YtmndeoncbocplaaDoorW.PrintWords Go.Proofs.YtmndeoncbocplaaDoorW.PrintLast Go.Proofs.YtmndeoncbocplaaDoorW.PrintMore
attribute [local go_sem ↓] rd_at50 wr_at50 al_at50
attribute [local go_sem] rd50_new wr50_new al50
theorem step_append_runI {P : Program} {w : World} {ops : Array Oper} {o : Oper} {a : Act} {K : Act → World → Prop} {Q : Exit → Act → World → Prop} {E : Prop}
    (hg : o.guard = none) (d x : Operand) (dT sT : TypeId) (hop : o.op = Op.call { callee := Callee.builtin Builtin.append, args := #[d, x], argTypes := #[dT, sT] })
    (v u : Value) (hd : a.eval d = v) (hx : a.eval x = u) {v' : Value} {w' : World} (hr : (Builtin.append_ #[dT, sT] o.type #[v, u]).run P w = .ok v' w') (hK : K (a.put o.dst v') w') :
    if Region.wanted o (yielded ops a.tmps) = true then Oper.wp P o a w K Q else E := by
  have hw : Region.wanted o (yielded ops a.tmps) = true := by simp [Region.wanted, hg]
  rw [if_pos hw]
  unfold Oper.wp
  simp [execOp, hop, resolve, invoke, builtin, hd, hx, hr, Result.andThen]
  exact hK
end Go.Proofs.YtmndeoncbocplaaDoor.C
end
