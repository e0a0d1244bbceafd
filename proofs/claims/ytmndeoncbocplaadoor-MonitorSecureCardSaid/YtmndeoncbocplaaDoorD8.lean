/- A tree read anew behind a store; regions by number, boxes of labels, steps of a region's walk. -/
import Derived.Test.YtmndeoncbocplaaDoorD2
import Derived.Test.YtmndeoncbocplaaDoorD5
import Derived.Test.YtmndeoncbocplaaDoorD6
import Derived.Deep.RegionHeldLaw
import Derived.Deep.RegionHeld3
set_option linter.unusedVariables false
set_option linter.unusedSimpArgs false
/-! CTurn -/
namespace Go.Proofs.YtmndeoncbocplaaDoor.C
open Go.RowKit Go.Proofs.YtmndeoncbocplaaDoor.Q Go.Proofs.YtmndeoncbocplaaDoorW.PrintWords Go.Proofs.YtmndeoncbocplaaDoorW.PrintLast Go.Proofs.YtmndeoncbocplaaDoorW.PrintMore
theorem add_block (a : Addr) (n : Nat) : (a.add n).block = a.block := by unfold Addr.add; split <;> rfl
theorem add_off (a : Addr) (n : Nat) : (a.add n).off = a.off + n := by
  unfold Addr.add
  split
  · rename_i h; subst h; rfl
  · rfl
/-- What a block of numbers may hold. -/
def Nums (w : World) (g : Nat) (q : Nat → Int) : Prop := w.heap[g]? = some (.cells #[.int .i64 (q 0), .int .i64 (q 1), .int .i64 (q 2), .int .i64 (q 3)] 41 (0, 0))
theorem nums_cell {w : World} {g : Nat} {q : Nat → Int} (h : Nums w g q) {a : Addr} (ha : a.block = g) {v : Value} (hv : w.cell? a = some v) : a.spot = none ∧ a.off < 4 ∧ v = .int .i64 (q a.off) := by
  unfold Nums at h
  subst ha
  unfold World.cell? at hv
  rw [h] at hv
  simp only at hv
  split at hv
  · cases hv
  · rename_i hs
    have hs' : a.spot = none := by cases hsp : a.spot with
      | none => rfl
      | some x => rw [hsp] at hs; simp at hs
    refine ⟨hs', ?_⟩
    generalize a.off = o at hv ⊢
    rcases o with _ | _ | _ | _ | o
    · exact ⟨by omega, by simpa using hv.symm⟩
    · exact ⟨by omega, by simpa using hv.symm⟩
    · exact ⟨by omega, by simpa using hv.symm⟩
    · exact ⟨by omega, by simpa using hv.symm⟩
    · simp at hv
theorem nums_put {w : World} {g : Nat} {q r : Nat → Int} (h : Nums w g q) : Nums (w.setRow g #[.int .i64 (r 0), .int .i64 (r 1), .int .i64 (r 2), .int .i64 (r 3)]) g r := setRow_heap _ _ _ _ _ _ h
theorem nums_read {w : World} {g : Nat} {q : Nat → Int} (h : Nums w g q) {a : Addr} (ha : a.block = g) (hs : a.spot = none) (ho : a.off < 4) : w.cell? a = some (.int .i64 (q a.off)) := by
  unfold Nums at h
  subst ha
  unfold World.cell?
  rw [h]
  simp only [hs, Option.isSome_none, Bool.false_eq_true, if_false]
  generalize a.off = o at ho ⊢
  rcases o with _ | _ | _ | _ | o
  · rfl
  · rfl
  · rfl
  · rfl
  · omega
/-- Numbers read anew. -/
theorem ints_turn {w : World} {g : Nat} {q r : Nat → Int} (h : Nums w g q) {A : Option Addr} {xs : List Int} (hC : Kd.C (Kd.int .i64) w A xs.length xs) :
    ∃ ys : List Int, ys.length = xs.length ∧ Kd.C (Kd.int .i64) (w.setRow g #[.int .i64 (r 0), .int .i64 (r 1), .int .i64 (r 2), .int .i64 (r 3)]) A ys.length ys := by
  have hp := nums_put (r := r) h
  generalize hW : w.setRow g #[.int .i64 (r 0), .int .i64 (r 1), .int .i64 (r 2), .int .i64 (r 3)] = W at hp
  obtain ⟨_, hm, hr⟩ := hC
  by_cases hx : 0 < xs.length
  · obtain ⟨ad, hA, hc⟩ := hr hx
    have key : ∀ j, j < xs.length → w.cell? (ad.add (j * 1 + 0)) = some (.int .i64 (xs.getD j 0)) := fun j hj => by
      obtain ⟨c, h1, h2, h3⟩ := hc j _ (List.getElem?_eq_getElem hj)
      have h2' : c = [.int .i64 (xs[j]'hj)] := h2
      subst h2'
      rw [List.getD_eq_getElem?_getD, List.getElem?_eq_getElem hj]
      exact h3 0 _ rfl
    by_cases hb : ad.block = g
    · refine ⟨(List.range xs.length).map fun j => r (ad.off + j), by simp, by simp, by simpa using hm, fun _ => ⟨ad, hA, fun j p hjp => ?_⟩⟩
      have hj : j < xs.length := by
        have := (List.getElem?_eq_some_iff.1 hjp).1
        simpa using this
      have hpv : p = r (ad.off + j) := by
        rw [List.getElem?_map, List.getElem?_range hj] at hjp
        simpa using hjp.symm
      subst hpv
      refine ⟨[.int .i64 (r (ad.off + j))], rfl, rfl, fun i u hi => ?_⟩
      rcases i with _ | i
      · have hu : u = .int .i64 (r (ad.off + j)) := by simpa using hi.symm
        subst hu
        obtain ⟨k1, k2, _⟩ := nums_cell h (by rw [add_block]; exact hb) (key j hj)
        have := nums_read hp (a := ad.add (j * 1 + 0)) (by rw [add_block]; exact hb) k1 k2
        rw [add_off] at this
        show W.cell? (ad.add (j * 1 + 0)) = _
        rw [show j * 1 + 0 = j by omega] at this ⊢
        exact this
      · simp at hi
    · refine ⟨xs, rfl, rfl, hm, fun _ => ⟨ad, hA, fun j p hjp => ?_⟩⟩
      obtain ⟨c, h1, h2, h3⟩ := hc j p hjp
      refine ⟨c, h1, h2, fun i u hi => ?_⟩
      rw [← hW, cell_setRow_other _ _ _ _ (by rw [add_block]; exact hb)]
      exact h3 i u hi
  · exact ⟨xs, rfl, rfl, hm, fun h => absurd h hx⟩
/-- Grants stay: each begins with a text. -/
theorem grants_turn {w : World} {g : Nat} {q r : Nat → Int} (h : Nums w g q) {A : Option Addr} {xs : List S96} (hC : Kd.C k96 w A xs.length xs) : Kd.C k96 (w.setRow g #[.int .i64 (r 0), .int .i64 (r 1), .int .i64 (r 2), .int .i64 (r 3)]) A xs.length xs := by
  obtain ⟨_, hm, hr⟩ := hC
  refine ⟨rfl, hm, fun hx => ?_⟩
  obtain ⟨ad, hA, hc⟩ := hr hx
  refine ⟨ad, hA, fun j p hjp => ?_⟩
  obtain ⟨c, h1, h2, h3⟩ := hc j p hjp
  have h2' := k96_open h2
  refine ⟨c, h1, by rw [h2']; exact k96_mk _ p, fun i u hi => ?_⟩
  have h0 := h3 0 (.string p.f0) (by rw [h2']; rfl)
  have hb : ad.block ≠ g := fun e => by
    obtain ⟨_, _, k⟩ := nums_cell h (by rw [add_block]; exact e) h0
    cases k
  rw [cell_setRow_other _ _ _ _ (by rw [add_block]; exact hb)]
  exact h3 i u hi
/-- Two nodes that differ in words alone, as many. -/
def Like (n m : S50) : Prop := m.f0 = n.f0 ∧ m.f1 = n.f1 ∧ m.f2 = n.f2 ∧ m.f3 = n.f3 ∧ m.f4 = n.f4 ∧ m.f6 = n.f6 ∧ m.f5.length = n.f5.length
theorem node_turn {w : World} {g : Nat} {q r : Nat → Int} (h : Nums w g q) {n : S50} {cs : List Value} (hK : k50.K w n cs) : ∃ m, Like n m ∧ k50.K (w.setRow g #[.int .i64 (r 0), .int .i64 (r 1), .int .i64 (r 2), .int .i64 (r 3)]) m cs := by
  obtain ⟨A6, c6, A11, c11, rfl, l6, g6, l11, g11⟩ := k50_open hK
  obtain ⟨ys, hl, hy⟩ := ints_turn (r := r) h g11
  obtain ⟨n0, n1, n2, n3, n4, n5, n6⟩ := n
  refine ⟨⟨n0, n1, n2, n3, n4, ys, n6⟩, ⟨rfl, rfl, rfl, rfl, rfl, rfl, hl⟩, ?_⟩
  have hk := k50_mk (w.setRow g #[.int .i64 (r 0), .int .i64 (r 1), .int .i64 (r 2), .int .i64 (r 3)]) ⟨n0, n1, n2, n3, n4, ys, n6⟩ l6 (grants_turn h g6) (c11 := c11) (by show ys.length ≤ c11; have a : n5.length ≤ c11 := l11; have b : ys.length = n5.length := hl; omega) hy
  simp only at hk hl ⊢
  rw [hl] at hk
  exact hk
theorem nodes_turn {w : World} {g : Nat} {q r : Nat → Int} (h : Nums w g q) {A : Option Addr} {t : List S50} (hC : Kd.C k50 w A t.length t) :
    ∃ t' : List S50, t'.length = t.length ∧ Kd.C k50 (w.setRow g #[.int .i64 (r 0), .int .i64 (r 1), .int .i64 (r 2), .int .i64 (r 3)]) A t'.length t' ∧ ∀ (j : Nat) (h1 : j < t.length) (h2 : j < t'.length), Like (t[j]'h1) (t'[j]'h2) := by
  obtain ⟨_, hm, hr⟩ := hC
  by_cases hx : 0 < t.length
  · obtain ⟨ad, hA, hc⟩ := hr hx
    have H : ∀ j : Fin t.length, ∃ m, Like t[j] m ∧ ∃ c, c.length = 16 ∧ k50.K (w.setRow g #[.int .i64 (r 0), .int .i64 (r 1), .int .i64 (r 2), .int .i64 (r 3)]) m c ∧ ∀ i u, c[i]? = some u → (w.setRow g #[.int .i64 (r 0), .int .i64 (r 1), .int .i64 (r 2), .int .i64 (r 3)]).cell? (ad.add (j.val * 16 + i)) = some u := fun j => by
      obtain ⟨c, h1, h2, h3⟩ := hc j.val _ (List.getElem?_eq_getElem j.isLt)
      obtain ⟨m, hl, hk⟩ := node_turn (r := r) h h2
      have h0 := h3 0 (.string (t[j.val]'j.isLt).f0) (by obtain ⟨A6, c6, A11, c11, e, _⟩ := k50_open h2; rw [e]; rfl)
      have hb : ad.block ≠ g := fun e => by
        obtain ⟨_, _, k⟩ := nums_cell h (by rw [add_block]; exact e) h0
        cases k
      refine ⟨m, hl, c, h1, hk, fun i u hi => ?_⟩
      rw [cell_setRow_other _ _ _ _ (by rw [add_block]; exact hb)]
      exact h3 i u hi
    let f : Fin t.length → S50 := fun j => Classical.choose (H j)
    have hf : ∀ j, _ := fun j => Classical.choose_spec (H j)
    refine ⟨List.ofFn f, List.length_ofFn, ⟨rfl, by rw [List.length_ofFn]; exact hm, fun _ => ⟨ad, hA, fun j p hjp => ?_⟩⟩, fun j h1 h2 => ?_⟩
    · obtain ⟨hlt, he⟩ := List.getElem?_eq_some_iff.1 hjp
      rw [List.getElem_ofFn] at he
      rw [List.length_ofFn] at hlt
      obtain ⟨_, c, h1, h2, h3⟩ := hf ⟨j, hlt⟩
      rw [← he]
      exact ⟨c, h1, h2, h3⟩
    · rw [List.getElem_ofFn]
      exact (hf ⟨j, h1⟩).1
  · exact ⟨t, rfl, ⟨rfl, hm, fun h => absurd h hx⟩, fun j h1 _ => absurd (Nat.lt_of_le_of_lt (Nat.zero_le j) h1) hx⟩
theorem like_mem {t t' : List S50} (hl : t'.length = t.length) (h : ∀ (j : Nat) (h1 : j < t.length) (h2 : j < t'.length), Like (t[j]'h1) (t'[j]'h2)) {m : S50} (hm : m ∈ t') : ∃ n ∈ t, Like n m := by
  obtain ⟨j, hj, rfl⟩ := List.getElem_of_mem hm
  exact ⟨t[j]'(by omega), List.getElem_mem _, h j (by omega) hj⟩
theorem like_mem' {t t' : List S50} (hl : t'.length = t.length) (h : ∀ (j : Nat) (h1 : j < t.length) (h2 : j < t'.length), Like (t[j]'h1) (t'[j]'h2)) {n : S50} (hn : n ∈ t) : ∃ m ∈ t', Like n m := by
  obtain ⟨j, hj, rfl⟩ := List.getElem_of_mem hn
  exact ⟨t'[j]'(by omega), List.getElem_mem _, h j hj (by omega)⟩
theorem like_tree {t t' : List S50} (T : Tree t) (hl : t'.length = t.length) (h : ∀ (j : Nat) (h1 : j < t.length) (h2 : j < t'.length), Like (t[j]'h1) (t'[j]'h2)) : Tree t' := by
  refine ⟨?_, by rw [hl]; exact T.len, ?_, ?_, ?_⟩
  · refine List.pairwise_iff_getElem.2 fun i j hi hj hij => ?_
    rw [(h i (by omega) hi).1, (h j (by omega) hj).1]
    exact List.pairwise_iff_getElem.1 T.asc i j (by omega) (by omega) hij
  · obtain ⟨n, hn, h0, h1, h2⟩ := T.root
    obtain ⟨m, hm, e0, e1, e2, _⟩ := like_mem' hl h hn
    exact ⟨m, hm, e0.trans h0, e1.trans h1, e2.trans h2⟩
  · intro m hm
    obtain ⟨n, hn, e0, e1, e2, e3, e4, e6, e5⟩ := like_mem hl h hm
    obtain ⟨k1, k2, k3, k4, k5, k6⟩ := T.ok n hn
    refine ⟨by rw [e2]; exact k1, by rw [e6]; exact k2, by rw [e3]; exact k3, by rw [e5]; exact k4, fun hd => ?_, by rw [e4]; exact k6⟩
    obtain ⟨g1, g2⟩ := k5 (by rw [← e1]; exact hd)
    exact ⟨List.length_eq_zero_iff.1 (by rw [e5, g1]; rfl), by rw [e4]; exact g2⟩
  · intro m hm
    obtain ⟨n, hn, e0, e1, e2, e3, e4, e6, e5⟩ := like_mem hl h hm
    obtain ⟨ns, k1, k2, k3⟩ := T.up n hn
    refine ⟨ns, k1, e0.trans k2, fun hne => ?_⟩
    obtain ⟨d, hd, d0, d1, d2, d3⟩ := k3 hne
    obtain ⟨d', hd', f0, f1, f2, _⟩ := like_mem' hl h hd
    exact ⟨d', hd', f0.trans d0, f1.trans d1, by rw [e2, f2]; exact d2, fun hs => by rw [e2, f2]; exact d3 (by rw [← e1]; exact hs)⟩
/-- A store of a label into a block of numbers: the tree is read anew. -/
theorem tree_turn {w : World} {g : Nat} {q r : S41} (h : w.heap[g]? = some (.cells #[.int .i64 q.f0, .int .i64 q.f1, .int .i64 q.f2, .int .i64 q.f3] 41 (0, 0))) {A : Option Addr} {t : List S50} (hC : Kd.C k50 w A t.length t) (T : Tree t) :
    ∃ t' : List S50, t'.length = t.length ∧ Kd.C k50 (w.setRow g #[.int .i64 r.f0, .int .i64 r.f1, .int .i64 r.f2, .int .i64 r.f3]) A t'.length t' ∧ Tree t' ∧ ∀ (j : Nat) (h1 : j < t.length) (h2 : j < t'.length), Like (t[j]'h1) (t'[j]'h2) := by
  obtain ⟨t', h1, h2, h3⟩ := nodes_turn (q := fun i => if i = 0 then q.f0 else if i = 1 then q.f1 else if i = 2 then q.f2 else q.f3) (r := fun i => if i = 0 then r.f0 else if i = 1 then r.f1 else if i = 2 then r.f2 else r.f3) h hC
  exact ⟨t', h1, h2, like_tree T h1 h3, h3⟩
end Go.Proofs.YtmndeoncbocplaaDoor.C
/-! CGen -/
namespace Go.Proofs.YtmndeoncbocplaaDoor.C
open Go.RowKit Go.Proofs.YtmndeoncbocplaaDoor.Q Go.Proofs.YtmndeoncbocplaaDoorW.PrintWords Go.Proofs.YtmndeoncbocplaaDoorW.PrintLast Go.Proofs.YtmndeoncbocplaaDoorW.PrintMore
noncomputable def cReg (f : Func) (k : Nat) : Code := (f.body.bind fun c => regIn c k).getD .skip
theorem wr_at41 (x v : Value) : Instr.storeAt 41 x v = wrS 41 x v := wr_at 41 x v
theorem al_at41 (b : Bool) (v : Value) : Instr.alloc 41 b v = alS 41 b v := al_at 41 b v
theorem al41 (w : World) : (alS 41 true (.tuple #[])).run Tryd.prog w = .ok (.pointer (some ⟨w.heap.size, 0, none⟩)) (w.alloc (.cells #[.int .i64 0, .int .i64 0, .int .i64 0, .int .i64 0] 41)) := by
  rw [← al_at]
  have hz := Tryd.zeroValue41
  go_simp
theorem wr41_new (w : World) (p0 p1 p2 p3 q0 q1 q2 q3 : Int) : (wrS 41 (.pointer (some ⟨w.heap.size, 0, none⟩)) (.agg #[.int .i64 q0, .int .i64 q1, .int .i64 q2, .int .i64 q3])).run Tryd.prog (w.alloc (.cells #[.int .i64 p0, .int .i64 p1, .int .i64 p2, .int .i64 p3] 41)) = .ok () (w.alloc (.cells #[.int .i64 q0, .int .i64 q1, .int .i64 q2, .int .i64 q3] 41)) := by
  rw [← wr_at]
  exact run_storeAt_new w 41 #[.int .i64 p0, .int .i64 p1, .int .i64 p2, .int .i64 p3] #[.int .i64 q0, .int .i64 q1, .int .i64 q2, .int .i64 q3] (by kernel_rfl) rfl (by simp [Value.oneCell'])
theorem wr41_blk {W : World} {g : Nat} {old cs : Array Value} (hg : W.heap[g]? = some (.cells old 41 (0, 0))) (ho : old.size = 4) (hi : cs.size = 4) (h1 : cs.all (·.oneCell') = true) : (wrS 41 (.pointer (some ⟨g, 0, none⟩)) (.agg cs)).run Tryd.prog W = .ok () (W.setRow g cs) :=
  wr_row hg (by rw [hi]; kernel_rfl) (by rw [ho, hi]) h1
theorem take_at {P : Program} {md : Region.Mode} {ops : Array Oper} {Q : Exit → Act → World → Prop} {S : World → Prop} (i d : Nat) {oi : Oper} {v : Value} {fuel : Nat} {listed : Array Bool} {a : Act} {w : World} (hi : ops.toList[i]? = some oi) (hd : oi.dst = some d)
    (hs : Region.noSelect ops = true) (hf : Region.free md ops listed i = true) (hr : (Region.ready md ops listed).contains i = true)
    (hQ : ∀ c a w, Q (.panic c) (a.put oi.dst v) w → Q (.panic c) a w) (hy : YieldsIf P ops S oi v a) (hS : S w)
    (h : wpAnyH P md ops Q S fuel (listed.setIfInBounds i true) (a.put (some d) v) w) : wpAnyH P md ops Q S (fuel + 1) listed a w :=
  wpAnyH_take (by rw [← Array.getElem?_toList]; exact hi) hs hf hr hQ hy hS (by rw [hd]; exact h)
theorem K_setRow {w6 : World} {B g : Nat} {x : S50} {cs : List Value} {cs' : Array Value} (h : k50.FK w6 (fun k => B ≤ k) x cs) (hg : g < B) : k50.K (w6.setRow g cs') x cs :=
  Foot.now (Foot.step h (fun k hk _ => setRow_other w6 g k cs' (by omega)))
theorem may_tF {t : List S50} (T : Tree t) (u : ByteArray) (a : S41) (ns : List (List UInt8)) (hok : Okp ns) (p : ByteArray) (hp : pth ns = p) (mode : Int) (x : S50) (k : Int) (hn : (mayR t a u ns mode).1 = x) (hk : (mayR t a u ns mode).2 = k) (A : Option Addr) (c : Nat) (w : World) (hC : Kd.C k50 w A t.length t) (hc : t.length ≤ c) :
    Calls Tryd.prog 35 #[.slice A t.length c, .agg #[.string u, .int .i64 a.f0, .int .i64 a.f1, .int .i64 a.f2, .int .i64 a.f3], .string p, .int .i64 mode] w fun e w' => ∃ X6 x6 X11 x11, e = .returned (.tuple #[.agg #[.string x.f0, .bool x.f1, .int .i64 x.f2.f0, .int .i64 x.f2.f1, .int .i64 x.f2.f2, .int .i64 x.f2.f3, .slice X6 x.f3.length x6, .int .i64 x.f4.f0, .int .i64 x.f4.f1, .int .i64 x.f4.f2, .int .i64 x.f4.f3, .slice X11 x.f5.length x11, .int .i64 x.f6.f0, .int .i64 x.f6.f1, .int .i64 x.f6.f2, .int .i64 x.f6.f3], .int .i64 k]) ∧ k50.FK w' (fun k => w.heap.size ≤ k) x [.string x.f0, .bool x.f1, .int .i64 x.f2.f0, .int .i64 x.f2.f1, .int .i64 x.f2.f2, .int .i64 x.f2.f3, .slice X6 x.f3.length x6, .int .i64 x.f4.f0, .int .i64 x.f4.f1, .int .i64 x.f4.f2, .int .i64 x.f4.f3, .slice X11 x.f5.length x11, .int .i64 x.f6.f0, .int .i64 x.f6.f1, .int .i64 x.f6.f2, .int .i64 x.f6.f3] ∧ Below w.heap.size w w' := by
  subst hp hn hk
  refine (may_c t u a ns mode A c w hC hc (tree_srch T) (tree_acls T) hok.1 hok.2).mono ?_
  rintro e w' ⟨cs, rfl, hK, hB⟩
  obtain ⟨X6, x6, X11, x11, rfl, _⟩ := k50_open (Foot.now hK)
  exact ⟨X6, x6, X11, x11, rfl, hK, hB⟩
end Go.Proofs.YtmndeoncbocplaaDoor.C
