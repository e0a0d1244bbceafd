/- Texts that the claim's law stands on, cut down to what it reaches. -/
import Derived.Test.YtmndeoncbocplaaDoorJA
import Derived.Deep.Slices
set_option linter.unusedVariables false
set_option linter.unusedSimpArgs false
section
set_option linter.unusedVariables false
set_option linter.unusedSimpArgs false
namespace Go.Proofs.YtmndeoncbocplaaDoor.C
open Go.RowKit Go.ChangeShapes Go.WideShapes Go.Proofs.YtmndeoncbocplaaDoor.Q Go.Proofs.YtmndeoncbocplaaDoorW.PrintWords Go.Proofs.YtmndeoncbocplaaDoorW.PrintLast Go.Proofs.YtmndeoncbocplaaDoorW.PrintMore
section
variable {H : Type} {enc : TypeId × Value → H} {P : Program} {w : World} {base : Nat} {spare : Nat → Bool} {held : Bool}
/-- Whatever reads as a type is of a kind. -/
def Opens {H : Type} (enc : TypeId × Value → H) (P : Program) (w : World) (base : Nat) (spare : Nat → Bool) (held : Bool) {α : Type} (d : Kd α) (t : TypeId) : Prop :=
  d.sz = P.cellsOf t ∧ ∀ (n : Nat) (cs : List Value) (x : DataW H × List MemPlace), DataW.trod enc P w base spare held n t cs = some x → ∃ y, d.K w y cs
theorem opens_int {t : TypeId} {k : IntKind} (ht : P.underlying t = some (.int k)) (hc : P.cellsOf t = 1) : Opens enc P w base spare held (Kd.int k) t :=
  ⟨hc.symm, fun _ _ _ h => by obtain ⟨m, rfl, _⟩ := DataW.trod_int ht h; exact ⟨m, rfl⟩⟩
theorem opens_bool {t : TypeId} (ht : P.underlying t = some .bool) (hc : P.cellsOf t = 1) : Opens enc P w base spare held Kd.bool t :=
  ⟨hc.symm, fun _ _ _ h => by obtain ⟨m, rfl, _⟩ := DataW.trod_bool ht h; exact ⟨m, rfl⟩⟩
theorem opens_string {t : TypeId} (ht : P.underlying t = some .string) (hc : P.cellsOf t = 1) : Opens enc P w base spare held Kd.string t :=
  ⟨hc.symm, fun _ _ _ h => by obtain ⟨m, rfl, _⟩ := DataW.trod_string ht h; exact ⟨m, rfl⟩⟩
theorem opens_cells {t e : TypeId} {α : Type} [Inhabited α] {d : Kd α} (ht : P.underlying t = some (.slice e)) (hd : Opens enc P w base spare held d e) {n : Nat} {cs : List Value} {x : DataW H × List MemPlace} (h : DataW.trod enc P w base spare held n t cs = some x) :
    ∃ A xs c, cs = [.slice A xs.length c] ∧ xs.length ≤ c ∧ d.C w A xs.length xs := by
  rcases Deep.open_slice ht h with ⟨rfl, _⟩ | ⟨a, len, cap, m, k, D, Pl, rfl, hb, hl, hm, hmm, _, hx⟩
  · exact ⟨none, [], 0, rfl, Nat.le_refl _, rfl, (by show (0:Nat) ≤ _; omega), fun h => by simp at h⟩
  · have hlm : len ≤ m := by rw [hmm]; split <;> omega
    obtain ⟨f, hf⟩ := Deep.choose_lt (α := α) (n := len) (p := fun i y => ∃ cs', d.K w y cs' ∧ w.cells? base (a.add (i * P.cellsOf e)) (P.cellsOf e) = some cs') (fun i hi => by
      obtain ⟨cs', h1, h2⟩ := hx i (by omega)
      obtain ⟨y, hy⟩ := hd.2 _ _ _ h2
      exact ⟨y, cs', hy, h1⟩)
    have hlen : ((List.range len).map f).length = len := by simp
    have hmax : maxLen = 9223372036854775807 := rfl
    refine ⟨some a, (List.range len).map f, cap, by rw [hlen], by rw [hlen]; exact hl, ?_⟩
    refine ⟨rfl, by rw [hlen]; omega, fun _ => ⟨a, rfl, fun j p hj => ?_⟩⟩
    have hjl : j < len := by
      have := (List.getElem?_eq_some_iff.1 hj).1
      rwa [hlen] at this
    have hp : p = f j := by
      rw [List.getElem?_map, List.getElem?_range hjl] at hj
      exact (Option.some.inj hj).symm
    subst hp
    obtain ⟨cs', h1, h2⟩ := hf j hjl
    obtain ⟨_, g2, g3⟩ := World.cells?_some h2
    refine ⟨cs', by rw [g2]; exact hd.1.symm, h1, fun i u hu => ?_⟩
    have hi : i < P.cellsOf e := by rw [← g2]; exact (List.getElem?_eq_some_iff.1 hu).1
    have := g3 i hi
    rw [Deep.add_add] at this
    rw [hd.1, this]
    exact hu
theorem opens_slice {t e : TypeId} {α : Type} [Inhabited α] {d : Kd α} (q : Nat) (ht : P.underlying t = some (.slice e)) (hc : P.cellsOf t = 1) (hd : Opens enc P w base spare held d e) : Opens enc P w base spare held (Kd.slice q d) t :=
  ⟨hc.symm, fun _ _ _ h => by obtain ⟨A, xs, c, rfl, h1, h2⟩ := opens_cells ht hd h; exact ⟨xs, A, c, rfl, h1, h2⟩⟩
theorem fields_one {α : Type} {d : Kd α} {f : Field} {n o : Nat} {cs : List Value} {x : Option (DataW H × List MemPlace)} (hd : Opens enc P w base spare held d f.type) (ho : f.offset = o) (hl : cs.length = o + d.sz) (hs : x.isSome = true) (h : DataW.trod enc P w base spare held n f.type ((cs.drop f.offset).take (P.cellsOf f.type)) = x) : ∃ y, d.K w y (cs.drop o) := by
  obtain ⟨x, rfl⟩ := Option.isSome_iff_exists.1 hs
  rw [ho, ← hd.1, List.take_of_length_le (by rw [List.length_drop]; omega)] at h
  exact hd.2 _ _ _ h
theorem fields_pair {α β : Type} {a : Kd α} {b : Kd β} {f : Field} {n o : Nat} {cs : List Value} {x : Option (DataW H × List MemPlace)} (hd : Opens enc P w base spare held a f.type) (ho : f.offset = o) (hl : cs.length = o + (a.sz + b.sz)) (hs : x.isSome = true) (h : DataW.trod enc P w base spare held n f.type ((cs.drop f.offset).take (P.cellsOf f.type)) = x)
    (hr : cs.length = (o + a.sz) + b.sz → ∃ z, b.K w z (cs.drop (o + a.sz))) : ∃ y, (Kd.pair a b).K w y (cs.drop o) := by
  obtain ⟨x, rfl⟩ := Option.isSome_iff_exists.1 hs
  rw [ho, ← hd.1] at h
  obtain ⟨y, hy⟩ := hd.2 _ _ _ h
  obtain ⟨z, hz⟩ := hr (by omega)
  refine ⟨(y, z), (cs.drop o).take a.sz, cs.drop (o + a.sz), ?_, hy, hz⟩
  rw [← List.drop_drop, List.take_append_drop]
theorem opens_iso {α β : Type} {d : Kd β} {f : α → β} (g : β → α) (hg : ∀ y, f (g y) = y) {t : TypeId} (h : Opens enc P w base spare held d t) : Opens enc P w base spare held (Kd.iso d f) t :=
  ⟨h.1, fun n cs x hx => by obtain ⟨y, hy⟩ := h.2 n cs x hx; exact ⟨g y, by show d.K w (f (g y)) cs; rw [hg]; exact hy⟩⟩
end
end Go.Proofs.YtmndeoncbocplaaDoor.C
namespace Go.Proofs.YtmndeoncbocplaaDoor.C
open Go.RowKit Go.ChangeShapes Go.WideShapes Go.Proofs.YtmndeoncbocplaaDoor.Q Go.Proofs.YtmndeoncbocplaaDoorW.PrintWords Go.Proofs.YtmndeoncbocplaaDoorW.PrintLast Go.Proofs.YtmndeoncbocplaaDoorW.PrintMore
section
variable {H : Type} {enc : TypeId × Value → H} {w : World} {base : Nat} {spare : Nat → Bool} {held : Bool}
theorem some_lt {α : Type} {xs : List α} {i : Nat} (h : i < xs.length) : (xs[i]?).isSome = true := by rw [List.getElem?_eq_getElem h]; rfl
theorem opens_i3 : Opens enc Tryd.prog w base spare held (Kd.int .i64) 3 := opens_int Tryd.underlying3 (by kernel_rfl)
theorem opens_i2 : Opens enc Tryd.prog w base spare held (Kd.int .i64) 2 := opens_int Tryd.underlying2 (by kernel_rfl)
theorem opens_b4 : Opens enc Tryd.prog w base spare held Kd.bool 4 := opens_bool Tryd.underlying4 (by kernel_rfl)
theorem opens_s9 : Opens enc Tryd.prog w base spare held Kd.string 9 := opens_string Tryd.underlying9 (by kernel_rfl)
set_option maxRecDepth 100000 in
theorem opens41 : Opens enc Tryd.prog w base spare held k41 41 := by
  refine opens_iso (fun y : Int × Int × Int × Int => (⟨y.1, y.2.1, y.2.2.1, y.2.2.2⟩ : S41)) (fun _ => rfl) ⟨by kernel_rfl, fun n cs x h => ?_⟩
  obtain ⟨xs, m, _, _, hl, hx, hf⟩ := DataW.trod_struct Tryd.underlying41 h
  have h4 : cs.length = 4 := hl.trans (by kernel_rfl)
  have hx4 : xs.length = 4 := hx
  have key : ∃ y, (Kd.pair (Kd.int .i64) (Kd.pair (Kd.int .i64) (Kd.pair (Kd.int .i64) (Kd.int .i64)))).K w y (cs.drop 0) :=
    fields_pair opens_i3 rfl h4 (some_lt (by omega)) (hf 0 _ rfl) fun _ =>
    fields_pair opens_i3 rfl h4 (some_lt (by omega)) (hf 1 _ rfl) fun _ =>
    fields_pair opens_i3 rfl h4 (some_lt (by omega)) (hf 2 _ rfl) fun _ =>
    fields_one opens_i3 rfl h4 (some_lt (by omega)) (hf 3 _ rfl)
  exact key
set_option maxRecDepth 100000 in
theorem opens47 : Opens enc Tryd.prog w base spare held k47 47 := by
  refine opens_iso (fun y : Int × Int × Int × Int => (⟨y.1, y.2.1, y.2.2.1, y.2.2.2⟩ : S47)) (fun _ => rfl) ⟨by kernel_rfl, fun n cs x h => ?_⟩
  obtain ⟨xs, m, _, _, hl, hx, hf⟩ := DataW.trod_struct Tryd.underlying47 h
  have h4 : cs.length = 4 := hl.trans (by kernel_rfl)
  have hx4 : xs.length = 4 := hx
  have key : ∃ y, (Kd.pair (Kd.int .i64) (Kd.pair (Kd.int .i64) (Kd.pair (Kd.int .i64) (Kd.int .i64)))).K w y (cs.drop 0) :=
    fields_pair opens_i3 rfl h4 (some_lt (by omega)) (hf 0 _ rfl) fun _ =>
    fields_pair opens_i3 rfl h4 (some_lt (by omega)) (hf 1 _ rfl) fun _ =>
    fields_pair opens_i3 rfl h4 (some_lt (by omega)) (hf 2 _ rfl) fun _ =>
    fields_one opens_i3 rfl h4 (some_lt (by omega)) (hf 3 _ rfl)
  exact key
set_option maxRecDepth 100000 in
theorem opens96 : Opens enc Tryd.prog w base spare held k96 96 := by
  refine opens_iso (fun y : ByteArray × Int => (⟨y.1, y.2⟩ : S96)) (fun _ => rfl) ⟨by kernel_rfl, fun n cs x h => ?_⟩
  obtain ⟨xs, m, _, _, hl, hx, hf⟩ := DataW.trod_struct Tryd.underlying96 h
  have h4 : cs.length = 2 := hl.trans (by kernel_rfl)
  have hx4 : xs.length = 2 := hx
  have key : ∃ y, (Kd.pair Kd.string (Kd.int .i64)).K w y (cs.drop 0) :=
    fields_pair opens_s9 rfl h4 (some_lt (by omega)) (hf 0 _ rfl) fun _ =>
    fields_one opens_i3 rfl h4 (some_lt (by omega)) (hf 1 _ rfl)
  exact key
theorem opens27 : Opens enc Tryd.prog w base spare held (Kd.slice 3 (Kd.int .i64)) 27 := opens_slice 3 Tryd.underlying27 (by kernel_rfl) opens_i3
theorem opens48 : Opens enc Tryd.prog w base spare held (Kd.slice 2 (Kd.int .i64)) 48 := opens_slice 2 Tryd.underlying48 (by kernel_rfl) opens_i2
theorem opens45 : Opens enc Tryd.prog w base spare held (Kd.slice 96 k96) 45 :=
  letI : Inhabited S96 := ⟨z96⟩
  opens_slice 96 Tryd.underlying45 (by kernel_rfl) opens96
set_option maxRecDepth 100000 in
theorem opens80 : Opens enc Tryd.prog w base spare held k80 80 := by
  refine opens_iso (fun y : List Int × Bool × S41 × List S96 × S47 × List Int × S41 => (⟨y.1, y.2.1, y.2.2.1, y.2.2.2.1, y.2.2.2.2.1, y.2.2.2.2.2.1, y.2.2.2.2.2.2⟩ : S80)) (fun _ => rfl) ⟨by kernel_rfl, fun n cs x h => ?_⟩
  obtain ⟨xs, m, _, _, hl, hx, hf⟩ := DataW.trod_struct Tryd.underlying80 h
  have h4 : cs.length = 16 := hl.trans (by kernel_rfl)
  have hx4 : xs.length = 7 := hx
  have key : ∃ y, (Kd.pair (Kd.slice 3 (Kd.int .i64)) (Kd.pair Kd.bool (Kd.pair k41 (Kd.pair (Kd.slice 96 k96) (Kd.pair k47 (Kd.pair (Kd.slice 2 (Kd.int .i64)) k41)))))).K w y (cs.drop 0) :=
    fields_pair opens27 rfl h4 (some_lt (by omega)) (hf 0 _ rfl) fun _ =>
    fields_pair opens_b4 rfl h4 (some_lt (by omega)) (hf 1 _ rfl) fun _ =>
    fields_pair opens41 rfl h4 (some_lt (by omega)) (hf 2 _ rfl) fun _ =>
    fields_pair opens45 rfl h4 (some_lt (by omega)) (hf 3 _ rfl) fun _ =>
    fields_pair opens47 rfl h4 (some_lt (by omega)) (hf 4 _ rfl) fun _ =>
    fields_pair opens48 rfl h4 (some_lt (by omega)) (hf 5 _ rfl) fun _ =>
    fields_one opens41 rfl h4 (some_lt (by omega)) (hf 6 _ rfl)
  exact key
/-- Labels that were handed in. -/
theorem rows41 {n : Nat} {v : Value} {x : DataW H × List MemPlace} (h : DataW.trod enc Tryd.prog w base spare held n 38 v.cells.toList = some x) (hv : ∃ A l c, v = .slice A l c) : ∃ A xs c, v = .slice A xs.length c ∧ xs.length ≤ c ∧ Kd.C k41 w A xs.length xs := by
  letI : Inhabited S41 := ⟨z41⟩
  obtain ⟨A, l, c, rfl⟩ := hv
  obtain ⟨A', xs, c', e, h1, h2⟩ := opens_cells Tryd.underlying38 opens41 h
  have e' : Value.slice A l c = Value.slice A' xs.length c' := by simpa [Value.cells] using e
  exact ⟨A', xs, c', e', h1, h2⟩
/-- Makes that were handed in. -/
theorem rows80 {n : Nat} {v : Value} {x : DataW H × List MemPlace} (h : DataW.trod enc Tryd.prog w base spare held n 39 v.cells.toList = some x) (hv : ∃ A l c, v = .slice A l c) : ∃ A xs c, v = .slice A xs.length c ∧ xs.length ≤ c ∧ Kd.C k80 w A xs.length xs := by
  letI : Inhabited S80 := ⟨z80⟩
  obtain ⟨A, l, c, rfl⟩ := hv
  obtain ⟨A', xs, c', e, h1, h2⟩ := opens_cells Tryd.underlying39 opens80 h
  have e' : Value.slice A l c = Value.slice A' xs.length c' := by simpa [Value.cells] using e
  exact ⟨A', xs, c', e', h1, h2⟩
end
end Go.Proofs.YtmndeoncbocplaaDoor.C
end
section
namespace Go.Proofs.YtmndeoncbocplaaDoor.C
open Go.RowKit Go.ChangeShapes Go.WideShapes Go.Proofs.YtmndeoncbocplaaDoor.Q Go.Proofs.YtmndeoncbocplaaDoorW.PrintWords Go.Proofs.YtmndeoncbocplaaDoorW.PrintLast Go.Proofs.YtmndeoncbocplaaDoorW.PrintMore
section
variable {H : Type} {enc : TypeId × Value → H} {P : Program} {w : World} {base : Nat} {spare : Nat → Bool} {held : Bool}
/-- Whatever reads as a type is of a kind, and has a property. -/
def OpensP {H : Type} (enc : TypeId × Value → H) (P : Program) (w : World) (base : Nat) (spare : Nat → Bool) (held : Bool) {α : Type} (d : Kd α) (t : TypeId) (p : α → Prop) : Prop :=
  d.sz = P.cellsOf t ∧ ∀ (n : Nat) (cs : List Value) (x : DataW H × List MemPlace), DataW.trod enc P w base spare held n t cs = some x → ∃ y, d.K w y cs ∧ p y
theorem Opens.any {t : TypeId} {α : Type} {d : Kd α} (h : Opens enc P w base spare held d t) : OpensP enc P w base spare held d t (fun _ => True) :=
  ⟨h.1, fun n cs x hx => by obtain ⟨y, hy⟩ := h.2 n cs x hx; exact ⟨y, hy, trivial⟩⟩
theorem opensP_string {t : TypeId} (ht : P.underlying t = some .string) (hc : P.cellsOf t = 1) : OpensP enc P w base spare held Kd.string t (fun s => s.size ≤ 9223372036854775807) :=
  ⟨hc.symm, fun _ _ _ h => by obtain ⟨m, rfl, _, hm⟩ := DataW.trod_string ht h; exact ⟨m, rfl, hm⟩⟩
theorem opensP_cells {t e : TypeId} {α : Type} [Inhabited α] {d : Kd α} {p : α → Prop} (ht : P.underlying t = some (.slice e)) (hd : OpensP enc P w base spare held d e p) {n : Nat} {cs : List Value} {x : DataW H × List MemPlace} (h : DataW.trod enc P w base spare held n t cs = some x) :
    ∃ A xs c, cs = [.slice A xs.length c] ∧ xs.length ≤ c ∧ d.C w A xs.length xs ∧ ∀ x ∈ xs, p x := by
  rcases Deep.open_slice ht h with ⟨rfl, _⟩ | ⟨a, len, cap, m, k, D, Pl, rfl, hb, hl, hm, hmm, _, hx⟩
  · exact ⟨none, [], 0, rfl, Nat.le_refl _, ⟨rfl, (by show (0:Nat) ≤ _; omega), fun h => by simp at h⟩, fun x hx => by cases hx⟩
  · have hlm : len ≤ m := by rw [hmm]; split <;> omega
    obtain ⟨f, hf⟩ := Deep.choose_lt (α := α) (n := len) (p := fun i y => p y ∧ ∃ cs', d.K w y cs' ∧ w.cells? base (a.add (i * P.cellsOf e)) (P.cellsOf e) = some cs') (fun i hi => by
      obtain ⟨cs', h1, h2⟩ := hx i (by omega)
      obtain ⟨y, hy, hpy⟩ := hd.2 _ _ _ h2
      exact ⟨y, hpy, cs', hy, h1⟩)
    have hlen : ((List.range len).map f).length = len := by simp
    have hmax : maxLen = 9223372036854775807 := rfl
    refine ⟨some a, (List.range len).map f, cap, by rw [hlen], by rw [hlen]; exact hl, ?_⟩
    refine ⟨⟨rfl, by rw [hlen]; omega, fun _ => ⟨a, rfl, fun j p hj => ?_⟩⟩, fun x hx => ?_⟩
    rotate_left
    · obtain ⟨i, hi, rfl⟩ := List.mem_map.1 hx
      exact (hf i (List.mem_range.1 hi)).1
    have hjl : j < len := by
      have := (List.getElem?_eq_some_iff.1 hj).1
      rwa [hlen] at this
    have hp : p = f j := by
      rw [List.getElem?_map, List.getElem?_range hjl] at hj
      exact (Option.some.inj hj).symm
    subst hp
    obtain ⟨_, cs', h1, h2⟩ := hf j hjl
    obtain ⟨_, g2, g3⟩ := World.cells?_some h2
    refine ⟨cs', by rw [g2]; exact hd.1.symm, h1, fun i u hu => ?_⟩
    have hi : i < P.cellsOf e := by rw [← g2]; exact (List.getElem?_eq_some_iff.1 hu).1
    have := g3 i hi
    rw [Deep.add_add] at this
    rw [hd.1, this]
    exact hu
theorem opensP_slice {t e : TypeId} {α : Type} [Inhabited α] {d : Kd α} {p : α → Prop} (q : Nat) (ht : P.underlying t = some (.slice e)) (hc : P.cellsOf t = 1) (hd : OpensP enc P w base spare held d e p) : OpensP enc P w base spare held (Kd.slice q d) t (fun xs => ∀ x ∈ xs, p x) :=
  ⟨hc.symm, fun _ _ _ h => by obtain ⟨A, xs, c, rfl, h1, h2, h3⟩ := opensP_cells ht hd h; exact ⟨xs, ⟨A, c, rfl, h1, h2⟩, h3⟩⟩
theorem fieldsP_one {α : Type} {d : Kd α} {p : α → Prop} {f : Field} {n o : Nat} {cs : List Value} {x : Option (DataW H × List MemPlace)} (hd : OpensP enc P w base spare held d f.type p) (ho : f.offset = o) (hl : cs.length = o + d.sz) (hs : x.isSome = true) (h : DataW.trod enc P w base spare held n f.type ((cs.drop f.offset).take (P.cellsOf f.type)) = x) : ∃ y, d.K w y (cs.drop o) ∧ p y := by
  obtain ⟨x, rfl⟩ := Option.isSome_iff_exists.1 hs
  rw [ho, ← hd.1, List.take_of_length_le (by rw [List.length_drop]; omega)] at h
  exact hd.2 _ _ _ h
theorem fieldsP_pair {α β : Type} {a : Kd α} {b : Kd β} {p : α → Prop} {q : β → Prop} {f : Field} {n o : Nat} {cs : List Value} {x : Option (DataW H × List MemPlace)} (hd : OpensP enc P w base spare held a f.type p) (ho : f.offset = o) (hl : cs.length = o + (a.sz + b.sz)) (hs : x.isSome = true) (h : DataW.trod enc P w base spare held n f.type ((cs.drop f.offset).take (P.cellsOf f.type)) = x)
    (hr : cs.length = (o + a.sz) + b.sz → ∃ z, b.K w z (cs.drop (o + a.sz)) ∧ q z) : ∃ y, (Kd.pair a b).K w y (cs.drop o) ∧ p y.1 ∧ q y.2 := by
  obtain ⟨x, rfl⟩ := Option.isSome_iff_exists.1 hs
  rw [ho, ← hd.1] at h
  obtain ⟨y, hy, hpy⟩ := hd.2 _ _ _ h
  obtain ⟨z, hz, hqz⟩ := hr (by omega)
  refine ⟨(y, z), ⟨(cs.drop o).take a.sz, cs.drop (o + a.sz), ?_, hy, hz⟩, hpy, hqz⟩
  rw [← List.drop_drop, List.take_append_drop]
theorem opensP_iso {α β : Type} {d : Kd β} {f : α → β} {p : β → Prop} {q : α → Prop} (g : β → α) (hg : ∀ y, f (g y) = y) (hp : ∀ y, p y → q (g y)) {t : TypeId} (h : OpensP enc P w base spare held d t p) : OpensP enc P w base spare held (Kd.iso d f) t q :=
  ⟨h.1, fun n cs x hx => by obtain ⟨y, hy, hy2⟩ := h.2 n cs x hx; exact ⟨g y, by show d.K w (f (g y)) cs; rw [hg]; exact hy, hp y hy2⟩⟩
end
section
variable {H : Type} {enc : TypeId × Value → H} {w : World} {base : Nat} {spare : Nat → Bool} {held : Bool}
def SzG (g : S96) : Prop := g.f0.size ≤ 9223372036854775807
def SzN (n : S50) : Prop := ∀ g ∈ n.f3, g.f0.size ≤ 9223372036854775807
set_option maxRecDepth 100000 in
theorem opensP96 : OpensP enc Tryd.prog w base spare held k96 96 SzG := by
  refine opensP_iso (p := fun y : ByteArray × Int => y.1.size ≤ 9223372036854775807 ∧ True) (fun y : ByteArray × Int => (⟨y.1, y.2⟩ : S96)) (fun _ => rfl) (fun y h => h.1) ⟨by kernel_rfl, fun n cs x h => ?_⟩
  obtain ⟨xs, m, _, _, hl, hx, hf⟩ := DataW.trod_struct Tryd.underlying96 h
  have h4 : cs.length = 2 := hl.trans (by kernel_rfl)
  have hx4 : xs.length = 2 := hx
  have key : ∃ y, (Kd.pair Kd.string (Kd.int .i64)).K w y (cs.drop 0) ∧ y.1.size ≤ 9223372036854775807 ∧ True :=
    fieldsP_pair (q := fun _ => True) (opensP_string Tryd.underlying9 (by kernel_rfl)) rfl h4 (some_lt (by omega)) (hf 0 _ rfl) fun _ =>
    fieldsP_one opens_i3.any rfl h4 (some_lt (by omega)) (hf 1 _ rfl)
  exact key
theorem opensP45 : OpensP enc Tryd.prog w base spare held (Kd.slice 96 k96) 45 (fun xs => ∀ x ∈ xs, SzG x) :=
  letI : Inhabited S96 := ⟨z96⟩
  opensP_slice 96 Tryd.underlying45 (by kernel_rfl) opensP96
set_option maxRecDepth 100000 in
theorem opensP50 : OpensP enc Tryd.prog w base spare held k50 50 SzN := by
  refine opensP_iso (p := fun y : ByteArray × Bool × S41 × List S96 × S47 × List Int × S41 => True ∧ True ∧ True ∧ (∀ x ∈ y.2.2.2.1, SzG x) ∧ True ∧ True ∧ True) (fun y : ByteArray × Bool × S41 × List S96 × S47 × List Int × S41 => (⟨y.1, y.2.1, y.2.2.1, y.2.2.2.1, y.2.2.2.2.1, y.2.2.2.2.2.1, y.2.2.2.2.2.2⟩ : S50)) (fun _ => rfl) (fun y h => h.2.2.2.1) ⟨by kernel_rfl, fun n cs x h => ?_⟩
  obtain ⟨xs, m, _, _, hl, hx, hf⟩ := DataW.trod_struct Tryd.underlying50 h
  have h4 : cs.length = 16 := hl.trans (by kernel_rfl)
  have hx4 : xs.length = 7 := hx
  have key : ∃ y, (Kd.pair Kd.string (Kd.pair Kd.bool (Kd.pair k41 (Kd.pair (Kd.slice 96 k96) (Kd.pair k47 (Kd.pair (Kd.slice 2 (Kd.int .i64)) k41)))))).K w y (cs.drop 0) ∧ True ∧ True ∧ True ∧ (∀ x ∈ y.2.2.2.1, SzG x) ∧ True ∧ True ∧ True :=
    fieldsP_pair (p := fun _ => True) (q := fun y : Bool × S41 × List S96 × S47 × List Int × S41 => True ∧ True ∧ (∀ x ∈ y.2.2.1, SzG x) ∧ True ∧ True ∧ True) opens_s9.any rfl h4 (some_lt (by omega)) (hf 0 _ rfl) fun _ =>
    fieldsP_pair (p := fun _ => True) (q := fun y : S41 × List S96 × S47 × List Int × S41 => True ∧ (∀ x ∈ y.2.1, SzG x) ∧ True ∧ True ∧ True) opens_b4.any rfl h4 (some_lt (by omega)) (hf 1 _ rfl) fun _ =>
    fieldsP_pair (p := fun _ => True) (q := fun y : List S96 × S47 × List Int × S41 => (∀ x ∈ y.1, SzG x) ∧ True ∧ True ∧ True) opens41.any rfl h4 (some_lt (by omega)) (hf 2 _ rfl) fun _ =>
    fieldsP_pair (p := fun xs => ∀ x ∈ xs, SzG x) (q := fun y : S47 × List Int × S41 => True ∧ True ∧ True) opensP45 rfl h4 (some_lt (by omega)) (hf 3 _ rfl) fun _ =>
    fieldsP_pair (p := fun _ => True) (q := fun y : List Int × S41 => True ∧ True) opens47.any rfl h4 (some_lt (by omega)) (hf 4 _ rfl) fun _ =>
    fieldsP_pair (p := fun _ => True) (q := fun _ => True) opens48.any rfl h4 (some_lt (by omega)) (hf 5 _ rfl) fun _ =>
    fieldsP_one opens41.any rfl h4 (some_lt (by omega)) (hf 6 _ rfl)
  exact key
/-- Nodes that were handed in. -/
theorem rows42 {n : Nat} {v : Value} {x : DataW H × List MemPlace} (h : DataW.trod enc Tryd.prog w base spare held n 42 v.cells.toList = some x) (hv : ∃ A l c, v = .slice A l c) : ∃ A xs c, v = .slice A xs.length c ∧ xs.length ≤ c ∧ Kd.C k50 w A xs.length xs ∧ ∀ n ∈ xs, SzN n := by
  letI : Inhabited S50 := ⟨z50⟩
  obtain ⟨A, l, c, rfl⟩ := hv
  obtain ⟨A', xs, c', e, h1, h2, h3⟩ := opensP_cells Tryd.underlying42 opensP50 h
  have e' : Value.slice A l c = Value.slice A' xs.length c' := by simpa [Value.cells] using e
  exact ⟨A', xs, c', e', h1, h2, h3⟩
set_option maxRecDepth 100000 in
/-- A node that was handed in by value. -/
theorem agg50 {n b0 : Nat} {v : Value} {x : DataW H × List MemPlace} (h : DataW.trod enc Tryd.prog w base spare held n 50 v.cells.toList = some x) (hv : Value.okWide Tryd.prog w .any b0 50 v) : ∃ (b : S50) (A6 : Option Addr) (c6 : Nat) (A11 : Option Addr) (c11 : Nat), v = .agg #[.string b.f0, .bool b.f1, .int .i64 b.f2.f0, .int .i64 b.f2.f1, .int .i64 b.f2.f2, .int .i64 b.f2.f3, .slice A6 b.f3.length c6, .int .i64 b.f4.f0, .int .i64 b.f4.f1, .int .i64 b.f4.f2, .int .i64 b.f4.f3, .slice A11 b.f5.length c11, .int .i64 b.f6.f0, .int .i64 b.f6.f1, .int .i64 b.f6.f2, .int .i64 b.f6.f3] ∧ b.f3.length ≤ c6 ∧ Kd.C k96 w A6 b.f3.length b.f3 ∧ SzN b := by
  obtain ⟨cs, rfl, _⟩ := okWide_struct Tryd.underlying50 hv
  obtain ⟨y, hy, hs⟩ := opensP50.2 _ _ _ h
  obtain ⟨A6, c6, A11, c11, e, l6, g6, _⟩ := k50_open hy
  refine ⟨y, A6, c6, A11, c11, ?_, l6, g6, hs⟩
  congr 1
  apply Array.toList_inj.1
  simpa [Value.cells] using e
end
end Go.Proofs.YtmndeoncbocplaaDoor.C
end
