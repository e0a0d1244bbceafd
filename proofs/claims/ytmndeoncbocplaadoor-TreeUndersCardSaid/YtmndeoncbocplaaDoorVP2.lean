/- Texts that the claim's law stands on, cut down to what it reaches. -/
import Derived.Test.YtmndeoncbocplaaDoorVT3
import Derived.Test.YtmndeoncbocplaaDoorVP
import Derived.Sort.Walk0
import Derived.Shelf.SortM.Plain
import Derived.Shelf.SortM.SortNone
import Derived.Sort.OwnSorted
set_option linter.unusedVariables false
set_option linter.unusedSimpArgs false
section
set_option linter.unusedVariables false
set_option linter.unusedSimpArgs false
namespace Go.Proofs.YtmndeoncbocplaaDoor.C
open Go.RowKit Go.Proofs.YtmndeoncbocplaaDoor.Q Go.Proofs.YtmndeoncbocplaaDoorW.PrintWords Go.Proofs.YtmndeoncbocplaaDoorW.PrintLast Go.Proofs.YtmndeoncbocplaaDoorW.PrintMore
/-- The last name of a path. -/
def lastP (s : ByteArray) : ByteArray := (P.path_Last.f s).getD ⟨#[]⟩
/-- Does a node lie in a directory? -/
def kidB (p : ByteArray) (n : S50) : Bool := !(n.f0.toList == ([47] : List UInt8)) && ((parP n.f0).toList == p.toList)
def kids (t : List S50) (p : ByteArray) : List ByteArray := (t.filter (kidB p)).map fun n => lastP n.f0
def bytesOf (l : List UInt8) : ByteArray := ⟨l.toArray⟩
/-- The names of what lies in a directory, rising. -/
def under (t : List S50) (p : ByteArray) : List (List UInt8) := ((kids t p).map ByteArray.toList).mergeSort fun x y => decide (x ≤ y)
theorem under_len (t : List S50) (p : ByteArray) : (under t p).length = t.countP (kidB p) := by
  unfold under kids
  rw [List.length_mergeSort, List.length_map, List.length_map, List.countP_eq_length_filter]
theorem last_p {ns : List (List UInt8)} (hok : Okp ns) (hne : ns ≠ []) : (lastP (pth ns)).toList = ns.getLast hne := by
  have hz := check_len hok.2
  unfold lastP
  rw [P.last_f (pth ns) (by rw [pth_size]; omega) ns (pth_data ns) hok.1]
  rw [Option.getD_some, Lib.toList_data, List.getLast?_eq_some_getLast hne]
  rfl
theorem tree_last {t : List S50} (T : Tree t) : ∀ n ∈ t, ∃ q, P.path_Last.f n.f0 = some q := by
  intro n hn
  obtain ⟨ns, hok, hp⟩ := tree_path T hn
  have hz := check_len hok.2
  exact ⟨_, by rw [hp]; exact P.last_f (pth ns) (by rw [pth_size]; omega) ns (pth_data ns) hok.1⟩
/-- A kid's path: the directory's, and a name. -/
theorem kid_path {t : List S50} (T : Tree t) {d n : S50} (hd : d ∈ t) (hn : n ∈ t) {ds : List (List UInt8)} (hod : Okp ds) (hpd : d.f0 = pth ds) (h : kidB d.f0 n = true) :
    ∃ x, (lastP n.f0).toList = x ∧ n.f0 = pth (ds ++ [x]) ∧ Okp (ds ++ [x]) ∧ d.f1 = true := by
  obtain ⟨ns, hok, hp, hup⟩ := T.up n hn
  unfold kidB at h
  simp only [Bool.and_eq_true, Bool.not_eq_true', beq_eq_false_iff_ne, beq_iff_eq] at h
  obtain ⟨h1, h2⟩ := h
  have hne : ns ≠ [] := by
    rintro rfl
    exact h1 (by rw [hp]; exact pth_nil)
  have hpar : parP n.f0 = pth ns.dropLast := by unfold parP; rw [hp, pparent_f hok hne]; rfl
  rw [hpar] at h2
  have e : pth ns.dropLast = pth ds := by rw [← hpd]; exact bytes_of_toList h2
  have e1 : ns.dropLast = ds := pth_inj (fun x hx => hok.1 x (List.dropLast_subset ns hx)) hod.1 e
  have e2 : ds ++ [ns.getLast hne] = ns := by rw [← e1]; exact List.dropLast_concat_getLast hne
  refine ⟨ns.getLast hne, by rw [hp]; exact last_p hok hne, by rw [e2]; exact hp, by rw [e2]; exact hok, ?_⟩
  obtain ⟨d', hd', d0, d1, _⟩ := hup hne
  have i1 := (is_at T.asc hd').2
  have i2 := (is_at T.asc hd).2
  rw [d0, e, ← hpd, i2] at i1
  rw [i1]; exact d1
theorem under_mem {t : List S50} (T : Tree t) {d : S50} (hd : d ∈ t) {ds : List (List UInt8)} (hod : Okp ds) (hpd : d.f0 = pth ds) {x : List UInt8} (hx : x ∈ under t d.f0) :
    ∃ n ∈ t, n.f0 = pth (ds ++ [x]) ∧ Okp (ds ++ [x]) ∧ d.f1 = true := by
  unfold under kids at hx
  rw [List.mem_mergeSort] at hx
  obtain ⟨y, hy, rfl⟩ := List.mem_map.1 hx
  obtain ⟨n, hn, rfl⟩ := List.mem_map.1 hy
  obtain ⟨hn, hk⟩ := List.mem_filter.1 hn
  obtain ⟨x, h1, h2, h3, h4⟩ := kid_path T hd hn hod hpd hk
  rw [h1]
  exact ⟨n, hn, h2, h3, h4⟩
theorem under_nodup {t : List S50} (T : Tree t) {d : S50} (hd : d ∈ t) : (under t d.f0).Nodup := by
  obtain ⟨ds, hod, hpd⟩ := tree_path T hd
  unfold under kids
  rw [(List.mergeSort_perm _ _).nodup_iff, List.map_map]
  have hf : (t.filter (kidB d.f0)).Pairwise fun a b => less a.f0 b.f0 = true := List.Pairwise.filter _ T.asc
  unfold List.Nodup
  rw [List.pairwise_map]
  refine List.Pairwise.imp_of_mem ?_ hf
  intro a b ha hb hl e
  obtain ⟨ha, ka⟩ := List.mem_filter.1 ha
  obtain ⟨hb, kb⟩ := List.mem_filter.1 hb
  obtain ⟨x, x1, x2, _⟩ := kid_path T hd ha hod hpd ka
  obtain ⟨y, y1, y2, _⟩ := kid_path T hd hb hod hpd kb
  have exy : x = y := by rw [← x1, ← y1]; exact e
  rw [x2, y2, exy, less_irr] at hl
  cases hl
theorem under_rise {t : List S50} (T : Tree t) {d : S50} (hd : d ∈ t) (i j : Nat) (hij : i < j) (hj : j < (under t d.f0).length) : Op.bytesLess ((under t d.f0)[i]'(by omega)) (under t d.f0)[j] = true := by
  have hs : (under t d.f0).Pairwise fun x y => (decide (x ≤ y)) = true := by
    unfold under
    refine List.pairwise_mergeSort ?_ ?_ _
    · intro a b c h1 h2
      rw [decide_eq_true_eq] at *
      exact List.le_trans h1 h2
    · intro a b
      rw [Bool.or_eq_true, decide_eq_true_eq, decide_eq_true_eq]
      exact List.le_total a b
  have h1 := of_decide_eq_true (List.pairwise_iff_getElem.1 hs i j (by omega) hj hij)
  have h2 := List.pairwise_iff_getElem.1 (under_nodup T hd) i j (by omega) hj hij
  rw [bytesLess_eq, decide_eq_true_eq]
  rcases List.le_iff_lt_or_eq.1 h1 with h | h
  · exact h
  · exact absurd h h2
/-- Sums of counts, the other way round. -/
theorem sum_swap {α β : Type} (f : α → β → Bool) (ys : List β) : ∀ xs : List α, (xs.map fun x => ys.countP (f x)).sum = (ys.map fun y => xs.countP fun x => f x y).sum
  | [] => by
    rw [List.map_nil, List.sum_nil]
    induction ys with
    | nil => rfl
    | cons y ys ih => rw [List.map_cons, List.sum_cons, ← ih, List.countP_nil]; rfl
  | x :: xs => by
    have ih := sum_swap f ys xs
    rw [List.map_cons, List.sum_cons, ih]
    clear ih
    induction ys with
    | nil => simp
    | cons y ys ihy =>
      simp only [List.map_cons, List.sum_cons, List.countP_cons] at ihy ⊢
      omega
theorem count_one {α : Type} {p : α → Bool} : ∀ {xs : List α} {a : α}, xs.Nodup → a ∈ xs → (∀ b ∈ xs, p b = true ↔ b = a) → xs.countP p = 1
  | [], a, _, h, _ => by cases h
  | x :: xs, a, hn, hm, hp => by
    obtain ⟨n1, n2⟩ := List.nodup_cons.1 hn
    rw [List.countP_cons]
    by_cases hx : x = a
    · subst hx
      have h0 : xs.countP p = 0 := by
        rw [List.countP_eq_zero]
        intro b hb hpb
        have := (hp b (List.mem_cons_of_mem _ hb)).1 hpb
        exact n1 (this ▸ hb)
      rw [h0, if_pos ((hp x List.mem_cons_self).2 rfl)]
    · have hm2 : a ∈ xs := by
        rcases List.mem_cons.1 hm with h | h
        · exact absurd h.symm hx
        · exact h
      rw [count_one n2 hm2 (fun b hb => hp b (List.mem_cons_of_mem _ hb)), if_neg (fun h => hx ((hp x List.mem_cons_self).1 h))]
theorem asc_nodup {t : List S50} (h : Asc t) : t.Nodup := by
  refine List.Pairwise.imp ?_ h
  intro a b hl e
  rw [e, less_irr] at hl
  cases hl
/-- Each node but the root lies in one directory. -/
theorem parents_one {t : List S50} (T : Tree t) {n : S50} (hn : n ∈ t) : (t.countP fun d => kidB d.f0 n) = if n.f0.toList == ([47] : List UInt8) then 0 else 1 := by
  obtain ⟨ns, hok, hp, hup⟩ := T.up n hn
  cases hr : n.f0.toList == ([47] : List UInt8) with
  | true =>
    rw [if_pos rfl, List.countP_eq_zero]
    intro d hd
    unfold kidB
    rw [hr]
    simp
  | false =>
    rw [if_neg (by simp)]
    have hne : ns ≠ [] := by
      rintro rfl
      rw [hp, pth_nil] at hr
      simp at hr
    obtain ⟨d, hd, d0, _⟩ := hup hne
    have hpar : parP n.f0 = pth ns.dropLast := by unfold parP; rw [hp, pparent_f hok hne]; rfl
    refine count_one (asc_nodup T.asc) hd ?_
    intro b hb
    unfold kidB
    rw [hr, hpar]
    simp only [Bool.not_false, Bool.true_and, beq_iff_eq]
    constructor
    · intro e
      have e1 : b.f0 = d.f0 := by rw [d0]; exact (bytes_of_toList e).symm
      have i1 := (is_at T.asc hb).2
      have i2 := (is_at T.asc hd).2
      rw [e1, i2] at i1
      exact i1.symm
    · rintro rfl
      rw [d0]
theorem sum_ite {α : Type} (p : α → Bool) : ∀ xs : List α, (xs.map fun x => if p x then 0 else 1).sum + xs.countP p = xs.length
  | [] => rfl
  | x :: xs => by
    have ih := sum_ite p xs
    rw [List.map_cons, List.sum_cons, List.countP_cons, List.length_cons]
    cases p x <;> simp <;> omega
/-- All nodes are told, the root but once by itself. -/
theorem under_sum {t : List S50} (T : Tree t) : (t.map fun d => (under t d.f0).length).sum + 1 = t.length := by
  have h1 : (t.map fun d => (under t d.f0).length) = t.map fun d => t.countP (kidB d.f0) := List.map_congr_left fun d _ => under_len t d.f0
  rw [h1, sum_swap (fun d n => kidB d.f0 n) t t]
  have h2 : (t.map fun n => t.countP fun d => kidB d.f0 n) = t.map fun n => if n.f0.toList == ([47] : List UInt8) then 0 else 1 := List.map_congr_left fun n hn => parents_one T hn
  rw [h2]
  obtain ⟨r, hr, r0, _⟩ := T.root
  have h3 : t.countP (fun n => n.f0.toList == ([47] : List UInt8)) = 1 := by
    refine count_one (asc_nodup T.asc) hr ?_
    intro b hb
    rw [beq_iff_eq]
    constructor
    · intro e
      have e1 : b.f0 = r.f0 := bytes_of_toList (by rw [e, r0, pth_nil])
      have i1 := (is_at T.asc hb).2
      have i2 := (is_at T.asc hr).2
      rw [e1, i2] at i1
      exact i1.symm
    · rintro rfl
      rw [r0, pth_nil]
  have := sum_ite (fun n : S50 => n.f0.toList == ([47] : List UInt8)) t
  omega
/-- The sum so far. -/
def told (t : List S50) (i : Nat) : Nat := ((t.take i).map fun d => (under t d.f0).length).sum
theorem told_zero (t : List S50) : told t 0 = 0 := by unfold told; simp
theorem told_succ (t : List S50) (i : Nat) (h : i < t.length) : told t (i + 1) = told t i + (under t t[i].f0).length := by
  unfold told
  rw [List.take_succ_eq_append_getElem h, List.map_append, List.sum_append]
  simp
theorem told_all {t : List S50} (T : Tree t) : told t t.length + 1 = t.length := by
  unfold told
  rw [List.take_length]
  exact under_sum T
theorem told_le {t : List S50} (T : Tree t) (i : Nat) (h : i < t.length) : told t i + (under t t[i].f0).length + 1 ≤ t.length := by
  have key : ∀ m, i + 1 + m ≤ t.length → told t (i + 1) ≤ told t (i + 1 + m) := by
    intro m
    induction m with
    | zero => intro _; exact Nat.le_refl _
    | succ m ih =>
      intro hm
      have := ih (by omega)
      rw [show i + 1 + (m + 1) = (i + 1 + m) + 1 from rfl, told_succ t (i + 1 + m) (by omega)]
      omega
  have h1 := key (t.length - (i + 1)) (by omega)
  rw [show i + 1 + (t.length - (i + 1)) = t.length by omega, told_succ t i h] at h1
  have := told_all T
  omega
end Go.Proofs.YtmndeoncbocplaaDoor.C
end
section
set_option linter.unusedVariables false
set_option linter.unusedSimpArgs false
namespace Go.Proofs.YtmndeoncbocplaaDoor.C
open Go.RowKit Go.Sort Go.Shelf Go.Proofs.YtmndeoncbocplaaDoor.Q Go.Proofs.YtmndeoncbocplaaDoorW.PrintWords Go.Proofs.YtmndeoncbocplaaDoorW.PrintLast Go.Proofs.YtmndeoncbocplaaDoorW.PrintMore
def lays82_ren : Go.Shelf.Ren := ⟨fun | 6 => 82 | 8 => 107 | 9 => 106 | 19 => 134 | 20 => 135 | 21 => 125 | 22 => 126 | 23 => 127 | 24 => 128 | 25 => 129 | 26 => 130 | 27 => 131 | 28 => 132 | 29 => 133 | 36 => 143 | 31 => 144 | 32 => 145 | 37 => 146 | 38 => 147 | 39 => 148 | 41 => 159 | n => n, fun | 27 => 35 | 29 => 9 | 3 => 3 | 32 => 126 | 26 => 35 | 0 => 0 | 44 => 132 | 46 => 146 | 4 => 4 | 36 => 139 | 35 => 138 | 41 => 105 | 5 => 5 | 9 => 9 | 53 => 150 | 57 => 154 | 63 => 162 | 64 => 163 | n => n, fun | n => n⟩
theorem lays82 : Go.Proofs.SlLaysM.n6 Tryd.prog lays82_ren := {
  mixed := by kernel_rfl
  f6 := ⟨Tryd.f82.name, by decide, Tryd.func82.trans (congrArg some (by kernel_rfl))⟩
  f8 := Tryd.func107.trans (congrArg some (by kernel_rfl))
  f9 := ⟨Tryd.f106.name, by decide, Tryd.func106.trans (congrArg some (by kernel_rfl))⟩
  f19 := Tryd.func134.trans (congrArg some (by kernel_rfl))
  f20 := Tryd.func135.trans (congrArg some (by kernel_rfl))
  f21 := ⟨Tryd.f125.name, by decide, Tryd.func125.trans (congrArg some (by kernel_rfl))⟩
  f22 := ⟨Tryd.f126.name, by decide, Tryd.func126.trans (congrArg some (by kernel_rfl))⟩
  f23 := ⟨Tryd.f127.name, by decide, Tryd.func127.trans (congrArg some (by kernel_rfl))⟩
  f24 := ⟨Tryd.f128.name, by decide, Tryd.func128.trans (congrArg some (by kernel_rfl))⟩
  f25 := ⟨Tryd.f129.name, by decide, Tryd.func129.trans (congrArg some (by kernel_rfl))⟩
  f26 := ⟨Tryd.f130.name, by decide, Tryd.func130.trans (congrArg some (by kernel_rfl))⟩
  f27 := ⟨Tryd.f131.name, by decide, Tryd.func131.trans (congrArg some (by kernel_rfl))⟩
  f28 := ⟨Tryd.f132.name, by decide, Tryd.func132.trans (congrArg some (by kernel_rfl))⟩
  f29 := ⟨Tryd.f133.name, by decide, Tryd.func133.trans (congrArg some (by kernel_rfl))⟩
  f31 := Tryd.func144.trans (congrArg some (by kernel_rfl))
  f32 := Tryd.func145.trans (congrArg some (by kernel_rfl))
  f36 := ⟨Tryd.f143.name, by decide, Tryd.func143.trans (congrArg some (by kernel_rfl))⟩
  f37 := ⟨Tryd.f146.name, by decide, Tryd.func146.trans (congrArg some (by kernel_rfl))⟩
  f38 := ⟨Tryd.f147.name, by decide, Tryd.func147.trans (congrArg some (by kernel_rfl))⟩
  f39 := ⟨Tryd.f148.name, by decide, Tryd.func148.trans (congrArg some (by kernel_rfl))⟩
  f41 := ⟨Tryd.f159.name, by decide, Tryd.func159.trans (congrArg some (by kernel_rfl))⟩
  t0 := Tryd.underlying0
  a0 := Tryd.isAgg0
  z0 := Tryd.sizeOf0
  v0 := Tryd.zeroValue0
  t3 := Tryd.underlying3
  a3 := Tryd.isAgg3
  z3 := Tryd.sizeOf3
  v3 := Tryd.zeroValue3
  t4 := Tryd.underlying4
  a4 := Tryd.isAgg4
  z4 := Tryd.sizeOf4
  v4 := Tryd.zeroValue4
  t5 := Tryd.underlying5
  a5 := Tryd.isAgg5
  z5 := Tryd.sizeOf5
  v5 := Tryd.zeroValue5
  t9 := Tryd.underlying9
  a9 := Tryd.isAgg9
  z9 := Tryd.sizeOf9
  v9 := Tryd.zeroValue9
  t26 := Tryd.underlying35
  a26 := Tryd.isAgg35
  z26 := Tryd.sizeOf35
  v26 := Tryd.zeroValue35
  t27 := Tryd.underlying35
  a27 := Tryd.isAgg35
  z27 := Tryd.sizeOf35
  v27 := Tryd.zeroValue35
  t29 := Tryd.underlying9
  a29 := Tryd.isAgg9
  z29 := Tryd.sizeOf9
  v29 := Tryd.zeroValue9
  t32 := Tryd.underlying126
  a32 := Tryd.isAgg126
  z32 := Tryd.sizeOf126
  v32 := Tryd.zeroValue126
  t35 := Tryd.underlying138
  a35 := Tryd.isAgg138
  z35 := Tryd.sizeOf138
  v35 := Tryd.zeroValue138
  t36 := Tryd.underlying139
  a36 := Tryd.isAgg139
  z36 := Tryd.sizeOf139
  v36 := Tryd.zeroValue139
  t41 := Tryd.underlying105
  a41 := Tryd.isAgg105
  z41 := Tryd.sizeOf105
  v41 := Tryd.zeroValue105
  t44 := Tryd.underlying132
  a44 := Tryd.isAgg132
  z44 := Tryd.sizeOf132
  v44 := Tryd.zeroValue132
  t46 := Tryd.underlying146
  a46 := Tryd.isAgg146
  z46 := Tryd.sizeOf146
  v46 := Tryd.zeroValue146
  t53 := Tryd.underlying150
  a53 := Tryd.isAgg150
  z53 := Tryd.sizeOf150
  v53 := Tryd.zeroValue150
  t57 := Tryd.underlying154
  a57 := Tryd.isAgg154
  z57 := Tryd.sizeOf154
  v57 := Tryd.zeroValue154
  t63 := Tryd.underlying162
  a63 := Tryd.isAgg162
  z63 := Tryd.sizeOf162
  v63 := Tryd.zeroValue162
  t64 := Tryd.underlying163
  a64 := Tryd.isAgg163
  z64 := Tryd.sizeOf163
  v64 := Tryd.zeroValue163 }
/-- Rising, as the sort lays it. -/
def risen (xs : List ByteArray) : List (List UInt8) := (xs.map ByteArray.toList).mergeSort fun x y => decide (x ≤ y)
theorem risen_len (xs : List ByteArray) : (risen xs).length = xs.length := by unfold risen; rw [List.length_mergeSort, List.length_map]
theorem enc_bytes (s : ByteArray) : encStr s.toList = .string s := by
  show Value.string ⟨s.toList.toArray⟩ = .string s
  exact congrArg Value.string (bytes_of_toList (by rw [Lib.toList_data]))
theorem reps_string {w : World} {xs : List ByteArray} {cs : List Value} (h : Reps ((Kd.string).K w) 1 xs cs) : cs = (xs.map ByteArray.toList).map encStr := by
  obtain ⟨hl, hr⟩ := h
  apply List.ext_getElem?
  intro j
  by_cases hj : j < xs.length
  · have h1 := hr j xs[j] (List.getElem?_eq_getElem hj)
    have h2 : (cs.drop (j * 1)).take 1 = [Value.string xs[j]] := h1
    have h3 := congrArg (fun l : List Value => l[0]?) h2
    simp only [List.getElem?_take, List.getElem?_drop] at h3
    rw [show j * 1 + 0 = j by omega] at h3
    simp at h3
    rw [h3]
    simp [hj, enc_bytes]
  · rw [List.getElem?_eq_none (by omega), List.getElem?_eq_none (by simp; omega)]
theorem reps_of_enc {w : World} (ts : List (List UInt8)) : Reps ((Kd.string).K w) 1 (ts.map bytesOf) (ts.map encStr) := by
  refine ⟨by simp, fun j p hj => ?_⟩
  show ((ts.map encStr).drop (j * 1)).take 1 = [Value.string p]
  rw [Nat.mul_one]
  rw [List.getElem?_map] at hj
  cases ht : ts[j]? with
  | none => rw [ht] at hj; cases hj
  | some x =>
    rw [ht] at hj
    have hp : bytesOf x = p := by simpa using hj
    obtain ⟨hlt, hx⟩ := List.getElem?_eq_some_iff.1 ht
    rw [← hp, ← List.map_drop, List.drop_eq_getElem_cons hlt, hx]
    rfl
theorem sort_row {wp w : World} {base : Nat} {v : Value} {xs : List ByteArray} (h : OwnRow ((Kd.string).K wp) 9 1 w base v xs) (hb : base ≤ w.heap.size) (hn : xs.length < 1000000) :
    Calls Tryd.prog 82 #[v] w fun e w' => e = .returned (.tuple #[]) ∧ OwnRow ((Kd.string).K wp) 9 1 w' base v ((risen xs).map bytesOf) ∧ Below base w w' := by
  obtain ⟨inner, ho, hr⟩ := h
  have hi := reps_string hr
  subst hi
  rcases ho.2 with ⟨hv, hz⟩ | ⟨g, cap, cur, rfl, hbase, hbl, h1, h2, h3, h4⟩
  · subst hv
    have hx : xs = [] := List.eq_nil_of_length_eq_zero hz
    subst hx
    refine (AnyM.slices_Sort_string_none lays82 none 0 w).mono ?_
    rintro e w' ⟨rfl, rfl⟩
    exact ⟨rfl, by
      have e0 : (risen []).map bytesOf = [] := List.eq_nil_of_length_eq_zero (by rw [List.length_map, risen_len]; rfl)
      rw [e0]; exact OwnRow.none_ _ _ _ _ _, Below.refl _ _⟩
  · have hlen : (xs.map ByteArray.toList).length = xs.length := List.length_map _
    have ht : cur.toList.take (xs.map ByteArray.toList).length = (xs.map ByteArray.toList).map encStr := by rw [hlen]; simpa using h4
    have hH := holds_of_block hbl ht
    have hc := AnyM.slices_Sort_string lays82 g 0 cap (xs.map ByteArray.toList) w hH (Array.getElem?_eq_some_iff.1 hbl).1 (by rw [hlen]; omega)
    rw [hlen] at hc
    refine Calls.mono hc ?_
    rintro e w' ⟨rfl, nn, os, rfl⟩
    refine ⟨rfl, ⟨(risen xs).map encStr, ?_, reps_of_enc _⟩, ?_⟩
    · have hs := ownsRow_sorted (n := nn) (os := os) (ss := xs.map ByteArray.toList) (ts := risen xs) (by rw [risen_len, hlen]) hbase hbl (by rw [hlen]; exact h1) h2 h3
      rw [hlen] at hs
      rw [List.length_map, risen_len]
      exact hs
    · have hg := grownBy_sorted (w := w) (g := g) (n := nn) (os := os) (risen xs).toArray
      exact ⟨hg.os, hg.tape, hg.output, hg.size, fun k hk => hg.block k (by omega) (fun e => by injection e with e; omega)⟩
end Go.Proofs.YtmndeoncbocplaaDoor.C
end
