/- Texts that the claim's law stands on, cut down to what it reaches. -/
import Derived.Test.YtmndeoncbocplaaDoorZT3
import Derived.Test.YtmndeoncbocplaaDoorZP
import Derived.Sort.Walk0
import Derived.Shelf.SortM.Plain
import Derived.Shelf.SortM.SortNone
import Derived.Sort.OwnSorted
import Derived.Deep.RegionHeldLaw
import Derived.Deep.RegionHeld3
import Derived.Deep.LoopGhost
import Derived.Test.YtmndeoncbocplaaDoorZK
set_option linter.unusedVariables false
set_option linter.unusedSimpArgs false
section
set_option linter.unusedVariables false
set_option linter.unusedSimpArgs false
namespace Go.Proofs.YtmndeoncbocplaaDoor.C
open Go.RowKit Go.Proofs.YtmndeoncbocplaaDoor.Q Go.Proofs.YtmndeoncbocplaaDoorW.PrintWords Go.Proofs.YtmndeoncbocplaaDoorW.PrintLast Go.Proofs.YtmndeoncbocplaaDoorW.PrintMore
/-- The last name of a path. -/
def lastP (s : ByteArray) : ByteArray := (P.path_Last.f s).getD ⟨#[]⟩
/-- Does a node lie in a directory? -/
def kidB (p : ByteArray) (n : S50) : Bool := !(n.f0.toList == ([47] : List UInt8)) && ((parP n.f0).toList == p.toList)
def kids (t : List S50) (p : ByteArray) : List ByteArray := (t.filter (kidB p)).map fun n => lastP n.f0
def bytesOf (l : List UInt8) : ByteArray := ⟨l.toArray⟩
/-- The names of what lies in a directory, rising. -/
def under (t : List S50) (p : ByteArray) : List (List UInt8) := ((kids t p).map ByteArray.toList).mergeSort fun x y => decide (x ≤ y)
theorem last_p {ns : List (List UInt8)} (hok : Okp ns) (hne : ns ≠ []) : (lastP (pth ns)).toList = ns.getLast hne := by
  have hz := check_len hok.2
  unfold lastP
  rw [P.last_f (pth ns) (by rw [pth_size]; omega) ns (pth_data ns) hok.1]
  rw [Option.getD_some, Lib.toList_data, List.getLast?_eq_some_getLast hne]
  rfl
theorem count_one {α : Type} {p : α → Bool} : ∀ {xs : List α} {a : α}, xs.Nodup → a ∈ xs → (∀ b ∈ xs, p b = true ↔ b = a) → xs.countP p = 1
  | [], a, _, h, _ => by cases h
  | x :: xs, a, hn, hm, hp => by
    obtain ⟨n1, n2⟩ := List.nodup_cons.1 hn
    rw [List.countP_cons]
    by_cases hx : x = a
    · subst hx
      have h0 : xs.countP p = 0 := by
        rw [List.countP_eq_zero]
        intro b hb hpb
        have := (hp b (List.mem_cons_of_mem _ hb)).1 hpb
        exact n1 (this ▸ hb)
      rw [h0, if_pos ((hp x List.mem_cons_self).2 rfl)]
    · have hm2 : a ∈ xs := by
        rcases List.mem_cons.1 hm with h | h
        · exact absurd h.symm hx
        · exact h
      rw [count_one n2 hm2 (fun b hb => hp b (List.mem_cons_of_mem _ hb)), if_neg (fun h => hx ((hp x List.mem_cons_self).1 h))]
/-- The sum so far. -/
def told (t : List S50) (i : Nat) : Nat := ((t.take i).map fun d => (under t d.f0).length).sum
end Go.Proofs.YtmndeoncbocplaaDoor.C
end
section
set_option linter.unusedVariables false
set_option linter.unusedSimpArgs false
namespace Go.Proofs.YtmndeoncbocplaaDoor.C
open Go.RowKit Go.Sort Go.Shelf Go.Proofs.YtmndeoncbocplaaDoor.Q Go.Proofs.YtmndeoncbocplaaDoorW.PrintWords Go.Proofs.YtmndeoncbocplaaDoorW.PrintLast Go.Proofs.YtmndeoncbocplaaDoorW.PrintMore
def lays82_ren : Go.Shelf.Ren := ⟨fun | 6 => 82 | 8 => 107 | 9 => 106 | 19 => 134 | 20 => 135 | 21 => 125 | 22 => 126 | 23 => 127 | 24 => 128 | 25 => 129 | 26 => 130 | 27 => 131 | 28 => 132 | 29 => 133 | 36 => 143 | 31 => 144 | 32 => 145 | 37 => 146 | 38 => 147 | 39 => 148 | 41 => 159 | n => n, fun | 27 => 35 | 29 => 9 | 3 => 3 | 32 => 126 | 26 => 35 | 0 => 0 | 44 => 132 | 46 => 146 | 4 => 4 | 36 => 139 | 35 => 138 | 41 => 105 | 5 => 5 | 9 => 9 | 53 => 150 | 57 => 154 | 63 => 162 | 64 => 163 | n => n, fun | n => n⟩
theorem lays82 : Go.Proofs.SlLaysM.n6 Tryd.prog lays82_ren := {
  mixed := by kernel_rfl
  f6 := ⟨Tryd.f82.name, by decide, Tryd.func82.trans (congrArg some (by kernel_rfl))⟩
  f8 := Tryd.func107.trans (congrArg some (by kernel_rfl))
  f9 := ⟨Tryd.f106.name, by decide, Tryd.func106.trans (congrArg some (by kernel_rfl))⟩
  f19 := Tryd.func134.trans (congrArg some (by kernel_rfl))
  f20 := Tryd.func135.trans (congrArg some (by kernel_rfl))
  f21 := ⟨Tryd.f125.name, by decide, Tryd.func125.trans (congrArg some (by kernel_rfl))⟩
  f22 := ⟨Tryd.f126.name, by decide, Tryd.func126.trans (congrArg some (by kernel_rfl))⟩
  f23 := ⟨Tryd.f127.name, by decide, Tryd.func127.trans (congrArg some (by kernel_rfl))⟩
  f24 := ⟨Tryd.f128.name, by decide, Tryd.func128.trans (congrArg some (by kernel_rfl))⟩
  f25 := ⟨Tryd.f129.name, by decide, Tryd.func129.trans (congrArg some (by kernel_rfl))⟩
  f26 := ⟨Tryd.f130.name, by decide, Tryd.func130.trans (congrArg some (by kernel_rfl))⟩
  f27 := ⟨Tryd.f131.name, by decide, Tryd.func131.trans (congrArg some (by kernel_rfl))⟩
  f28 := ⟨Tryd.f132.name, by decide, Tryd.func132.trans (congrArg some (by kernel_rfl))⟩
  f29 := ⟨Tryd.f133.name, by decide, Tryd.func133.trans (congrArg some (by kernel_rfl))⟩
  f31 := Tryd.func144.trans (congrArg some (by kernel_rfl))
  f32 := Tryd.func145.trans (congrArg some (by kernel_rfl))
  f36 := ⟨Tryd.f143.name, by decide, Tryd.func143.trans (congrArg some (by kernel_rfl))⟩
  f37 := ⟨Tryd.f146.name, by decide, Tryd.func146.trans (congrArg some (by kernel_rfl))⟩
  f38 := ⟨Tryd.f147.name, by decide, Tryd.func147.trans (congrArg some (by kernel_rfl))⟩
  f39 := ⟨Tryd.f148.name, by decide, Tryd.func148.trans (congrArg some (by kernel_rfl))⟩
  f41 := ⟨Tryd.f159.name, by decide, Tryd.func159.trans (congrArg some (by kernel_rfl))⟩
  t0 := Tryd.underlying0
  a0 := Tryd.isAgg0
  z0 := Tryd.sizeOf0
  v0 := Tryd.zeroValue0
  t3 := Tryd.underlying3
  a3 := Tryd.isAgg3
  z3 := Tryd.sizeOf3
  v3 := Tryd.zeroValue3
  t4 := Tryd.underlying4
  a4 := Tryd.isAgg4
  z4 := Tryd.sizeOf4
  v4 := Tryd.zeroValue4
  t5 := Tryd.underlying5
  a5 := Tryd.isAgg5
  z5 := Tryd.sizeOf5
  v5 := Tryd.zeroValue5
  t9 := Tryd.underlying9
  a9 := Tryd.isAgg9
  z9 := Tryd.sizeOf9
  v9 := Tryd.zeroValue9
  t26 := Tryd.underlying35
  a26 := Tryd.isAgg35
  z26 := Tryd.sizeOf35
  v26 := Tryd.zeroValue35
  t27 := Tryd.underlying35
  a27 := Tryd.isAgg35
  z27 := Tryd.sizeOf35
  v27 := Tryd.zeroValue35
  t29 := Tryd.underlying9
  a29 := Tryd.isAgg9
  z29 := Tryd.sizeOf9
  v29 := Tryd.zeroValue9
  t32 := Tryd.underlying126
  a32 := Tryd.isAgg126
  z32 := Tryd.sizeOf126
  v32 := Tryd.zeroValue126
  t35 := Tryd.underlying138
  a35 := Tryd.isAgg138
  z35 := Tryd.sizeOf138
  v35 := Tryd.zeroValue138
  t36 := Tryd.underlying139
  a36 := Tryd.isAgg139
  z36 := Tryd.sizeOf139
  v36 := Tryd.zeroValue139
  t41 := Tryd.underlying105
  a41 := Tryd.isAgg105
  z41 := Tryd.sizeOf105
  v41 := Tryd.zeroValue105
  t44 := Tryd.underlying132
  a44 := Tryd.isAgg132
  z44 := Tryd.sizeOf132
  v44 := Tryd.zeroValue132
  t46 := Tryd.underlying146
  a46 := Tryd.isAgg146
  z46 := Tryd.sizeOf146
  v46 := Tryd.zeroValue146
  t53 := Tryd.underlying150
  a53 := Tryd.isAgg150
  z53 := Tryd.sizeOf150
  v53 := Tryd.zeroValue150
  t57 := Tryd.underlying154
  a57 := Tryd.isAgg154
  z57 := Tryd.sizeOf154
  v57 := Tryd.zeroValue154
  t63 := Tryd.underlying162
  a63 := Tryd.isAgg162
  z63 := Tryd.sizeOf162
  v63 := Tryd.zeroValue162
  t64 := Tryd.underlying163
  a64 := Tryd.isAgg163
  z64 := Tryd.sizeOf163
  v64 := Tryd.zeroValue163 }
/-- Rising, as the sort lays it. -/
def risen (xs : List ByteArray) : List (List UInt8) := (xs.map ByteArray.toList).mergeSort fun x y => decide (x ≤ y)
theorem risen_len (xs : List ByteArray) : (risen xs).length = xs.length := by unfold risen; rw [List.length_mergeSort, List.length_map]
theorem enc_bytes (s : ByteArray) : encStr s.toList = .string s := by
  show Value.string ⟨s.toList.toArray⟩ = .string s
  exact congrArg Value.string (bytes_of_toList (by rw [Lib.toList_data]))
theorem reps_string {w : World} {xs : List ByteArray} {cs : List Value} (h : Reps ((Kd.string).K w) 1 xs cs) : cs = (xs.map ByteArray.toList).map encStr := by
  obtain ⟨hl, hr⟩ := h
  apply List.ext_getElem?
  intro j
  by_cases hj : j < xs.length
  · have h1 := hr j xs[j] (List.getElem?_eq_getElem hj)
    have h2 : (cs.drop (j * 1)).take 1 = [Value.string xs[j]] := h1
    have h3 := congrArg (fun l : List Value => l[0]?) h2
    simp only [List.getElem?_take, List.getElem?_drop] at h3
    rw [show j * 1 + 0 = j by omega] at h3
    simp at h3
    rw [h3]
    simp [hj, enc_bytes]
  · rw [List.getElem?_eq_none (by omega), List.getElem?_eq_none (by simp; omega)]
theorem reps_of_enc {w : World} (ts : List (List UInt8)) : Reps ((Kd.string).K w) 1 (ts.map bytesOf) (ts.map encStr) := by
  refine ⟨by simp, fun j p hj => ?_⟩
  show ((ts.map encStr).drop (j * 1)).take 1 = [Value.string p]
  rw [Nat.mul_one]
  rw [List.getElem?_map] at hj
  cases ht : ts[j]? with
  | none => rw [ht] at hj; cases hj
  | some x =>
    rw [ht] at hj
    have hp : bytesOf x = p := by simpa using hj
    obtain ⟨hlt, hx⟩ := List.getElem?_eq_some_iff.1 ht
    rw [← hp, ← List.map_drop, List.drop_eq_getElem_cons hlt, hx]
    rfl
theorem sort_row {wp w : World} {base : Nat} {v : Value} {xs : List ByteArray} (h : OwnRow ((Kd.string).K wp) 9 1 w base v xs) (hb : base ≤ w.heap.size) (hn : xs.length < 1000000) :
    Calls Tryd.prog 82 #[v] w fun e w' => e = .returned (.tuple #[]) ∧ OwnRow ((Kd.string).K wp) 9 1 w' base v ((risen xs).map bytesOf) ∧ Below base w w' := by
  obtain ⟨inner, ho, hr⟩ := h
  have hi := reps_string hr
  subst hi
  rcases ho.2 with ⟨hv, hz⟩ | ⟨g, cap, cur, rfl, hbase, hbl, h1, h2, h3, h4⟩
  · subst hv
    have hx : xs = [] := List.eq_nil_of_length_eq_zero hz
    subst hx
    refine (AnyM.slices_Sort_string_none lays82 none 0 w).mono ?_
    rintro e w' ⟨rfl, rfl⟩
    exact ⟨rfl, by
      have e0 : (risen []).map bytesOf = [] := List.eq_nil_of_length_eq_zero (by rw [List.length_map, risen_len]; rfl)
      rw [e0]; exact OwnRow.none_ _ _ _ _ _, Below.refl _ _⟩
  · have hlen : (xs.map ByteArray.toList).length = xs.length := List.length_map _
    have ht : cur.toList.take (xs.map ByteArray.toList).length = (xs.map ByteArray.toList).map encStr := by rw [hlen]; simpa using h4
    have hH := holds_of_block hbl ht
    have hc := AnyM.slices_Sort_string lays82 g 0 cap (xs.map ByteArray.toList) w hH (Array.getElem?_eq_some_iff.1 hbl).1 (by rw [hlen]; omega)
    rw [hlen] at hc
    refine Calls.mono hc ?_
    rintro e w' ⟨rfl, nn, os, rfl⟩
    refine ⟨rfl, ⟨(risen xs).map encStr, ?_, reps_of_enc _⟩, ?_⟩
    · have hs := ownsRow_sorted (n := nn) (os := os) (ss := xs.map ByteArray.toList) (ts := risen xs) (by rw [risen_len, hlen]) hbase hbl (by rw [hlen]; exact h1) h2 h3
      rw [hlen] at hs
      rw [List.length_map, risen_len]
      exact hs
    · have hg := grownBy_sorted (w := w) (g := g) (n := nn) (os := os) (risen xs).toArray
      exact ⟨hg.os, hg.tape, hg.output, hg.size, fun k hk => hg.block k (by omega) (fun e => by injection e with e; omega)⟩
end Go.Proofs.YtmndeoncbocplaaDoor.C
end
section
set_option linter.unusedVariables false
set_option linter.unusedSimpArgs false
namespace Go.Proofs.YtmndeoncbocplaaDoor.C
open Go.RowKit Go.Proofs.YtmndeoncbocplaaDoor.Q Go.Proofs.YtmndeoncbocplaaDoorW.PrintWords Go.Proofs.YtmndeoncbocplaaDoorW.PrintLast Go.Proofs.YtmndeoncbocplaaDoorW.PrintMore
attribute [local go_sem ↓] rd_at50 wr_at50 al_at50
attribute [local go_sem] rd50_new wr50_new al50
theorem inf9 : (Tryd.prog.info? 9).map (fun i => (i.zero, i.size, i.bytes)) = some (some (.string ⟨#[]⟩), 1, 16) := by kernel_rfl
theorem kids_no {l : List S50} {p : ByteArray} {i : Nat} (h : i < l.length) (hk : kidB p l[i] = false) : kids (l.take (i + 1)) p = kids (l.take i) p := by
  unfold kids
  rw [List.take_succ_eq_append_getElem h, List.filter_append, List.map_append]
  simp [hk]
theorem kids_yes {l : List S50} {p : ByteArray} {i : Nat} (h : i < l.length) (hk : kidB p l[i] = true) : kids (l.take (i + 1)) p = kids (l.take i) p ++ [lastP l[i].f0] := by
  unfold kids
  rw [List.take_succ_eq_append_getElem h, List.filter_append, List.map_append]
  simp [hk]
theorem kids_le (l : List S50) (p : ByteArray) : (kids l p).length ≤ l.length := by
  unfold kids
  rw [List.length_map]
  exact List.length_filter_le _ _
set_option maxHeartbeats 4000000 in
set_option maxRecDepth 100000 in
theorem under_c (l : List S50) (p : ByteArray) (A : Option Addr) (c : Nat) (w : World) (hC : Kd.C k50 w A l.length l) (hc : l.length ≤ c) (hn : l.length < 1000000) (hPar : ∀ n ∈ l, ∃ q, P.path_Parent.f n.f0 = some q) (hLast : ∀ n ∈ l, ∃ q, P.path_Last.f n.f0 = some q) :
    Calls Tryd.prog 52 #[.slice A l.length c, .string p] w fun e w' => ∃ U cu, e = .returned (.slice U (under l p).length cu) ∧ (under l p).length ≤ cu ∧ Kd.C Kd.string w' U (under l p).length ((under l p).map bytesOf) ∧ Below w.heap.size w w' := by
  have HC := Lib.hid hC
  have HPAR := Lib.hid hPar
  have HLAST := Lib.hid hLast
  clear hC hPar hLast
  go_enter Tryd.func52, Tryd.ntmps52
  go_wp2
  go_loopg [5, 10] l.length (fun k s5 s10 wr => ∃ (i : Nat) (v : Value), i ≤ l.length ∧ l.length - i ≤ k ∧ s5 = v ∧ s10 = .int .i64 i ∧ Hid (OwnRow ((Kd.string).K w) 9 1 wr w.heap.size v (kids (l.take i) p)) ∧ Hid (Below w.heap.size w wr))
  case atStart => exact ⟨0, .slice none 0 0, Nat.zero_le _, Nat.le_refl _, rfl, rfl, Lib.hid (OwnRow.none_ _ _ _ _ _), Lib.hid (Below.refl _ _)⟩
  case round =>
    obtain ⟨i, v, hi, hik, rfl, rfl, HO, HB⟩ := hrel
    obtain ⟨W0, hW⟩ : ∃ W, W = wr := ⟨_, rfl⟩
    subst hW
    by_cases hlt : i < l.length
    · obtain ⟨Ao, co, hs, hco, _⟩ := OwnRow.reads HO.out
      subst hs
      obtain ⟨ad, B6, e6, B11, e11, hA, hcs, _⟩ := at50 HC.out HB.out i hlt
      subst hA
      have HM := Lib.hid (List.getElem_mem (l := l) (n := i) hlt)
      have HNO := Lib.hid (fun hk => kids_no (p := p) hlt hk)
      have HYES := Lib.hid (fun hk => kids_yes (p := p) hlt hk)
      have HKL := Lib.hid (kids_le (l.take i) p)
      generalize (l[i]'hlt) = n at hcs HM HNO HYES
      have hld : (rdS 50 (.pointer (some (ad.add (i * 16))))).run Tryd.prog W0 = .ok (.agg #[.string n.f0, .bool n.f1, .int .i64 n.f2.f0, .int .i64 n.f2.f1, .int .i64 n.f2.f2, .int .i64 n.f2.f3, .slice B6 n.f3.length e6, .int .i64 n.f4.f0, .int .i64 n.f4.f1, .int .i64 n.f4.f2, .int .i64 n.f4.f3, .slice B11 n.f5.length e11, .int .i64 n.f6.f0, .int .i64 n.f6.f1, .int .i64 n.f6.f2, .int .i64 n.f6.f3]) W0 := rd50_of (loadC50 (P := Tryd.prog) hcs)
      obtain ⟨q, hq⟩ := HPAR.out n HM.out
      have hpq : parP n.f0 = q := by unfold parP; rw [hq]; rfl
      have HQ := Lib.hid fun w1 => P.path_Parent.calls n.f0 q w1 hq
      obtain ⟨x, hx⟩ := HLAST.out n HM.out
      have hlx : lastP n.f0 = x := by unfold lastP; rw [hx]; rfl
      have HX := Lib.hid fun w1 => P.path_Last.calls n.f0 x w1 hx
      have HKB := Lib.hid (show kidB p n = (!(n.f0.toList == ([47] : List UInt8)) && (q.toList == p.toList)) by unfold kidB; rw [hpq])
      rw [hlx] at HYES
      have HE0 := Lib.hid (blk_new W0 (.cells #[.string n.f0, .bool n.f1, .int .i64 n.f2.f0, .int .i64 n.f2.f1, .int .i64 n.f2.f2, .int .i64 n.f2.f3, .slice B6 n.f3.length e6, .int .i64 n.f4.f0, .int .i64 n.f4.f1, .int .i64 n.f4.f2, .int .i64 n.f4.f3, .slice B11 n.f5.length e11, .int .i64 n.f6.f0, .int .i64 n.f6.f1, .int .i64 n.f6.f2, .int .i64 n.f6.f3] 50))
      have HJ0 := Lib.hid (below_alloc (Below.refl W0.heap.size W0) (.cells #[.string n.f0, .bool n.f1, .int .i64 n.f2.f0, .int .i64 n.f2.f1, .int .i64 n.f2.f2, .int .i64 n.f2.f3, .slice B6 n.f3.length e6, .int .i64 n.f4.f0, .int .i64 n.f4.f1, .int .i64 n.f4.f2, .int .i64 n.f4.f3, .slice B11 n.f5.length e11, .int .i64 n.f6.f0, .int .i64 n.f6.f1, .int .i64 n.f6.f2, .int .i64 n.f6.f3] 50))
      have s0 := (blk_cell HE0.out 0).trans rfl
      clear hcs hq hx hpq hlx
      by_cases hroot : n.f0.toList = [47]
      · have hr1 : (n.f0.toList == ([47] : List UInt8)) = true := by rw [hroot]; rfl
        have HK := HKB.out
        rw [hr1] at HK
        have HN := Lib.hid (HNO.out HK)
        clear HK hroot
        go_wp2
        go_roundg (l.length - (i + 1))
        case measure => omega
        case rel => exact ⟨i + 1, _, hlt, Nat.le_refl _, rfl, by go_num, Lib.hid (by rw [HN.out]; exact OwnRow.below HO.out HJ0.out), Lib.hid (below_step HB.out HJ0.out)⟩
      · have hr1 : (n.f0.toList == ([47] : List UInt8)) = false := beq_eq_false_iff_ne.2 hroot
        have hr2 : (n.f0.toList = ([47] : List UInt8)) = False := eq_false hroot
        clear hroot
        by_cases hpp : q.toList = p.toList
        · have hp1 : (q.toList == p.toList) = true := beq_iff_eq.2 hpp
          have HK := HKB.out
          rw [hr1, hp1] at HK
          have HN := Lib.hid (HYES.out HK)
          clear HK hpp
          go_wp2_with (first | (go_at_call 26; refine (HQ.out _).mono ?_; rintro e w1 ⟨rfl, hb⟩; have HJ1 := Lib.hid (below_step HJ0.out hb); have s0 := (blk_cell (blk_below HE0.out hb) 0).trans rfl; have HE1 := Lib.hid (blk_below HE0.out hb); clear hb) | (go_at_call 30; have hg := HJ1.out; clear hg; refine (HX.out _).mono ?_; rintro e w2 ⟨rfl, hb⟩; have HJ2 := Lib.hid (below_step HJ1.out hb.below); clear hb) | (at_builtin; go_loud (refine OwnRow.append w.heap.size rfl _ _ 35 9 (.string ⟨#[]⟩) 1 16 rfl Tryd.underlying35 inf9 rfl (by decide) (by decide) (.slice Ao (kids (l.take i) p).length co) (kids (l.take i) p) x [.string x] rfl (by first | rfl | (rw [World.size_alloc]; rfl)) rfl rfl (by simp [Value.oneCell']) (OwnRow.below HO.out HJ2.out) (below_step HB.out HJ2.out) (below_size (below_step HB.out HJ2.out)) (by have := HKL.out; rw [List.length_take] at this; omega) ?_; intro v1 w3 hO hB hg hat; have HO1 := Lib.hid hO; have HB1 := Lib.hid hB; clear hO hB hg hat)))
          go_roundg (l.length - (i + 1))
          case measure => omega
          case rel => exact ⟨i + 1, _, hlt, Nat.le_refl _, rfl, by go_num, Lib.hid (by rw [HN.out]; exact HO1.out), HB1⟩
        · have hp1 : (q.toList == p.toList) = false := beq_eq_false_iff_ne.2 hpp
          have HK := HKB.out
          rw [hr1, hp1] at HK
          have HN := Lib.hid (HNO.out HK)
          clear HK hpp
          go_wp2_with (go_at_call 26; go_loud (refine (HQ.out _).mono ?_; rintro e w1 ⟨rfl, hb⟩; have HJ1 := Lib.hid (below_step HJ0.out hb); clear hb))
          go_roundg (l.length - (i + 1))
          case measure => omega
          case rel => exact ⟨i + 1, _, hlt, Nat.le_refl _, rfl, by go_num, Lib.hid (by rw [HN.out]; exact OwnRow.below HO.out HJ1.out), Lib.hid (below_step HB.out HJ1.out)⟩
    · obtain rfl : i = l.length := by omega
      have HO' := HO.out
      rw [List.take_length] at HO'
      have HS := Lib.hid (sort_row HO' (below_size HB.out) (by have := kids_le l p; omega))
      clear HO'
      go_wp2_with (go_at_call 82; refine HS.out.mono ?_; rintro e w1 ⟨rfl, hO, hb⟩; have HO1 := Lib.hid hO; have HB1 := Lib.hid (below_join HB.out hb (Nat.le_refl _)); clear hO hb)
      obtain ⟨U, cu, rfl, hcu, hR⟩ := OwnRow.reads HO1.out
      rw [List.length_map] at hcu hR
      go_ret
      refine ⟨U, cu, by rw [List.length_map]; rfl, hcu, ?_, HB1.out⟩
      exact ReadsRow.imp_ hR (Below.refl _ _) (fun _ _ h => h)
end Go.Proofs.YtmndeoncbocplaaDoor.C
end
section
set_option linter.unusedVariables false
set_option linter.unusedSimpArgs false
namespace Go.Proofs.YtmndeoncbocplaaDoor.C
open Go.RowKit Go.Proofs.YtmndeoncbocplaaDoor.Q Go.Proofs.YtmndeoncbocplaaDoorW.PrintWords Go.Proofs.YtmndeoncbocplaaDoorW.PrintLast Go.Proofs.YtmndeoncbocplaaDoorW.PrintMore
attribute [local go_sem ↓] rd_at50 wr_at50 al_at50
attribute [local go_sem] rd50_new wr50_new al50
theorem str_at {w W : World} {A : Option Addr} {n : Nat} {xs : List ByteArray} (hC : Kd.C Kd.string w A n xs) (hn : n = xs.length) (hb : Below w.heap.size w W) (i : Nat) (hi : i < xs.length) : ∃ ad, A = some ad ∧ W.cell? (ad.add i) = some (.string (xs[i]'hi)) := by
  subst hn
  obtain ⟨ad, e, h⟩ := Kd.at_string hC (i : Int) (by omega) (by omega)
  refine ⟨ad, e, pw_cell_below hb ?_⟩
  rw [Int.toNat_natCast] at h
  rw [h]
  unfold rdOf
  rw [Int.toNat_natCast, List.getD_eq_getElem?_getD, List.getElem?_eq_getElem hi]
  rfl
end Go.Proofs.YtmndeoncbocplaaDoor.C
end
