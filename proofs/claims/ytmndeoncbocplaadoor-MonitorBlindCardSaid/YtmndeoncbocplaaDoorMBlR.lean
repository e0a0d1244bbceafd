/- Texts that the claim's law stands on, cut down to what it reaches. -/
import Derived.Test.YtmndeoncbocplaaDoorMF2
import Derived.Deep.RegionHeldLaw
import Derived.Deep.RegionHeld3
import Derived.Deep.LoopGhost
set_option linter.unusedVariables false
set_option linter.unusedSimpArgs false
section
set_option linter.unusedVariables false
set_option linter.unusedSimpArgs false
namespace Go.Proofs.YtmndeoncbocplaaDoor.C
open Go.RowKit Go.Proofs.YtmndeoncbocplaaDoor.Q Go.Proofs.YtmndeoncbocplaaDoorW.PrintWords Go.Proofs.YtmndeoncbocplaaDoorW.PrintLast Go.Proofs.YtmndeoncbocplaaDoorW.PrintMore
attribute [local go_sem ↓] rd_at50 wr_at50 al_at50
attribute [local go_sem] rd50_new wr50_new al50
theorem wr_at55 (x v : Value) : Instr.storeAt 55 x v = wrS 55 x v := wr_at 55 x v
theorem al_at55 (b : Bool) (v : Value) : Instr.alloc 55 b v = alS 55 b v := al_at 55 b v
theorem al55 (w : World) : (alS 55 true (.tuple #[])).run Tryd.prog w = .ok (.pointer (some ⟨w.heap.size, 0, none⟩)) (w.alloc (.cells #[.string (⟨#[]⟩ : ByteArray), .int .i64 0, .int .i64 0, .int .i64 0, .int .i64 0] 55)) := by
  rw [← al_at]
  have hz := Tryd.zeroValue55
  go_simp
theorem wr55_new (w : World) (p : ByteArray) (p0 p1 p2 p3 : Int) (q : ByteArray) (q0 q1 q2 q3 : Int) : (wrS 55 (.pointer (some ⟨w.heap.size, 0, none⟩)) (.agg #[.string q, .int .i64 q0, .int .i64 q1, .int .i64 q2, .int .i64 q3])).run Tryd.prog (w.alloc (.cells #[.string p, .int .i64 p0, .int .i64 p1, .int .i64 p2, .int .i64 p3] 55)) = .ok () (w.alloc (.cells #[.string q, .int .i64 q0, .int .i64 q1, .int .i64 q2, .int .i64 q3] 55)) := by
  rw [← wr_at]
  exact run_storeAt_new w 55 #[.string p, .int .i64 p0, .int .i64 p1, .int .i64 p2, .int .i64 p3] #[.string q, .int .i64 q0, .int .i64 q1, .int .i64 q2, .int .i64 q3] (by kernel_rfl) rfl (by simp [Value.oneCell'])
theorem wr55_blk {W : World} {g : Nat} {old cs : Array Value} (hg : W.heap[g]? = some (.cells old 55 (0, 0))) (ho : old.size = 5) (hi : cs.size = 5) (h1 : cs.all (·.oneCell') = true) : (wrS 55 (.pointer (some ⟨g, 0, none⟩)) (.agg cs)).run Tryd.prog W = .ok () (W.setRow g cs) :=
  wr_row hg (by rw [hi]; kernel_rfl) (by rw [ho, hi]) h1
def parS (p : ByteArray) : ByteArray := (donjonref7_Parent.f 2000 p).getD ⟨#[]⟩
def lowB (t : List S50) (a : S41) (n : S50) : Bool := !(isN t (parS n.f0)) || lover a (nodeN t (parS n.f0)).f2
theorem upP_zero' : ∀ ns : List (List UInt8), ns = [] → donjonref7_Parent.f 2000 (pth ns) = some ⟨#[]⟩ := by
  rintro ns rfl
  unfold donjonref7_Parent.f
  rw [if_pos (by rw [pth_size]; decide)]
theorem parS_pth {ns : List (List UInt8)} (hok : Okp ns) : parS (pth ns) = if ns = [] then ⟨#[]⟩ else pth ns.dropLast := by
  unfold parS
  by_cases h : ns = []
  · rw [upP_zero' ns h, if_pos h]; rfl
  · rw [rparent_f ns hok.1 h hok.2 2000 (by omega), if_neg h]; rfl
theorem parent_any {t : List S50} (T : Tree t) {n : S50} (hn : n ∈ t) : donjonref7_Parent.f 2000 n.f0 = some (parS n.f0) := by
  obtain ⟨ns, hok, hp⟩ := tree_path T hn
  rw [hp]
  by_cases h : ns = []
  · rw [parS_pth hok, if_pos h, upP_zero' ns h]
  · rw [parS_pth hok, if_neg h, rparent_f ns hok.1 h hok.2 2000 (by omega)]
theorem no_empty {t : List S50} (T : Tree t) : isN t ⟨#[]⟩ = false := by
  cases h : isN t ⟨#[]⟩ with
  | false => rfl
  | true =>
    obtain ⟨h1, h2⟩ := is_mem h
    obtain ⟨ns, _, hp⟩ := tree_path T h1
    rw [h2] at hp
    have := congrArg (fun b : ByteArray => b.data.toList) hp
    simp only at this
    rw [pth_data] at this
    exact absurd this.symm (L.render_ne ns)
theorem low_asc {t : List S50} (T : Tree t) (a : S41) : Asc (t.filter (lowB t a)) := List.Pairwise.filter _ T.asc
theorem low_srch {t : List S50} (T : Tree t) (a : S41) : Srch (t.filter (lowB t a)) ∧ ∀ n ∈ t.filter (lowB t a), Acls n :=
  ⟨⟨by have := List.length_filter_le (lowB t a) t; have := T.len; omega, fun q => asc_rising (low_asc T a) q, fun n hn => node_fits (T.ok n (List.mem_filter.1 hn).1)⟩, fun n hn => node_acls (T.ok n (List.mem_filter.1 hn).1)⟩
/-- A node whose directory may be seen is told the same. -/
theorem low_at {t : List S50} (T : Tree t) (a : S41) (ns : List (List UInt8)) (hN : ∀ x ∈ ns, L.Nm x) (hv : ns ≠ [] → lover a (nodeN t (pth ns.dropLast)).f2 = true) : isN (t.filter (lowB t a)) (pth ns) = isN t (pth ns) ∧ nodeN (t.filter (lowB t a)) (pth ns) = nodeN t (pth ns) := by
  have hmem : ∀ n, n ∈ t → n.f0 = pth ns → n ∈ t.filter (lowB t a) := fun n hn he => by
    rw [List.mem_filter]
    refine ⟨hn, ?_⟩
    obtain ⟨ms, hok, hp⟩ := tree_path T hn
    have hms : ns = ms := pth_inj hN hok.1 (he.symm.trans hp)
    subst hms
    unfold lowB
    rw [hp, parS_pth hok]
    by_cases h : ns = []
    · rw [if_pos h, no_empty T]; rfl
    · rw [if_neg h, hv h, Bool.or_true]
  cases h : isN t (pth ns) with
  | true =>
    obtain ⟨k1, k2⟩ := is_mem h
    have a1 := is_at (low_asc T a) (hmem _ k1 k2)
    rw [k2] at a1
    exact a1
  | false =>
    cases h2 : isN (t.filter (lowB t a)) (pth ns) with
    | true =>
      obtain ⟨k1, k2⟩ := is_mem h2
      have a1 := (is_at T.asc (List.mem_filter.1 k1).1).1
      rw [k2, h] at a1
      cases a1
    | false => exact ⟨rfl, by unfold nodeN; rw [h, h2]; rfl⟩
theorem low_see {t : List S50} (T : Tree t) (a : S41) : ∀ (rest pre : List (List UInt8)), (∀ x ∈ pre ++ rest, L.Nm x) → (pre ≠ [] → lover a (nodeN t (pth pre.dropLast)).f2 = true) → seeR (t.filter (lowB t a)) a pre rest = seeR t a pre rest
  | [], pre, hN, hv => by
    obtain ⟨e1, e2⟩ := low_at T a pre (fun x hx => hN x (List.mem_append_left _ hx)) hv
    unfold seeR
    rw [e1, e2]
  | m :: rest, pre, hN, hv => by
    obtain ⟨e1, e2⟩ := low_at T a pre (fun x hx => hN x (List.mem_append_left _ hx)) hv
    unfold seeR
    rw [e1, e2]
    split
    · split
      · split
        · rename_i hl
          exact low_see T a rest (pre ++ [m]) (by rw [List.append_assoc]; exact hN) (fun _ => by rw [List.dropLast_concat]; exact hl)
        · rfl
      · rfl
    · rfl
theorem low_may {t : List S50} (T : Tree t) (a : S41) (u : ByteArray) (ns : List (List UInt8)) (hN : ∀ x ∈ ns, L.Nm x) (m : Int) : mayR (t.filter (lowB t a)) a u ns m = mayR t a u ns m := by
  unfold mayR
  rw [low_see T a ns [] hN (fun h => absurd rfl h)]
/-- What is told of a change, in a row such as may be searched. -/
theorem chg_two {t : List S50} (T : Tree t) (a : S41) (u : ByteArray) (ns : List (List UInt8)) (hok : Okp ns) : ∃ (y : S50) (k : Int), ∀ (l : List S50), (l = t ∨ l = t.filter (lowB t a)) → ∀ (A : Option Addr) (c : Nat) (w : World), Kd.C k50 w A l.length l → l.length ≤ c → Calls Tryd.prog 46 #[.slice A l.length c, .agg #[.string u, .int .i64 a.f0, .int .i64 a.f1, .int .i64 a.f2, .int .i64 a.f3], .string (pth ns)] w (NodeE y k w) := by
  have hx : L.checkL (pth ns).data.toList = 0 := by rw [pth_data]; exact hok.2
  by_cases hne : ns = []
  · subst hne
    exact ⟨z50, 1, fun l _ A c w _ _ => change_root _ hx root_eq u a A l.length c w⟩
  · have hd : Okp ns.dropLast := ⟨fun x hx => hok.1 x (List.dropLast_subset ns hx), drop_ok hok hne⟩
    refine ⟨_, _, fun l hl A c w hC hc => change_up (pth ns) (pth ns.dropLast) hx (eq_root ns hok.1 hne) u a (mayR t a u ns.dropLast 2).1 (mayR t a u ns.dropLast 2).2 A l.length c w (fun w1 => P.path_Parent.calls (pth ns) _ w1 (pparent_f hok hne)) (fun w1 h1 => ?_)⟩
    rcases hl with rfl | rfl
    · exact may_c l u a ns.dropLast 2 A c w1 (Kd.C_below hC h1) hc (tree_srch T) (tree_acls T) hd.1 hd.2
    · have h := may_c (t.filter (lowB t a)) u a ns.dropLast 2 A c w1 (Kd.C_below hC h1) hc (low_srch T a).1 (low_srch T a).2 hd.1 hd.2
      rw [low_may T a u ns.dropLast hd.1 2] at h
      exact h
section
attribute [local go_sem ↓] wr_at55 al_at55
attribute [local go_sem] wr55_new al55
set_option maxHeartbeats 8000000 in
set_option maxRecDepth 1000000 in
theorem rb14 (who : Int) (ga : Nat) (u : ByteArray) (a : S41) (u0 u1 u3 u4 u5 u6 u7 u8 u9 u11 u12 u13 u14 u15 u16 u17 u18 u19 u20 u21 u22 u23 u24 u25 u26 u27 u28 u29 u30 u31 u32 u33 u34 u35 u36 u37 u38 u39 u40 u41 u42 u43 u44 u45 u46 u47 u48 u49 u50 u51 u52 u53 u54 u55 u56 u57 u58 u59 u60 u61 u62 u63 u64 u65 u66 u67 u68 u69 u70 u71 u72 u73 u74 u75 u76 u77 u78 u79 u80 u81 u82 u83 u84 u85 u86 u87 u88 u89 u90 u91 u92 u93 u94 u95 u96 u97 u98 u99 u100 u101 u102 u103 u104 u105 u106 u107 u108 u109 u110 u111 u112 u113 u114 u115 u116 u117 u118 u119 u120 u121 u122 u123 u124 u125 u126 u127 u128 u129 u130 u131 u132 u133 u134 u135 u136 u137 u138 u139 u140 u141 u142 u143 u144 u145 u146 u147 u148 u149 u150 u151 u152 u153 u154 u155 u156 u157 u158 u159 u160 u161 u162 u163 u164 u165 u166 u167 u168 u169 : Value) (W : World) (Q : Exit → Act → World → Prop)
    (hEA : W.heap[ga]? = some (.cells #[.int .i64 a.f0, .int .i64 a.f1, .int .i64 a.f2, .int .i64 a.f3] 41 (0, 0)))
    (hU : ∀ w1 : World, Calls Tryd.prog 36 #[.int .i64 who] w1 fun e w' => e = .returned (.string u) ∧ Below w1.heap.size w1 w')
    (hpost : ∀ (g : Nat) (w' : World) (t82 t83 t84 t85 : Value), w'.heap[g]? = some (.cells #[.string u, .int .i64 a.f0, .int .i64 a.f1, .int .i64 a.f2, .int .i64 a.f3] 55 (0, 0)) → Below W.heap.size W w' → Q .normal ⟨#[u0, u1, .int .i64 who, u3, u4, u5, u6, u7, u8, u9, .pointer (some ⟨ga, 0, none⟩), u11, u12, u13, u14, u15, u16, u17, u18, u19, .pointer (some ⟨g, 0, none⟩), u21, u22, u23, u24, u25, u26, u27, u28, u29, u30, u31, u32, u33, u34, u35, u36, u37, u38, u39, u40, u41, u42, u43, u44, u45, u46, u47, u48, u49, u50, u51, u52, u53, u54, u55, u56, u57, u58, u59, u60, u61, u62, u63, u64, u65, u66, u67, u68, u69, u70, u71, u72, u73, u74, u75, u76, u77, u78, u79, u80, u81, t82, t83, t84, t85, u86, u87, u88, u89, u90, u91, u92, u93, u94, u95, u96, u97, u98, u99, u100, u101, u102, u103, u104, u105, u106, u107, u108, u109, u110, u111, u112, u113, u114, u115, u116, u117, u118, u119, u120, u121, u122, u123, u124, u125, u126, u127, u128, u129, u130, u131, u132, u133, u134, u135, u136, u137, u138, u139, u140, u141, u142, u143, u144, u145, u146, u147, u148, u149, u150, u151, u152, u153, u154, u155, u156, u157, u158, u159, u160, u161, u162, u163, u164, u165, u166, u167, u168, u169], []⟩ w') :
    Code.wp Tryd.prog (cReg Tryd.f13 14) Q ⟨#[u0, u1, .int .i64 who, u3, u4, u5, u6, u7, u8, u9, .pointer (some ⟨ga, 0, none⟩), u11, u12, u13, u14, u15, u16, u17, u18, u19, u20, u21, u22, u23, u24, u25, u26, u27, u28, u29, u30, u31, u32, u33, u34, u35, u36, u37, u38, u39, u40, u41, u42, u43, u44, u45, u46, u47, u48, u49, u50, u51, u52, u53, u54, u55, u56, u57, u58, u59, u60, u61, u62, u63, u64, u65, u66, u67, u68, u69, u70, u71, u72, u73, u74, u75, u76, u77, u78, u79, u80, u81, u82, u83, u84, u85, u86, u87, u88, u89, u90, u91, u92, u93, u94, u95, u96, u97, u98, u99, u100, u101, u102, u103, u104, u105, u106, u107, u108, u109, u110, u111, u112, u113, u114, u115, u116, u117, u118, u119, u120, u121, u122, u123, u124, u125, u126, u127, u128, u129, u130, u131, u132, u133, u134, u135, u136, u137, u138, u139, u140, u141, u142, u143, u144, u145, u146, u147, u148, u149, u150, u151, u152, u153, u154, u155, u156, u157, u158, u159, u160, u161, u162, u163, u164, u165, u166, u167, u168, u169], []⟩ W := by
  have EA := Lib.hid hEA
  have hga := blk_lt hEA
  have HU := Lib.hid hU
  have HPO := Lib.hid hpost
  have ka0 := (blk_cell (blk_below EA.out (Below.refl W.heap.size W)) 0).trans rfl
  have ka1 := (blk_cell (blk_below EA.out (Below.refl W.heap.size W)) 1).trans rfl
  have ka2 := (blk_cell (blk_below EA.out (Below.refl W.heap.size W)) 2).trans rfl
  have ka3 := (blk_cell (blk_below EA.out (Below.refl W.heap.size W)) 3).trans rfl
  clear hEA hU hpost
  conv => arg 2; whnf
  refine wp_region_noPanic ?_
  go_region_held_law (fun W1 => W1.cell? ⟨ga, 0, none⟩ = some (.int .i64 a.f0) ∧ W1.cell? ⟨ga, 1, none⟩ = some (.int .i64 a.f1) ∧ W1.cell? ⟨ga, 2, none⟩ = some (.int .i64 a.f2) ∧ W1.cell? ⟨ga, 3, none⟩ = some (.int .i64 a.f3)) (first | go_keep | (refine ⟨?_, ?_, ?_, ?_⟩ <;> (rw [cell_setRow_other _ _ _ _ (by show ga ≠ _; omega)]; assumption)))
    ((go_at_call 36; (refine (HU.out _).mono ?_; rintro e w5 ⟨rfl, hb⟩; have HB5 := Lib.hid (below_step (show Below W.heap.size W _ by repeat (first | exact HB6.out | exact HB5.out | exact Below.refl _ _ | apply below_alloc | apply below_drew1)) hb); have hs5 := below_size HB5.out; (first | (have EN := Lib.hid (show w5.heap[W.heap.size]? = some (.cells #[.string (⟨#[]⟩ : ByteArray), .int .i64 0, .int .i64 0, .int .i64 0, .int .i64 0] 55) from blk_below (blk_new W (.cells #[.string (⟨#[]⟩ : ByteArray), .int .i64 0, .int .i64 0, .int .i64 0, .int .i64 0] 55)) hb); have hst := wr55_blk (cs := #[.string u, .int .i64 a.f0, .int .i64 a.f1, .int .i64 a.f2, .int .i64 a.f3]) EN.out rfl rfl (by simp [Value.oneCell'])) | (have EN := Lib.hid (show w5.heap[W.heap.size]? = some (.cells #[.string (⟨#[]⟩ : ByteArray), .int .i64 0, .int .i64 0, .int .i64 0, .int .i64 0] 55) from blk_below (blk_new W.drew (.cells #[.string (⟨#[]⟩ : ByteArray), .int .i64 0, .int .i64 0, .int .i64 0, .int .i64 0] 55)) hb); have hst := wr55_blk (cs := #[.string u, .int .i64 a.f0, .int .i64 a.f1, .int .i64 a.f2, .int .i64 a.f3]) EN.out rfl rfl (by simp [Value.oneCell'])) | (have EN := Lib.hid (show w5.heap[W.heap.size]? = some (.cells #[.string (⟨#[]⟩ : ByteArray), .int .i64 0, .int .i64 0, .int .i64 0, .int .i64 0] 55) from blk_below (blk_drew (blk_new W (.cells #[.string (⟨#[]⟩ : ByteArray), .int .i64 0, .int .i64 0, .int .i64 0, .int .i64 0] 55))) hb); have hst := wr55_blk (cs := #[.string u, .int .i64 a.f0, .int .i64 a.f1, .int .i64 a.f2, .int .i64 a.f3]) EN.out rfl rfl (by simp [Value.oneCell'])) | have EN := Lib.hid True.intro); have ka0 := (blk_cell (blk_below EA.out HB5.out) 0).trans rfl; have ka1 := (blk_cell (blk_below EA.out HB5.out) 1).trans rfl; have ka2 := (blk_cell (blk_below EA.out HB5.out) 2).trans rfl; have ka3 := (blk_cell (blk_below EA.out HB5.out) 3).trans rfl; clear hb)))
  all_goals refine NoPanic.normal ?_
  all_goals refine HPO.out _ _ _ _ _ _ ?_ ?_
  all_goals first
    | exact below_alloc HB5.out _
    | exact below_setRow HB5.out (Nat.le_refl _) _
    | exact blk_new _ _
    | exact setRow_heap _ _ _ _ _ _ EN.out
end
set_option maxHeartbeats 8000000 in
set_option maxRecDepth 1000000 in
theorem rb22 (A : Option Addr) (n c gs : Nat) (p u : ByteArray) (mode k7 : Int) (a : S41) (x : S50) (k : Int) (u0 u1 u2 u3 u4 u6 u7 u8 u9 u10 u11 u12 u13 u14 u16 u17 u18 u19 u21 u23 u24 u25 u26 u27 u28 u29 u30 u31 u32 u33 u34 u35 u36 u37 u38 u39 u40 u41 u42 u43 u44 u45 u46 u47 u48 u49 u50 u51 u52 u53 u54 u55 u56 u57 u58 u59 u60 u61 u62 u63 u64 u65 u66 u67 u68 u69 u70 u71 u72 u73 u74 u75 u76 u77 u78 u79 u80 u81 u82 u83 u84 u85 u86 u87 u88 u89 u90 u91 u92 u93 u94 u95 u96 u97 u98 u99 u100 u101 u102 u103 u104 u105 u106 u107 u108 u109 u110 u111 u112 u113 u114 u115 u116 u117 u118 u119 u120 u121 u122 u123 u124 u125 u126 u127 u128 u129 u130 u131 u132 u133 u134 u135 u136 u137 u138 u139 u140 u141 u142 u143 u144 u145 u146 u147 u148 u149 u150 u151 u152 u153 u154 u155 u156 u157 u158 u159 u160 u161 u162 u163 u164 u165 u166 u167 u168 u169 : Value) (W : World) (Q : Exit → Act → World → Prop)
    (hEA : W.heap[gs]? = some (.cells #[.string u, .int .i64 a.f0, .int .i64 a.f1, .int .i64 a.f2, .int .i64 a.f3] 55 (0, 0)))
    (hW : ∀ w1 : World, Calls Tryd.prog 34 #[.int .i64 mode, .int .i64 7] w1 fun e w' => e = .returned (.int .i64 k7) ∧ Below w1.heap.size w1 w')
    (hMay : ∀ w1, Below W.heap.size W w1 → Calls Tryd.prog 35 #[.slice A n c, .agg #[.string u, .int .i64 a.f0, .int .i64 a.f1, .int .i64 a.f2, .int .i64 a.f3], .string p, .int .i64 (IntKind.i64.wrap (1 + k7))] w1 fun e w' => ∃ X6 x6 X11 x11, e = .returned (.tuple #[.agg #[.string x.f0, .bool x.f1, .int .i64 x.f2.f0, .int .i64 x.f2.f1, .int .i64 x.f2.f2, .int .i64 x.f2.f3, .slice X6 x.f3.length x6, .int .i64 x.f4.f0, .int .i64 x.f4.f1, .int .i64 x.f4.f2, .int .i64 x.f4.f3, .slice X11 x.f5.length x11, .int .i64 x.f6.f0, .int .i64 x.f6.f1, .int .i64 x.f6.f2, .int .i64 x.f6.f3], .int .i64 k]) ∧ k50.FK w' (fun k => w1.heap.size ≤ k) x [.string x.f0, .bool x.f1, .int .i64 x.f2.f0, .int .i64 x.f2.f1, .int .i64 x.f2.f2, .int .i64 x.f2.f3, .slice X6 x.f3.length x6, .int .i64 x.f4.f0, .int .i64 x.f4.f1, .int .i64 x.f4.f2, .int .i64 x.f4.f3, .slice X11 x.f5.length x11, .int .i64 x.f6.f0, .int .i64 x.f6.f1, .int .i64 x.f6.f2, .int .i64 x.f6.f3] ∧ Below w1.heap.size w1 w')
    (hpost : ∀ (g : Nat) (X6 X11 : Option Addr) (x6 x11 : Nat) (w' : World) (t116 t117 t118 t119 t120 t121 t122 t123 t124 t125 : Value), w'.heap[g]? = some (.cells #[.string x.f0, .bool x.f1, .int .i64 x.f2.f0, .int .i64 x.f2.f1, .int .i64 x.f2.f2, .int .i64 x.f2.f3, .slice X6 x.f3.length x6, .int .i64 x.f4.f0, .int .i64 x.f4.f1, .int .i64 x.f4.f2, .int .i64 x.f4.f3, .slice X11 x.f5.length x11, .int .i64 x.f6.f0, .int .i64 x.f6.f1, .int .i64 x.f6.f2, .int .i64 x.f6.f3] 50 (0, 0)) → k50.K w' x [.string x.f0, .bool x.f1, .int .i64 x.f2.f0, .int .i64 x.f2.f1, .int .i64 x.f2.f2, .int .i64 x.f2.f3, .slice X6 x.f3.length x6, .int .i64 x.f4.f0, .int .i64 x.f4.f1, .int .i64 x.f4.f2, .int .i64 x.f4.f3, .slice X11 x.f5.length x11, .int .i64 x.f6.f0, .int .i64 x.f6.f1, .int .i64 x.f6.f2, .int .i64 x.f6.f3] → Below W.heap.size W w' → Q .normal ⟨#[u0, u1, u2, u3, u4, .int .i64 mode, u6, u7, u8, u9, u10, u11, u12, u13, u14, .slice A n c, u16, u17, u18, u19, .pointer (some ⟨gs, 0, none⟩), u21, .string p, .pointer (some ⟨g, 0, none⟩), .int .i64 k, u25, u26, u27, u28, u29, u30, u31, u32, u33, u34, u35, u36, u37, u38, u39, u40, u41, u42, u43, u44, u45, u46, u47, u48, u49, u50, u51, u52, u53, u54, u55, u56, u57, u58, u59, u60, u61, u62, u63, u64, u65, u66, u67, u68, u69, u70, u71, u72, u73, u74, u75, u76, u77, u78, u79, u80, u81, u82, u83, u84, u85, u86, u87, u88, u89, u90, u91, u92, u93, u94, u95, u96, u97, u98, u99, u100, u101, u102, u103, u104, u105, u106, u107, u108, u109, u110, u111, u112, u113, u114, u115, t116, t117, t118, t119, t120, t121, t122, t123, t124, t125, u126, u127, u128, u129, u130, u131, u132, u133, u134, u135, u136, u137, u138, u139, u140, u141, u142, u143, u144, u145, u146, u147, u148, u149, u150, u151, u152, u153, u154, u155, u156, u157, u158, u159, u160, u161, u162, u163, u164, u165, u166, u167, u168, u169], []⟩ w') :
    Code.wp Tryd.prog (cReg Tryd.f13 22) Q ⟨#[u0, u1, u2, u3, u4, .int .i64 mode, u6, u7, u8, u9, u10, u11, u12, u13, u14, .slice A n c, u16, u17, u18, u19, .pointer (some ⟨gs, 0, none⟩), u21, .string p, u23, u24, u25, u26, u27, u28, u29, u30, u31, u32, u33, u34, u35, u36, u37, u38, u39, u40, u41, u42, u43, u44, u45, u46, u47, u48, u49, u50, u51, u52, u53, u54, u55, u56, u57, u58, u59, u60, u61, u62, u63, u64, u65, u66, u67, u68, u69, u70, u71, u72, u73, u74, u75, u76, u77, u78, u79, u80, u81, u82, u83, u84, u85, u86, u87, u88, u89, u90, u91, u92, u93, u94, u95, u96, u97, u98, u99, u100, u101, u102, u103, u104, u105, u106, u107, u108, u109, u110, u111, u112, u113, u114, u115, u116, u117, u118, u119, u120, u121, u122, u123, u124, u125, u126, u127, u128, u129, u130, u131, u132, u133, u134, u135, u136, u137, u138, u139, u140, u141, u142, u143, u144, u145, u146, u147, u148, u149, u150, u151, u152, u153, u154, u155, u156, u157, u158, u159, u160, u161, u162, u163, u164, u165, u166, u167, u168, u169], []⟩ W := by
  have EA := Lib.hid hEA
  have hgs := blk_lt hEA
  have HW := Lib.hid hW
  have HMay := Lib.hid hMay
  have HPO := Lib.hid hpost
  have ka0 := (blk_cell (blk_below EA.out (Below.refl W.heap.size W)) 0).trans rfl
  have ka1 := (blk_cell (blk_below EA.out (Below.refl W.heap.size W)) 1).trans rfl
  have ka2 := (blk_cell (blk_below EA.out (Below.refl W.heap.size W)) 2).trans rfl
  have ka3 := (blk_cell (blk_below EA.out (Below.refl W.heap.size W)) 3).trans rfl
  have ka4 := (blk_cell (blk_below EA.out (Below.refl W.heap.size W)) 4).trans rfl
  clear hEA hW hMay hpost
  conv => arg 2; whnf
  refine wp_region_noPanic ?_
  go_region_held_law (fun W1 => W1.cell? ⟨gs, 0, none⟩ = some (.string u) ∧ W1.cell? ⟨gs, 1, none⟩ = some (.int .i64 a.f0) ∧ W1.cell? ⟨gs, 2, none⟩ = some (.int .i64 a.f1) ∧ W1.cell? ⟨gs, 3, none⟩ = some (.int .i64 a.f2) ∧ W1.cell? ⟨gs, 4, none⟩ = some (.int .i64 a.f3)) (first | go_keep | (refine ⟨?_, ?_, ?_, ?_, ?_⟩ <;> (rw [cell_setRow_other _ _ _ _ (by show gs ≠ _; omega)]; assumption)))
    (first | (go_at_call 35; (have hgate := HB5.out; clear hgate; refine (HMay.out _ (show Below W.heap.size W _ by repeat (first | exact HB6.out | exact HB5.out | exact Below.refl _ _ | apply below_alloc | apply below_drew1))).mono ?_; rintro e w6 ⟨X6, x6, X11, x11, rfl, hK, hb⟩; have HB6 := Lib.hid (below_step (show Below w5.heap.size w5 _ by repeat (first | exact HB6.out | exact HB5.out | exact Below.refl _ _ | apply below_alloc | apply below_drew1)) hb); have HK6 := Lib.hid hK; have hs6 := below_size HB6.out; (first | (have EN2 := Lib.hid (blk_below EN.out HB6.out); have hst := wr50_blk (cs := #[.string x.f0, .bool x.f1, .int .i64 x.f2.f0, .int .i64 x.f2.f1, .int .i64 x.f2.f2, .int .i64 x.f2.f3, .slice X6 x.f3.length x6, .int .i64 x.f4.f0, .int .i64 x.f4.f1, .int .i64 x.f4.f2, .int .i64 x.f4.f3, .slice X11 x.f5.length x11, .int .i64 x.f6.f0, .int .i64 x.f6.f1, .int .i64 x.f6.f2, .int .i64 x.f6.f3]) EN2.out rfl rfl (by simp [Value.oneCell'])) | (have EN2 := Lib.hid (blk_below (blk_new w5 (.cells #[.string (⟨#[]⟩ : ByteArray), .bool false, .int .i64 0, .int .i64 0, .int .i64 0, .int .i64 0, .slice none 0 0, .int .i64 0, .int .i64 0, .int .i64 0, .int .i64 0, .slice none 0 0, .int .i64 0, .int .i64 0, .int .i64 0, .int .i64 0] 50)) hb); have hst := wr50_blk (cs := #[.string x.f0, .bool x.f1, .int .i64 x.f2.f0, .int .i64 x.f2.f1, .int .i64 x.f2.f2, .int .i64 x.f2.f3, .slice X6 x.f3.length x6, .int .i64 x.f4.f0, .int .i64 x.f4.f1, .int .i64 x.f4.f2, .int .i64 x.f4.f3, .slice X11 x.f5.length x11, .int .i64 x.f6.f0, .int .i64 x.f6.f1, .int .i64 x.f6.f2, .int .i64 x.f6.f3]) EN2.out rfl rfl (by simp [Value.oneCell'])) | skip); have ka0 := (blk_cell (blk_below EA.out (below_step HB5.out HB6.out)) 0).trans rfl; have ka1 := (blk_cell (blk_below EA.out (below_step HB5.out HB6.out)) 1).trans rfl; have ka2 := (blk_cell (blk_below EA.out (below_step HB5.out HB6.out)) 2).trans rfl; have ka3 := (blk_cell (blk_below EA.out (below_step HB5.out HB6.out)) 3).trans rfl; have ka4 := (blk_cell (blk_below EA.out (below_step HB5.out HB6.out)) 4).trans rfl; clear hb hK)) | (go_at_call 34; (refine (HW.out _).mono ?_; rintro e w5 ⟨rfl, hb⟩; have HB5 := Lib.hid (below_step (show Below W.heap.size W _ by repeat (first | exact HB6.out | exact HB5.out | exact Below.refl _ _ | apply below_alloc | apply below_drew1)) hb); have hs5 := below_size HB5.out; (first | have EN := Lib.hid (show w5.heap[W.heap.size]? = some (.cells #[.string (⟨#[]⟩ : ByteArray), .bool false, .int .i64 0, .int .i64 0, .int .i64 0, .int .i64 0, .slice none 0 0, .int .i64 0, .int .i64 0, .int .i64 0, .int .i64 0, .slice none 0 0, .int .i64 0, .int .i64 0, .int .i64 0, .int .i64 0] 50) from blk_below (blk_new W (.cells #[.string (⟨#[]⟩ : ByteArray), .bool false, .int .i64 0, .int .i64 0, .int .i64 0, .int .i64 0, .slice none 0 0, .int .i64 0, .int .i64 0, .int .i64 0, .int .i64 0, .slice none 0 0, .int .i64 0, .int .i64 0, .int .i64 0, .int .i64 0] 50)) hb) | have EN := Lib.hid (show w5.heap[W.heap.size]? = some (.cells #[.string (⟨#[]⟩ : ByteArray), .bool false, .int .i64 0, .int .i64 0, .int .i64 0, .int .i64 0, .slice none 0 0, .int .i64 0, .int .i64 0, .int .i64 0, .int .i64 0, .slice none 0 0, .int .i64 0, .int .i64 0, .int .i64 0, .int .i64 0] 50) from blk_below (blk_new W.drew (.cells #[.string (⟨#[]⟩ : ByteArray), .bool false, .int .i64 0, .int .i64 0, .int .i64 0, .int .i64 0, .slice none 0 0, .int .i64 0, .int .i64 0, .int .i64 0, .int .i64 0, .slice none 0 0, .int .i64 0, .int .i64 0, .int .i64 0, .int .i64 0] 50)) hb) | have EN := Lib.hid (show w5.heap[W.heap.size]? = some (.cells #[.string (⟨#[]⟩ : ByteArray), .bool false, .int .i64 0, .int .i64 0, .int .i64 0, .int .i64 0, .slice none 0 0, .int .i64 0, .int .i64 0, .int .i64 0, .int .i64 0, .slice none 0 0, .int .i64 0, .int .i64 0, .int .i64 0, .int .i64 0] 50) from blk_below (blk_drew (blk_new W (.cells #[.string (⟨#[]⟩ : ByteArray), .bool false, .int .i64 0, .int .i64 0, .int .i64 0, .int .i64 0, .slice none 0 0, .int .i64 0, .int .i64 0, .int .i64 0, .int .i64 0, .slice none 0 0, .int .i64 0, .int .i64 0, .int .i64 0, .int .i64 0] 50))) hb) | have EN := Lib.hid True.intro); have ka0 := (blk_cell (blk_below EA.out HB5.out) 0).trans rfl; have ka1 := (blk_cell (blk_below EA.out HB5.out) 1).trans rfl; have ka2 := (blk_cell (blk_below EA.out HB5.out) 2).trans rfl; have ka3 := (blk_cell (blk_below EA.out HB5.out) 3).trans rfl; have ka4 := (blk_cell (blk_below EA.out HB5.out) 4).trans rfl; clear hb)))
  all_goals refine NoPanic.normal ?_
  all_goals refine HPO.out _ X6 X11 x6 x11 _ _ _ _ _ _ _ _ _ _ _ ?_ ?_ ?_
  all_goals first
    | exact below_alloc (below_step HB5.out HB6.out) _
    | exact below_setRow (below_step HB5.out HB6.out) hs5 _
    | exact below_setRow (below_step HB5.out HB6.out) (Nat.le_refl _) _
    | exact blk_new _ _
    | exact setRow_heap _ _ _ _ _ _ EN2.out
    | exact k50.K_below (below_alloc (Below.refl w6.heap.size w6) _) (Foot.now HK6.out)
    | exact K_setRow HK6.out (blk_lt EN.out)
    | exact K_setRow HK6.out (Nat.lt_of_lt_of_eq (Nat.lt_succ_self _) (World.size_alloc _ _).symm)
set_option maxHeartbeats 8000000 in
set_option maxRecDepth 1000000 in
theorem rb23 (A : Option Addr) (n c gs : Nat) (p u : ByteArray) (mode k7 : Int) (a : S41) (x : S50) (k : Int) (u0 u1 u2 u3 u4 u6 u7 u8 u9 u10 u11 u12 u13 u14 u15 u17 u18 u19 u21 u23 u24 u25 u26 u27 u28 u29 u30 u31 u32 u33 u34 u35 u36 u37 u38 u39 u40 u41 u42 u43 u44 u45 u46 u47 u48 u49 u50 u51 u52 u53 u54 u55 u56 u57 u58 u59 u60 u61 u62 u63 u64 u65 u66 u67 u68 u69 u70 u71 u72 u73 u74 u75 u76 u77 u78 u79 u80 u81 u82 u83 u84 u85 u86 u87 u88 u89 u90 u91 u92 u93 u94 u95 u96 u97 u98 u99 u100 u101 u102 u103 u104 u105 u106 u107 u108 u109 u110 u111 u112 u113 u114 u115 u116 u117 u118 u119 u120 u121 u122 u123 u124 u125 u126 u127 u128 u129 u130 u131 u132 u133 u134 u135 u136 u137 u138 u139 u140 u141 u142 u143 u144 u145 u146 u147 u148 u149 u150 u151 u152 u153 u154 u155 u156 u157 u158 u159 u160 u161 u162 u163 u164 u165 u166 u167 u168 u169 : Value) (W : World) (Q : Exit → Act → World → Prop)
    (hEA : W.heap[gs]? = some (.cells #[.string u, .int .i64 a.f0, .int .i64 a.f1, .int .i64 a.f2, .int .i64 a.f3] 55 (0, 0)))
    (hW : ∀ w1 : World, Calls Tryd.prog 34 #[.int .i64 mode, .int .i64 7] w1 fun e w' => e = .returned (.int .i64 k7) ∧ Below w1.heap.size w1 w')
    (hMay : ∀ w1, Below W.heap.size W w1 → Calls Tryd.prog 35 #[.slice A n c, .agg #[.string u, .int .i64 a.f0, .int .i64 a.f1, .int .i64 a.f2, .int .i64 a.f3], .string p, .int .i64 (IntKind.i64.wrap (1 + k7))] w1 fun e w' => ∃ X6 x6 X11 x11, e = .returned (.tuple #[.agg #[.string x.f0, .bool x.f1, .int .i64 x.f2.f0, .int .i64 x.f2.f1, .int .i64 x.f2.f2, .int .i64 x.f2.f3, .slice X6 x.f3.length x6, .int .i64 x.f4.f0, .int .i64 x.f4.f1, .int .i64 x.f4.f2, .int .i64 x.f4.f3, .slice X11 x.f5.length x11, .int .i64 x.f6.f0, .int .i64 x.f6.f1, .int .i64 x.f6.f2, .int .i64 x.f6.f3], .int .i64 k]) ∧ k50.FK w' (fun k => w1.heap.size ≤ k) x [.string x.f0, .bool x.f1, .int .i64 x.f2.f0, .int .i64 x.f2.f1, .int .i64 x.f2.f2, .int .i64 x.f2.f3, .slice X6 x.f3.length x6, .int .i64 x.f4.f0, .int .i64 x.f4.f1, .int .i64 x.f4.f2, .int .i64 x.f4.f3, .slice X11 x.f5.length x11, .int .i64 x.f6.f0, .int .i64 x.f6.f1, .int .i64 x.f6.f2, .int .i64 x.f6.f3] ∧ Below w1.heap.size w1 w')
    (hpost : ∀ (g : Nat) (X6 X11 : Option Addr) (x6 x11 : Nat) (w' : World) (t126 t127 t128 t129 t130 t131 t132 t133 t134 t135 : Value), w'.heap[g]? = some (.cells #[.string x.f0, .bool x.f1, .int .i64 x.f2.f0, .int .i64 x.f2.f1, .int .i64 x.f2.f2, .int .i64 x.f2.f3, .slice X6 x.f3.length x6, .int .i64 x.f4.f0, .int .i64 x.f4.f1, .int .i64 x.f4.f2, .int .i64 x.f4.f3, .slice X11 x.f5.length x11, .int .i64 x.f6.f0, .int .i64 x.f6.f1, .int .i64 x.f6.f2, .int .i64 x.f6.f3] 50 (0, 0)) → k50.K w' x [.string x.f0, .bool x.f1, .int .i64 x.f2.f0, .int .i64 x.f2.f1, .int .i64 x.f2.f2, .int .i64 x.f2.f3, .slice X6 x.f3.length x6, .int .i64 x.f4.f0, .int .i64 x.f4.f1, .int .i64 x.f4.f2, .int .i64 x.f4.f3, .slice X11 x.f5.length x11, .int .i64 x.f6.f0, .int .i64 x.f6.f1, .int .i64 x.f6.f2, .int .i64 x.f6.f3] → Below W.heap.size W w' → Q .normal ⟨#[u0, u1, u2, u3, u4, .int .i64 mode, u6, u7, u8, u9, u10, u11, u12, u13, u14, u15, .slice A n c, u17, u18, u19, .pointer (some ⟨gs, 0, none⟩), u21, .string p, u23, u24, .pointer (some ⟨g, 0, none⟩), .int .i64 k, u27, u28, u29, u30, u31, u32, u33, u34, u35, u36, u37, u38, u39, u40, u41, u42, u43, u44, u45, u46, u47, u48, u49, u50, u51, u52, u53, u54, u55, u56, u57, u58, u59, u60, u61, u62, u63, u64, u65, u66, u67, u68, u69, u70, u71, u72, u73, u74, u75, u76, u77, u78, u79, u80, u81, u82, u83, u84, u85, u86, u87, u88, u89, u90, u91, u92, u93, u94, u95, u96, u97, u98, u99, u100, u101, u102, u103, u104, u105, u106, u107, u108, u109, u110, u111, u112, u113, u114, u115, u116, u117, u118, u119, u120, u121, u122, u123, u124, u125, t126, t127, t128, t129, t130, t131, t132, t133, t134, t135, u136, u137, u138, u139, u140, u141, u142, u143, u144, u145, u146, u147, u148, u149, u150, u151, u152, u153, u154, u155, u156, u157, u158, u159, u160, u161, u162, u163, u164, u165, u166, u167, u168, u169], []⟩ w') :
    Code.wp Tryd.prog (cReg Tryd.f13 23) Q ⟨#[u0, u1, u2, u3, u4, .int .i64 mode, u6, u7, u8, u9, u10, u11, u12, u13, u14, u15, .slice A n c, u17, u18, u19, .pointer (some ⟨gs, 0, none⟩), u21, .string p, u23, u24, u25, u26, u27, u28, u29, u30, u31, u32, u33, u34, u35, u36, u37, u38, u39, u40, u41, u42, u43, u44, u45, u46, u47, u48, u49, u50, u51, u52, u53, u54, u55, u56, u57, u58, u59, u60, u61, u62, u63, u64, u65, u66, u67, u68, u69, u70, u71, u72, u73, u74, u75, u76, u77, u78, u79, u80, u81, u82, u83, u84, u85, u86, u87, u88, u89, u90, u91, u92, u93, u94, u95, u96, u97, u98, u99, u100, u101, u102, u103, u104, u105, u106, u107, u108, u109, u110, u111, u112, u113, u114, u115, u116, u117, u118, u119, u120, u121, u122, u123, u124, u125, u126, u127, u128, u129, u130, u131, u132, u133, u134, u135, u136, u137, u138, u139, u140, u141, u142, u143, u144, u145, u146, u147, u148, u149, u150, u151, u152, u153, u154, u155, u156, u157, u158, u159, u160, u161, u162, u163, u164, u165, u166, u167, u168, u169], []⟩ W := by
  have EA := Lib.hid hEA
  have hgs := blk_lt hEA
  have HW := Lib.hid hW
  have HMay := Lib.hid hMay
  have HPO := Lib.hid hpost
  have ka0 := (blk_cell (blk_below EA.out (Below.refl W.heap.size W)) 0).trans rfl
  have ka1 := (blk_cell (blk_below EA.out (Below.refl W.heap.size W)) 1).trans rfl
  have ka2 := (blk_cell (blk_below EA.out (Below.refl W.heap.size W)) 2).trans rfl
  have ka3 := (blk_cell (blk_below EA.out (Below.refl W.heap.size W)) 3).trans rfl
  have ka4 := (blk_cell (blk_below EA.out (Below.refl W.heap.size W)) 4).trans rfl
  clear hEA hW hMay hpost
  conv => arg 2; whnf
  refine wp_region_noPanic ?_
  go_region_held_law (fun W1 => W1.cell? ⟨gs, 0, none⟩ = some (.string u) ∧ W1.cell? ⟨gs, 1, none⟩ = some (.int .i64 a.f0) ∧ W1.cell? ⟨gs, 2, none⟩ = some (.int .i64 a.f1) ∧ W1.cell? ⟨gs, 3, none⟩ = some (.int .i64 a.f2) ∧ W1.cell? ⟨gs, 4, none⟩ = some (.int .i64 a.f3)) (first | go_keep | (refine ⟨?_, ?_, ?_, ?_, ?_⟩ <;> (rw [cell_setRow_other _ _ _ _ (by show gs ≠ _; omega)]; assumption)))
    (first | (go_at_call 35; (have hgate := HB5.out; clear hgate; refine (HMay.out _ (show Below W.heap.size W _ by repeat (first | exact HB6.out | exact HB5.out | exact Below.refl _ _ | apply below_alloc | apply below_drew1))).mono ?_; rintro e w6 ⟨X6, x6, X11, x11, rfl, hK, hb⟩; have HB6 := Lib.hid (below_step (show Below w5.heap.size w5 _ by repeat (first | exact HB6.out | exact HB5.out | exact Below.refl _ _ | apply below_alloc | apply below_drew1)) hb); have HK6 := Lib.hid hK; have hs6 := below_size HB6.out; (first | (have EN2 := Lib.hid (blk_below EN.out HB6.out); have hst := wr50_blk (cs := #[.string x.f0, .bool x.f1, .int .i64 x.f2.f0, .int .i64 x.f2.f1, .int .i64 x.f2.f2, .int .i64 x.f2.f3, .slice X6 x.f3.length x6, .int .i64 x.f4.f0, .int .i64 x.f4.f1, .int .i64 x.f4.f2, .int .i64 x.f4.f3, .slice X11 x.f5.length x11, .int .i64 x.f6.f0, .int .i64 x.f6.f1, .int .i64 x.f6.f2, .int .i64 x.f6.f3]) EN2.out rfl rfl (by simp [Value.oneCell'])) | (have EN2 := Lib.hid (blk_below (blk_new w5 (.cells #[.string (⟨#[]⟩ : ByteArray), .bool false, .int .i64 0, .int .i64 0, .int .i64 0, .int .i64 0, .slice none 0 0, .int .i64 0, .int .i64 0, .int .i64 0, .int .i64 0, .slice none 0 0, .int .i64 0, .int .i64 0, .int .i64 0, .int .i64 0] 50)) hb); have hst := wr50_blk (cs := #[.string x.f0, .bool x.f1, .int .i64 x.f2.f0, .int .i64 x.f2.f1, .int .i64 x.f2.f2, .int .i64 x.f2.f3, .slice X6 x.f3.length x6, .int .i64 x.f4.f0, .int .i64 x.f4.f1, .int .i64 x.f4.f2, .int .i64 x.f4.f3, .slice X11 x.f5.length x11, .int .i64 x.f6.f0, .int .i64 x.f6.f1, .int .i64 x.f6.f2, .int .i64 x.f6.f3]) EN2.out rfl rfl (by simp [Value.oneCell'])) | skip); have ka0 := (blk_cell (blk_below EA.out (below_step HB5.out HB6.out)) 0).trans rfl; have ka1 := (blk_cell (blk_below EA.out (below_step HB5.out HB6.out)) 1).trans rfl; have ka2 := (blk_cell (blk_below EA.out (below_step HB5.out HB6.out)) 2).trans rfl; have ka3 := (blk_cell (blk_below EA.out (below_step HB5.out HB6.out)) 3).trans rfl; have ka4 := (blk_cell (blk_below EA.out (below_step HB5.out HB6.out)) 4).trans rfl; clear hb hK)) | (go_at_call 34; (refine (HW.out _).mono ?_; rintro e w5 ⟨rfl, hb⟩; have HB5 := Lib.hid (below_step (show Below W.heap.size W _ by repeat (first | exact HB6.out | exact HB5.out | exact Below.refl _ _ | apply below_alloc | apply below_drew1)) hb); have hs5 := below_size HB5.out; (first | have EN := Lib.hid (show w5.heap[W.heap.size]? = some (.cells #[.string (⟨#[]⟩ : ByteArray), .bool false, .int .i64 0, .int .i64 0, .int .i64 0, .int .i64 0, .slice none 0 0, .int .i64 0, .int .i64 0, .int .i64 0, .int .i64 0, .slice none 0 0, .int .i64 0, .int .i64 0, .int .i64 0, .int .i64 0] 50) from blk_below (blk_new W (.cells #[.string (⟨#[]⟩ : ByteArray), .bool false, .int .i64 0, .int .i64 0, .int .i64 0, .int .i64 0, .slice none 0 0, .int .i64 0, .int .i64 0, .int .i64 0, .int .i64 0, .slice none 0 0, .int .i64 0, .int .i64 0, .int .i64 0, .int .i64 0] 50)) hb) | have EN := Lib.hid (show w5.heap[W.heap.size]? = some (.cells #[.string (⟨#[]⟩ : ByteArray), .bool false, .int .i64 0, .int .i64 0, .int .i64 0, .int .i64 0, .slice none 0 0, .int .i64 0, .int .i64 0, .int .i64 0, .int .i64 0, .slice none 0 0, .int .i64 0, .int .i64 0, .int .i64 0, .int .i64 0] 50) from blk_below (blk_new W.drew (.cells #[.string (⟨#[]⟩ : ByteArray), .bool false, .int .i64 0, .int .i64 0, .int .i64 0, .int .i64 0, .slice none 0 0, .int .i64 0, .int .i64 0, .int .i64 0, .int .i64 0, .slice none 0 0, .int .i64 0, .int .i64 0, .int .i64 0, .int .i64 0] 50)) hb) | have EN := Lib.hid (show w5.heap[W.heap.size]? = some (.cells #[.string (⟨#[]⟩ : ByteArray), .bool false, .int .i64 0, .int .i64 0, .int .i64 0, .int .i64 0, .slice none 0 0, .int .i64 0, .int .i64 0, .int .i64 0, .int .i64 0, .slice none 0 0, .int .i64 0, .int .i64 0, .int .i64 0, .int .i64 0] 50) from blk_below (blk_drew (blk_new W (.cells #[.string (⟨#[]⟩ : ByteArray), .bool false, .int .i64 0, .int .i64 0, .int .i64 0, .int .i64 0, .slice none 0 0, .int .i64 0, .int .i64 0, .int .i64 0, .int .i64 0, .slice none 0 0, .int .i64 0, .int .i64 0, .int .i64 0, .int .i64 0] 50))) hb) | have EN := Lib.hid True.intro); have ka0 := (blk_cell (blk_below EA.out HB5.out) 0).trans rfl; have ka1 := (blk_cell (blk_below EA.out HB5.out) 1).trans rfl; have ka2 := (blk_cell (blk_below EA.out HB5.out) 2).trans rfl; have ka3 := (blk_cell (blk_below EA.out HB5.out) 3).trans rfl; have ka4 := (blk_cell (blk_below EA.out HB5.out) 4).trans rfl; clear hb)))
  all_goals refine NoPanic.normal ?_
  all_goals refine HPO.out _ X6 X11 x6 x11 _ _ _ _ _ _ _ _ _ _ _ ?_ ?_ ?_
  all_goals first
    | exact below_alloc (below_step HB5.out HB6.out) _
    | exact below_setRow (below_step HB5.out HB6.out) hs5 _
    | exact below_setRow (below_step HB5.out HB6.out) (Nat.le_refl _) _
    | exact blk_new _ _
    | exact setRow_heap _ _ _ _ _ _ EN2.out
    | exact k50.K_below (below_alloc (Below.refl w6.heap.size w6) _) (Foot.now HK6.out)
    | exact K_setRow HK6.out (blk_lt EN.out)
    | exact K_setRow HK6.out (Nat.lt_of_lt_of_eq (Nat.lt_succ_self _) (World.size_alloc _ _).symm)
end Go.Proofs.YtmndeoncbocplaaDoor.C
end
