/- TreeChecks: any nodes are checked as the document says; a tree that was grown may be, one of which a node was turned is checked as it says: the walk. -/
import Derived.Test.YtmndeoncbocplaaDoorJR
import Derived.Test.YtmndeoncbocplaaDoorJE4
import Derived.Deep.RegionHeldLaw
import Derived.Deep.RegionHeld3
import Derived.Deep.LoopGhost
import Derived.Test.YtmndeoncbocplaaDoorJF
import Derived.Test.YtmndeoncbocplaaDoorJK
set_option linter.unusedVariables false
set_option linter.unusedSimpArgs false
section
set_option linter.unusedVariables false
set_option linter.unusedSimpArgs false
namespace Go.Proofs.YtmndeoncbocplaaDoor.C
open Go.RowKit Go.Proofs.YtmndeoncbocplaaDoor.Q Go.Proofs.YtmndeoncbocplaaDoorW.PrintWords Go.Proofs.YtmndeoncbocplaaDoorW.PrintLast Go.Proofs.YtmndeoncbocplaaDoorW.PrintMore
theorem acl_size {n : S50} (h : NodeOk n) : ∀ g ∈ n.f3, g.f0.size ≤ 9223372036854775807 := by
  intro g hg
  obtain ⟨k, hk, e⟩ := acl_name h.2.2.1 hg
  rw [e]
  have : k = 0 ∨ k = 1 ∨ k = 2 ∨ k = 3 ∨ k = 4 := by omega
  rcases this with rfl | rfl | rfl | rfl | rfl <;> decide
/-- append(empty, l...): a block of its own, in which each node leads elsewhere. -/
theorem app50n (l : List S50) (ad : Addr) (c : Nat) (w W : World) (hC : Kd.C k50 w (some ad) l.length l) (hb : Below w.heap.size w W) (hn : l.length < 100000) (h0 : 0 < l.length) : ∃ g' c' cur w', ((Builtin.append_ #[42, 42] 42 #[.slice (some ⟨W.heap.size, 0, none⟩) 0 0, .slice (some ad) l.length c]).run Tryd.prog (W.alloc (.cells #[] 50)) = .ok (.slice (some ⟨g', 0, none⟩) l.length c') w') ∧ l.length ≤ c' ∧ NRow w' g' l cur ∧ W.heap.size ≤ g' ∧ Below W.heap.size W w' := by
  obtain ⟨i0, hi0, hz0, hzs, hzb⟩ := info50
  have hown : (W.alloc (.cells #[] 50)).ownsRow W.heap.size 50 16 (.slice (some ⟨W.heap.size, 0, none⟩) 0 0) 0 [] := World.ownsRow_made W #[] 0 (Nat.le_refl _) (Nat.zero_le _) rfl
  have hBA := below_alloc hb (.cells #[] 50)
  obtain ⟨inner, hr, hcell⟩ := ReadsRow.inner_ hC
  have hcell' : ∀ j u, inner[j]? = some u → (W.alloc (.cells #[] 50)).cell? (ad.add j) = some u := fun j u hu => pw_cell_below hBA (hcell j u hu)
  obtain ⟨v', w', hrun, hown', hg, _⟩ := run_append_own (P := Tryd.prog) (W.alloc (.cells #[] 50)) W.heap.size 42 42 50 i0 (.agg zero50) 16 168 Tryd.underlying42 hi0 hz0 hzs hzb rfl (by decide) _ 0 [] hown ad l.length c inner hr.1 hcell' (Reps_one hr) (by unfold maxLen; omega) (by omega) (by simp)
  rw [Nat.zero_add, List.nil_append] at hown'
  have hb' : Below W.heap.size W w' := ⟨hg.os, hg.tape, hg.output, Nat.le_trans (by simp) hg.size, fun k hk => (hg.block k (by simp; omega) (by intro e; have e1 : k = W.heap.size := Option.some.inj e; omega)).trans ((below_alloc (Below.refl W.heap.size W) (.cells #[] 50)).block k hk)⟩
  have hww : Below w.heap.size w w' := below_join hb hb' (below_size hb)
  have hsz := below_size hb
  obtain ⟨hl, (⟨_, hz⟩ | ⟨g, cap, cur, rfl, hge, hh, hcap, _, hcs, htk⟩)⟩ := hown'
  · omega
  · refine ⟨g, cap, cur.toList, w', hrun, hcap, ⟨by simpa using hh, by simp; rw [hcs]; exact Nat.mul_le_mul_right 16 hcap, fun j x hj => ?_⟩, hge, hb'⟩
    have hjl := (List.getElem?_eq_some_iff.1 hj).1
    have hK := hr.2 j x hj
    have e : (cur.toList.drop (j * 16)).take 16 = (inner.drop (j * 16)).take 16 := by
      rw [← htk, List.drop_take, List.take_take, Nat.min_eq_left (by omega)]
    rw [e]
    exact ((K_foot hK).step fun k hk _ => hww.block k hk).mono fun k hk => by omega
/-- append(append(empty, l[:k]...), l[k+1:]...). -/
theorem del50 (l : List S50) (ad : Addr) (c k : Nat) (a2 : Addr) (c2 : Nat) (w W : World) (hC : Kd.C k50 w (some ad) l.length l) (hb : Below w.heap.size w W) (hn : l.length < 100000) (hk : k < l.length) (ha : l.length - (k + 1) ≠ 0 → ∀ j, ad.add ((k + 1) * 16 + j) = a2.add j) :
    ∃ v1 w1 A2 n2 d2 w2, ((Builtin.append_ #[42, 42] 42 #[.slice (some ⟨W.heap.size, 0, none⟩) 0 0, .slice (some ad) k c]).run Tryd.prog (W.alloc (.cells #[] 50)) = .ok v1 w1) ∧ ((Builtin.append_ #[42, 42] 42 #[v1, .slice (some a2) (l.length - (k + 1)) c2]).run Tryd.prog w1 = .ok (.slice A2 n2 d2) w2) ∧ n2 = (l.take k ++ l.drop (k + 1)).length ∧ n2 ≤ d2 ∧ Kd.C k50 w2 A2 (l.take k ++ l.drop (k + 1)).length (l.take k ++ l.drop (k + 1)) ∧ Below W.heap.size W w2 ∧ Below W.heap.size W w1 := by
  obtain ⟨i0, hi0, hz0, hzs, hzb⟩ := info50
  have hown : (W.alloc (.cells #[] 50)).ownsRow W.heap.size 50 16 (.slice (some ⟨W.heap.size, 0, none⟩) 0 0) 0 [] := World.ownsRow_made W #[] 0 (Nat.le_refl _) (Nat.zero_le _) rfl
  have hBA := below_alloc hb (.cells #[] 50)
  obtain ⟨inner, hr, hcell⟩ := ReadsRow.inner_ hC
  have hil : inner.length = l.length * 16 := hr.1
  have h1l : (inner.take (k * 16)).length = k * 16 := by rw [List.length_take]; omega
  have h2l : (inner.drop ((k + 1) * 16)).length = (l.length - (k + 1)) * 16 := by rw [List.length_drop, Nat.sub_mul]; omega
  have hc1 : ∀ j u, (inner.take (k * 16))[j]? = some u → (W.alloc (.cells #[] 50)).cell? (ad.add j) = some u := fun j u hu => by
    rw [List.getElem?_take] at hu
    split at hu
    · exact pw_cell_below hBA (hcell j u hu)
    · cases hu
  obtain ⟨v1, w1, hrun1, hown1, hg1, _⟩ := run_append_own (P := Tryd.prog) (W.alloc (.cells #[] 50)) W.heap.size 42 42 50 i0 (.agg zero50) 16 168 Tryd.underlying42 hi0 hz0 hzs hzb rfl (by decide) _ 0 [] hown ad k c (inner.take (k * 16)) h1l hc1 (fun u hu => Reps_one hr u (List.mem_of_mem_take hu)) (by unfold maxLen; omega) (by omega) (by simp)
  rw [Nat.zero_add, List.nil_append] at hown1
  have hb1 : Below W.heap.size W w1 := ⟨hg1.os, hg1.tape, hg1.output, Nat.le_trans (by simp) hg1.size, fun k hk => (hg1.block k (by simp; omega) (by intro e; have e1 : k = W.heap.size := Option.some.inj e; omega)).trans ((below_alloc (Below.refl W.heap.size W) (.cells #[] 50)).block k hk)⟩
  have hw1 : Below w.heap.size w w1 := below_join hb hb1 (below_size hb)
  have hc2 : ∀ j u, (inner.drop ((k + 1) * 16))[j]? = some u → w1.cell? (a2.add j) = some u := fun j u hu => by
    have hlt := (List.getElem?_eq_some_iff.1 hu).1
    rw [List.getElem?_drop] at hu
    rw [← ha (by omega)]
    exact pw_cell_below hw1 (hcell _ u hu)
  have hv1 : ∀ g, v1.ownBlock = some g → W.heap.size ≤ g := by
    intro g hg
    obtain ⟨_, (⟨rfl, _⟩ | ⟨g2, cap, cur, rfl, hge, _⟩)⟩ := hown1
    · cases hg
    · have e1 : g2 = g := Option.some.inj hg
      omega
  obtain ⟨v2, w2, hrun2, hown2, hg2, _⟩ := run_append_own (P := Tryd.prog) w1 W.heap.size 42 42 50 i0 (.agg zero50) 16 168 Tryd.underlying42 hi0 hz0 hzs hzb rfl (by decide) v1 k (inner.take (k * 16)) hown1 a2 (l.length - (k + 1)) c2 (inner.drop ((k + 1) * 16)) h2l hc2 (fun u hu => Reps_one hr u (List.mem_of_mem_drop hu)) (by unfold maxLen; omega) (by omega) (below_size hb1)
  have hb2 : Below W.heap.size W w2 := ⟨hg2.os.trans hb1.os, hg2.tape.trans hb1.tape, hg2.output.trans hb1.output, Nat.le_trans (below_size hb1) hg2.size, fun k hk => (hg2.block k (by have := below_size hb1; omega) (fun e => by have := hv1 k e.symm; omega)).trans (hb1.block k hk)⟩
  have hlen : (l.take k ++ l.drop (k + 1)).length = k + (l.length - (k + 1)) := by rw [List.length_append, List.length_take, List.length_drop]; omega
  have hR : Reps (k50.K w) 16 (l.take k ++ l.drop (k + 1)) (inner.take (k * 16) ++ inner.drop ((k + 1) * 16)) := by
    refine ⟨by rw [List.length_append, h1l, h2l, hlen, Nat.add_mul], fun j x hj => ?_⟩
    by_cases hjk : j < k
    · rw [List.getElem?_append_left (by rw [List.length_take]; omega), List.getElem?_take_of_lt hjk] at hj
      have hK := hr.2 j x hj
      rw [List.drop_append_of_le_length (by omega), List.take_append_of_le_length (by rw [List.length_drop]; omega), List.drop_take, List.take_take, Nat.min_eq_left (by omega)]
      exact hK
    · have htk : (l.take k).length = k := by rw [List.length_take]; omega
      rw [List.getElem?_append_right (by omega), htk, List.getElem?_drop] at hj
      have hK := hr.2 _ x hj
      rw [List.drop_append, h1l, List.drop_of_length_le (by omega), List.nil_append, List.drop_drop]
      rw [show (k + 1) * 16 + (j * 16 - k * 16) = (k + 1 + (j - k)) * 16 by omega]
      exact hK
  obtain ⟨A2, d2, rfl, hc', hRR⟩ := OwnRow.reads (show OwnRow (k50.K w) 50 16 w2 W.heap.size v2 (l.take k ++ l.drop (k + 1)) from ⟨_, by rw [hlen]; exact hown2, hR⟩)
  exact ⟨v1, w1, A2, _, d2, w2, hrun1, hrun2, rfl, hc', C50_of hRR (below_join hb hb2 (below_size hb)), hb2, hb1⟩
end Go.Proofs.YtmndeoncbocplaaDoor.C
end
section
set_option linter.unusedVariables false
set_option linter.unusedSimpArgs false
namespace Go.Proofs.YtmndeoncbocplaaDoor.C
open Go.RowKit Go.Proofs.YtmndeoncbocplaaDoor.Q Go.Proofs.YtmndeoncbocplaaDoorW.PrintWords Go.Proofs.YtmndeoncbocplaaDoorW.PrintLast Go.Proofs.YtmndeoncbocplaaDoorW.PrintMore
attribute [local go_sem ↓] rd_at50 wr_at50 al_at50
attribute [local go_sem] rd50_new wr50_new al50
set_option maxHeartbeats 8000000 in
set_option maxRecDepth 1000000 in
theorem rk31a (ad : Addr) (n c k : Nat) (v1 v2 : Value) (w1 w2 : World) (u0 u1 u2 u3 u4 u5 u6 u7 u8 u9 u10 u11 u12 u13 u16 u17 u18 u19 u20 u21 u22 u23 u24 u25 u26 u27 u28 u29 u30 u31 u32 u33 u34 u35 u36 u37 u38 u39 u40 u41 u42 u43 u44 u45 u46 u47 u48 u49 u50 u51 u52 u53 u54 u55 u56 u57 u58 u59 u60 u61 u62 u63 u64 u65 u66 u67 u68 u69 u70 u71 u72 u73 u74 u75 u76 u77 u78 u79 u80 u81 u82 u83 u84 u85 u86 u87 u88 u89 u90 u91 u92 u93 u94 u95 u96 u97 u98 u99 u100 u101 u102 u103 u104 u105 u106 u107 u108 u109 u110 u111 u112 u113 u114 u115 u116 u117 u118 u119 u120 u121 u122 u123 u124 u125 u126 u127 u128 u129 u130 u131 : Value) (W : World) (Q : Exit → Act → World → Prop)
    (hk : k < n) (hc : n ≤ c) (hm : n < 100000) (hcc : ¬ c = k + 1)
    (hap1 : (Builtin.append_ #[42, 42] 42 #[.slice (some ⟨W.drew.heap.size, 0, none⟩) 0 0, .slice (some ad) k c]).run Tryd.prog (W.drew.alloc (.cells #[] 50)) = .ok v1 w1)
    (hap2 : (Builtin.append_ #[42, 42] 42 #[v1, .slice (some (ad.add ((k + 1) * 16))) (n - (k + 1)) (c - (k + 1))]).run Tryd.prog w1 = .ok v2 w2)
    (hpost : ∀ (t107 t108 t109 t110 t111 t112 t113 t114 t115 t116 : Value), Q .normal ⟨#[u0, u1, u2, u3, u4, u5, u6, u7, u8, u9, u10, u11, u12, u13, v2, .int .i64 (k : Int), u16, u17, u18, u19, u20, u21, u22, u23, u24, u25, u26, u27, u28, u29, u30, u31, u32, u33, u34, u35, u36, u37, u38, u39, u40, u41, u42, u43, u44, u45, u46, u47, u48, u49, u50, u51, u52, u53, u54, u55, u56, u57, u58, u59, u60, u61, u62, u63, u64, u65, u66, u67, u68, u69, u70, u71, u72, u73, u74, u75, u76, u77, u78, u79, u80, u81, u82, u83, u84, u85, u86, u87, u88, u89, u90, u91, u92, u93, u94, u95, u96, u97, u98, u99, u100, u101, u102, u103, u104, u105, u106, t107, t108, t109, t110, t111, t112, t113, t114, t115, t116, u117, u118, u119, u120, u121, u122, u123, u124, u125, u126, u127, u128, u129, u130, u131], []⟩ w2) :
    Code.wp Tryd.prog (cReg Tryd.f15 31) Q ⟨#[u0, u1, u2, u3, u4, u5, u6, u7, u8, u9, u10, u11, u12, u13, .slice (some ad) n c, .int .i64 (k : Int), u16, u17, u18, u19, u20, u21, u22, u23, u24, u25, u26, u27, u28, u29, u30, u31, u32, u33, u34, u35, u36, u37, u38, u39, u40, u41, u42, u43, u44, u45, u46, u47, u48, u49, u50, u51, u52, u53, u54, u55, u56, u57, u58, u59, u60, u61, u62, u63, u64, u65, u66, u67, u68, u69, u70, u71, u72, u73, u74, u75, u76, u77, u78, u79, u80, u81, u82, u83, u84, u85, u86, u87, u88, u89, u90, u91, u92, u93, u94, u95, u96, u97, u98, u99, u100, u101, u102, u103, u104, u105, u106, u107, u108, u109, u110, u111, u112, u113, u114, u115, u116, u117, u118, u119, u120, u121, u122, u123, u124, u125, u126, u127, u128, u129, u130, u131], []⟩ W := by
  have HPO := Lib.hid hpost
  clear hpost
  have hkw : IntKind.i64.wrap ((k : Int) + 1) = ((k + 1 : Nat) : Int) := by rw [i64_w]; unfold wrap64; omega
  have hmx : Tryd.prog.follows Departure.mixedOrders = true := by kernel_rfl
  have hkc : k ≤ c := by omega
  have hk1 : k + 1 ≤ n := by omega
  have hk2 : k + 1 ≤ c := by omega
  have hk3 : (k : Int) + 1 ≤ (n : Int) := by omega
  have hk4 : (0 : Int) ≤ (k : Int) + 1 := by omega
  conv => arg 2; whnf
  refine wp_region_noPanic ?_
  go_region_law_o (go_loud (first | (refine step_append_runI rfl (.tmp 107) (.tmp 110) 42 42 rfl (.slice (some ⟨W.drew.heap.size, 0, none⟩) 0 0) (.slice (some ad) k c) (by simp [Act.eval, Act.put]) (by simp [Act.eval, Act.put]) hap1 ?_) | (refine step_append_runI rfl (.tmp 111) (.tmp 115) 42 42 rfl v1 (.slice (some (ad.add ((k + 1) * 16))) (n - (k + 1)) (c - (k + 1))) (by simp [Act.eval, Act.put]) (by simp [Act.eval, Act.put]) hap2 ?_)))
  refine NoPanic.normal ?_
  exact HPO.out _ _ _ _ _ _ _ _ _ _
set_option maxHeartbeats 8000000 in
set_option maxRecDepth 1000000 in
theorem rk31b (ad : Addr) (k : Nat) (v1 v2 : Value) (w1 w2 : World) (u0 u1 u2 u3 u4 u5 u6 u7 u8 u9 u10 u11 u12 u13 u16 u17 u18 u19 u20 u21 u22 u23 u24 u25 u26 u27 u28 u29 u30 u31 u32 u33 u34 u35 u36 u37 u38 u39 u40 u41 u42 u43 u44 u45 u46 u47 u48 u49 u50 u51 u52 u53 u54 u55 u56 u57 u58 u59 u60 u61 u62 u63 u64 u65 u66 u67 u68 u69 u70 u71 u72 u73 u74 u75 u76 u77 u78 u79 u80 u81 u82 u83 u84 u85 u86 u87 u88 u89 u90 u91 u92 u93 u94 u95 u96 u97 u98 u99 u100 u101 u102 u103 u104 u105 u106 u107 u108 u109 u110 u111 u112 u113 u114 u115 u116 u117 u118 u119 u120 u121 u122 u123 u124 u125 u126 u127 u128 u129 u130 u131 : Value) (W : World) (Q : Exit → Act → World → Prop)
    (hm : k < 100000) 
    (hap1 : (Builtin.append_ #[42, 42] 42 #[.slice (some ⟨W.drew.heap.size, 0, none⟩) 0 0, .slice (some ad) k (k + 1)]).run Tryd.prog (W.drew.alloc (.cells #[] 50)) = .ok v1 w1)
    (hap2 : (Builtin.append_ #[42, 42] 42 #[v1, .slice (some ad) 0 0]).run Tryd.prog w1 = .ok v2 w2)
    (hpost : ∀ (t107 t108 t109 t110 t111 t112 t113 t114 t115 t116 : Value), Q .normal ⟨#[u0, u1, u2, u3, u4, u5, u6, u7, u8, u9, u10, u11, u12, u13, v2, .int .i64 (k : Int), u16, u17, u18, u19, u20, u21, u22, u23, u24, u25, u26, u27, u28, u29, u30, u31, u32, u33, u34, u35, u36, u37, u38, u39, u40, u41, u42, u43, u44, u45, u46, u47, u48, u49, u50, u51, u52, u53, u54, u55, u56, u57, u58, u59, u60, u61, u62, u63, u64, u65, u66, u67, u68, u69, u70, u71, u72, u73, u74, u75, u76, u77, u78, u79, u80, u81, u82, u83, u84, u85, u86, u87, u88, u89, u90, u91, u92, u93, u94, u95, u96, u97, u98, u99, u100, u101, u102, u103, u104, u105, u106, t107, t108, t109, t110, t111, t112, t113, t114, t115, t116, u117, u118, u119, u120, u121, u122, u123, u124, u125, u126, u127, u128, u129, u130, u131], []⟩ w2) :
    Code.wp Tryd.prog (cReg Tryd.f15 31) Q ⟨#[u0, u1, u2, u3, u4, u5, u6, u7, u8, u9, u10, u11, u12, u13, .slice (some ad) (k + 1) (k + 1), .int .i64 (k : Int), u16, u17, u18, u19, u20, u21, u22, u23, u24, u25, u26, u27, u28, u29, u30, u31, u32, u33, u34, u35, u36, u37, u38, u39, u40, u41, u42, u43, u44, u45, u46, u47, u48, u49, u50, u51, u52, u53, u54, u55, u56, u57, u58, u59, u60, u61, u62, u63, u64, u65, u66, u67, u68, u69, u70, u71, u72, u73, u74, u75, u76, u77, u78, u79, u80, u81, u82, u83, u84, u85, u86, u87, u88, u89, u90, u91, u92, u93, u94, u95, u96, u97, u98, u99, u100, u101, u102, u103, u104, u105, u106, u107, u108, u109, u110, u111, u112, u113, u114, u115, u116, u117, u118, u119, u120, u121, u122, u123, u124, u125, u126, u127, u128, u129, u130, u131], []⟩ W := by
  have HPO := Lib.hid hpost
  clear hpost
  have hkw : IntKind.i64.wrap ((k : Int) + 1) = ((k + 1 : Nat) : Int) := by rw [i64_w]; unfold wrap64; omega
  have hmx : Tryd.prog.follows Departure.mixedOrders = true := by kernel_rfl
  have hkc : (k : Int) ≤ (k : Int) + 1 := by omega
  have hk4 : (0 : Int) ≤ (k : Int) + 1 := by omega
  conv => arg 2; whnf
  refine wp_region_noPanic ?_
  go_region_law_o (go_loud (first | (refine step_append_runI rfl (.tmp 107) (.tmp 110) 42 42 rfl (.slice (some ⟨W.drew.heap.size, 0, none⟩) 0 0) (.slice (some ad) k (k + 1)) (by simp [Act.eval, Act.put]) (by simp [Act.eval, Act.put]) hap1 ?_) | (refine step_append_runI rfl (.tmp 111) (.tmp 115) 42 42 rfl v1 (.slice (some ad) 0 0) (by simp [Act.eval, Act.put]) (by simp [Act.eval, Act.put]) hap2 ?_)))
  refine NoPanic.normal ?_
  exact HPO.out _ _ _ _ _ _ _ _ _ _
end Go.Proofs.YtmndeoncbocplaaDoor.C
end
section
set_option linter.unusedVariables false
set_option linter.unusedSimpArgs false
namespace Go.Proofs.YtmndeoncbocplaaDoor.C
open Go.RowKit Go.Proofs.YtmndeoncbocplaaDoor.Q Go.Proofs.YtmndeoncbocplaaDoorW.PrintWords Go.Proofs.YtmndeoncbocplaaDoorW.PrintLast Go.Proofs.YtmndeoncbocplaaDoorW.PrintMore
attribute [local go_sem ↓] rd_at50 wr_at50 al_at50
attribute [local go_sem] rd50_new wr50_new al50
theorem addr_add2 (a : Addr) (x y : Nat) : (a.add x).add y = a.add (x + y) := by
  obtain ⟨b, o, s⟩ := a
  by_cases hx : x = 0 <;> by_cases hy : y = 0 <;> cases s <;> simp [Addr.add, hx, hy, Nat.add_assoc]
set_option maxHeartbeats 8000000 in
set_option maxRecDepth 1000000 in
theorem checks_c (raw : List S50) (terms : List S41) (makes : List S80) (R A B : Option Addr) (rc c d : Nat) (at0 : Int) (tn : S50) (T6 T11 : Option Addr) (t6 t11 : Nat) (fd : Int) (w : World)
    (hR : Kd.C k50 w R raw.length raw) (hrc : raw.length ≤ rc) (hRS : ∀ n ∈ raw, ∀ g ∈ n.f3, g.f0.size ≤ 9223372036854775807)
    (hC : Kd.C k41 w A terms.length terms) (hc : terms.length ≤ c) (hD : Kd.C k80 w B makes.length makes) (hd : makes.length ≤ d)
    (hT : Kd.C k96 w T6 tn.f3.length tn.f3) (l6 : tn.f3.length ≤ t6) (hTS : ∀ g ∈ tn.f3, g.f0.size ≤ 9223372036854775807) :
    Calls Tryd.prog 15 #[.slice R raw.length rc, .slice A terms.length c, .slice B makes.length d, .int .i64 at0, .agg #[.string tn.f0, .bool tn.f1, .int .i64 tn.f2.f0, .int .i64 tn.f2.f1, .int .i64 tn.f2.f2, .int .i64 tn.f2.f3, .slice T6 tn.f3.length t6, .int .i64 tn.f4.f0, .int .i64 tn.f4.f1, .int .i64 tn.f4.f2, .int .i64 tn.f4.f3, .slice T11 tn.f5.length t11, .int .i64 tn.f6.f0, .int .i64 tn.f6.f1, .int .i64 tn.f6.f2, .int .i64 tn.f6.f3], .int .i64 fd] w fun e w' => e = .returned (.bool true) ∧ Below w.heap.size w w' := by
  have HG := Lib.hid fun w1 (hb : Below w.heap.size w w1) => grow_c3 terms makes A B c d w1 (Kd.C_below hC hb) hc (Kd.C_below hD hb) hd
  have HB0 := Lib.hid (below_alloc (Below.refl w.heap.size w) (.cells #[.string tn.f0, .bool tn.f1, .int .i64 tn.f2.f0, .int .i64 tn.f2.f1, .int .i64 tn.f2.f2, .int .i64 tn.f2.f3, .slice T6 tn.f3.length t6, .int .i64 tn.f4.f0, .int .i64 tn.f4.f1, .int .i64 tn.f4.f2, .int .i64 tn.f4.f3, .slice T11 tn.f5.length t11, .int .i64 tn.f6.f0, .int .i64 tn.f6.f1, .int .i64 tn.f6.f2, .int .i64 tn.f6.f3] 50))
  have HX0 := Lib.hid (blk_new w (.cells #[.string tn.f0, .bool tn.f1, .int .i64 tn.f2.f0, .int .i64 tn.f2.f1, .int .i64 tn.f2.f2, .int .i64 tn.f2.f3, .slice T6 tn.f3.length t6, .int .i64 tn.f4.f0, .int .i64 tn.f4.f1, .int .i64 tn.f4.f2, .int .i64 tn.f4.f3, .slice T11 tn.f5.length t11, .int .i64 tn.f6.f0, .int .i64 tn.f6.f1, .int .i64 tn.f6.f2, .int .i64 tn.f6.f3] 50))
  have HR := Lib.hid hR
  have HRS := Lib.hid hRS
  have HTT := Lib.hid hT
  have HTS := Lib.hid hTS
  obtain ⟨m, hmf, hm0, hm7⟩ := P.within_f fd 7 (by decide) (by decide)
  have HW7 := Lib.hid fun w1 => donjonlaw11_within.calls fd 7 m w1 hmf
  clear hC hD hmf hR hRS hT hTS
  by_cases h20 : 20 < raw.length
  · go_enter Tryd.func15, Tryd.ntmps15
    go_wp2_with (go_at_call 48; refine (known11_c _).mono ?_; rintro e w1 ⟨rfl, hb⟩; have HB1 := Lib.hid (below_step HB0.out hb); have HX1 := Lib.hid (blk_below HX0.out hb); clear hb)
    go_ret
    exact ⟨rfl, HB1.out⟩
  · go_enter Tryd.func15, Tryd.ntmps15
    go_wp2_with (go_at_call 48; refine (known11_c _).mono ?_; rintro e w1 ⟨rfl, hb⟩; have HB1 := Lib.hid (below_step HB0.out hb); have HX1 := Lib.hid (blk_below HX0.out hb); clear hb)
    go_loopg [13] raw.length (fun k s13 wr => ∃ i : Nat, i ≤ raw.length ∧ raw.length - i ≤ k ∧ s13 = .int .i64 i ∧ Hid (Below w.heap.size w wr) ∧ Hid (wr.heap[w.heap.size]? = some (.cells #[.string tn.f0, .bool tn.f1, .int .i64 tn.f2.f0, .int .i64 tn.f2.f1, .int .i64 tn.f2.f2, .int .i64 tn.f2.f3, .slice T6 tn.f3.length t6, .int .i64 tn.f4.f0, .int .i64 tn.f4.f1, .int .i64 tn.f4.f2, .int .i64 tn.f4.f3, .slice T11 tn.f5.length t11, .int .i64 tn.f6.f0, .int .i64 tn.f6.f1, .int .i64 tn.f6.f2, .int .i64 tn.f6.f3] 50 (0, 0))))
    case atStart => exact ⟨0, Nat.zero_le _, Nat.le_refl _, rfl, HB1, HX1⟩
    case round =>
      clear HB1 HX1 HB0 HX0
      obtain ⟨i, hi, hik, rfl, HBL, HXL⟩ := hrel
      obtain ⟨W0, hW⟩ : ∃ W, W = wr := ⟨_, rfl⟩
      subst hW
      by_cases hlt : i < raw.length
      · obtain ⟨ad, B6, e6, B11, e11, hA, hcs, _⟩ := at50 HR.out HBL.out i hlt
        subst hA
        generalize (raw[i]'hlt) = n at hcs
        have c0_ := hcs.1
        have c6_ := hcs.2.2.2.2.2.2.1
        have c11_ := hcs.2.2.2.2.2.2.2.2.2.2.2.1
        clear hcs
        by_cases h1 : 500 < n.f0.size
        · go_wp2
          go_ret
          exact ⟨rfl, HBL.out⟩
        · by_cases h2 : 20 < n.f3.length
          · go_wp2
            go_ret
            exact ⟨rfl, HBL.out⟩
          · by_cases h3 : 40 < n.f5.length
            · go_wp2
              go_ret
              exact ⟨rfl, HBL.out⟩
            · go_wp2
              go_roundg (raw.length - (i + 1))
              case measure => omega
              case rel => exact ⟨i + 1, hlt, Nat.le_refl _, by go_num, HBL, HXL⟩
      · have HTC := Lib.hid fun (w1 : World) (hb : Below w.heap.size w w1) => treecheck_c2 raw R rc w1 (Kd.C_below HR.out hb) hrc (by omega) (fun h n hn => right_pparent h hn)
        have HRC := Lib.hid fun (w1 : World) (hb : Below w.heap.size w w1) => rtreecheck_c raw R rc w1 (Kd.C_below HR.out hb) hrc (by omega) HRS.out
        clear HR HRS
        generalize checkT raw = y at HTC HRC
        have hyy : (y != y) = false := by simp
        go_wp2_with (first | (go_at_call 49; (with_reducible refine (HTC.out _ HBL.out).mono ?_); rintro e w2 ⟨rfl, hb⟩; have HB2 := Lib.hid (below_step HBL.out hb); have HX2 := Lib.hid (blk_below HXL.out hb); clear hb) | (go_at_call 50; (with_reducible refine (HRC.out _ HB2.out).mono ?_); rintro e w3 ⟨rfl, hb⟩; have HB3 := Lib.hid (below_step HB2.out hb); have HX3 := Lib.hid (blk_below HX2.out hb); clear hb) | (go_at_call 32; refine (HG.out _ HB3.out).mono ?_; rintro e w4 ⟨Ag, tt, cg, rfl, hT, hF, h19, hl, hCt, hb⟩; have HT := Lib.hid hT; have HC4 := Lib.hid hCt; have HB4 := Lib.hid (below_step HB3.out hb); have HX4 := Lib.hid (blk_below HX3.out hb); clear hb hT hF hCt) | (go_at_call 49; (with_reducible refine (treecheck_t HT.out Ag cg _ HC4.out hl).mono ?_); rintro e w5 ⟨rfl, hb⟩; have HB5 := Lib.hid (below_step HB4.out hb); have HX5 := Lib.hid (blk_below HX4.out hb); have HC5 := Lib.hid (Kd.C_below HC4.out hb); clear hb))
        refine (wit_calls at0 (tt.length : Int) _ (by have := tree_ne HT.out; omega) (by omega)).mono ?_
        rintro e w6 ⟨kz, hkz0, hkz1, rfl, hdr⟩
        obtain ⟨kk, rfl⟩ := Int.eq_ofNat_of_zero_le hkz0
        have hkk : kk < tt.length := by omega
        have HC6 := Lib.hid (Kd.C_below HC5.out hdr.below)
        obtain ⟨ad, D6, d6, D11, d11, hA, hcs, hK⟩ := at50 HC6.out (Below.refl _ _) kk hkk
        subst hA
        have HM := Lib.hid (List.getElem_mem (l := tt) (n := kk) hkk)
        generalize (tt[kk]'hkk) = dn at hcs HM hK
        have hld := rd50_of (loadC50 (P := Tryd.prog) hcs)
        obtain ⟨Y6, y6, Y11, y11, hyc, m6, g6, m11, g11⟩ := k50_open hK.out
        obtain ⟨rfl, rfl⟩ : D6 = Y6 ∧ d6 = y6 := by have h := congrArg (fun l : List Value => l[6]?) hyc; simpa using h
        obtain ⟨rfl, rfl⟩ : D11 = Y11 ∧ d11 = y11 := by have h := congrArg (fun l : List Value => l[11]?) hyc; simpa using h
        have HD6 := Lib.hid g6
        have HD11 := Lib.hid g11
        have HB6 := Lib.hid (below_step HB5.out hdr.below)
        have HX6 := Lib.hid (blk_below HX5.out hdr.below)
        have HT6 := Lib.hid (Kd.C_below HTT.out HB6.out)
        clear hcs hdr hK hyc g6 g11 hkz0 hkz1 HTC HRC hyy HG HB2 HB3 HB4 HB5 HX2 HX3 HX4 HX5 HC4 HC5 HBL HXL hik
        go_wp2_with (fail)
        refine (HW7.out _).mono ?_
        rintro e w7 ⟨rfl, hd7⟩
        have EN7 := Lib.hid (blk_below (blk_new w6 (.cells #[.string dn.f0, .bool dn.f1, .int .i64 dn.f2.f0, .int .i64 dn.f2.f1, .int .i64 dn.f2.f2, .int .i64 dn.f2.f3, .slice D6 dn.f3.length d6, .int .i64 dn.f4.f0, .int .i64 dn.f4.f1, .int .i64 dn.f4.f2, .int .i64 dn.f4.f3, .slice D11 dn.f5.length d11, .int .i64 dn.f6.f0, .int .i64 dn.f6.f1, .int .i64 dn.f6.f2, .int .i64 dn.f6.f3] 50)) hd7.below)
        have HX7 := Lib.hid (blk_below (blk_alloc HX6.out (.cells #[.string dn.f0, .bool dn.f1, .int .i64 dn.f2.f0, .int .i64 dn.f2.f1, .int .i64 dn.f2.f2, .int .i64 dn.f2.f3, .slice D6 dn.f3.length d6, .int .i64 dn.f4.f0, .int .i64 dn.f4.f1, .int .i64 dn.f4.f2, .int .i64 dn.f4.f3, .slice D11 dn.f5.length d11, .int .i64 dn.f6.f0, .int .i64 dn.f6.f1, .int .i64 dn.f6.f2, .int .i64 dn.f6.f3] 50)) hd7.below)
        have HI7 := Lib.hid (below_step (below_alloc (Below.refl w6.heap.size w6) (.cells #[.string dn.f0, .bool dn.f1, .int .i64 dn.f2.f0, .int .i64 dn.f2.f1, .int .i64 dn.f2.f2, .int .i64 dn.f2.f3, .slice D6 dn.f3.length d6, .int .i64 dn.f4.f0, .int .i64 dn.f4.f1, .int .i64 dn.f4.f2, .int .i64 dn.f4.f3, .slice D11 dn.f5.length d11, .int .i64 dn.f6.f0, .int .i64 dn.f6.f1, .int .i64 dn.f6.f2, .int .i64 dn.f6.f3] 50)) hd7.below)
        have HB7 := Lib.hid (below_step HB6.out HI7.out)
        have hgw : w.heap.size ≤ w6.heap.size := below_size HB6.out
        clear hd7 HX6 HB6
        have hmm : m = 0 ∨ m = 1 ∨ m = 2 ∨ m = 3 ∨ m = 4 ∨ m = 5 ∨ m = 6 := by omega
        rcases hmm with rfl | rfl | rfl | rfl | rfl | rfl | rfl
        · have s2 : w7.cell? ⟨w.heap.size, 2, none⟩ = some (.int .i64 tn.f2.f0) := (blk_cell HX7.out 2).trans rfl
          have s3 : w7.cell? ⟨w.heap.size, 3, none⟩ = some (.int .i64 tn.f2.f1) := (blk_cell HX7.out 3).trans rfl
          have s4 : w7.cell? ⟨w.heap.size, 4, none⟩ = some (.int .i64 tn.f2.f2) := (blk_cell HX7.out 4).trans rfl
          have s5 : w7.cell? ⟨w.heap.size, 5, none⟩ = some (.int .i64 tn.f2.f3) := (blk_cell HX7.out 5).trans rfl
          have f2 := blk_frozen EN7.out 2
          have f3 := blk_frozen EN7.out 3
          have f4 := blk_frozen EN7.out 4
          have f5 := blk_frozen EN7.out 5
          have z2 : w7.cell? ⟨w6.heap.size, 2, none⟩ = some (.int .i64 dn.f2.f0) := (blk_cell EN7.out 2).trans rfl
          have z3 : w7.cell? ⟨w6.heap.size, 3, none⟩ = some (.int .i64 dn.f2.f1) := (blk_cell EN7.out 3).trans rfl
          have z4 : w7.cell? ⟨w6.heap.size, 4, none⟩ = some (.int .i64 dn.f2.f2) := (blk_cell EN7.out 4).trans rfl
          have z5 : w7.cell? ⟨w6.heap.size, 5, none⟩ = some (.int .i64 dn.f2.f3) := (blk_cell EN7.out 5).trans rfl
          have EN8 := Lib.hid (show ((((w7.setCell ⟨w6.heap.size, 2, none⟩ (.int .i64 tn.f2.f0)).setCell ⟨w6.heap.size, 3, none⟩ (.int .i64 tn.f2.f1)).setCell ⟨w6.heap.size, 4, none⟩ (.int .i64 tn.f2.f2)).setCell ⟨w6.heap.size, 5, none⟩ (.int .i64 tn.f2.f3)).heap[w6.heap.size]? = some (.cells #[.string dn.f0, .bool dn.f1, .int .i64 tn.f2.f0, .int .i64 tn.f2.f1, .int .i64 tn.f2.f2, .int .i64 tn.f2.f3, .slice D6 dn.f3.length d6, .int .i64 dn.f4.f0, .int .i64 dn.f4.f1, .int .i64 dn.f4.f2, .int .i64 dn.f4.f3, .slice D11 dn.f5.length d11, .int .i64 dn.f6.f0, .int .i64 dn.f6.f1, .int .i64 dn.f6.f2, .int .i64 dn.f6.f3] 50 (0, 0)) from (blk_put (blk_put (blk_put (blk_put EN7.out 2 (.int .i64 tn.f2.f0) rfl) 3 (.int .i64 tn.f2.f1) rfl) 4 (.int .i64 tn.f2.f2) rfl) 5 (.int .i64 tn.f2.f3) rfl))
          have HB8 := Lib.hid (below_put (j := 5) (v := (.int .i64 tn.f2.f3)) (below_put (j := 4) (v := (.int .i64 tn.f2.f2)) (below_put (j := 3) (v := (.int .i64 tn.f2.f1)) (below_put (j := 2) (v := (.int .i64 tn.f2.f0)) HB7.out hgw) hgw) hgw) hgw)
          have HI8 := Lib.hid (below_put (j := 5) (v := (.int .i64 tn.f2.f3)) (below_put (j := 4) (v := (.int .i64 tn.f2.f2)) (below_put (j := 3) (v := (.int .i64 tn.f2.f1)) (below_put (j := 2) (v := (.int .i64 tn.f2.f0)) HI7.out (Nat.le_refl _)) (Nat.le_refl _)) (Nat.le_refl _)) (Nat.le_refl _))
          have HFK := Lib.hid (K_foot (k50_mk w6 ⟨dn.f0, dn.f1, tn.f2, dn.f3, dn.f4, dn.f5, dn.f6⟩ (A6 := D6) (c6 := d6) m6 HD6.out (A11 := D11) (c11 := d11) m11 HD11.out))
          clear HD6 HD11 HT6 HX7 HB7 HI7 EN7
          go_wp2_with (fail)
          refine (HW7.out _).mono ?_
          rintro e w8 ⟨rfl, hd8⟩
          have EN9 := Lib.hid (blk_below EN8.out hd8.below)
          have HB9 := Lib.hid (below_step HB8.out hd8.below)
          have HI9 := Lib.hid (below_step HI8.out hd8.below)
          clear hd8 EN8 HB8 HI8 HW7 s2 f2 s3 f3 s4 f4 s5 f5 z2 z3 z4 z5
          obtain ⟨g', c', cur, W9, hap, hc9, hNR, hge, hb9⟩ := app50n tt ad cg w6 w8 HC6.out HI9.out (by omega) (by omega)
          have HAP := Lib.hid hap
          have hsz := below_size HI9.out
          have hfk : k50.FK W9 (fun k => k ≠ g') ⟨dn.f0, dn.f1, tn.f2, dn.f3, dn.f4, dn.f5, dn.f6⟩ [.string dn.f0, .bool dn.f1, .int .i64 tn.f2.f0, .int .i64 tn.f2.f1, .int .i64 tn.f2.f2, .int .i64 tn.f2.f3, .slice D6 dn.f3.length d6, .int .i64 dn.f4.f0, .int .i64 dn.f4.f1, .int .i64 dn.f4.f2, .int .i64 dn.f4.f3, .slice D11 dn.f5.length d11, .int .i64 dn.f6.f0, .int .i64 dn.f6.f1, .int .i64 dn.f6.f2, .int .i64 dn.f6.f3] := (HFK.out.step fun k hk _ => (below_join HI9.out hb9 hsz).block k hk).mono fun k hk => by omega
          have r9 := rd50_blk (blk_below EN9.out hb9) rfl
          have hst := wr50_in (cs := #[.string dn.f0, .bool dn.f1, .int .i64 tn.f2.f0, .int .i64 tn.f2.f1, .int .i64 tn.f2.f2, .int .i64 tn.f2.f3, .slice D6 dn.f3.length d6, .int .i64 dn.f4.f0, .int .i64 dn.f4.f1, .int .i64 dn.f4.f2, .int .i64 dn.f4.f3, .slice D11 dn.f5.length d11, .int .i64 dn.f6.f0, .int .i64 dn.f6.f1, .int .i64 dn.f6.f2, .int .i64 dn.f6.f3]) hNR.1 (show kk * 16 + 16 ≤ cur.length by have := hNR.2.1; omega) rfl (by simp [Value.oneCell'])
          have hN10 := nrow_set hNR hkk hfk
          have hb10 := below_setRow (below_step HB9.out hb9) (show w.heap.size ≤ g' by omega)
          have hB10 := hb10 (splice cur (kk * 16) [.string dn.f0, .bool dn.f1, .int .i64 tn.f2.f0, .int .i64 tn.f2.f1, .int .i64 tn.f2.f2, .int .i64 tn.f2.f3, .slice D6 dn.f3.length d6, .int .i64 dn.f4.f0, .int .i64 dn.f4.f1, .int .i64 dn.f4.f2, .int .i64 dn.f4.f3, .slice D11 dn.f5.length d11, .int .i64 dn.f6.f0, .int .i64 dn.f6.f1, .int .i64 dn.f6.f2, .int .i64 dn.f6.f3]).toArray
          obtain ⟨W10, hW⟩ : ∃ W, W = W9.setRow g' (splice cur (kk * 16) [.string dn.f0, .bool dn.f1, .int .i64 tn.f2.f0, .int .i64 tn.f2.f1, .int .i64 tn.f2.f2, .int .i64 tn.f2.f3, .slice D6 dn.f3.length d6, .int .i64 dn.f4.f0, .int .i64 dn.f4.f1, .int .i64 dn.f4.f2, .int .i64 dn.f4.f3, .slice D11 dn.f5.length d11, .int .i64 dn.f6.f0, .int .i64 dn.f6.f1, .int .i64 dn.f6.f2, .int .i64 dn.f6.f3]).toArray := ⟨_, rfl⟩
          change _ = Result.ok () (W9.setRow g' (splice cur (kk * 16) [.string dn.f0, .bool dn.f1, .int .i64 tn.f2.f0, .int .i64 tn.f2.f1, .int .i64 tn.f2.f2, .int .i64 tn.f2.f3, .slice D6 dn.f3.length d6, .int .i64 dn.f4.f0, .int .i64 dn.f4.f1, .int .i64 dn.f4.f2, .int .i64 dn.f4.f3, .slice D11 dn.f5.length d11, .int .i64 dn.f6.f0, .int .i64 dn.f6.f1, .int .i64 dn.f6.f2, .int .i64 dn.f6.f3]).toArray) at hst
          rw [← hW] at hst hN10 hB10
          have HB10 := Lib.hid hB10
          clear hW hb10 hB10 hfk HFK hNR hap hge hsz hb9 EN9 HB9 HI9
          have HC10 := Lib.hid (nrow_C hN10 (by rw [List.length_set]; omega))
          have hsz2 : ∀ n ∈ tt.set kk ⟨dn.f0, dn.f1, tn.f2, dn.f3, dn.f4, dn.f5, dn.f6⟩, ∀ g ∈ n.f3, g.f0.size ≤ 9223372036854775807 := fun n hn => by
            rcases List.mem_or_eq_of_mem_set hn with h | h
            · exact acl_size (HT.out.ok n h)
            · rw [h]; exact fun g hg => acl_size (n := dn) (HT.out.ok dn HM.out) g hg
          obtain ⟨l2, hl2⟩ : ∃ l, l = tt.set kk ⟨dn.f0, dn.f1, tn.f2, dn.f3, dn.f4, dn.f5, dn.f6⟩ := ⟨_, rfl⟩
          have hlen : l2.length = tt.length := by rw [hl2, List.length_set]
          rw [← hl2] at HC10 hsz2
          clear hN10 hl2
          have HT10 := Lib.hid fun (w1 : World) (hb : Below W10.heap.size W10 w1) => treecheck_c2 l2 _ c' w1 (Kd.C_below HC10.out hb) (by omega) (by omega) (fun h n hn => right_pparent h hn)
          have HR10 := Lib.hid fun (w1 : World) (hb : Below W10.heap.size W10 w1) => rtreecheck_c l2 _ c' w1 (Kd.C_below HC10.out hb) (by omega) (by omega) hsz2
          clear HC10 hsz2
          rw [hlen] at HT10 HR10
          generalize checkT l2 = y at HT10 HR10
          clear hlen
          go_wp2_with (first | (at_builtin; go_loud (refine Lib.wpList_append_run _ rfl _ _ _ _ rfl _ _ rfl rfl _ _ HAP.out ?_)) | (go_at_call 49; refine (HT10.out _ (Below.refl _ _)).mono ?_; rintro e wa ⟨rfl, hb⟩; have HBa := Lib.hid (below_step HB10.out hb); have HIa := Lib.hid hb; clear hb) | (go_at_call 50; refine (HR10.out _ HIa.out).mono ?_; rintro e wb ⟨rfl, hb⟩; have HBb := Lib.hid (below_step HBa.out hb); clear hb))
          go_ret
          exact ⟨rfl, HBb.out⟩
        · have s1 : w7.cell? ⟨w6.heap.size, 1, none⟩ = some (.bool dn.f1) := (blk_cell EN7.out 1).trans rfl
          have f1 := blk_frozen EN7.out 1
          have EN8 := Lib.hid (show (w7.setCell ⟨w6.heap.size, 1, none⟩ (.bool (!dn.f1))).heap[w6.heap.size]? = some (.cells #[.string dn.f0, .bool (!dn.f1), .int .i64 dn.f2.f0, .int .i64 dn.f2.f1, .int .i64 dn.f2.f2, .int .i64 dn.f2.f3, .slice D6 dn.f3.length d6, .int .i64 dn.f4.f0, .int .i64 dn.f4.f1, .int .i64 dn.f4.f2, .int .i64 dn.f4.f3, .slice D11 dn.f5.length d11, .int .i64 dn.f6.f0, .int .i64 dn.f6.f1, .int .i64 dn.f6.f2, .int .i64 dn.f6.f3] 50 (0, 0)) from (blk_put EN7.out 1 (.bool (!dn.f1)) rfl))
          have HB8 := Lib.hid (below_put (j := 1) (v := (.bool (!dn.f1))) HB7.out hgw)
          have HI8 := Lib.hid (below_put (j := 1) (v := (.bool (!dn.f1))) HI7.out (Nat.le_refl _))
          have HFK := Lib.hid (K_foot (k50_mk w6 ⟨dn.f0, (!dn.f1), dn.f2, dn.f3, dn.f4, dn.f5, dn.f6⟩ (A6 := D6) (c6 := d6) m6 HD6.out (A11 := D11) (c11 := d11) m11 HD11.out))
          clear HD6 HD11 HT6 HX7 HB7 HI7 EN7
          go_wp2_with (fail)
          refine (HW7.out _).mono ?_
          rintro e w8 ⟨rfl, hd8⟩
          have EN9 := Lib.hid (blk_below EN8.out hd8.below)
          have HB9 := Lib.hid (below_step HB8.out hd8.below)
          have HI9 := Lib.hid (below_step HI8.out hd8.below)
          clear hd8 EN8 HB8 HI8 HW7 s1 f1
          obtain ⟨g', c', cur, W9, hap, hc9, hNR, hge, hb9⟩ := app50n tt ad cg w6 w8 HC6.out HI9.out (by omega) (by omega)
          have HAP := Lib.hid hap
          have hsz := below_size HI9.out
          have hfk : k50.FK W9 (fun k => k ≠ g') ⟨dn.f0, (!dn.f1), dn.f2, dn.f3, dn.f4, dn.f5, dn.f6⟩ [.string dn.f0, .bool (!dn.f1), .int .i64 dn.f2.f0, .int .i64 dn.f2.f1, .int .i64 dn.f2.f2, .int .i64 dn.f2.f3, .slice D6 dn.f3.length d6, .int .i64 dn.f4.f0, .int .i64 dn.f4.f1, .int .i64 dn.f4.f2, .int .i64 dn.f4.f3, .slice D11 dn.f5.length d11, .int .i64 dn.f6.f0, .int .i64 dn.f6.f1, .int .i64 dn.f6.f2, .int .i64 dn.f6.f3] := (HFK.out.step fun k hk _ => (below_join HI9.out hb9 hsz).block k hk).mono fun k hk => by omega
          have r9 := rd50_blk (blk_below EN9.out hb9) rfl
          have hst := wr50_in (cs := #[.string dn.f0, .bool (!dn.f1), .int .i64 dn.f2.f0, .int .i64 dn.f2.f1, .int .i64 dn.f2.f2, .int .i64 dn.f2.f3, .slice D6 dn.f3.length d6, .int .i64 dn.f4.f0, .int .i64 dn.f4.f1, .int .i64 dn.f4.f2, .int .i64 dn.f4.f3, .slice D11 dn.f5.length d11, .int .i64 dn.f6.f0, .int .i64 dn.f6.f1, .int .i64 dn.f6.f2, .int .i64 dn.f6.f3]) hNR.1 (show kk * 16 + 16 ≤ cur.length by have := hNR.2.1; omega) rfl (by simp [Value.oneCell'])
          have hN10 := nrow_set hNR hkk hfk
          have hb10 := below_setRow (below_step HB9.out hb9) (show w.heap.size ≤ g' by omega)
          have hB10 := hb10 (splice cur (kk * 16) [.string dn.f0, .bool (!dn.f1), .int .i64 dn.f2.f0, .int .i64 dn.f2.f1, .int .i64 dn.f2.f2, .int .i64 dn.f2.f3, .slice D6 dn.f3.length d6, .int .i64 dn.f4.f0, .int .i64 dn.f4.f1, .int .i64 dn.f4.f2, .int .i64 dn.f4.f3, .slice D11 dn.f5.length d11, .int .i64 dn.f6.f0, .int .i64 dn.f6.f1, .int .i64 dn.f6.f2, .int .i64 dn.f6.f3]).toArray
          obtain ⟨W10, hW⟩ : ∃ W, W = W9.setRow g' (splice cur (kk * 16) [.string dn.f0, .bool (!dn.f1), .int .i64 dn.f2.f0, .int .i64 dn.f2.f1, .int .i64 dn.f2.f2, .int .i64 dn.f2.f3, .slice D6 dn.f3.length d6, .int .i64 dn.f4.f0, .int .i64 dn.f4.f1, .int .i64 dn.f4.f2, .int .i64 dn.f4.f3, .slice D11 dn.f5.length d11, .int .i64 dn.f6.f0, .int .i64 dn.f6.f1, .int .i64 dn.f6.f2, .int .i64 dn.f6.f3]).toArray := ⟨_, rfl⟩
          change _ = Result.ok () (W9.setRow g' (splice cur (kk * 16) [.string dn.f0, .bool (!dn.f1), .int .i64 dn.f2.f0, .int .i64 dn.f2.f1, .int .i64 dn.f2.f2, .int .i64 dn.f2.f3, .slice D6 dn.f3.length d6, .int .i64 dn.f4.f0, .int .i64 dn.f4.f1, .int .i64 dn.f4.f2, .int .i64 dn.f4.f3, .slice D11 dn.f5.length d11, .int .i64 dn.f6.f0, .int .i64 dn.f6.f1, .int .i64 dn.f6.f2, .int .i64 dn.f6.f3]).toArray) at hst
          rw [← hW] at hst hN10 hB10
          have HB10 := Lib.hid hB10
          clear hW hb10 hB10 hfk HFK hNR hap hge hsz hb9 EN9 HB9 HI9
          have HC10 := Lib.hid (nrow_C hN10 (by rw [List.length_set]; omega))
          have hsz2 : ∀ n ∈ tt.set kk ⟨dn.f0, (!dn.f1), dn.f2, dn.f3, dn.f4, dn.f5, dn.f6⟩, ∀ g ∈ n.f3, g.f0.size ≤ 9223372036854775807 := fun n hn => by
            rcases List.mem_or_eq_of_mem_set hn with h | h
            · exact acl_size (HT.out.ok n h)
            · rw [h]; exact fun g hg => acl_size (n := dn) (HT.out.ok dn HM.out) g hg
          obtain ⟨l2, hl2⟩ : ∃ l, l = tt.set kk ⟨dn.f0, (!dn.f1), dn.f2, dn.f3, dn.f4, dn.f5, dn.f6⟩ := ⟨_, rfl⟩
          have hlen : l2.length = tt.length := by rw [hl2, List.length_set]
          rw [← hl2] at HC10 hsz2
          clear hN10 hl2
          have HT10 := Lib.hid fun (w1 : World) (hb : Below W10.heap.size W10 w1) => treecheck_c2 l2 _ c' w1 (Kd.C_below HC10.out hb) (by omega) (by omega) (fun h n hn => right_pparent h hn)
          have HR10 := Lib.hid fun (w1 : World) (hb : Below W10.heap.size W10 w1) => rtreecheck_c l2 _ c' w1 (Kd.C_below HC10.out hb) (by omega) (by omega) hsz2
          clear HC10 hsz2
          rw [hlen] at HT10 HR10
          generalize checkT l2 = y at HT10 HR10
          clear hlen
          go_wp2_with (first | (at_builtin; go_loud (refine Lib.wpList_append_run _ rfl _ _ _ _ rfl _ _ rfl rfl _ _ HAP.out ?_)) | (go_at_call 49; refine (HT10.out _ (Below.refl _ _)).mono ?_; rintro e wa ⟨rfl, hb⟩; have HBa := Lib.hid (below_step HB10.out hb); have HIa := Lib.hid hb; clear hb) | (go_at_call 50; refine (HR10.out _ HIa.out).mono ?_; rintro e wb ⟨rfl, hb⟩; have HBb := Lib.hid (below_step HBa.out hb); clear hb))
          go_ret
          exact ⟨rfl, HBb.out⟩
        · have s0 : w7.cell? ⟨w.heap.size, 0, none⟩ = some (.string tn.f0) := (blk_cell HX7.out 0).trans rfl
          have f0 := blk_frozen EN7.out 0
          have z0 : w7.cell? ⟨w6.heap.size, 0, none⟩ = some (.string dn.f0) := (blk_cell EN7.out 0).trans rfl
          have EN8 := Lib.hid (show (w7.setCell ⟨w6.heap.size, 0, none⟩ (.string tn.f0)).heap[w6.heap.size]? = some (.cells #[.string tn.f0, .bool dn.f1, .int .i64 dn.f2.f0, .int .i64 dn.f2.f1, .int .i64 dn.f2.f2, .int .i64 dn.f2.f3, .slice D6 dn.f3.length d6, .int .i64 dn.f4.f0, .int .i64 dn.f4.f1, .int .i64 dn.f4.f2, .int .i64 dn.f4.f3, .slice D11 dn.f5.length d11, .int .i64 dn.f6.f0, .int .i64 dn.f6.f1, .int .i64 dn.f6.f2, .int .i64 dn.f6.f3] 50 (0, 0)) from (blk_put EN7.out 0 (.string tn.f0) rfl))
          have HB8 := Lib.hid (below_put (j := 0) (v := (.string tn.f0)) HB7.out hgw)
          have HI8 := Lib.hid (below_put (j := 0) (v := (.string tn.f0)) HI7.out (Nat.le_refl _))
          have HFK := Lib.hid (K_foot (k50_mk w6 ⟨tn.f0, dn.f1, dn.f2, dn.f3, dn.f4, dn.f5, dn.f6⟩ (A6 := D6) (c6 := d6) m6 HD6.out (A11 := D11) (c11 := d11) m11 HD11.out))
          clear HD6 HD11 HT6 HX7 HB7 HI7 EN7
          go_wp2_with (fail)
          refine (HW7.out _).mono ?_
          rintro e w8 ⟨rfl, hd8⟩
          have EN9 := Lib.hid (blk_below EN8.out hd8.below)
          have HB9 := Lib.hid (below_step HB8.out hd8.below)
          have HI9 := Lib.hid (below_step HI8.out hd8.below)
          clear hd8 EN8 HB8 HI8 HW7 s0 f0 z0
          obtain ⟨g', c', cur, W9, hap, hc9, hNR, hge, hb9⟩ := app50n tt ad cg w6 w8 HC6.out HI9.out (by omega) (by omega)
          have HAP := Lib.hid hap
          have hsz := below_size HI9.out
          have hfk : k50.FK W9 (fun k => k ≠ g') ⟨tn.f0, dn.f1, dn.f2, dn.f3, dn.f4, dn.f5, dn.f6⟩ [.string tn.f0, .bool dn.f1, .int .i64 dn.f2.f0, .int .i64 dn.f2.f1, .int .i64 dn.f2.f2, .int .i64 dn.f2.f3, .slice D6 dn.f3.length d6, .int .i64 dn.f4.f0, .int .i64 dn.f4.f1, .int .i64 dn.f4.f2, .int .i64 dn.f4.f3, .slice D11 dn.f5.length d11, .int .i64 dn.f6.f0, .int .i64 dn.f6.f1, .int .i64 dn.f6.f2, .int .i64 dn.f6.f3] := (HFK.out.step fun k hk _ => (below_join HI9.out hb9 hsz).block k hk).mono fun k hk => by omega
          have r9 := rd50_blk (blk_below EN9.out hb9) rfl
          have hst := wr50_in (cs := #[.string tn.f0, .bool dn.f1, .int .i64 dn.f2.f0, .int .i64 dn.f2.f1, .int .i64 dn.f2.f2, .int .i64 dn.f2.f3, .slice D6 dn.f3.length d6, .int .i64 dn.f4.f0, .int .i64 dn.f4.f1, .int .i64 dn.f4.f2, .int .i64 dn.f4.f3, .slice D11 dn.f5.length d11, .int .i64 dn.f6.f0, .int .i64 dn.f6.f1, .int .i64 dn.f6.f2, .int .i64 dn.f6.f3]) hNR.1 (show kk * 16 + 16 ≤ cur.length by have := hNR.2.1; omega) rfl (by simp [Value.oneCell'])
          have hN10 := nrow_set hNR hkk hfk
          have hb10 := below_setRow (below_step HB9.out hb9) (show w.heap.size ≤ g' by omega)
          have hB10 := hb10 (splice cur (kk * 16) [.string tn.f0, .bool dn.f1, .int .i64 dn.f2.f0, .int .i64 dn.f2.f1, .int .i64 dn.f2.f2, .int .i64 dn.f2.f3, .slice D6 dn.f3.length d6, .int .i64 dn.f4.f0, .int .i64 dn.f4.f1, .int .i64 dn.f4.f2, .int .i64 dn.f4.f3, .slice D11 dn.f5.length d11, .int .i64 dn.f6.f0, .int .i64 dn.f6.f1, .int .i64 dn.f6.f2, .int .i64 dn.f6.f3]).toArray
          obtain ⟨W10, hW⟩ : ∃ W, W = W9.setRow g' (splice cur (kk * 16) [.string tn.f0, .bool dn.f1, .int .i64 dn.f2.f0, .int .i64 dn.f2.f1, .int .i64 dn.f2.f2, .int .i64 dn.f2.f3, .slice D6 dn.f3.length d6, .int .i64 dn.f4.f0, .int .i64 dn.f4.f1, .int .i64 dn.f4.f2, .int .i64 dn.f4.f3, .slice D11 dn.f5.length d11, .int .i64 dn.f6.f0, .int .i64 dn.f6.f1, .int .i64 dn.f6.f2, .int .i64 dn.f6.f3]).toArray := ⟨_, rfl⟩
          change _ = Result.ok () (W9.setRow g' (splice cur (kk * 16) [.string tn.f0, .bool dn.f1, .int .i64 dn.f2.f0, .int .i64 dn.f2.f1, .int .i64 dn.f2.f2, .int .i64 dn.f2.f3, .slice D6 dn.f3.length d6, .int .i64 dn.f4.f0, .int .i64 dn.f4.f1, .int .i64 dn.f4.f2, .int .i64 dn.f4.f3, .slice D11 dn.f5.length d11, .int .i64 dn.f6.f0, .int .i64 dn.f6.f1, .int .i64 dn.f6.f2, .int .i64 dn.f6.f3]).toArray) at hst
          rw [← hW] at hst hN10 hB10
          have HB10 := Lib.hid hB10
          clear hW hb10 hB10 hfk HFK hNR hap hge hsz hb9 EN9 HB9 HI9
          have HC10 := Lib.hid (nrow_C hN10 (by rw [List.length_set]; omega))
          have hsz2 : ∀ n ∈ tt.set kk ⟨tn.f0, dn.f1, dn.f2, dn.f3, dn.f4, dn.f5, dn.f6⟩, ∀ g ∈ n.f3, g.f0.size ≤ 9223372036854775807 := fun n hn => by
            rcases List.mem_or_eq_of_mem_set hn with h | h
            · exact acl_size (HT.out.ok n h)
            · rw [h]; exact fun g hg => acl_size (n := dn) (HT.out.ok dn HM.out) g hg
          obtain ⟨l2, hl2⟩ : ∃ l, l = tt.set kk ⟨tn.f0, dn.f1, dn.f2, dn.f3, dn.f4, dn.f5, dn.f6⟩ := ⟨_, rfl⟩
          have hlen : l2.length = tt.length := by rw [hl2, List.length_set]
          rw [← hl2] at HC10 hsz2
          clear hN10 hl2
          have HT10 := Lib.hid fun (w1 : World) (hb : Below W10.heap.size W10 w1) => treecheck_c2 l2 _ c' w1 (Kd.C_below HC10.out hb) (by omega) (by omega) (fun h n hn => right_pparent h hn)
          have HR10 := Lib.hid fun (w1 : World) (hb : Below W10.heap.size W10 w1) => rtreecheck_c l2 _ c' w1 (Kd.C_below HC10.out hb) (by omega) (by omega) hsz2
          clear HC10 hsz2
          rw [hlen] at HT10 HR10
          generalize checkT l2 = y at HT10 HR10
          clear hlen
          go_wp2_with (first | (at_builtin; go_loud (refine Lib.wpList_append_run _ rfl _ _ _ _ rfl _ _ rfl rfl _ _ HAP.out ?_)) | (go_at_call 49; refine (HT10.out _ (Below.refl _ _)).mono ?_; rintro e wa ⟨rfl, hb⟩; have HBa := Lib.hid (below_step HB10.out hb); have HIa := Lib.hid hb; clear hb) | (go_at_call 50; refine (HR10.out _ HIa.out).mono ?_; rintro e wb ⟨rfl, hb⟩; have HBb := Lib.hid (below_step HBa.out hb); clear hb))
          go_ret
          exact ⟨rfl, HBb.out⟩
        · have s6 : w7.cell? ⟨w.heap.size, 6, none⟩ = some (.slice T6 tn.f3.length t6) := (blk_cell HX7.out 6).trans rfl
          have f6 := blk_frozen EN7.out 6
          have z6 : w7.cell? ⟨w6.heap.size, 6, none⟩ = some (.slice D6 dn.f3.length d6) := (blk_cell EN7.out 6).trans rfl
          have EN8 := Lib.hid (show (w7.setCell ⟨w6.heap.size, 6, none⟩ (.slice T6 tn.f3.length t6)).heap[w6.heap.size]? = some (.cells #[.string dn.f0, .bool dn.f1, .int .i64 dn.f2.f0, .int .i64 dn.f2.f1, .int .i64 dn.f2.f2, .int .i64 dn.f2.f3, .slice T6 tn.f3.length t6, .int .i64 dn.f4.f0, .int .i64 dn.f4.f1, .int .i64 dn.f4.f2, .int .i64 dn.f4.f3, .slice D11 dn.f5.length d11, .int .i64 dn.f6.f0, .int .i64 dn.f6.f1, .int .i64 dn.f6.f2, .int .i64 dn.f6.f3] 50 (0, 0)) from (blk_put EN7.out 6 (.slice T6 tn.f3.length t6) rfl))
          have HB8 := Lib.hid (below_put (j := 6) (v := (.slice T6 tn.f3.length t6)) HB7.out hgw)
          have HI8 := Lib.hid (below_put (j := 6) (v := (.slice T6 tn.f3.length t6)) HI7.out (Nat.le_refl _))
          have HFK := Lib.hid (K_foot (k50_mk w6 ⟨dn.f0, dn.f1, dn.f2, tn.f3, dn.f4, dn.f5, dn.f6⟩ (A6 := T6) (c6 := t6) l6 HT6.out (A11 := D11) (c11 := d11) m11 HD11.out))
          clear HD6 HD11 HT6 HX7 HB7 HI7 EN7
          go_wp2_with (fail)
          refine (HW7.out _).mono ?_
          rintro e w8 ⟨rfl, hd8⟩
          have EN9 := Lib.hid (blk_below EN8.out hd8.below)
          have HB9 := Lib.hid (below_step HB8.out hd8.below)
          have HI9 := Lib.hid (below_step HI8.out hd8.below)
          clear hd8 EN8 HB8 HI8 HW7 s6 f6 z6
          obtain ⟨g', c', cur, W9, hap, hc9, hNR, hge, hb9⟩ := app50n tt ad cg w6 w8 HC6.out HI9.out (by omega) (by omega)
          have HAP := Lib.hid hap
          have hsz := below_size HI9.out
          have hfk : k50.FK W9 (fun k => k ≠ g') ⟨dn.f0, dn.f1, dn.f2, tn.f3, dn.f4, dn.f5, dn.f6⟩ [.string dn.f0, .bool dn.f1, .int .i64 dn.f2.f0, .int .i64 dn.f2.f1, .int .i64 dn.f2.f2, .int .i64 dn.f2.f3, .slice T6 tn.f3.length t6, .int .i64 dn.f4.f0, .int .i64 dn.f4.f1, .int .i64 dn.f4.f2, .int .i64 dn.f4.f3, .slice D11 dn.f5.length d11, .int .i64 dn.f6.f0, .int .i64 dn.f6.f1, .int .i64 dn.f6.f2, .int .i64 dn.f6.f3] := (HFK.out.step fun k hk _ => (below_join HI9.out hb9 hsz).block k hk).mono fun k hk => by omega
          have r9 := rd50_blk (blk_below EN9.out hb9) rfl
          have hst := wr50_in (cs := #[.string dn.f0, .bool dn.f1, .int .i64 dn.f2.f0, .int .i64 dn.f2.f1, .int .i64 dn.f2.f2, .int .i64 dn.f2.f3, .slice T6 tn.f3.length t6, .int .i64 dn.f4.f0, .int .i64 dn.f4.f1, .int .i64 dn.f4.f2, .int .i64 dn.f4.f3, .slice D11 dn.f5.length d11, .int .i64 dn.f6.f0, .int .i64 dn.f6.f1, .int .i64 dn.f6.f2, .int .i64 dn.f6.f3]) hNR.1 (show kk * 16 + 16 ≤ cur.length by have := hNR.2.1; omega) rfl (by simp [Value.oneCell'])
          have hN10 := nrow_set hNR hkk hfk
          have hb10 := below_setRow (below_step HB9.out hb9) (show w.heap.size ≤ g' by omega)
          have hB10 := hb10 (splice cur (kk * 16) [.string dn.f0, .bool dn.f1, .int .i64 dn.f2.f0, .int .i64 dn.f2.f1, .int .i64 dn.f2.f2, .int .i64 dn.f2.f3, .slice T6 tn.f3.length t6, .int .i64 dn.f4.f0, .int .i64 dn.f4.f1, .int .i64 dn.f4.f2, .int .i64 dn.f4.f3, .slice D11 dn.f5.length d11, .int .i64 dn.f6.f0, .int .i64 dn.f6.f1, .int .i64 dn.f6.f2, .int .i64 dn.f6.f3]).toArray
          obtain ⟨W10, hW⟩ : ∃ W, W = W9.setRow g' (splice cur (kk * 16) [.string dn.f0, .bool dn.f1, .int .i64 dn.f2.f0, .int .i64 dn.f2.f1, .int .i64 dn.f2.f2, .int .i64 dn.f2.f3, .slice T6 tn.f3.length t6, .int .i64 dn.f4.f0, .int .i64 dn.f4.f1, .int .i64 dn.f4.f2, .int .i64 dn.f4.f3, .slice D11 dn.f5.length d11, .int .i64 dn.f6.f0, .int .i64 dn.f6.f1, .int .i64 dn.f6.f2, .int .i64 dn.f6.f3]).toArray := ⟨_, rfl⟩
          change _ = Result.ok () (W9.setRow g' (splice cur (kk * 16) [.string dn.f0, .bool dn.f1, .int .i64 dn.f2.f0, .int .i64 dn.f2.f1, .int .i64 dn.f2.f2, .int .i64 dn.f2.f3, .slice T6 tn.f3.length t6, .int .i64 dn.f4.f0, .int .i64 dn.f4.f1, .int .i64 dn.f4.f2, .int .i64 dn.f4.f3, .slice D11 dn.f5.length d11, .int .i64 dn.f6.f0, .int .i64 dn.f6.f1, .int .i64 dn.f6.f2, .int .i64 dn.f6.f3]).toArray) at hst
          rw [← hW] at hst hN10 hB10
          have HB10 := Lib.hid hB10
          clear hW hb10 hB10 hfk HFK hNR hap hge hsz hb9 EN9 HB9 HI9
          have HC10 := Lib.hid (nrow_C hN10 (by rw [List.length_set]; omega))
          have hsz2 : ∀ n ∈ tt.set kk ⟨dn.f0, dn.f1, dn.f2, tn.f3, dn.f4, dn.f5, dn.f6⟩, ∀ g ∈ n.f3, g.f0.size ≤ 9223372036854775807 := fun n hn => by
            rcases List.mem_or_eq_of_mem_set hn with h | h
            · exact acl_size (HT.out.ok n h)
            · rw [h]; exact HTS.out
          obtain ⟨l2, hl2⟩ : ∃ l, l = tt.set kk ⟨dn.f0, dn.f1, dn.f2, tn.f3, dn.f4, dn.f5, dn.f6⟩ := ⟨_, rfl⟩
          have hlen : l2.length = tt.length := by rw [hl2, List.length_set]
          rw [← hl2] at HC10 hsz2
          clear hN10 hl2
          have HT10 := Lib.hid fun (w1 : World) (hb : Below W10.heap.size W10 w1) => treecheck_c2 l2 _ c' w1 (Kd.C_below HC10.out hb) (by omega) (by omega) (fun h n hn => right_pparent h hn)
          have HR10 := Lib.hid fun (w1 : World) (hb : Below W10.heap.size W10 w1) => rtreecheck_c l2 _ c' w1 (Kd.C_below HC10.out hb) (by omega) (by omega) hsz2
          clear HC10 hsz2
          rw [hlen] at HT10 HR10
          generalize checkT l2 = y at HT10 HR10
          clear hlen
          go_wp2_with (first | (at_builtin; go_loud (refine Lib.wpList_append_run _ rfl _ _ _ _ rfl _ _ rfl rfl _ _ HAP.out ?_)) | (go_at_call 49; refine (HT10.out _ (Below.refl _ _)).mono ?_; rintro e wa ⟨rfl, hb⟩; have HBa := Lib.hid (below_step HB10.out hb); have HIa := Lib.hid hb; clear hb) | (go_at_call 50; refine (HR10.out _ HIa.out).mono ?_; rintro e wb ⟨rfl, hb⟩; have HBb := Lib.hid (below_step HBa.out hb); clear hb))
          go_ret
          exact ⟨rfl, HBb.out⟩
        · have s12 : w7.cell? ⟨w.heap.size, 12, none⟩ = some (.int .i64 tn.f6.f0) := (blk_cell HX7.out 12).trans rfl
          have s13 : w7.cell? ⟨w.heap.size, 13, none⟩ = some (.int .i64 tn.f6.f1) := (blk_cell HX7.out 13).trans rfl
          have s14 : w7.cell? ⟨w.heap.size, 14, none⟩ = some (.int .i64 tn.f6.f2) := (blk_cell HX7.out 14).trans rfl
          have s15 : w7.cell? ⟨w.heap.size, 15, none⟩ = some (.int .i64 tn.f6.f3) := (blk_cell HX7.out 15).trans rfl
          have f12 := blk_frozen EN7.out 12
          have f13 := blk_frozen EN7.out 13
          have f14 := blk_frozen EN7.out 14
          have f15 := blk_frozen EN7.out 15
          have z12 : w7.cell? ⟨w6.heap.size, 12, none⟩ = some (.int .i64 dn.f6.f0) := (blk_cell EN7.out 12).trans rfl
          have z13 : w7.cell? ⟨w6.heap.size, 13, none⟩ = some (.int .i64 dn.f6.f1) := (blk_cell EN7.out 13).trans rfl
          have z14 : w7.cell? ⟨w6.heap.size, 14, none⟩ = some (.int .i64 dn.f6.f2) := (blk_cell EN7.out 14).trans rfl
          have z15 : w7.cell? ⟨w6.heap.size, 15, none⟩ = some (.int .i64 dn.f6.f3) := (blk_cell EN7.out 15).trans rfl
          have EN8 := Lib.hid (show ((((w7.setCell ⟨w6.heap.size, 12, none⟩ (.int .i64 tn.f6.f0)).setCell ⟨w6.heap.size, 13, none⟩ (.int .i64 tn.f6.f1)).setCell ⟨w6.heap.size, 14, none⟩ (.int .i64 tn.f6.f2)).setCell ⟨w6.heap.size, 15, none⟩ (.int .i64 tn.f6.f3)).heap[w6.heap.size]? = some (.cells #[.string dn.f0, .bool dn.f1, .int .i64 dn.f2.f0, .int .i64 dn.f2.f1, .int .i64 dn.f2.f2, .int .i64 dn.f2.f3, .slice D6 dn.f3.length d6, .int .i64 dn.f4.f0, .int .i64 dn.f4.f1, .int .i64 dn.f4.f2, .int .i64 dn.f4.f3, .slice D11 dn.f5.length d11, .int .i64 tn.f6.f0, .int .i64 tn.f6.f1, .int .i64 tn.f6.f2, .int .i64 tn.f6.f3] 50 (0, 0)) from (blk_put (blk_put (blk_put (blk_put EN7.out 12 (.int .i64 tn.f6.f0) rfl) 13 (.int .i64 tn.f6.f1) rfl) 14 (.int .i64 tn.f6.f2) rfl) 15 (.int .i64 tn.f6.f3) rfl))
          have HB8 := Lib.hid (below_put (j := 15) (v := (.int .i64 tn.f6.f3)) (below_put (j := 14) (v := (.int .i64 tn.f6.f2)) (below_put (j := 13) (v := (.int .i64 tn.f6.f1)) (below_put (j := 12) (v := (.int .i64 tn.f6.f0)) HB7.out hgw) hgw) hgw) hgw)
          have HI8 := Lib.hid (below_put (j := 15) (v := (.int .i64 tn.f6.f3)) (below_put (j := 14) (v := (.int .i64 tn.f6.f2)) (below_put (j := 13) (v := (.int .i64 tn.f6.f1)) (below_put (j := 12) (v := (.int .i64 tn.f6.f0)) HI7.out (Nat.le_refl _)) (Nat.le_refl _)) (Nat.le_refl _)) (Nat.le_refl _))
          have HFK := Lib.hid (K_foot (k50_mk w6 ⟨dn.f0, dn.f1, dn.f2, dn.f3, dn.f4, dn.f5, tn.f6⟩ (A6 := D6) (c6 := d6) m6 HD6.out (A11 := D11) (c11 := d11) m11 HD11.out))
          clear HD6 HD11 HT6 HX7 HB7 HI7 EN7
          go_wp2_with (fail)
          refine (HW7.out _).mono ?_
          rintro e w8 ⟨rfl, hd8⟩
          have EN9 := Lib.hid (blk_below EN8.out hd8.below)
          have HB9 := Lib.hid (below_step HB8.out hd8.below)
          have HI9 := Lib.hid (below_step HI8.out hd8.below)
          clear hd8 EN8 HB8 HI8 HW7 s12 f12 s13 f13 s14 f14 s15 f15 z12 z13 z14 z15
          obtain ⟨g', c', cur, W9, hap, hc9, hNR, hge, hb9⟩ := app50n tt ad cg w6 w8 HC6.out HI9.out (by omega) (by omega)
          have HAP := Lib.hid hap
          have hsz := below_size HI9.out
          have hfk : k50.FK W9 (fun k => k ≠ g') ⟨dn.f0, dn.f1, dn.f2, dn.f3, dn.f4, dn.f5, tn.f6⟩ [.string dn.f0, .bool dn.f1, .int .i64 dn.f2.f0, .int .i64 dn.f2.f1, .int .i64 dn.f2.f2, .int .i64 dn.f2.f3, .slice D6 dn.f3.length d6, .int .i64 dn.f4.f0, .int .i64 dn.f4.f1, .int .i64 dn.f4.f2, .int .i64 dn.f4.f3, .slice D11 dn.f5.length d11, .int .i64 tn.f6.f0, .int .i64 tn.f6.f1, .int .i64 tn.f6.f2, .int .i64 tn.f6.f3] := (HFK.out.step fun k hk _ => (below_join HI9.out hb9 hsz).block k hk).mono fun k hk => by omega
          have r9 := rd50_blk (blk_below EN9.out hb9) rfl
          have hst := wr50_in (cs := #[.string dn.f0, .bool dn.f1, .int .i64 dn.f2.f0, .int .i64 dn.f2.f1, .int .i64 dn.f2.f2, .int .i64 dn.f2.f3, .slice D6 dn.f3.length d6, .int .i64 dn.f4.f0, .int .i64 dn.f4.f1, .int .i64 dn.f4.f2, .int .i64 dn.f4.f3, .slice D11 dn.f5.length d11, .int .i64 tn.f6.f0, .int .i64 tn.f6.f1, .int .i64 tn.f6.f2, .int .i64 tn.f6.f3]) hNR.1 (show kk * 16 + 16 ≤ cur.length by have := hNR.2.1; omega) rfl (by simp [Value.oneCell'])
          have hN10 := nrow_set hNR hkk hfk
          have hb10 := below_setRow (below_step HB9.out hb9) (show w.heap.size ≤ g' by omega)
          have hB10 := hb10 (splice cur (kk * 16) [.string dn.f0, .bool dn.f1, .int .i64 dn.f2.f0, .int .i64 dn.f2.f1, .int .i64 dn.f2.f2, .int .i64 dn.f2.f3, .slice D6 dn.f3.length d6, .int .i64 dn.f4.f0, .int .i64 dn.f4.f1, .int .i64 dn.f4.f2, .int .i64 dn.f4.f3, .slice D11 dn.f5.length d11, .int .i64 tn.f6.f0, .int .i64 tn.f6.f1, .int .i64 tn.f6.f2, .int .i64 tn.f6.f3]).toArray
          obtain ⟨W10, hW⟩ : ∃ W, W = W9.setRow g' (splice cur (kk * 16) [.string dn.f0, .bool dn.f1, .int .i64 dn.f2.f0, .int .i64 dn.f2.f1, .int .i64 dn.f2.f2, .int .i64 dn.f2.f3, .slice D6 dn.f3.length d6, .int .i64 dn.f4.f0, .int .i64 dn.f4.f1, .int .i64 dn.f4.f2, .int .i64 dn.f4.f3, .slice D11 dn.f5.length d11, .int .i64 tn.f6.f0, .int .i64 tn.f6.f1, .int .i64 tn.f6.f2, .int .i64 tn.f6.f3]).toArray := ⟨_, rfl⟩
          change _ = Result.ok () (W9.setRow g' (splice cur (kk * 16) [.string dn.f0, .bool dn.f1, .int .i64 dn.f2.f0, .int .i64 dn.f2.f1, .int .i64 dn.f2.f2, .int .i64 dn.f2.f3, .slice D6 dn.f3.length d6, .int .i64 dn.f4.f0, .int .i64 dn.f4.f1, .int .i64 dn.f4.f2, .int .i64 dn.f4.f3, .slice D11 dn.f5.length d11, .int .i64 tn.f6.f0, .int .i64 tn.f6.f1, .int .i64 tn.f6.f2, .int .i64 tn.f6.f3]).toArray) at hst
          rw [← hW] at hst hN10 hB10
          have HB10 := Lib.hid hB10
          clear hW hb10 hB10 hfk HFK hNR hap hge hsz hb9 EN9 HB9 HI9
          have HC10 := Lib.hid (nrow_C hN10 (by rw [List.length_set]; omega))
          have hsz2 : ∀ n ∈ tt.set kk ⟨dn.f0, dn.f1, dn.f2, dn.f3, dn.f4, dn.f5, tn.f6⟩, ∀ g ∈ n.f3, g.f0.size ≤ 9223372036854775807 := fun n hn => by
            rcases List.mem_or_eq_of_mem_set hn with h | h
            · exact acl_size (HT.out.ok n h)
            · rw [h]; exact fun g hg => acl_size (n := dn) (HT.out.ok dn HM.out) g hg
          obtain ⟨l2, hl2⟩ : ∃ l, l = tt.set kk ⟨dn.f0, dn.f1, dn.f2, dn.f3, dn.f4, dn.f5, tn.f6⟩ := ⟨_, rfl⟩
          have hlen : l2.length = tt.length := by rw [hl2, List.length_set]
          rw [← hl2] at HC10 hsz2
          clear hN10 hl2
          have HT10 := Lib.hid fun (w1 : World) (hb : Below W10.heap.size W10 w1) => treecheck_c2 l2 _ c' w1 (Kd.C_below HC10.out hb) (by omega) (by omega) (fun h n hn => right_pparent h hn)
          have HR10 := Lib.hid fun (w1 : World) (hb : Below W10.heap.size W10 w1) => rtreecheck_c l2 _ c' w1 (Kd.C_below HC10.out hb) (by omega) (by omega) hsz2
          clear HC10 hsz2
          rw [hlen] at HT10 HR10
          generalize checkT l2 = y at HT10 HR10
          clear hlen
          go_wp2_with (first | (at_builtin; go_loud (refine Lib.wpList_append_run _ rfl _ _ _ _ rfl _ _ rfl rfl _ _ HAP.out ?_)) | (go_at_call 49; refine (HT10.out _ (Below.refl _ _)).mono ?_; rintro e wa ⟨rfl, hb⟩; have HBa := Lib.hid (below_step HB10.out hb); have HIa := Lib.hid hb; clear hb) | (go_at_call 50; refine (HR10.out _ HIa.out).mono ?_; rintro e wb ⟨rfl, hb⟩; have HBb := Lib.hid (below_step HBa.out hb); clear hb))
          go_ret
          exact ⟨rfl, HBb.out⟩
        · have s7 : w7.cell? ⟨w.heap.size, 7, none⟩ = some (.int .i64 tn.f4.f0) := (blk_cell HX7.out 7).trans rfl
          have s8 : w7.cell? ⟨w.heap.size, 8, none⟩ = some (.int .i64 tn.f4.f1) := (blk_cell HX7.out 8).trans rfl
          have s9 : w7.cell? ⟨w.heap.size, 9, none⟩ = some (.int .i64 tn.f4.f2) := (blk_cell HX7.out 9).trans rfl
          have s10 : w7.cell? ⟨w.heap.size, 10, none⟩ = some (.int .i64 tn.f4.f3) := (blk_cell HX7.out 10).trans rfl
          have f7 := blk_frozen EN7.out 7
          have f8 := blk_frozen EN7.out 8
          have f9 := blk_frozen EN7.out 9
          have f10 := blk_frozen EN7.out 10
          have z7 : w7.cell? ⟨w6.heap.size, 7, none⟩ = some (.int .i64 dn.f4.f0) := (blk_cell EN7.out 7).trans rfl
          have z8 : w7.cell? ⟨w6.heap.size, 8, none⟩ = some (.int .i64 dn.f4.f1) := (blk_cell EN7.out 8).trans rfl
          have z9 : w7.cell? ⟨w6.heap.size, 9, none⟩ = some (.int .i64 dn.f4.f2) := (blk_cell EN7.out 9).trans rfl
          have z10 : w7.cell? ⟨w6.heap.size, 10, none⟩ = some (.int .i64 dn.f4.f3) := (blk_cell EN7.out 10).trans rfl
          have EN8 := Lib.hid (show ((((w7.setCell ⟨w6.heap.size, 7, none⟩ (.int .i64 tn.f4.f0)).setCell ⟨w6.heap.size, 8, none⟩ (.int .i64 tn.f4.f1)).setCell ⟨w6.heap.size, 9, none⟩ (.int .i64 tn.f4.f2)).setCell ⟨w6.heap.size, 10, none⟩ (.int .i64 tn.f4.f3)).heap[w6.heap.size]? = some (.cells #[.string dn.f0, .bool dn.f1, .int .i64 dn.f2.f0, .int .i64 dn.f2.f1, .int .i64 dn.f2.f2, .int .i64 dn.f2.f3, .slice D6 dn.f3.length d6, .int .i64 tn.f4.f0, .int .i64 tn.f4.f1, .int .i64 tn.f4.f2, .int .i64 tn.f4.f3, .slice D11 dn.f5.length d11, .int .i64 dn.f6.f0, .int .i64 dn.f6.f1, .int .i64 dn.f6.f2, .int .i64 dn.f6.f3] 50 (0, 0)) from (blk_put (blk_put (blk_put (blk_put EN7.out 7 (.int .i64 tn.f4.f0) rfl) 8 (.int .i64 tn.f4.f1) rfl) 9 (.int .i64 tn.f4.f2) rfl) 10 (.int .i64 tn.f4.f3) rfl))
          have HB8 := Lib.hid (below_put (j := 10) (v := (.int .i64 tn.f4.f3)) (below_put (j := 9) (v := (.int .i64 tn.f4.f2)) (below_put (j := 8) (v := (.int .i64 tn.f4.f1)) (below_put (j := 7) (v := (.int .i64 tn.f4.f0)) HB7.out hgw) hgw) hgw) hgw)
          have HI8 := Lib.hid (below_put (j := 10) (v := (.int .i64 tn.f4.f3)) (below_put (j := 9) (v := (.int .i64 tn.f4.f2)) (below_put (j := 8) (v := (.int .i64 tn.f4.f1)) (below_put (j := 7) (v := (.int .i64 tn.f4.f0)) HI7.out (Nat.le_refl _)) (Nat.le_refl _)) (Nat.le_refl _)) (Nat.le_refl _))
          have HFK := Lib.hid (K_foot (k50_mk w6 ⟨dn.f0, dn.f1, dn.f2, dn.f3, tn.f4, dn.f5, dn.f6⟩ (A6 := D6) (c6 := d6) m6 HD6.out (A11 := D11) (c11 := d11) m11 HD11.out))
          clear HD6 HD11 HT6 HX7 HB7 HI7 EN7
          go_wp2_with (fail)
          refine (HW7.out _).mono ?_
          rintro e w8 ⟨rfl, hd8⟩
          have EN9 := Lib.hid (blk_below EN8.out hd8.below)
          have HB9 := Lib.hid (below_step HB8.out hd8.below)
          have HI9 := Lib.hid (below_step HI8.out hd8.below)
          clear hd8 EN8 HB8 HI8 HW7 s7 f7 s8 f8 s9 f9 s10 f10 z7 z8 z9 z10
          obtain ⟨g', c', cur, W9, hap, hc9, hNR, hge, hb9⟩ := app50n tt ad cg w6 w8 HC6.out HI9.out (by omega) (by omega)
          have HAP := Lib.hid hap
          have hsz := below_size HI9.out
          have hfk : k50.FK W9 (fun k => k ≠ g') ⟨dn.f0, dn.f1, dn.f2, dn.f3, tn.f4, dn.f5, dn.f6⟩ [.string dn.f0, .bool dn.f1, .int .i64 dn.f2.f0, .int .i64 dn.f2.f1, .int .i64 dn.f2.f2, .int .i64 dn.f2.f3, .slice D6 dn.f3.length d6, .int .i64 tn.f4.f0, .int .i64 tn.f4.f1, .int .i64 tn.f4.f2, .int .i64 tn.f4.f3, .slice D11 dn.f5.length d11, .int .i64 dn.f6.f0, .int .i64 dn.f6.f1, .int .i64 dn.f6.f2, .int .i64 dn.f6.f3] := (HFK.out.step fun k hk _ => (below_join HI9.out hb9 hsz).block k hk).mono fun k hk => by omega
          have r9 := rd50_blk (blk_below EN9.out hb9) rfl
          have hst := wr50_in (cs := #[.string dn.f0, .bool dn.f1, .int .i64 dn.f2.f0, .int .i64 dn.f2.f1, .int .i64 dn.f2.f2, .int .i64 dn.f2.f3, .slice D6 dn.f3.length d6, .int .i64 tn.f4.f0, .int .i64 tn.f4.f1, .int .i64 tn.f4.f2, .int .i64 tn.f4.f3, .slice D11 dn.f5.length d11, .int .i64 dn.f6.f0, .int .i64 dn.f6.f1, .int .i64 dn.f6.f2, .int .i64 dn.f6.f3]) hNR.1 (show kk * 16 + 16 ≤ cur.length by have := hNR.2.1; omega) rfl (by simp [Value.oneCell'])
          have hN10 := nrow_set hNR hkk hfk
          have hb10 := below_setRow (below_step HB9.out hb9) (show w.heap.size ≤ g' by omega)
          have hB10 := hb10 (splice cur (kk * 16) [.string dn.f0, .bool dn.f1, .int .i64 dn.f2.f0, .int .i64 dn.f2.f1, .int .i64 dn.f2.f2, .int .i64 dn.f2.f3, .slice D6 dn.f3.length d6, .int .i64 tn.f4.f0, .int .i64 tn.f4.f1, .int .i64 tn.f4.f2, .int .i64 tn.f4.f3, .slice D11 dn.f5.length d11, .int .i64 dn.f6.f0, .int .i64 dn.f6.f1, .int .i64 dn.f6.f2, .int .i64 dn.f6.f3]).toArray
          obtain ⟨W10, hW⟩ : ∃ W, W = W9.setRow g' (splice cur (kk * 16) [.string dn.f0, .bool dn.f1, .int .i64 dn.f2.f0, .int .i64 dn.f2.f1, .int .i64 dn.f2.f2, .int .i64 dn.f2.f3, .slice D6 dn.f3.length d6, .int .i64 tn.f4.f0, .int .i64 tn.f4.f1, .int .i64 tn.f4.f2, .int .i64 tn.f4.f3, .slice D11 dn.f5.length d11, .int .i64 dn.f6.f0, .int .i64 dn.f6.f1, .int .i64 dn.f6.f2, .int .i64 dn.f6.f3]).toArray := ⟨_, rfl⟩
          change _ = Result.ok () (W9.setRow g' (splice cur (kk * 16) [.string dn.f0, .bool dn.f1, .int .i64 dn.f2.f0, .int .i64 dn.f2.f1, .int .i64 dn.f2.f2, .int .i64 dn.f2.f3, .slice D6 dn.f3.length d6, .int .i64 tn.f4.f0, .int .i64 tn.f4.f1, .int .i64 tn.f4.f2, .int .i64 tn.f4.f3, .slice D11 dn.f5.length d11, .int .i64 dn.f6.f0, .int .i64 dn.f6.f1, .int .i64 dn.f6.f2, .int .i64 dn.f6.f3]).toArray) at hst
          rw [← hW] at hst hN10 hB10
          have HB10 := Lib.hid hB10
          clear hW hb10 hB10 hfk HFK hNR hap hge hsz hb9 EN9 HB9 HI9
          have HC10 := Lib.hid (nrow_C hN10 (by rw [List.length_set]; omega))
          have hsz2 : ∀ n ∈ tt.set kk ⟨dn.f0, dn.f1, dn.f2, dn.f3, tn.f4, dn.f5, dn.f6⟩, ∀ g ∈ n.f3, g.f0.size ≤ 9223372036854775807 := fun n hn => by
            rcases List.mem_or_eq_of_mem_set hn with h | h
            · exact acl_size (HT.out.ok n h)
            · rw [h]; exact fun g hg => acl_size (n := dn) (HT.out.ok dn HM.out) g hg
          obtain ⟨l2, hl2⟩ : ∃ l, l = tt.set kk ⟨dn.f0, dn.f1, dn.f2, dn.f3, tn.f4, dn.f5, dn.f6⟩ := ⟨_, rfl⟩
          have hlen : l2.length = tt.length := by rw [hl2, List.length_set]
          rw [← hl2] at HC10 hsz2
          clear hN10 hl2
          have HT10 := Lib.hid fun (w1 : World) (hb : Below W10.heap.size W10 w1) => treecheck_c2 l2 _ c' w1 (Kd.C_below HC10.out hb) (by omega) (by omega) (fun h n hn => right_pparent h hn)
          have HR10 := Lib.hid fun (w1 : World) (hb : Below W10.heap.size W10 w1) => rtreecheck_c l2 _ c' w1 (Kd.C_below HC10.out hb) (by omega) (by omega) hsz2
          clear HC10 hsz2
          rw [hlen] at HT10 HR10
          generalize checkT l2 = y at HT10 HR10
          clear hlen
          go_wp2_with (first | (at_builtin; go_loud (refine Lib.wpList_append_run _ rfl _ _ _ _ rfl _ _ rfl rfl _ _ HAP.out ?_)) | (go_at_call 49; refine (HT10.out _ (Below.refl _ _)).mono ?_; rintro e wa ⟨rfl, hb⟩; have HBa := Lib.hid (below_step HB10.out hb); have HIa := Lib.hid hb; clear hb) | (go_at_call 50; refine (HR10.out _ HIa.out).mono ?_; rintro e wb ⟨rfl, hb⟩; have HBb := Lib.hid (below_step HBa.out hb); clear hb))
          go_ret
          exact ⟨rfl, HBb.out⟩
        · by_cases hcg : cg = kk + 1
          · have htl : tt.length = kk + 1 := by omega
            obtain ⟨v1, w1d, A2, n2, d2, w2d, hap1, hap2, hn2, hd2, hCd, hbd, _⟩ := del50 tt ad cg kk ad 0 w6 w7.drew HC6.out (below_step HI7.out (below_drew1 (Below.refl w7.heap.size w7))) (by omega) hkk (fun h => by omega)
            have hsz2 : ∀ n ∈ tt.take kk ++ tt.drop (kk + 1), ∀ g ∈ n.f3, g.f0.size ≤ 9223372036854775807 := fun n hn => acl_size (HT.out.ok n ((List.mem_append.1 hn).elim List.mem_of_mem_take List.mem_of_mem_drop))
            have hlen2 : (tt.take kk ++ tt.drop (kk + 1)).length ≤ tt.length := by rw [List.length_append, List.length_take, List.length_drop]; omega
            obtain ⟨l2, hl2⟩ : ∃ l, l = tt.take kk ++ tt.drop (kk + 1) := ⟨_, rfl⟩
            rw [← hl2] at hsz2 hlen2 hCd hn2
            subst hn2
            clear hl2
            have HCd := Lib.hid hCd
            have HSZ := Lib.hid hsz2
            have HBd := Lib.hid (below_step (below_step HB7.out (below_drew1 (Below.refl w7.heap.size w7))) hbd)
            clear hCd hsz2 hbd HX7 EN7 HD6 HD11 HT6
            rw [htl, Nat.sub_self] at hap2
            subst hcg
            go_wp2
            refine rk31b ad kk v1 _ w1d w2d _ _ _ _ _ _ _ _ _ _ _ _ _ _ _ _ _ _ _ _ _ _ _ _ _ _ _ _ _ _ _ _ _ _ _ _ _ _ _ _ _ _ _ _ _ _ _ _ _ _ _ _ _ _ _ _ _ _ _ _ _ _ _ _ _ _ _ _ _ _ _ _ _ _ _ _ _ _ _ _ _ _ _ _ _ _ _ _ _ _ _ _ _ _ _ _ _ _ _ _ _ _ _ _ _ _ _ _ _ _ _ _ _ _ _ _ _ _ _ _ _ _ _ _ _ _ _ _ _ _ w7 _ (by omega) hap1 hap2 ?_
            intro t107 t108 t109 t110 t111 t112 t113 t114 t115 t116
            go_wp2_with (fail)
            refine (HW7.out _).mono ?_
            rintro e w8 ⟨rfl, hd8⟩
            have HB10 := Lib.hid (below_step HBd.out hd8.below)
            have HCe := Lib.hid (Kd.C_below HCd.out hd8.below)
            have HT10 := Lib.hid fun (w1 : World) (hb : Below w8.heap.size w8 w1) => treecheck_c2 l2 A2 d2 w1 (Kd.C_below HCe.out hb) hd2 (by omega) (fun h n hn => right_pparent h hn)
            have HR10 := Lib.hid fun (w1 : World) (hb : Below w8.heap.size w8 w1) => rtreecheck_c l2 A2 d2 w1 (Kd.C_below HCe.out hb) hd2 (by omega) HSZ.out
            clear hd8 HCd HCe HSZ HBd
            generalize checkT l2 = y at HT10 HR10
            go_wp2_with (first | (go_at_call 49; refine (HT10.out _ (Below.refl _ _)).mono ?_; rintro e wa ⟨rfl, hb⟩; have HBa := Lib.hid (below_step HB10.out hb); have HIa := Lib.hid hb; clear hb) | (go_at_call 50; refine (HR10.out _ HIa.out).mono ?_; rintro e wb ⟨rfl, hb⟩; have HBb := Lib.hid (below_step HBa.out hb); clear hb))
            go_ret
            exact ⟨rfl, HBb.out⟩
          · obtain ⟨v1, w1d, A2, n2, d2, w2d, hap1, hap2, hn2, hd2, hCd, hbd, _⟩ := del50 tt ad cg kk (ad.add ((kk + 1) * 16)) (cg - (kk + 1)) w6 w7.drew HC6.out (below_step HI7.out (below_drew1 (Below.refl w7.heap.size w7))) (by omega) hkk (fun h j => (addr_add2 ad _ _).symm)
            have hsz2 : ∀ n ∈ tt.take kk ++ tt.drop (kk + 1), ∀ g ∈ n.f3, g.f0.size ≤ 9223372036854775807 := fun n hn => acl_size (HT.out.ok n ((List.mem_append.1 hn).elim List.mem_of_mem_take List.mem_of_mem_drop))
            have hlen2 : (tt.take kk ++ tt.drop (kk + 1)).length ≤ tt.length := by rw [List.length_append, List.length_take, List.length_drop]; omega
            obtain ⟨l2, hl2⟩ : ∃ l, l = tt.take kk ++ tt.drop (kk + 1) := ⟨_, rfl⟩
            rw [← hl2] at hsz2 hlen2 hCd hn2
            subst hn2
            clear hl2
            have HCd := Lib.hid hCd
            have HSZ := Lib.hid hsz2
            have HBd := Lib.hid (below_step (below_step HB7.out (below_drew1 (Below.refl w7.heap.size w7))) hbd)
            clear hCd hsz2 hbd HX7 EN7 HD6 HD11 HT6
            go_wp2
            refine rk31a ad tt.length cg kk v1 _ w1d w2d _ _ _ _ _ _ _ _ _ _ _ _ _ _ _ _ _ _ _ _ _ _ _ _ _ _ _ _ _ _ _ _ _ _ _ _ _ _ _ _ _ _ _ _ _ _ _ _ _ _ _ _ _ _ _ _ _ _ _ _ _ _ _ _ _ _ _ _ _ _ _ _ _ _ _ _ _ _ _ _ _ _ _ _ _ _ _ _ _ _ _ _ _ _ _ _ _ _ _ _ _ _ _ _ _ _ _ _ _ _ _ _ _ _ _ _ _ _ _ _ _ _ _ _ _ _ _ _ _ _ w7 _ hkk hl (by omega) hcg hap1 hap2 ?_
            intro t107 t108 t109 t110 t111 t112 t113 t114 t115 t116
            go_wp2_with (fail)
            refine (HW7.out _).mono ?_
            rintro e w8 ⟨rfl, hd8⟩
            have HB10 := Lib.hid (below_step HBd.out hd8.below)
            have HCe := Lib.hid (Kd.C_below HCd.out hd8.below)
            have HT10 := Lib.hid fun (w1 : World) (hb : Below w8.heap.size w8 w1) => treecheck_c2 l2 A2 d2 w1 (Kd.C_below HCe.out hb) hd2 (by omega) (fun h n hn => right_pparent h hn)
            have HR10 := Lib.hid fun (w1 : World) (hb : Below w8.heap.size w8 w1) => rtreecheck_c l2 A2 d2 w1 (Kd.C_below HCe.out hb) hd2 (by omega) HSZ.out
            clear hd8 HCd HCe HSZ HBd
            generalize checkT l2 = y at HT10 HR10
            go_wp2_with (first | (go_at_call 49; refine (HT10.out _ (Below.refl _ _)).mono ?_; rintro e wa ⟨rfl, hb⟩; have HBa := Lib.hid (below_step HB10.out hb); have HIa := Lib.hid hb; clear hb) | (go_at_call 50; refine (HR10.out _ HIa.out).mono ?_; rintro e wb ⟨rfl, hb⟩; have HBb := Lib.hid (below_step HBa.out hb); clear hb))
            go_ret
            exact ⟨rfl, HBb.out⟩
end Go.Proofs.YtmndeoncbocplaaDoor.C
end
