/- MonitorChanges: what a directory says is changed just by who may write it; whether the node is there does not matter: the walk. -/
import Derived.Test.YtmndeoncbocplaaDoorMF2
import Derived.Deep.RegionHeldLaw
import Derived.Deep.RegionHeld3
import Derived.Deep.LoopGhost
set_option linter.unusedVariables false
set_option linter.unusedSimpArgs false
section
set_option linter.unusedVariables false
set_option linter.unusedSimpArgs false
namespace Go.Proofs.YtmndeoncbocplaaDoor.C
open Go.RowKit Go.Proofs.YtmndeoncbocplaaDoor.Q Go.Proofs.YtmndeoncbocplaaDoorW.PrintWords Go.Proofs.YtmndeoncbocplaaDoorW.PrintLast Go.Proofs.YtmndeoncbocplaaDoorW.PrintMore
attribute [local go_sem ↓] rd_at50 wr_at50 al_at50
attribute [local go_sem] rd50_new wr50_new al50
theorem put_far {t : List S50} (hA : Asc t) (n : S50) (q : ByteArray) (hq : q ≠ n.f0) : isN (putN t n) q = isN t q ∧ nodeN (putN t n) q = nodeN t q := by
  have h1 : ∀ m, m ∈ t → m.f0 = q → isN (putN t n) q = true ∧ nodeN (putN t n) q = m ∧ isN t q = true ∧ nodeN t q = m := fun m hm he => by
    have hp : m ∈ putN t n := mem_put.2 (Or.inr ⟨hm, by rw [he]; exact hq⟩)
    have a1 := is_at (asc_put hA n) hp
    have a2 := is_at hA hm
    rw [he] at a1 a2
    exact ⟨a1.1, a1.2, a2.1, a2.2⟩
  cases h : isN t q with
  | true =>
    obtain ⟨k1, k2⟩ := is_mem h
    obtain ⟨e1, e2, _, e4⟩ := h1 _ k1 k2
    exact ⟨e1, e2.trans e4.symm⟩
  | false =>
    cases h2 : isN (putN t n) q with
    | true =>
      obtain ⟨k1, k2⟩ := is_mem h2
      rcases mem_put.1 k1 with e | ⟨e, _⟩
      · rw [e] at k2; exact absurd k2.symm hq
      · obtain ⟨_, _, e3, _⟩ := h1 _ e k2
        rw [h] at e3; cases e3
    | false => exact ⟨rfl, by unfold nodeN; rw [h, h2]; rfl⟩
theorem see_far {t : List S50} (hA : Asc t) (n : S50) (a : S41) : ∀ (rest pre : List (List UInt8)), (∀ i, i ≤ rest.length → pth (pre ++ rest.take i) ≠ n.f0) → seeR (putN t n) a pre rest = seeR t a pre rest
  | [], pre, h => by
    have h0 := h 0 (Nat.zero_le _)
    rw [List.take_zero, List.append_nil] at h0
    obtain ⟨e1, e2⟩ := put_far hA n _ h0
    unfold seeR
    rw [e1, e2]
  | m :: rest, pre, h => by
    have h0 := h 0 (Nat.zero_le _)
    rw [List.take_zero, List.append_nil] at h0
    obtain ⟨e1, e2⟩ := put_far hA n _ h0
    have ih := see_far hA n a rest (pre ++ [m]) (fun i hi => by
      have := h (i + 1) (by simpa using hi)
      rw [List.take_succ_cons] at this
      rw [List.append_assoc]
      exact this)
    unfold seeR
    rw [e1, e2, ih]
/-- A node that is laid behind a directory: bare. -/
def bareN (p : ByteArray) (a : S41) : S50 := ⟨p, false, a, [], z47, [], z41⟩
theorem bare_K (w : World) (p : ByteArray) (a : S41) : k50.K w (bareN p a) [.string p, .bool false, .int .i64 a.f0, .int .i64 a.f1, .int .i64 a.f2, .int .i64 a.f3, .slice none 0 0, .int .i64 0, .int .i64 0, .int .i64 0, .int .i64 0, .slice none 0 0, .int .i64 0, .int .i64 0, .int .i64 0, .int .i64 0] :=
  k50_mk w (bareN p a) (A6 := none) (c6 := 0) (Nat.le_refl _) ⟨rfl, Nat.zero_le _, fun h => by cases h⟩ (A11 := none) (c11 := 0) (Nat.le_refl _) ⟨rfl, Nat.zero_le _, fun h => by cases h⟩
theorem bare_srch {t : List S50} (T : Tree t) (p : ByteArray) (a : S41) : Srch (putN t (bareN p a)) ∧ ∀ n ∈ putN t (bareN p a), Acls n := by
  have hl := put_len t (bareN p a)
  have ht := T.len
  refine ⟨⟨by omega, fun q => asc_rising (asc_put T.asc _) q, fun n hn => ?_⟩, fun n hn => ?_⟩
  · rcases mem_put.1 hn with rfl | ⟨h, _⟩
    · exact ⟨Nat.zero_le _, Nat.zero_le _⟩
    · exact node_fits (T.ok n h)
  · rcases mem_put.1 hn with rfl | ⟨h, _⟩
    · exact ⟨by show 0 < 1000000; decide, fun u a b hab hb => absurd hb (Nat.not_lt_zero _)⟩
    · exact node_acls (T.ok n h)
set_option maxHeartbeats 8000000 in
set_option maxRecDepth 1000000 in
theorem rc13 (ad : Addr) (tl cg gd gs : Nat) (nc : Array Value) (p u : ByteArray) (a b : S41) (x : S50) (k : Int) (u0 u1 u2 u3 u4 u5 u6 u7 u8 u9 u10 u14 u15 u17 u18 u19 u20 u21 u22 u23 u24 u25 u26 u27 u28 u29 u30 u31 u32 u33 u34 u35 u36 u37 u38 u39 u40 u41 u42 u43 u44 u45 u46 u47 u48 u49 u50 u51 u52 u53 u54 u55 u56 u57 u58 u59 u60 u61 u62 u63 u64 u65 u66 u67 u68 u69 u70 u71 u72 u73 u74 u75 u76 u77 u78 u79 u80 u81 u82 u83 u84 u85 u86 u87 u88 u89 u90 u91 u92 u93 u94 u95 u96 u97 u98 u99 u100 u101 u102 u103 u104 u105 u106 u107 u108 u109 u110 u111 u112 u113 u114 u115 : Value) (W : World) (Q : Exit → Act → World → Prop)
    (hED : W.heap[gd]? = some (.cells nc 50 (0, 0))) (hd0 : nc[2]? = some (.int .i64 b.f0)) (hd1 : nc[3]? = some (.int .i64 b.f1)) (hd2 : nc[4]? = some (.int .i64 b.f2)) (hd3 : nc[5]? = some (.int .i64 b.f3))
    (hES : W.heap[gs]? = some (.cells #[.string u, .int .i64 a.f0, .int .i64 a.f1, .int .i64 a.f2, .int .i64 a.f3] 55 (0, 0)))
    (hPut : ∀ w1, Below W.heap.size W w1 → Calls Tryd.prog 47 #[.slice (some ad) tl cg, .agg #[.string p, .bool false, .int .i64 b.f0, .int .i64 b.f1, .int .i64 b.f2, .int .i64 b.f3, .slice none 0 0, .int .i64 0, .int .i64 0, .int .i64 0, .int .i64 0, .slice none 0 0, .int .i64 0, .int .i64 0, .int .i64 0, .int .i64 0]] w1 fun e w' => (∃ A2 n2 c2, e = .returned (.slice A2 n2 c2) ∧ ∀ w2, Below w'.heap.size w' w2 → Calls Tryd.prog 46 #[.slice A2 n2 c2, .agg #[.string u, .int .i64 a.f0, .int .i64 a.f1, .int .i64 a.f2, .int .i64 a.f3], .string p] w2 fun e w3 => ∃ X6 x6 X11 x11, e = .returned (.tuple #[.agg #[.string x.f0, .bool x.f1, .int .i64 x.f2.f0, .int .i64 x.f2.f1, .int .i64 x.f2.f2, .int .i64 x.f2.f3, .slice X6 x.f3.length x6, .int .i64 x.f4.f0, .int .i64 x.f4.f1, .int .i64 x.f4.f2, .int .i64 x.f4.f3, .slice X11 x.f5.length x11, .int .i64 x.f6.f0, .int .i64 x.f6.f1, .int .i64 x.f6.f2, .int .i64 x.f6.f3], .int .i64 k]) ∧ k50.FK w3 (fun k => w2.heap.size ≤ k) x [.string x.f0, .bool x.f1, .int .i64 x.f2.f0, .int .i64 x.f2.f1, .int .i64 x.f2.f2, .int .i64 x.f2.f3, .slice X6 x.f3.length x6, .int .i64 x.f4.f0, .int .i64 x.f4.f1, .int .i64 x.f4.f2, .int .i64 x.f4.f3, .slice X11 x.f5.length x11, .int .i64 x.f6.f0, .int .i64 x.f6.f1, .int .i64 x.f6.f2, .int .i64 x.f6.f3] ∧ Below w2.heap.size w2 w3) ∧ Below w1.heap.size w1 w')
    (hpost : ∀ (g : Nat) (X6 X11 : Option Addr) (x6 x11 : Nat) (w' : World) (t70 t71 t72 t73 t74 t75 t76 t77 t78 t79 t80 t81 : Value), w'.heap[g]? = some (.cells #[.string x.f0, .bool x.f1, .int .i64 x.f2.f0, .int .i64 x.f2.f1, .int .i64 x.f2.f2, .int .i64 x.f2.f3, .slice X6 x.f3.length x6, .int .i64 x.f4.f0, .int .i64 x.f4.f1, .int .i64 x.f4.f2, .int .i64 x.f4.f3, .slice X11 x.f5.length x11, .int .i64 x.f6.f0, .int .i64 x.f6.f1, .int .i64 x.f6.f2, .int .i64 x.f6.f3] 50 (0, 0)) → k50.K w' x [.string x.f0, .bool x.f1, .int .i64 x.f2.f0, .int .i64 x.f2.f1, .int .i64 x.f2.f2, .int .i64 x.f2.f3, .slice X6 x.f3.length x6, .int .i64 x.f4.f0, .int .i64 x.f4.f1, .int .i64 x.f4.f2, .int .i64 x.f4.f3, .slice X11 x.f5.length x11, .int .i64 x.f6.f0, .int .i64 x.f6.f1, .int .i64 x.f6.f2, .int .i64 x.f6.f3] → Below W.heap.size W w' → Q .normal ⟨#[u0, u1, u2, u3, u4, u5, u6, u7, u8, u9, u10, .slice (some ad) tl cg, .pointer (some ⟨gd, 0, none⟩), .pointer (some ⟨gs, 0, none⟩), u14, u15, .string p, u17, u18, .pointer (some ⟨g, 0, none⟩), .int .i64 k, u21, u22, u23, u24, u25, u26, u27, u28, u29, u30, u31, u32, u33, u34, u35, u36, u37, u38, u39, u40, u41, u42, u43, u44, u45, u46, u47, u48, u49, u50, u51, u52, u53, u54, u55, u56, u57, u58, u59, u60, u61, u62, u63, u64, u65, u66, u67, u68, u69, t70, t71, t72, t73, t74, t75, t76, t77, t78, t79, t80, t81, u82, u83, u84, u85, u86, u87, u88, u89, u90, u91, u92, u93, u94, u95, u96, u97, u98, u99, u100, u101, u102, u103, u104, u105, u106, u107, u108, u109, u110, u111, u112, u113, u114, u115], []⟩ w') :
    Code.wp Tryd.prog (cReg Tryd.f14 13) Q ⟨#[u0, u1, u2, u3, u4, u5, u6, u7, u8, u9, u10, .slice (some ad) tl cg, .pointer (some ⟨gd, 0, none⟩), .pointer (some ⟨gs, 0, none⟩), u14, u15, .string p, u17, u18, u19, u20, u21, u22, u23, u24, u25, u26, u27, u28, u29, u30, u31, u32, u33, u34, u35, u36, u37, u38, u39, u40, u41, u42, u43, u44, u45, u46, u47, u48, u49, u50, u51, u52, u53, u54, u55, u56, u57, u58, u59, u60, u61, u62, u63, u64, u65, u66, u67, u68, u69, u70, u71, u72, u73, u74, u75, u76, u77, u78, u79, u80, u81, u82, u83, u84, u85, u86, u87, u88, u89, u90, u91, u92, u93, u94, u95, u96, u97, u98, u99, u100, u101, u102, u103, u104, u105, u106, u107, u108, u109, u110, u111, u112, u113, u114, u115], []⟩ W := by
  have ED := Lib.hid hED
  have ES := Lib.hid hES
  have HD0 := Lib.hid hd0
  have HD1 := Lib.hid hd1
  have HD2 := Lib.hid hd2
  have HD3 := Lib.hid hd3
  have hgd := blk_lt hED
  have hgs := blk_lt hES
  have HPut := Lib.hid hPut
  have HPO := Lib.hid hpost
  clear hED hES hd0 hd1 hd2 hd3 hPut hpost
  have kd0 := (blk_cell (blk_below ED.out (Below.refl W.heap.size W)) 2).trans (HD0.out)
  have kd1 := (blk_cell (blk_below ED.out (Below.refl W.heap.size W)) 3).trans (HD1.out)
  have kd2 := (blk_cell (blk_below ED.out (Below.refl W.heap.size W)) 4).trans (HD2.out)
  have kd3 := (blk_cell (blk_below ED.out (Below.refl W.heap.size W)) 5).trans (HD3.out)
  have ks0 := (blk_cell (blk_below ES.out (Below.refl W.heap.size W)) 0).trans rfl
  have ks1 := (blk_cell (blk_below ES.out (Below.refl W.heap.size W)) 1).trans rfl
  have ks2 := (blk_cell (blk_below ES.out (Below.refl W.heap.size W)) 2).trans rfl
  have ks3 := (blk_cell (blk_below ES.out (Below.refl W.heap.size W)) 3).trans rfl
  have ks4 := (blk_cell (blk_below ES.out (Below.refl W.heap.size W)) 4).trans rfl
  conv => arg 2; whnf
  refine wp_region_noPanic ?_
  go_region_held_law (fun W1 => W1.cell? ⟨gd, 2, none⟩ = some (.int .i64 b.f0) ∧ W1.cell? ⟨gd, 3, none⟩ = some (.int .i64 b.f1) ∧ W1.cell? ⟨gd, 4, none⟩ = some (.int .i64 b.f2) ∧ W1.cell? ⟨gd, 5, none⟩ = some (.int .i64 b.f3) ∧ W1.cell? ⟨gs, 0, none⟩ = some (.string u) ∧ W1.cell? ⟨gs, 1, none⟩ = some (.int .i64 a.f0) ∧ W1.cell? ⟨gs, 2, none⟩ = some (.int .i64 a.f1) ∧ W1.cell? ⟨gs, 3, none⟩ = some (.int .i64 a.f2) ∧ W1.cell? ⟨gs, 4, none⟩ = some (.int .i64 a.f3)) (first | go_keep | (refine ⟨?_, ?_, ?_, ?_, ?_, ?_, ?_, ?_, ?_⟩ <;> (rw [cell_setRow_other _ _ _ _ (by first | (show gd ≠ _; omega) | (show gs ≠ _; omega))]; assumption)))
    (first | (go_at_call 46; (have hgate := HB5.out; clear hgate; refine (HC46.out _ (show Below w5.heap.size w5 _ by repeat (first | exact HB6.out | fail | exact Below.refl _ _ | apply below_alloc | apply below_drew1))).mono ?_; rintro e w6 ⟨X6, x6, X11, x11, rfl, hK, hb⟩; have HB6 := Lib.hid (below_step (show Below w5.heap.size w5 _ by repeat (first | exact HB6.out | exact HB5.out | exact Below.refl _ _ | apply below_alloc | apply below_drew1)) hb); have HK6 := Lib.hid hK; have hs6 := below_size HB6.out; (first | (have EN2 := Lib.hid (blk_below EN.out HB6.out); have hst := wr50_blk (cs := #[.string x.f0, .bool x.f1, .int .i64 x.f2.f0, .int .i64 x.f2.f1, .int .i64 x.f2.f2, .int .i64 x.f2.f3, .slice X6 x.f3.length x6, .int .i64 x.f4.f0, .int .i64 x.f4.f1, .int .i64 x.f4.f2, .int .i64 x.f4.f3, .slice X11 x.f5.length x11, .int .i64 x.f6.f0, .int .i64 x.f6.f1, .int .i64 x.f6.f2, .int .i64 x.f6.f3]) EN2.out rfl rfl (by simp [Value.oneCell'])) | (have EN2 := Lib.hid (blk_below (blk_new w5 (.cells #[.string (⟨#[]⟩ : ByteArray), .bool false, .int .i64 0, .int .i64 0, .int .i64 0, .int .i64 0, .slice none 0 0, .int .i64 0, .int .i64 0, .int .i64 0, .int .i64 0, .slice none 0 0, .int .i64 0, .int .i64 0, .int .i64 0, .int .i64 0] 50)) hb); have hst := wr50_blk (cs := #[.string x.f0, .bool x.f1, .int .i64 x.f2.f0, .int .i64 x.f2.f1, .int .i64 x.f2.f2, .int .i64 x.f2.f3, .slice X6 x.f3.length x6, .int .i64 x.f4.f0, .int .i64 x.f4.f1, .int .i64 x.f4.f2, .int .i64 x.f4.f3, .slice X11 x.f5.length x11, .int .i64 x.f6.f0, .int .i64 x.f6.f1, .int .i64 x.f6.f2, .int .i64 x.f6.f3]) EN2.out rfl rfl (by simp [Value.oneCell'])) | skip); have kd0 := (blk_cell (blk_below ED.out (below_step HB5.out HB6.out)) 2).trans (HD0.out); have kd1 := (blk_cell (blk_below ED.out (below_step HB5.out HB6.out)) 3).trans (HD1.out); have kd2 := (blk_cell (blk_below ED.out (below_step HB5.out HB6.out)) 4).trans (HD2.out); have kd3 := (blk_cell (blk_below ED.out (below_step HB5.out HB6.out)) 5).trans (HD3.out); have ks0 := (blk_cell (blk_below ES.out (below_step HB5.out HB6.out)) 0).trans rfl; have ks1 := (blk_cell (blk_below ES.out (below_step HB5.out HB6.out)) 1).trans rfl; have ks2 := (blk_cell (blk_below ES.out (below_step HB5.out HB6.out)) 2).trans rfl; have ks3 := (blk_cell (blk_below ES.out (below_step HB5.out HB6.out)) 3).trans rfl; have ks4 := (blk_cell (blk_below ES.out (below_step HB5.out HB6.out)) 4).trans rfl; clear hb hK)) | (go_at_call 47; (refine (HPut.out _ (show Below W.heap.size W _ by repeat (first | exact HB6.out | exact HB5.out | exact Below.refl _ _ | apply below_alloc | apply below_drew1))).mono ?_; rintro e w5 ⟨⟨A2, n2, c2, rfl, hC46⟩, hb⟩; have HC46 := Lib.hid hC46; have HB5 := Lib.hid (below_step (show Below W.heap.size W _ by repeat (first | exact HB6.out | exact HB5.out | exact Below.refl _ _ | apply below_alloc | apply below_drew1)) hb); have hs5 := below_size HB5.out; (first | have EN := Lib.hid (show w5.heap[W.heap.size]? = some (.cells #[.string (⟨#[]⟩ : ByteArray), .bool false, .int .i64 0, .int .i64 0, .int .i64 0, .int .i64 0, .slice none 0 0, .int .i64 0, .int .i64 0, .int .i64 0, .int .i64 0, .slice none 0 0, .int .i64 0, .int .i64 0, .int .i64 0, .int .i64 0] 50) from blk_below (blk_new W (.cells #[.string (⟨#[]⟩ : ByteArray), .bool false, .int .i64 0, .int .i64 0, .int .i64 0, .int .i64 0, .slice none 0 0, .int .i64 0, .int .i64 0, .int .i64 0, .int .i64 0, .slice none 0 0, .int .i64 0, .int .i64 0, .int .i64 0, .int .i64 0] 50)) hb) | have EN := Lib.hid (show w5.heap[W.heap.size]? = some (.cells #[.string (⟨#[]⟩ : ByteArray), .bool false, .int .i64 0, .int .i64 0, .int .i64 0, .int .i64 0, .slice none 0 0, .int .i64 0, .int .i64 0, .int .i64 0, .int .i64 0, .slice none 0 0, .int .i64 0, .int .i64 0, .int .i64 0, .int .i64 0] 50) from blk_below (blk_new W.drew (.cells #[.string (⟨#[]⟩ : ByteArray), .bool false, .int .i64 0, .int .i64 0, .int .i64 0, .int .i64 0, .slice none 0 0, .int .i64 0, .int .i64 0, .int .i64 0, .int .i64 0, .slice none 0 0, .int .i64 0, .int .i64 0, .int .i64 0, .int .i64 0] 50)) hb) | have EN := Lib.hid (show w5.heap[W.heap.size]? = some (.cells #[.string (⟨#[]⟩ : ByteArray), .bool false, .int .i64 0, .int .i64 0, .int .i64 0, .int .i64 0, .slice none 0 0, .int .i64 0, .int .i64 0, .int .i64 0, .int .i64 0, .slice none 0 0, .int .i64 0, .int .i64 0, .int .i64 0, .int .i64 0] 50) from blk_below (blk_drew (blk_new W (.cells #[.string (⟨#[]⟩ : ByteArray), .bool false, .int .i64 0, .int .i64 0, .int .i64 0, .int .i64 0, .slice none 0 0, .int .i64 0, .int .i64 0, .int .i64 0, .int .i64 0, .slice none 0 0, .int .i64 0, .int .i64 0, .int .i64 0, .int .i64 0] 50))) hb) | have EN := Lib.hid True.intro); have kd0 := (blk_cell (blk_below ED.out HB5.out) 2).trans (HD0.out); have kd1 := (blk_cell (blk_below ED.out HB5.out) 3).trans (HD1.out); have kd2 := (blk_cell (blk_below ED.out HB5.out) 4).trans (HD2.out); have kd3 := (blk_cell (blk_below ED.out HB5.out) 5).trans (HD3.out); have ks0 := (blk_cell (blk_below ES.out HB5.out) 0).trans rfl; have ks1 := (blk_cell (blk_below ES.out HB5.out) 1).trans rfl; have ks2 := (blk_cell (blk_below ES.out HB5.out) 2).trans rfl; have ks3 := (blk_cell (blk_below ES.out HB5.out) 3).trans rfl; have ks4 := (blk_cell (blk_below ES.out HB5.out) 4).trans rfl; clear hb hC46)))
  all_goals refine NoPanic.normal ?_
  all_goals refine HPO.out _ X6 X11 x6 x11 _ _ _ _ _ _ _ _ _ _ _ _ _ ?_ ?_ ?_
  all_goals first
    | exact below_alloc (below_step HB5.out HB6.out) _
    | exact below_setRow (below_step HB5.out HB6.out) hs5 _
    | exact below_setRow (below_step HB5.out HB6.out) (Nat.le_refl _) _
    | exact blk_new _ _
    | exact setRow_heap _ _ _ _ _ _ EN2.out
    | exact k50.K_below (below_alloc (Below.refl w6.heap.size w6) _) (Foot.now HK6.out)
    | exact K_setRow HK6.out (blk_lt EN.out)
    | exact K_setRow HK6.out (Nat.lt_of_lt_of_eq (Nat.lt_succ_self _) (World.size_alloc _ _).symm)
set_option maxHeartbeats 4000000 in
set_option maxRecDepth 100000 in
theorem changes_c (terms : List S41) (makes : List S80) (A B : Option Addr) (c d : Nat) (who pick at1 : Int) (w : World) (hC : Kd.C k41 w A terms.length terms) (hc : terms.length ≤ c) (hD : Kd.C k80 w B makes.length makes) (hd : makes.length ≤ d) :
    Calls Tryd.prog 14 #[.slice A terms.length c, .slice B makes.length d, .int .i64 who, .int .i64 pick, .int .i64 at1] w fun e w' => e = .returned (.bool true) ∧ Below w.heap.size w w' := by
  have HG := Lib.hid fun w1 (hb : Below w.heap.size w w1) => grow_c terms makes A B c d w1 (Kd.C_below hC hb) hc (Kd.C_below hD hb) hd
  clear hC hD
  obtain ⟨u, hws, hu⟩ := who_f who
  have HU := Lib.hid fun w1 => donjonlaw13_Who.calls who u w1 hu
  clear hu hws
  go_enter Tryd.func14, Tryd.ntmps14
  go_wp2_with (first | (go_at_call 34; refine (wi13_c _ _ _ (by have := HL.out; omega) (by have := HL.out; omega)).mono ?_; rintro e w3 ⟨k1, hk1, rfl, hb⟩; obtain ⟨ad2, A6, c6, A11, c11, hA2, hcs, HK⟩ := at50 HCt.out hb k1 (by omega); obtain rfl := Option.some.inj hA2; have hld := rd50_of (loadC50 (P := Tryd.prog) hcs); have HM1 := Lib.hid (List.getElem_mem (l := t) (n := k1) (by omega)); generalize t[k1]'(by omega) = n at hld HM1; have HX3 := Lib.hid (below_alloc hb (.cells #[.string n.f0, .bool n.f1, .int .i64 n.f2.f0, .int .i64 n.f2.f1, .int .i64 n.f2.f2, .int .i64 n.f2.f3, .slice A6 n.f3.length c6, .int .i64 n.f4.f0, .int .i64 n.f4.f1, .int .i64 n.f4.f2, .int .i64 n.f4.f3, .slice A11 n.f5.length c11, .int .i64 n.f6.f0, .int .i64 n.f6.f1, .int .i64 n.f6.f2, .int .i64 n.f6.f3] 50)); have BN3 := Lib.hid (blk_new w3 (.cells #[.string n.f0, .bool n.f1, .int .i64 n.f2.f0, .int .i64 n.f2.f1, .int .i64 n.f2.f2, .int .i64 n.f2.f3, .slice A6 n.f3.length c6, .int .i64 n.f4.f0, .int .i64 n.f4.f1, .int .i64 n.f4.f2, .int .i64 n.f4.f3, .slice A11 n.f5.length c11, .int .i64 n.f6.f0, .int .i64 n.f6.f1, .int .i64 n.f6.f2, .int .i64 n.f6.f3] 50)); have n1 := (blk_cell BN3.out 1).trans rfl; clear hcs HK hb hA2) | (go_at_call 32; refine (HG.out _ HB1.out).mono ?_; rintro e w2 ⟨Ag, t, cg, rfl, hT, hcg, hCt, hb⟩; obtain ⟨ad, rfl, _⟩ := hCt.2.2 (tree_ne hT); have HT := Lib.hid hT; have HCt := Lib.hid hCt; have HB2 := Lib.hid (below_step HB1.out hb); have HL := Lib.hid (And.intro (tree_ne hT) hT.len); have Hcg := Lib.hid hcg; clear hT hCt hb hcg) | (go_at_call 31; refine (known13_c _).mono ?_; rintro e w1 ⟨rfl, hb⟩; have HB1 := Lib.hid hb; clear hb))
  all_goals first
    | (go_ret; exact ⟨rfl, below_step HB2.out HX3.out⟩)
    | skip
  have hdir : n.f1 = true := by first | assumption | (trace_state; simp_all)
  obtain ⟨ns, hok, hp⟩ := tree_path HT.out HM1.out
  have HOK := Lib.hid hok
  have HPP := Lib.hid hp
  have HDir := Lib.hid hdir
  have hlen := check_len hok.2
  have hjo := rjoin_f ns [122, 122] hok.1 (by omega) (by decide)
  have hch := P.ref_check (pth (ns ++ [[122, 122]])) 2000 (by omega)
  obtain ⟨ck, hck⟩ : ∃ x, L.checkL (pth (ns ++ [[122, 122]])).data.toList = x := ⟨_, rfl⟩
  rw [hck] at hch
  have HJ := Lib.hid fun w1 => (show Calls Tryd.prog 45 #[.string n.f0, .string ⟨#[122, 122]⟩] w1 fun e w' => e = .returned (.string (pth (ns ++ [[122, 122]]))) ∧ Below w1.heap.size w1 w' from by rw [HPP.out]; exact (donjonref7_Join.calls (pth ns) ⟨#[122, 122]⟩ _ w1 hjo).mono fun e w' h => ⟨h.1, h.2.below⟩)
  have HCk := Lib.hid fun w1 => P.donjonref7_Check.calls 2000 (pth (ns ++ [[122, 122]])) ck w1 hch
  have HCK := Lib.hid hck
  clear hok hp hdir hjo hch hck hlen
  go_wp2_with (first | (go_at_call 34; have hg := HX4.out; clear hg; refine (wi13_c _ _ _ (by have := HL.out; omega) (by have := HL.out; omega)).mono ?_; rintro e w5 ⟨k2, hk2, rfl, hb⟩; obtain ⟨ad2, D6, d6, D11, d11, hA2, hcs2, HK2⟩ := at50 HCt.out (below_step HX4.out hb) k2 (by omega); obtain rfl := Option.some.inj hA2; obtain ⟨_, _, h2, h3, h4, h5, _⟩ := hcs2; have HLa := Lib.hid (HT.out.ok _ (List.getElem_mem (l := t) (n := k2) (by omega))).1; generalize (t[k2]'(by omega)).f2 = a at h2 h3 h4 h5 HLa; have HX := Lib.hid (below_alloc (below_step HX4.out hb) (.cells #[.string u, .int .i64 a.f0, .int .i64 a.f1, .int .i64 a.f2, .int .i64 a.f3] 55)); have BN := Lib.hid (blk_alloc (blk_below BN4.out hb) (.cells #[.string u, .int .i64 a.f0, .int .i64 a.f1, .int .i64 a.f2, .int .i64 a.f3] 55)); have BS := Lib.hid (blk_new w5 (.cells #[.string u, .int .i64 a.f0, .int .i64 a.f1, .int .i64 a.f2, .int .i64 a.f3] 55)); have s0 := (blk_cell BS.out 0).trans rfl; have s1 := (blk_cell BS.out 1).trans rfl; have s2 := (blk_cell BS.out 2).trans rfl; have s3 := (blk_cell BS.out 3).trans rfl; have s4 := (blk_cell BS.out 4).trans rfl; have n0 := (blk_cell BN.out 0).trans rfl; clear HK2 hb hA2) | (go_at_call 36; refine (HU.out _).mono ?_; rintro e w4 ⟨rfl, hb⟩; have HX4 := Lib.hid (below_step HX3.out hb); have BN4 := Lib.hid (blk_below BN3.out hb); clear hb))
  obtain ⟨x1, hx1⟩ : ∃ x, (mayR t a u ns 2).1 = x := ⟨_, rfl⟩
  obtain ⟨e1, he1⟩ : ∃ x, (mayR t a u ns 2).2 = x := ⟨_, rfl⟩
  have HX1 := Lib.hid hx1
  have HE1 := Lib.hid he1
  clear hx1 he1
  have HMay := Lib.hid fun w1 (hb : Below w2.heap.size w2 w1) => may_t HT.out u a ns HOK.out n.f0 HPP.out.symm 2 x1 e1 HX1.out HE1.out (some ad) cg w1 (Kd.C_below HCt.out hb) Hcg.out
  obtain ⟨p, hpe⟩ : ∃ p, pth (ns ++ [[122, 122]]) = p := ⟨_, rfl⟩
  rw [hpe] at HJ HCk HCK
  have HPE := Lib.hid hpe
  clear hpe
  by_cases hz : ck = 0
  · subst hz
    have hokz : Okp (ns ++ [[122, 122]]) := ⟨fun x hx => by
      rcases List.mem_append.1 hx with hx | hx
      · exact HOK.out.1 x hx
      · rw [List.mem_singleton.1 hx]; exact L.name_nm (by decide), by rw [← pth_data, HPE.out]; exact HCK.out⟩
    have hne : ns ++ [[122, 122]] ≠ [] := by simp
    have hrt := eq_root _ hokz.1 hne
    have hdl : (ns ++ [[122, 122]]).dropLast = ns := List.dropLast_concat
    have hp1 : ∀ w1 : World, Calls Tryd.prog 26 #[.string p] w1 fun e w' => e = .returned (.string (pth ns)) ∧ Below w1.heap.size w1 w' := fun w1 => P.path_Parent.calls p _ w1 (by rw [← HPE.out, pparent_f hokz hne, hdl])
    have hck0 : L.checkL p.data.toList = 0 := HCK.out
    rw [HPE.out] at hrt
    have hnn : nodeN t (pth ns) = n := by have h := (is_at HT.out.asc HM1.out).2; rw [HPP.out] at h; exact h
    have hchg : ∃ y, chgN x1 e1 = (y, e1) ∧ (e1 = 0 → y = n) := by
      by_cases h0 : e1 = 0
      · obtain ⟨_, hxn, _⟩ := secure_law a u ns 2 (HE1.out.trans h0)
        rw [hnn, HX1.out] at hxn
        exact ⟨n, by rw [chgN, if_pos h0, hxn, HDir.out, h0]; rfl, fun _ => rfl⟩
      · exact ⟨z50, by rw [chgN, if_neg h0], fun h => absurd h h0⟩
    obtain ⟨y, hy, hyn⟩ := hchg
    have HYN := Lib.hid hyn
    have HCh := Lib.hid fun w1 (hb : Below w2.heap.size w2 w1) => (show Calls Tryd.prog 46 #[.slice (some ad) t.length cg, .agg #[.string u, .int .i64 a.f0, .int .i64 a.f1, .int .i64 a.f2, .int .i64 a.f3], .string p] w1 fun e w' => ∃ Y6 y6 Y11 y11, e = .returned (.tuple #[.agg #[.string y.f0, .bool y.f1, .int .i64 y.f2.f0, .int .i64 y.f2.f1, .int .i64 y.f2.f2, .int .i64 y.f2.f3, .slice Y6 y.f3.length y6, .int .i64 y.f4.f0, .int .i64 y.f4.f1, .int .i64 y.f4.f2, .int .i64 y.f4.f3, .slice Y11 y.f5.length y11, .int .i64 y.f6.f0, .int .i64 y.f6.f1, .int .i64 y.f6.f2, .int .i64 y.f6.f3], .int .i64 e1]) ∧ k50.K w' y [.string y.f0, .bool y.f1, .int .i64 y.f2.f0, .int .i64 y.f2.f1, .int .i64 y.f2.f2, .int .i64 y.f2.f3, .slice Y6 y.f3.length y6, .int .i64 y.f4.f0, .int .i64 y.f4.f1, .int .i64 y.f4.f2, .int .i64 y.f4.f3, .slice Y11 y.f5.length y11, .int .i64 y.f6.f0, .int .i64 y.f6.f1, .int .i64 y.f6.f2, .int .i64 y.f6.f3] ∧ Below w1.heap.size w1 w' from by
      have h := change_up p (pth ns) hck0 hrt u a x1 e1 (some ad) t.length cg w1 hp1 (fun w3 h3 => by rw [← HX1.out, ← HE1.out]; exact may_c t u a ns 2 (some ad) cg w3 (Kd.C_below HCt.out (below_step hb h3)) Hcg.out (tree_srch HT.out) (tree_acls HT.out) HOK.out.1 HOK.out.2)
      rw [hy] at h
      refine h.mono ?_
      rintro e w' ⟨cs, rfl, hK, hB⟩
      obtain ⟨Y6, y6, Y11, y11, rfl, _⟩ := k50_open (Foot.now hK)
      exact ⟨Y6, y6, Y11, y11, rfl, Foot.now hK, hB⟩)
    have HRt := Lib.hid fun w1 => (show Calls Tryd.prog 46 #[.slice (some ad) t.length cg, .agg #[.string u, .int .i64 a.f0, .int .i64 a.f1, .int .i64 a.f2, .int .i64 a.f3], .string ⟨#[47]⟩] w1 fun e w' => ∃ R6 r6 R11 r11, e = .returned (.tuple #[.agg #[.string z50.f0, .bool z50.f1, .int .i64 z50.f2.f0, .int .i64 z50.f2.f1, .int .i64 z50.f2.f2, .int .i64 z50.f2.f3, .slice R6 z50.f3.length r6, .int .i64 z50.f4.f0, .int .i64 z50.f4.f1, .int .i64 z50.f4.f2, .int .i64 z50.f4.f3, .slice R11 z50.f5.length r11, .int .i64 z50.f6.f0, .int .i64 z50.f6.f1, .int .i64 z50.f6.f2, .int .i64 z50.f6.f3], .int .i64 1]) ∧ Below w1.heap.size w1 w' from by
      have h := change_root (pth []) (by rw [pth_data]; decide) root_eq u a (some ad) t.length cg w1
      refine h.mono ?_
      rintro e w' ⟨cs, rfl, hK, hB⟩
      obtain ⟨R6, r6, R11, r11, rfl, _⟩ := k50_open (Foot.now hK)
      exact ⟨R6, r6, R11, r11, rfl, hB⟩)
    have hfar : ∀ i, i ≤ ns.length → pth ([] ++ ns.take i) ≠ p := fun i hi e => by
      rw [List.nil_append, ← HPE.out] at e
      have := congrArg List.length (pth_inj (fun x hx => HOK.out.1 x (List.mem_of_mem_take hx)) hokz.1 e)
      rw [List.length_take, List.length_append, List.length_singleton] at this
      omega
    have HPut := Lib.hid fun w1 (hb : Below w2.heap.size w2 w1) => (show Calls Tryd.prog 47 #[.slice (some ad) t.length cg, .agg #[.string p, .bool false, .int .i64 n.f2.f0, .int .i64 n.f2.f1, .int .i64 n.f2.f2, .int .i64 n.f2.f3, .slice none 0 0, .int .i64 0, .int .i64 0, .int .i64 0, .int .i64 0, .slice none 0 0, .int .i64 0, .int .i64 0, .int .i64 0, .int .i64 0]] w1 fun e w' => (∃ A2 n2 c2, e = .returned (.slice A2 n2 c2) ∧ ∀ w3, Below w'.heap.size w' w3 → Calls Tryd.prog 46 #[.slice A2 n2 c2, .agg #[.string u, .int .i64 a.f0, .int .i64 a.f1, .int .i64 a.f2, .int .i64 a.f3], .string p] w3 fun e w4 => ∃ X6 x6 X11 x11, e = .returned (.tuple #[.agg #[.string y.f0, .bool y.f1, .int .i64 y.f2.f0, .int .i64 y.f2.f1, .int .i64 y.f2.f2, .int .i64 y.f2.f3, .slice X6 y.f3.length x6, .int .i64 y.f4.f0, .int .i64 y.f4.f1, .int .i64 y.f4.f2, .int .i64 y.f4.f3, .slice X11 y.f5.length x11, .int .i64 y.f6.f0, .int .i64 y.f6.f1, .int .i64 y.f6.f2, .int .i64 y.f6.f3], .int .i64 e1]) ∧ k50.FK w4 (fun k => w3.heap.size ≤ k) y [.string y.f0, .bool y.f1, .int .i64 y.f2.f0, .int .i64 y.f2.f1, .int .i64 y.f2.f2, .int .i64 y.f2.f3, .slice X6 y.f3.length x6, .int .i64 y.f4.f0, .int .i64 y.f4.f1, .int .i64 y.f4.f2, .int .i64 y.f4.f3, .slice X11 y.f5.length x11, .int .i64 y.f6.f0, .int .i64 y.f6.f1, .int .i64 y.f6.f2, .int .i64 y.f6.f3] ∧ Below w3.heap.size w3 w4) ∧ Below w1.heap.size w1 w' from by
      refine (put_c t (bareN p n.f2) _ (some ad) cg w1 w1 (Kd.C_below HCt.out hb) (Below.refl _ _) Hcg.out HT.out.len (bare_K w1 p n.f2)).mono ?_
      rintro e w' ⟨v, rfl, hO, hB⟩
      obtain ⟨A2, c2, rfl, hc2, hR2⟩ := OwnRow.reads hO
      have hC2 := C50_of hR2 hB
      refine ⟨⟨A2, _, c2, rfl, fun w3 h3 => ?_⟩, hB⟩
      obtain ⟨hS, hA⟩ := bare_srch HT.out p n.f2
      have hm : mayR (putN t (bareN p n.f2)) a u ns 2 = (x1, e1) := by
        rw [mayR_in _ _ _ _ _ (by omega) (by omega), see_far HT.out.asc (bareN p n.f2) a ns [] hfar, ← mayR_in t a u ns 2 (by omega) (by omega), ← HX1.out, ← HE1.out]
      have h := change_up p (pth ns) hck0 hrt u a x1 e1 A2 (putN t (bareN p n.f2)).length c2 w3 hp1 (fun w5 h5 => by
        have hc := may_c (putN t (bareN p n.f2)) u a ns 2 A2 c2 w5 (Kd.C_below hC2 (below_step h3 h5)) hc2 hS hA HOK.out.1 HOK.out.2
        rw [hm] at hc
        exact hc)
      rw [hy] at h
      refine h.mono ?_
      rintro e w4 ⟨cs, rfl, hK, hB4⟩
      obtain ⟨X6, x6, X11, x11, rfl, _⟩ := k50_open (Foot.now hK)
      exact ⟨X6, x6, X11, x11, rfl, hK, hB4⟩)
    clear hokz hne hrt hdl hp1 hck0 hnn hy hyn hfar
    go_wp2_with (first | (go_at_call 46; refine (HCh.out _ HX.out).mono ?_; rintro e w9 ⟨Y6, y6, Y11, y11, rfl, hK, hb⟩; have HX := Lib.hid (below_alloc (below_step HX.out hb) (.cells #[.string y.f0, .bool y.f1, .int .i64 y.f2.f0, .int .i64 y.f2.f1, .int .i64 y.f2.f2, .int .i64 y.f2.f3, .slice Y6 y.f3.length y6, .int .i64 y.f4.f0, .int .i64 y.f4.f1, .int .i64 y.f4.f2, .int .i64 y.f4.f3, .slice Y11 y.f5.length y11, .int .i64 y.f6.f0, .int .i64 y.f6.f1, .int .i64 y.f6.f2, .int .i64 y.f6.f3] 50)); have BN := Lib.hid (blk_alloc (blk_below BN.out hb) (.cells #[.string y.f0, .bool y.f1, .int .i64 y.f2.f0, .int .i64 y.f2.f1, .int .i64 y.f2.f2, .int .i64 y.f2.f3, .slice Y6 y.f3.length y6, .int .i64 y.f4.f0, .int .i64 y.f4.f1, .int .i64 y.f4.f2, .int .i64 y.f4.f3, .slice Y11 y.f5.length y11, .int .i64 y.f6.f0, .int .i64 y.f6.f1, .int .i64 y.f6.f2, .int .i64 y.f6.f3] 50)); have BS := Lib.hid (blk_alloc (blk_below BS.out hb) (.cells #[.string y.f0, .bool y.f1, .int .i64 y.f2.f0, .int .i64 y.f2.f1, .int .i64 y.f2.f2, .int .i64 y.f2.f3, .slice Y6 y.f3.length y6, .int .i64 y.f4.f0, .int .i64 y.f4.f1, .int .i64 y.f4.f2, .int .i64 y.f4.f3, .slice Y11 y.f5.length y11, .int .i64 y.f6.f0, .int .i64 y.f6.f1, .int .i64 y.f6.f2, .int .i64 y.f6.f3] 50)); have HKY := Lib.hid (k50.K_below (below_alloc (Below.refl w9.heap.size w9) (.cells #[.string y.f0, .bool y.f1, .int .i64 y.f2.f0, .int .i64 y.f2.f1, .int .i64 y.f2.f2, .int .i64 y.f2.f3, .slice Y6 y.f3.length y6, .int .i64 y.f4.f0, .int .i64 y.f4.f1, .int .i64 y.f4.f2, .int .i64 y.f4.f3, .slice Y11 y.f5.length y11, .int .i64 y.f6.f0, .int .i64 y.f6.f1, .int .i64 y.f6.f2, .int .i64 y.f6.f3] 50)) hK); have BY := Lib.hid (blk_new w9 (.cells #[.string y.f0, .bool y.f1, .int .i64 y.f2.f0, .int .i64 y.f2.f1, .int .i64 y.f2.f2, .int .i64 y.f2.f3, .slice Y6 y.f3.length y6, .int .i64 y.f4.f0, .int .i64 y.f4.f1, .int .i64 y.f4.f2, .int .i64 y.f4.f3, .slice Y11 y.f5.length y11, .int .i64 y.f6.f0, .int .i64 y.f6.f1, .int .i64 y.f6.f2, .int .i64 y.f6.f3] 50)); have s0 := (blk_cell BS.out 0).trans rfl; have s1 := (blk_cell BS.out 1).trans rfl; have s2 := (blk_cell BS.out 2).trans rfl; have s3 := (blk_cell BS.out 3).trans rfl; have s4 := (blk_cell BS.out 4).trans rfl; have n0 := (blk_cell BN.out 0).trans rfl; clear hK hb) | (go_at_call 24; refine (HCk.out _).mono ?_; rintro e w8 ⟨rfl, hb⟩; have HX := Lib.hid (below_step HX.out hb); have BN := Lib.hid (blk_below BN.out hb); have BS := Lib.hid (blk_below BS.out hb); have s0 := (blk_cell BS.out 0).trans rfl; have s1 := (blk_cell BS.out 1).trans rfl; have s2 := (blk_cell BS.out 2).trans rfl; have s3 := (blk_cell BS.out 3).trans rfl; have s4 := (blk_cell BS.out 4).trans rfl; have n0 := (blk_cell BN.out 0).trans rfl; clear hb) | (go_at_call 45; refine (HJ.out _).mono ?_; rintro e w7 ⟨rfl, hb⟩; have HX := Lib.hid (below_step HX.out hb); have BN := Lib.hid (blk_below BN.out hb); have BS := Lib.hid (blk_below BS.out hb); have s0 := (blk_cell BS.out 0).trans rfl; have s1 := (blk_cell BS.out 1).trans rfl; have s2 := (blk_cell BS.out 2).trans rfl; have s3 := (blk_cell BS.out 3).trans rfl; have s4 := (blk_cell BS.out 4).trans rfl; have n0 := (blk_cell BN.out 0).trans rfl; clear hb) | (go_at_call 35; refine (HMay.out _ HX.out).mono ?_; rintro e w6 ⟨X6, x6, X11, x11, rfl, hK, hb⟩; have HX := Lib.hid (below_alloc (below_step HX.out hb) (.cells #[.string x1.f0, .bool x1.f1, .int .i64 x1.f2.f0, .int .i64 x1.f2.f1, .int .i64 x1.f2.f2, .int .i64 x1.f2.f3, .slice X6 x1.f3.length x6, .int .i64 x1.f4.f0, .int .i64 x1.f4.f1, .int .i64 x1.f4.f2, .int .i64 x1.f4.f3, .slice X11 x1.f5.length x11, .int .i64 x1.f6.f0, .int .i64 x1.f6.f1, .int .i64 x1.f6.f2, .int .i64 x1.f6.f3] 50)); have BN := Lib.hid (blk_alloc (blk_below BN.out hb) (.cells #[.string x1.f0, .bool x1.f1, .int .i64 x1.f2.f0, .int .i64 x1.f2.f1, .int .i64 x1.f2.f2, .int .i64 x1.f2.f3, .slice X6 x1.f3.length x6, .int .i64 x1.f4.f0, .int .i64 x1.f4.f1, .int .i64 x1.f4.f2, .int .i64 x1.f4.f3, .slice X11 x1.f5.length x11, .int .i64 x1.f6.f0, .int .i64 x1.f6.f1, .int .i64 x1.f6.f2, .int .i64 x1.f6.f3] 50)); have BS := Lib.hid (blk_alloc (blk_below BS.out hb) (.cells #[.string x1.f0, .bool x1.f1, .int .i64 x1.f2.f0, .int .i64 x1.f2.f1, .int .i64 x1.f2.f2, .int .i64 x1.f2.f3, .slice X6 x1.f3.length x6, .int .i64 x1.f4.f0, .int .i64 x1.f4.f1, .int .i64 x1.f4.f2, .int .i64 x1.f4.f3, .slice X11 x1.f5.length x11, .int .i64 x1.f6.f0, .int .i64 x1.f6.f1, .int .i64 x1.f6.f2, .int .i64 x1.f6.f3] 50)); have s0 := (blk_cell BS.out 0).trans rfl; have s1 := (blk_cell BS.out 1).trans rfl; have s2 := (blk_cell BS.out 2).trans rfl; have s3 := (blk_cell BS.out 3).trans rfl; have s4 := (blk_cell BS.out 4).trans rfl; have n0 := (blk_cell BN.out 0).trans rfl; clear hK hb))
    generalize w9.alloc (.cells #[.string y.f0, .bool y.f1, .int .i64 y.f2.f0, .int .i64 y.f2.f1, .int .i64 y.f2.f2, .int .i64 y.f2.f3, .slice Y6 y.f3.length y6, .int .i64 y.f4.f0, .int .i64 y.f4.f1, .int .i64 y.f4.f2, .int .i64 y.f4.f3, .slice Y11 y.f5.length y11, .int .i64 y.f6.f0, .int .i64 y.f6.f1, .int .i64 y.f6.f2, .int .i64 y.f6.f3] 50) = V at HX BN BS BY HKY s0 s1 s2 s3 s4 n0 ⊢
    refine rc13 ad t.length cg w3.heap.size w5.heap.size _ p u a n.f2 y e1 _ _ _ _ _ _ _ _ _ _ _ _ _ _ _ _ _ _ _ _ _ _ _ _ _ _ _ _ _ _ _ _ _ _ _ _ _ _ _ _ _ _ _ _ _ _ _ _ _ _ _ _ _ _ _ _ _ _ _ _ _ _ _ _ _ _ _ _ _ _ _ _ _ _ _ _ _ _ _ _ _ _ _ _ _ _ _ _ _ _ _ _ _ _ _ _ _ _ _ _ _ _ _ _ _ _ _ _ _ _ _ _ V _ BN.out rfl rfl rfl rfl BS.out (fun w1 hb => HPut.out w1 (below_step HX.out hb)) ?_
    intro g Z6 Z11 z6 z11 w10 t70 t71 t72 t73 t74 t75 t76 t77 t78 t79 t80 t81 hG hK hb
    have HX := Lib.hid (below_step HX.out hb)
    have BN := Lib.hid (blk_below BN.out hb)
    have BS := Lib.hid (blk_below BS.out hb)
    have HKY := Lib.hid (k50.K_below hb HKY.out)
    have HKZ := Lib.hid hK
    have BY := Lib.hid (blk_below BY.out hb)
    have BZ := Lib.hid hG
    have s0 := (blk_cell BS.out 0).trans rfl
    have s1 := (blk_cell BS.out 1).trans rfl
    have s2 := (blk_cell BS.out 2).trans rfl
    have s3 := (blk_cell BS.out 3).trans rfl
    have s4 := (blk_cell BS.out 4).trans rfl
    have n0 := (blk_cell BN.out 0).trans rfl
    clear hG hK hb
    by_cases hk0 : e1 = 0
    · have hyv := HYN.out hk0
      subst hk0
      subst hyv
      have q1 : (y.f0.toList == y.f0.toList) = true := beq_self_eq_true _
      go_wp2_with (first | (go_at_call 42; refine (same_t y _ _ _ HKY.out HKZ.out).mono ?_; rintro e w12 ⟨rfl, hb⟩; have HX := Lib.hid (below_step HX.out hb); have BN := Lib.hid (blk_below BN.out hb); have BY := Lib.hid (blk_below BY.out hb); have n0 := (blk_cell BN.out 0).trans rfl; have y0 := (blk_cell BY.out 0).trans rfl; clear hb) | (go_at_call 46; refine (HRt.out _).mono ?_; rintro e w11 ⟨R6, r6, R11, r11, rfl, hb⟩; have HX := Lib.hid (below_alloc (below_step HX.out hb) (.cells #[.string z50.f0, .bool z50.f1, .int .i64 z50.f2.f0, .int .i64 z50.f2.f1, .int .i64 z50.f2.f2, .int .i64 z50.f2.f3, .slice R6 z50.f3.length r6, .int .i64 z50.f4.f0, .int .i64 z50.f4.f1, .int .i64 z50.f4.f2, .int .i64 z50.f4.f3, .slice R11 z50.f5.length r11, .int .i64 z50.f6.f0, .int .i64 z50.f6.f1, .int .i64 z50.f6.f2, .int .i64 z50.f6.f3] 50)); have HKY := Lib.hid (k50.K_below (below_alloc hb (.cells #[.string z50.f0, .bool z50.f1, .int .i64 z50.f2.f0, .int .i64 z50.f2.f1, .int .i64 z50.f2.f2, .int .i64 z50.f2.f3, .slice R6 z50.f3.length r6, .int .i64 z50.f4.f0, .int .i64 z50.f4.f1, .int .i64 z50.f4.f2, .int .i64 z50.f4.f3, .slice R11 z50.f5.length r11, .int .i64 z50.f6.f0, .int .i64 z50.f6.f1, .int .i64 z50.f6.f2, .int .i64 z50.f6.f3] 50)) HKY.out); have HKZ := Lib.hid (k50.K_below (below_alloc hb (.cells #[.string z50.f0, .bool z50.f1, .int .i64 z50.f2.f0, .int .i64 z50.f2.f1, .int .i64 z50.f2.f2, .int .i64 z50.f2.f3, .slice R6 z50.f3.length r6, .int .i64 z50.f4.f0, .int .i64 z50.f4.f1, .int .i64 z50.f4.f2, .int .i64 z50.f4.f3, .slice R11 z50.f5.length r11, .int .i64 z50.f6.f0, .int .i64 z50.f6.f1, .int .i64 z50.f6.f2, .int .i64 z50.f6.f3] 50)) HKZ.out); have BY := Lib.hid (blk_alloc (blk_below BY.out hb) (.cells #[.string z50.f0, .bool z50.f1, .int .i64 z50.f2.f0, .int .i64 z50.f2.f1, .int .i64 z50.f2.f2, .int .i64 z50.f2.f3, .slice R6 z50.f3.length r6, .int .i64 z50.f4.f0, .int .i64 z50.f4.f1, .int .i64 z50.f4.f2, .int .i64 z50.f4.f3, .slice R11 z50.f5.length r11, .int .i64 z50.f6.f0, .int .i64 z50.f6.f1, .int .i64 z50.f6.f2, .int .i64 z50.f6.f3] 50)); have BZ := Lib.hid (blk_alloc (blk_below BZ.out hb) (.cells #[.string z50.f0, .bool z50.f1, .int .i64 z50.f2.f0, .int .i64 z50.f2.f1, .int .i64 z50.f2.f2, .int .i64 z50.f2.f3, .slice R6 z50.f3.length r6, .int .i64 z50.f4.f0, .int .i64 z50.f4.f1, .int .i64 z50.f4.f2, .int .i64 z50.f4.f3, .slice R11 z50.f5.length r11, .int .i64 z50.f6.f0, .int .i64 z50.f6.f1, .int .i64 z50.f6.f2, .int .i64 z50.f6.f3] 50)); have BN := Lib.hid (blk_alloc (blk_below BN.out hb) (.cells #[.string z50.f0, .bool z50.f1, .int .i64 z50.f2.f0, .int .i64 z50.f2.f1, .int .i64 z50.f2.f2, .int .i64 z50.f2.f3, .slice R6 z50.f3.length r6, .int .i64 z50.f4.f0, .int .i64 z50.f4.f1, .int .i64 z50.f4.f2, .int .i64 z50.f4.f3, .slice R11 z50.f5.length r11, .int .i64 z50.f6.f0, .int .i64 z50.f6.f1, .int .i64 z50.f6.f2, .int .i64 z50.f6.f3] 50)); have rY := rd50_blk BY.out rfl; have rZ := rd50_blk BZ.out rfl; clear hb))
      go_ret
      exact ⟨rfl, below_step HB2.out HX.out⟩
    · have hkn : (e1 != 0) = true := by simpa using hk0
      have hkf : (e1 == 0) = false := by simpa using hk0
      go_wp2_with (first | (go_at_call 42; refine (same_t y _ _ _ HKY.out HKZ.out).mono ?_; rintro e w12 ⟨rfl, hb⟩; have HX := Lib.hid (below_step HX.out hb); have BN := Lib.hid (blk_below BN.out hb); have BY := Lib.hid (blk_below BY.out hb); have n0 := (blk_cell BN.out 0).trans rfl; have y0 := (blk_cell BY.out 0).trans rfl; clear hb) | (go_at_call 46; refine (HRt.out _).mono ?_; rintro e w11 ⟨R6, r6, R11, r11, rfl, hb⟩; have HX := Lib.hid (below_alloc (below_step HX.out hb) (.cells #[.string z50.f0, .bool z50.f1, .int .i64 z50.f2.f0, .int .i64 z50.f2.f1, .int .i64 z50.f2.f2, .int .i64 z50.f2.f3, .slice R6 z50.f3.length r6, .int .i64 z50.f4.f0, .int .i64 z50.f4.f1, .int .i64 z50.f4.f2, .int .i64 z50.f4.f3, .slice R11 z50.f5.length r11, .int .i64 z50.f6.f0, .int .i64 z50.f6.f1, .int .i64 z50.f6.f2, .int .i64 z50.f6.f3] 50)); have HKY := Lib.hid (k50.K_below (below_alloc hb (.cells #[.string z50.f0, .bool z50.f1, .int .i64 z50.f2.f0, .int .i64 z50.f2.f1, .int .i64 z50.f2.f2, .int .i64 z50.f2.f3, .slice R6 z50.f3.length r6, .int .i64 z50.f4.f0, .int .i64 z50.f4.f1, .int .i64 z50.f4.f2, .int .i64 z50.f4.f3, .slice R11 z50.f5.length r11, .int .i64 z50.f6.f0, .int .i64 z50.f6.f1, .int .i64 z50.f6.f2, .int .i64 z50.f6.f3] 50)) HKY.out); have HKZ := Lib.hid (k50.K_below (below_alloc hb (.cells #[.string z50.f0, .bool z50.f1, .int .i64 z50.f2.f0, .int .i64 z50.f2.f1, .int .i64 z50.f2.f2, .int .i64 z50.f2.f3, .slice R6 z50.f3.length r6, .int .i64 z50.f4.f0, .int .i64 z50.f4.f1, .int .i64 z50.f4.f2, .int .i64 z50.f4.f3, .slice R11 z50.f5.length r11, .int .i64 z50.f6.f0, .int .i64 z50.f6.f1, .int .i64 z50.f6.f2, .int .i64 z50.f6.f3] 50)) HKZ.out); have BY := Lib.hid (blk_alloc (blk_below BY.out hb) (.cells #[.string z50.f0, .bool z50.f1, .int .i64 z50.f2.f0, .int .i64 z50.f2.f1, .int .i64 z50.f2.f2, .int .i64 z50.f2.f3, .slice R6 z50.f3.length r6, .int .i64 z50.f4.f0, .int .i64 z50.f4.f1, .int .i64 z50.f4.f2, .int .i64 z50.f4.f3, .slice R11 z50.f5.length r11, .int .i64 z50.f6.f0, .int .i64 z50.f6.f1, .int .i64 z50.f6.f2, .int .i64 z50.f6.f3] 50)); have BZ := Lib.hid (blk_alloc (blk_below BZ.out hb) (.cells #[.string z50.f0, .bool z50.f1, .int .i64 z50.f2.f0, .int .i64 z50.f2.f1, .int .i64 z50.f2.f2, .int .i64 z50.f2.f3, .slice R6 z50.f3.length r6, .int .i64 z50.f4.f0, .int .i64 z50.f4.f1, .int .i64 z50.f4.f2, .int .i64 z50.f4.f3, .slice R11 z50.f5.length r11, .int .i64 z50.f6.f0, .int .i64 z50.f6.f1, .int .i64 z50.f6.f2, .int .i64 z50.f6.f3] 50)); have BN := Lib.hid (blk_alloc (blk_below BN.out hb) (.cells #[.string z50.f0, .bool z50.f1, .int .i64 z50.f2.f0, .int .i64 z50.f2.f1, .int .i64 z50.f2.f2, .int .i64 z50.f2.f3, .slice R6 z50.f3.length r6, .int .i64 z50.f4.f0, .int .i64 z50.f4.f1, .int .i64 z50.f4.f2, .int .i64 z50.f4.f3, .slice R11 z50.f5.length r11, .int .i64 z50.f6.f0, .int .i64 z50.f6.f1, .int .i64 z50.f6.f2, .int .i64 z50.f6.f3] 50)); have rY := rd50_blk BY.out rfl; have rZ := rd50_blk BZ.out rfl; clear hb))
      go_ret
      exact ⟨rfl, below_step HB2.out HX.out⟩
  · have hzn : (ck != 0) = true := by simpa using hz
    have hzf : (ck == 0) = false := by simpa using hz
    clear HPE HCK
    go_wp2_with (first | (go_at_call 24; refine (HCk.out _).mono ?_; rintro e w8 ⟨rfl, hb⟩; have HX := Lib.hid (below_step HX.out hb); have BN := Lib.hid (blk_below BN.out hb); have BS := Lib.hid (blk_below BS.out hb); have s0 := (blk_cell BS.out 0).trans rfl; have s1 := (blk_cell BS.out 1).trans rfl; have s2 := (blk_cell BS.out 2).trans rfl; have s3 := (blk_cell BS.out 3).trans rfl; have s4 := (blk_cell BS.out 4).trans rfl; have n0 := (blk_cell BN.out 0).trans rfl; clear hb) | (go_at_call 45; refine (HJ.out _).mono ?_; rintro e w7 ⟨rfl, hb⟩; have HX := Lib.hid (below_step HX.out hb); have BN := Lib.hid (blk_below BN.out hb); have BS := Lib.hid (blk_below BS.out hb); have s0 := (blk_cell BS.out 0).trans rfl; have s1 := (blk_cell BS.out 1).trans rfl; have s2 := (blk_cell BS.out 2).trans rfl; have s3 := (blk_cell BS.out 3).trans rfl; have s4 := (blk_cell BS.out 4).trans rfl; have n0 := (blk_cell BN.out 0).trans rfl; clear hb) | (go_at_call 35; refine (HMay.out _ HX.out).mono ?_; rintro e w6 ⟨X6, x6, X11, x11, rfl, hK, hb⟩; have HX := Lib.hid (below_alloc (below_step HX.out hb) (.cells #[.string x1.f0, .bool x1.f1, .int .i64 x1.f2.f0, .int .i64 x1.f2.f1, .int .i64 x1.f2.f2, .int .i64 x1.f2.f3, .slice X6 x1.f3.length x6, .int .i64 x1.f4.f0, .int .i64 x1.f4.f1, .int .i64 x1.f4.f2, .int .i64 x1.f4.f3, .slice X11 x1.f5.length x11, .int .i64 x1.f6.f0, .int .i64 x1.f6.f1, .int .i64 x1.f6.f2, .int .i64 x1.f6.f3] 50)); have BN := Lib.hid (blk_alloc (blk_below BN.out hb) (.cells #[.string x1.f0, .bool x1.f1, .int .i64 x1.f2.f0, .int .i64 x1.f2.f1, .int .i64 x1.f2.f2, .int .i64 x1.f2.f3, .slice X6 x1.f3.length x6, .int .i64 x1.f4.f0, .int .i64 x1.f4.f1, .int .i64 x1.f4.f2, .int .i64 x1.f4.f3, .slice X11 x1.f5.length x11, .int .i64 x1.f6.f0, .int .i64 x1.f6.f1, .int .i64 x1.f6.f2, .int .i64 x1.f6.f3] 50)); have BS := Lib.hid (blk_alloc (blk_below BS.out hb) (.cells #[.string x1.f0, .bool x1.f1, .int .i64 x1.f2.f0, .int .i64 x1.f2.f1, .int .i64 x1.f2.f2, .int .i64 x1.f2.f3, .slice X6 x1.f3.length x6, .int .i64 x1.f4.f0, .int .i64 x1.f4.f1, .int .i64 x1.f4.f2, .int .i64 x1.f4.f3, .slice X11 x1.f5.length x11, .int .i64 x1.f6.f0, .int .i64 x1.f6.f1, .int .i64 x1.f6.f2, .int .i64 x1.f6.f3] 50)); have s0 := (blk_cell BS.out 0).trans rfl; have s1 := (blk_cell BS.out 1).trans rfl; have s2 := (blk_cell BS.out 2).trans rfl; have s3 := (blk_cell BS.out 3).trans rfl; have s4 := (blk_cell BS.out 4).trans rfl; have n0 := (blk_cell BN.out 0).trans rfl; clear hK hb))
    go_ret
    exact ⟨rfl, below_step HB2.out HX.out⟩
end Go.Proofs.YtmndeoncbocplaaDoor.C
end
