/- Texts that the claim's law stands on, cut down to what it reaches. -/
import Derived.Test.YtmndeoncbocplaaDoorJD
import Derived.Test.YtmndeoncbocplaaDoorJQT
import Derived.Deep.RegionHeldLaw
import Derived.Deep.RegionHeld3
import Derived.Deep.LoopGhost
import Derived.Lib.Walk
set_option linter.unusedVariables false
set_option linter.unusedSimpArgs false
section
set_option linter.unusedVariables false
set_option linter.unusedSimpArgs false
namespace Go.Proofs.YtmndeoncbocplaaDoor.C
open Go.RowKit Go.Proofs.YtmndeoncbocplaaDoor.Q Go.Proofs.YtmndeoncbocplaaDoorW.PrintWords Go.Proofs.YtmndeoncbocplaaDoorW.PrintLast Go.Proofs.YtmndeoncbocplaaDoorW.PrintMore
attribute [local go_sem ↓] rd_at50 wr_at50 al_at50
attribute [local go_sem] rd50_new wr50_new al50
set_option maxHeartbeats 1000000 in
set_option maxRecDepth 100000 in
theorem small_c (n : Nat) (hn : n < 10) (w : World) : Calls Tryd.prog 155 #[.int .i64 (n : Int)] w fun e w' => e = .returned (.string ⟨#[UInt8.ofNat (48 + n)]⟩) ∧ Below w.heap.size w w' := by
  rcases (show n = 0 ∨ n = 1 ∨ n = 2 ∨ n = 3 ∨ n = 4 ∨ n = 5 ∨ n = 6 ∨ n = 7 ∨ n = 8 ∨ n = 9 by omega) with rfl | rfl | rfl | rfl | rfl | rfl | rfl | rfl | rfl | rfl
  all_goals
    go_enter Tryd.func155, Tryd.ntmps155
    go_wp2
    go_ret
    exact ⟨rfl, Below.refl _ _⟩
set_option maxHeartbeats 1000000 in
set_option maxRecDepth 100000 in
theorem fmt_c (n : Nat) (hn : n < 10) (w : World) : Calls Tryd.prog 141 #[.int .i64 (n : Int), .int .i64 10] w fun e w' => e = .returned (.string ⟨#[UInt8.ofNat (48 + n)]⟩) ∧ Below w.heap.size w w' := by
  have HS := Lib.hid fun w1 => small_c n hn w1
  generalize (⟨#[UInt8.ofNat (48 + n)]⟩ : ByteArray) = s at HS ⊢
  go_enter Tryd.func141, Tryd.ntmps141
  go_wp2_with (go_at_call 155; refine (HS.out _).mono ?_; rintro e w1 ⟨rfl, hb⟩; have HB := Lib.hid hb; clear hb)
  go_ret
  exact ⟨rfl, HB.out⟩
set_option maxHeartbeats 1000000 in
set_option maxRecDepth 100000 in
theorem itoa_i (n : Nat) (hn : n < 10) (w : World) : Calls Tryd.prog 120 #[.int .i64 (n : Int)] w fun e w' => e = .returned (.string ⟨#[UInt8.ofNat (48 + n)]⟩) ∧ Below w.heap.size w w' := by
  have HS := Lib.hid fun w1 => fmt_c n hn w1
  generalize (⟨#[UInt8.ofNat (48 + n)]⟩ : ByteArray) = s at HS ⊢
  go_enter Tryd.func120, Tryd.ntmps120
  go_wp2_with (go_at_call 141; refine (HS.out _).mono ?_; rintro e w1 ⟨rfl, hb⟩; have HB := Lib.hid hb; clear hb)
  go_ret
  exact ⟨rfl, HB.out⟩
set_option maxHeartbeats 1000000 in
set_option maxRecDepth 100000 in
theorem itoa_c (n : Nat) (hn : n < 10) (w : World) : Calls Tryd.prog 98 #[.int .i64 (n : Int)] w fun e w' => e = .returned (.string ⟨#[UInt8.ofNat (48 + n)]⟩) ∧ Below w.heap.size w w' := by
  have HS := Lib.hid fun w1 => itoa_i n hn w1
  generalize (⟨#[UInt8.ofNat (48 + n)]⟩ : ByteArray) = s at HS ⊢
  go_enter Tryd.func98, Tryd.ntmps98
  go_wp2_with (go_at_call 120; refine (HS.out _).mono ?_; rintro e w1 ⟨rfl, hb⟩; have HB := Lib.hid hb; clear hb)
  go_ret
  exact ⟨rfl, HB.out⟩
set_option maxHeartbeats 2000000 in
set_option maxRecDepth 100000 in
theorem rf96 (p : ByteArray) (a : S41) (g3 g4 B : Nat) (u1 u2 u5 u6 u7 u8 u9 u10 : Value) (W : World) (Q : Exit → Act → World → Prop)
    (h3 : W.heap[g3]? = some (.cells #[.int .i64 a.f0, .int .i64 a.f1, .int .i64 a.f2, .int .i64 a.f3] 41 (0, 0))) (h4 : W.heap[g4]? = some (.cells #[.string (⟨#[]⟩ : ByteArray), .bool false, .int .i64 0, .int .i64 0, .int .i64 0, .int .i64 0, .slice none 0 0, .int .i64 0, .int .i64 0, .int .i64 0, .int .i64 0, .slice none 0 0, .int .i64 0, .int .i64 0, .int .i64 0, .int .i64 0] 50)) (hne : g3 ≠ g4) (hB1 : B ≤ g4)
    (hpost : ∀ (g : Nat) (w' : World) (t5 t6 t7 t8 t9 t10 : Value), w'.heap[g4]? = some (.cells #[.string p, .bool true, .int .i64 a.f0, .int .i64 a.f1, .int .i64 a.f2, .int .i64 a.f3, .slice (some ⟨g, 0, none⟩) 1 1, .int .i64 0, .int .i64 0, .int .i64 0, .int .i64 0, .slice none 0 0, .int .i64 0, .int .i64 0, .int .i64 3, .int .i64 255] 50 (0, 0)) → w'.heap[g]? = some (.cells #[.string (⟨#[42]⟩ : ByteArray), .int .i64 7] 96) → Below B W w' → Q .normal ⟨#[.string p, u1, u2, .pointer (some ⟨g3, 0, none⟩), .pointer (some ⟨g4, 0, none⟩), t5, t6, t7, t8, t9, t10], []⟩ w') :
    Code.wp Tryd.prog (cReg Tryd.f96 1) Q ⟨#[.string p, u1, u2, .pointer (some ⟨g3, 0, none⟩), .pointer (some ⟨g4, 0, none⟩), u5, u6, u7, u8, u9, u10], []⟩ W := by
  have E3 := Lib.hid h3
  have E4 := Lib.hid h4
  have hg3 := blk_lt h3
  have hg4 := blk_lt h4
  have HPO := Lib.hid hpost
  have ka0 := (blk_cell (blk_below E3.out (Below.refl W.heap.size W)) 0).trans rfl
  have ka1 := (blk_cell (blk_below E3.out (Below.refl W.heap.size W)) 1).trans rfl
  have ka2 := (blk_cell (blk_below E3.out (Below.refl W.heap.size W)) 2).trans rfl
  have ka3 := (blk_cell (blk_below E3.out (Below.refl W.heap.size W)) 3).trans rfl
  clear h3 h4 hpost
  conv => arg 2; whnf
  refine wp_region_noPanic ?_
  go_region_held_law (fun W1 => W1.cell? ⟨g3, 0, none⟩ = some (.int .i64 a.f0) ∧ W1.cell? ⟨g3, 1, none⟩ = some (.int .i64 a.f1) ∧ W1.cell? ⟨g3, 2, none⟩ = some (.int .i64 a.f2) ∧ W1.cell? ⟨g3, 3, none⟩ = some (.int .i64 a.f3)) (first | go_keep | (refine ⟨?_, ?_, ?_, ?_⟩ <;> (rw [cell_setRow_other _ _ _ _ (by show g3 ≠ _; omega)]; first | assumption | exact (blk_cell (blk_alloc (blk_below E3.out HB5.out) _) _).trans rfl)))
    ((go_at_call 80; (refine (label_Bottom.calls 0 0 3 255 _ rfl).mono ?_; rintro e w5 ⟨rfl, hb⟩; have HB5 := Lib.hid (below_step (show Below W.heap.size W _ by repeat (first | exact HB6.out | exact HB5.out | exact Below.refl _ _ | apply below_alloc | apply below_drew1)) hb); have hs5 := below_size HB5.out; (first | have EG := Lib.hid (show w5.heap[W.heap.size]? = some (.cells #[.string (⟨#[42]⟩ : ByteArray), .int .i64 7] 96) from blk_below (blk_new W (.cells #[.string (⟨#[42]⟩ : ByteArray), .int .i64 7] 96)) hb) | have EG := Lib.hid (show w5.heap[W.heap.size]? = some (.cells #[.string (⟨#[42]⟩ : ByteArray), .int .i64 7] 96) from blk_below (blk_new W.drew (.cells #[.string (⟨#[42]⟩ : ByteArray), .int .i64 7] 96)) hb) | have EG := Lib.hid (show w5.heap[W.heap.size]? = some (.cells #[.string (⟨#[42]⟩ : ByteArray), .int .i64 7] 96) from blk_below (blk_drew (blk_new W (.cells #[.string (⟨#[42]⟩ : ByteArray), .int .i64 7] 96))) hb) | have EG := Lib.hid True.intro); have E4w := Lib.hid (blk_below E4.out HB5.out); have hst1 := wr50_blk (cs := #[.string p, .bool true, .int .i64 a.f0, .int .i64 a.f1, .int .i64 a.f2, .int .i64 a.f3, .slice (some ⟨W.heap.size, 0, none⟩) 1 1, .int .i64 0, .int .i64 0, .int .i64 0, .int .i64 0, .slice none 0 0, .int .i64 0, .int .i64 0, .int .i64 3, .int .i64 255]) E4w.out rfl rfl (by simp [Value.oneCell']); have hst2 := wr50_blk (cs := #[.string p, .bool true, .int .i64 a.f0, .int .i64 a.f1, .int .i64 a.f2, .int .i64 a.f3, .slice (some ⟨w5.heap.size, 0, none⟩) 1 1, .int .i64 0, .int .i64 0, .int .i64 0, .int .i64 0, .slice none 0 0, .int .i64 0, .int .i64 0, .int .i64 3, .int .i64 255]) (blk_alloc E4w.out (.cells #[.string (⟨#[42]⟩ : ByteArray), .int .i64 7] 96)) rfl rfl (by simp [Value.oneCell']); have ka0 := (blk_cell (blk_below E3.out HB5.out) 0).trans rfl; have ka1 := (blk_cell (blk_below E3.out HB5.out) 1).trans rfl; have ka2 := (blk_cell (blk_below E3.out HB5.out) 2).trans rfl; have ka3 := (blk_cell (blk_below E3.out HB5.out) 3).trans rfl; clear hb)))
  all_goals refine NoPanic.normal ?_
  all_goals first
    | exact HPO.out W.heap.size _ _ _ _ _ _ _ (setRow_heap _ _ _ _ _ _ E4w.out) ((setRow_other _ _ _ _ (by omega)).trans EG.out) (below_setRow (HB5.out.mono (by omega)) hB1 _)
    | exact HPO.out w5.heap.size _ _ _ _ _ _ _ (setRow_heap _ _ _ _ _ _ (blk_alloc E4w.out _)) ((setRow_other _ _ _ _ (by omega)).trans (blk_new w5 _)) (below_setRow ((below_alloc HB5.out _).mono (by omega)) hB1 _)
set_option maxHeartbeats 2000000 in
set_option maxRecDepth 100000 in
theorem dir_c (p : ByteArray) (a : S41) (w : World) : Calls Tryd.prog 96 #[.string p, .agg #[.int .i64 a.f0, .int .i64 a.f1, .int .i64 a.f2, .int .i64 a.f3]] w fun e w' => ∃ g, e = .returned (.agg #[.string p, .bool true, .int .i64 a.f0, .int .i64 a.f1, .int .i64 a.f2, .int .i64 a.f3, .slice (some ⟨g, 0, none⟩) 1 1, .int .i64 0, .int .i64 0, .int .i64 0, .int .i64 0, .slice none 0 0, .int .i64 0, .int .i64 0, .int .i64 3, .int .i64 255]) ∧ w'.heap[g]? = some (.cells #[.string (⟨#[42]⟩ : ByteArray), .int .i64 7] 96) ∧ Below w.heap.size w w' := by
  have E3 := Lib.hid (blk_alloc (blk_new w (.cells #[.int .i64 a.f0, .int .i64 a.f1, .int .i64 a.f2, .int .i64 a.f3] 41)) (.cells #[.string (⟨#[]⟩ : ByteArray), .bool false, .int .i64 0, .int .i64 0, .int .i64 0, .int .i64 0, .slice none 0 0, .int .i64 0, .int .i64 0, .int .i64 0, .int .i64 0, .slice none 0 0, .int .i64 0, .int .i64 0, .int .i64 0, .int .i64 0] 50))
  have E4 := Lib.hid (show ((w.alloc (.cells #[.int .i64 a.f0, .int .i64 a.f1, .int .i64 a.f2, .int .i64 a.f3] 41)).alloc (.cells #[.string (⟨#[]⟩ : ByteArray), .bool false, .int .i64 0, .int .i64 0, .int .i64 0, .int .i64 0, .slice none 0 0, .int .i64 0, .int .i64 0, .int .i64 0, .int .i64 0, .slice none 0 0, .int .i64 0, .int .i64 0, .int .i64 0, .int .i64 0] 50)).heap[w.heap.size + 1]? = some (.cells #[.string (⟨#[]⟩ : ByteArray), .bool false, .int .i64 0, .int .i64 0, .int .i64 0, .int .i64 0, .slice none 0 0, .int .i64 0, .int .i64 0, .int .i64 0, .int .i64 0, .slice none 0 0, .int .i64 0, .int .i64 0, .int .i64 0, .int .i64 0] 50) by have := blk_new (w.alloc (.cells #[.int .i64 a.f0, .int .i64 a.f1, .int .i64 a.f2, .int .i64 a.f3] 41)) (.cells #[.string (⟨#[]⟩ : ByteArray), .bool false, .int .i64 0, .int .i64 0, .int .i64 0, .int .i64 0, .slice none 0 0, .int .i64 0, .int .i64 0, .int .i64 0, .int .i64 0, .slice none 0 0, .int .i64 0, .int .i64 0, .int .i64 0, .int .i64 0] 50); rwa [World.size_alloc] at this)
  have HB := Lib.hid (below_alloc (below_alloc (Below.refl w.heap.size w) (.cells #[.int .i64 a.f0, .int .i64 a.f1, .int .i64 a.f2, .int .i64 a.f3] 41)) (.cells #[.string (⟨#[]⟩ : ByteArray), .bool false, .int .i64 0, .int .i64 0, .int .i64 0, .int .i64 0, .slice none 0 0, .int .i64 0, .int .i64 0, .int .i64 0, .int .i64 0, .slice none 0 0, .int .i64 0, .int .i64 0, .int .i64 0, .int .i64 0] 50))
  go_enter Tryd.func96, Tryd.ntmps96
  go_wp2
  generalize (w.alloc (.cells #[.int .i64 a.f0, .int .i64 a.f1, .int .i64 a.f2, .int .i64 a.f3] 41)).alloc (.cells #[.string (⟨#[]⟩ : ByteArray), .bool false, .int .i64 0, .int .i64 0, .int .i64 0, .int .i64 0, .slice none 0 0, .int .i64 0, .int .i64 0, .int .i64 0, .int .i64 0, .slice none 0 0, .int .i64 0, .int .i64 0, .int .i64 0, .int .i64 0] 50) = V at E3 E4 HB ⊢
  refine rf96 p a w.heap.size (w.heap.size + 1) w.heap.size _ _ _ _ _ _ _ _ V _ E3.out E4.out (by omega) (Nat.le_succ _) ?_
  intro g w1 t5 t6 t7 t8 t9 t10 h4 hg hb
  have H4 := Lib.hid h4
  have HG := Lib.hid hg
  have HBB := Lib.hid (HB.out.trans hb)
  clear h4 hg hb
  go_wp2
  refine bodyPost_ret (results_cell_row rfl _ _ (w.heap.size + 1) 50 _ (0, 0) _ rfl H4.out Tryd.underlying50 rfl (by kernel_rfl)) rfl ?_
  exact ⟨g, rfl, HG.out, HBB.out⟩
end Go.Proofs.YtmndeoncbocplaaDoor.C
end
section
set_option linter.unusedVariables false
set_option linter.unusedSimpArgs false
namespace Go.Proofs.YtmndeoncbocplaaDoor.C
open Go.RowKit Go.Proofs.YtmndeoncbocplaaDoor.Q Go.Proofs.YtmndeoncbocplaaDoorW.PrintWords Go.Proofs.YtmndeoncbocplaaDoorW.PrintLast Go.Proofs.YtmndeoncbocplaaDoorW.PrintMore
attribute [local go_sem ↓] rd_at50 wr_at50 al_at50
attribute [local go_sem] rd50_new wr50_new al50
def DirR (G : List Nat) (p : S50) (cs : List Value) : Prop := ∃ g ∈ G, ∃ q a, p = dirN q a ∧ cs = [.string q, .bool true, .int .i64 a.f0, .int .i64 a.f1, .int .i64 a.f2, .int .i64 a.f3, .slice (some ⟨g, 0, none⟩) 1 1, .int .i64 0, .int .i64 0, .int .i64 0, .int .i64 0, .slice none 0 0, .int .i64 0, .int .i64 0, .int .i64 3, .int .i64 255]
theorem dirR_mono {G G' : List Nat} (h : ∀ x ∈ G, x ∈ G') {p : S50} {cs : List Value} (hr : DirR G p cs) : DirR G' p cs := by
  obtain ⟨g, hg, q, a, h1, h2⟩ := hr
  exact ⟨g, h g hg, q, a, h1, h2⟩
theorem own_ty {α : Type} {R : α → List Value → Prop} {e : TypeId} {size base : Nat} {w : World} {v : Value} {xs : List α} (h : OwnRow R e size w base v xs) : ∀ k, v.ownBlock = some k → ∃ cells, w.heap[k]? = some (.cells cells e (0, 0)) := by
  intro k hk
  obtain ⟨inner, ho, _⟩ := h
  rcases ho.2 with ⟨e1, _⟩ | ⟨g, cap, cur, e1, _, e2, _⟩
  · rw [e1] at hk; cases hk
  · rw [e1] at hk
    have hk2 : g = k := by simpa [Value.ownBlock] using hk
    exact ⟨cur, by rw [← hk2]; exact e2⟩
theorem own_ne {α β : Type} {R1 : α → List Value → Prop} {R2 : β → List Value → Prop} {e1 e2 : TypeId} {s1 s2 b1 b2 : Nat} {w : World} {v1 v2 : Value} {xs : List α} {ys : List β} (h1 : OwnRow R1 e1 s1 w b1 v1 xs) (h2 : OwnRow R2 e2 s2 w b2 v2 ys) (he : e1 ≠ e2) : v1.ownBlock = none ∨ v1.ownBlock ≠ v2.ownBlock := by
  cases hk : v1.ownBlock with
  | none => exact Or.inl rfl
  | some k =>
    refine Or.inr fun e => ?_
    obtain ⟨c1, q1⟩ := own_ty h1 k hk
    obtain ⟨c2, q2⟩ := own_ty h2 k e.symm
    rw [q1] at q2
    injection q2 with q2
    injection q2 with _ q3
    exact he q3
theorem itoa_s (n : Nat) (hn : n < 10) (w : World) (s : ByteArray) (hs : (⟨#[UInt8.ofNat (48 + n)]⟩ : ByteArray) = s) : Calls Tryd.prog 98 #[.int .i64 (n : Int)] w fun e w' => e = .returned (.string s) ∧ Below w.heap.size w w' := by
  rw [← hs]
  exact itoa_c n hn w
set_option maxHeartbeats 4000000 in
set_option maxRecDepth 100000 in
theorem rf8 (Ao A5 : Option Addr) (co c5 m g7 B : Nat) (hm : m < 10) (nm s1 s2 : ByteArray) (a : S41) (G : List Nat) (xs : List S50) (hxs : xs.length ≤ 1000) (u0 u1 u2 u6 u8 u9 u10 u11 u12 u13 u14 u15 u16 u17 u18 u19 u20 u21 u22 u23 u24 u25 u26 u27 u28 u29 u30 u31 u32 u33 u34 u35 u36 u37 u38 u39 : Value) (w0 W : World) (Q : Exit → Act → World → Prop)
    (h7 : W.heap[g7]? = some (.cells #[.int .i64 a.f0, .int .i64 a.f1, .int .i64 a.f2, .int .i64 a.f3] 41 (0, 0)))
    (hnm : (⟨#[UInt8.ofNat (48 + m)]⟩ : ByteArray) = nm) (hsz : nm.size = 1) (hcat : (⟨#[108]⟩ : ByteArray) ++ nm = s1) (hJ : path_Join.f ⟨#[47]⟩ s1 = some s2)
    (hO : OwnRow (DirR G) 50 16 W B (.slice Ao xs.length co) xs) (hB0 : Below B w0 W) (hbase : B ≤ W.heap.size)
    (hpost : ∀ (v4 : Value) (gs : Nat) (w' : World) (t23 t24 t25 t26 t27 t28 t29 t30 t31 t32 t33 : Value), OwnRow (DirR (gs :: G)) 50 16 w' B v4 (xs ++ [dirN s2 a]) → w'.heap[gs]? = some (.cells #[.string (⟨#[42]⟩ : ByteArray), .int .i64 7] 96) → Below B w0 w' → (∀ k, k < W.heap.size → some k ≠ (Value.slice Ao xs.length co).ownBlock → w'.heap[k]? = W.heap[k]?) → W.heap.size ≤ w'.heap.size → Q .normal ⟨#[u0, u1, u2, .func (.func 96) #[] #[], v4, .slice A5 m c5, u6, .pointer (some ⟨g7, 0, none⟩), u8, u9, u10, u11, u12, u13, u14, u15, u16, u17, u18, u19, u20, u21, u22, t23, t24, t25, t26, t27, t28, t29, t30, t31, t32, t33, u34, u35, u36, u37, u38, u39], []⟩ w') :
    Code.wp Tryd.prog (cReg Tryd.f77 8) Q ⟨#[u0, u1, u2, .func (.func 96) #[] #[], .slice Ao xs.length co, .slice A5 m c5, u6, .pointer (some ⟨g7, 0, none⟩), u8, u9, u10, u11, u12, u13, u14, u15, u16, u17, u18, u19, u20, u21, u22, u23, u24, u25, u26, u27, u28, u29, u30, u31, u32, u33, u34, u35, u36, u37, u38, u39], []⟩ W := by
  have E7 := Lib.hid h7
  have hg7 := blk_lt h7
  have HO := Lib.hid hO
  have HB0 := Lib.hid hB0
  have HB := Lib.hid (Below.refl W.heap.size W)
  have HNM := Lib.hid hnm
  have HJN := Lib.hid hJ
  have HPO := Lib.hid hpost
  have ka0 := (blk_cell E7.out 0).trans rfl
  have ka1 := (blk_cell E7.out 1).trans rfl
  have ka2 := (blk_cell E7.out 2).trans rfl
  have ka3 := (blk_cell E7.out 3).trans rfl
  clear h7 hO hB0 hnm hJ hpost
  conv => arg 2; whnf
  refine wp_region_noPanic ?_
  go_region_held_law (fun W1 => W1.cell? ⟨g7, 0, none⟩ = some (.int .i64 a.f0) ∧ W1.cell? ⟨g7, 1, none⟩ = some (.int .i64 a.f1) ∧ W1.cell? ⟨g7, 2, none⟩ = some (.int .i64 a.f2) ∧ W1.cell? ⟨g7, 3, none⟩ = some (.int .i64 a.f3)) (go_keep)
    (first | (go_at_call 98; (refine (itoa_s m hm _ nm HNM.out).mono ?_; rintro e w6 ⟨rfl, hb⟩; have HB := Lib.hid (below_step (show Below W.heap.size W _ by repeat (first | exact HB.out | exact Below.refl _ _ | apply below_drew1)) hb); have ka0 := (blk_cell (blk_below E7.out HB.out) 0).trans rfl; have ka1 := (blk_cell (blk_below E7.out HB.out) 1).trans rfl; have ka2 := (blk_cell (blk_below E7.out HB.out) 2).trans rfl; have ka3 := (blk_cell (blk_below E7.out HB.out) 3).trans rfl; clear hb)) | (go_at_call 73; (refine (path_Join.calls ⟨#[47]⟩ s1 s2 _ HJN.out).mono ?_; rintro e w7 ⟨rfl, hd⟩; have hb := hd.below; have HB := Lib.hid (below_step (show Below W.heap.size W _ by repeat (first | exact HB.out | exact Below.refl _ _ | apply below_drew1)) hb); have ka0 := (blk_cell (blk_below E7.out HB.out) 0).trans rfl; have ka1 := (blk_cell (blk_below E7.out HB.out) 1).trans rfl; have ka2 := (blk_cell (blk_below E7.out HB.out) 2).trans rfl; have ka3 := (blk_cell (blk_below E7.out HB.out) 3).trans rfl; clear hb)) | (go_at_call 96; (refine (dir_c s2 a _).mono ?_; rintro e w8 ⟨gs, rfl, hs, hb⟩; have HST := Lib.hid hs; have HB := Lib.hid (below_step (show Below W.heap.size W _ by repeat (first | exact HB.out | exact Below.refl _ _ | apply below_drew1)) hb); have ka0 := (blk_cell (blk_below E7.out HB.out) 0).trans rfl; have ka1 := (blk_cell (blk_below E7.out HB.out) 1).trans rfl; have ka2 := (blk_cell (blk_below E7.out HB.out) 2).trans rfl; have ka3 := (blk_cell (blk_below E7.out HB.out) 3).trans rfl; have HOx := Lib.hid (OwnRow.below (OwnRow.imp_ HO.out (fun p c h => dirR_mono (G' := gs :: G) (fun x hx => List.mem_cons_of_mem _ hx) h)) HB.out); clear hb)) | ((refine OwnRow.append_step B (by rfl) _ _ 42 50 (.agg #[.string (⟨#[]⟩ : ByteArray), .bool false, .int .i64 0, .int .i64 0, .int .i64 0, .int .i64 0, .slice none 0 0, .int .i64 0, .int .i64 0, .int .i64 0, .int .i64 0, .slice none 0 0, .int .i64 0, .int .i64 0, .int .i64 0, .int .i64 0]) 16 168 (by rfl) Tryd.underlying42 inf50 rfl (by decide) (by decide) (.slice Ao xs.length co) xs (dirN s2 a) [.string s2, .bool true, .int .i64 a.f0, .int .i64 a.f1, .int .i64 a.f2, .int .i64 a.f3, .slice (some ⟨gs, 0, none⟩) 1 1, .int .i64 0, .int .i64 0, .int .i64 0, .int .i64 0, .slice none 0 0, .int .i64 0, .int .i64 0, .int .i64 3, .int .i64 255] (by rfl) (by first | rfl | (simp only [World.size_alloc]; rfl)) ⟨gs, List.mem_cons_self, s2, a, rfl, rfl⟩ rfl (by simp [Value.oneCell']) HOx.out (below_then HB0.out hbase HB.out) (Nat.le_trans hbase (below_size HB.out)) (by omega) ?_; intro v4 w4 hO4 hB4 hg4 hat4; have HO4 := Lib.hid hO4; have HB4 := Lib.hid hB4; have HG4 := Lib.hid hg4; have E4x := Lib.hid ((hg4.block g7 (blk_lt (blk_below E7.out HB.out)) (OwnRow.ne_block HOx.out (blk_below E7.out HB.out) (by decide))).trans (blk_below E7.out HB.out)); have HS4 := Lib.hid ((hg4.block gs (blk_lt HST.out) (OwnRow.ne_block HOx.out HST.out (by decide))).trans HST.out); have ka0 := (blk_cell E4x.out 0).trans rfl; have ka1 := (blk_cell E4x.out 1).trans rfl; have ka2 := (blk_cell E4x.out 2).trans rfl; have ka3 := (blk_cell E4x.out 3).trans rfl; clear hO4 hB4 hg4 hat4)))
  all_goals refine NoPanic.normal ?_
  all_goals exact HPO.out v4 gs w4 _ _ _ _ _ _ _ _ _ _ _ HO4.out HS4.out HB4.out (fun k hk hne => (HG4.out.block k (Nat.lt_of_lt_of_le hk (below_size HB.out)) hne).trans (HB.out.block k hk)) (Nat.le_trans (below_size HB.out) HG4.out.size)
end Go.Proofs.YtmndeoncbocplaaDoor.C
end
section
set_option linter.unusedVariables false
set_option linter.unusedSimpArgs false
namespace Go.Proofs.YtmndeoncbocplaaDoor.C
open Go.RowKit Go.Proofs.YtmndeoncbocplaaDoor.Q Go.Proofs.YtmndeoncbocplaaDoorW.PrintWords Go.Proofs.YtmndeoncbocplaaDoorW.PrintLast Go.Proofs.YtmndeoncbocplaaDoorW.PrintMore
attribute [local go_sem ↓] rd_at50 wr_at50 al_at50
attribute [local go_sem] rd50_new wr50_new al50
def xs3 : List S41 := [botS, botS, labK]
def sn : Nat → List S41
  | 0 => []
  | 1 => [botS]
  | 2 => [botS]
  | _ => [botS, labK]
theorem sn_step (i : Nat) (hi : i < 3) : ∃ (a : S41) (r : Bool), rd_T41 xs3 (i : Int) = a ∧ api_Label_97.f 10 (sn i) a.f0 a.f1 a.f2 a.f3 = some r ∧ (r = true → sn (i + 1) = sn i) ∧ (r = false → sn (i + 1) = sn i ++ [a]) ∧ (sn i).length ≤ 2 := by
  rcases (show i = 0 ∨ i = 1 ∨ i = 2 by omega) with rfl | rfl | rfl
  · exact ⟨botS, false, rfl, rfl, (fun h => by cases h), (fun _ => rfl), by decide⟩
  · exact ⟨botS, true, rfl, rfl, (fun _ => rfl), (fun h => by cases h), by decide⟩
  · exact ⟨labK, false, rfl, by decide +kernel, (fun h => by cases h), (fun _ => rfl), by decide⟩
theorem cat_l (m : Nat) : (⟨#[108]⟩ : ByteArray) ++ (⟨#[UInt8.ofNat (48 + m)]⟩ : ByteArray) = ⟨[108, UInt8.ofNat (48 + m)].toArray⟩ := L.bytes_ext (by rw [P.append_data]; rfl)
theorem join_l (m : Nat) (hm : m < 10) : path_Join.f ⟨#[47]⟩ ((⟨#[108]⟩ : ByteArray) ++ (⟨#[UInt8.ofNat (48 + m)]⟩ : ByteArray)) = some (l0 m) := by
  rw [cat_l, l0_pth ⟨m, hm⟩]
  exact join_f [] [108, UInt8.ofNat (48 + m)] (by simp) (by decide) (by simp)
theorem own_carry {α : Type} {R : α → List Value → Prop} {e : TypeId} {size base : Nat} {w w1 : World} {v : Value} {xs : List α} (h : OwnRow R e size w base v xs) (hk : ∀ k, v.ownBlock = some k → w1.heap[k]? = w.heap[k]?) : OwnRow R e size w1 base v xs := by
  obtain ⟨inner, ho, hr⟩ := h
  exact ⟨inner, own_move ho hk, hr⟩
set_option maxHeartbeats 4000000 in
set_option maxRecDepth 100000 in
theorem pfirst_c (A : Option Addr) (c : Nat) (v1 v2 : Value) (w : World) (hC : Kd.C k41 w A 3 xs3) (hc : 3 ≤ c) :
    Calls Tryd.prog 77 #[.agg #[.slice A 3 c, v1, v2]] w fun e w' => ∃ A2 c2, e = .returned (.slice A2 3 c2) ∧ 3 ≤ c2 ∧ Kd.C k50 w' A2 3 (firstT [botS, labK]) ∧ Below w.heap.size w w' := by
  have HC := Lib.hid hC
  clear hC
  have F0 := Lib.hid (blk_new w (.cells #[.slice A 3 c, v1, v2] 91))
  have HB0 := Lib.hid (below_alloc (Below.refl w.heap.size w) (.cells #[.slice A 3 c, v1, v2] 91))
  go_enter Tryd.func77, Tryd.ntmps77
  go_wp2_with (first | (go_at_call 96; refine (dir_c ⟨#[47]⟩ botS _).mono ?_; rintro e w2 ⟨gs, rfl, hs, hb⟩; have HB2 := Lib.hid (below_step HB1.out hb); have F2 := Lib.hid (blk_below F1.out hb); have HST := Lib.hid hs; have c0 := (blk_cell (blk_alloc F2.out (.cells #[.string (⟨#[47]⟩ : ByteArray), .bool true, .int .i64 botS.f0, .int .i64 botS.f1, .int .i64 botS.f2, .int .i64 botS.f3, .slice (some ⟨gs, 0, none⟩) 1 1, .int .i64 0, .int .i64 0, .int .i64 0, .int .i64 0, .slice none 0 0, .int .i64 0, .int .i64 0, .int .i64 3, .int .i64 255] 50)) 0).trans rfl; clear hb hs) | (go_at_call 80; refine (label_Bottom.calls 0 0 3 255 _ rfl).mono ?_; rintro e w1 ⟨rfl, hb⟩; have HB1 := Lib.hid (below_step HB0.out hb); have F1 := Lib.hid (blk_below F0.out hb); clear hb))
  go_loopg [4, 5, 15] 3 (fun k s4 s5 s15 wr => ∃ (i : Nat) (G : List Nat), i ≤ 3 ∧ 3 - i ≤ k ∧ s15 = .int .i64 i ∧ Hid (∀ g ∈ G, wr.heap[g]? = some (.cells #[.string (⟨#[42]⟩ : ByteArray), .int .i64 7] 96)) ∧ Hid (OwnRow (DirR G) 50 16 wr w2.heap.size s4 (firstT (sn i))) ∧ Hid (OwnRow (k41.K w) 41 4 wr w2.heap.size s5 (sn i)) ∧ Hid (Below w2.heap.size w2 wr))
  case atStart => exact ⟨0, [gs], Nat.zero_le _, Nat.le_refl _, rfl, Lib.hid (fun g hg => by rw [List.mem_singleton.1 hg]; exact blk_alloc HST.out _), Lib.hid (OwnRow.lit w2 w2.heap.size (reps_single (R := DirR [gs]) ⟨gs, List.mem_cons_self, ⟨#[47]⟩, botS, rfl, rfl⟩ rfl) (Nat.le_refl _) (by decide)), Lib.hid (OwnRow.none_ _ _ _ _ _), Lib.hid (below_alloc (Below.refl _ _) _)⟩
  case round =>
    obtain ⟨i, G, hi, hik, rfl, HS, HO, HO5, HB⟩ := hrel
    obtain ⟨V0, hV⟩ : ∃ V, V = wr := ⟨_, rfl⟩
    subst hV
    by_cases hlt : i < 3
    · obtain ⟨a, r, ha, hf, hr1, hr2, hml⟩ := sn_step i hlt
      obtain ⟨ad, hA, g0, g1, g2, g3⟩ := at_T41 (Kd.C_below HC.out (below_step HB2.out HB.out)) (i : Int) (by omega) (by omega)
      subst hA
      rw [ha] at g0 g1 g2 g3
      simp only [Int.toNat_natCast] at g0 g1 g2 g3
      have HF := Lib.hid hf
      have HR1 := Lib.hid hr1
      have HR2 := Lib.hid hr2
      obtain ⟨ls, hls⟩ : ∃ l, sn i = l := ⟨_, rfl⟩
      obtain ⟨ls2, hls2⟩ : ∃ l, sn (i + 1) = l := ⟨_, rfl⟩
      rw [hls] at HO HO5 HF HR1 HR2 hml
      rw [hls2] at HR1 HR2
      have HLS2 := Lib.hid hls2
      clear hf hr1 hr2 ha hls hls2
      obtain ⟨A5, c5, e5, hc5, hR5⟩ := OwnRow.reads HO5.out
      obtain ⟨Ao, co, eo, hco, _⟩ := OwnRow.reads HO.out
      subst e5
      subst eo
      have HCT := Lib.hid fun w1 (hb : Below V0.heap.size V0 w1) => api_Label_97.calls 10 A5 c5 ls a.f0 a.f1 a.f2 a.f3 r w1 (Kd.C_below (C41_of hR5) hb) hc5 HF.out
      have HJ := Lib.hid (below_alloc (Below.refl V0.heap.size V0) (.cells #[.int .i64 a.f0, .int .i64 a.f1, .int .i64 a.f2, .int .i64 a.f3] 41))
      have HCT := Lib.hid (HCT.out _ HJ.out)
      have E7 := Lib.hid (blk_new V0 (.cells #[.int .i64 a.f0, .int .i64 a.f1, .int .i64 a.f2, .int .i64 a.f3] 41))
      have l0' := (blk_cell E7.out 0).trans rfl
      have l1' := (blk_cell E7.out 1).trans rfl
      have l2' := (blk_cell E7.out 2).trans rfl
      have l3' := (blk_cell E7.out 3).trans rfl
      have HLen := Lib.hid (firstT_len ls)
      clear hR5
      cases r with
      | true =>
        have HQ := Lib.hid (HR1.out rfl)
        go_wp2_with (go_at_call 97; refine HCT.out.mono ?_; rintro e w3 ⟨rfl, hb⟩; have HJ := Lib.hid (below_step HJ.out hb); clear hb)
        go_roundg (3 - (i + 1))
        case measure => omega
        case rel => exact ⟨i + 1, G, hlt, Nat.le_refl _, by go_num, Lib.hid (fun g hg => blk_below (HS.out g hg) HJ.out), Lib.hid (by rw [HLS2.out, HQ.out]; exact OwnRow.below HO.out HJ.out), Lib.hid (by rw [HLS2.out, HQ.out]; exact OwnRow.below HO5.out HJ.out), Lib.hid (below_step HB.out HJ.out)⟩
      | false =>
        have HQ := Lib.hid (HR2.out rfl)
        go_wp2_with (go_at_call 97; refine HCT.out.mono ?_; rintro e w3 ⟨rfl, hb⟩; have HJ := Lib.hid (below_step HJ.out hb); have E7 := Lib.hid (blk_below E7.out hb); clear hb)
        refine rf8 Ao A5 co c5 ls.length V0.heap.size w2.heap.size (by omega) _ _ (l0 ls.length) a G (firstT ls) (by have := HLen.out; omega) _ _ _ _ _ _ _ _ _ _ _ _ _ _ _ _ _ _ _ _ _ _ _ _ _ _ _ _ _ _ _ _ _ _ _ _ w2 w3 _ E7.out rfl rfl rfl (join_l ls.length (by omega)) (OwnRow.below HO.out HJ.out) (below_step HB.out HJ.out) (below_size (below_step HB.out HJ.out)) ?_
        intro v4 gn w5 t23 t24 t25 t26 t27 t28 t29 t30 t31 t32 t33 hO4 hS4 hB4 hK4 hz4
        have h41 := OwnRow.below HO5.out HJ.out
        have h50 := OwnRow.below HO.out HJ.out
        have HO5' := Lib.hid (own_carry h41 (fun k hk => hK4 k (by obtain ⟨cs, hq⟩ := own_ty h41 k hk; exact blk_lt hq) (fun e => (own_ne h41 h50 (by decide)).elim (fun e2 => by rw [hk] at e2; cases e2) (fun e2 => e2 (hk.trans e)))))
        have E7' := Lib.hid ((hK4 V0.heap.size (blk_lt E7.out) (OwnRow.ne_block h50 E7.out (by decide))).trans E7.out)
        have HSN := Lib.hid (show ∀ g ∈ gn :: G, w5.heap[g]? = some (.cells #[.string (⟨#[42]⟩ : ByteArray), .int .i64 7] 96) from fun g hg => by
          rcases List.mem_cons.1 hg with rfl | hg
          · exact hS4
          · have hs := blk_below (HS.out g hg) HJ.out
            exact (hK4 g (blk_lt hs) (OwnRow.ne_block h50 hs (by decide))).trans hs)
        have HO4 := Lib.hid hO4
        have HB4 := Lib.hid hB4
        have HL4 := Lib.hid (show ls.length ≤ 2 from hml)
        have q0' := (blk_cell E7'.out 0).trans rfl
        have q1' := (blk_cell E7'.out 1).trans rfl
        have q2' := (blk_cell E7'.out 2).trans rfl
        have q3' := (blk_cell E7'.out 3).trans rfl
        clear h41 h50 hO4 hS4 hB4 hK4 hz4
        go_wp2_with (at_builtin; refine OwnRow.append w2.heap.size rfl _ _ 38 41 (.agg #[.int .i64 0, .int .i64 0, .int .i64 0, .int .i64 0]) 4 32 rfl Tryd.underlying38 inf41 rfl (by decide) (by decide) (.slice A5 ls.length c5) ls a [.int .i64 a.f0, .int .i64 a.f1, .int .i64 a.f2, .int .i64 a.f3] rfl rfl (k41_mk w a) rfl (by simp [Value.oneCell']) HO5'.out HB4.out (below_size HB4.out) (by have := HL4.out; omega) ?_; intro v5 w6 hO hB hg hat; have HO51 := Lib.hid hO; have HB51 := Lib.hid hB; have HG51 := Lib.hid hg; clear hO hB hg hat)
        go_roundg (3 - (i + 1))
        case measure => omega
        case rel => exact ⟨i + 1, gn :: G, hlt, Nat.le_refl _, by go_num, Lib.hid (fun g hg => (HG51.out.block g (blk_lt (HSN.out g hg)) (OwnRow.ne_block HO5'.out (HSN.out g hg) (by decide))).trans (HSN.out g hg)), Lib.hid (by rw [HLS2.out, HQ.out, firstT_snoc]; exact OwnRow.other HO4.out HG51.out (own_ne HO4.out HO5'.out (by decide))), Lib.hid (by rw [HLS2.out, HQ.out]; exact HO51.out), HB51⟩
    · obtain rfl : i = 3 := by omega
      obtain ⟨Ao, co, eo, hco, hR⟩ := OwnRow.reads (OwnRow.imp_ (R' := k50.K V0) HO.out (fun p cs h => by
        obtain ⟨g, hg, q, a, rfl, rfl⟩ := h
        exact dir_K (HS.out g hg) q a))
      subst eo
      have HCR := Lib.hid (show Kd.C k50 V0 Ao (firstT (sn 3)).length (firstT (sn 3)) from C50_of hR (Below.refl _ _))
      go_wp2
      go_ret
      exact ⟨Ao, co, rfl, hco, HCR.out, below_step HB2.out HB.out⟩
end Go.Proofs.YtmndeoncbocplaaDoor.C
end
section
set_option linter.unusedVariables false
set_option linter.unusedSimpArgs false
namespace Go.Proofs.YtmndeoncbocplaaDoor.C
open Go.RowKit Go.Proofs.YtmndeoncbocplaaDoor.Q Go.Proofs.YtmndeoncbocplaaDoorW.PrintWords Go.Proofs.YtmndeoncbocplaaDoorW.PrintLast Go.Proofs.YtmndeoncbocplaaDoorW.PrintMore
attribute [local go_sem ↓] rd_at50 wr_at50 al_at50
attribute [local go_sem] rd50_new wr50_new al50
theorem row_three {w : World} : Kd.C k41 (w.alloc (.cells #[.int .i64 0, .int .i64 0, .int .i64 3, .int .i64 255, .int .i64 0, .int .i64 0, .int .i64 3, .int .i64 255, .int .i64 1, .int .i64 0, .int .i64 3, .int .i64 255] 41)) (some ⟨w.heap.size, 0, none⟩) 3 xs3 := by
  refine ⟨rfl, by decide, fun _ => ⟨_, rfl, fun j q hj => ?_⟩⟩
  have hb := blk_new w (.cells #[.int .i64 0, .int .i64 0, .int .i64 3, .int .i64 255, .int .i64 0, .int .i64 0, .int .i64 3, .int .i64 255, .int .i64 1, .int .i64 0, .int .i64 3, .int .i64 255] 41)
  have hj3 : j < 3 := (List.getElem?_eq_some_iff.1 hj).1
  have key : ∀ (k : Nat) (v : Value), (#[.int .i64 0, .int .i64 0, .int .i64 3, .int .i64 255, .int .i64 0, .int .i64 0, .int .i64 3, .int .i64 255, .int .i64 1, .int .i64 0, .int .i64 3, .int .i64 255] : Array Value)[k]? = some v → (w.alloc (.cells #[.int .i64 0, .int .i64 0, .int .i64 3, .int .i64 255, .int .i64 0, .int .i64 0, .int .i64 3, .int .i64 255, .int .i64 1, .int .i64 0, .int .i64 3, .int .i64 255] 41)).cell? ((⟨w.heap.size, 0, none⟩ : Addr).add k) = some v := fun k v hv => by
    rw [add_plain]
    exact (blk_cell hb k).trans hv
  refine ⟨[.int .i64 q.f0, .int .i64 q.f1, .int .i64 q.f2, .int .i64 q.f3], rfl, k41_mk _ q, fun i u hu => key (j * 4 + i) u ?_⟩
  rcases (show j = 0 ∨ j = 1 ∨ j = 2 by omega) with rfl | rfl | rfl
  all_goals
    obtain rfl : q = _ := (Option.some.inj hj).symm
    rcases i with _ | _ | _ | _ | i
    · exact hu
    · exact hu
    · exact hu
    · exact hu
    · simp at hu
set_option maxHeartbeats 2000000 in
set_option maxRecDepth 100000 in
theorem known11_c (w : World) : Calls Tryd.prog 48 #[] w fun e w' => e = .returned (.bool true) ∧ Below w.heap.size w w' := by
  have HC := Lib.hid (row_three (w := w))
  have HB0 := Lib.hid (below_alloc (Below.refl w.heap.size w) (.cells #[.int .i64 0, .int .i64 0, .int .i64 3, .int .i64 255, .int .i64 0, .int .i64 0, .int .i64 3, .int .i64 255, .int .i64 1, .int .i64 0, .int .i64 3, .int .i64 255] 41))
  obtain ⟨ts, hts⟩ : ∃ t, firstT [botS, labK] = t := ⟨_, rfl⟩
  have HF := Lib.hid fun w1 (hb : Below (w.alloc (.cells #[.int .i64 0, .int .i64 0, .int .i64 3, .int .i64 255, .int .i64 0, .int .i64 0, .int .i64 3, .int .i64 255, .int .i64 1, .int .i64 0, .int .i64 3, .int .i64 255] 41)).heap.size (w.alloc (.cells #[.int .i64 0, .int .i64 0, .int .i64 3, .int .i64 255, .int .i64 0, .int .i64 0, .int .i64 3, .int .i64 255, .int .i64 1, .int .i64 0, .int .i64 3, .int .i64 255] 41)) w1) => pfirst_c (some ⟨w.heap.size, 0, none⟩) 3 (.slice none 0 0) (.slice none 0 0) w1 (Kd.C_below HC.out hb) (by decide)
  have h0 : (rd_T50 (firstT [botS, labK]) 0).f0 = ⟨#[47]⟩ := rfl
  have h1 : (rd_T50 (firstT [botS, labK]) 1).f0 = ⟨#[47, 108, 48]⟩ := rfl
  have h2 : (rd_T50 (firstT [botS, labK]) 2).f0 = ⟨#[47, 108, 49]⟩ := rfl
  have h3 : (rd_T50 (firstT [botS, labK]) 2).f2.f0 = 1 := rfl
  have H0 := Lib.hid h0
  have H1 := Lib.hid h1
  have H2 := Lib.hid h2
  have H3 := Lib.hid h3
  rw [hts] at HF H0 H1 H2 H3
  clear hts h0 h1 h2 h3
  go_enter Tryd.func48, Tryd.ntmps48
  go_wp2_with (go_at_call 77; refine (HF.out _ (Below.refl _ _)).mono ?_; rintro e w1 ⟨A2, c2, rfl, hc2, hC2, hb⟩; obtain ⟨ad, A6, c6, A11, c11, e1, k0, _⟩ := at_T50 hC2 0 (by omega) (by omega); subst e1; obtain ⟨ad2, B6, d6, B11, d11, e2, k1, _⟩ := at_T50 hC2 1 (by omega) (by omega); obtain rfl := Option.some.inj e2; obtain ⟨ad3, C6, f6, C11, f11, e3, k2, _, k3, _⟩ := at_T50 hC2 2 (by omega) (by omega); obtain rfl := Option.some.inj e3; rw [H0.out] at k0; rw [H1.out] at k1; rw [H2.out] at k2; rw [H3.out] at k3; have HB1 := Lib.hid (below_step HB0.out hb); have k0 : w1.cell? ad = some (.string ⟨#[47]⟩) := k0; have k1 : w1.cell? ⟨ad.block, ad.off + 16, none⟩ = some (.string ⟨#[47, 108, 48]⟩) := k1; have k2 : w1.cell? ⟨ad.block, ad.off + 32, none⟩ = some (.string ⟨#[47, 108, 49]⟩) := k2; have k3 : w1.cell? ⟨ad.block, ad.off + 32 + 2, none⟩ = some (.int .i64 1) := k3; have k4 : w1.cell? ⟨ad.block, ad.off + 34, none⟩ = some (.int .i64 1) := k3; clear hb hC2 e2 e3)
  go_ret
  exact ⟨rfl, HB1.out⟩
end Go.Proofs.YtmndeoncbocplaaDoor.C
end
