/- Texts that the claim's law stands on, cut down to what it reaches. -/
import Derived.Test.YteilkbookcmndaaGreatDoorGY6
import Derived.Recover
import Derived.Defers
import Derived.Deep.RegionHeldLaw
import Derived.Deep.RegionHeld3
import Derived.Deep.LoopGhost
set_option linter.unusedVariables false
set_option linter.unusedSimpArgs false
section
set_option linter.unusedVariables false
set_option linter.unusedSimpArgs false
namespace Go.Proofs.YteilkbookcmndaaGreatDoor.C
open Go.RowKit Go.Proofs.YteilkbookcmndaaGreatDoor.Q Go.Proofs.YteilkbookcmndaaGreatDoorW.PrintWords Go.Proofs.YteilkbookcmndaaGreatDoorW.PrintLast Go.Proofs.YteilkbookcmndaaGreatDoorW.PrintMore
attribute [local go_sem ↓] rd_at50 wr_at50 al_at50
attribute [local go_sem] rd50_new wr50_new al50
attribute [local go_sem ↓] rd_at45 wr_at45 rd_at150 wr_at150 rd_at47b wr_at47b rd_at77 wr_at77 rd_at41p wr_at41p
attribute [local go_sem] rd45_new wr45_new rd150_new wr150_new rd47b_new wr47b_new
attribute [local go_sem] max2_mx max_two
/-- A region that ends by a panic, whatever its frame. -/
def PanicOnly (ps : List PanicEntry) (B : World → Prop) : Exit → Act → World → Prop
  | .panic c, a, w => c = ps ∧ a.defers = [] ∧ B w
  | _, _, _ => False
theorem wp_region_panic {P : Program} {id : Nat} {ops : Array Oper} {b : Bool} {Q : Exit → Act → World → Prop} {a : Act} {w : World} (ps : List PanicEntry) (B : World → Prop) (hpost : ∀ (a' : Act) (w' : World), a'.defers = [] → B w' → Q (.panic ps) a' w') (h : (Code.region id ops b).wp P (PanicOnly ps B) a w) : (Code.region id ops b).wp P Q a w :=
  Code.wp_mono (fun e a' w' h => by
    cases e with
    | panic c => obtain ⟨rfl, hd, hb⟩ := h; exact hpost _ _ hd hb
    | _ => exact h.elim) h
set_option maxHeartbeats 16000000 in
set_option maxRecDepth 1000000 in
theorem at2n (gm gi g4 g7 : Nat) (op pk nn ps po pr off x : Int) (gr : Nat) (s0 s1 s2 s3 s4 s5 s6 s7 s8 s9 s10 s11 s12 s13 s14 s15 : Int) (sA : Option Addr) (sn sc : Nat) (hl tb : Bool) (ov : Int) (u1 u2 u5 u6 u8 u9 u10 u11 u12 u13 u14 u15 u16 u17 u18 u19 u20 u21 u22 u23 u24 u25 u26 u27 u28 u29 u30 u31 u32 : Value) (W : World) (Q : Exit → Act → World → Prop)
    (hr : W.heap[gr]? = some (.cells #[.int .i64 s0, .int .i64 s1, .int .i64 s2, .int .i64 s3, .int .i64 s4, .int .i64 s5, .int .i64 s6, .int .i64 s7, .int .i64 s8, .int .i64 s9, .int .i64 s10, .int .i64 s11, .int .i64 s12, .int .i64 s13, .int .i64 s14, .int .i64 s15, .slice sA sn sc, .bool hl, .iface 103 (.pointer (some ⟨gm, 0, none⟩)), .bool tb, .int .i64 ov] 134 (0, 0))) (hi : W.heap[gi]? = some (.cells #[.int .i64 op, .int .i64 pk, .int .i64 nn] 77 (0, 0))) (h7 : W.heap[g7]? = some (.cells #[.int .i64 ps, .int .i64 po, .int .i64 pr] 41 (0, 0)))
    (hoff : IntKind.i64.wrap (po + nn) = off)
    (hS : Calls Tryz.prog 85 #[.pointer (some ⟨gr, 0, none⟩), .int .i64 ps] W.drew fun e w' => e = .panicked [{ v := .iface 48 (.int .i64 x), recovered := false }] ∧ Below W.heap.size W.drew w')
    (hpost : ∀ (a : Act) (w' : World), a.defers = [] → Below W.heap.size W w' → Q (.panic [{ v := .iface 48 (.int .i64 x), recovered := false }]) a w') :
    Code.wp Tryz.prog (cReg Tryz.f97 2) Q ⟨#[.pointer (some ⟨gr, 0, none⟩), u1, u2, .pointer (some ⟨gi, 0, none⟩), .pointer (some ⟨g4, 0, none⟩), u5, u6, .pointer (some ⟨g7, 0, none⟩), u8, u9, u10, u11, u12, u13, u14, u15, u16, u17, u18, u19, u20, u21, u22, u23, u24, u25, u26, u27, u28, u29, u30, u31, u32], []⟩ W := by
  have HPO := Lib.hid hpost
  have ER := Lib.hid hr
  have EI := Lib.hid hi
  have E7 := Lib.hid h7
  have HS := Lib.hid hS
  clear hr hi hpost h7 hS
  have HB := Lib.hid (below_drew1 (Below.refl W.heap.size W))
  have ER := Lib.hid (show W.drew.heap[gr]? = _ from ER.out)
  have EI := Lib.hid (show W.drew.heap[gi]? = _ from EI.out)
  have E7 := Lib.hid (show W.drew.heap[g7]? = _ from E7.out)
  conv => arg 2; whnf
  refine wp_region_panic [{ v := .iface 48 (.int .i64 x), recovered := false }] (fun w' => Below W.heap.size W w') HPO.out ?_
  refine wp_region_held_drew (S := fun W1 => W1.cell? ⟨gi, 2, none⟩ = some (.int .i64 nn) ∧ W1.cell? ⟨gr, 2, none⟩ = some (.int .i64 s2) ∧ W1.cell? ⟨g7, 0, none⟩ = some (.int .i64 ps) ∧ W1.cell? ⟨g7, 1, none⟩ = some (.int .i64 po) ∧ W1.cell? ⟨g7, 2, none⟩ = some (.int .i64 pr)) (by kernel_rfl) ?_ (fun hHeld => ?_)
  focus ((try dsimp only); exact ⟨(blk_cell EI.out 2).trans rfl, (blk_cell ER.out 2).trans rfl, (blk_cell E7.out 0).trans rfl, (blk_cell E7.out 1).trans rfl, (blk_cell E7.out 2).trans rfl⟩)
  first
    | (refine take_at 0 16 (v := ?_) rfl rfl (by kernel_rfl) (by kernel_rfl) (by kernel_rfl) (fun _ _ _ h => h) (Or.inl ⟨by rfl, ?_⟩) (by assumption) ?_; rotate_left; focus (intro w hSw; (try dsimp only at hSw); go_simp; try with_reducible rfl))
    | (refine take_at 0 16 (v := undef) rfl rfl (by kernel_rfl) (by kernel_rfl) (by kernel_rfl) (fun _ _ _ h => h) (Or.inr ⟨by rfl, rfl⟩) (by assumption) ?_)
  try simp only [Act.put, List.setIfInBounds_toArray, List.set_cons_zero, List.set_cons_succ]
  first
    | (refine take_at 1 17 (v := ?_) rfl rfl (by kernel_rfl) (by kernel_rfl) (by kernel_rfl) (fun _ _ _ h => h) (Or.inl ⟨by rfl, ?_⟩) (by assumption) ?_; rotate_left; focus (intro w hSw; (try dsimp only at hSw); go_simp; try with_reducible rfl))
    | (refine take_at 1 17 (v := undef) rfl rfl (by kernel_rfl) (by kernel_rfl) (by kernel_rfl) (fun _ _ _ h => h) (Or.inr ⟨by rfl, rfl⟩) (by assumption) ?_)
  try simp only [Act.put, List.setIfInBounds_toArray, List.set_cons_zero, List.set_cons_succ]
  first
    | (refine take_at 2 18 (v := ?_) rfl rfl (by kernel_rfl) (by kernel_rfl) (by kernel_rfl) (fun _ _ _ h => h) (Or.inl ⟨by rfl, ?_⟩) (by assumption) ?_; rotate_left; focus (intro w hSw; (try dsimp only at hSw); go_simp; try with_reducible rfl))
    | (refine take_at 2 18 (v := undef) rfl rfl (by kernel_rfl) (by kernel_rfl) (by kernel_rfl) (fun _ _ _ h => h) (Or.inr ⟨by rfl, rfl⟩) (by assumption) ?_)
  try simp only [Act.put, List.setIfInBounds_toArray, List.set_cons_zero, List.set_cons_succ]
  first
    | (refine take_at 4 20 (v := ?_) rfl rfl (by kernel_rfl) (by kernel_rfl) (by kernel_rfl) (fun _ _ _ h => h) (Or.inl ⟨by rfl, ?_⟩) (by assumption) ?_; rotate_left; focus (intro w hSw; (try dsimp only at hSw); go_simp; try with_reducible rfl))
    | (refine take_at 4 20 (v := undef) rfl rfl (by kernel_rfl) (by kernel_rfl) (by kernel_rfl) (fun _ _ _ h => h) (Or.inr ⟨by rfl, rfl⟩) (by assumption) ?_)
  try simp only [Act.put, List.setIfInBounds_toArray, List.set_cons_zero, List.set_cons_succ]
  first
    | (refine take_at 5 21 (v := ?_) rfl rfl (by kernel_rfl) (by kernel_rfl) (by kernel_rfl) (fun _ _ _ h => h) (Or.inl ⟨by rfl, ?_⟩) (by assumption) ?_; rotate_left; focus (intro w hSw; (try dsimp only at hSw); go_simp; try with_reducible rfl))
    | (refine take_at 5 21 (v := undef) rfl rfl (by kernel_rfl) (by kernel_rfl) (by kernel_rfl) (fun _ _ _ h => h) (Or.inr ⟨by rfl, rfl⟩) (by assumption) ?_)
  try simp only [Act.put, List.setIfInBounds_toArray, List.set_cons_zero, List.set_cons_succ]
  first
    | (refine take_at 6 22 (v := ?_) rfl rfl (by kernel_rfl) (by kernel_rfl) (by kernel_rfl) (fun _ _ _ h => h) (Or.inl ⟨by rfl, ?_⟩) (by assumption) ?_; rotate_left; focus (intro w hSw; (try dsimp only at hSw); go_simp; try with_reducible rfl))
    | (refine take_at 6 22 (v := undef) rfl rfl (by kernel_rfl) (by kernel_rfl) (by kernel_rfl) (fun _ _ _ h => h) (Or.inr ⟨by rfl, rfl⟩) (by assumption) ?_)
  try simp only [Act.put, List.setIfInBounds_toArray, List.set_cons_zero, List.set_cons_succ]
  first
    | (refine take_at 7 23 (v := ?_) rfl rfl (by kernel_rfl) (by kernel_rfl) (by kernel_rfl) (fun _ _ _ h => h) (Or.inl ⟨by rfl, ?_⟩) (by assumption) ?_; rotate_left; focus (intro w hSw; (try dsimp only at hSw); go_simp; try with_reducible rfl))
    | (refine take_at 7 23 (v := undef) rfl rfl (by kernel_rfl) (by kernel_rfl) (by kernel_rfl) (fun _ _ _ h => h) (Or.inr ⟨by rfl, rfl⟩) (by assumption) ?_)
  try simp only [Act.put, List.setIfInBounds_toArray, List.set_cons_zero, List.set_cons_succ]
  first
    | (refine take_at 8 24 (v := ?_) rfl rfl (by kernel_rfl) (by kernel_rfl) (by kernel_rfl) (fun _ _ _ h => h) (Or.inl ⟨by rfl, ?_⟩) (by assumption) ?_; rotate_left; focus (intro w hSw; (try dsimp only at hSw); go_simp; try with_reducible rfl))
    | (refine take_at 8 24 (v := undef) rfl rfl (by kernel_rfl) (by kernel_rfl) (by kernel_rfl) (fun _ _ _ h => h) (Or.inr ⟨by rfl, rfl⟩) (by assumption) ?_)
  try simp only [Act.put, List.setIfInBounds_toArray, List.set_cons_zero, List.set_cons_succ]
  first
    | (refine take_at 9 25 (v := ?_) rfl rfl (by kernel_rfl) (by kernel_rfl) (by kernel_rfl) (fun _ _ _ h => h) (Or.inl ⟨by rfl, ?_⟩) (by assumption) ?_; rotate_left; focus (intro w hSw; (try dsimp only at hSw); go_simp; try with_reducible rfl))
    | (refine take_at 9 25 (v := undef) rfl rfl (by kernel_rfl) (by kernel_rfl) (by kernel_rfl) (fun _ _ _ h => h) (Or.inr ⟨by rfl, rfl⟩) (by assumption) ?_)
  try simp only [Act.put, List.setIfInBounds_toArray, List.set_cons_zero, List.set_cons_succ]
  first
    | (refine take_at 10 26 (v := ?_) rfl rfl (by kernel_rfl) (by kernel_rfl) (by kernel_rfl) (fun _ _ _ h => h) (Or.inl ⟨by rfl, ?_⟩) (by assumption) ?_; rotate_left; focus (intro w hSw; (try dsimp only at hSw); go_simp; try with_reducible rfl))
    | (refine take_at 10 26 (v := undef) rfl rfl (by kernel_rfl) (by kernel_rfl) (by kernel_rfl) (fun _ _ _ h => h) (Or.inr ⟨by rfl, rfl⟩) (by assumption) ?_)
  try simp only [Act.put, List.setIfInBounds_toArray, List.set_cons_zero, List.set_cons_succ]
  first
    | (refine take_at 11 27 (v := ?_) rfl rfl (by kernel_rfl) (by kernel_rfl) (by kernel_rfl) (fun _ _ _ h => h) (Or.inl ⟨by rfl, ?_⟩) (by assumption) ?_; rotate_left; focus (intro w hSw; (try dsimp only at hSw); go_simp; try with_reducible rfl))
    | (refine take_at 11 27 (v := undef) rfl rfl (by kernel_rfl) (by kernel_rfl) (by kernel_rfl) (fun _ _ _ h => h) (Or.inr ⟨by rfl, rfl⟩) (by assumption) ?_)
  try simp only [Act.put, List.setIfInBounds_toArray, List.set_cons_zero, List.set_cons_succ]
  first
    | (refine take_at 12 28 (v := ?_) rfl rfl (by kernel_rfl) (by kernel_rfl) (by kernel_rfl) (fun _ _ _ h => h) (Or.inl ⟨by rfl, ?_⟩) (by assumption) ?_; rotate_left; focus (intro w hSw; (try dsimp only at hSw); go_simp; try with_reducible rfl))
    | (refine take_at 12 28 (v := undef) rfl rfl (by kernel_rfl) (by kernel_rfl) (by kernel_rfl) (fun _ _ _ h => h) (Or.inr ⟨by rfl, rfl⟩) (by assumption) ?_)
  try simp only [Act.put, List.setIfInBounds_toArray, List.set_cons_zero, List.set_cons_succ]
  first
    | (refine take_at 13 29 (v := ?_) rfl rfl (by kernel_rfl) (by kernel_rfl) (by kernel_rfl) (fun _ _ _ h => h) (Or.inl ⟨by rfl, ?_⟩) (by assumption) ?_; rotate_left; focus (intro w hSw; (try dsimp only at hSw); go_simp; try with_reducible rfl))
    | (refine take_at 13 29 (v := undef) rfl rfl (by kernel_rfl) (by kernel_rfl) (by kernel_rfl) (fun _ _ _ h => h) (Or.inr ⟨by rfl, rfl⟩) (by assumption) ?_)
  try simp only [Act.put, List.setIfInBounds_toArray, List.set_cons_zero, List.set_cons_succ]
  first
    | (refine take_at 14 30 (v := ?_) rfl rfl (by kernel_rfl) (by kernel_rfl) (by kernel_rfl) (fun _ _ _ h => h) (Or.inl ⟨by rfl, ?_⟩) (by assumption) ?_; rotate_left; focus (intro w hSw; (try dsimp only at hSw); go_simp; try with_reducible rfl))
    | (refine take_at 14 30 (v := undef) rfl rfl (by kernel_rfl) (by kernel_rfl) (by kernel_rfl) (fun _ _ _ h => h) (Or.inr ⟨by rfl, rfl⟩) (by assumption) ?_)
  try simp only [Act.put, List.setIfInBounds_toArray, List.set_cons_zero, List.set_cons_succ]
  first
    | (refine take_at 15 31 (v := ?_) rfl rfl (by kernel_rfl) (by kernel_rfl) (by kernel_rfl) (fun _ _ _ h => h) (Or.inl ⟨by rfl, ?_⟩) (by assumption) ?_; rotate_left; focus (intro w hSw; (try dsimp only at hSw); go_simp; try with_reducible rfl))
    | (refine take_at 15 31 (v := undef) rfl rfl (by kernel_rfl) (by kernel_rfl) (by kernel_rfl) (fun _ _ _ h => h) (Or.inr ⟨by rfl, rfl⟩) (by assumption) ?_)
  try simp only [Act.put, List.setIfInBounds_toArray, List.set_cons_zero, List.set_cons_succ]
  first
    | (refine take_at 16 32 (v := ?_) rfl rfl (by kernel_rfl) (by kernel_rfl) (by kernel_rfl) (fun _ _ _ h => h) (Or.inl ⟨by rfl, ?_⟩) (by assumption) ?_; rotate_left; focus (intro w hSw; (try dsimp only at hSw); go_simp; try with_reducible rfl))
    | (refine take_at 16 32 (v := undef) rfl rfl (by kernel_rfl) (by kernel_rfl) (by kernel_rfl) (fun _ _ _ h => h) (Or.inr ⟨by rfl, rfl⟩) (by assumption) ?_)
  try simp only [Act.put, List.setIfInBounds_toArray, List.set_cons_zero, List.set_cons_succ]
  refine wpAnyH_ready (rs := [3]) (by kernel_rfl) (by simp) ?_
  refine AllReadyH.cons rfl (fun K hK => ?_) AllReadyH.nil
  go_simp
  go_wp2_with (go_at_call 85; refine (HS.out).mono ?_; rintro e wa ⟨rfl, hb⟩; have HB := Lib.hid (below_step HB.out hb); clear hb)
  exact ⟨rfl, rfl, HB.out⟩
set_option maxHeartbeats 16000000 in
set_option maxRecDepth 1000000 in
theorem at_n1 (gm : Nat) (op nn x : Int) (gr : Nat) (s0 s1 s2 s3 s4 s5 s6 s7 s8 s9 s10 s11 s12 s13 s14 s15 : Int) (sA : Option Addr) (sn sc : Nat) (hl tb : Bool) (ov : Int) (w : World) (hr : w.heap[gr]? = some (.cells #[.int .i64 s0, .int .i64 s1, .int .i64 s2, .int .i64 s3, .int .i64 s4, .int .i64 s5, .int .i64 s6, .int .i64 s7, .int .i64 s8, .int .i64 s9, .int .i64 s10, .int .i64 s11, .int .i64 s12, .int .i64 s13, .int .i64 s14, .int .i64 s15, .slice sA sn sc, .bool hl, .iface 103 (.pointer (some ⟨gm, 0, none⟩)), .bool tb, .int .i64 ov] 134 (0, 0)))
    (hS : ∀ w1 : World, Below gr w w1 → w1.heap[gr]? = w.heap[gr]? → Calls Tryz.prog 85 #[.pointer (some ⟨gr, 0, none⟩), .int .i64 s7] w1 fun e w' => e = .panicked [{ v := .iface 48 (.int .i64 x), recovered := false }] ∧ Below w1.heap.size w1 w') :
    Calls Tryz.prog 97 #[.pointer (some ⟨gr, 0, none⟩), .agg #[.int .i64 op, .int .i64 1, .int .i64 nn]] w fun e w' => e = .panicked [{ v := .iface 48 (.int .i64 x), recovered := false }] ∧ Below w.heap.size w w' := by
  have HS := Lib.hid hS
  have ER := Lib.hid hr
  have hgr := blk_lt hr
  clear hS hr
  have HB0 := Lib.hid (below_alloc (below_alloc (Below.refl w.heap.size w) (.cells #[.int .i64 op, .int .i64 1, .int .i64 nn] 77)) (.cells #[.slice none 0 0, .int .i64 0, .int .i64 0, .int .i64 0, .int .i64 0, .int .i64 0] 150))
  have E0 := Lib.hid (blk_alloc (blk_new w (.cells #[.int .i64 op, .int .i64 1, .int .i64 nn] 77)) (.cells #[.slice none 0 0, .int .i64 0, .int .i64 0, .int .i64 0, .int .i64 0, .int .i64 0] 150))
  have E1 := Lib.hid (show ((w.alloc (.cells #[.int .i64 op, .int .i64 1, .int .i64 nn] 77)).alloc (.cells #[.slice none 0 0, .int .i64 0, .int .i64 0, .int .i64 0, .int .i64 0, .int .i64 0] 150)).heap[w.heap.size + 1]? = some (.cells #[.slice none 0 0, .int .i64 0, .int .i64 0, .int .i64 0, .int .i64 0, .int .i64 0] 150) by have := blk_new (w.alloc (.cells #[.int .i64 op, .int .i64 1, .int .i64 nn] 77)) (.cells #[.slice none 0 0, .int .i64 0, .int .i64 0, .int .i64 0, .int .i64 0, .int .i64 0] 150); rwa [World.size_alloc] at this)
  have hz0 : ((w.alloc (.cells #[.int .i64 op, .int .i64 1, .int .i64 nn] 77)).alloc (.cells #[.slice none 0 0, .int .i64 0, .int .i64 0, .int .i64 0, .int .i64 0, .int .i64 0] 150)).heap.size = w.heap.size + 2 := by rw [World.size_alloc, World.size_alloc]
  obtain ⟨V, hV⟩ : ∃ V, V = (w.alloc (.cells #[.int .i64 op, .int .i64 1, .int .i64 nn] 77)).alloc (.cells #[.slice none 0 0, .int .i64 0, .int .i64 0, .int .i64 0, .int .i64 0, .int .i64 0] 150) := ⟨_, rfl⟩
  go_enter Tryz.func97, Tryz.ntmps97
  go_wp2
  rw [← hV] at HB0 E0 E1 hz0 ⊢
  clear hV
  refine at1_1 gm w.heap.size op nn gr s0 s1 s2 s3 s4 s5 s6 s7 s8 s9 s10 s11 s12 s13 s14 s15 sA sn sc hl tb ov _ _ _ _ _ _ _ _ _ _ _ _ _ _ _ _ _ _ _ _ _ _ _ _ _ _ _ _ _ _ _ V _ (blk_below ER.out HB0.out) E0.out ?_
  intro W1 a8 a9 a10 a11 a12 a13 a14 a15 h7 hb
  rw [hz0] at h7
  have E7 := Lib.hid h7
  have HB1 := Lib.hid (below_step HB0.out hb)
  have E0 := Lib.hid (blk_below E0.out hb)
  have hz1 := blk_lt h7
  clear hb h7
  go_wp2
  try rw [hz0]
  refine at2n gm w.heap.size (w.heap.size + 1) (w.heap.size + 2) op 1 nn s7 s8 s9 _ x gr s0 s1 s2 s3 s4 s5 s6 s7 s8 s9 s10 s11 s12 s13 s14 s15 sA sn sc hl tb ov _ _ _ _ _ _ _ _ _ _ _ _ _ _ _ _ _ _ _ _ _ _ _ _ _ _ _ _ _ W1 _ (blk_below ER.out HB1.out) E0.out E7.out rfl ?_ ?_
  · refine (HS.out W1.drew (below_low (below_drew1 HB1.out) (Nat.le_of_lt hgr)) (HB1.out.block gr hgr)).mono ?_
    rintro e w' ⟨rfl, hb⟩
    exact ⟨rfl, hb⟩
  intro a w' hd hb
  exact ⟨hd, rfl, below_step HB1.out hb⟩
set_option maxHeartbeats 16000000 in
set_option maxRecDepth 1000000 in
theorem read_n1 (gm : Nat) (op nn x : Int) (gr : Nat) (s0 s1 s2 s3 s4 s5 s6 s7 s8 s9 s10 s11 s12 s13 s14 s15 : Int) (sA : Option Addr) (sn sc : Nat) (hl tb : Bool) (ov : Int) (w : World) (hr : w.heap[gr]? = some (.cells #[.int .i64 s0, .int .i64 s1, .int .i64 s2, .int .i64 s3, .int .i64 s4, .int .i64 s5, .int .i64 s6, .int .i64 s7, .int .i64 s8, .int .i64 s9, .int .i64 s10, .int .i64 s11, .int .i64 s12, .int .i64 s13, .int .i64 s14, .int .i64 s15, .slice sA sn sc, .bool hl, .iface 103 (.pointer (some ⟨gm, 0, none⟩)), .bool tb, .int .i64 ov] 134 (0, 0)))
    (hS : ∀ w1 : World, Below gr w w1 → w1.heap[gr]? = w.heap[gr]? → Calls Tryz.prog 85 #[.pointer (some ⟨gr, 0, none⟩), .int .i64 s7] w1 fun e w' => e = .panicked [{ v := .iface 48 (.int .i64 x), recovered := false }] ∧ Below w1.heap.size w1 w') :
    Calls Tryz.prog 73 #[.pointer (some ⟨gr, 0, none⟩), .agg #[.int .i64 op, .int .i64 1, .int .i64 nn]] w fun e w' => e = .panicked [{ v := .iface 48 (.int .i64 x), recovered := false }] ∧ Below w.heap.size w w' := by
  have HS := Lib.hid hS
  have ER := Lib.hid hr
  have hgr := blk_lt hr
  clear hS hr
  have HB0 := Lib.hid (below_alloc (below_alloc (Below.refl w.heap.size w) (.cells #[.int .i64 op, .int .i64 1, .int .i64 nn] 77)) (.cells #[.slice none 0 0, .int .i64 0, .int .i64 0, .int .i64 0, .int .i64 0, .int .i64 0] 150))
  go_enter Tryz.func73, Tryz.ntmps73
  have hrd := rd77_blk (blk_alloc (blk_new w (.cells #[.int .i64 op, .int .i64 1, .int .i64 nn] 77)) (.cells #[.slice none 0 0, .int .i64 0, .int .i64 0, .int .i64 0, .int .i64 0, .int .i64 0] 150)) rfl
  go_wp2_with (go_at_call 97; refine (at_n1 gm op nn x gr s0 s1 s2 s3 s4 s5 s6 s7 s8 s9 s10 s11 s12 s13 s14 s15 sA sn sc hl tb ov _ (blk_below ER.out HB0.out) (fun w1 hb1 hg1 => HS.out w1 (below_join2 (below_low HB0.out (Nat.le_of_lt hgr)) hb1) (hg1.trans (HB0.out.block gr hgr)))).mono ?_; rintro e w1 ⟨rfl, hb⟩; have HB1 := Lib.hid (below_step HB0.out hb); clear hb)
  exact ⟨rfl, rfl, HB1.out⟩
set_option maxHeartbeats 16000000 in
set_option maxRecDepth 1000000 in
theorem do_ldan1 (gm : Nat) (nn x : Int) (gr : Nat) (s0 s1 s2 s3 s4 s5 s6 s7 s8 s9 s10 s11 s12 s13 s14 s15 : Int) (sA : Option Addr) (sn sc : Nat) (hl tb : Bool) (ov : Int) (w : World) (hr : w.heap[gr]? = some (.cells #[.int .i64 s0, .int .i64 s1, .int .i64 s2, .int .i64 s3, .int .i64 s4, .int .i64 s5, .int .i64 s6, .int .i64 s7, .int .i64 s8, .int .i64 s9, .int .i64 s10, .int .i64 s11, .int .i64 s12, .int .i64 s13, .int .i64 s14, .int .i64 s15, .slice sA sn sc, .bool hl, .iface 103 (.pointer (some ⟨gm, 0, none⟩)), .bool tb, .int .i64 ov] 134 (0, 0)))
    (hS : ∀ w1 : World, Below gr w w1 → w1.heap[gr]? = w.heap[gr]? → Calls Tryz.prog 85 #[.pointer (some ⟨gr, 0, none⟩), .int .i64 s7] w1 fun e w' => e = .panicked [{ v := .iface 48 (.int .i64 x), recovered := false }] ∧ Below w1.heap.size w1 w') :
    Calls Tryz.prog 53 #[.pointer (some ⟨gr, 0, none⟩), .agg #[.int .i64 1, .int .i64 1, .int .i64 nn]] w fun e w' => e = .panicked [{ v := .iface 48 (.int .i64 x), recovered := false }] ∧ Below gr w w' := by
  have HS := Lib.hid hS
  have ER := Lib.hid hr
  have hgr := blk_lt hr
  have HB0 := Lib.hid (below_alloc (Below.refl w.heap.size w) (.cells #[.int .i64 1, .int .i64 1, .int .i64 nn] 77))
  have hrd := rd77_blk (blk_new w (.cells #[.int .i64 1, .int .i64 1, .int .i64 nn] 77)) rfl
  clear hS hr
  go_enter Tryz.func53, Tryz.ntmps53
  go_wp2_with (go_at_call 73; refine (read_n1 gm 1 nn x gr s0 s1 s2 s3 s4 s5 s6 s7 s8 s9 s10 s11 s12 s13 s14 s15 sA sn sc hl tb ov _ (blk_below ER.out HB0.out) (fun w1 hb1 hg1 => HS.out w1 (below_join2 (below_low HB0.out (Nat.le_of_lt hgr)) hb1) (hg1.trans (HB0.out.block gr hgr)))).mono ?_; rintro e w1 ⟨rfl, hb⟩; have HB1 := Lib.hid (below_step HB0.out hb); clear hb)
  exact ⟨rfl, rfl, below_low HB1.out (Nat.le_of_lt hgr)⟩
set_option maxHeartbeats 16000000 in
set_option maxRecDepth 1000000 in
theorem step_f (gm : Nat) (op p nn x : Int) (RC1 : Array Value) (s0 s1 s2 s3 s4 s5 s6 s7 s8 s9 s10 s11 s12 s13 s14 s15 : Int) (w : World)
    (hF : ∀ (gr : Nat) (w1 : World), Below w.heap.size w w1 → w.heap.size ≤ gr → w1.heap[gr]? = some (.cells #[.int .i64 s0, .int .i64 s1, .int .i64 s2, .int .i64 s3, .int .i64 s4, .int .i64 s5, .int .i64 s6, .int .i64 s7, .int .i64 s8, .int .i64 s9, .int .i64 s10, .int .i64 s11, .int .i64 s12, .int .i64 s13, .int .i64 s14, .int .i64 s15, .slice none 0 0, .bool false, .iface 103 (.pointer (some ⟨gm, 0, none⟩)), .bool false, .int .i64 0] 134 (0, 0)) → Calls Tryz.prog 54 #[.pointer (some ⟨gr, 0, none⟩)] w1 fun e w' => e = .returned (.agg #[.int .i64 op, .int .i64 p, .int .i64 nn]) ∧ w'.heap[gr]? = some (.cells RC1 134 (0, 0)) ∧ Below gr w1 w')
    (hD : ∀ (gr : Nat) (w1 : World), Below w.heap.size w w1 → w.heap.size ≤ gr → w1.heap[gr]? = some (.cells RC1 134 (0, 0)) → Calls Tryz.prog 53 #[.pointer (some ⟨gr, 0, none⟩), .agg #[.int .i64 op, .int .i64 p, .int .i64 nn]] w1 fun e w' => e = .panicked [{ v := .iface 48 (.int .i64 x), recovered := false }] ∧ Below gr w1 w') :
    Calls Tryz.prog 34 #[.agg #[.int .i64 s0, .int .i64 s1, .int .i64 s2, .int .i64 s3, .int .i64 s4, .int .i64 s5, .int .i64 s6, .int .i64 s7, .int .i64 s8, .int .i64 s9, .int .i64 s10, .int .i64 s11, .int .i64 s12, .int .i64 s13, .int .i64 s14, .int .i64 s15, .slice none 0 0, .bool false], .iface 103 (.pointer (some ⟨gm, 0, none⟩))] w fun e w' => e = .returned (.tuple #[.agg #[.int .i64 0, .int .i64 0, .int .i64 0, .int .i64 0, .int .i64 0, .int .i64 0, .int .i64 0, .int .i64 0, .int .i64 0, .int .i64 0, .int .i64 0, .int .i64 0, .int .i64 0, .int .i64 0, .int .i64 0, .int .i64 0, .slice none 0 0, .bool false], .int .i64 0, .bool false, .int .i64 x]) ∧ Below w.heap.size w w' := by
  have HF := Lib.hid hF
  have HD := Lib.hid hD
  clear hF hD
  have hmf : ∀ (fn : Fn) (first cap : Array Value) (w : World), (Instr.makeFunc fn first cap).run Tryz.prog w = .ok (.func fn first cap) w := fun _ _ _ _ => rfl
  go_enter_defers Tryz.func34, Tryz.ntmps34
  have hz : (((((w.alloc (.cells #[.int .i64 s0, .int .i64 s1, .int .i64 s2, .int .i64 s3, .int .i64 s4, .int .i64 s5, .int .i64 s6, .int .i64 s7, .int .i64 s8, .int .i64 s9, .int .i64 s10, .int .i64 s11, .int .i64 s12, .int .i64 s13, .int .i64 s14, .int .i64 s15, .slice none 0 0, .bool false] 45)).alloc (.cells #[.int .i64 0, .int .i64 0, .int .i64 0, .int .i64 0, .int .i64 0, .int .i64 0, .int .i64 0, .int .i64 0, .int .i64 0, .int .i64 0, .int .i64 0, .int .i64 0, .int .i64 0, .int .i64 0, .int .i64 0, .int .i64 0, .slice none 0 0, .bool false] 45)).alloc (.cells #[.int .i64 0] 2)).alloc (.cells #[.bool false] 4)).alloc (.cells #[.int .i64 0] 48)).heap.size = w.heap.size + 1 + 1 + 1 + 1 + 1 := by simp only [World.size_alloc]
  have EA := Lib.hid (blk_alloc (blk_alloc (blk_alloc (blk_alloc (blk_new w (.cells #[.int .i64 s0, .int .i64 s1, .int .i64 s2, .int .i64 s3, .int .i64 s4, .int .i64 s5, .int .i64 s6, .int .i64 s7, .int .i64 s8, .int .i64 s9, .int .i64 s10, .int .i64 s11, .int .i64 s12, .int .i64 s13, .int .i64 s14, .int .i64 s15, .slice none 0 0, .bool false] 45)) (.cells #[.int .i64 0, .int .i64 0, .int .i64 0, .int .i64 0, .int .i64 0, .int .i64 0, .int .i64 0, .int .i64 0, .int .i64 0, .int .i64 0, .int .i64 0, .int .i64 0, .int .i64 0, .int .i64 0, .int .i64 0, .int .i64 0, .slice none 0 0, .bool false] 45)) (.cells #[.int .i64 0] 2)) (.cells #[.bool false] 4)) (.cells #[.int .i64 0] 48))
  have E1 := Lib.hid (show (((((w.alloc (.cells #[.int .i64 s0, .int .i64 s1, .int .i64 s2, .int .i64 s3, .int .i64 s4, .int .i64 s5, .int .i64 s6, .int .i64 s7, .int .i64 s8, .int .i64 s9, .int .i64 s10, .int .i64 s11, .int .i64 s12, .int .i64 s13, .int .i64 s14, .int .i64 s15, .slice none 0 0, .bool false] 45)).alloc (.cells #[.int .i64 0, .int .i64 0, .int .i64 0, .int .i64 0, .int .i64 0, .int .i64 0, .int .i64 0, .int .i64 0, .int .i64 0, .int .i64 0, .int .i64 0, .int .i64 0, .int .i64 0, .int .i64 0, .int .i64 0, .int .i64 0, .slice none 0 0, .bool false] 45)).alloc (.cells #[.int .i64 0] 2)).alloc (.cells #[.bool false] 4)).alloc (.cells #[.int .i64 0] 48)).heap[w.heap.size + 1]? = some (.cells #[.int .i64 0, .int .i64 0, .int .i64 0, .int .i64 0, .int .i64 0, .int .i64 0, .int .i64 0, .int .i64 0, .int .i64 0, .int .i64 0, .int .i64 0, .int .i64 0, .int .i64 0, .int .i64 0, .int .i64 0, .int .i64 0, .slice none 0 0, .bool false] 45) from blk_alloc (blk_alloc (blk_alloc (by have h := blk_new (w.alloc (.cells #[.int .i64 s0, .int .i64 s1, .int .i64 s2, .int .i64 s3, .int .i64 s4, .int .i64 s5, .int .i64 s6, .int .i64 s7, .int .i64 s8, .int .i64 s9, .int .i64 s10, .int .i64 s11, .int .i64 s12, .int .i64 s13, .int .i64 s14, .int .i64 s15, .slice none 0 0, .bool false] 45)) (.cells #[.int .i64 0, .int .i64 0, .int .i64 0, .int .i64 0, .int .i64 0, .int .i64 0, .int .i64 0, .int .i64 0, .int .i64 0, .int .i64 0, .int .i64 0, .int .i64 0, .int .i64 0, .int .i64 0, .int .i64 0, .int .i64 0, .slice none 0 0, .bool false] 45); simp only [World.size_alloc] at h; exact h) (.cells #[.int .i64 0] 2)) (.cells #[.bool false] 4)) (.cells #[.int .i64 0] 48))
  have E2 := Lib.hid (show (((((w.alloc (.cells #[.int .i64 s0, .int .i64 s1, .int .i64 s2, .int .i64 s3, .int .i64 s4, .int .i64 s5, .int .i64 s6, .int .i64 s7, .int .i64 s8, .int .i64 s9, .int .i64 s10, .int .i64 s11, .int .i64 s12, .int .i64 s13, .int .i64 s14, .int .i64 s15, .slice none 0 0, .bool false] 45)).alloc (.cells #[.int .i64 0, .int .i64 0, .int .i64 0, .int .i64 0, .int .i64 0, .int .i64 0, .int .i64 0, .int .i64 0, .int .i64 0, .int .i64 0, .int .i64 0, .int .i64 0, .int .i64 0, .int .i64 0, .int .i64 0, .int .i64 0, .slice none 0 0, .bool false] 45)).alloc (.cells #[.int .i64 0] 2)).alloc (.cells #[.bool false] 4)).alloc (.cells #[.int .i64 0] 48)).heap[w.heap.size + 1 + 1]? = some (.cells #[.int .i64 0] 2) from blk_alloc (blk_alloc (by have h := blk_new ((w.alloc (.cells #[.int .i64 s0, .int .i64 s1, .int .i64 s2, .int .i64 s3, .int .i64 s4, .int .i64 s5, .int .i64 s6, .int .i64 s7, .int .i64 s8, .int .i64 s9, .int .i64 s10, .int .i64 s11, .int .i64 s12, .int .i64 s13, .int .i64 s14, .int .i64 s15, .slice none 0 0, .bool false] 45)).alloc (.cells #[.int .i64 0, .int .i64 0, .int .i64 0, .int .i64 0, .int .i64 0, .int .i64 0, .int .i64 0, .int .i64 0, .int .i64 0, .int .i64 0, .int .i64 0, .int .i64 0, .int .i64 0, .int .i64 0, .int .i64 0, .int .i64 0, .slice none 0 0, .bool false] 45)) (.cells #[.int .i64 0] 2); simp only [World.size_alloc] at h; exact h) (.cells #[.bool false] 4)) (.cells #[.int .i64 0] 48))
  have E3 := Lib.hid (show (((((w.alloc (.cells #[.int .i64 s0, .int .i64 s1, .int .i64 s2, .int .i64 s3, .int .i64 s4, .int .i64 s5, .int .i64 s6, .int .i64 s7, .int .i64 s8, .int .i64 s9, .int .i64 s10, .int .i64 s11, .int .i64 s12, .int .i64 s13, .int .i64 s14, .int .i64 s15, .slice none 0 0, .bool false] 45)).alloc (.cells #[.int .i64 0, .int .i64 0, .int .i64 0, .int .i64 0, .int .i64 0, .int .i64 0, .int .i64 0, .int .i64 0, .int .i64 0, .int .i64 0, .int .i64 0, .int .i64 0, .int .i64 0, .int .i64 0, .int .i64 0, .int .i64 0, .slice none 0 0, .bool false] 45)).alloc (.cells #[.int .i64 0] 2)).alloc (.cells #[.bool false] 4)).alloc (.cells #[.int .i64 0] 48)).heap[w.heap.size + 1 + 1 + 1]? = some (.cells #[.bool false] 4) from blk_alloc (by have h := blk_new (((w.alloc (.cells #[.int .i64 s0, .int .i64 s1, .int .i64 s2, .int .i64 s3, .int .i64 s4, .int .i64 s5, .int .i64 s6, .int .i64 s7, .int .i64 s8, .int .i64 s9, .int .i64 s10, .int .i64 s11, .int .i64 s12, .int .i64 s13, .int .i64 s14, .int .i64 s15, .slice none 0 0, .bool false] 45)).alloc (.cells #[.int .i64 0, .int .i64 0, .int .i64 0, .int .i64 0, .int .i64 0, .int .i64 0, .int .i64 0, .int .i64 0, .int .i64 0, .int .i64 0, .int .i64 0, .int .i64 0, .int .i64 0, .int .i64 0, .int .i64 0, .int .i64 0, .slice none 0 0, .bool false] 45)).alloc (.cells #[.int .i64 0] 2)) (.cells #[.bool false] 4); simp only [World.size_alloc] at h; exact h) (.cells #[.int .i64 0] 48))
  have E4 := Lib.hid (show (((((w.alloc (.cells #[.int .i64 s0, .int .i64 s1, .int .i64 s2, .int .i64 s3, .int .i64 s4, .int .i64 s5, .int .i64 s6, .int .i64 s7, .int .i64 s8, .int .i64 s9, .int .i64 s10, .int .i64 s11, .int .i64 s12, .int .i64 s13, .int .i64 s14, .int .i64 s15, .slice none 0 0, .bool false] 45)).alloc (.cells #[.int .i64 0, .int .i64 0, .int .i64 0, .int .i64 0, .int .i64 0, .int .i64 0, .int .i64 0, .int .i64 0, .int .i64 0, .int .i64 0, .int .i64 0, .int .i64 0, .int .i64 0, .int .i64 0, .int .i64 0, .int .i64 0, .slice none 0 0, .bool false] 45)).alloc (.cells #[.int .i64 0] 2)).alloc (.cells #[.bool false] 4)).alloc (.cells #[.int .i64 0] 48)).heap[w.heap.size + 1 + 1 + 1 + 1]? = some (.cells #[.int .i64 0] 48) from by have h := blk_new ((((w.alloc (.cells #[.int .i64 s0, .int .i64 s1, .int .i64 s2, .int .i64 s3, .int .i64 s4, .int .i64 s5, .int .i64 s6, .int .i64 s7, .int .i64 s8, .int .i64 s9, .int .i64 s10, .int .i64 s11, .int .i64 s12, .int .i64 s13, .int .i64 s14, .int .i64 s15, .slice none 0 0, .bool false] 45)).alloc (.cells #[.int .i64 0, .int .i64 0, .int .i64 0, .int .i64 0, .int .i64 0, .int .i64 0, .int .i64 0, .int .i64 0, .int .i64 0, .int .i64 0, .int .i64 0, .int .i64 0, .int .i64 0, .int .i64 0, .int .i64 0, .int .i64 0, .slice none 0 0, .bool false] 45)).alloc (.cells #[.int .i64 0] 2)).alloc (.cells #[.bool false] 4)) (.cells #[.int .i64 0] 48); simp only [World.size_alloc] at h; exact h)
  have HB0 := Lib.hid (below_alloc (below_alloc (below_alloc (below_alloc (below_alloc (Below.refl w.heap.size w) (.cells #[.int .i64 s0, .int .i64 s1, .int .i64 s2, .int .i64 s3, .int .i64 s4, .int .i64 s5, .int .i64 s6, .int .i64 s7, .int .i64 s8, .int .i64 s9, .int .i64 s10, .int .i64 s11, .int .i64 s12, .int .i64 s13, .int .i64 s14, .int .i64 s15, .slice none 0 0, .bool false] 45)) (.cells #[.int .i64 0, .int .i64 0, .int .i64 0, .int .i64 0, .int .i64 0, .int .i64 0, .int .i64 0, .int .i64 0, .int .i64 0, .int .i64 0, .int .i64 0, .int .i64 0, .int .i64 0, .int .i64 0, .int .i64 0, .int .i64 0, .slice none 0 0, .bool false] 45)) (.cells #[.int .i64 0] 2)) (.cells #[.bool false] 4)) (.cells #[.int .i64 0] 48))
  have hrd := rd45_blk EA.out rfl
  have E5 := Lib.hid (show (World.alloc (((((w.alloc (.cells #[.int .i64 s0, .int .i64 s1, .int .i64 s2, .int .i64 s3, .int .i64 s4, .int .i64 s5, .int .i64 s6, .int .i64 s7, .int .i64 s8, .int .i64 s9, .int .i64 s10, .int .i64 s11, .int .i64 s12, .int .i64 s13, .int .i64 s14, .int .i64 s15, .slice none 0 0, .bool false] 45)).alloc (.cells #[.int .i64 0, .int .i64 0, .int .i64 0, .int .i64 0, .int .i64 0, .int .i64 0, .int .i64 0, .int .i64 0, .int .i64 0, .int .i64 0, .int .i64 0, .int .i64 0, .int .i64 0, .int .i64 0, .int .i64 0, .int .i64 0, .slice none 0 0, .bool false] 45)).alloc (.cells #[.int .i64 0] 2)).alloc (.cells #[.bool false] 4)).alloc (.cells #[.int .i64 0] 48)) (.cells #[.int .i64 s0, .int .i64 s1, .int .i64 s2, .int .i64 s3, .int .i64 s4, .int .i64 s5, .int .i64 s6, .int .i64 s7, .int .i64 s8, .int .i64 s9, .int .i64 s10, .int .i64 s11, .int .i64 s12, .int .i64 s13, .int .i64 s14, .int .i64 s15, .slice none 0 0, .bool false, .iface 103 (.pointer (some ⟨gm, 0, none⟩)), .bool false, .int .i64 0] 134)).heap[w.heap.size + 1 + 1 + 1 + 1 + 1]? = some (.cells #[.int .i64 s0, .int .i64 s1, .int .i64 s2, .int .i64 s3, .int .i64 s4, .int .i64 s5, .int .i64 s6, .int .i64 s7, .int .i64 s8, .int .i64 s9, .int .i64 s10, .int .i64 s11, .int .i64 s12, .int .i64 s13, .int .i64 s14, .int .i64 s15, .slice none 0 0, .bool false, .iface 103 (.pointer (some ⟨gm, 0, none⟩)), .bool false, .int .i64 0] 134) from by have h := blk_new (((((w.alloc (.cells #[.int .i64 s0, .int .i64 s1, .int .i64 s2, .int .i64 s3, .int .i64 s4, .int .i64 s5, .int .i64 s6, .int .i64 s7, .int .i64 s8, .int .i64 s9, .int .i64 s10, .int .i64 s11, .int .i64 s12, .int .i64 s13, .int .i64 s14, .int .i64 s15, .slice none 0 0, .bool false] 45)).alloc (.cells #[.int .i64 0, .int .i64 0, .int .i64 0, .int .i64 0, .int .i64 0, .int .i64 0, .int .i64 0, .int .i64 0, .int .i64 0, .int .i64 0, .int .i64 0, .int .i64 0, .int .i64 0, .int .i64 0, .int .i64 0, .int .i64 0, .slice none 0 0, .bool false] 45)).alloc (.cells #[.int .i64 0] 2)).alloc (.cells #[.bool false] 4)).alloc (.cells #[.int .i64 0] 48)) (.cells #[.int .i64 s0, .int .i64 s1, .int .i64 s2, .int .i64 s3, .int .i64 s4, .int .i64 s5, .int .i64 s6, .int .i64 s7, .int .i64 s8, .int .i64 s9, .int .i64 s10, .int .i64 s11, .int .i64 s12, .int .i64 s13, .int .i64 s14, .int .i64 s15, .slice none 0 0, .bool false, .iface 103 (.pointer (some ⟨gm, 0, none⟩)), .bool false, .int .i64 0] 134); rw [hz] at h; exact h)
  have HB5 := Lib.hid (below_alloc HB0.out (.cells #[.int .i64 s0, .int .i64 s1, .int .i64 s2, .int .i64 s3, .int .i64 s4, .int .i64 s5, .int .i64 s6, .int .i64 s7, .int .i64 s8, .int .i64 s9, .int .i64 s10, .int .i64 s11, .int .i64 s12, .int .i64 s13, .int .i64 s14, .int .i64 s15, .slice none 0 0, .bool false, .iface 103 (.pointer (some ⟨gm, 0, none⟩)), .bool false, .int .i64 0] 134))
  have E1 := Lib.hid (blk_alloc E1.out (.cells #[.int .i64 s0, .int .i64 s1, .int .i64 s2, .int .i64 s3, .int .i64 s4, .int .i64 s5, .int .i64 s6, .int .i64 s7, .int .i64 s8, .int .i64 s9, .int .i64 s10, .int .i64 s11, .int .i64 s12, .int .i64 s13, .int .i64 s14, .int .i64 s15, .slice none 0 0, .bool false, .iface 103 (.pointer (some ⟨gm, 0, none⟩)), .bool false, .int .i64 0] 134))
  have E2 := Lib.hid (blk_alloc E2.out (.cells #[.int .i64 s0, .int .i64 s1, .int .i64 s2, .int .i64 s3, .int .i64 s4, .int .i64 s5, .int .i64 s6, .int .i64 s7, .int .i64 s8, .int .i64 s9, .int .i64 s10, .int .i64 s11, .int .i64 s12, .int .i64 s13, .int .i64 s14, .int .i64 s15, .slice none 0 0, .bool false, .iface 103 (.pointer (some ⟨gm, 0, none⟩)), .bool false, .int .i64 0] 134))
  have E3 := Lib.hid (blk_alloc E3.out (.cells #[.int .i64 s0, .int .i64 s1, .int .i64 s2, .int .i64 s3, .int .i64 s4, .int .i64 s5, .int .i64 s6, .int .i64 s7, .int .i64 s8, .int .i64 s9, .int .i64 s10, .int .i64 s11, .int .i64 s12, .int .i64 s13, .int .i64 s14, .int .i64 s15, .slice none 0 0, .bool false, .iface 103 (.pointer (some ⟨gm, 0, none⟩)), .bool false, .int .i64 0] 134))
  have E4 := Lib.hid (blk_alloc E4.out (.cells #[.int .i64 s0, .int .i64 s1, .int .i64 s2, .int .i64 s3, .int .i64 s4, .int .i64 s5, .int .i64 s6, .int .i64 s7, .int .i64 s8, .int .i64 s9, .int .i64 s10, .int .i64 s11, .int .i64 s12, .int .i64 s13, .int .i64 s14, .int .i64 s15, .slice none 0 0, .bool false, .iface 103 (.pointer (some ⟨gm, 0, none⟩)), .bool false, .int .i64 0] 134))
  go_wp2_with (first
    | (go_at_call 33; refine (clone33_nil _).mono ?_; rintro e w1 ⟨rfl, rfl⟩)
    | (go_at_call 54; refine (HF.out (w.heap.size + 1 + 1 + 1 + 1 + 1) _ HB5.out (by omega) E5.out).mono ?_; rintro e w2 ⟨rfl, hR, hb⟩; have E5 := Lib.hid hR; have E1 := Lib.hid ((hb.block _ (by omega)).trans E1.out); have E2 := Lib.hid ((hb.block _ (by omega)).trans E2.out); have E3 := Lib.hid ((hb.block _ (by omega)).trans E3.out); have E4 := Lib.hid ((hb.block _ (by omega)).trans E4.out); have HB6 := Lib.hid (below_join HB5.out hb (by omega)); clear hb hR)
    | (go_at_call 53; refine (HD.out (w.heap.size + 1 + 1 + 1 + 1 + 1) _ HB6.out (by omega) E5.out).mono ?_; rintro e w3 ⟨rfl, hb⟩; have E1 := Lib.hid ((hb.block _ (by omega)).trans E1.out); have E2 := Lib.hid ((hb.block _ (by omega)).trans E2.out); have E3 := Lib.hid ((hb.block _ (by omega)).trans E3.out); have E4 := Lib.hid ((hb.block _ (by omega)).trans E4.out); have HB7 := Lib.hid (below_join HB6.out hb (by omega)); clear hb))
  refine leaves_cons (f := 52) (args := #[.pointer (some ⟨w.heap.size + 1, 0, none⟩), .pointer (some ⟨w.heap.size + 1 + 1, 0, none⟩), .pointer (some ⟨w.heap.size + 1 + 1 + 1, 0, none⟩), .pointer (some ⟨w.heap.size + 1 + 1 + 1 + 1, 0, none⟩)]) (by simp) (by simp [go_sem]) ?_
  refine (catch_errno (w.heap.size + 1) (w.heap.size + 1 + 1) (w.heap.size + 1 + 1 + 1) (w.heap.size + 1 + 1 + 1 + 1) x _ _ _ _ [] w3 E1.out rfl E2.out E3.out E4.out (by omega)).mono ?_
  rintro e u' w5 ⟨rfl, rfl, rfl⟩
  have F1 := blk_far (p := ⟨(w.heap.size + 1 + 1 + 1 + 1), 0, none⟩) (blk_far (p := ⟨(w.heap.size + 1 + 1 + 1), 0, none⟩) (blk_far (p := ⟨(w.heap.size + 1 + 1), 0, none⟩) (setRow_heap _ _ _ (#[.int .i64 0, .int .i64 0, .int .i64 0, .int .i64 0, .int .i64 0, .int .i64 0, .int .i64 0, .int .i64 0, .int .i64 0, .int .i64 0, .int .i64 0, .int .i64 0, .int .i64 0, .int .i64 0, .int .i64 0, .int .i64 0, .slice none 0 0, .bool false] : Array Value) _ _ E1.out) (by show (w.heap.size + 1) ≠ (w.heap.size + 1 + 1); omega) (.int .i64 0)) (by show (w.heap.size + 1) ≠ (w.heap.size + 1 + 1 + 1); omega) (.bool false)) (by show (w.heap.size + 1) ≠ (w.heap.size + 1 + 1 + 1 + 1); omega) (.int .i64 x)
  have F2 := blk_far (p := ⟨(w.heap.size + 1 + 1 + 1 + 1), 0, none⟩) (blk_far (p := ⟨(w.heap.size + 1 + 1 + 1), 0, none⟩) (blk_put ((setRow_other w3 (w.heap.size + 1) (w.heap.size + 1 + 1) (#[.int .i64 0, .int .i64 0, .int .i64 0, .int .i64 0, .int .i64 0, .int .i64 0, .int .i64 0, .int .i64 0, .int .i64 0, .int .i64 0, .int .i64 0, .int .i64 0, .int .i64 0, .int .i64 0, .int .i64 0, .int .i64 0, .slice none 0 0, .bool false] : Array Value) (by omega)).trans E2.out) 0 (.int .i64 0) rfl) (by show (w.heap.size + 1 + 1) ≠ (w.heap.size + 1 + 1 + 1); omega) (.bool false)) (by show (w.heap.size + 1 + 1) ≠ (w.heap.size + 1 + 1 + 1 + 1); omega) (.int .i64 x)
  have F3 := blk_far (p := ⟨(w.heap.size + 1 + 1 + 1 + 1), 0, none⟩) (blk_put (blk_far (p := ⟨(w.heap.size + 1 + 1), 0, none⟩) ((setRow_other w3 (w.heap.size + 1) (w.heap.size + 1 + 1 + 1) (#[.int .i64 0, .int .i64 0, .int .i64 0, .int .i64 0, .int .i64 0, .int .i64 0, .int .i64 0, .int .i64 0, .int .i64 0, .int .i64 0, .int .i64 0, .int .i64 0, .int .i64 0, .int .i64 0, .int .i64 0, .int .i64 0, .slice none 0 0, .bool false] : Array Value) (by omega)).trans E3.out) (by show (w.heap.size + 1 + 1 + 1) ≠ (w.heap.size + 1 + 1); omega) (.int .i64 0)) 0 (.bool false) rfl) (by show (w.heap.size + 1 + 1 + 1) ≠ (w.heap.size + 1 + 1 + 1 + 1); omega) (.int .i64 x)
  have F4 := blk_put (blk_far (p := ⟨(w.heap.size + 1 + 1 + 1), 0, none⟩) (blk_far (p := ⟨(w.heap.size + 1 + 1), 0, none⟩) ((setRow_other w3 (w.heap.size + 1) (w.heap.size + 1 + 1 + 1 + 1) (#[.int .i64 0, .int .i64 0, .int .i64 0, .int .i64 0, .int .i64 0, .int .i64 0, .int .i64 0, .int .i64 0, .int .i64 0, .int .i64 0, .int .i64 0, .int .i64 0, .int .i64 0, .int .i64 0, .int .i64 0, .int .i64 0, .slice none 0 0, .bool false] : Array Value) (by omega)).trans E4.out) (by show (w.heap.size + 1 + 1 + 1 + 1) ≠ (w.heap.size + 1 + 1); omega) (.int .i64 0)) (by show (w.heap.size + 1 + 1 + 1 + 1) ≠ (w.heap.size + 1 + 1 + 1); omega) (.bool false)) 0 (.int .i64 x) rfl
  have HBF := below_put (below_put (below_put (below_setRow HB7.out (show w.heap.size ≤ (w.heap.size + 1) by omega) (#[.int .i64 0, .int .i64 0, .int .i64 0, .int .i64 0, .int .i64 0, .int .i64 0, .int .i64 0, .int .i64 0, .int .i64 0, .int .i64 0, .int .i64 0, .int .i64 0, .int .i64 0, .int .i64 0, .int .i64 0, .int .i64 0, .slice none 0 0, .bool false] : Array Value)) (v := .int .i64 0) (j := 0) (g := (w.heap.size + 1 + 1)) (by omega)) (v := .bool false) (j := 0) (g := (w.heap.size + 1 + 1 + 1)) (by omega)) (v := .int .i64 x) (j := 0) (g := (w.heap.size + 1 + 1 + 1 + 1)) (by omega)
  unfold Leaves
  refine ⟨_, res34 _ _ (w.heap.size + 1) (w.heap.size + 1 + 1) (w.heap.size + 1 + 1 + 1) (w.heap.size + 1 + 1 + 1 + 1) _ _ _ _ rfl rfl rfl rfl F1 rfl ((blk_cell F2 0).trans rfl) ((blk_cell F3 0).trans rfl) ((blk_cell F4 0).trans rfl), ?_⟩
  exact ⟨rfl, HBF⟩
end Go.Proofs.YteilkbookcmndaaGreatDoor.C
end
section
set_option linter.unusedVariables false
set_option linter.unusedSimpArgs false
namespace Go.Proofs.YteilkbookcmndaaGreatDoor.C
open Go.RowKit Go.Proofs.YteilkbookcmndaaGreatDoor.Q Go.Proofs.YteilkbookcmndaaGreatDoorW.PrintWords Go.Proofs.YteilkbookcmndaaGreatDoorW.PrintLast Go.Proofs.YteilkbookcmndaaGreatDoorW.PrintMore
attribute [local go_sem ↓] rd_at50 wr_at50 al_at50
attribute [local go_sem] rd50_new wr50_new al50
attribute [local go_sem ↓] rd_at45 wr_at45 rd_at150 wr_at150 rd_at47b wr_at47b rd_at77 wr_at77 rd_at41p wr_at41p
attribute [local go_sem] rd45_new wr45_new rd150_new wr150_new rd47b_new wr47b_new
attribute [local go_sem] max2_mx max_two
set_option maxHeartbeats 16000000 in
set_option maxRecDepth 1000000 in
theorem rn12 (g9 gm gn t c1 nb b1 : Nat) (A1 B1 : Option Addr) (u : ByteArray) (a : S41) (s0 s1 s2 s3 s4 s5 s6 s7 s8 s9 s10 s11 s12 s13 s14 s15 x : Int) (sA : Option Addr) (sn sc : Nat) (hl : Bool) (v : Value) (old : Array Value) (u0 u1 u2 u3 u4 u5 u6 u7 u8 u10 u11 u12 u16 u17 u18 u19 u21 u22 u23 u24 u25 u26 u27 u28 u29 u30 u31 u32 u33 u34 u35 u36 u37 u38 u39 u40 u41 u42 u43 u44 u45 u46 u47 u48 u49 u50 u51 u52 u53 u54 u55 u56 u57 u58 u59 u60 u61 u62 u63 u64 u65 u66 u67 u68 u69 u70 u71 u72 u73 u74 u75 u76 u77 u78 u79 u80 u81 u82 u83 u84 u85 u86 u87 u88 u89 u90 u91 u92 u93 : Value) (W : World) (Q : Exit → Act → World → Prop)
    (hm : W.heap[gm]? = some (.cells #[.slice A1 t c1, .string u, .int .i64 a.f0, .int .i64 a.f1, .int .i64 a.f2, .int .i64 a.f3, .slice B1 nb b1] 105 (0, 0))) (hN : W.heap[gn]? = some (.cells #[.int .i64 s0, .int .i64 s1, .int .i64 s2, .int .i64 s3, .int .i64 s4, .int .i64 s5, .int .i64 s6, .int .i64 s7, .int .i64 s8, .int .i64 s9, .int .i64 s10, .int .i64 s11, .int .i64 s12, .int .i64 s13, .int .i64 s14, .int .i64 s15, .slice sA sn sc, .bool hl] 45 (0, 0))) (h9 : W.heap[g9]? = some (.cells old 47 (0, 0))) (ho9 : old.size = 19) (hn : gm ≠ g9 ∧ gn ≠ g9)
    (hpost : ∀ (t63 t64 t65 t66 t67 t68 t69 t70 t71 t72 t73 t74 : Value), (W.drew.setRow g9 #[.slice B1 nb b1, .int .i64 s0, .int .i64 s1, .int .i64 s2, .int .i64 s3, .int .i64 s4, .int .i64 s5, .int .i64 s6, .int .i64 s7, .int .i64 s8, .int .i64 s9, .int .i64 s10, .int .i64 s11, .int .i64 s12, .int .i64 s13, .int .i64 s14, .int .i64 s15, .slice sA sn sc, .bool hl]).heap[g9]? = some (.cells #[.slice B1 nb b1, .int .i64 s0, .int .i64 s1, .int .i64 s2, .int .i64 s3, .int .i64 s4, .int .i64 s5, .int .i64 s6, .int .i64 s7, .int .i64 s8, .int .i64 s9, .int .i64 s10, .int .i64 s11, .int .i64 s12, .int .i64 s13, .int .i64 s14, .int .i64 s15, .slice sA sn sc, .bool hl] 47 (0, 0)) → Q .normal ⟨#[u0, u1, u2, u3, u4, u5, u6, u7, .slice A1 t c1, .pointer (some ⟨g9, 0, none⟩), v, .bool true, .int .i64 x, .pointer (some ⟨gm, 0, none⟩), .pointer (some ⟨gn, 0, none⟩), v, u16, u17, u18, u19, .int .i64 x, u21, u22, u23, u24, u25, u26, u27, u28, u29, u30, u31, u32, u33, u34, u35, u36, u37, u38, u39, u40, u41, u42, u43, u44, u45, u46, u47, u48, u49, u50, u51, u52, u53, u54, u55, u56, u57, u58, u59, u60, u61, u62, t63, t64, t65, t66, t67, t68, t69, t70, t71, t72, t73, t74, u75, u76, u77, u78, u79, u80, u81, u82, u83, u84, u85, u86, u87, u88, u89, u90, u91, u92, u93], []⟩ (W.drew.setRow g9 #[.slice B1 nb b1, .int .i64 s0, .int .i64 s1, .int .i64 s2, .int .i64 s3, .int .i64 s4, .int .i64 s5, .int .i64 s6, .int .i64 s7, .int .i64 s8, .int .i64 s9, .int .i64 s10, .int .i64 s11, .int .i64 s12, .int .i64 s13, .int .i64 s14, .int .i64 s15, .slice sA sn sc, .bool hl])) :
    Code.wp Tryz.prog (cReg Tryz.f17 12) Q ⟨#[u0, u1, u2, u3, u4, u5, u6, u7, u8, .pointer (some ⟨g9, 0, none⟩), u10, u11, u12, .pointer (some ⟨gm, 0, none⟩), .pointer (some ⟨gn, 0, none⟩), v, u16, u17, u18, u19, .int .i64 x, u21, u22, u23, u24, u25, u26, u27, u28, u29, u30, u31, u32, u33, u34, u35, u36, u37, u38, u39, u40, u41, u42, u43, u44, u45, u46, u47, u48, u49, u50, u51, u52, u53, u54, u55, u56, u57, u58, u59, u60, u61, u62, u63, u64, u65, u66, u67, u68, u69, u70, u71, u72, u73, u74, u75, u76, u77, u78, u79, u80, u81, u82, u83, u84, u85, u86, u87, u88, u89, u90, u91, u92, u93], []⟩ W := by
  have HPO := Lib.hid hpost
  have EM := Lib.hid hm
  have EN := Lib.hid hN
  have E9 := Lib.hid h9
  clear hm hN h9 hpost
  have HB := Lib.hid (below_drew1 (Below.refl W.heap.size W))
  have EM := Lib.hid (blk_drew EM.out)
  have EN := Lib.hid (blk_drew EN.out)
  have E9 := Lib.hid (blk_drew E9.out)
  conv => arg 2; whnf
  refine wp_region_noPanic ?_
  refine wp_region_held_drew (S := fun W1 => W1.cell? ⟨gm, 0, none⟩ = some (.slice A1 t c1) ∧ W1.cell? ⟨gm, 6, none⟩ = some (.slice B1 nb b1) ∧ (rdS 45 (.pointer (some ⟨gn, 0, none⟩))).run Tryz.prog W1 = .ok (.agg #[.int .i64 s0, .int .i64 s1, .int .i64 s2, .int .i64 s3, .int .i64 s4, .int .i64 s5, .int .i64 s6, .int .i64 s7, .int .i64 s8, .int .i64 s9, .int .i64 s10, .int .i64 s11, .int .i64 s12, .int .i64 s13, .int .i64 s14, .int .i64 s15, .slice sA sn sc, .bool hl]) W1) (by kernel_rfl) ?_ (fun hHeld => ?_)
  focus ((try dsimp only); exact ⟨(blk_cell EM.out 0).trans rfl, (blk_cell EM.out 6).trans rfl, rd45_blk EN.out rfl⟩)
  first
    | (refine take_at 0 63 (v := ?_) rfl rfl (by kernel_rfl) (by kernel_rfl) (by kernel_rfl) (fun _ _ _ h => h) (Or.inl ⟨by rfl, ?_⟩) (by assumption) ?_; rotate_left; focus (intro w hSw; (try dsimp only at hSw); go_simp; try with_reducible rfl))
    | (refine take_at 0 63 (v := undef) rfl rfl (by kernel_rfl) (by kernel_rfl) (by kernel_rfl) (fun _ _ _ h => h) (Or.inr ⟨by rfl, rfl⟩) (by assumption) ?_)
  try simp only [Act.put, List.setIfInBounds_toArray, List.set_cons_zero, List.set_cons_succ]
  first
    | (refine take_at 1 64 (v := ?_) rfl rfl (by kernel_rfl) (by kernel_rfl) (by kernel_rfl) (fun _ _ _ h => h) (Or.inl ⟨by rfl, ?_⟩) (by assumption) ?_; rotate_left; focus (intro w hSw; (try dsimp only at hSw); go_simp; try with_reducible rfl))
    | (refine take_at 1 64 (v := undef) rfl rfl (by kernel_rfl) (by kernel_rfl) (by kernel_rfl) (fun _ _ _ h => h) (Or.inr ⟨by rfl, rfl⟩) (by assumption) ?_)
  try simp only [Act.put, List.setIfInBounds_toArray, List.set_cons_zero, List.set_cons_succ]
  first
    | (refine take_at 2 65 (v := ?_) rfl rfl (by kernel_rfl) (by kernel_rfl) (by kernel_rfl) (fun _ _ _ h => h) (Or.inl ⟨by rfl, ?_⟩) (by assumption) ?_; rotate_left; focus (intro w hSw; (try dsimp only at hSw); go_simp; try with_reducible rfl))
    | (refine take_at 2 65 (v := undef) rfl rfl (by kernel_rfl) (by kernel_rfl) (by kernel_rfl) (fun _ _ _ h => h) (Or.inr ⟨by rfl, rfl⟩) (by assumption) ?_)
  try simp only [Act.put, List.setIfInBounds_toArray, List.set_cons_zero, List.set_cons_succ]
  first
    | (refine take_at 3 66 (v := ?_) rfl rfl (by kernel_rfl) (by kernel_rfl) (by kernel_rfl) (fun _ _ _ h => h) (Or.inl ⟨by rfl, ?_⟩) (by assumption) ?_; rotate_left; focus (intro w hSw; (try dsimp only at hSw); go_simp; try with_reducible rfl))
    | (refine take_at 3 66 (v := undef) rfl rfl (by kernel_rfl) (by kernel_rfl) (by kernel_rfl) (fun _ _ _ h => h) (Or.inr ⟨by rfl, rfl⟩) (by assumption) ?_)
  try simp only [Act.put, List.setIfInBounds_toArray, List.set_cons_zero, List.set_cons_succ]
  first
    | (refine take_at 4 67 (v := ?_) rfl rfl (by kernel_rfl) (by kernel_rfl) (by kernel_rfl) (fun _ _ _ h => h) (Or.inl ⟨by rfl, ?_⟩) (by assumption) ?_; rotate_left; focus (intro w hSw; (try dsimp only at hSw); go_simp; try with_reducible rfl))
    | (refine take_at 4 67 (v := undef) rfl rfl (by kernel_rfl) (by kernel_rfl) (by kernel_rfl) (fun _ _ _ h => h) (Or.inr ⟨by rfl, rfl⟩) (by assumption) ?_)
  try simp only [Act.put, List.setIfInBounds_toArray, List.set_cons_zero, List.set_cons_succ]
  first
    | (refine take_at 5 68 (v := ?_) rfl rfl (by kernel_rfl) (by kernel_rfl) (by kernel_rfl) (fun _ _ _ h => h) (Or.inl ⟨by rfl, ?_⟩) (by assumption) ?_; rotate_left; focus (intro w hSw; (try dsimp only at hSw); go_simp; try with_reducible rfl))
    | (refine take_at 5 68 (v := undef) rfl rfl (by kernel_rfl) (by kernel_rfl) (by kernel_rfl) (fun _ _ _ h => h) (Or.inr ⟨by rfl, rfl⟩) (by assumption) ?_)
  try simp only [Act.put, List.setIfInBounds_toArray, List.set_cons_zero, List.set_cons_succ]
  first
    | (refine take_at 6 69 (v := ?_) rfl rfl (by kernel_rfl) (by kernel_rfl) (by kernel_rfl) (fun _ _ _ h => h) (Or.inl ⟨by rfl, ?_⟩) (by assumption) ?_; rotate_left; focus (intro w hSw; (try dsimp only at hSw); go_simp; try with_reducible rfl))
    | (refine take_at 6 69 (v := undef) rfl rfl (by kernel_rfl) (by kernel_rfl) (by kernel_rfl) (fun _ _ _ h => h) (Or.inr ⟨by rfl, rfl⟩) (by assumption) ?_)
  try simp only [Act.put, List.setIfInBounds_toArray, List.set_cons_zero, List.set_cons_succ]
  first
    | (refine take_at 7 70 (v := ?_) rfl rfl (by kernel_rfl) (by kernel_rfl) (by kernel_rfl) (fun _ _ _ h => h) (Or.inl ⟨by rfl, ?_⟩) (by assumption) ?_; rotate_left; focus (intro w hSw; (try dsimp only at hSw); go_simp; try with_reducible rfl))
    | (refine take_at 7 70 (v := undef) rfl rfl (by kernel_rfl) (by kernel_rfl) (by kernel_rfl) (fun _ _ _ h => h) (Or.inr ⟨by rfl, rfl⟩) (by assumption) ?_)
  try simp only [Act.put, List.setIfInBounds_toArray, List.set_cons_zero, List.set_cons_succ]
  first
    | (refine take_at 8 71 (v := ?_) rfl rfl (by kernel_rfl) (by kernel_rfl) (by kernel_rfl) (fun _ _ _ h => h) (Or.inl ⟨by rfl, ?_⟩) (by assumption) ?_; rotate_left; focus (intro w hSw; (try dsimp only at hSw); go_simp; try with_reducible rfl))
    | (refine take_at 8 71 (v := undef) rfl rfl (by kernel_rfl) (by kernel_rfl) (by kernel_rfl) (fun _ _ _ h => h) (Or.inr ⟨by rfl, rfl⟩) (by assumption) ?_)
  try simp only [Act.put, List.setIfInBounds_toArray, List.set_cons_zero, List.set_cons_succ]
  first
    | (refine take_at 9 72 (v := ?_) rfl rfl (by kernel_rfl) (by kernel_rfl) (by kernel_rfl) (fun _ _ _ h => h) (Or.inl ⟨by rfl, ?_⟩) (by assumption) ?_; rotate_left; focus (intro w hSw; (try dsimp only at hSw); go_simp; try with_reducible rfl))
    | (refine take_at 9 72 (v := undef) rfl rfl (by kernel_rfl) (by kernel_rfl) (by kernel_rfl) (fun _ _ _ h => h) (Or.inr ⟨by rfl, rfl⟩) (by assumption) ?_)
  try simp only [Act.put, List.setIfInBounds_toArray, List.set_cons_zero, List.set_cons_succ]
  first
    | (refine take_at 10 73 (v := ?_) rfl rfl (by kernel_rfl) (by kernel_rfl) (by kernel_rfl) (fun _ _ _ h => h) (Or.inl ⟨by rfl, ?_⟩) (by assumption) ?_; rotate_left; focus (intro w hSw; (try dsimp only at hSw); go_simp; try with_reducible rfl))
    | (refine take_at 10 73 (v := undef) rfl rfl (by kernel_rfl) (by kernel_rfl) (by kernel_rfl) (fun _ _ _ h => h) (Or.inr ⟨by rfl, rfl⟩) (by assumption) ?_)
  try simp only [Act.put, List.setIfInBounds_toArray, List.set_cons_zero, List.set_cons_succ]
  first
    | (refine take_at 11 74 (v := ?_) rfl rfl (by kernel_rfl) (by kernel_rfl) (by kernel_rfl) (fun _ _ _ h => h) (Or.inl ⟨by rfl, ?_⟩) (by assumption) ?_; rotate_left; focus (intro w hSw; (try dsimp only at hSw); go_simp; try with_reducible rfl))
    | (refine take_at 11 74 (v := undef) rfl rfl (by kernel_rfl) (by kernel_rfl) (by kernel_rfl) (fun _ _ _ h => h) (Or.inr ⟨by rfl, rfl⟩) (by assumption) ?_)
  try simp only [Act.put, List.setIfInBounds_toArray, List.set_cons_zero, List.set_cons_succ]
  first
    | (refine take_at 12 8 (v := ?_) rfl rfl (by kernel_rfl) (by kernel_rfl) (by kernel_rfl) (fun _ _ _ h => h) (Or.inl ⟨by rfl, ?_⟩) (by assumption) ?_; rotate_left; focus (intro w hSw; (try dsimp only at hSw); go_simp; try with_reducible rfl))
    | (refine take_at 12 8 (v := undef) rfl rfl (by kernel_rfl) (by kernel_rfl) (by kernel_rfl) (fun _ _ _ h => h) (Or.inr ⟨by rfl, rfl⟩) (by assumption) ?_)
  try simp only [Act.put, List.setIfInBounds_toArray, List.set_cons_zero, List.set_cons_succ]
  refine wpAnyH_ready (rs := [13]) (by kernel_rfl) (by simp) ?_
  refine AllReadyH.cons rfl (fun K hK => ?_) ?_
  · have hst := wr47b_blk (cs := #[.slice B1 nb b1, .int .i64 s0, .int .i64 s1, .int .i64 s2, .int .i64 s3, .int .i64 s4, .int .i64 s5, .int .i64 s6, .int .i64 s7, .int .i64 s8, .int .i64 s9, .int .i64 s10, .int .i64 s11, .int .i64 s12, .int .i64 s13, .int .i64 s14, .int .i64 s15, .slice sA sn sc, .bool hl]) E9.out (by exact ho9) rfl (by simp [Value.oneCell'])
    have EX := Lib.hid (setRow_heap _ _ _ (#[.slice B1 nb b1, .int .i64 s0, .int .i64 s1, .int .i64 s2, .int .i64 s3, .int .i64 s4, .int .i64 s5, .int .i64 s6, .int .i64 s7, .int .i64 s8, .int .i64 s9, .int .i64 s10, .int .i64 s11, .int .i64 s12, .int .i64 s13, .int .i64 s14, .int .i64 s15, .slice sA sn sc, .bool hl] : Array Value) _ _ E9.out)
    have EM := Lib.hid ((setRow_other _ g9 gm (#[.slice B1 nb b1, .int .i64 s0, .int .i64 s1, .int .i64 s2, .int .i64 s3, .int .i64 s4, .int .i64 s5, .int .i64 s6, .int .i64 s7, .int .i64 s8, .int .i64 s9, .int .i64 s10, .int .i64 s11, .int .i64 s12, .int .i64 s13, .int .i64 s14, .int .i64 s15, .slice sA sn sc, .bool hl] : Array Value) hn.1).trans EM.out)
    have EN := Lib.hid ((setRow_other _ g9 gn (#[.slice B1 nb b1, .int .i64 s0, .int .i64 s1, .int .i64 s2, .int .i64 s3, .int .i64 s4, .int .i64 s5, .int .i64 s6, .int .i64 s7, .int .i64 s8, .int .i64 s9, .int .i64 s10, .int .i64 s11, .int .i64 s12, .int .i64 s13, .int .i64 s14, .int .i64 s15, .slice sA sn sc, .bool hl] : Array Value) hn.2).trans EN.out)
    go_simp
    refine hK.out _ _ ?_ (fun hHeld => ?_)
    focus ((try dsimp only); exact ⟨(blk_cell EM.out 0).trans rfl, (blk_cell EM.out 6).trans rfl, rd45_blk EN.out rfl⟩)
    clear hK K
    first
      | (refine take_at 14 10 (v := ?_) rfl rfl (by kernel_rfl) (by kernel_rfl) (by kernel_rfl) (fun _ _ _ h => h) (Or.inl ⟨by rfl, ?_⟩) (by assumption) ?_; rotate_left; focus (intro w hSw; (try dsimp only at hSw); go_simp; try with_reducible rfl))
      | (refine take_at 14 10 (v := undef) rfl rfl (by kernel_rfl) (by kernel_rfl) (by kernel_rfl) (fun _ _ _ h => h) (Or.inr ⟨by rfl, rfl⟩) (by assumption) ?_)
    try simp only [Act.put, List.setIfInBounds_toArray, List.set_cons_zero, List.set_cons_succ]
    first
      | (refine take_at 15 11 (v := ?_) rfl rfl (by kernel_rfl) (by kernel_rfl) (by kernel_rfl) (fun _ _ _ h => h) (Or.inl ⟨by rfl, ?_⟩) (by assumption) ?_; rotate_left; focus (intro w hSw; (try dsimp only at hSw); go_simp; try with_reducible rfl))
      | (refine take_at 15 11 (v := undef) rfl rfl (by kernel_rfl) (by kernel_rfl) (by kernel_rfl) (fun _ _ _ h => h) (Or.inr ⟨by rfl, rfl⟩) (by assumption) ?_)
    try simp only [Act.put, List.setIfInBounds_toArray, List.set_cons_zero, List.set_cons_succ]
    first
      | (refine take_at 16 12 (v := ?_) rfl rfl (by kernel_rfl) (by kernel_rfl) (by kernel_rfl) (fun _ _ _ h => h) (Or.inl ⟨by rfl, ?_⟩) (by assumption) ?_; rotate_left; focus (intro w hSw; (try dsimp only at hSw); go_simp; try with_reducible rfl))
      | (refine take_at 16 12 (v := undef) rfl rfl (by kernel_rfl) (by kernel_rfl) (by kernel_rfl) (fun _ _ _ h => h) (Or.inr ⟨by rfl, rfl⟩) (by assumption) ?_)
    try simp only [Act.put, List.setIfInBounds_toArray, List.set_cons_zero, List.set_cons_succ]
    refine wpAnyH_done (by kernel_rfl) ?_ _
    refine NoPanic.normal ?_
    exact HPO.out _ _ _ _ _ _ _ _ _ _ _ _ EX.out
  exact AllReadyH.nil
set_option maxHeartbeats 16000000 in
set_option maxRecDepth 1000000 in
theorem run_f (tn c cb n K : Nat) (x : Int) (A B : Option Addr) (u : ByteArray) (a : S41) (t : List S50) (bs : List ByteArray) (S : Nat → (Nat → Int) × Bool) (tb : Nat → Bool) (ov : Nat → Int) (w : World)
    (hn : n ≤ 100) (hKn : K < n) (hx : ¬ x = 0) (hh : ∀ k, k ≤ K → (S k).2 = false)
    (hD : ∀ w1 : World, Below w.heap.size w w1 → Calls Tryz.prog 32 #[.slice A tn c, .string (⟨#[]⟩ : ByteArray)] w1 fun e w' => ∃ A' c', e = .returned (.slice A' t.length c') ∧ t.length ≤ c' ∧ Kd.F k50 w' (fun k => w1.heap.size ≤ k) A' t.length t ∧ Below w1.heap.size w1 w')
    (hC : Kd.C Kd.string w B bs.length bs) (hbs : bs.length ≤ 1000)
    (hstep : ∀ (gm : Nat) (W0 : World) (A1 : Option Addr) (c1 : Nat) (B1 : Option Addr) (b1 : Nat), W0.heap[gm]? = some (.cells #[.slice A1 t.length c1, .string u, .int .i64 a.f0, .int .i64 a.f1, .int .i64 a.f2, .int .i64 a.f3, .slice B1 bs.length b1] 105 (0, 0)) → t.length ≤ c1 → Kd.C k50 W0 A1 t.length t → bs.length ≤ b1 → Kd.C Kd.string W0 B1 bs.length bs → ∀ k, k < K → ∀ w1, Below W0.heap.size W0 w1 →
      Calls Tryz.prog 34 #[.agg #[.int .i64 ((S k).1 0), .int .i64 ((S k).1 1), .int .i64 ((S k).1 2), .int .i64 ((S k).1 3), .int .i64 ((S k).1 4), .int .i64 ((S k).1 5), .int .i64 ((S k).1 6), .int .i64 ((S k).1 7), .int .i64 ((S k).1 8), .int .i64 ((S k).1 9), .int .i64 ((S k).1 10), .int .i64 ((S k).1 11), .int .i64 ((S k).1 12), .int .i64 ((S k).1 13), .int .i64 ((S k).1 14), .int .i64 ((S k).1 15), .slice none 0 0, .bool false], .iface 103 (.pointer (some ⟨gm, 0, none⟩))] w1 fun e w' => e = .returned (.tuple #[.agg #[.int .i64 ((S (k + 1)).1 0), .int .i64 ((S (k + 1)).1 1), .int .i64 ((S (k + 1)).1 2), .int .i64 ((S (k + 1)).1 3), .int .i64 ((S (k + 1)).1 4), .int .i64 ((S (k + 1)).1 5), .int .i64 ((S (k + 1)).1 6), .int .i64 ((S (k + 1)).1 7), .int .i64 ((S (k + 1)).1 8), .int .i64 ((S (k + 1)).1 9), .int .i64 ((S (k + 1)).1 10), .int .i64 ((S (k + 1)).1 11), .int .i64 ((S (k + 1)).1 12), .int .i64 ((S (k + 1)).1 13), .int .i64 ((S (k + 1)).1 14), .int .i64 ((S (k + 1)).1 15), .slice none 0 0, .bool (S (k + 1)).2], .int .i64 (ov k), .bool (tb k), .int .i64 0]) ∧ Below w1.heap.size w1 w')
    (hflt : ∀ (gm : Nat) (W0 : World) (A1 : Option Addr) (c1 : Nat) (B1 : Option Addr) (b1 : Nat), W0.heap[gm]? = some (.cells #[.slice A1 t.length c1, .string u, .int .i64 a.f0, .int .i64 a.f1, .int .i64 a.f2, .int .i64 a.f3, .slice B1 bs.length b1] 105 (0, 0)) → t.length ≤ c1 → Kd.C k50 W0 A1 t.length t → bs.length ≤ b1 → Kd.C Kd.string W0 B1 bs.length bs → ∀ w1, Below W0.heap.size W0 w1 →
      Calls Tryz.prog 34 #[.agg #[.int .i64 ((S K).1 0), .int .i64 ((S K).1 1), .int .i64 ((S K).1 2), .int .i64 ((S K).1 3), .int .i64 ((S K).1 4), .int .i64 ((S K).1 5), .int .i64 ((S K).1 6), .int .i64 ((S K).1 7), .int .i64 ((S K).1 8), .int .i64 ((S K).1 9), .int .i64 ((S K).1 10), .int .i64 ((S K).1 11), .int .i64 ((S K).1 12), .int .i64 ((S K).1 13), .int .i64 ((S K).1 14), .int .i64 ((S K).1 15), .slice none 0 0, .bool false], .iface 103 (.pointer (some ⟨gm, 0, none⟩))] w1 fun e w' => e = .returned (.tuple #[.agg #[.int .i64 0, .int .i64 0, .int .i64 0, .int .i64 0, .int .i64 0, .int .i64 0, .int .i64 0, .int .i64 0, .int .i64 0, .int .i64 0, .int .i64 0, .int .i64 0, .int .i64 0, .int .i64 0, .int .i64 0, .int .i64 0, .slice none 0 0, .bool false], .int .i64 0, .bool false, .int .i64 x]) ∧ Below w1.heap.size w1 w') :
    Calls Tryz.prog 17 #[.slice A tn c, .agg #[.string u, .int .i64 a.f0, .int .i64 a.f1, .int .i64 a.f2, .int .i64 a.f3], .agg #[.slice B bs.length cb, .int .i64 ((S 0).1 0), .int .i64 ((S 0).1 1), .int .i64 ((S 0).1 2), .int .i64 ((S 0).1 3), .int .i64 ((S 0).1 4), .int .i64 ((S 0).1 5), .int .i64 ((S 0).1 6), .int .i64 ((S 0).1 7), .int .i64 ((S 0).1 8), .int .i64 ((S 0).1 9), .int .i64 ((S 0).1 10), .int .i64 ((S 0).1 11), .int .i64 ((S 0).1 12), .int .i64 ((S 0).1 13), .int .i64 ((S 0).1 14), .int .i64 ((S 0).1 15), .slice none 0 0, .bool (S 0).2], .int .i64 (n : Int)] w fun e w' => ∃ A1 c1 B1 b1 To tc, e = .returned (.tuple #[.slice A1 t.length c1, .agg #[.slice B1 bs.length b1, .int .i64 ((S K).1 0), .int .i64 ((S K).1 1), .int .i64 ((S K).1 2), .int .i64 ((S K).1 3), .int .i64 ((S K).1 4), .int .i64 ((S K).1 5), .int .i64 ((S K).1 6), .int .i64 ((S K).1 7), .int .i64 ((S K).1 8), .int .i64 ((S K).1 9), .int .i64 ((S K).1 10), .int .i64 ((S K).1 11), .int .i64 ((S K).1 12), .int .i64 ((S K).1 13), .int .i64 ((S K).1 14), .int .i64 ((S K).1 15), .slice none 0 0, .bool (S K).2], .slice To (outs tb ov K).length tc, .bool true, .int .i64 x]) ∧ t.length ≤ c1 ∧ Kd.C k50 w' A1 t.length t ∧ bs.length ≤ b1 ∧ Kd.C Kd.string w' B1 bs.length bs ∧ (outs tb ov K).length ≤ tc ∧ Kd.C (Kd.int .i64) w' To (outs tb ov K).length (outs tb ov K) ∧ Below w.heap.size w w' := by
  have HD := Lib.hid hD
  have HC := Lib.hid hC
  have HST := Lib.hid hstep
  have HH := Lib.hid hh
  have HFL := Lib.hid hflt
  clear hD hC hstep hh hflt
  have hn0 : (0 : Int) ≤ (n : Int) := by omega
  have hn1 : (n : Int) ≤ 100 := by omega
  have HB0 := Lib.hid (below_alloc (below_alloc (below_alloc (Below.refl w.heap.size w) (.cells #[.string u, .int .i64 a.f0, .int .i64 a.f1, .int .i64 a.f2, .int .i64 a.f3] 52)) (.cells #[.slice B bs.length cb, .int .i64 ((S 0).1 0), .int .i64 ((S 0).1 1), .int .i64 ((S 0).1 2), .int .i64 ((S 0).1 3), .int .i64 ((S 0).1 4), .int .i64 ((S 0).1 5), .int .i64 ((S 0).1 6), .int .i64 ((S 0).1 7), .int .i64 ((S 0).1 8), .int .i64 ((S 0).1 9), .int .i64 ((S 0).1 10), .int .i64 ((S 0).1 11), .int .i64 ((S 0).1 12), .int .i64 ((S 0).1 13), .int .i64 ((S 0).1 14), .int .i64 ((S 0).1 15), .slice none 0 0, .bool (S 0).2] 47)) (.cells #[.slice none 0 0, .int .i64 0, .int .i64 0, .int .i64 0, .int .i64 0, .int .i64 0, .int .i64 0, .int .i64 0, .int .i64 0, .int .i64 0, .int .i64 0, .int .i64 0, .int .i64 0, .int .i64 0, .int .i64 0, .int .i64 0, .int .i64 0, .slice none 0 0, .bool false] 47))
  have ES := Lib.hid (blk_alloc (blk_alloc (blk_new w (.cells #[.string u, .int .i64 a.f0, .int .i64 a.f1, .int .i64 a.f2, .int .i64 a.f3] 52)) (.cells #[.slice B bs.length cb, .int .i64 ((S 0).1 0), .int .i64 ((S 0).1 1), .int .i64 ((S 0).1 2), .int .i64 ((S 0).1 3), .int .i64 ((S 0).1 4), .int .i64 ((S 0).1 5), .int .i64 ((S 0).1 6), .int .i64 ((S 0).1 7), .int .i64 ((S 0).1 8), .int .i64 ((S 0).1 9), .int .i64 ((S 0).1 10), .int .i64 ((S 0).1 11), .int .i64 ((S 0).1 12), .int .i64 ((S 0).1 13), .int .i64 ((S 0).1 14), .int .i64 ((S 0).1 15), .slice none 0 0, .bool (S 0).2] 47)) (.cells #[.slice none 0 0, .int .i64 0, .int .i64 0, .int .i64 0, .int .i64 0, .int .i64 0, .int .i64 0, .int .i64 0, .int .i64 0, .int .i64 0, .int .i64 0, .int .i64 0, .int .i64 0, .int .i64 0, .int .i64 0, .int .i64 0, .int .i64 0, .slice none 0 0, .bool false] 47))
  have EP := Lib.hid (show (((w.alloc (.cells #[.string u, .int .i64 a.f0, .int .i64 a.f1, .int .i64 a.f2, .int .i64 a.f3] 52)).alloc (.cells #[.slice B bs.length cb, .int .i64 ((S 0).1 0), .int .i64 ((S 0).1 1), .int .i64 ((S 0).1 2), .int .i64 ((S 0).1 3), .int .i64 ((S 0).1 4), .int .i64 ((S 0).1 5), .int .i64 ((S 0).1 6), .int .i64 ((S 0).1 7), .int .i64 ((S 0).1 8), .int .i64 ((S 0).1 9), .int .i64 ((S 0).1 10), .int .i64 ((S 0).1 11), .int .i64 ((S 0).1 12), .int .i64 ((S 0).1 13), .int .i64 ((S 0).1 14), .int .i64 ((S 0).1 15), .slice none 0 0, .bool (S 0).2] 47)).alloc (.cells #[.slice none 0 0, .int .i64 0, .int .i64 0, .int .i64 0, .int .i64 0, .int .i64 0, .int .i64 0, .int .i64 0, .int .i64 0, .int .i64 0, .int .i64 0, .int .i64 0, .int .i64 0, .int .i64 0, .int .i64 0, .int .i64 0, .int .i64 0, .slice none 0 0, .bool false] 47)).heap[w.heap.size + 1]? = some (.cells #[.slice B bs.length cb, .int .i64 ((S 0).1 0), .int .i64 ((S 0).1 1), .int .i64 ((S 0).1 2), .int .i64 ((S 0).1 3), .int .i64 ((S 0).1 4), .int .i64 ((S 0).1 5), .int .i64 ((S 0).1 6), .int .i64 ((S 0).1 7), .int .i64 ((S 0).1 8), .int .i64 ((S 0).1 9), .int .i64 ((S 0).1 10), .int .i64 ((S 0).1 11), .int .i64 ((S 0).1 12), .int .i64 ((S 0).1 13), .int .i64 ((S 0).1 14), .int .i64 ((S 0).1 15), .slice none 0 0, .bool (S 0).2] 47) from blk_alloc (by have h := blk_new (w.alloc (.cells #[.string u, .int .i64 a.f0, .int .i64 a.f1, .int .i64 a.f2, .int .i64 a.f3] 52)) (.cells #[.slice B bs.length cb, .int .i64 ((S 0).1 0), .int .i64 ((S 0).1 1), .int .i64 ((S 0).1 2), .int .i64 ((S 0).1 3), .int .i64 ((S 0).1 4), .int .i64 ((S 0).1 5), .int .i64 ((S 0).1 6), .int .i64 ((S 0).1 7), .int .i64 ((S 0).1 8), .int .i64 ((S 0).1 9), .int .i64 ((S 0).1 10), .int .i64 ((S 0).1 11), .int .i64 ((S 0).1 12), .int .i64 ((S 0).1 13), .int .i64 ((S 0).1 14), .int .i64 ((S 0).1 15), .slice none 0 0, .bool (S 0).2] 47); simp only [World.size_alloc] at h; exact h) (.cells #[.slice none 0 0, .int .i64 0, .int .i64 0, .int .i64 0, .int .i64 0, .int .i64 0, .int .i64 0, .int .i64 0, .int .i64 0, .int .i64 0, .int .i64 0, .int .i64 0, .int .i64 0, .int .i64 0, .int .i64 0, .int .i64 0, .int .i64 0, .slice none 0 0, .bool false] 47))
  have E9 := Lib.hid (show (((w.alloc (.cells #[.string u, .int .i64 a.f0, .int .i64 a.f1, .int .i64 a.f2, .int .i64 a.f3] 52)).alloc (.cells #[.slice B bs.length cb, .int .i64 ((S 0).1 0), .int .i64 ((S 0).1 1), .int .i64 ((S 0).1 2), .int .i64 ((S 0).1 3), .int .i64 ((S 0).1 4), .int .i64 ((S 0).1 5), .int .i64 ((S 0).1 6), .int .i64 ((S 0).1 7), .int .i64 ((S 0).1 8), .int .i64 ((S 0).1 9), .int .i64 ((S 0).1 10), .int .i64 ((S 0).1 11), .int .i64 ((S 0).1 12), .int .i64 ((S 0).1 13), .int .i64 ((S 0).1 14), .int .i64 ((S 0).1 15), .slice none 0 0, .bool (S 0).2] 47)).alloc (.cells #[.slice none 0 0, .int .i64 0, .int .i64 0, .int .i64 0, .int .i64 0, .int .i64 0, .int .i64 0, .int .i64 0, .int .i64 0, .int .i64 0, .int .i64 0, .int .i64 0, .int .i64 0, .int .i64 0, .int .i64 0, .int .i64 0, .int .i64 0, .slice none 0 0, .bool false] 47)).heap[w.heap.size + 1 + 1]? = some (.cells #[.slice none 0 0, .int .i64 0, .int .i64 0, .int .i64 0, .int .i64 0, .int .i64 0, .int .i64 0, .int .i64 0, .int .i64 0, .int .i64 0, .int .i64 0, .int .i64 0, .int .i64 0, .int .i64 0, .int .i64 0, .int .i64 0, .int .i64 0, .slice none 0 0, .bool false] 47) from by have h := blk_new ((w.alloc (.cells #[.string u, .int .i64 a.f0, .int .i64 a.f1, .int .i64 a.f2, .int .i64 a.f3] 52)).alloc (.cells #[.slice B bs.length cb, .int .i64 ((S 0).1 0), .int .i64 ((S 0).1 1), .int .i64 ((S 0).1 2), .int .i64 ((S 0).1 3), .int .i64 ((S 0).1 4), .int .i64 ((S 0).1 5), .int .i64 ((S 0).1 6), .int .i64 ((S 0).1 7), .int .i64 ((S 0).1 8), .int .i64 ((S 0).1 9), .int .i64 ((S 0).1 10), .int .i64 ((S 0).1 11), .int .i64 ((S 0).1 12), .int .i64 ((S 0).1 13), .int .i64 ((S 0).1 14), .int .i64 ((S 0).1 15), .slice none 0 0, .bool (S 0).2] 47)) (.cells #[.slice none 0 0, .int .i64 0, .int .i64 0, .int .i64 0, .int .i64 0, .int .i64 0, .int .i64 0, .int .i64 0, .int .i64 0, .int .i64 0, .int .i64 0, .int .i64 0, .int .i64 0, .int .i64 0, .int .i64 0, .int .i64 0, .int .i64 0, .slice none 0 0, .bool false] 47); simp only [World.size_alloc] at h; exact h)
  go_enter Tryz.func17, Tryz.ntmps17
  go_wp2
  refine rn3 w.heap.size (w.heap.size + 1) tn c cb A B u a t bs _ _ _ _ _ _ _ _ _ _ _ _ _ _ _ _ _ _ _ _ _ _ _ _ _ _ _ _ _ _ _ _ _ _ _ _ _ _ _ _ _ _ _ _ _ _ _ _ _ _ _ _ _ _ _ _ _ _ _ _ _ _ _ _ _ _ _ _ _ _ _ _ _ _ _ _ _ _ _ _ _ _ _ _ _ _ _ _ _ _ _ _ _ _ ES.out EP.out rfl (fun w1 hb => HD.out w1 (below_step HB0.out hb)) (fun w1 hb => clone28 bs B cb w1 (Kd.C_below HC.out (below_step HB0.out hb)) (by omega)) ?_
  intro gm W0 A1 c1 B1 b1 t28 t29 t30 t31 t32 t33 t34 t35 hm hc1 hCt hb1 hCb hgm0 hb
  have EM := Lib.hid hm
  have HCT := Lib.hid hCt
  have HCB := Lib.hid hCb
  have E9 := Lib.hid (blk_below E9.out hb)
  have EP := Lib.hid (blk_below EP.out hb)
  have HBW := Lib.hid (below_step HB0.out hb)
  have hlt9 := blk_lt E9.out
  have hltm := blk_lt hm
  clear hm hCt hCb hb
  have hrd : (rdS 45 (.pointer (some ⟨w.heap.size + 1, 1, none⟩))).run Tryz.prog W0 = .ok (.agg #[.int .i64 ((S 0).1 0), .int .i64 ((S 0).1 1), .int .i64 ((S 0).1 2), .int .i64 ((S 0).1 3), .int .i64 ((S 0).1 4), .int .i64 ((S 0).1 5), .int .i64 ((S 0).1 6), .int .i64 ((S 0).1 7), .int .i64 ((S 0).1 8), .int .i64 ((S 0).1 9), .int .i64 ((S 0).1 10), .int .i64 ((S 0).1 11), .int .i64 ((S 0).1 12), .int .i64 ((S 0).1 13), .int .i64 ((S 0).1 14), .int .i64 ((S 0).1 15), .slice none 0 0, .bool (S 0).2]) W0 := rd_in (t := 45) (k := 18) EP.out Tryz.isAgg45 Tryz.sizeOf45 (by show 1 + 18 ≤ 19; omega)
  go_wp2_with (go_at_call 33; refine (clone33_nil _).mono ?_; rintro e w1 ⟨rfl, rfl⟩)
  have hgm : gm < W0.heap.size := hltm
  go_loopg [15, 16] K (fun kk s15 s16 wr => ∃ k : Nat, k ≤ K ∧ K - k ≤ kk ∧ s16 = .int .i64 (k : Int) ∧ Hid (OwnRow (fun (x : Int) l => l = [.int .i64 x]) 2 1 wr W0.heap.size s15 (outs tb ov k)) ∧ Hid (wr.heap[W0.heap.size]? = some (.cells #[.int .i64 ((S k).1 0), .int .i64 ((S k).1 1), .int .i64 ((S k).1 2), .int .i64 ((S k).1 3), .int .i64 ((S k).1 4), .int .i64 ((S k).1 5), .int .i64 ((S k).1 6), .int .i64 ((S k).1 7), .int .i64 ((S k).1 8), .int .i64 ((S k).1 9), .int .i64 ((S k).1 10), .int .i64 ((S k).1 11), .int .i64 ((S k).1 12), .int .i64 ((S k).1 13), .int .i64 ((S k).1 14), .int .i64 ((S k).1 15), .slice none 0 0, .bool (S k).2] 45 (0, 0))) ∧ Hid (Below W0.heap.size W0 wr))
  case atStart => exact ⟨0, Nat.zero_le _, Nat.le_refl _, rfl, Lib.hid (OwnRow.none_ _ _ _ _ _), Lib.hid (blk_new W0 _), Lib.hid (below_alloc (Below.refl _ _) _)⟩
  case round =>
    obtain ⟨k, hk, hkk, rfl, HO, HE, HB⟩ := hrel
    obtain ⟨Ao, co, rfl, hco, _⟩ := OwnRow.reads HO.out
    have hol := outs_len tb ov k
    by_cases hkK : k < K
    · have hkn : (k : Int) < (n : Int) := by omega
      have hs2 := HH.out k (Nat.le_of_lt hkK)
      have HE := Lib.hid (show wr.heap[W0.heap.size]? = some (.cells #[.int .i64 ((S k).1 0), .int .i64 ((S k).1 1), .int .i64 ((S k).1 2), .int .i64 ((S k).1 3), .int .i64 ((S k).1 4), .int .i64 ((S k).1 5), .int .i64 ((S k).1 6), .int .i64 ((S k).1 7), .int .i64 ((S k).1 8), .int .i64 ((S k).1 9), .int .i64 ((S k).1 10), .int .i64 ((S k).1 11), .int .i64 ((S k).1 12), .int .i64 ((S k).1 13), .int .i64 ((S k).1 14), .int .i64 ((S k).1 15), .slice none 0 0, .bool false] 45 (0, 0)) from by have h := HE.out; rw [hs2] at h; exact h)
      have q17 : wr.cell? ⟨W0.heap.size, 17, none⟩ = some (.bool false) := (blk_cell HE.out 17).trans rfl
      have hrk := rd45_blk HE.out rfl
      have HOUT := Lib.hid (show outs tb ov (k + 1) = outs tb ov k ++ (if tb k then [ov k] else []) from rfl)
      have HS := Lib.hid fun w1 hb => HST.out gm W0 A1 c1 B1 b1 EM.out hc1 (Kd.F_now HCT.out) hb1 (Kd.F_now HCB.out) k hkK w1 hb
      generalize hTB : tb k = tbk at HS HOUT
      have HT := Lib.hid hTB
      clear hTB
      generalize outs tb ov k = xs at HO HOUT hco hol ⊢
      cases tbk with
      | true =>
        go_wp2_with (first
          | (at_builtin; have hgate := HO1.out; clear hgate; refine OwnRow.append W0.heap.size rfl _ _ 34 2 (.int .i64 0) 1 8 rfl Tryz.underlying34 inf2 rfl (by decide) (by decide) (.slice Ao xs.length co) xs (ov k) [.int .i64 (ov k)] rfl (by rw [World.size_alloc]; rfl) rfl rfl (by simp [Value.oneCell']) HO1.out HB1.out (below_size HB1.out) (by omega) ?_; intro v1 w3 hO hB hg hat; have HO2 := Lib.hid hO; have HB2 := Lib.hid hB; have HE2 := Lib.hid (blk_grown HE1.out hg (OwnRow.ne_block HO1.out HE1.out (by decide))); have HX2 := Lib.hid (blk_grown HX1.out hg (OwnRow.ne_block HO1.out HX1.out (by decide))); have hrx := rd45_blk HX2.out rfl; have hst := wr45_blk (cs := #[.int .i64 ((S (k + 1)).1 0), .int .i64 ((S (k + 1)).1 1), .int .i64 ((S (k + 1)).1 2), .int .i64 ((S (k + 1)).1 3), .int .i64 ((S (k + 1)).1 4), .int .i64 ((S (k + 1)).1 5), .int .i64 ((S (k + 1)).1 6), .int .i64 ((S (k + 1)).1 7), .int .i64 ((S (k + 1)).1 8), .int .i64 ((S (k + 1)).1 9), .int .i64 ((S (k + 1)).1 10), .int .i64 ((S (k + 1)).1 11), .int .i64 ((S (k + 1)).1 12), .int .i64 ((S (k + 1)).1 13), .int .i64 ((S (k + 1)).1 14), .int .i64 ((S (k + 1)).1 15), .slice none 0 0, .bool (S (k + 1)).2]) HE2.out rfl rfl (by simp [Value.oneCell']); clear hO hB hg hat)
          | (go_at_call 34; refine (HS.out wr HB.out).mono ?_; rintro e w2 ⟨rfl, hb⟩; have HO1 := Lib.hid (OwnRow.below (OwnRow.below HO.out hb) (below_alloc (Below.refl _ _) (.cells #[.int .i64 ((S (k + 1)).1 0), .int .i64 ((S (k + 1)).1 1), .int .i64 ((S (k + 1)).1 2), .int .i64 ((S (k + 1)).1 3), .int .i64 ((S (k + 1)).1 4), .int .i64 ((S (k + 1)).1 5), .int .i64 ((S (k + 1)).1 6), .int .i64 ((S (k + 1)).1 7), .int .i64 ((S (k + 1)).1 8), .int .i64 ((S (k + 1)).1 9), .int .i64 ((S (k + 1)).1 10), .int .i64 ((S (k + 1)).1 11), .int .i64 ((S (k + 1)).1 12), .int .i64 ((S (k + 1)).1 13), .int .i64 ((S (k + 1)).1 14), .int .i64 ((S (k + 1)).1 15), .slice none 0 0, .bool (S (k + 1)).2] 45))); have HB1 := Lib.hid (below_alloc (below_step HB.out hb) (.cells #[.int .i64 ((S (k + 1)).1 0), .int .i64 ((S (k + 1)).1 1), .int .i64 ((S (k + 1)).1 2), .int .i64 ((S (k + 1)).1 3), .int .i64 ((S (k + 1)).1 4), .int .i64 ((S (k + 1)).1 5), .int .i64 ((S (k + 1)).1 6), .int .i64 ((S (k + 1)).1 7), .int .i64 ((S (k + 1)).1 8), .int .i64 ((S (k + 1)).1 9), .int .i64 ((S (k + 1)).1 10), .int .i64 ((S (k + 1)).1 11), .int .i64 ((S (k + 1)).1 12), .int .i64 ((S (k + 1)).1 13), .int .i64 ((S (k + 1)).1 14), .int .i64 ((S (k + 1)).1 15), .slice none 0 0, .bool (S (k + 1)).2] 45)); have HE1 := Lib.hid (blk_alloc (blk_below HE.out hb) (.cells #[.int .i64 ((S (k + 1)).1 0), .int .i64 ((S (k + 1)).1 1), .int .i64 ((S (k + 1)).1 2), .int .i64 ((S (k + 1)).1 3), .int .i64 ((S (k + 1)).1 4), .int .i64 ((S (k + 1)).1 5), .int .i64 ((S (k + 1)).1 6), .int .i64 ((S (k + 1)).1 7), .int .i64 ((S (k + 1)).1 8), .int .i64 ((S (k + 1)).1 9), .int .i64 ((S (k + 1)).1 10), .int .i64 ((S (k + 1)).1 11), .int .i64 ((S (k + 1)).1 12), .int .i64 ((S (k + 1)).1 13), .int .i64 ((S (k + 1)).1 14), .int .i64 ((S (k + 1)).1 15), .slice none 0 0, .bool (S (k + 1)).2] 45)); have HX1 := Lib.hid (blk_new w2 (.cells #[.int .i64 ((S (k + 1)).1 0), .int .i64 ((S (k + 1)).1 1), .int .i64 ((S (k + 1)).1 2), .int .i64 ((S (k + 1)).1 3), .int .i64 ((S (k + 1)).1 4), .int .i64 ((S (k + 1)).1 5), .int .i64 ((S (k + 1)).1 6), .int .i64 ((S (k + 1)).1 7), .int .i64 ((S (k + 1)).1 8), .int .i64 ((S (k + 1)).1 9), .int .i64 ((S (k + 1)).1 10), .int .i64 ((S (k + 1)).1 11), .int .i64 ((S (k + 1)).1 12), .int .i64 ((S (k + 1)).1 13), .int .i64 ((S (k + 1)).1 14), .int .i64 ((S (k + 1)).1 15), .slice none 0 0, .bool (S (k + 1)).2] 45)); clear hb))
        have HE3 := Lib.hid (setRow_heap _ _ _ (#[.int .i64 ((S (k + 1)).1 0), .int .i64 ((S (k + 1)).1 1), .int .i64 ((S (k + 1)).1 2), .int .i64 ((S (k + 1)).1 3), .int .i64 ((S (k + 1)).1 4), .int .i64 ((S (k + 1)).1 5), .int .i64 ((S (k + 1)).1 6), .int .i64 ((S (k + 1)).1 7), .int .i64 ((S (k + 1)).1 8), .int .i64 ((S (k + 1)).1 9), .int .i64 ((S (k + 1)).1 10), .int .i64 ((S (k + 1)).1 11), .int .i64 ((S (k + 1)).1 12), .int .i64 ((S (k + 1)).1 13), .int .i64 ((S (k + 1)).1 14), .int .i64 ((S (k + 1)).1 15), .slice none 0 0, .bool (S (k + 1)).2] : Array Value) _ _ HE2.out)
        have HO3 := Lib.hid (own_setRow HO2.out HE2.out (by decide) (#[.int .i64 ((S (k + 1)).1 0), .int .i64 ((S (k + 1)).1 1), .int .i64 ((S (k + 1)).1 2), .int .i64 ((S (k + 1)).1 3), .int .i64 ((S (k + 1)).1 4), .int .i64 ((S (k + 1)).1 5), .int .i64 ((S (k + 1)).1 6), .int .i64 ((S (k + 1)).1 7), .int .i64 ((S (k + 1)).1 8), .int .i64 ((S (k + 1)).1 9), .int .i64 ((S (k + 1)).1 10), .int .i64 ((S (k + 1)).1 11), .int .i64 ((S (k + 1)).1 12), .int .i64 ((S (k + 1)).1 13), .int .i64 ((S (k + 1)).1 14), .int .i64 ((S (k + 1)).1 15), .slice none 0 0, .bool (S (k + 1)).2] : Array Value))
        go_roundg (K - (k + 1))
        case measure => omega
        case rel => exact ⟨k + 1, hkK, Nat.le_refl _, by go_num, Lib.hid (by rw [HOUT.out]; exact HO3.out), HE3, Lib.hid (below_setRow HB2.out (Nat.le_refl _) _)⟩
      | false =>
        go_wp2_with (go_at_call 34; refine (HS.out wr HB.out).mono ?_; rintro e w2 ⟨rfl, hb⟩; have HO1 := Lib.hid (OwnRow.below (OwnRow.below HO.out hb) (below_alloc (Below.refl _ _) (.cells #[.int .i64 ((S (k + 1)).1 0), .int .i64 ((S (k + 1)).1 1), .int .i64 ((S (k + 1)).1 2), .int .i64 ((S (k + 1)).1 3), .int .i64 ((S (k + 1)).1 4), .int .i64 ((S (k + 1)).1 5), .int .i64 ((S (k + 1)).1 6), .int .i64 ((S (k + 1)).1 7), .int .i64 ((S (k + 1)).1 8), .int .i64 ((S (k + 1)).1 9), .int .i64 ((S (k + 1)).1 10), .int .i64 ((S (k + 1)).1 11), .int .i64 ((S (k + 1)).1 12), .int .i64 ((S (k + 1)).1 13), .int .i64 ((S (k + 1)).1 14), .int .i64 ((S (k + 1)).1 15), .slice none 0 0, .bool (S (k + 1)).2] 45))); have HB1 := Lib.hid (below_alloc (below_step HB.out hb) (.cells #[.int .i64 ((S (k + 1)).1 0), .int .i64 ((S (k + 1)).1 1), .int .i64 ((S (k + 1)).1 2), .int .i64 ((S (k + 1)).1 3), .int .i64 ((S (k + 1)).1 4), .int .i64 ((S (k + 1)).1 5), .int .i64 ((S (k + 1)).1 6), .int .i64 ((S (k + 1)).1 7), .int .i64 ((S (k + 1)).1 8), .int .i64 ((S (k + 1)).1 9), .int .i64 ((S (k + 1)).1 10), .int .i64 ((S (k + 1)).1 11), .int .i64 ((S (k + 1)).1 12), .int .i64 ((S (k + 1)).1 13), .int .i64 ((S (k + 1)).1 14), .int .i64 ((S (k + 1)).1 15), .slice none 0 0, .bool (S (k + 1)).2] 45)); have HE1 := Lib.hid (blk_alloc (blk_below HE.out hb) (.cells #[.int .i64 ((S (k + 1)).1 0), .int .i64 ((S (k + 1)).1 1), .int .i64 ((S (k + 1)).1 2), .int .i64 ((S (k + 1)).1 3), .int .i64 ((S (k + 1)).1 4), .int .i64 ((S (k + 1)).1 5), .int .i64 ((S (k + 1)).1 6), .int .i64 ((S (k + 1)).1 7), .int .i64 ((S (k + 1)).1 8), .int .i64 ((S (k + 1)).1 9), .int .i64 ((S (k + 1)).1 10), .int .i64 ((S (k + 1)).1 11), .int .i64 ((S (k + 1)).1 12), .int .i64 ((S (k + 1)).1 13), .int .i64 ((S (k + 1)).1 14), .int .i64 ((S (k + 1)).1 15), .slice none 0 0, .bool (S (k + 1)).2] 45)); have hst := wr45_blk (cs := #[.int .i64 ((S (k + 1)).1 0), .int .i64 ((S (k + 1)).1 1), .int .i64 ((S (k + 1)).1 2), .int .i64 ((S (k + 1)).1 3), .int .i64 ((S (k + 1)).1 4), .int .i64 ((S (k + 1)).1 5), .int .i64 ((S (k + 1)).1 6), .int .i64 ((S (k + 1)).1 7), .int .i64 ((S (k + 1)).1 8), .int .i64 ((S (k + 1)).1 9), .int .i64 ((S (k + 1)).1 10), .int .i64 ((S (k + 1)).1 11), .int .i64 ((S (k + 1)).1 12), .int .i64 ((S (k + 1)).1 13), .int .i64 ((S (k + 1)).1 14), .int .i64 ((S (k + 1)).1 15), .slice none 0 0, .bool (S (k + 1)).2]) HE1.out rfl rfl (by simp [Value.oneCell']); clear hb)
        have HE3 := Lib.hid (setRow_heap _ _ _ (#[.int .i64 ((S (k + 1)).1 0), .int .i64 ((S (k + 1)).1 1), .int .i64 ((S (k + 1)).1 2), .int .i64 ((S (k + 1)).1 3), .int .i64 ((S (k + 1)).1 4), .int .i64 ((S (k + 1)).1 5), .int .i64 ((S (k + 1)).1 6), .int .i64 ((S (k + 1)).1 7), .int .i64 ((S (k + 1)).1 8), .int .i64 ((S (k + 1)).1 9), .int .i64 ((S (k + 1)).1 10), .int .i64 ((S (k + 1)).1 11), .int .i64 ((S (k + 1)).1 12), .int .i64 ((S (k + 1)).1 13), .int .i64 ((S (k + 1)).1 14), .int .i64 ((S (k + 1)).1 15), .slice none 0 0, .bool (S (k + 1)).2] : Array Value) _ _ HE1.out)
        have HO3 := Lib.hid (own_setRow HO1.out HE1.out (by decide) (#[.int .i64 ((S (k + 1)).1 0), .int .i64 ((S (k + 1)).1 1), .int .i64 ((S (k + 1)).1 2), .int .i64 ((S (k + 1)).1 3), .int .i64 ((S (k + 1)).1 4), .int .i64 ((S (k + 1)).1 5), .int .i64 ((S (k + 1)).1 6), .int .i64 ((S (k + 1)).1 7), .int .i64 ((S (k + 1)).1 8), .int .i64 ((S (k + 1)).1 9), .int .i64 ((S (k + 1)).1 10), .int .i64 ((S (k + 1)).1 11), .int .i64 ((S (k + 1)).1 12), .int .i64 ((S (k + 1)).1 13), .int .i64 ((S (k + 1)).1 14), .int .i64 ((S (k + 1)).1 15), .slice none 0 0, .bool (S (k + 1)).2] : Array Value))
        go_roundg (K - (k + 1))
        case measure => omega
        case rel => exact ⟨k + 1, hkK, Nat.le_refl _, by go_num, Lib.hid (by rw [HOUT.out]; simpa using HO3.out), HE3, Lib.hid (below_setRow HB1.out (Nat.le_refl _) _)⟩
    · have hkK' : k = K := by omega
      subst hkK'
      have hs2 := HH.out k (Nat.le_refl _)
      have hkn : (k : Int) < (n : Int) := by omega
      have HE := Lib.hid (show wr.heap[W0.heap.size]? = some (.cells #[.int .i64 ((S k).1 0), .int .i64 ((S k).1 1), .int .i64 ((S k).1 2), .int .i64 ((S k).1 3), .int .i64 ((S k).1 4), .int .i64 ((S k).1 5), .int .i64 ((S k).1 6), .int .i64 ((S k).1 7), .int .i64 ((S k).1 8), .int .i64 ((S k).1 9), .int .i64 ((S k).1 10), .int .i64 ((S k).1 11), .int .i64 ((S k).1 12), .int .i64 ((S k).1 13), .int .i64 ((S k).1 14), .int .i64 ((S k).1 15), .slice none 0 0, .bool false] 45 (0, 0)) from by have h := HE.out; rw [hs2] at h; exact h)
      have q17 : wr.cell? ⟨W0.heap.size, 17, none⟩ = some (.bool false) := (blk_cell HE.out 17).trans rfl
      have hrk := rd45_blk HE.out rfl
      obtain ⟨Ax, cx, hvx, hcx, hoC⟩ : ∃ A c, Value.slice Ao (outs tb ov k).length co = .slice A (outs tb ov k).length c ∧ (outs tb ov k).length ≤ c ∧ Kd.C (Kd.int .i64) wr A (outs tb ov k).length (outs tb ov k) := ownI_C rfl HO.out
      injection hvx with hA _ hcc
      subst hA hcc
      have hz3 : (((w.alloc (.cells #[.string u, .int .i64 a.f0, .int .i64 a.f1, .int .i64 a.f2, .int .i64 a.f3] 52)).alloc (.cells #[.slice B bs.length cb, .int .i64 ((S 0).1 0), .int .i64 ((S 0).1 1), .int .i64 ((S 0).1 2), .int .i64 ((S 0).1 3), .int .i64 ((S 0).1 4), .int .i64 ((S 0).1 5), .int .i64 ((S 0).1 6), .int .i64 ((S 0).1 7), .int .i64 ((S 0).1 8), .int .i64 ((S 0).1 9), .int .i64 ((S 0).1 10), .int .i64 ((S 0).1 11), .int .i64 ((S 0).1 12), .int .i64 ((S 0).1 13), .int .i64 ((S 0).1 14), .int .i64 ((S 0).1 15), .slice none 0 0, .bool (S 0).2] 47)).alloc (.cells #[.slice none 0 0, .int .i64 0, .int .i64 0, .int .i64 0, .int .i64 0, .int .i64 0, .int .i64 0, .int .i64 0, .int .i64 0, .int .i64 0, .int .i64 0, .int .i64 0, .int .i64 0, .int .i64 0, .int .i64 0, .int .i64 0, .int .i64 0, .slice none 0 0, .bool false] 47)).heap.size = w.heap.size + 1 + 1 + 1 := by simp only [World.size_alloc]
      rw [hz3] at HCT HCB hgm0
      have HS := Lib.hid fun w1 hb => HFL.out gm W0 A1 c1 B1 b1 EM.out hc1 (Kd.F_now HCT.out) hb1 (Kd.F_now HCB.out) w1 hb
      go_wp2_with (go_at_call 34; refine (HS.out wr HB.out).mono ?_; rintro e w2 ⟨rfl, hb⟩; have HO1 := Lib.hid (OwnRow.below (OwnRow.below HO.out hb) (below_alloc (Below.refl _ _) (.cells #[.int .i64 0, .int .i64 0, .int .i64 0, .int .i64 0, .int .i64 0, .int .i64 0, .int .i64 0, .int .i64 0, .int .i64 0, .int .i64 0, .int .i64 0, .int .i64 0, .int .i64 0, .int .i64 0, .int .i64 0, .int .i64 0, .slice none 0 0, .bool false] 45))); have HB1 := Lib.hid (below_alloc (below_step HB.out hb) (.cells #[.int .i64 0, .int .i64 0, .int .i64 0, .int .i64 0, .int .i64 0, .int .i64 0, .int .i64 0, .int .i64 0, .int .i64 0, .int .i64 0, .int .i64 0, .int .i64 0, .int .i64 0, .int .i64 0, .int .i64 0, .int .i64 0, .slice none 0 0, .bool false] 45)); have HE1 := Lib.hid (blk_alloc (blk_below HE.out hb) (.cells #[.int .i64 0, .int .i64 0, .int .i64 0, .int .i64 0, .int .i64 0, .int .i64 0, .int .i64 0, .int .i64 0, .int .i64 0, .int .i64 0, .int .i64 0, .int .i64 0, .int .i64 0, .int .i64 0, .int .i64 0, .int .i64 0, .slice none 0 0, .bool false] 45)); clear hb)
      refine rn12 (w.heap.size + 1 + 1) gm W0.heap.size t.length c1 bs.length b1 A1 B1 u a ((S k).1 0) ((S k).1 1) ((S k).1 2) ((S k).1 3) ((S k).1 4) ((S k).1 5) ((S k).1 6) ((S k).1 7) ((S k).1 8) ((S k).1 9) ((S k).1 10) ((S k).1 11) ((S k).1 12) ((S k).1 13) ((S k).1 14) ((S k).1 15) x none 0 0 false (.slice Ao (outs tb ov k).length co) _ _ _ _ _ _ _ _ _ _ _ _ _ _ _ _ _ _ _ _ _ _ _ _ _ _ _ _ _ _ _ _ _ _ _ _ _ _ _ _ _ _ _ _ _ _ _ _ _ _ _ _ _ _ _ _ _ _ _ _ _ _ _ _ _ _ _ _ _ _ _ _ _ _ _ _ _ _ _ _ _ _ _ _ _ _ _ _ _ _ _ _ (blk_below EM.out HB1.out) HE1.out (blk_below E9.out HB1.out) rfl ⟨by omega, by omega⟩ ?_
      intro r63 r64 r65 r66 r67 r68 r69 r70 r71 r72 r73 r74 hX
      go_wp2
      refine bodyPost_ret (results_tcttt rfl _ _ (w.heap.size + 1 + 1) 47 _ (0, 0) _ rfl hX rfl Tryz.underlying47 (by kernel_rfl)) rfl ?_
      rw [hs2]
      refine ⟨A1, c1, B1, b1, Ao, co, rfl, hc1, Kd.F_now (Kd.F_step HCT.out (fun j hj hlt => (setRow_other _ _ j _ (by omega)).trans (HB1.out.block j hlt))), hb1, Kd.F_now (Kd.F_step HCB.out (fun j hj hlt => (setRow_other _ _ j _ (by omega)).trans (HB1.out.block j hlt))), hco, ?_, below_setRow (below_drew1 (below_step HBW.out HB1.out)) (by omega) _⟩
      obtain ⟨Ay, cy, hvy, hcy, hoC2⟩ := ownI_C rfl (own_setRow (OwnRow.below HO1.out (below_drew1 (Below.refl _ _))) (blk_drew (blk_below E9.out HB1.out)) (by decide) (#[.slice B1 bs.length b1, .int .i64 ((S k).1 0), .int .i64 ((S k).1 1), .int .i64 ((S k).1 2), .int .i64 ((S k).1 3), .int .i64 ((S k).1 4), .int .i64 ((S k).1 5), .int .i64 ((S k).1 6), .int .i64 ((S k).1 7), .int .i64 ((S k).1 8), .int .i64 ((S k).1 9), .int .i64 ((S k).1 10), .int .i64 ((S k).1 11), .int .i64 ((S k).1 12), .int .i64 ((S k).1 13), .int .i64 ((S k).1 14), .int .i64 ((S k).1 15), .slice none 0 0, .bool false] : Array Value))
      injection hvy with hAy _ hcy2
      subst hAy hcy2
      exact hoC2
end Go.Proofs.YteilkbookcmndaaGreatDoor.C
end
