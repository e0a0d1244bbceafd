/- Texts that the claim's law stands on, cut down to what it reaches. -/
import Derived.Test.YtmndeoncbocplaaDoorME2
import Derived.Deep.RegionHeldLaw
import Derived.Deep.RegionHeld3
import Derived.Deep.LoopGhost
set_option linter.unusedVariables false
set_option linter.unusedSimpArgs false
section
set_option linter.unusedVariables false
set_option linter.unusedSimpArgs false
namespace Go.Proofs.YtmndeoncbocplaaDoor.C
open Go.RowKit Go.Proofs.YtmndeoncbocplaaDoor.Q Go.Proofs.YtmndeoncbocplaaDoorW.PrintWords Go.Proofs.YtmndeoncbocplaaDoorW.PrintLast Go.Proofs.YtmndeoncbocplaaDoorW.PrintMore
attribute [local go_sem ↓] rd_at50 wr_at50 al_at50
attribute [local go_sem] rd50_new wr50_new al50
theorem FK_row {w6 : World} {B g : Nat} {x : S50} {cs : List Value} {cs' : Array Value} (h : k50.FK w6 (fun k => B ≤ k) x cs) (hg : g < B) : k50.FK (w6.setRow g cs') (fun k => B ≤ k) x cs :=
  Foot.step h (fun k hk _ => setRow_other w6 g k cs' (by omega))
theorem FK_rowR {w6 : World} {B g : Nat} {x : S50} {cs : List Value} {cs' : Array Value} (h : k50.FK w6 (fun k => k < B) x cs) (hg : B ≤ g) : k50.FK (w6.setRow g cs') (fun k => k < B) x cs :=
  Foot.step h (fun k hk _ => setRow_other w6 g k cs' (by omega))
/-- What is said of a directory that may be changed. -/
def chgN (n : S50) (k : Int) : S50 × Int := if k = 0 then (if n.f1 then (n, 0) else (z50, 3)) else (z50, k)
set_option maxHeartbeats 8000000 in
set_option maxRecDepth 1000000 in
theorem rc8 (A : Option Addr) (n c : Nat) (p q : ByteArray) (g4 : Nat) (u : ByteArray) (a : S41) (x : S50) (k : Int) (u1 u3 u5 u6 u7 u8 u9 u10 u11 u12 u13 u14 u15 u16 u17 u18 u19 u20 u21 u22 u23 u24 u25 u26 u27 u28 u29 u30 u31 u32 u33 u34 u35 u36 u37 u38 u39 u40 u41 u42 : Value) (W : World) (Q : Exit → Act → World → Prop)
    (hEA : W.heap[g4]? = some (.cells #[.string u, .int .i64 a.f0, .int .i64 a.f1, .int .i64 a.f2, .int .i64 a.f3] 55 (0, 0)))
    (hPar : ∀ w1 : World, Calls Tryd.prog 26 #[.string p] w1 fun e w' => e = .returned (.string q) ∧ Below w1.heap.size w1 w')
    (hMay : ∀ w1, Below W.heap.size W w1 → Calls Tryd.prog 35 #[.slice A n c, .agg #[.string u, .int .i64 a.f0, .int .i64 a.f1, .int .i64 a.f2, .int .i64 a.f3], .string q, .int .i64 2] w1 fun e w' => ∃ X6 x6 X11 x11, e = .returned (.tuple #[.agg #[.string x.f0, .bool x.f1, .int .i64 x.f2.f0, .int .i64 x.f2.f1, .int .i64 x.f2.f2, .int .i64 x.f2.f3, .slice X6 x.f3.length x6, .int .i64 x.f4.f0, .int .i64 x.f4.f1, .int .i64 x.f4.f2, .int .i64 x.f4.f3, .slice X11 x.f5.length x11, .int .i64 x.f6.f0, .int .i64 x.f6.f1, .int .i64 x.f6.f2, .int .i64 x.f6.f3], .int .i64 k]) ∧ k50.FK w' (fun k => w1.heap.size ≤ k) x [.string x.f0, .bool x.f1, .int .i64 x.f2.f0, .int .i64 x.f2.f1, .int .i64 x.f2.f2, .int .i64 x.f2.f3, .slice X6 x.f3.length x6, .int .i64 x.f4.f0, .int .i64 x.f4.f1, .int .i64 x.f4.f2, .int .i64 x.f4.f3, .slice X11 x.f5.length x11, .int .i64 x.f6.f0, .int .i64 x.f6.f1, .int .i64 x.f6.f2, .int .i64 x.f6.f3] ∧ Below w1.heap.size w1 w')
    (hpost : ∀ (g : Nat) (X6 X11 : Option Addr) (x6 x11 : Nat) (w' : World) (t24 t25 t26 t27 t28 t29 t30 t31 : Value), w'.heap[g]? = some (.cells #[.string x.f0, .bool x.f1, .int .i64 x.f2.f0, .int .i64 x.f2.f1, .int .i64 x.f2.f2, .int .i64 x.f2.f3, .slice X6 x.f3.length x6, .int .i64 x.f4.f0, .int .i64 x.f4.f1, .int .i64 x.f4.f2, .int .i64 x.f4.f3, .slice X11 x.f5.length x11, .int .i64 x.f6.f0, .int .i64 x.f6.f1, .int .i64 x.f6.f2, .int .i64 x.f6.f3] 50 (0, 0)) → W.heap.size ≤ g → k50.FK w' (fun k => W.heap.size ≤ k) x [.string x.f0, .bool x.f1, .int .i64 x.f2.f0, .int .i64 x.f2.f1, .int .i64 x.f2.f2, .int .i64 x.f2.f3, .slice X6 x.f3.length x6, .int .i64 x.f4.f0, .int .i64 x.f4.f1, .int .i64 x.f4.f2, .int .i64 x.f4.f3, .slice X11 x.f5.length x11, .int .i64 x.f6.f0, .int .i64 x.f6.f1, .int .i64 x.f6.f2, .int .i64 x.f6.f3] → Below W.heap.size W w' → Q .normal ⟨#[.slice A n c, u1, .string p, u3, .pointer (some ⟨g4, 0, none⟩), u5, u6, u7, .int .i64 k, .pointer (some ⟨g, 0, none⟩), u10, u11, u12, u13, u14, u15, u16, u17, u18, u19, u20, u21, u22, u23, t24, t25, t26, t27, t28, t29, t30, t31, u32, u33, u34, u35, u36, u37, u38, u39, u40, u41, u42], []⟩ w') :
    Code.wp Tryd.prog (cReg Tryd.f46 8) Q ⟨#[.slice A n c, u1, .string p, u3, .pointer (some ⟨g4, 0, none⟩), u5, u6, u7, u8, u9, u10, u11, u12, u13, u14, u15, u16, u17, u18, u19, u20, u21, u22, u23, u24, u25, u26, u27, u28, u29, u30, u31, u32, u33, u34, u35, u36, u37, u38, u39, u40, u41, u42], []⟩ W := by
  have EA := Lib.hid hEA
  have hg4 := blk_lt hEA
  have HPar := Lib.hid hPar
  have HMay := Lib.hid hMay
  have HPO := Lib.hid hpost
  have ka0 := (blk_cell (blk_below EA.out (Below.refl W.heap.size W)) 0).trans rfl
  have ka1 := (blk_cell (blk_below EA.out (Below.refl W.heap.size W)) 1).trans rfl
  have ka2 := (blk_cell (blk_below EA.out (Below.refl W.heap.size W)) 2).trans rfl
  have ka3 := (blk_cell (blk_below EA.out (Below.refl W.heap.size W)) 3).trans rfl
  have ka4 := (blk_cell (blk_below EA.out (Below.refl W.heap.size W)) 4).trans rfl
  clear hEA hPar hMay hpost
  conv => arg 2; whnf
  refine wp_region_noPanic ?_
  go_region_held_law (fun W1 => W1.cell? ⟨g4, 0, none⟩ = some (.string u) ∧ W1.cell? ⟨g4, 1, none⟩ = some (.int .i64 a.f0) ∧ W1.cell? ⟨g4, 2, none⟩ = some (.int .i64 a.f1) ∧ W1.cell? ⟨g4, 3, none⟩ = some (.int .i64 a.f2) ∧ W1.cell? ⟨g4, 4, none⟩ = some (.int .i64 a.f3)) (first | go_keep | (refine ⟨?_, ?_, ?_, ?_, ?_⟩ <;> (rw [cell_setRow_other _ _ _ _ (by show g4 ≠ _; omega)]; assumption)))
    (first | (go_at_call 35; (have hgate := HB5.out; clear hgate; refine (HMay.out _ (show Below W.heap.size W _ by repeat (first | exact HB6.out | exact HB5.out | exact Below.refl _ _ | apply below_alloc | apply below_drew1))).mono ?_; rintro e w6 ⟨X6, x6, X11, x11, rfl, hK, hb⟩; have HB6 := Lib.hid (below_step (show Below w5.heap.size w5 _ by repeat (first | exact HB6.out | exact HB5.out | exact Below.refl _ _ | apply below_alloc | apply below_drew1)) hb); have HK6 := Lib.hid hK; have hs6 := below_size HB6.out; (first | (have EN2 := Lib.hid (blk_below EN.out HB6.out); have hst := wr50_blk (cs := #[.string x.f0, .bool x.f1, .int .i64 x.f2.f0, .int .i64 x.f2.f1, .int .i64 x.f2.f2, .int .i64 x.f2.f3, .slice X6 x.f3.length x6, .int .i64 x.f4.f0, .int .i64 x.f4.f1, .int .i64 x.f4.f2, .int .i64 x.f4.f3, .slice X11 x.f5.length x11, .int .i64 x.f6.f0, .int .i64 x.f6.f1, .int .i64 x.f6.f2, .int .i64 x.f6.f3]) EN2.out rfl rfl (by simp [Value.oneCell'])) | (have EN2 := Lib.hid (blk_below (blk_new w5 (.cells #[.string (⟨#[]⟩ : ByteArray), .bool false, .int .i64 0, .int .i64 0, .int .i64 0, .int .i64 0, .slice none 0 0, .int .i64 0, .int .i64 0, .int .i64 0, .int .i64 0, .slice none 0 0, .int .i64 0, .int .i64 0, .int .i64 0, .int .i64 0] 50)) hb); have hst := wr50_blk (cs := #[.string x.f0, .bool x.f1, .int .i64 x.f2.f0, .int .i64 x.f2.f1, .int .i64 x.f2.f2, .int .i64 x.f2.f3, .slice X6 x.f3.length x6, .int .i64 x.f4.f0, .int .i64 x.f4.f1, .int .i64 x.f4.f2, .int .i64 x.f4.f3, .slice X11 x.f5.length x11, .int .i64 x.f6.f0, .int .i64 x.f6.f1, .int .i64 x.f6.f2, .int .i64 x.f6.f3]) EN2.out rfl rfl (by simp [Value.oneCell'])) | skip); have ka0 := (blk_cell (blk_below EA.out (below_step HB5.out HB6.out)) 0).trans rfl; have ka1 := (blk_cell (blk_below EA.out (below_step HB5.out HB6.out)) 1).trans rfl; have ka2 := (blk_cell (blk_below EA.out (below_step HB5.out HB6.out)) 2).trans rfl; have ka3 := (blk_cell (blk_below EA.out (below_step HB5.out HB6.out)) 3).trans rfl; have ka4 := (blk_cell (blk_below EA.out (below_step HB5.out HB6.out)) 4).trans rfl; clear hb hK)) | (go_at_call 26; (refine (HPar.out _).mono ?_; rintro e w5 ⟨rfl, hb⟩; have HB5 := Lib.hid (below_step (show Below W.heap.size W _ by repeat (first | exact HB6.out | exact HB5.out | exact Below.refl _ _ | apply below_alloc | apply below_drew1)) hb); have hs5 := below_size HB5.out; (first | have EN := Lib.hid (show w5.heap[W.heap.size]? = some (.cells #[.string (⟨#[]⟩ : ByteArray), .bool false, .int .i64 0, .int .i64 0, .int .i64 0, .int .i64 0, .slice none 0 0, .int .i64 0, .int .i64 0, .int .i64 0, .int .i64 0, .slice none 0 0, .int .i64 0, .int .i64 0, .int .i64 0, .int .i64 0] 50) from blk_below (blk_new W (.cells #[.string (⟨#[]⟩ : ByteArray), .bool false, .int .i64 0, .int .i64 0, .int .i64 0, .int .i64 0, .slice none 0 0, .int .i64 0, .int .i64 0, .int .i64 0, .int .i64 0, .slice none 0 0, .int .i64 0, .int .i64 0, .int .i64 0, .int .i64 0] 50)) hb) | have EN := Lib.hid (show w5.heap[W.heap.size]? = some (.cells #[.string (⟨#[]⟩ : ByteArray), .bool false, .int .i64 0, .int .i64 0, .int .i64 0, .int .i64 0, .slice none 0 0, .int .i64 0, .int .i64 0, .int .i64 0, .int .i64 0, .slice none 0 0, .int .i64 0, .int .i64 0, .int .i64 0, .int .i64 0] 50) from blk_below (blk_new W.drew (.cells #[.string (⟨#[]⟩ : ByteArray), .bool false, .int .i64 0, .int .i64 0, .int .i64 0, .int .i64 0, .slice none 0 0, .int .i64 0, .int .i64 0, .int .i64 0, .int .i64 0, .slice none 0 0, .int .i64 0, .int .i64 0, .int .i64 0, .int .i64 0] 50)) hb) | have EN := Lib.hid (show w5.heap[W.heap.size]? = some (.cells #[.string (⟨#[]⟩ : ByteArray), .bool false, .int .i64 0, .int .i64 0, .int .i64 0, .int .i64 0, .slice none 0 0, .int .i64 0, .int .i64 0, .int .i64 0, .int .i64 0, .slice none 0 0, .int .i64 0, .int .i64 0, .int .i64 0, .int .i64 0] 50) from blk_below (blk_drew (blk_new W (.cells #[.string (⟨#[]⟩ : ByteArray), .bool false, .int .i64 0, .int .i64 0, .int .i64 0, .int .i64 0, .slice none 0 0, .int .i64 0, .int .i64 0, .int .i64 0, .int .i64 0, .slice none 0 0, .int .i64 0, .int .i64 0, .int .i64 0, .int .i64 0] 50))) hb) | have EN := Lib.hid True.intro); have ka0 := (blk_cell (blk_below EA.out HB5.out) 0).trans rfl; have ka1 := (blk_cell (blk_below EA.out HB5.out) 1).trans rfl; have ka2 := (blk_cell (blk_below EA.out HB5.out) 2).trans rfl; have ka3 := (blk_cell (blk_below EA.out HB5.out) 3).trans rfl; have ka4 := (blk_cell (blk_below EA.out HB5.out) 4).trans rfl; clear hb)))
  all_goals refine NoPanic.normal ?_
  all_goals refine HPO.out _ X6 X11 x6 x11 _ _ _ _ _ _ _ _ _ ?_ ?_ ?_ ?_
  all_goals first
    | exact below_alloc (below_step HB5.out HB6.out) _
    | exact below_setRow (below_step HB5.out HB6.out) hs5 _
    | exact below_setRow (below_step HB5.out HB6.out) (Nat.le_refl _) _
    | exact blk_new _ _
    | exact setRow_heap _ _ _ _ _ _ EN2.out
    | exact Nat.le_refl _
    | exact hs5
    | exact Nat.le_trans hs5 hs6
    | exact Kd.FK_mono (Kd.FK_below HK6.out (below_alloc (Below.refl _ _) _)) (fun k hk => by first | exact Nat.le_trans hs5 hk | exact Nat.le_trans hs5 (Nat.le_trans (Nat.le_of_lt (Nat.lt_of_lt_of_eq (Nat.lt_succ_self _) (World.size_alloc _ _).symm)) hk))
    | exact Kd.FK_mono (FK_row HK6.out (blk_lt EN.out)) (fun k hk => by first | exact Nat.le_trans hs5 hk | exact Nat.le_trans hs5 (Nat.le_trans (Nat.le_of_lt (Nat.lt_of_lt_of_eq (Nat.lt_succ_self _) (World.size_alloc _ _).symm)) hk))
    | exact Kd.FK_mono (FK_row HK6.out (Nat.lt_of_lt_of_eq (Nat.lt_succ_self _) (World.size_alloc _ _).symm)) (fun k hk => by first | exact Nat.le_trans hs5 hk | exact Nat.le_trans hs5 (Nat.le_trans (Nat.le_of_lt (Nat.lt_of_lt_of_eq (Nat.lt_succ_self _) (World.size_alloc _ _).symm)) hk))
set_option maxHeartbeats 8000000 in
set_option maxRecDepth 1000000 in
theorem rq6 (A : Option Addr) (n c : Nat) (p q : ByteArray) (g4 : Nat) (u : ByteArray) (a : S41) (x : S50) (k : Int) (u1 u3 u5 u6 u7 u8 u9 u10 u11 u12 u13 u14 u15 u16 u17 u18 u19 u20 u21 u22 u23 u24 u25 u26 u27 u28 u29 u30 u31 u32 u33 u34 u35 : Value) (W : World) (B : Nat) (hB : B ≤ W.heap.size) (Q : Exit → Act → World → Prop)
    (hEA : W.heap[g4]? = some (.cells #[.string u, .int .i64 a.f0, .int .i64 a.f1, .int .i64 a.f2, .int .i64 a.f3] 97 (0, 0)))
    (hPar : ∀ w1 : World, Calls Tryd.prog 39 #[.string p] w1 fun e w' => e = .returned (.string q) ∧ Below w1.heap.size w1 w')
    (hMay : ∀ w1, Below W.heap.size W w1 → Calls Tryd.prog 75 #[.slice A n c, .agg #[.string u, .int .i64 a.f0, .int .i64 a.f1, .int .i64 a.f2, .int .i64 a.f3], .string q, .int .i64 2] w1 fun e w' => ∃ X6 x6 X11 x11, e = .returned (.tuple #[.agg #[.string x.f0, .bool x.f1, .int .i64 x.f2.f0, .int .i64 x.f2.f1, .int .i64 x.f2.f2, .int .i64 x.f2.f3, .slice X6 x.f3.length x6, .int .i64 x.f4.f0, .int .i64 x.f4.f1, .int .i64 x.f4.f2, .int .i64 x.f4.f3, .slice X11 x.f5.length x11, .int .i64 x.f6.f0, .int .i64 x.f6.f1, .int .i64 x.f6.f2, .int .i64 x.f6.f3], .int .i64 k]) ∧ k50.FK w' (fun k => k < B) x [.string x.f0, .bool x.f1, .int .i64 x.f2.f0, .int .i64 x.f2.f1, .int .i64 x.f2.f2, .int .i64 x.f2.f3, .slice X6 x.f3.length x6, .int .i64 x.f4.f0, .int .i64 x.f4.f1, .int .i64 x.f4.f2, .int .i64 x.f4.f3, .slice X11 x.f5.length x11, .int .i64 x.f6.f0, .int .i64 x.f6.f1, .int .i64 x.f6.f2, .int .i64 x.f6.f3] ∧ Below w1.heap.size w1 w')
    (hpost : ∀ (g : Nat) (X6 X11 : Option Addr) (x6 x11 : Nat) (w' : World) (t19 t20 t21 t22 t23 t24 t25 t26 : Value), w'.heap[g]? = some (.cells #[.string x.f0, .bool x.f1, .int .i64 x.f2.f0, .int .i64 x.f2.f1, .int .i64 x.f2.f2, .int .i64 x.f2.f3, .slice X6 x.f3.length x6, .int .i64 x.f4.f0, .int .i64 x.f4.f1, .int .i64 x.f4.f2, .int .i64 x.f4.f3, .slice X11 x.f5.length x11, .int .i64 x.f6.f0, .int .i64 x.f6.f1, .int .i64 x.f6.f2, .int .i64 x.f6.f3] 50 (0, 0)) → W.heap.size ≤ g → k50.FK w' (fun k => k < B) x [.string x.f0, .bool x.f1, .int .i64 x.f2.f0, .int .i64 x.f2.f1, .int .i64 x.f2.f2, .int .i64 x.f2.f3, .slice X6 x.f3.length x6, .int .i64 x.f4.f0, .int .i64 x.f4.f1, .int .i64 x.f4.f2, .int .i64 x.f4.f3, .slice X11 x.f5.length x11, .int .i64 x.f6.f0, .int .i64 x.f6.f1, .int .i64 x.f6.f2, .int .i64 x.f6.f3] → Below W.heap.size W w' → Q .normal ⟨#[.slice A n c, u1, .string p, u3, .pointer (some ⟨g4, 0, none⟩), u5, u6, u7, .int .i64 k, .pointer (some ⟨g, 0, none⟩), u10, u11, u12, u13, u14, u15, u16, u17, u18, t19, t20, t21, t22, t23, t24, t25, t26, u27, u28, u29, u30, u31, u32, u33, u34, u35], []⟩ w') :
    Code.wp Tryd.prog (cReg Tryd.f76 6) Q ⟨#[.slice A n c, u1, .string p, u3, .pointer (some ⟨g4, 0, none⟩), u5, u6, u7, u8, u9, u10, u11, u12, u13, u14, u15, u16, u17, u18, u19, u20, u21, u22, u23, u24, u25, u26, u27, u28, u29, u30, u31, u32, u33, u34, u35], []⟩ W := by
  have EA := Lib.hid hEA
  have hg4 := blk_lt hEA
  have HPar := Lib.hid hPar
  have HMay := Lib.hid hMay
  have HPO := Lib.hid hpost
  have ka0 := (blk_cell (blk_below EA.out (Below.refl W.heap.size W)) 0).trans rfl
  have ka1 := (blk_cell (blk_below EA.out (Below.refl W.heap.size W)) 1).trans rfl
  have ka2 := (blk_cell (blk_below EA.out (Below.refl W.heap.size W)) 2).trans rfl
  have ka3 := (blk_cell (blk_below EA.out (Below.refl W.heap.size W)) 3).trans rfl
  have ka4 := (blk_cell (blk_below EA.out (Below.refl W.heap.size W)) 4).trans rfl
  clear hEA hPar hMay hpost
  conv => arg 2; whnf
  refine wp_region_noPanic ?_
  go_region_held_law (fun W1 => W1.cell? ⟨g4, 0, none⟩ = some (.string u) ∧ W1.cell? ⟨g4, 1, none⟩ = some (.int .i64 a.f0) ∧ W1.cell? ⟨g4, 2, none⟩ = some (.int .i64 a.f1) ∧ W1.cell? ⟨g4, 3, none⟩ = some (.int .i64 a.f2) ∧ W1.cell? ⟨g4, 4, none⟩ = some (.int .i64 a.f3)) (first | go_keep | (refine ⟨?_, ?_, ?_, ?_, ?_⟩ <;> (rw [cell_setRow_other _ _ _ _ (by show g4 ≠ _; omega)]; assumption)))
    (first | (go_at_call 75; (have hgate := HB5.out; clear hgate; refine (HMay.out _ (show Below W.heap.size W _ by repeat (first | exact HB6.out | exact HB5.out | exact Below.refl _ _ | apply below_alloc | apply below_drew1))).mono ?_; rintro e w6 ⟨X6, x6, X11, x11, rfl, hK, hb⟩; have HB6 := Lib.hid (below_step (show Below w5.heap.size w5 _ by repeat (first | exact HB6.out | exact HB5.out | exact Below.refl _ _ | apply below_alloc | apply below_drew1)) hb); have HK6 := Lib.hid hK; have hs6 := below_size HB6.out; (first | (have EN2 := Lib.hid (blk_below EN.out HB6.out); have hst := wr50_blk (cs := #[.string x.f0, .bool x.f1, .int .i64 x.f2.f0, .int .i64 x.f2.f1, .int .i64 x.f2.f2, .int .i64 x.f2.f3, .slice X6 x.f3.length x6, .int .i64 x.f4.f0, .int .i64 x.f4.f1, .int .i64 x.f4.f2, .int .i64 x.f4.f3, .slice X11 x.f5.length x11, .int .i64 x.f6.f0, .int .i64 x.f6.f1, .int .i64 x.f6.f2, .int .i64 x.f6.f3]) EN2.out rfl rfl (by simp [Value.oneCell'])) | (have EN2 := Lib.hid (blk_below (blk_new w5 (.cells #[.string (⟨#[]⟩ : ByteArray), .bool false, .int .i64 0, .int .i64 0, .int .i64 0, .int .i64 0, .slice none 0 0, .int .i64 0, .int .i64 0, .int .i64 0, .int .i64 0, .slice none 0 0, .int .i64 0, .int .i64 0, .int .i64 0, .int .i64 0] 50)) hb); have hst := wr50_blk (cs := #[.string x.f0, .bool x.f1, .int .i64 x.f2.f0, .int .i64 x.f2.f1, .int .i64 x.f2.f2, .int .i64 x.f2.f3, .slice X6 x.f3.length x6, .int .i64 x.f4.f0, .int .i64 x.f4.f1, .int .i64 x.f4.f2, .int .i64 x.f4.f3, .slice X11 x.f5.length x11, .int .i64 x.f6.f0, .int .i64 x.f6.f1, .int .i64 x.f6.f2, .int .i64 x.f6.f3]) EN2.out rfl rfl (by simp [Value.oneCell'])) | skip); have ka0 := (blk_cell (blk_below EA.out (below_step HB5.out HB6.out)) 0).trans rfl; have ka1 := (blk_cell (blk_below EA.out (below_step HB5.out HB6.out)) 1).trans rfl; have ka2 := (blk_cell (blk_below EA.out (below_step HB5.out HB6.out)) 2).trans rfl; have ka3 := (blk_cell (blk_below EA.out (below_step HB5.out HB6.out)) 3).trans rfl; have ka4 := (blk_cell (blk_below EA.out (below_step HB5.out HB6.out)) 4).trans rfl; clear hb hK)) | (go_at_call 39; (refine (HPar.out _).mono ?_; rintro e w5 ⟨rfl, hb⟩; have HB5 := Lib.hid (below_step (show Below W.heap.size W _ by repeat (first | exact HB6.out | exact HB5.out | exact Below.refl _ _ | apply below_alloc | apply below_drew1)) hb); have hs5 := below_size HB5.out; (first | have EN := Lib.hid (show w5.heap[W.heap.size]? = some (.cells #[.string (⟨#[]⟩ : ByteArray), .bool false, .int .i64 0, .int .i64 0, .int .i64 0, .int .i64 0, .slice none 0 0, .int .i64 0, .int .i64 0, .int .i64 0, .int .i64 0, .slice none 0 0, .int .i64 0, .int .i64 0, .int .i64 0, .int .i64 0] 50) from blk_below (blk_new W (.cells #[.string (⟨#[]⟩ : ByteArray), .bool false, .int .i64 0, .int .i64 0, .int .i64 0, .int .i64 0, .slice none 0 0, .int .i64 0, .int .i64 0, .int .i64 0, .int .i64 0, .slice none 0 0, .int .i64 0, .int .i64 0, .int .i64 0, .int .i64 0] 50)) hb) | have EN := Lib.hid (show w5.heap[W.heap.size]? = some (.cells #[.string (⟨#[]⟩ : ByteArray), .bool false, .int .i64 0, .int .i64 0, .int .i64 0, .int .i64 0, .slice none 0 0, .int .i64 0, .int .i64 0, .int .i64 0, .int .i64 0, .slice none 0 0, .int .i64 0, .int .i64 0, .int .i64 0, .int .i64 0] 50) from blk_below (blk_new W.drew (.cells #[.string (⟨#[]⟩ : ByteArray), .bool false, .int .i64 0, .int .i64 0, .int .i64 0, .int .i64 0, .slice none 0 0, .int .i64 0, .int .i64 0, .int .i64 0, .int .i64 0, .slice none 0 0, .int .i64 0, .int .i64 0, .int .i64 0, .int .i64 0] 50)) hb) | have EN := Lib.hid (show w5.heap[W.heap.size]? = some (.cells #[.string (⟨#[]⟩ : ByteArray), .bool false, .int .i64 0, .int .i64 0, .int .i64 0, .int .i64 0, .slice none 0 0, .int .i64 0, .int .i64 0, .int .i64 0, .int .i64 0, .slice none 0 0, .int .i64 0, .int .i64 0, .int .i64 0, .int .i64 0] 50) from blk_below (blk_drew (blk_new W (.cells #[.string (⟨#[]⟩ : ByteArray), .bool false, .int .i64 0, .int .i64 0, .int .i64 0, .int .i64 0, .slice none 0 0, .int .i64 0, .int .i64 0, .int .i64 0, .int .i64 0, .slice none 0 0, .int .i64 0, .int .i64 0, .int .i64 0, .int .i64 0] 50))) hb) | have EN := Lib.hid True.intro); have ka0 := (blk_cell (blk_below EA.out HB5.out) 0).trans rfl; have ka1 := (blk_cell (blk_below EA.out HB5.out) 1).trans rfl; have ka2 := (blk_cell (blk_below EA.out HB5.out) 2).trans rfl; have ka3 := (blk_cell (blk_below EA.out HB5.out) 3).trans rfl; have ka4 := (blk_cell (blk_below EA.out HB5.out) 4).trans rfl; clear hb)))
  all_goals refine NoPanic.normal ?_
  all_goals refine HPO.out _ X6 X11 x6 x11 _ _ _ _ _ _ _ _ _ ?_ ?_ ?_ ?_
  all_goals first
    | exact below_alloc (below_step HB5.out HB6.out) _
    | exact below_setRow (below_step HB5.out HB6.out) hs5 _
    | exact below_setRow (below_step HB5.out HB6.out) (Nat.le_refl _) _
    | exact blk_new _ _
    | exact setRow_heap _ _ _ _ _ _ EN2.out
    | exact Nat.le_refl _
    | exact hs5
    | exact Nat.le_trans hs5 hs6
    | exact Kd.FK_below HK6.out (below_alloc (Below.refl _ _) _)
    | exact FK_rowR HK6.out (Nat.le_trans hB hs5)
    | exact FK_rowR HK6.out hB
set_option maxHeartbeats 1000000 in
set_option maxRecDepth 100000 in
theorem change_bad (p : ByteArray) (x : Int) (hx : L.checkL p.data.toList = x) (hne : x ≠ 0) (u : ByteArray) (a : S41) (A : Option Addr) (n c : Nat) (w : World) :
    Calls Tryd.prog 46 #[.slice A n c, .agg #[.string u, .int .i64 a.f0, .int .i64 a.f1, .int .i64 a.f2, .int .i64 a.f3], .string p] w (NodeE z50 x w) := by
  have HK := Lib.hid fun w1 => P.path_Check.calls 100 p x w1 (by rw [P.path_check _ _ (by omega), hx])
  have hxe : (x != 0) = true := by simpa using hne
  have hxf : (x == 0) = false := by simpa using hne
  clear hx
  go_enter Tryd.func46, Tryd.ntmps46
  go_wp2_with (go_at_call 23; refine (HK.out _).mono ?_; rintro e w1 ⟨rfl, hb⟩; have E2 := Lib.hid (show w1.heap[w.heap.size + 1]? = some (.cells #[.string (⟨#[]⟩ : ByteArray), .bool false, .int .i64 0, .int .i64 0, .int .i64 0, .int .i64 0, .slice none 0 0, .int .i64 0, .int .i64 0, .int .i64 0, .int .i64 0, .slice none 0 0, .int .i64 0, .int .i64 0, .int .i64 0, .int .i64 0] 50) from by have h := blk_below (blk_new (w.alloc (.cells #[.string u, .int .i64 a.f0, .int .i64 a.f1, .int .i64 a.f2, .int .i64 a.f3] 55)) (.cells #[.string (⟨#[]⟩ : ByteArray), .bool false, .int .i64 0, .int .i64 0, .int .i64 0, .int .i64 0, .slice none 0 0, .int .i64 0, .int .i64 0, .int .i64 0, .int .i64 0, .slice none 0 0, .int .i64 0, .int .i64 0, .int .i64 0, .int .i64 0] 50)) hb; rwa [World.size_alloc] at h); have HB := Lib.hid (below_step (below_alloc (below_alloc (Below.refl w.heap.size w) (.cells #[.string u, .int .i64 a.f0, .int .i64 a.f1, .int .i64 a.f2, .int .i64 a.f3] 55)) (.cells #[.string (⟨#[]⟩ : ByteArray), .bool false, .int .i64 0, .int .i64 0, .int .i64 0, .int .i64 0, .slice none 0 0, .int .i64 0, .int .i64 0, .int .i64 0, .int .i64 0, .slice none 0 0, .int .i64 0, .int .i64 0, .int .i64 0, .int .i64 0] 50)) hb); have r2 := wr50_blk E2.out (cs := #[.string (⟨#[]⟩ : ByteArray), .bool false, .int .i64 0, .int .i64 0, .int .i64 0, .int .i64 0, .slice none 0 0, .int .i64 0, .int .i64 0, .int .i64 0, .int .i64 0, .slice none 0 0, .int .i64 0, .int .i64 0, .int .i64 0, .int .i64 0]) rfl rfl (by simp [Value.oneCell']); have HE := Lib.hid (setRow_heap _ _ _ #[.string (⟨#[]⟩ : ByteArray), .bool false, .int .i64 0, .int .i64 0, .int .i64 0, .int .i64 0, .slice none 0 0, .int .i64 0, .int .i64 0, .int .i64 0, .int .i64 0, .slice none 0 0, .int .i64 0, .int .i64 0, .int .i64 0, .int .i64 0] _ _ E2.out); have HB9 := Lib.hid (below_setRow (HB.out) (Nat.le_succ _) #[.string (⟨#[]⟩ : ByteArray), .bool false, .int .i64 0, .int .i64 0, .int .i64 0, .int .i64 0, .slice none 0 0, .int .i64 0, .int .i64 0, .int .i64 0, .int .i64 0, .slice none 0 0, .int .i64 0, .int .i64 0, .int .i64 0, .int .i64 0]); clear hb)
  refine bodyPost_ret (results_ct rfl _ _ (w.heap.size + 1) 50 _ (0, 0) _ rfl HE.out Tryd.underlying50 rfl (by kernel_rfl)) rfl ?_
  exact ⟨_, rfl, z50_FK _ _, HB9.out⟩
set_option maxHeartbeats 1000000 in
set_option maxRecDepth 100000 in
theorem change_root (p : ByteArray) (hx : L.checkL p.data.toList = 0) (hr : (p.toList == ([47] : List UInt8)) = true) (u : ByteArray) (a : S41) (A : Option Addr) (n c : Nat) (w : World) :
    Calls Tryd.prog 46 #[.slice A n c, .agg #[.string u, .int .i64 a.f0, .int .i64 a.f1, .int .i64 a.f2, .int .i64 a.f3], .string p] w (NodeE z50 1 w) := by
  have HK := Lib.hid fun w1 => P.path_Check.calls 100 p 0 w1 (by rw [P.path_check _ _ (by omega), hx])
  clear hx
  go_enter Tryd.func46, Tryd.ntmps46
  go_wp2_with (go_at_call 23; refine (HK.out _).mono ?_; rintro e w1 ⟨rfl, hb⟩; have E2 := Lib.hid (show w1.heap[w.heap.size + 1]? = some (.cells #[.string (⟨#[]⟩ : ByteArray), .bool false, .int .i64 0, .int .i64 0, .int .i64 0, .int .i64 0, .slice none 0 0, .int .i64 0, .int .i64 0, .int .i64 0, .int .i64 0, .slice none 0 0, .int .i64 0, .int .i64 0, .int .i64 0, .int .i64 0] 50) from by have h := blk_below (blk_new (w.alloc (.cells #[.string u, .int .i64 a.f0, .int .i64 a.f1, .int .i64 a.f2, .int .i64 a.f3] 55)) (.cells #[.string (⟨#[]⟩ : ByteArray), .bool false, .int .i64 0, .int .i64 0, .int .i64 0, .int .i64 0, .slice none 0 0, .int .i64 0, .int .i64 0, .int .i64 0, .int .i64 0, .slice none 0 0, .int .i64 0, .int .i64 0, .int .i64 0, .int .i64 0] 50)) hb; rwa [World.size_alloc] at h); have HB := Lib.hid (below_step (below_alloc (below_alloc (Below.refl w.heap.size w) (.cells #[.string u, .int .i64 a.f0, .int .i64 a.f1, .int .i64 a.f2, .int .i64 a.f3] 55)) (.cells #[.string (⟨#[]⟩ : ByteArray), .bool false, .int .i64 0, .int .i64 0, .int .i64 0, .int .i64 0, .slice none 0 0, .int .i64 0, .int .i64 0, .int .i64 0, .int .i64 0, .slice none 0 0, .int .i64 0, .int .i64 0, .int .i64 0, .int .i64 0] 50)) hb); have r2 := wr50_blk E2.out (cs := #[.string (⟨#[]⟩ : ByteArray), .bool false, .int .i64 0, .int .i64 0, .int .i64 0, .int .i64 0, .slice none 0 0, .int .i64 0, .int .i64 0, .int .i64 0, .int .i64 0, .slice none 0 0, .int .i64 0, .int .i64 0, .int .i64 0, .int .i64 0]) rfl rfl (by simp [Value.oneCell']); have HE := Lib.hid (setRow_heap _ _ _ #[.string (⟨#[]⟩ : ByteArray), .bool false, .int .i64 0, .int .i64 0, .int .i64 0, .int .i64 0, .slice none 0 0, .int .i64 0, .int .i64 0, .int .i64 0, .int .i64 0, .slice none 0 0, .int .i64 0, .int .i64 0, .int .i64 0, .int .i64 0] _ _ E2.out); have HB9 := Lib.hid (below_setRow (HB.out) (Nat.le_succ _) #[.string (⟨#[]⟩ : ByteArray), .bool false, .int .i64 0, .int .i64 0, .int .i64 0, .int .i64 0, .slice none 0 0, .int .i64 0, .int .i64 0, .int .i64 0, .int .i64 0, .slice none 0 0, .int .i64 0, .int .i64 0, .int .i64 0, .int .i64 0]); clear hb)
  refine bodyPost_ret (results_ct rfl _ _ (w.heap.size + 1) 50 _ (0, 0) _ rfl HE.out Tryd.underlying50 rfl (by kernel_rfl)) rfl ?_
  exact ⟨_, rfl, z50_FK _ _, HB9.out⟩
set_option maxHeartbeats 2000000 in
set_option maxRecDepth 100000 in
theorem change_up (p q : ByteArray) (hx : L.checkL p.data.toList = 0) (hr : (p.toList == ([47] : List UInt8)) = false) (u : ByteArray) (a : S41) (x : S50) (k : Int) (A : Option Addr) (n c : Nat) (w : World) 
    (hP : ∀ w1 : World, Calls Tryd.prog 26 #[.string p] w1 fun e w' => e = .returned (.string q) ∧ Below w1.heap.size w1 w')
    (hM : ∀ w1, Below w.heap.size w w1 → Calls Tryd.prog 35 #[.slice A n c, .agg #[.string u, .int .i64 a.f0, .int .i64 a.f1, .int .i64 a.f2, .int .i64 a.f3], .string q, .int .i64 2] w1 (NodeE x k w1)) :
    Calls Tryd.prog 46 #[.slice A n c, .agg #[.string u, .int .i64 a.f0, .int .i64 a.f1, .int .i64 a.f2, .int .i64 a.f3], .string p] w (NodeE (chgN x k).1 (chgN x k).2 w) := by
  have HK := Lib.hid fun w1 => P.path_Check.calls 100 p 0 w1 (by rw [P.path_check _ _ (by omega), hx])
  have HP := Lib.hid hP
  have HM := Lib.hid fun w1 (hb : Below w.heap.size w w1) => (show Calls Tryd.prog 35 #[.slice A n c, .agg #[.string u, .int .i64 a.f0, .int .i64 a.f1, .int .i64 a.f2, .int .i64 a.f3], .string q, .int .i64 2] w1 fun e w' => ∃ X6 x6 X11 x11, e = .returned (.tuple #[.agg #[.string x.f0, .bool x.f1, .int .i64 x.f2.f0, .int .i64 x.f2.f1, .int .i64 x.f2.f2, .int .i64 x.f2.f3, .slice X6 x.f3.length x6, .int .i64 x.f4.f0, .int .i64 x.f4.f1, .int .i64 x.f4.f2, .int .i64 x.f4.f3, .slice X11 x.f5.length x11, .int .i64 x.f6.f0, .int .i64 x.f6.f1, .int .i64 x.f6.f2, .int .i64 x.f6.f3], .int .i64 k]) ∧ k50.FK w' (fun k => w1.heap.size ≤ k) x [.string x.f0, .bool x.f1, .int .i64 x.f2.f0, .int .i64 x.f2.f1, .int .i64 x.f2.f2, .int .i64 x.f2.f3, .slice X6 x.f3.length x6, .int .i64 x.f4.f0, .int .i64 x.f4.f1, .int .i64 x.f4.f2, .int .i64 x.f4.f3, .slice X11 x.f5.length x11, .int .i64 x.f6.f0, .int .i64 x.f6.f1, .int .i64 x.f6.f2, .int .i64 x.f6.f3] ∧ Below w1.heap.size w1 w' from by
    refine (hM w1 hb).mono ?_
    rintro e w' ⟨cs, rfl, hK, hB⟩
    obtain ⟨X6, x6, X11, x11, rfl, _⟩ := k50_open (Foot.now hK)
    exact ⟨X6, x6, X11, x11, rfl, hK, hB⟩)
  have hrr : (p.toList != ([47] : List UInt8)) = true := by simpa [bne] using hr
  clear hx hP hM
  go_enter Tryd.func46, Tryd.ntmps46
  go_wp2_with (go_at_call 23; refine (HK.out _).mono ?_; rintro e w1 ⟨rfl, hb⟩; have E2 := Lib.hid (show w1.heap[w.heap.size + 1]? = some (.cells #[.string (⟨#[]⟩ : ByteArray), .bool false, .int .i64 0, .int .i64 0, .int .i64 0, .int .i64 0, .slice none 0 0, .int .i64 0, .int .i64 0, .int .i64 0, .int .i64 0, .slice none 0 0, .int .i64 0, .int .i64 0, .int .i64 0, .int .i64 0] 50) from by have h := blk_below (blk_new (w.alloc (.cells #[.string u, .int .i64 a.f0, .int .i64 a.f1, .int .i64 a.f2, .int .i64 a.f3] 55)) (.cells #[.string (⟨#[]⟩ : ByteArray), .bool false, .int .i64 0, .int .i64 0, .int .i64 0, .int .i64 0, .slice none 0 0, .int .i64 0, .int .i64 0, .int .i64 0, .int .i64 0, .slice none 0 0, .int .i64 0, .int .i64 0, .int .i64 0, .int .i64 0] 50)) hb; rwa [World.size_alloc] at h); have HB := Lib.hid (below_step (below_alloc (below_alloc (Below.refl w.heap.size w) (.cells #[.string u, .int .i64 a.f0, .int .i64 a.f1, .int .i64 a.f2, .int .i64 a.f3] 55)) (.cells #[.string (⟨#[]⟩ : ByteArray), .bool false, .int .i64 0, .int .i64 0, .int .i64 0, .int .i64 0, .slice none 0 0, .int .i64 0, .int .i64 0, .int .i64 0, .int .i64 0, .slice none 0 0, .int .i64 0, .int .i64 0, .int .i64 0, .int .i64 0] 50)) hb); have E1 := Lib.hid (blk_below (blk_alloc (blk_new w (.cells #[.string u, .int .i64 a.f0, .int .i64 a.f1, .int .i64 a.f2, .int .i64 a.f3] 55)) (.cells #[.string (⟨#[]⟩ : ByteArray), .bool false, .int .i64 0, .int .i64 0, .int .i64 0, .int .i64 0, .slice none 0 0, .int .i64 0, .int .i64 0, .int .i64 0, .int .i64 0, .slice none 0 0, .int .i64 0, .int .i64 0, .int .i64 0, .int .i64 0] 50)) hb); clear hb)
  refine rc8 A n c p q w.heap.size u a x k _ _ _ _ _ _ _ _ _ _ _ _ _ _ _ _ _ _ _ _ _ _ _ _ _ _ _ _ _ _ _ _ _ _ _ _ _ _ _ _ w1 _ E1.out HP.out (fun w2 hb => HM.out w2 (below_step HB.out hb)) ?_
  intro g X6 X11 x6 x11 w6 t24 t25 t26 t27 t28 t29 t30 t31 hG hg hK hb
  have HG := Lib.hid hG
  have HKK := Lib.hid hK
  have hg2 := blk_lt E2.out
  have E2' := Lib.hid (blk_below E2.out hb)
  have HB6 := Lib.hid (below_step HB.out hb)
  have hz1 := below_size HB.out
  skip
  clear hG hK hb hg
  by_cases hk0 : k = 0
  · subst hk0
    cases hf : x.f1 with
    | true =>
      have HV := Lib.hid (show chgN x 0 = (x, 0) by rw [chgN, if_pos rfl, hf]; rfl)
      have d1 : w6.cell? ⟨g, 1, none⟩ = some (.bool true) := (blk_cell HG.out 1).trans (by rw [hf]; rfl)
      have r1 := rd50_blk HG.out rfl
      have r2 := wr50_blk E2'.out (cs := #[.string x.f0, .bool x.f1, .int .i64 x.f2.f0, .int .i64 x.f2.f1, .int .i64 x.f2.f2, .int .i64 x.f2.f3, .slice X6 x.f3.length x6, .int .i64 x.f4.f0, .int .i64 x.f4.f1, .int .i64 x.f4.f2, .int .i64 x.f4.f3, .slice X11 x.f5.length x11, .int .i64 x.f6.f0, .int .i64 x.f6.f1, .int .i64 x.f6.f2, .int .i64 x.f6.f3]) rfl rfl (by simp [Value.oneCell'])
      have HE := Lib.hid (setRow_heap _ _ _ #[.string x.f0, .bool x.f1, .int .i64 x.f2.f0, .int .i64 x.f2.f1, .int .i64 x.f2.f2, .int .i64 x.f2.f3, .slice X6 x.f3.length x6, .int .i64 x.f4.f0, .int .i64 x.f4.f1, .int .i64 x.f4.f2, .int .i64 x.f4.f3, .slice X11 x.f5.length x11, .int .i64 x.f6.f0, .int .i64 x.f6.f1, .int .i64 x.f6.f2, .int .i64 x.f6.f3] _ _ E2'.out)
      have HB9 := Lib.hid (below_setRow HB6.out (Nat.le_succ _) #[.string x.f0, .bool x.f1, .int .i64 x.f2.f0, .int .i64 x.f2.f1, .int .i64 x.f2.f2, .int .i64 x.f2.f3, .slice X6 x.f3.length x6, .int .i64 x.f4.f0, .int .i64 x.f4.f1, .int .i64 x.f4.f2, .int .i64 x.f4.f3, .slice X11 x.f5.length x11, .int .i64 x.f6.f0, .int .i64 x.f6.f1, .int .i64 x.f6.f2, .int .i64 x.f6.f3])
      have HFZ := Lib.hid (Kd.FK_step HKK.out (W1 := w6.setRow (w.heap.size + 1) #[.string x.f0, .bool x.f1, .int .i64 x.f2.f0, .int .i64 x.f2.f1, .int .i64 x.f2.f2, .int .i64 x.f2.f3, .slice X6 x.f3.length x6, .int .i64 x.f4.f0, .int .i64 x.f4.f1, .int .i64 x.f4.f2, .int .i64 x.f4.f3, .slice X11 x.f5.length x11, .int .i64 x.f6.f0, .int .i64 x.f6.f1, .int .i64 x.f6.f2, .int .i64 x.f6.f3]) fun k hk _ => setRow_other _ _ _ _ (by omega))
      clear hf
      go_wp2
      refine bodyPost_ret (results_ct rfl _ _ (w.heap.size + 1) 50 _ (0, 0) _ rfl HE.out Tryd.underlying50 rfl (by kernel_rfl)) rfl ?_
      rw [HV.out]
      exact ⟨_, rfl, Kd.FK_mono HFZ.out (fun k hk => by omega), HB9.out⟩
    | false =>
      have HV := Lib.hid (show chgN x 0 = (z50, 3) by rw [chgN, if_pos rfl, hf]; rfl)
      have d1 : w6.cell? ⟨g, 1, none⟩ = some (.bool false) := (blk_cell HG.out 1).trans (by rw [hf]; rfl)
      have r2 := wr50_blk E2'.out (cs := #[.string (⟨#[]⟩ : ByteArray), .bool false, .int .i64 0, .int .i64 0, .int .i64 0, .int .i64 0, .slice none 0 0, .int .i64 0, .int .i64 0, .int .i64 0, .int .i64 0, .slice none 0 0, .int .i64 0, .int .i64 0, .int .i64 0, .int .i64 0]) rfl rfl (by simp [Value.oneCell'])
      have HE := Lib.hid (setRow_heap _ _ _ #[.string (⟨#[]⟩ : ByteArray), .bool false, .int .i64 0, .int .i64 0, .int .i64 0, .int .i64 0, .slice none 0 0, .int .i64 0, .int .i64 0, .int .i64 0, .int .i64 0, .slice none 0 0, .int .i64 0, .int .i64 0, .int .i64 0, .int .i64 0] _ _ E2'.out)
      have HB9 := Lib.hid (below_setRow (HB6.out) (Nat.le_succ _) #[.string (⟨#[]⟩ : ByteArray), .bool false, .int .i64 0, .int .i64 0, .int .i64 0, .int .i64 0, .slice none 0 0, .int .i64 0, .int .i64 0, .int .i64 0, .int .i64 0, .slice none 0 0, .int .i64 0, .int .i64 0, .int .i64 0, .int .i64 0])
      clear hf
      go_wp2
      refine bodyPost_ret (results_ct rfl _ _ (w.heap.size + 1) 50 _ (0, 0) _ rfl HE.out Tryd.underlying50 rfl (by kernel_rfl)) rfl ?_
      rw [HV.out]
      exact ⟨_, rfl, z50_FK _ _, HB9.out⟩
  · have HV := Lib.hid (show chgN x k = (z50, k) by rw [chgN, if_neg hk0])
    have hke : (k != 0) = true := by simpa using hk0
    have hkf : (k == 0) = false := by simpa using hk0
    have r2 := wr50_blk E2'.out (cs := #[.string (⟨#[]⟩ : ByteArray), .bool false, .int .i64 0, .int .i64 0, .int .i64 0, .int .i64 0, .slice none 0 0, .int .i64 0, .int .i64 0, .int .i64 0, .int .i64 0, .slice none 0 0, .int .i64 0, .int .i64 0, .int .i64 0, .int .i64 0]) rfl rfl (by simp [Value.oneCell'])
    have HE := Lib.hid (setRow_heap _ _ _ #[.string (⟨#[]⟩ : ByteArray), .bool false, .int .i64 0, .int .i64 0, .int .i64 0, .int .i64 0, .slice none 0 0, .int .i64 0, .int .i64 0, .int .i64 0, .int .i64 0, .slice none 0 0, .int .i64 0, .int .i64 0, .int .i64 0, .int .i64 0] _ _ E2'.out)
    have HB9 := Lib.hid (below_setRow (HB6.out) (Nat.le_succ _) #[.string (⟨#[]⟩ : ByteArray), .bool false, .int .i64 0, .int .i64 0, .int .i64 0, .int .i64 0, .slice none 0 0, .int .i64 0, .int .i64 0, .int .i64 0, .int .i64 0, .slice none 0 0, .int .i64 0, .int .i64 0, .int .i64 0, .int .i64 0])
    clear hk0
    go_wp2
    refine bodyPost_ret (results_ct rfl _ _ (w.heap.size + 1) 50 _ (0, 0) _ rfl HE.out Tryd.underlying50 rfl (by kernel_rfl)) rfl ?_
    rw [HV.out]
    exact ⟨_, rfl, z50_FK _ _, HB9.out⟩
set_option maxHeartbeats 1000000 in
set_option maxRecDepth 100000 in
theorem rchange_bad (p : ByteArray) (x : Int) (hx : L.checkL p.data.toList = x) (hne : x ≠ 0) (u : ByteArray) (a : S41) (A : Option Addr) (n c : Nat) (w0 w : World) :
    Calls Tryd.prog 76 #[.slice A n c, .agg #[.string u, .int .i64 a.f0, .int .i64 a.f1, .int .i64 a.f2, .int .i64 a.f3], .string p] w (NodeR w0 z50 x w) := by
  have HK := Lib.hid fun w1 => P.donjonref7_Check.calls 2000 p x w1 (by rw [P.ref_check _ _ (by omega), hx])
  have hxe : (x != 0) = true := by simpa using hne
  have hxf : (x == 0) = false := by simpa using hne
  clear hx
  go_enter Tryd.func76, Tryd.ntmps76
  go_wp2_with (go_at_call 24; refine (HK.out _).mono ?_; rintro e w1 ⟨rfl, hb⟩; have E2 := Lib.hid (show w1.heap[w.heap.size + 1]? = some (.cells #[.string (⟨#[]⟩ : ByteArray), .bool false, .int .i64 0, .int .i64 0, .int .i64 0, .int .i64 0, .slice none 0 0, .int .i64 0, .int .i64 0, .int .i64 0, .int .i64 0, .slice none 0 0, .int .i64 0, .int .i64 0, .int .i64 0, .int .i64 0] 50) from by have h := blk_below (blk_new (w.alloc (.cells #[.string u, .int .i64 a.f0, .int .i64 a.f1, .int .i64 a.f2, .int .i64 a.f3] 97)) (.cells #[.string (⟨#[]⟩ : ByteArray), .bool false, .int .i64 0, .int .i64 0, .int .i64 0, .int .i64 0, .slice none 0 0, .int .i64 0, .int .i64 0, .int .i64 0, .int .i64 0, .slice none 0 0, .int .i64 0, .int .i64 0, .int .i64 0, .int .i64 0] 50)) hb; rwa [World.size_alloc] at h); have HB := Lib.hid (below_step (below_alloc (below_alloc (Below.refl w.heap.size w) (.cells #[.string u, .int .i64 a.f0, .int .i64 a.f1, .int .i64 a.f2, .int .i64 a.f3] 97)) (.cells #[.string (⟨#[]⟩ : ByteArray), .bool false, .int .i64 0, .int .i64 0, .int .i64 0, .int .i64 0, .slice none 0 0, .int .i64 0, .int .i64 0, .int .i64 0, .int .i64 0, .slice none 0 0, .int .i64 0, .int .i64 0, .int .i64 0, .int .i64 0] 50)) hb); have r2 := wr50_blk E2.out (cs := #[.string (⟨#[]⟩ : ByteArray), .bool false, .int .i64 0, .int .i64 0, .int .i64 0, .int .i64 0, .slice none 0 0, .int .i64 0, .int .i64 0, .int .i64 0, .int .i64 0, .slice none 0 0, .int .i64 0, .int .i64 0, .int .i64 0, .int .i64 0]) rfl rfl (by simp [Value.oneCell']); have HE := Lib.hid (setRow_heap _ _ _ #[.string (⟨#[]⟩ : ByteArray), .bool false, .int .i64 0, .int .i64 0, .int .i64 0, .int .i64 0, .slice none 0 0, .int .i64 0, .int .i64 0, .int .i64 0, .int .i64 0, .slice none 0 0, .int .i64 0, .int .i64 0, .int .i64 0, .int .i64 0] _ _ E2.out); have HB9 := Lib.hid (below_setRow (HB.out) (Nat.le_succ _) #[.string (⟨#[]⟩ : ByteArray), .bool false, .int .i64 0, .int .i64 0, .int .i64 0, .int .i64 0, .slice none 0 0, .int .i64 0, .int .i64 0, .int .i64 0, .int .i64 0, .slice none 0 0, .int .i64 0, .int .i64 0, .int .i64 0, .int .i64 0]); clear hb)
  refine bodyPost_ret (results_ct rfl _ _ (w.heap.size + 1) 50 _ (0, 0) _ rfl HE.out Tryd.underlying50 rfl (by kernel_rfl)) rfl ?_
  exact ⟨_, rfl, z50_FK _ _, HB9.out⟩
set_option maxHeartbeats 1000000 in
set_option maxRecDepth 100000 in
theorem rchange_root (p : ByteArray) (hx : L.checkL p.data.toList = 0) (hr : (p.toList == ([47] : List UInt8)) = true) (u : ByteArray) (a : S41) (A : Option Addr) (n c : Nat) (w0 w : World) :
    Calls Tryd.prog 76 #[.slice A n c, .agg #[.string u, .int .i64 a.f0, .int .i64 a.f1, .int .i64 a.f2, .int .i64 a.f3], .string p] w (NodeR w0 z50 1 w) := by
  have HK := Lib.hid fun w1 => P.donjonref7_Check.calls 2000 p 0 w1 (by rw [P.ref_check _ _ (by omega), hx])
  clear hx
  go_enter Tryd.func76, Tryd.ntmps76
  go_wp2_with (go_at_call 24; refine (HK.out _).mono ?_; rintro e w1 ⟨rfl, hb⟩; have E2 := Lib.hid (show w1.heap[w.heap.size + 1]? = some (.cells #[.string (⟨#[]⟩ : ByteArray), .bool false, .int .i64 0, .int .i64 0, .int .i64 0, .int .i64 0, .slice none 0 0, .int .i64 0, .int .i64 0, .int .i64 0, .int .i64 0, .slice none 0 0, .int .i64 0, .int .i64 0, .int .i64 0, .int .i64 0] 50) from by have h := blk_below (blk_new (w.alloc (.cells #[.string u, .int .i64 a.f0, .int .i64 a.f1, .int .i64 a.f2, .int .i64 a.f3] 97)) (.cells #[.string (⟨#[]⟩ : ByteArray), .bool false, .int .i64 0, .int .i64 0, .int .i64 0, .int .i64 0, .slice none 0 0, .int .i64 0, .int .i64 0, .int .i64 0, .int .i64 0, .slice none 0 0, .int .i64 0, .int .i64 0, .int .i64 0, .int .i64 0] 50)) hb; rwa [World.size_alloc] at h); have HB := Lib.hid (below_step (below_alloc (below_alloc (Below.refl w.heap.size w) (.cells #[.string u, .int .i64 a.f0, .int .i64 a.f1, .int .i64 a.f2, .int .i64 a.f3] 97)) (.cells #[.string (⟨#[]⟩ : ByteArray), .bool false, .int .i64 0, .int .i64 0, .int .i64 0, .int .i64 0, .slice none 0 0, .int .i64 0, .int .i64 0, .int .i64 0, .int .i64 0, .slice none 0 0, .int .i64 0, .int .i64 0, .int .i64 0, .int .i64 0] 50)) hb); have r2 := wr50_blk E2.out (cs := #[.string (⟨#[]⟩ : ByteArray), .bool false, .int .i64 0, .int .i64 0, .int .i64 0, .int .i64 0, .slice none 0 0, .int .i64 0, .int .i64 0, .int .i64 0, .int .i64 0, .slice none 0 0, .int .i64 0, .int .i64 0, .int .i64 0, .int .i64 0]) rfl rfl (by simp [Value.oneCell']); have HE := Lib.hid (setRow_heap _ _ _ #[.string (⟨#[]⟩ : ByteArray), .bool false, .int .i64 0, .int .i64 0, .int .i64 0, .int .i64 0, .slice none 0 0, .int .i64 0, .int .i64 0, .int .i64 0, .int .i64 0, .slice none 0 0, .int .i64 0, .int .i64 0, .int .i64 0, .int .i64 0] _ _ E2.out); have HB9 := Lib.hid (below_setRow (HB.out) (Nat.le_succ _) #[.string (⟨#[]⟩ : ByteArray), .bool false, .int .i64 0, .int .i64 0, .int .i64 0, .int .i64 0, .slice none 0 0, .int .i64 0, .int .i64 0, .int .i64 0, .int .i64 0, .slice none 0 0, .int .i64 0, .int .i64 0, .int .i64 0, .int .i64 0]); clear hb)
  refine bodyPost_ret (results_ct rfl _ _ (w.heap.size + 1) 50 _ (0, 0) _ rfl HE.out Tryd.underlying50 rfl (by kernel_rfl)) rfl ?_
  exact ⟨_, rfl, z50_FK _ _, HB9.out⟩
set_option maxHeartbeats 2000000 in
set_option maxRecDepth 100000 in
theorem rchange_up (p q : ByteArray) (hx : L.checkL p.data.toList = 0) (hr : (p.toList == ([47] : List UInt8)) = false) (u : ByteArray) (a : S41) (x : S50) (k : Int) (A : Option Addr) (n c : Nat) (w0 w : World) (hb0 : Below w0.heap.size w0 w) 
    (hP : ∀ w1 : World, Calls Tryd.prog 39 #[.string p] w1 fun e w' => e = .returned (.string q) ∧ Below w1.heap.size w1 w')
    (hM : ∀ w1, Below w.heap.size w w1 → Calls Tryd.prog 75 #[.slice A n c, .agg #[.string u, .int .i64 a.f0, .int .i64 a.f1, .int .i64 a.f2, .int .i64 a.f3], .string q, .int .i64 2] w1 (NodeR w0 x k w1)) :
    Calls Tryd.prog 76 #[.slice A n c, .agg #[.string u, .int .i64 a.f0, .int .i64 a.f1, .int .i64 a.f2, .int .i64 a.f3], .string p] w (NodeR w0 (chgN x k).1 (chgN x k).2 w) := by
  have HK := Lib.hid fun w1 => P.donjonref7_Check.calls 2000 p 0 w1 (by rw [P.ref_check _ _ (by omega), hx])
  have HP := Lib.hid hP
  have HM := Lib.hid fun w1 (hb : Below w.heap.size w w1) => (show Calls Tryd.prog 75 #[.slice A n c, .agg #[.string u, .int .i64 a.f0, .int .i64 a.f1, .int .i64 a.f2, .int .i64 a.f3], .string q, .int .i64 2] w1 fun e w' => ∃ X6 x6 X11 x11, e = .returned (.tuple #[.agg #[.string x.f0, .bool x.f1, .int .i64 x.f2.f0, .int .i64 x.f2.f1, .int .i64 x.f2.f2, .int .i64 x.f2.f3, .slice X6 x.f3.length x6, .int .i64 x.f4.f0, .int .i64 x.f4.f1, .int .i64 x.f4.f2, .int .i64 x.f4.f3, .slice X11 x.f5.length x11, .int .i64 x.f6.f0, .int .i64 x.f6.f1, .int .i64 x.f6.f2, .int .i64 x.f6.f3], .int .i64 k]) ∧ k50.FK w' (fun k => k < w0.heap.size) x [.string x.f0, .bool x.f1, .int .i64 x.f2.f0, .int .i64 x.f2.f1, .int .i64 x.f2.f2, .int .i64 x.f2.f3, .slice X6 x.f3.length x6, .int .i64 x.f4.f0, .int .i64 x.f4.f1, .int .i64 x.f4.f2, .int .i64 x.f4.f3, .slice X11 x.f5.length x11, .int .i64 x.f6.f0, .int .i64 x.f6.f1, .int .i64 x.f6.f2, .int .i64 x.f6.f3] ∧ Below w1.heap.size w1 w' from by
    refine (hM w1 hb).mono ?_
    rintro e w' ⟨cs, rfl, hK, hB⟩
    obtain ⟨X6, x6, X11, x11, rfl, _⟩ := k50_open (Foot.now hK)
    exact ⟨X6, x6, X11, x11, rfl, hK, hB⟩)
  have hrr : (p.toList != ([47] : List UInt8)) = true := by simpa [bne] using hr
  clear hx hP hM
  go_enter Tryd.func76, Tryd.ntmps76
  go_wp2_with (go_at_call 24; refine (HK.out _).mono ?_; rintro e w1 ⟨rfl, hb⟩; have E2 := Lib.hid (show w1.heap[w.heap.size + 1]? = some (.cells #[.string (⟨#[]⟩ : ByteArray), .bool false, .int .i64 0, .int .i64 0, .int .i64 0, .int .i64 0, .slice none 0 0, .int .i64 0, .int .i64 0, .int .i64 0, .int .i64 0, .slice none 0 0, .int .i64 0, .int .i64 0, .int .i64 0, .int .i64 0] 50) from by have h := blk_below (blk_new (w.alloc (.cells #[.string u, .int .i64 a.f0, .int .i64 a.f1, .int .i64 a.f2, .int .i64 a.f3] 97)) (.cells #[.string (⟨#[]⟩ : ByteArray), .bool false, .int .i64 0, .int .i64 0, .int .i64 0, .int .i64 0, .slice none 0 0, .int .i64 0, .int .i64 0, .int .i64 0, .int .i64 0, .slice none 0 0, .int .i64 0, .int .i64 0, .int .i64 0, .int .i64 0] 50)) hb; rwa [World.size_alloc] at h); have HB := Lib.hid (below_step (below_alloc (below_alloc (Below.refl w.heap.size w) (.cells #[.string u, .int .i64 a.f0, .int .i64 a.f1, .int .i64 a.f2, .int .i64 a.f3] 97)) (.cells #[.string (⟨#[]⟩ : ByteArray), .bool false, .int .i64 0, .int .i64 0, .int .i64 0, .int .i64 0, .slice none 0 0, .int .i64 0, .int .i64 0, .int .i64 0, .int .i64 0, .slice none 0 0, .int .i64 0, .int .i64 0, .int .i64 0, .int .i64 0] 50)) hb); have E1 := Lib.hid (blk_below (blk_alloc (blk_new w (.cells #[.string u, .int .i64 a.f0, .int .i64 a.f1, .int .i64 a.f2, .int .i64 a.f3] 97)) (.cells #[.string (⟨#[]⟩ : ByteArray), .bool false, .int .i64 0, .int .i64 0, .int .i64 0, .int .i64 0, .slice none 0 0, .int .i64 0, .int .i64 0, .int .i64 0, .int .i64 0, .slice none 0 0, .int .i64 0, .int .i64 0, .int .i64 0, .int .i64 0] 50)) hb); clear hb)
  refine rq6 A n c p q w.heap.size u a x k _ _ _ _ _ _ _ _ _ _ _ _ _ _ _ _ _ _ _ _ _ _ _ _ _ _ _ _ _ _ _ _ _ w1 w0.heap.size (by have h1 := below_size hb0; have h2 := below_size HB.out; omega) _ E1.out HP.out (fun w2 hb => HM.out w2 (below_step HB.out hb)) ?_
  intro g X6 X11 x6 x11 w6 t19 t20 t21 t22 t23 t24 t25 t26 hG hg hK hb
  have HG := Lib.hid hG
  have HKK := Lib.hid hK
  have hg2 := blk_lt E2.out
  have E2' := Lib.hid (blk_below E2.out hb)
  have HB6 := Lib.hid (below_step HB.out hb)
  have hz1 := below_size HB.out
  have hz0 := below_size hb0
  clear hG hK hb hg
  by_cases hk0 : k = 0
  · subst hk0
    cases hf : x.f1 with
    | true =>
      have HV := Lib.hid (show chgN x 0 = (x, 0) by rw [chgN, if_pos rfl, hf]; rfl)
      have d1 : w6.cell? ⟨g, 1, none⟩ = some (.bool true) := (blk_cell HG.out 1).trans (by rw [hf]; rfl)
      have r1 := rd50_blk HG.out rfl
      have r2 := wr50_blk E2'.out (cs := #[.string x.f0, .bool x.f1, .int .i64 x.f2.f0, .int .i64 x.f2.f1, .int .i64 x.f2.f2, .int .i64 x.f2.f3, .slice X6 x.f3.length x6, .int .i64 x.f4.f0, .int .i64 x.f4.f1, .int .i64 x.f4.f2, .int .i64 x.f4.f3, .slice X11 x.f5.length x11, .int .i64 x.f6.f0, .int .i64 x.f6.f1, .int .i64 x.f6.f2, .int .i64 x.f6.f3]) rfl rfl (by simp [Value.oneCell'])
      have HE := Lib.hid (setRow_heap _ _ _ #[.string x.f0, .bool x.f1, .int .i64 x.f2.f0, .int .i64 x.f2.f1, .int .i64 x.f2.f2, .int .i64 x.f2.f3, .slice X6 x.f3.length x6, .int .i64 x.f4.f0, .int .i64 x.f4.f1, .int .i64 x.f4.f2, .int .i64 x.f4.f3, .slice X11 x.f5.length x11, .int .i64 x.f6.f0, .int .i64 x.f6.f1, .int .i64 x.f6.f2, .int .i64 x.f6.f3] _ _ E2'.out)
      have HB9 := Lib.hid (below_setRow HB6.out (Nat.le_succ _) #[.string x.f0, .bool x.f1, .int .i64 x.f2.f0, .int .i64 x.f2.f1, .int .i64 x.f2.f2, .int .i64 x.f2.f3, .slice X6 x.f3.length x6, .int .i64 x.f4.f0, .int .i64 x.f4.f1, .int .i64 x.f4.f2, .int .i64 x.f4.f3, .slice X11 x.f5.length x11, .int .i64 x.f6.f0, .int .i64 x.f6.f1, .int .i64 x.f6.f2, .int .i64 x.f6.f3])
      have HFZ := Lib.hid (Kd.FK_step HKK.out (W1 := w6.setRow (w.heap.size + 1) #[.string x.f0, .bool x.f1, .int .i64 x.f2.f0, .int .i64 x.f2.f1, .int .i64 x.f2.f2, .int .i64 x.f2.f3, .slice X6 x.f3.length x6, .int .i64 x.f4.f0, .int .i64 x.f4.f1, .int .i64 x.f4.f2, .int .i64 x.f4.f3, .slice X11 x.f5.length x11, .int .i64 x.f6.f0, .int .i64 x.f6.f1, .int .i64 x.f6.f2, .int .i64 x.f6.f3]) fun k hk _ => setRow_other _ _ _ _ (by omega))
      clear hf
      go_wp2
      refine bodyPost_ret (results_ct rfl _ _ (w.heap.size + 1) 50 _ (0, 0) _ rfl HE.out Tryd.underlying50 rfl (by kernel_rfl)) rfl ?_
      rw [HV.out]
      exact ⟨_, rfl, HFZ.out, HB9.out⟩
    | false =>
      have HV := Lib.hid (show chgN x 0 = (z50, 3) by rw [chgN, if_pos rfl, hf]; rfl)
      have d1 : w6.cell? ⟨g, 1, none⟩ = some (.bool false) := (blk_cell HG.out 1).trans (by rw [hf]; rfl)
      have r2 := wr50_blk E2'.out (cs := #[.string (⟨#[]⟩ : ByteArray), .bool false, .int .i64 0, .int .i64 0, .int .i64 0, .int .i64 0, .slice none 0 0, .int .i64 0, .int .i64 0, .int .i64 0, .int .i64 0, .slice none 0 0, .int .i64 0, .int .i64 0, .int .i64 0, .int .i64 0]) rfl rfl (by simp [Value.oneCell'])
      have HE := Lib.hid (setRow_heap _ _ _ #[.string (⟨#[]⟩ : ByteArray), .bool false, .int .i64 0, .int .i64 0, .int .i64 0, .int .i64 0, .slice none 0 0, .int .i64 0, .int .i64 0, .int .i64 0, .int .i64 0, .slice none 0 0, .int .i64 0, .int .i64 0, .int .i64 0, .int .i64 0] _ _ E2'.out)
      have HB9 := Lib.hid (below_setRow (HB6.out) (Nat.le_succ _) #[.string (⟨#[]⟩ : ByteArray), .bool false, .int .i64 0, .int .i64 0, .int .i64 0, .int .i64 0, .slice none 0 0, .int .i64 0, .int .i64 0, .int .i64 0, .int .i64 0, .slice none 0 0, .int .i64 0, .int .i64 0, .int .i64 0, .int .i64 0])
      clear hf
      go_wp2
      refine bodyPost_ret (results_ct rfl _ _ (w.heap.size + 1) 50 _ (0, 0) _ rfl HE.out Tryd.underlying50 rfl (by kernel_rfl)) rfl ?_
      rw [HV.out]
      exact ⟨_, rfl, z50_FK _ _, HB9.out⟩
  · have HV := Lib.hid (show chgN x k = (z50, k) by rw [chgN, if_neg hk0])
    have hke : (k != 0) = true := by simpa using hk0
    have hkf : (k == 0) = false := by simpa using hk0
    have r2 := wr50_blk E2'.out (cs := #[.string (⟨#[]⟩ : ByteArray), .bool false, .int .i64 0, .int .i64 0, .int .i64 0, .int .i64 0, .slice none 0 0, .int .i64 0, .int .i64 0, .int .i64 0, .int .i64 0, .slice none 0 0, .int .i64 0, .int .i64 0, .int .i64 0, .int .i64 0]) rfl rfl (by simp [Value.oneCell'])
    have HE := Lib.hid (setRow_heap _ _ _ #[.string (⟨#[]⟩ : ByteArray), .bool false, .int .i64 0, .int .i64 0, .int .i64 0, .int .i64 0, .slice none 0 0, .int .i64 0, .int .i64 0, .int .i64 0, .int .i64 0, .slice none 0 0, .int .i64 0, .int .i64 0, .int .i64 0, .int .i64 0] _ _ E2'.out)
    have HB9 := Lib.hid (below_setRow (HB6.out) (Nat.le_succ _) #[.string (⟨#[]⟩ : ByteArray), .bool false, .int .i64 0, .int .i64 0, .int .i64 0, .int .i64 0, .slice none 0 0, .int .i64 0, .int .i64 0, .int .i64 0, .int .i64 0, .slice none 0 0, .int .i64 0, .int .i64 0, .int .i64 0, .int .i64 0])
    clear hk0
    go_wp2
    refine bodyPost_ret (results_ct rfl _ _ (w.heap.size + 1) 50 _ (0, 0) _ rfl HE.out Tryd.underlying50 rfl (by kernel_rfl)) rfl ?_
    rw [HV.out]
    exact ⟨_, rfl, z50_FK _ _, HB9.out⟩
end Go.Proofs.YtmndeoncbocplaaDoor.C
end
