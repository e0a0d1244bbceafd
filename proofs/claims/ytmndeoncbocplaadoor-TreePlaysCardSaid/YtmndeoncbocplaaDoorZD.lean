/- Texts that the claim's law stands on, cut down to what it reaches. -/
import Derived.Test.YtmndeoncbocplaaDoorZB
import Derived.Deep.RegionHeldLaw
import Derived.Deep.RegionHeld3
import Derived.Test.YtmndeoncbocplaaDoorZA2
import Derived.Deep.LoopGhost
import Derived.Test.YtmndeoncbocplaaDoorZA
import Derived.Test.YtmndeoncbocplaaDoorZQ
import Derived.Test.YtmndeoncbocplaaDoorZC
set_option linter.unusedVariables false
set_option linter.unusedSimpArgs false
section
set_option linter.unusedVariables false
set_option linter.unusedSimpArgs false
namespace Go.Proofs.YtmndeoncbocplaaDoor.C
open Go.RowKit Go.Proofs.YtmndeoncbocplaaDoor.Q Go.Proofs.YtmndeoncbocplaaDoorW.PrintWords Go.Proofs.YtmndeoncbocplaaDoorW.PrintLast Go.Proofs.YtmndeoncbocplaaDoorW.PrintMore
attribute [local go_sem ↓] rd_at50 wr_at50 al_at50
attribute [local go_sem] rd50_new wr50_new al50
def labK : S41 := ⟨1, 0, 3, 255⟩
end Go.Proofs.YtmndeoncbocplaaDoor.C
namespace Go.Proofs.YtmndeoncbocplaaDoor.C
open Go.RowKit Go.Proofs.YtmndeoncbocplaaDoor.Q Go.Proofs.YtmndeoncbocplaaDoorW.PrintWords Go.Proofs.YtmndeoncbocplaaDoorW.PrintLast Go.Proofs.YtmndeoncbocplaaDoorW.PrintMore
end Go.Proofs.YtmndeoncbocplaaDoor.C
namespace Go.Proofs.YtmndeoncbocplaaDoor.C
open Go.RowKit Go.Proofs.YtmndeoncbocplaaDoor.Q Go.Proofs.YtmndeoncbocplaaDoorW.PrintWords Go.Proofs.YtmndeoncbocplaaDoorW.PrintLast Go.Proofs.YtmndeoncbocplaaDoorW.PrintMore
attribute [local go_sem ↓] rd_at50 wr_at50 al_at50
attribute [local go_sem] rd50_new wr50_new al50
attribute [local go_sem high] eqA41 eqA47 eqA96
/-- A number out of a row. -/
theorem int_at {w W : World} {A : Option Addr} {xs : List Int} (hC : Kd.C (Kd.int .i64) w A xs.length xs) (hb : Below w.heap.size w W) (i : Nat) (hi : i < xs.length) : ∃ ad, A = some ad ∧ W.cell? (ad.add i) = some (.int .i64 (xs.getD i 0)) := by
  obtain ⟨ad, cs, e, _, hK, hc⟩ := ReadsRow.get_ (Kd.C_below hC hb) (0 : Int) (i : Int) (by omega) (by omega)
  have hcs : cs = [.int .i64 (xs.getD (i : Int).toNat 0)] := hK
  subst hcs
  have h := hc 0 _ rfl
  rw [Int.toNat_natCast, Nat.add_zero, show i * (Kd.int .i64).sz = i from Nat.mul_one i] at h
  exact ⟨ad, e, h⟩
set_option maxHeartbeats 8000000 in
set_option maxRecDepth 100000 in
theorem same_t (n : S50) (cs ds : List Value) (w : World) (h1 : k50.K w n cs) (h2 : k50.K w n ds) : Calls Tryd.prog 42 #[.agg cs.toArray, .agg ds.toArray] w fun e w' => e = .returned (.bool true) ∧ Below w.heap.size w w' := by
  obtain ⟨A6, c6, A11, c11, rfl, l6, g6, l11, g11⟩ := k50_open h1
  obtain ⟨B6, d6, B11, d11, rfl, m6, q6, m11, q11⟩ := k50_open h2
  clear h1 h2
  have hz3 : n.f3.length ≤ 9223372036854775807 := g6.2.1
  have hz5 : n.f5.length ≤ 9223372036854775807 := g11.2.1
  have G6 := Lib.hid g6
  have G11 := Lib.hid g11
  have Q6 := Lib.hid q6
  have Q11 := Lib.hid q11
  clear g6 g11 q6 q11
  have EA := Lib.hid (blk_alloc (blk_new w (.cells #[.string n.f0, .bool n.f1, .int .i64 n.f2.f0, .int .i64 n.f2.f1, .int .i64 n.f2.f2, .int .i64 n.f2.f3, .slice A6 n.f3.length c6, .int .i64 n.f4.f0, .int .i64 n.f4.f1, .int .i64 n.f4.f2, .int .i64 n.f4.f3, .slice A11 n.f5.length c11, .int .i64 n.f6.f0, .int .i64 n.f6.f1, .int .i64 n.f6.f2, .int .i64 n.f6.f3] 50)) (.cells #[.string n.f0, .bool n.f1, .int .i64 n.f2.f0, .int .i64 n.f2.f1, .int .i64 n.f2.f2, .int .i64 n.f2.f3, .slice B6 n.f3.length d6, .int .i64 n.f4.f0, .int .i64 n.f4.f1, .int .i64 n.f4.f2, .int .i64 n.f4.f3, .slice B11 n.f5.length d11, .int .i64 n.f6.f0, .int .i64 n.f6.f1, .int .i64 n.f6.f2, .int .i64 n.f6.f3] 50))
  have EB := Lib.hid (show ((w.alloc (.cells #[.string n.f0, .bool n.f1, .int .i64 n.f2.f0, .int .i64 n.f2.f1, .int .i64 n.f2.f2, .int .i64 n.f2.f3, .slice A6 n.f3.length c6, .int .i64 n.f4.f0, .int .i64 n.f4.f1, .int .i64 n.f4.f2, .int .i64 n.f4.f3, .slice A11 n.f5.length c11, .int .i64 n.f6.f0, .int .i64 n.f6.f1, .int .i64 n.f6.f2, .int .i64 n.f6.f3] 50)).alloc (.cells #[.string n.f0, .bool n.f1, .int .i64 n.f2.f0, .int .i64 n.f2.f1, .int .i64 n.f2.f2, .int .i64 n.f2.f3, .slice B6 n.f3.length d6, .int .i64 n.f4.f0, .int .i64 n.f4.f1, .int .i64 n.f4.f2, .int .i64 n.f4.f3, .slice B11 n.f5.length d11, .int .i64 n.f6.f0, .int .i64 n.f6.f1, .int .i64 n.f6.f2, .int .i64 n.f6.f3] 50)).heap[w.heap.size + 1]? = some (.cells #[.string n.f0, .bool n.f1, .int .i64 n.f2.f0, .int .i64 n.f2.f1, .int .i64 n.f2.f2, .int .i64 n.f2.f3, .slice B6 n.f3.length d6, .int .i64 n.f4.f0, .int .i64 n.f4.f1, .int .i64 n.f4.f2, .int .i64 n.f4.f3, .slice B11 n.f5.length d11, .int .i64 n.f6.f0, .int .i64 n.f6.f1, .int .i64 n.f6.f2, .int .i64 n.f6.f3] 50) by have := blk_new (w.alloc (.cells #[.string n.f0, .bool n.f1, .int .i64 n.f2.f0, .int .i64 n.f2.f1, .int .i64 n.f2.f2, .int .i64 n.f2.f3, .slice A6 n.f3.length c6, .int .i64 n.f4.f0, .int .i64 n.f4.f1, .int .i64 n.f4.f2, .int .i64 n.f4.f3, .slice A11 n.f5.length c11, .int .i64 n.f6.f0, .int .i64 n.f6.f1, .int .i64 n.f6.f2, .int .i64 n.f6.f3] 50)) (.cells #[.string n.f0, .bool n.f1, .int .i64 n.f2.f0, .int .i64 n.f2.f1, .int .i64 n.f2.f2, .int .i64 n.f2.f3, .slice B6 n.f3.length d6, .int .i64 n.f4.f0, .int .i64 n.f4.f1, .int .i64 n.f4.f2, .int .i64 n.f4.f3, .slice B11 n.f5.length d11, .int .i64 n.f6.f0, .int .i64 n.f6.f1, .int .i64 n.f6.f2, .int .i64 n.f6.f3] 50); rwa [World.size_alloc] at this)
  have HB := Lib.hid (below_alloc (below_alloc (Below.refl w.heap.size w) (.cells #[.string n.f0, .bool n.f1, .int .i64 n.f2.f0, .int .i64 n.f2.f1, .int .i64 n.f2.f2, .int .i64 n.f2.f3, .slice A6 n.f3.length c6, .int .i64 n.f4.f0, .int .i64 n.f4.f1, .int .i64 n.f4.f2, .int .i64 n.f4.f3, .slice A11 n.f5.length c11, .int .i64 n.f6.f0, .int .i64 n.f6.f1, .int .i64 n.f6.f2, .int .i64 n.f6.f3] 50)) (.cells #[.string n.f0, .bool n.f1, .int .i64 n.f2.f0, .int .i64 n.f2.f1, .int .i64 n.f2.f2, .int .i64 n.f2.f3, .slice B6 n.f3.length d6, .int .i64 n.f4.f0, .int .i64 n.f4.f1, .int .i64 n.f4.f2, .int .i64 n.f4.f3, .slice B11 n.f5.length d11, .int .i64 n.f6.f0, .int .i64 n.f6.f1, .int .i64 n.f6.f2, .int .i64 n.f6.f3] 50))
  have mixed : Tryd.prog.follows .mixedOrders = true := by kernel_rfl
  go_enter Tryd.func42, Tryd.ntmps42
  go_wp2
  generalize (w.alloc (.cells #[.string n.f0, .bool n.f1, .int .i64 n.f2.f0, .int .i64 n.f2.f1, .int .i64 n.f2.f2, .int .i64 n.f2.f3, .slice A6 n.f3.length c6, .int .i64 n.f4.f0, .int .i64 n.f4.f1, .int .i64 n.f4.f2, .int .i64 n.f4.f3, .slice A11 n.f5.length c11, .int .i64 n.f6.f0, .int .i64 n.f6.f1, .int .i64 n.f6.f2, .int .i64 n.f6.f3] 50)).alloc (.cells #[.string n.f0, .bool n.f1, .int .i64 n.f2.f0, .int .i64 n.f2.f1, .int .i64 n.f2.f2, .int .i64 n.f2.f3, .slice B6 n.f3.length d6, .int .i64 n.f4.f0, .int .i64 n.f4.f1, .int .i64 n.f4.f2, .int .i64 n.f4.f3, .slice B11 n.f5.length d11, .int .i64 n.f6.f0, .int .i64 n.f6.f1, .int .i64 n.f6.f2, .int .i64 n.f6.f3] 50) = V at EA EB HB ⊢
  go_loopg [5] n.f3.length (fun k s5 wr => ∃ i : Nat, i ≤ n.f3.length ∧ n.f3.length - i ≤ k ∧ s5 = .int .i64 i ∧ Hid (Below V.heap.size V wr))
  case atStart => exact ⟨0, Nat.zero_le _, Nat.le_refl _, rfl, Lib.hid (Below.refl _ _)⟩
  case round =>
    obtain ⟨i, hi, hik, rfl, HV⟩ := hrel
    have a6 := (blk_cell (blk_below EA.out HV.out) 6).trans rfl
    have b6 := (blk_cell (blk_below EB.out HV.out) 6).trans rfl
    by_cases hlt : i < n.f3.length
    · obtain ⟨ad, hA, x0, x1⟩ := at_T96 (Kd.C_below G6.out (below_step HB.out HV.out)) (i : Int) (by omega) (by omega)
      obtain ⟨bd, hB, y0, y1⟩ := at_T96 (Kd.C_below Q6.out (below_step HB.out HV.out)) (i : Int) (by omega) (by omega)
      subst hA
      subst hB
      simp only [Int.toNat_natCast] at x0 x1 y0 y1
      generalize rd_T96 n.f3 (i : Int) = y at x0 x1 y0 y1
      go_wp2
      go_region_o
      go_wp2
      go_roundg (n.f3.length - (i + 1))
      case measure => omega
      case rel => exact ⟨i + 1, hlt, Nat.le_refl _, by go_num, Lib.hid (below_drew1 HV.out)⟩
    · obtain ⟨V1, hV1⟩ : ∃ V, V = wr := ⟨_, rfl⟩
      subst hV1
      have EA1 := Lib.hid (blk_below EA.out HV.out)
      have EB1 := Lib.hid (blk_below EB.out HV.out)
      have HB1 := Lib.hid (below_step HB.out HV.out)
      go_wp2
      go_loopg [6] n.f5.length (fun k s6 wr => ∃ j : Nat, j ≤ n.f5.length ∧ n.f5.length - j ≤ k ∧ s6 = .int .i64 j ∧ Hid (Below V1.heap.size V1 wr))
      case atStart => exact ⟨0, Nat.zero_le _, Nat.le_refl _, rfl, Lib.hid (Below.refl _ _)⟩
      case round =>
        obtain ⟨j, hj, hjk, rfl, HV2⟩ := hrel
        have a11 := (blk_cell (blk_below EA1.out HV2.out) 11).trans rfl
        have b11 := (blk_cell (blk_below EB1.out HV2.out) 11).trans rfl
        by_cases hjt : j < n.f5.length
        · obtain ⟨ad, hA, x0⟩ := int_at G11.out (below_step HB1.out HV2.out) j hjt
          obtain ⟨bd, hB, y0⟩ := int_at Q11.out (below_step HB1.out HV2.out) j hjt
          subst hA
          subst hB
          generalize n.f5.getD j 0 = y at x0 y0
          go_wp2
          go_region_o
          go_wp2
          go_roundg (n.f5.length - (j + 1))
          case measure => omega
          case rel => exact ⟨j + 1, hjt, Nat.le_refl _, by go_num, Lib.hid (below_drew1 HV2.out)⟩
        · go_wp2
          go_ret
          exact ⟨rfl, below_step HB1.out HV2.out⟩
end Go.Proofs.YtmndeoncbocplaaDoor.C
end
section
set_option linter.unusedVariables false
set_option linter.unusedSimpArgs false
namespace Go.Proofs.YtmndeoncbocplaaDoor.C
open Go.RowKit Go.Proofs.YtmndeoncbocplaaDoor.Q Go.Proofs.YtmndeoncbocplaaDoorW.PrintWords Go.Proofs.YtmndeoncbocplaaDoorW.PrintLast Go.Proofs.YtmndeoncbocplaaDoorW.PrintMore
end Go.Proofs.YtmndeoncbocplaaDoor.C
namespace Go.Proofs.YtmndeoncbocplaaDoor.C
open Go.RowKit Go.Proofs.YtmndeoncbocplaaDoor.Q Go.Proofs.YtmndeoncbocplaaDoorW.PrintWords Go.Proofs.YtmndeoncbocplaaDoorW.PrintLast Go.Proofs.YtmndeoncbocplaaDoorW.PrintMore
noncomputable def cReg (f : Func) (k : Nat) : Code := (f.body.bind fun c => regIn c k).getD .skip
theorem take_at {P : Program} {md : Region.Mode} {ops : Array Oper} {Q : Exit → Act → World → Prop} {S : World → Prop} (i d : Nat) {oi : Oper} {v : Value} {fuel : Nat} {listed : Array Bool} {a : Act} {w : World} (hi : ops.toList[i]? = some oi) (hd : oi.dst = some d)
    (hs : Region.noSelect ops = true) (hf : Region.free md ops listed i = true) (hr : (Region.ready md ops listed).contains i = true)
    (hQ : ∀ c a w, Q (.panic c) (a.put oi.dst v) w → Q (.panic c) a w) (hy : YieldsIf P ops S oi v a) (hS : S w)
    (h : wpAnyH P md ops Q S fuel (listed.setIfInBounds i true) (a.put (some d) v) w) : wpAnyH P md ops Q S (fuel + 1) listed a w :=
  wpAnyH_take (by rw [← Array.getElem?_toList]; exact hi) hs hf hr hQ hy hS (by rw [hd]; exact h)
end Go.Proofs.YtmndeoncbocplaaDoor.C
end
