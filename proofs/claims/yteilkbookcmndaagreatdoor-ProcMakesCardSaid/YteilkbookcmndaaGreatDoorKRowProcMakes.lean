/- ProcMakes: a process makes a child just if the lists let it, and the child is then in the tree. The row of the statement and its tied card. For every input; the two listed tables of Go's library read as the program's text lays them (the card ties that). -/
import Derived.Test.YteilkbookcmndaaGreatDoorRows
import Derived.Test.YteilkbookcmndaaGreatDoorKFin
import Derived.WalkKit
import Derived.Deep.DeepHandedRow
import Derived.Lib.LaidTab
import Derived.Test.YteilkbookcmndaaGreatDoorCards
import Derived.Test.YteilkbookcmndaaGreatDoorTie
import Derived.ProofKit
import Derived.OpenShut
import Derived.ShutString
import Derived.ChangeOld
import Derived.Below
import Derived.SizedLaws
set_option linter.unusedVariables false
set_option linter.unusedSimpArgs false
namespace Go.Proofs.YteilkbookcmndaaGreatDoor.procMakes
open Go.ChangeShapes Go.WideShapes Go.ChangeAt Go.RowKit
open Go.ChangeMaps (open_string shut_string)
theorem own : ownKnob Tryz.prog.godebug = none := by kernel_rfl
/-- Go's table of first bytes, as cells. -/
def firstCells : Array Value := (((List.replicate 128 240 ++ List.replicate 66 241 ++ List.replicate 30 2 ++ [19] ++ List.replicate 12 3 ++ [35] ++ List.replicate 2 3 ++ [52] ++ List.replicate 3 4 ++ [68] ++ List.replicate 11 241) : List Int).map (Value.int .u8)).toArray
/-- Go's table of second bytes' ranges, as cells. -/
def rangeCells : Array Value := ((([128, 191, 160, 191, 128, 159, 144, 191, 128, 143] ++ List.replicate 22 0) : List Int).map (Value.int .u8)).toArray
def fill (cs : Array Value) : Obj → Obj
  | .cells _ t frozen => .cells cs t frozen
  | o => o
/-- A world for the witness: the settled one, the two tables holding what their initialisers lay. -/
noncomputable def laidWorld (os : Os) : World :=
  { World.holding Tryz.prog os ⟨#[], #[], []⟩ with heap := ((World.holding Tryz.prog os ⟨#[], #[], []⟩).heap.modify 2 (fill firstCells)).modify 3 (fill rangeCells) }
theorem laid_met (os : Os) : laidMet Tryz.prog Rows.procMakesRow.laid ((laidWorld os).forCall (fun _ _ => 0) ⟨#[], #[.slice none 0 0, .slice none 0 0, .slice none 0 0, .slice none 0 0, .int .i64 0, .int .i64 0, .slice none 0 0, .string ByteArray.empty], []⟩).memory :=
  laidMet_of_run' 8 (by kernel_rfl) (by kernel_rfl)
theorem reads (os : Os) {H : Type} (enc : TypeId × Value → H) : ∃ x, DataW.whole enc Tryz.prog ((laidWorld os).forCall (fun _ _ => 0) ⟨#[], #[.slice none 0 0, .slice none 0 0, .slice none 0 0, .slice none 0 0, .int .i64 0, .int .i64 0, .slice none 0 0, .string ByteArray.empty], []⟩).memory Tryz.f3.params.toList Rows.procMakesSpec.vars false #[Value.slice none 0 0, Value.slice none 0 0, Value.slice none 0 0, Value.slice none 0 0, Value.int .i64 0, Value.int .i64 0, Value.slice none 0 0, Value.string ByteArray.empty].toList 8 = some x :=
  Option.isSome_iff_exists.1 (by kernel_rfl)
theorem laidOut : laidOutB Tryz.prog = true := by kernel_rfl
set_option maxRecDepth 100000 in
theorem lifted (os : Os) (started : os.Started) (H : Type) (enc : TypeId × Value → H) (F : Stop.Interp) :
    ReturnsInHanded {} Tryz.checked os 3 .any ((OpenSpec.ofChange Rows.procMakesSpec).preRow enc Tryz.prog Tryz.f3 Rows.procMakesRow.domain false Rows.procMakesRow.laid) (((OpenSpec.ofChange Rows.procMakesSpec).at F).post enc Tryz.prog Tryz.f3 false true false false) := by
  obtain ⟨x, hx⟩ := reads os enc
  refine returnsInHanded_of_row (C := Tryz.checked) (s := OpenSpec.ofChange Rows.procMakesSpec) own started (by kernel_rfl) Tryz.func3
    (witness_row_at (enc := enc) (C := Tryz.checked) false (laidWorld os) #[Value.slice none 0 0, Value.slice none 0 0, Value.slice none 0 0, Value.slice none 0 0, Value.int .i64 0, Value.int .i64 0, Value.slice none 0 0, Value.string ByteArray.empty] rfl (by kernel_rfl) (by kernel_rfl) (by kernel_rfl)
      (OpenSpec.preRow_of_cond 8 hx (by kernel_rfl) (fun k hk => by cases hk) (by kernel_rfl) (laid_met os))) ?_
  intro W base args ds gs before hval0 hW _ _ hsz0 _ _ _
  have hval : ∀ (j : Nat) t v, Tryz.f3.params[j]? = some t → args[j]? = some v → Value.okWide Tryz.prog W .any base t v := hval0
  have hW' := hW
  obtain ⟨p, q, hA0, hV, rfl, hfz, hnd⟩ := hW
  have hA : DataW.TrodAll enc Tryz.prog W 0 (fun _ => true) true Tryz.f3.params.toList args.toList ds p := hA0
  rw [Tryz.params3] at hA hval
  obtain ⟨v0, vs0, d0, ds0, p0, q0, hargs, rfl, rfl, h0, r0⟩ := trodAll_cons hA
  obtain ⟨v1, vs1, d1, ds1, p1, q1, rfl, rfl, rfl, h1, r1⟩ := trodAll_cons r0
  obtain ⟨v2, vs2, d2, ds2, p2, q2, rfl, rfl, rfl, h2, r2⟩ := trodAll_cons r1
  obtain ⟨v3, vs3, d3, ds3, p3, q3, rfl, rfl, rfl, h3, r3⟩ := trodAll_cons r2
  obtain ⟨v4, vs4, d4, ds4, p4, q4, rfl, rfl, rfl, h4, r4⟩ := trodAll_cons r3
  obtain ⟨v5, vs5, d5, ds5, p5, q5, rfl, rfl, rfl, h5, r5⟩ := trodAll_cons r4
  obtain ⟨v6, vs6, d6, ds6, p6, q6, rfl, rfl, rfl, h6, r6⟩ := trodAll_cons r5
  obtain ⟨v7, vs7, d7, ds7, p7, q7, rfl, rfl, rfl, h7, r7⟩ := trodAll_cons r6
  obtain ⟨rfl, rfl, rfl⟩ := trodAll_nil r7
  obtain rfl : args = #[v0, v1, v2, v3, v4, v5, v6, v7] := by cases args; simp_all
  obtain ⟨rfl, rfl⟩ := trodVars_none hV
  have k0 := h0
  have lt0 : ∀ x ∈ p0, x.block < W.heap.size := by obtain ⟨m, hm⟩ := k0; exact DataW.trod_lt m _ _ _ hm
  obtain ⟨m0, t0⟩ := h0
  obtain ⟨A0, xs0, c0, rfl, hc0, hC0⟩ := C.rows41 t0 (by obtain ⟨a, l, c, e⟩ := okWide_slice Tryz.underlying22 (hval 0 22 v0 rfl rfl); exact ⟨a, l, c, e⟩)
  have k1 := h1
  have lt1 : ∀ x ∈ p1, x.block < W.heap.size := by obtain ⟨m, hm⟩ := k1; exact DataW.trod_lt m _ _ _ hm
  obtain ⟨m1, t1⟩ := h1
  obtain ⟨A1, xs1, c1, rfl, hc1, hC1⟩ := C.rows80 t1 (by obtain ⟨a, l, c, e⟩ := okWide_slice Tryz.underlying23 (hval 1 23 v1 rfl rfl); exact ⟨a, l, c, e⟩)
  have k2 := h2
  have lt2 : ∀ x ∈ p2, x.block < W.heap.size := by obtain ⟨m, hm⟩ := k2; exact DataW.trod_lt m _ _ _ hm
  obtain ⟨m2, t2⟩ := h2
  obtain ⟨A2, xs2, c2, rfl, hc2, hC2⟩ := C.rows24 t2 (by obtain ⟨a, l, c, e⟩ := okWide_slice Tryz.underlying24 (hval 2 24 v2 rfl rfl); exact ⟨a, l, c, e⟩)
  have k3 := h3
  have lt3 : ∀ x ∈ p3, x.block < W.heap.size := by obtain ⟨m, hm⟩ := k3; exact DataW.trod_lt m _ _ _ hm
  obtain ⟨m3, t3⟩ := h3
  obtain ⟨A3, xs3, c3, rfl, hc3, hC3⟩ := C.rows27 t3 (by obtain ⟨a, l, c, e⟩ := okWide_slice Tryz.underlying25 (hval 3 25 v3 rfl rfl); exact ⟨a, l, c, e⟩)
  obtain ⟨a4, rfl, rfl, rfl, w4⟩ := open_int Tryz.underlying3 (hval 4 3 v4 rfl rfl) h4
  obtain ⟨a5, rfl, rfl, rfl, w5⟩ := open_int Tryz.underlying3 (hval 5 3 v5 rfl rfl) h5
  have k6 := h6
  have lt6 : ∀ x ∈ p6, x.block < W.heap.size := by obtain ⟨m, hm⟩ := k6; exact DataW.trod_lt m _ _ _ hm
  obtain ⟨m6, t6⟩ := h6
  obtain ⟨A6, xs6, c6, rfl, hc6, hC6⟩ := C.rows27 t6 (by obtain ⟨a, l, c, e⟩ := okWide_slice Tryz.underlying25 (hval 6 25 v6 rfl rfl); exact ⟨a, l, c, e⟩)
  obtain ⟨a7, rfl, rfl, rfl, w7⟩ := open_string Tryz.underlying9 (hval 7 9 v7 rfl rfl) h7
  clear hA0 hval0 hsz0
  refine (C.makes_f xs0 xs1 xs2 xs3 xs6 a4 a5 a7 A0 A1 A2 A3 A6 c0 c1 c2 c3 c6 W hC0 hc0 hC1 hc1 hC2 hc2 hC3 hc3 hC6 hc6).mono fun e W' ⟨he, bel⟩ => ?_
  subst he
  exact ⟨_, rfl, _, _, _, [], _, [], hW', trodAll_mk1 (shut_bool Tryz.underlying4 _), (trodAll_cons_mk (Below.trod laidOut (by kernel_rfl) (of_decide_eq_true (by kernel_rfl)) k0 bel lt0) (trodAll_cons_mk (Below.trod laidOut (by kernel_rfl) (of_decide_eq_true (by kernel_rfl)) k1 bel lt1) (trodAll_cons_mk (Below.trod laidOut (by kernel_rfl) (of_decide_eq_true (by kernel_rfl)) k2 bel lt2) (trodAll_cons_mk (Below.trod laidOut (by kernel_rfl) (of_decide_eq_true (by kernel_rfl)) k3 bel lt3) (trodAll_cons_mk (shut_int Tryz.underlying3 w4) (trodAll_cons_mk (shut_int Tryz.underlying3 w5) (trodAll_cons_mk (Below.trod laidOut (by kernel_rfl) (of_decide_eq_true (by kernel_rfl)) k6 bel lt6) (trodAll_cons_mk (shut_string Tryz.underlying9 w7) trodAll_mk0)))))))), rfl, bel.frame _, fun h => by cases h⟩
theorem xPlace : Tryz.prog.inPlace 3 = Rows.procMakesRow.inPlace := by kernel_rfl
theorem xUnf : Tryz.prog.unfollowed 3 = Rows.procMakesRow.unfollowed := by kernel_rfl
theorem xRec : Tryz.prog.recurses 3 = Rows.procMakesRow.recurses := by kernel_rfl
theorem xNamed : Tryz.prog.varsNamed 3 = Rows.procMakesRow.named := by kernel_rfl
theorem closed : joinedFacts Tryz.prog 3 Tryz.f3 (OpenSpec.ofChange Rows.procMakesSpec).bare Rows.procMakesRow = true := by
  unfold joinedFacts
  rw [xPlace, xUnf, xRec, xNamed]
  kernel_rfl
theorem xName : Tryz.pinned.checked.prog.funcNamed Rows.procMakesRow.func = some 3 := by kernel_rfl
theorem xInst : Tryz.f3.isInstance Tryz.pinned.checked.prog Rows.procMakesRow.origin Rows.procMakesRow.targs := of_decide_eq_true (by kernel_rfl)
theorem xWrap : Tryz.f3.isWrapper Tryz.pinned.checked.prog Rows.procMakesRow.wrapper Rows.procMakesRow.mainSum := by
  unfold Func.isWrapper; first | (rw [if_pos (by decide +kernel)]; kernel_rfl) | (rw [if_neg (by decide +kernel)]; exact ⟨rfl, rfl⟩)
theorem over : Rows.ProcMakesSaid :=
  OpenClaim.holds_of_cond 3 Tryz.f3 rfl rfl rfl rfl rfl rfl rfl ⟨rfl, rfl, rfl, rfl, rfl⟩ rfl rfl rfl rfl rfl xName Tryz.func3 closed xInst xWrap
    (fun os started H enc _ F => by rw [OpenClaim.pre_eq_preRow]; exact lifted os started H enc F)
/-- No parameter wants a stand-in; the program's own looks are off. -/
theorem plain (f : FuncId) (fn : Func) (hf : Tryz.pinned.checked.prog.funcNamed Rows.procMakesRow.func = some f) (hfn : Tryz.pinned.checked.prog.funcs[f]? = some fn) :
    true = Tryz.pinned.checked.prog.looks [] ∧ ∀ (j : Nat) t, fn.params[j]? = some t → Tryz.pinned.checked.prog.wantsStandIn t = false := by
  obtain rfl : f = 3 := Option.some.inj ((show Tryz.prog.funcNamed Rows.procMakesRow.func = some 3 by kernel_rfl).symm.trans hf) |>.symm
  obtain rfl : fn = Tryz.f3 := (Option.some.inj (Tryz.func3.symm.trans hfn)).symm
  refine ⟨by kernel_rfl, fun j t ht => ?_⟩
  rw [Tryz.params3] at ht
  have h := Array.mem_of_getElem? ht
  have hall : ∀ u ∈ (Tryz.f3.params : Array Nat), Tryz.prog.wantsStandIn u = false := by
    rw [Tryz.params3]
    intro u hu
    simp only [List.mem_toArray, List.mem_cons, List.mem_nil_iff, or_false] at hu
    rcases hu with rfl | rfl | rfl | rfl | rfl | rfl | rfl | rfl
    all_goals exact (show Tryz.prog.wantsStandIn _ = false by kernel_rfl)
  rw [Tryz.params3] at hall
  exact hall t h
theorem card : Rows.ProcMakesCardSaid :=
  Claim7.holds_tied_plain_at .later [] _ _ _ _ over (fun _ h => by cases h) (by kernel_rfl) (fun _ h => by cases h) procMakes_row_tie rfl ⟨rfl, rfl⟩ (by kernel_rfl) rfl plain (by kernel_rfl)
#print axioms card
end Go.Proofs.YteilkbookcmndaaGreatDoor.procMakes
namespace Go.Proofs.YteilkbookcmndaaGreatDoor
/-- The card, under a short name, for the claim. -/
theorem procMakes_holds : Rows.ProcMakesCardSaid := procMakes.card
end Go.Proofs.YteilkbookcmndaaGreatDoor
