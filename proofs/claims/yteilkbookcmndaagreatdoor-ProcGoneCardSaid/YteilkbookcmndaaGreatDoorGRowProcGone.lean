/- ProcGone: a segment that is deleted while a process is bound to it is there no more, one that is there again is what it is then: the walk. The row of the statement and its tied card. For every input; the two listed tables of Go's library read as the program's text lays them (the card ties that). -/
import Derived.Test.YteilkbookcmndaaGreatDoorRows
import Derived.Test.YteilkbookcmndaaGreatDoorGFin
import Derived.WalkKit
import Derived.Deep.DeepHandedRow
import Derived.Lib.LaidTab
import Derived.Test.YteilkbookcmndaaGreatDoorCards
import Derived.Test.YteilkbookcmndaaGreatDoorTie
import Derived.ProofKit
import Derived.OpenShut
import Derived.ShutString
import Derived.ChangeOld
import Derived.Below
import Derived.SizedLaws
set_option linter.unusedVariables false
set_option linter.unusedSimpArgs false
namespace Go.Proofs.YteilkbookcmndaaGreatDoor.procGone
open Go.ChangeShapes Go.WideShapes Go.ChangeAt Go.RowKit
open Go.ChangeMaps (open_string shut_string)
theorem own : ownKnob Tryz.prog.godebug = none := by kernel_rfl
/-- Go's table of first bytes, as cells. -/
def firstCells : Array Value := (((List.replicate 128 240 ++ List.replicate 66 241 ++ List.replicate 30 2 ++ [19] ++ List.replicate 12 3 ++ [35] ++ List.replicate 2 3 ++ [52] ++ List.replicate 3 4 ++ [68] ++ List.replicate 11 241) : List Int).map (Value.int .u8)).toArray
/-- Go's table of second bytes' ranges, as cells. -/
def rangeCells : Array Value := ((([128, 191, 160, 191, 128, 159, 144, 191, 128, 143] ++ List.replicate 22 0) : List Int).map (Value.int .u8)).toArray
def fill (cs : Array Value) : Obj → Obj
  | .cells _ t frozen => .cells cs t frozen
  | o => o
/-- A world for the witness: the settled one, the two tables holding what their initialisers lay. -/
noncomputable def laidWorld (os : Os) : World :=
  { World.holding Tryz.prog os ⟨#[], #[], []⟩ with heap := ((World.holding Tryz.prog os ⟨#[], #[], []⟩).heap.modify 2 (fill firstCells)).modify 3 (fill rangeCells) }
theorem laid_met (os : Os) : laidMet Tryz.prog Rows.procGoneRow.laid ((laidWorld os).forCall (fun _ _ => 0) ⟨#[], #[.int .i64 0, .int .i64 0, .bool false], []⟩).memory :=
  laidMet_of_run' 8 (by kernel_rfl) (by kernel_rfl)
theorem reads (os : Os) {H : Type} (enc : TypeId × Value → H) : ∃ x, DataW.whole enc Tryz.prog ((laidWorld os).forCall (fun _ _ => 0) ⟨#[], #[.int .i64 0, .int .i64 0, .bool false], []⟩).memory Tryz.f8.params.toList Rows.procGoneSpec.vars false #[Value.int .i64 0, Value.int .i64 0, Value.bool false].toList 8 = some x :=
  Option.isSome_iff_exists.1 (by kernel_rfl)
theorem laidOut : laidOutB Tryz.prog = true := by kernel_rfl
set_option maxRecDepth 100000 in
theorem lifted (os : Os) (started : os.Started) (H : Type) (enc : TypeId × Value → H) (F : Stop.Interp) :
    ReturnsInHanded {} Tryz.checked os 8 .any ((OpenSpec.ofChange Rows.procGoneSpec).preRow enc Tryz.prog Tryz.f8 Rows.procGoneRow.domain false Rows.procGoneRow.laid) (((OpenSpec.ofChange Rows.procGoneSpec).at F).post enc Tryz.prog Tryz.f8 false true false false) := by
  obtain ⟨x, hx⟩ := reads os enc
  refine returnsInHanded_of_row (C := Tryz.checked) (s := OpenSpec.ofChange Rows.procGoneSpec) own started (by kernel_rfl) Tryz.func8
    (witness_row_at (enc := enc) (C := Tryz.checked) false (laidWorld os) #[Value.int .i64 0, Value.int .i64 0, Value.bool false] rfl (by kernel_rfl) (by kernel_rfl) (by kernel_rfl)
      (OpenSpec.preRow_of_cond 8 hx (by kernel_rfl) (fun k hk => by cases hk) (by kernel_rfl) (laid_met os))) ?_
  intro W base args ds gs before hval0 hW _ _ hsz0 _ _ _
  have hval : ∀ (j : Nat) t v, Tryz.f8.params[j]? = some t → args[j]? = some v → Value.okWide Tryz.prog W .any base t v := hval0
  have hW' := hW
  obtain ⟨p, q, hA0, hV, rfl, hfz, hnd⟩ := hW
  have hA : DataW.TrodAll enc Tryz.prog W 0 (fun _ => true) true Tryz.f8.params.toList args.toList ds p := hA0
  rw [Tryz.params8] at hA hval
  obtain ⟨v0, vs0, d0, ds0, p0, q0, hargs, rfl, rfl, h0, r0⟩ := trodAll_cons hA
  obtain ⟨v1, vs1, d1, ds1, p1, q1, rfl, rfl, rfl, h1, r1⟩ := trodAll_cons r0
  obtain ⟨v2, vs2, d2, ds2, p2, q2, rfl, rfl, rfl, h2, r2⟩ := trodAll_cons r1
  obtain ⟨rfl, rfl, rfl⟩ := trodAll_nil r2
  obtain rfl : args = #[v0, v1, v2] := by cases args; simp_all
  obtain ⟨rfl, rfl⟩ := trodVars_none hV
  obtain ⟨a0, rfl, rfl, rfl, w0⟩ := open_int Tryz.underlying3 (hval 0 3 v0 rfl rfl) h0
  obtain ⟨a1, rfl, rfl, rfl, w1⟩ := open_int Tryz.underlying2 (hval 1 2 v1 rfl rfl) h1
  obtain ⟨a2, rfl, rfl, rfl⟩ := open_bool Tryz.underlying4 (hval 2 4 v2 rfl rfl) h2
  clear hA0 hval0 hsz0
  refine (C.gone_c a0 a1 a2 W).mono fun e W' ⟨he, bel⟩ => ?_
  subst he
  exact ⟨_, rfl, _, _, _, [], _, [], hW', trodAll_mk1 (shut_bool Tryz.underlying4 _), (trodAll_cons_mk (shut_int Tryz.underlying3 w0) (trodAll_cons_mk (shut_int Tryz.underlying2 w1) (trodAll_cons_mk (shut_bool Tryz.underlying4 a2) trodAll_mk0))), rfl, bel.frame _, fun h => by cases h⟩
theorem xPlace : Tryz.prog.inPlace 8 = Rows.procGoneRow.inPlace := by kernel_rfl
theorem xUnf : Tryz.prog.unfollowed 8 = Rows.procGoneRow.unfollowed := by kernel_rfl
theorem xRec : Tryz.prog.recurses 8 = Rows.procGoneRow.recurses := by kernel_rfl
theorem xNamed : Tryz.prog.varsNamed 8 = Rows.procGoneRow.named := by kernel_rfl
theorem closed : joinedFacts Tryz.prog 8 Tryz.f8 (OpenSpec.ofChange Rows.procGoneSpec).bare Rows.procGoneRow = true := by
  unfold joinedFacts
  rw [xPlace, xUnf, xRec, xNamed]
  kernel_rfl
theorem xName : Tryz.pinned.checked.prog.funcNamed Rows.procGoneRow.func = some 8 := by kernel_rfl
theorem xInst : Tryz.f8.isInstance Tryz.pinned.checked.prog Rows.procGoneRow.origin Rows.procGoneRow.targs := of_decide_eq_true (by kernel_rfl)
theorem xWrap : Tryz.f8.isWrapper Tryz.pinned.checked.prog Rows.procGoneRow.wrapper Rows.procGoneRow.mainSum := by
  unfold Func.isWrapper; first | (rw [if_pos (by decide +kernel)]; kernel_rfl) | (rw [if_neg (by decide +kernel)]; exact ⟨rfl, rfl⟩)
theorem over : Rows.ProcGoneSaid :=
  OpenClaim.holds_of_cond 8 Tryz.f8 rfl rfl rfl rfl rfl rfl rfl ⟨rfl, rfl, rfl, rfl, rfl⟩ rfl rfl rfl rfl rfl xName Tryz.func8 closed xInst xWrap
    (fun os started H enc _ F => by rw [OpenClaim.pre_eq_preRow]; exact lifted os started H enc F)
/-- No parameter wants a stand-in; the program's own looks are off. -/
theorem plain (f : FuncId) (fn : Func) (hf : Tryz.pinned.checked.prog.funcNamed Rows.procGoneRow.func = some f) (hfn : Tryz.pinned.checked.prog.funcs[f]? = some fn) :
    true = Tryz.pinned.checked.prog.looks [] ∧ ∀ (j : Nat) t, fn.params[j]? = some t → Tryz.pinned.checked.prog.wantsStandIn t = false := by
  obtain rfl : f = 8 := Option.some.inj ((show Tryz.prog.funcNamed Rows.procGoneRow.func = some 8 by kernel_rfl).symm.trans hf) |>.symm
  obtain rfl : fn = Tryz.f8 := (Option.some.inj (Tryz.func8.symm.trans hfn)).symm
  refine ⟨by kernel_rfl, fun j t ht => ?_⟩
  rw [Tryz.params8] at ht
  have h := Array.mem_of_getElem? ht
  have hall : ∀ u ∈ (Tryz.f8.params : Array Nat), Tryz.prog.wantsStandIn u = false := by
    rw [Tryz.params8]
    intro u hu
    simp only [List.mem_toArray, List.mem_cons, List.mem_nil_iff, or_false] at hu
    rcases hu with rfl | rfl | rfl
    all_goals exact (show Tryz.prog.wantsStandIn _ = false by kernel_rfl)
  rw [Tryz.params8] at hall
  exact hall t h
theorem card : Rows.ProcGoneCardSaid :=
  Claim7.holds_tied_plain_at .later [] _ _ _ _ over (fun _ h => by cases h) (by kernel_rfl) (fun _ h => by cases h) procGone_row_tie rfl ⟨rfl, rfl⟩ (by kernel_rfl) rfl plain (by kernel_rfl)
#print axioms card
end Go.Proofs.YteilkbookcmndaaGreatDoor.procGone
namespace Go.Proofs.YteilkbookcmndaaGreatDoor
/-- The card, under a short name, for the claim. -/
theorem procGone_holds : Rows.ProcGoneCardSaid := procGone.card
end Go.Proofs.YteilkbookcmndaaGreatDoor
