/- TreePlays: in a tree nodes are found, put, dropped, and told by directories, as the document says; the tree ahead stays as it was. The row of the statement and its tied card. For every input; the listed tables of Go's library read as the program's text lays them (the card ties that). -/
import Derived.Test.YtmndeoncbocplaaDoorRows
import Derived.Test.YtmndeoncbocplaaDoorZPl
import Derived.Test.YtmndeoncbocplaaDoorZO
import Derived.WalkKit
import Derived.Deep.DeepHandedRow
import Derived.Lib.LaidTab
import Derived.Test.YtmndeoncbocplaaDoorCards
import Derived.Test.YtmndeoncbocplaaDoorTie
import Derived.ProofKit
import Derived.OpenShut
import Derived.ShutString
import Derived.ChangeOld
import Derived.Below
import Derived.SizedLaws
set_option linter.unusedVariables false
set_option linter.unusedSimpArgs false
namespace Go.Proofs.YtmndeoncbocplaaDoor.treePlays
open Go.ChangeShapes Go.WideShapes Go.ChangeAt Go.RowKit
open Go.ChangeMaps (open_string shut_string)
theorem own : ownKnob Tryd.prog.godebug = none := by kernel_rfl
/-- math/bits.deBruijn32tab, as cells. -/
def b32Cells : Array Value := (([0, 1, 28, 2, 29, 14, 24, 3, 30, 22, 20, 15, 25, 17, 4, 8, 31, 27, 13, 23, 21, 19, 16, 7, 26, 12, 18, 6, 11, 5, 10, 9] : List Int).map (Value.int .u8)).toArray
/-- math/bits.deBruijn64tab, as cells. -/
def b64Cells : Array Value := (([0, 1, 56, 2, 57, 49, 28, 3, 61, 58, 42, 50, 38, 29, 17, 4, 62, 47, 59, 36, 45, 43, 51, 22, 53, 39, 33, 30, 24, 18, 12, 5, 63, 55, 48, 27, 60, 41, 37, 16, 46, 35, 44, 21, 52, 32, 23, 11, 54, 26, 40, 15, 34, 20, 31, 10, 25, 14, 19, 9, 13, 8, 7, 6] : List Int).map (Value.int .u8)).toArray
/-- internal/strconv.uint64pow10, as cells. -/
def powCells : Array Value := (([1, 10, 100, 1000, 10000, 100000, 1000000, 10000000, 100000000, 1000000000, 10000000000, 100000000000, 1000000000000, 10000000000000, 100000000000000, 1000000000000000, 10000000000000000, 100000000000000000, 1000000000000000000, 10000000000000000000] : List Int).map (Value.int .u64)).toArray
def fill (cs : Array Value) : Obj → Obj
  | .cells _ t frozen => .cells cs t frozen
  | o => o
/-- A world for the witness: the settled one, the listed tables holding what their initialisers lay. -/
noncomputable def laidWorld (os : Os) : World :=
  { World.holding Tryd.prog os ⟨#[], #[], []⟩ with heap := ((((World.holding Tryd.prog os ⟨#[], #[], []⟩).heap).modify 3 (fill powCells)).modify 4 (fill b32Cells)).modify 5 (fill b64Cells) }
theorem laid_met (os : Os) : laidMet Tryd.prog Rows.treePlaysRow.laid ((laidWorld os).forCall (fun _ _ => 0) ⟨#[], #[.slice none 0 0, .slice none 0 0, .slice none 0 0, .slice none 0 0], []⟩).memory :=
  laidMet_of_run' 8 (by kernel_rfl) (by kernel_rfl)
theorem reads (os : Os) {H : Type} (enc : TypeId × Value → H) : ∃ x, DataW.whole enc Tryd.prog ((laidWorld os).forCall (fun _ _ => 0) ⟨#[], #[.slice none 0 0, .slice none 0 0, .slice none 0 0, .slice none 0 0], []⟩).memory Tryd.f19.params.toList Rows.treePlaysSpec.vars false #[Value.slice none 0 0, Value.slice none 0 0, Value.slice none 0 0, Value.slice none 0 0].toList 8 = some x :=
  Option.isSome_iff_exists.1 (by kernel_rfl)
theorem laidOut : laidOutB Tryd.prog = true := by kernel_rfl
set_option maxRecDepth 100000 in
theorem lifted (os : Os) (started : os.Started) (H : Type) (enc : TypeId × Value → H) (F : Stop.Interp) :
    ReturnsInHanded {} Tryd.checked os 19 .any ((OpenSpec.ofChange Rows.treePlaysSpec).preRow enc Tryd.prog Tryd.f19 Rows.treePlaysRow.domain false Rows.treePlaysRow.laid) (((OpenSpec.ofChange Rows.treePlaysSpec).at F).post enc Tryd.prog Tryd.f19 false true false false) := by
  obtain ⟨x, hx⟩ := reads os enc
  refine returnsInHanded_of_row (C := Tryd.checked) (s := OpenSpec.ofChange Rows.treePlaysSpec) own started (by kernel_rfl) Tryd.func19
    (witness_row_at (enc := enc) (C := Tryd.checked) false (laidWorld os) #[Value.slice none 0 0, Value.slice none 0 0, Value.slice none 0 0, Value.slice none 0 0] rfl (by kernel_rfl) (by kernel_rfl) (by kernel_rfl)
      (OpenSpec.preRow_of_cond 8 hx (by kernel_rfl) (fun k hk => by cases hk) (by kernel_rfl) (laid_met os))) ?_
  intro W base args ds gs before hval0 hW _ _ hsz0 _ _ _
  have hval : ∀ (j : Nat) t v, Tryd.f19.params[j]? = some t → args[j]? = some v → Value.okWide Tryd.prog W .any base t v := hval0
  have hW' := hW
  obtain ⟨p, q, hA0, hV, rfl, hfz, hnd⟩ := hW
  have hA : DataW.TrodAll enc Tryd.prog W 0 (fun _ => true) true Tryd.f19.params.toList args.toList ds p := hA0
  rw [Tryd.params19] at hA hval
  obtain ⟨v0, vs0, d0, ds0, p0, q0, hargs, rfl, rfl, h0, r0⟩ := trodAll_cons hA
  obtain ⟨v1, vs1, d1, ds1, p1, q1, rfl, rfl, rfl, h1, r1⟩ := trodAll_cons r0
  obtain ⟨v2, vs2, d2, ds2, p2, q2, rfl, rfl, rfl, h2, r2⟩ := trodAll_cons r1
  obtain ⟨v3, vs3, d3, ds3, p3, q3, rfl, rfl, rfl, h3, r3⟩ := trodAll_cons r2
  obtain ⟨rfl, rfl, rfl⟩ := trodAll_nil r3
  obtain rfl : args = #[v0, v1, v2, v3] := by cases args; simp_all
  obtain ⟨rfl, rfl⟩ := trodVars_none hV
  have k0 := h0
  have lt0 : ∀ x ∈ p0, x.block < W.heap.size := by obtain ⟨m, hm⟩ := k0; exact DataW.trod_lt m _ _ _ hm
  obtain ⟨m0, t0⟩ := h0
  obtain ⟨A0, xs0, c0, rfl, hc0, hC0⟩ := C.rows41 t0 (by obtain ⟨a, l, c, e⟩ := okWide_slice Tryd.underlying38 (hval 0 38 v0 rfl rfl); exact ⟨a, l, c, e⟩)
  have k1 := h1
  have lt1 : ∀ x ∈ p1, x.block < W.heap.size := by obtain ⟨m, hm⟩ := k1; exact DataW.trod_lt m _ _ _ hm
  obtain ⟨m1, t1⟩ := h1
  obtain ⟨A1, xs1, c1, rfl, hc1, hC1⟩ := C.rows80 t1 (by obtain ⟨a, l, c, e⟩ := okWide_slice Tryd.underlying39 (hval 1 39 v1 rfl rfl); exact ⟨a, l, c, e⟩)
  have k2 := h2
  have lt2 : ∀ x ∈ p2, x.block < W.heap.size := by obtain ⟨m, hm⟩ := k2; exact DataW.trod_lt m _ _ _ hm
  obtain ⟨m2, t2⟩ := h2
  obtain ⟨A2, xs2, c2, rfl, hc2, hC2⟩ := C.rows80 t2 (by obtain ⟨a, l, c, e⟩ := okWide_slice Tryd.underlying39 (hval 2 39 v2 rfl rfl); exact ⟨a, l, c, e⟩)
  have k3 := h3
  have lt3 : ∀ x ∈ p3, x.block < W.heap.size := by obtain ⟨m, hm⟩ := k3; exact DataW.trod_lt m _ _ _ hm
  obtain ⟨m3, t3⟩ := h3
  obtain ⟨A3, xs3, c3, rfl, hc3, hC3⟩ := C.rows27 t3 (by obtain ⟨a, l, c, e⟩ := okWide_slice Tryd.underlying27 (hval 3 27 v3 rfl rfl); exact ⟨a, l, c, e⟩)
  clear hA0 hval0 hsz0
  refine (C.plays_c xs0 xs1 xs2 xs3 A0 A1 A2 A3 c0 c1 c2 c3 W hC0 hc0 hC1 hc1 hC2 hc2 hC3 hc3).mono fun e W' ⟨he, bel⟩ => ?_
  subst he
  exact ⟨_, rfl, _, _, _, [], _, [], hW', trodAll_mk1 (shut_bool Tryd.underlying4 _), (trodAll_cons_mk (Below.trod laidOut (by kernel_rfl) (of_decide_eq_true (by kernel_rfl)) k0 bel lt0) (trodAll_cons_mk (Below.trod laidOut (by kernel_rfl) (of_decide_eq_true (by kernel_rfl)) k1 bel lt1) (trodAll_cons_mk (Below.trod laidOut (by kernel_rfl) (of_decide_eq_true (by kernel_rfl)) k2 bel lt2) (trodAll_cons_mk (Below.trod laidOut (by kernel_rfl) (of_decide_eq_true (by kernel_rfl)) k3 bel lt3) trodAll_mk0)))), rfl, bel.frame _, fun h => by cases h⟩
theorem xPlace : Tryd.prog.inPlace 19 = Rows.treePlaysRow.inPlace := by kernel_rfl
theorem xUnf : Tryd.prog.unfollowed 19 = Rows.treePlaysRow.unfollowed := by kernel_rfl
theorem xRec : Tryd.prog.recurses 19 = Rows.treePlaysRow.recurses := by kernel_rfl
theorem xNamed : Tryd.prog.varsNamed 19 = Rows.treePlaysRow.named := by kernel_rfl
theorem closed : joinedFacts Tryd.prog 19 Tryd.f19 (OpenSpec.ofChange Rows.treePlaysSpec).bare Rows.treePlaysRow = true := by
  unfold joinedFacts
  rw [xPlace, xUnf, xRec, xNamed]
  kernel_rfl
theorem xName : Tryd.pinned.checked.prog.funcNamed Rows.treePlaysRow.func = some 19 := by kernel_rfl
theorem xInst : Tryd.f19.isInstance Tryd.pinned.checked.prog Rows.treePlaysRow.origin Rows.treePlaysRow.targs := of_decide_eq_true (by kernel_rfl)
theorem xWrap : Tryd.f19.isWrapper Tryd.pinned.checked.prog Rows.treePlaysRow.wrapper Rows.treePlaysRow.mainSum := by
  unfold Func.isWrapper; first | (rw [if_pos (by decide +kernel)]; kernel_rfl) | (rw [if_neg (by decide +kernel)]; exact ⟨rfl, rfl⟩)
theorem over : Rows.TreePlaysSaid :=
  OpenClaim.holds_of_cond 19 Tryd.f19 rfl rfl rfl rfl rfl rfl rfl ⟨rfl, rfl, rfl, rfl, rfl⟩ rfl rfl rfl rfl rfl xName Tryd.func19 closed xInst xWrap
    (fun os started H enc _ F => by rw [OpenClaim.pre_eq_preRow]; exact lifted os started H enc F)
/-- No parameter wants a stand-in; the program's own looks are off. -/
theorem plain (f : FuncId) (fn : Func) (hf : Tryd.pinned.checked.prog.funcNamed Rows.treePlaysRow.func = some f) (hfn : Tryd.pinned.checked.prog.funcs[f]? = some fn) :
    false = Tryd.pinned.checked.prog.looks [] ∧ ∀ (j : Nat) t, fn.params[j]? = some t → Tryd.pinned.checked.prog.wantsStandIn t = false := by
  obtain rfl : f = 19 := Option.some.inj ((show Tryd.prog.funcNamed Rows.treePlaysRow.func = some 19 by kernel_rfl).symm.trans hf) |>.symm
  obtain rfl : fn = Tryd.f19 := (Option.some.inj (Tryd.func19.symm.trans hfn)).symm
  refine ⟨by kernel_rfl, fun j t ht => ?_⟩
  rw [Tryd.params19] at ht
  have h := Array.mem_of_getElem? ht
  have hall : ∀ u ∈ (Tryd.f19.params : Array Nat), Tryd.prog.wantsStandIn u = false := by
    rw [Tryd.params19]
    intro u hu
    simp only [List.mem_toArray, List.mem_cons, List.mem_nil_iff, or_false] at hu
    rcases hu with rfl | rfl | rfl | rfl
    all_goals exact (show Tryd.prog.wantsStandIn _ = false by kernel_rfl)
  rw [Tryd.params19] at hall
  exact hall t h
theorem card : Rows.TreePlaysCardSaid :=
  Claim7.holds_tied_plain_at .later [] _ _ _ _ over (fun _ h => by cases h) (by kernel_rfl) (fun _ h => by cases h) treePlays_row_tie rfl ⟨rfl, rfl⟩ (by kernel_rfl) rfl plain (by kernel_rfl)
#print axioms card
end Go.Proofs.YtmndeoncbocplaaDoor.treePlays
namespace Go.Proofs.YtmndeoncbocplaaDoor
/-- The card, under a short name, for the claim. -/
theorem treePlays_holds : Rows.TreePlaysCardSaid := treePlays.card
end Go.Proofs.YtmndeoncbocplaaDoor
