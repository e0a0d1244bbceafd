/- Texts that the claim's law stands on, cut down to what it reaches. -/
import Derived.Test.YtmndeoncbocplaaDoorJE2
import Derived.Test.YtmndeoncbocplaaDoorJT3
import Derived.Test.YtmndeoncbocplaaDoorJS
import Derived.Deep.LoopGhost
import Derived.Test.YtmndeoncbocplaaDoorJE3
import Derived.Test.YtmndeoncbocplaaDoorJQ
import Derived.Deep.RegionHeldLaw
import Derived.Deep.RegionHeld3
set_option linter.unusedVariables false
set_option linter.unusedSimpArgs false
section
set_option linter.unusedVariables false
set_option linter.unusedSimpArgs false
namespace Go.Proofs.YtmndeoncbocplaaDoor.C
open Go.RowKit Go.Proofs.YtmndeoncbocplaaDoor.Q Go.Proofs.YtmndeoncbocplaaDoorW.PrintWords Go.Proofs.YtmndeoncbocplaaDoorW.PrintLast Go.Proofs.YtmndeoncbocplaaDoorW.PrintMore
theorem lab_of {a : S41} (h : labN a = 0) : Lab a := by
  unfold labN at h
  split at h
  · rename_i q
    obtain ⟨h1, h2, h3, h4, h5, h6, h7, h8⟩ := q
    exact ⟨⟨h1, h2⟩, ⟨h5, h6⟩, ⟨h3, h4⟩, h7, h8⟩
  · cases h
theorem nd_zero {pe : Int} {n : S50} (h : ndN pe n = 0) : pe = 0 ∧ Lab n.f2 := by
  unfold ndN at h
  by_cases h0 : first4 [pe, labN n.f2, labN n.f6, aclN n.f3] = 0
  · obtain ⟨h1, h2, _⟩ := first4_eq h0
    exact ⟨h1, lab_of h2⟩
  · rw [if_pos h0] at h
    exact absurd h h0
theorem ck1_zero {l : List S50} {i : Nat} (h : ck1 l i = 0) : ndN (peN (nAt l i).f0) (nAt l i) = 0 := by
  unfold ck1 at h
  by_cases h0 : ndN (peN (nAt l i).f0) (nAt l i) = 0
  · exact h0
  · rw [if_pos h0] at h
    exact absurd h h0
def Right (l : List S50) : Prop := ∀ j, j < l.length → ck1 l j = 0
theorem right_lab {l : List S50} (h : Right l) {n : S50} (hn : n ∈ l) : Lab n.f2 := by
  obtain ⟨i, hi, rfl⟩ := List.getElem_of_mem hn
  have := (nd_zero (ck1_zero (h i hi))).2
  rw [nAt_get hi] at this
  exact this
theorem right_path {l : List S50} (h : Right l) {n : S50} (hn : n ∈ l) : ∃ ns, Okp ns ∧ n.f0 = pth ns := by
  obtain ⟨i, hi, rfl⟩ := List.getElem_of_mem hn
  have := (nd_zero (ck1_zero (h i hi))).1
  rw [nAt_get hi] at this
  exact path_ok this
theorem right_lt {l : List S50} (h : Right l) {i j : Nat} (hij : i < j) (hj : j < l.length) : less (nAt l i).f0 (nAt l j).f0 = true := by
  rw [nAt_get hj, nAt_get (show i < l.length by omega)]
  exact List.pairwise_iff_getElem.1 (ck1_asc h) i j (by omega) hj hij
theorem root_toList : (⟨#[47]⟩ : ByteArray).toList = [47] := by rw [Lib.toList_data]
theorem root_is {s : ByteArray} (h : s.toList = [47]) : s = ⟨#[47]⟩ := toList_iff.1 (h.trans root_toList.symm)
theorem right_root {l : List S50} (h : Right l) : (isN l ⟨#[47]⟩ = true ↔ l.length ≠ 0 ∧ (nAt l 0).f0.toList = [47]) ∧ (isN l ⟨#[47]⟩ = true → nodeN l ⟨#[47]⟩ = nAt l 0) := by
  have hA := ck1_asc h
  have back : l.length ≠ 0 ∧ (nAt l 0).f0.toList = [47] → isN l ⟨#[47]⟩ = true ∧ nodeN l ⟨#[47]⟩ = nAt l 0 := by
    rintro ⟨h0, h1⟩
    have hm : nAt l 0 ∈ l := by rw [nAt_get (show 0 < l.length by omega)]; exact List.getElem_mem _
    have := is_at hA hm
    rw [root_is h1] at this
    exact this
  have fwd : isN l ⟨#[47]⟩ = true → l.length ≠ 0 ∧ (nAt l 0).f0.toList = [47] := by
    intro hi
    have hk := isN_lt hi
    have he : (l.getD (atN l ⟨#[47]⟩) z50).f0.toList = [47] := by
      simp only [isN, Bool.and_eq_true, beq_iff_eq] at hi
      rw [hi.2]
      exact root_toList
    have he' : (nAt l (atN l ⟨#[47]⟩)).f0.toList = [47] := he
    generalize atN l ⟨#[47]⟩ = k at hk he'
    refine ⟨by omega, ?_⟩
    by_cases hk0 : k = 0
    · rw [← hk0]; exact he'
    · have hlt := right_lt h (show 0 < k by omega) hk
      obtain ⟨ns, hok, hp⟩ := right_path h (show nAt l 0 ∈ l by rw [nAt_get (show 0 < l.length by omega)]; exact List.getElem_mem _)
      obtain ⟨r, hr⟩ := okp_head hok
      unfold less at hlt
      rw [he', hp, Lib.toList_data, pth_data, hr] at hlt
      have hz : Op.bytesLess (47 :: r) [47] = false := by cases r <;> simp [Op.bytesLess]
      rw [hz] at hlt
      exact Bool.noConfusion hlt
  exact ⟨⟨fwd, fun h => (back h).1⟩, fun h => (back (fwd h)).2⟩
/-- Behind the first node no path is the root's. -/
theorem right_far {l : List S50} (h : Right l) (h0 : (nAt l 0).f0.toList = [47]) {i : Nat} (hi : 0 < i) (hl : i < l.length) : (nAt l i).f0.toList ≠ [47] := by
  intro e
  have hlt := right_lt h hi hl
  unfold less at hlt
  rw [e, h0, bl_irr] at hlt
  exact Bool.noConfusion hlt
theorem right_par {l : List S50} (h : Right l) (h0 : (nAt l 0).f0.toList = [47]) {i : Nat} (hi : 0 < i) (hl : i < l.length) : donjonref7_Parent.f 2000 (nAt l i).f0 = some (parP (nAt l i).f0) := by
  obtain ⟨ns, hok, hp⟩ := right_path h (show nAt l i ∈ l by rw [nAt_get hl]; exact List.getElem_mem _)
  have hne : ns ≠ [] := by
    intro e
    refine right_far h h0 hi hl ?_
    rw [hp, e]
    exact pth_nil
  unfold parP
  rw [hp, pparent_f hok hne, rparent_f ns hok.1 hne hok.2 2000 (by omega)]
  rfl
theorem right_pparent {l : List S50} (h : Right l) {n : S50} (hn : n ∈ l) : ∃ q, P.path_Parent.f n.f0 = some q := by
  obtain ⟨ns, hok, hp⟩ := right_path h hn
  have hz := check_len hok.2
  rw [hp, P.parent_f (pth ns) (by rw [pth_size]; omega) ns (pth_data ns) hok.1]
  exact ⟨_, rfl⟩
end Go.Proofs.YtmndeoncbocplaaDoor.C
end
section
set_option linter.unusedVariables false
set_option linter.unusedSimpArgs false
namespace Go.Proofs.YtmndeoncbocplaaDoor.C
open Go.RowKit Go.Proofs.YtmndeoncbocplaaDoor.Q Go.Proofs.YtmndeoncbocplaaDoorW.PrintWords Go.Proofs.YtmndeoncbocplaaDoorW.PrintLast Go.Proofs.YtmndeoncbocplaaDoorW.PrintMore
attribute [local go_sem ↓] rd_at50 wr_at50 al_at50
attribute [local go_sem] rd50_new wr50_new al50
set_option maxHeartbeats 4000000 in
set_option maxRecDepth 100000 in
theorem treecheck_c2 (l : List S50) (A : Option Addr) (c : Nat) (w : World) (hC : Kd.C k50 w A l.length l) (hc : l.length ≤ c) (hn : l.length < 1000000) (hPar : Right l → ∀ n ∈ l, ∃ q, P.path_Parent.f n.f0 = some q) :
    Calls Tryd.prog 49 #[.slice A l.length c] w fun e w' => e = .returned (.int .i64 (checkT l)) ∧ Below w.heap.size w w' := by
  have HC := Lib.hid hC
  obtain ⟨r, hr⟩ : ∃ r, checkT l = r := ⟨_, rfl⟩
  rw [hr]
  have HR := Lib.hid hr
  have HPAR := Lib.hid hPar
  clear hC hr hPar
  go_enter Tryd.func49, Tryd.ntmps49
  go_wp2
  go_loopg [11] l.length (fun k s11 wr => ∃ i : Nat, i ≤ l.length ∧ l.length - i ≤ k ∧ s11 = .int .i64 i ∧ Hid (∀ j, j < i → ck1 l j = 0) ∧ Hid (Below w.heap.size w wr))
  case atStart => exact ⟨0, Nat.zero_le _, Nat.le_refl _, rfl, Lib.hid (fun j hj => absurd hj (Nat.not_lt_zero j)), Lib.hid (Below.refl _ _)⟩
  case round =>
    obtain ⟨i, hi, hik, rfl, HG, HB⟩ := hrel
    obtain ⟨W0, hW⟩ : ∃ W, W = wr := ⟨_, rfl⟩
    subst hW
    by_cases hlt : i < l.length
    · obtain ⟨ad, B6, e6, B11, e11, hA, hcs, hK⟩ := at50 HC.out HB.out i hlt
      subst hA
      obtain ⟨x, hx⟩ : ∃ x, ck1 l i = x := ⟨_, rfl⟩
      have HCK := Lib.hid hx
      unfold ck1 at hx
      have HX := Lib.hid hx
      clear hx
      have hnn := nAt_get hlt
      rw [← hnn] at hcs hK
      generalize nAt l i = n at HX hcs hK
      have hld := rd50_of (loadC50 (P := Tryd.prog) hcs)
      obtain ⟨Y6, y6, Y11, y11, hyc, l6, g6, _⟩ := k50_open hK.out
      have hY : B6 = Y6 ∧ e6 = y6 := by have h := congrArg (fun l : List Value => l[6]?) hyc; simpa using h
      obtain ⟨rfl, rfl⟩ := hY
      have HND := Lib.hid fun w1 (hb : Below w.heap.size w w1) => ndcheck_f n.f0 n.f1 n.f2 n.f3 n.f4 n.f5 n.f6 B6 B11 e6 e11 (peN n.f0) w1 (pe_calls n.f0) (Kd.C_below g6 hb) l6
      clear hcs hK hyc l6 g6 hnn
      obtain ⟨y, hy⟩ : ∃ y, ndN (peN n.f0) n = y := ⟨_, rfl⟩
      change Hid (∀ w1, _ → Calls Tryd.prog 78 _ w1 fun e w' => e = .returned (.int .i64 (ndN (peN n.f0) n)) ∧ _) at HND
      rw [hy] at HND HX
      clear hy
      by_cases hy0 : y = 0
      · subst hy0
        have hx := HX.out
        rw [if_neg (by simp)] at hx
        have HX1 := Lib.hid hx
        clear hx HX
        by_cases hi0 : 0 < i
        · obtain ⟨ad1, _, _, _, _, hA1, hcs1, _⟩ := at50 HC.out HB.out (i - 1) (by omega)
          obtain rfl := Option.some.inj hA1
          rw [← nAt_get (show i - 1 < l.length by omega)] at hcs1
          have HP0 := Lib.hid hcs1.1
          have HWR := Lib.hid (show IntKind.i64.wrap ((i : Int) - 1) = ((i - 1 : Nat) : Int) by rw [i64_w]; unfold wrap64; omega)
          clear hcs1 hA1
          generalize nAt l (i - 1) = m at HP0 HX1
          go_wp2_with (go_at_call 78; refine (HND.out _ (below_step HB.out (below_alloc (Below.refl W0.heap.size W0) (.cells #[.string n.f0, .bool n.f1, .int .i64 n.f2.f0, .int .i64 n.f2.f1, .int .i64 n.f2.f2, .int .i64 n.f2.f3, .slice B6 n.f3.length e6, .int .i64 n.f4.f0, .int .i64 n.f4.f1, .int .i64 n.f4.f2, .int .i64 n.f4.f3, .slice B11 n.f5.length e11, .int .i64 n.f6.f0, .int .i64 n.f6.f1, .int .i64 n.f6.f2, .int .i64 n.f6.f3] 50)))).mono ?_; rintro e w2 ⟨rfl, hb⟩; have HB2 := Lib.hid (below_step (below_step HB.out (below_alloc (Below.refl W0.heap.size W0) (.cells #[.string n.f0, .bool n.f1, .int .i64 n.f2.f0, .int .i64 n.f2.f1, .int .i64 n.f2.f2, .int .i64 n.f2.f3, .slice B6 n.f3.length e6, .int .i64 n.f4.f0, .int .i64 n.f4.f1, .int .i64 n.f4.f2, .int .i64 n.f4.f3, .slice B11 n.f5.length e11, .int .i64 n.f6.f0, .int .i64 n.f6.f1, .int .i64 n.f6.f2, .int .i64 n.f6.f3] 50))) hb); have HBB := Lib.hid hb; have EG := Lib.hid (blk_below (blk_new W0 (.cells #[.string n.f0, .bool n.f1, .int .i64 n.f2.f0, .int .i64 n.f2.f1, .int .i64 n.f2.f2, .int .i64 n.f2.f3, .slice B6 n.f3.length e6, .int .i64 n.f4.f0, .int .i64 n.f4.f1, .int .i64 n.f4.f2, .int .i64 n.f4.f3, .slice B11 n.f5.length e11, .int .i64 n.f6.f0, .int .i64 n.f6.f1, .int .i64 n.f6.f2, .int .i64 n.f6.f3] 50)) hb); clear hb)
          refine rt7b ad l.length c i W0.heap.size (i - 1) n.f0 m.f0 _ _ _ _ _ _ _ _ _ _ _ _ _ _ _ _ _ _ _ _ _ _ _ _ _ _ _ _ _ _ _ _ _ _ _ _ _ _ _ _ _ _ _ _ _ _ _ _ _ _ _ _ _ _ _ _ _ _ _ _ _ _ _ _ hi0 (by omega) HWR.out ((blk_cell EG.out 0).trans rfl) (pw_cell_below (below_step (below_alloc (Below.refl W0.heap.size W0) _) HBB.out) HP0.out) ?_
          intro w6 t21 t22 t23 t24 t25 t26 t27 t28 t29 t30 t31 t32 hb
          have HB6 := Lib.hid (below_step HB2.out hb)
          clear hb EG HP0 HND
          cases hbl : Op.bytesLess m.f0.toList n.f0.toList with
          | true =>
            have hx0 := HX1.out
            rw [if_neg (fun h => by rw [hbl] at h; exact Bool.noConfusion h.2)] at hx0
            subst hx0
            have HG6 := Lib.hid (show ∀ j, j < i + 1 → ck1 l j = 0 from fun j hj => by
              by_cases h : j = i
              · rw [h]; exact HCK.out
              · exact HG.out j (by omega))
            go_wp2
            go_roundg (l.length - (i + 1))
            case measure => omega
            case rel => exact ⟨i + 1, hlt, Nat.le_refl _, by go_num, HG6, HB6⟩
          | false =>
            have hx0 := HX1.out
            rw [if_pos ⟨hi0, hbl⟩] at hx0
            subst hx0
            have hck := HCK.out
            have hne : ck1 l i ≠ 0 := by rw [hck]; decide
            have hrr := firstE_hit HG.out hne l.length hlt
            have hr := HR.out
            unfold checkT at hr
            rw [hrr, if_pos hne, hck] at hr
            subst hr
            go_wp2
            go_ret
            exact ⟨rfl, HB6.out⟩
        · go_wp2_with (go_at_call 78; refine (HND.out _ (below_step HB.out (below_alloc (Below.refl W0.heap.size W0) (.cells #[.string n.f0, .bool n.f1, .int .i64 n.f2.f0, .int .i64 n.f2.f1, .int .i64 n.f2.f2, .int .i64 n.f2.f3, .slice B6 n.f3.length e6, .int .i64 n.f4.f0, .int .i64 n.f4.f1, .int .i64 n.f4.f2, .int .i64 n.f4.f3, .slice B11 n.f5.length e11, .int .i64 n.f6.f0, .int .i64 n.f6.f1, .int .i64 n.f6.f2, .int .i64 n.f6.f3] 50)))).mono ?_; rintro e w2 ⟨rfl, hb⟩; have HB2 := Lib.hid (below_step (below_step HB.out (below_alloc (Below.refl W0.heap.size W0) (.cells #[.string n.f0, .bool n.f1, .int .i64 n.f2.f0, .int .i64 n.f2.f1, .int .i64 n.f2.f2, .int .i64 n.f2.f3, .slice B6 n.f3.length e6, .int .i64 n.f4.f0, .int .i64 n.f4.f1, .int .i64 n.f4.f2, .int .i64 n.f4.f3, .slice B11 n.f5.length e11, .int .i64 n.f6.f0, .int .i64 n.f6.f1, .int .i64 n.f6.f2, .int .i64 n.f6.f3] 50))) hb); have HBB := Lib.hid hb; have EG := Lib.hid (blk_below (blk_new W0 (.cells #[.string n.f0, .bool n.f1, .int .i64 n.f2.f0, .int .i64 n.f2.f1, .int .i64 n.f2.f2, .int .i64 n.f2.f3, .slice B6 n.f3.length e6, .int .i64 n.f4.f0, .int .i64 n.f4.f1, .int .i64 n.f4.f2, .int .i64 n.f4.f3, .slice B11 n.f5.length e11, .int .i64 n.f6.f0, .int .i64 n.f6.f1, .int .i64 n.f6.f2, .int .i64 n.f6.f3] 50)) hb); clear hb)
          refine rt7a (some ad) l.length c i W0.heap.size n.f0 _ _ _ _ _ _ _ _ _ _ _ _ _ _ _ _ _ _ _ _ _ _ _ _ _ _ _ _ _ _ _ _ _ _ _ _ _ _ _ _ _ _ _ _ _ _ _ _ _ _ _ _ _ _ _ _ _ _ _ _ _ _ _ _ hi0 ((blk_cell EG.out 0).trans rfl) ?_
          intro w6 t21 t22 t23 t24 t25 t26 t27 t28 t29 t30 t31 t32 hb
          have HB6 := Lib.hid (below_step HB2.out hb)
          clear hb EG HND
          have hx0 := HX1.out
          rw [if_neg (fun h => hi0 h.1)] at hx0
          subst hx0
          have HG6 := Lib.hid (show ∀ j, j < i + 1 → ck1 l j = 0 from fun j hj => by
            by_cases h : j = i
            · rw [h]; exact HCK.out
            · exact HG.out j (by omega))
          go_wp2
          go_roundg (l.length - (i + 1))
          case measure => omega
          case rel => exact ⟨i + 1, hlt, Nat.le_refl _, by go_num, HG6, HB6⟩
      · have hy1 : (y != 0) = true := bne_iff_ne.2 hy0
        have hx := HX.out
        rw [if_pos hy0] at hx
        subst hx
        have hck := HCK.out
        have hne : ck1 l i ≠ 0 := by rw [hck]; exact hy0
        have hrr := firstE_hit HG.out hne l.length hlt
        have hr := HR.out
        unfold checkT at hr
        rw [hrr, if_pos hne, hck] at hr
        subst hr
        go_wp2_with (go_at_call 78; refine (HND.out _ (below_step HB.out (below_alloc (Below.refl W0.heap.size W0) (.cells #[.string n.f0, .bool n.f1, .int .i64 n.f2.f0, .int .i64 n.f2.f1, .int .i64 n.f2.f2, .int .i64 n.f2.f3, .slice B6 n.f3.length e6, .int .i64 n.f4.f0, .int .i64 n.f4.f1, .int .i64 n.f4.f2, .int .i64 n.f4.f3, .slice B11 n.f5.length e11, .int .i64 n.f6.f0, .int .i64 n.f6.f1, .int .i64 n.f6.f2, .int .i64 n.f6.f3] 50)))).mono ?_; rintro e w2 ⟨rfl, hb⟩; have HB2 := Lib.hid (below_step (below_step HB.out (below_alloc (Below.refl W0.heap.size W0) (.cells #[.string n.f0, .bool n.f1, .int .i64 n.f2.f0, .int .i64 n.f2.f1, .int .i64 n.f2.f2, .int .i64 n.f2.f3, .slice B6 n.f3.length e6, .int .i64 n.f4.f0, .int .i64 n.f4.f1, .int .i64 n.f4.f2, .int .i64 n.f4.f3, .slice B11 n.f5.length e11, .int .i64 n.f6.f0, .int .i64 n.f6.f1, .int .i64 n.f6.f2, .int .i64 n.f6.f3] 50))) hb); have HBB := Lib.hid hb; have EG := Lib.hid (blk_below (blk_new W0 (.cells #[.string n.f0, .bool n.f1, .int .i64 n.f2.f0, .int .i64 n.f2.f1, .int .i64 n.f2.f2, .int .i64 n.f2.f3, .slice B6 n.f3.length e6, .int .i64 n.f4.f0, .int .i64 n.f4.f1, .int .i64 n.f4.f2, .int .i64 n.f4.f3, .slice B11 n.f5.length e11, .int .i64 n.f6.f0, .int .i64 n.f6.f1, .int .i64 n.f6.f2, .int .i64 n.f6.f3] 50)) hb); clear hb)
        go_ret
        exact ⟨rfl, HB2.out⟩
    · have HGA := Lib.hid (show ∀ j, j < l.length → ck1 l j = 0 from fun j hj => HG.out j (by omega))
      have hr := HR.out
      unfold checkT at hr
      rw [firstE_zero l.length HGA.out, if_neg (by simp)] at hr
      have HR2 := Lib.hid hr
      clear hr HG
      by_cases hl0 : l.length = 0
      · have hr := HR2.out
        rw [if_pos (Or.inl hl0)] at hr
        subst hr
        go_wp2
        go_ret
        exact ⟨rfl, HB.out⟩
      · obtain ⟨ad, B6, e6, B11, e11, hA, hcs, _⟩ := at50 HC.out HB.out 0 (by omega)
        subst hA
        rw [← nAt_get (show 0 < l.length by omega)] at hcs
        have HCS := Lib.hid hcs
        clear hcs
        have hc0 : W0.cell? ad = some (.string (nAt l 0).f0) := HCS.out.1
        by_cases hroot : (nAt l 0).f0.toList = [47]
        · have hr := HR2.out
          rw [if_neg (fun h => h.elim (fun h => hl0 h) (fun h => h hroot))] at hr
          have HR3 := Lib.hid hr
          clear hr HR2
          have hr1 : ((nAt l 0).f0.toList == ([47] : List UInt8)) = true := by rw [hroot]; rfl
          have hl1 : 1 ≤ l.length := by omega
          clear hroot
          have hl2 : ((l.length : Int) == 0) = false := beq_eq_false_iff_ne.2 (by omega)
          have HD0 := Kd.C_drop (k := k50) (m := 1) (c := c) HC.out hl1 hc
          by_cases hc1 : c = 1
          · subst hc1
            have HD := Lib.hid (show Kd.C k50 w (some ad) (l.drop 1).length (l.drop 1) from by rw [if_pos rfl] at HD0; exact HD0)
            clear HD0
            go_wp2
            go_loopg [48] (l.length - 1) (fun k s48 wr => ∃ j : Nat, j ≤ l.length - 1 ∧ l.length - 1 - j ≤ k ∧ s48 = .int .i64 j ∧ Hid (∀ m, m < j → ck2 l m = 0) ∧ Hid (Below w.heap.size w wr))
            case atStart => exact ⟨0, Nat.zero_le _, Nat.le_refl _, rfl, Lib.hid (fun j hj => absurd hj (Nat.not_lt_zero j)), HB⟩
            case round =>
              obtain ⟨j, hj, hjk, rfl, HGJ, HBJ⟩ := hrel
              obtain ⟨W1, hW⟩ : ∃ W, W = wr := ⟨_, rfl⟩
              subst hW
              by_cases hjt : j < l.length - 1
              · omega
              · have hr := HR3.out
                rw [firstE_zero (l.length - 1) (fun m hm => HGJ.out m (by omega)), if_neg (by simp)] at hr
                have HR4 := Lib.hid hr
                clear hr HR3
                obtain ⟨ad3, D6, d6, D11, d11, hA3, hcs3, _⟩ := at50 HC.out HBJ.out 0 (by omega)
                obtain rfl := Option.some.inj hA3
                rw [← nAt_get (show 0 < l.length by omega)] at hcs3
                have HC3 := Lib.hid hcs3
                clear hcs3 hA3
                go_wp2
                refine rt19 ad l.length 1 (nAt l 0).f2 _ _ _ _ _ _ _ _ _ _ _ _ _ _ _ _ _ _ _ _ _ _ _ _ _ _ _ _ _ _ _ _ _ _ _ _ _ _ _ _ _ _ _ _ _ _ _ _ _ _ _ _ _ _ _ _ _ _ _ _ _ _ _ _ _ _ (by omega) HC3.out.2.2.1 HC3.out.2.2.2.1 HC3.out.2.2.2.2.1 HC3.out.2.2.2.2.2.1 ?_
                intro w6 t59 t60 t61 t62 t63 hb
                have HB6 := Lib.hid (below_step HBJ.out hb)
                clear hb
                unfold botB at HR4
                generalize (!((nAt l 0).f2.f0 == 0) || (!((nAt l 0).f2.f1 == 0) || (!((nAt l 0).f2.f2 == 3) || !((nAt l 0).f2.f3 == 255)))) = rb at HR4 ⊢
                cases rb with
                | true =>
                  have hr := HR4.out
                  rw [if_pos rfl] at hr
                  subst hr
                  go_wp2
                  go_ret
                  exact ⟨rfl, HB6.out⟩
                | false =>
                  have hr := HR4.out
                  rw [if_neg (by simp)] at hr
                  subst hr
                  go_wp2
                  go_ret
                  exact ⟨rfl, HB6.out⟩
          · have HD := Lib.hid (show Kd.C k50 w (some ⟨ad.block, ad.off + 16, none⟩) (l.drop 1).length (l.drop 1) from by rw [if_neg hc1] at HD0; exact HD0)
            clear HD0
            go_wp2
            go_loopg [48] (l.length - 1) (fun k s48 wr => ∃ j : Nat, j ≤ l.length - 1 ∧ l.length - 1 - j ≤ k ∧ s48 = .int .i64 j ∧ Hid (∀ m, m < j → ck2 l m = 0) ∧ Hid (Below w.heap.size w wr))
            case atStart => exact ⟨0, Nat.zero_le _, Nat.le_refl _, rfl, Lib.hid (fun j hj => absurd hj (Nat.not_lt_zero j)), HB⟩
            case round =>
              obtain ⟨j, hj, hjk, rfl, HGJ, HBJ⟩ := hrel
              obtain ⟨W1, hW⟩ : ∃ W, W = wr := ⟨_, rfl⟩
              subst hW
              by_cases hjt : j < l.length - 1
              · have hjd : j < (l.drop 1).length := by rw [List.length_drop]; exact hjt
                obtain ⟨ad2, B6, e6, B11, e11, hA2, hcs, _⟩ := at50 HD.out HBJ.out j hjd
                obtain rfl := Option.some.inj hA2
                have hnn : (l.drop 1)[j] = nAt l (j + 1) := by rw [nAt_get (show j + 1 < l.length by omega), List.getElem_drop]; congr 1; omega
                have hmem : nAt l (j + 1) ∈ l := by rw [nAt_get (show j + 1 < l.length by omega)]; exact List.getElem_mem _
                rw [hnn] at hcs
                obtain ⟨q, hq⟩ := HPAR.out HGA.out _ hmem
                have HHG := Lib.hid fun w1 (hb : Below w.heap.size w w1) => hangs_c l (nAt l (j + 1)) (parP (nAt l (j + 1)).f0) (some ad) c B6 B11 e6 e11 w1 (Kd.C_below HC.out hb) hc hn (asc_rising (ck1_asc HGA.out) _) (fun w2 => P.path_Parent.calls (nAt l (j + 1)).f0 _ w2 (by unfold parP; rw [hq]; rfl))
                obtain ⟨y, hy⟩ : ∃ y, ck2 l j = y := ⟨_, rfl⟩
                have HY := Lib.hid hy
                unfold ck2 at hy
                rw [hy] at HHG
                clear hnn hmem hq hy hA2
                generalize nAt l (j + 1) = n at hcs HHG
                have hld0 := rd50_of (loadC50 (P := Tryd.prog) hcs)
                rw [add_none] at hld0
                have hld : (rdS 50 (.pointer (some ⟨ad.block, ad.off + 16 + j * 16, none⟩))).run Tryd.prog W1 = .ok (.agg #[.string n.f0, .bool n.f1, .int .i64 n.f2.f0, .int .i64 n.f2.f1, .int .i64 n.f2.f2, .int .i64 n.f2.f3, .slice B6 n.f3.length e6, .int .i64 n.f4.f0, .int .i64 n.f4.f1, .int .i64 n.f4.f2, .int .i64 n.f4.f3, .slice B11 n.f5.length e11, .int .i64 n.f6.f0, .int .i64 n.f6.f1, .int .i64 n.f6.f2, .int .i64 n.f6.f3]) W1 := hld0
                clear hld0 hcs
                by_cases hy0 : y = 0
                · subst hy0
                  have HG6 := Lib.hid (show ∀ m, m < j + 1 → ck2 l m = 0 from fun m hm => by
                    by_cases h : m = j
                    · rw [h]; exact HY.out
                    · exact HGJ.out m (by omega))
                  go_wp2_with (go_at_call 79; refine (HHG.out _ (below_step HBJ.out (below_alloc (Below.refl W1.heap.size W1) (.cells #[.string n.f0, .bool n.f1, .int .i64 n.f2.f0, .int .i64 n.f2.f1, .int .i64 n.f2.f2, .int .i64 n.f2.f3, .slice B6 n.f3.length e6, .int .i64 n.f4.f0, .int .i64 n.f4.f1, .int .i64 n.f4.f2, .int .i64 n.f4.f3, .slice B11 n.f5.length e11, .int .i64 n.f6.f0, .int .i64 n.f6.f1, .int .i64 n.f6.f2, .int .i64 n.f6.f3] 50)))).mono ?_; rintro e w2 ⟨rfl, hb⟩; have HB2 := Lib.hid (below_step (below_step HBJ.out (below_alloc (Below.refl W1.heap.size W1) (.cells #[.string n.f0, .bool n.f1, .int .i64 n.f2.f0, .int .i64 n.f2.f1, .int .i64 n.f2.f2, .int .i64 n.f2.f3, .slice B6 n.f3.length e6, .int .i64 n.f4.f0, .int .i64 n.f4.f1, .int .i64 n.f4.f2, .int .i64 n.f4.f3, .slice B11 n.f5.length e11, .int .i64 n.f6.f0, .int .i64 n.f6.f1, .int .i64 n.f6.f2, .int .i64 n.f6.f3] 50))) hb); clear hb)
                  go_roundg (l.length - 1 - (j + 1))
                  case measure => omega
                  case rel => exact ⟨j + 1, hjt, Nat.le_refl _, by go_num, HG6, HB2⟩
                · have hy1 : (y != 0) = true := bne_iff_ne.2 hy0
                  have hne : ck2 l j ≠ 0 := by rw [HY.out]; exact hy0
                  have hrr := firstE_hit HGJ.out hne (l.length - 1) hjt
                  have hr := HR3.out
                  rw [hrr, if_pos hne, HY.out] at hr
                  subst hr
                  go_wp2_with (go_at_call 79; refine (HHG.out _ (below_step HBJ.out (below_alloc (Below.refl W1.heap.size W1) (.cells #[.string n.f0, .bool n.f1, .int .i64 n.f2.f0, .int .i64 n.f2.f1, .int .i64 n.f2.f2, .int .i64 n.f2.f3, .slice B6 n.f3.length e6, .int .i64 n.f4.f0, .int .i64 n.f4.f1, .int .i64 n.f4.f2, .int .i64 n.f4.f3, .slice B11 n.f5.length e11, .int .i64 n.f6.f0, .int .i64 n.f6.f1, .int .i64 n.f6.f2, .int .i64 n.f6.f3] 50)))).mono ?_; rintro e w2 ⟨rfl, hb⟩; have HB2 := Lib.hid (below_step (below_step HBJ.out (below_alloc (Below.refl W1.heap.size W1) (.cells #[.string n.f0, .bool n.f1, .int .i64 n.f2.f0, .int .i64 n.f2.f1, .int .i64 n.f2.f2, .int .i64 n.f2.f3, .slice B6 n.f3.length e6, .int .i64 n.f4.f0, .int .i64 n.f4.f1, .int .i64 n.f4.f2, .int .i64 n.f4.f3, .slice B11 n.f5.length e11, .int .i64 n.f6.f0, .int .i64 n.f6.f1, .int .i64 n.f6.f2, .int .i64 n.f6.f3] 50))) hb); clear hb)
                  go_ret
                  exact ⟨rfl, HB2.out⟩
              · have hr := HR3.out
                rw [firstE_zero (l.length - 1) (fun m hm => HGJ.out m (by omega)), if_neg (by simp)] at hr
                have HR4 := Lib.hid hr
                clear hr HR3
                obtain ⟨ad3, D6, d6, D11, d11, hA3, hcs3, _⟩ := at50 HC.out HBJ.out 0 (by omega)
                obtain rfl := Option.some.inj hA3
                rw [← nAt_get (show 0 < l.length by omega)] at hcs3
                have HC3 := Lib.hid hcs3
                clear hcs3 hA3
                go_wp2
                refine rt19 ad l.length c (nAt l 0).f2 _ _ _ _ _ _ _ _ _ _ _ _ _ _ _ _ _ _ _ _ _ _ _ _ _ _ _ _ _ _ _ _ _ _ _ _ _ _ _ _ _ _ _ _ _ _ _ _ _ _ _ _ _ _ _ _ _ _ _ _ _ _ _ _ _ _ (by omega) HC3.out.2.2.1 HC3.out.2.2.2.1 HC3.out.2.2.2.2.1 HC3.out.2.2.2.2.2.1 ?_
                intro w6 t59 t60 t61 t62 t63 hb
                have HB6 := Lib.hid (below_step HBJ.out hb)
                clear hb
                unfold botB at HR4
                generalize (!((nAt l 0).f2.f0 == 0) || (!((nAt l 0).f2.f1 == 0) || (!((nAt l 0).f2.f2 == 3) || !((nAt l 0).f2.f3 == 255)))) = rb at HR4 ⊢
                cases rb with
                | true =>
                  have hr := HR4.out
                  rw [if_pos rfl] at hr
                  subst hr
                  go_wp2
                  go_ret
                  exact ⟨rfl, HB6.out⟩
                | false =>
                  have hr := HR4.out
                  rw [if_neg (by simp)] at hr
                  subst hr
                  go_wp2
                  go_ret
                  exact ⟨rfl, HB6.out⟩
        · have hr := HR2.out
          rw [if_pos (Or.inr hroot)] at hr
          subst hr
          have hl2 : ((l.length : Int) == 0) = false := beq_eq_false_iff_ne.2 (by omega)
          have hr1 : ((nAt l 0).f0.toList == ([47] : List UInt8)) = false := beq_eq_false_iff_ne.2 hroot
          go_wp2
          go_ret
          exact ⟨rfl, HB.out⟩
end Go.Proofs.YtmndeoncbocplaaDoor.C
end
section
set_option linter.unusedVariables false
set_option linter.unusedSimpArgs false
namespace Go.Proofs.YtmndeoncbocplaaDoor.C
open Go.RowKit Go.Proofs.YtmndeoncbocplaaDoor.Q Go.Proofs.YtmndeoncbocplaaDoorW.PrintWords Go.Proofs.YtmndeoncbocplaaDoorW.PrintLast Go.Proofs.YtmndeoncbocplaaDoorW.PrintMore
attribute [local go_sem ↓] rd_at50 wr_at50 al_at50
attribute [local go_sem] rd50_new wr50_new al50
set_option maxHeartbeats 8000000 in
set_option maxRecDepth 1000000 in
theorem rtreecheck_c (l : List S50) (A : Option Addr) (c : Nat) (w : World) (hC : Kd.C k50 w A l.length l) (hc : l.length ≤ c) (hn : l.length < 1000000) (hS : ∀ n ∈ l, ∀ g ∈ n.f3, g.f0.size ≤ 9223372036854775807) :
    Calls Tryd.prog 50 #[.slice A l.length c] w fun e w' => e = .returned (.int .i64 (checkT l)) ∧ Below w.heap.size w w' := by
  have HC := Lib.hid hC
  have HS := Lib.hid hS
  obtain ⟨r, hr⟩ : ∃ r, checkT l = r := ⟨_, rfl⟩
  rw [hr]
  have HR := Lib.hid hr
  clear hC hr hS
  go_enter Tryd.func50, Tryd.ntmps50
  go_wp2
  go_loopg [3] l.length (fun k s3 wr => ∃ i : Nat, i ≤ l.length ∧ l.length - i ≤ k ∧ s3 = .int .i64 i ∧ Hid (∀ j, j < i → ck1 l j = 0) ∧ Hid (Below w.heap.size w wr))
  case atStart => exact ⟨0, Nat.zero_le _, Nat.le_refl _, rfl, Lib.hid (fun j hj => absurd hj (Nat.not_lt_zero j)), Lib.hid (Below.refl _ _)⟩
  case round =>
    obtain ⟨i, hi, hik, rfl, HG, HB⟩ := hrel
    obtain ⟨W0, hW⟩ : ∃ W, W = wr := ⟨_, rfl⟩
    subst hW
    by_cases hlt : i < l.length
    · obtain ⟨ad, B6, e6, B11, e11, hA, hcs, hK⟩ := at50 HC.out HB.out i hlt
      subst hA
      obtain ⟨x, hx⟩ : ∃ x, ck1 l i = x := ⟨_, rfl⟩
      have HCK := Lib.hid hx
      unfold ck1 at hx
      have HX := Lib.hid hx
      clear hx
      have hnn := nAt_get hlt
      have HSN := Lib.hid (HS.out _ (List.getElem_mem hlt))
      rw [← hnn] at hcs hK HSN
      generalize nAt l i = n at HX hcs hK HSN
      have hld := rd50_of (loadC50 (P := Tryd.prog) hcs)
      have HPU := Lib.hid hcs.1
      obtain ⟨Y6, y6, Y11, y11, hyc, l6, g6, _⟩ := k50_open hK.out
      have hY : B6 = Y6 ∧ e6 = y6 := by have h := congrArg (fun l : List Value => l[6]?) hyc; simpa using h
      obtain ⟨rfl, rfl⟩ := hY
      have HND := Lib.hid fun w1 (hb : Below w.heap.size w w1) => rndcheck_f n.f0 n.f1 n.f2 n.f3 n.f4 n.f5 n.f6 B6 B11 e6 e11 (peN n.f0) w1 (rpe_calls n.f0) (Kd.C_below g6 hb) l6 HSN.out
      clear hcs hK hyc l6 g6 hnn HSN
      obtain ⟨y, hy⟩ : ∃ y, ndN (peN n.f0) n = y := ⟨_, rfl⟩
      change Hid (∀ w1, _ → Calls Tryd.prog 81 _ w1 fun e w' => e = .returned (.int .i64 (ndN (peN n.f0) n)) ∧ _) at HND
      rw [hy] at HND HX
      clear hy
      by_cases hy0 : y = 0
      · subst hy0
        have hx := HX.out
        rw [if_neg (by simp)] at hx
        have HX1 := Lib.hid hx
        clear hx HX
        by_cases hi0 : 0 < i
        · obtain ⟨ad1, _, _, _, _, hA1, hcs1, _⟩ := at50 HC.out HB.out (i - 1) (by omega)
          obtain rfl := Option.some.inj hA1
          rw [← nAt_get (show i - 1 < l.length by omega)] at hcs1
          have HP0 := Lib.hid hcs1.1
          have HWR := Lib.hid (show IntKind.i64.wrap ((i : Int) - 1) = ((i - 1 : Nat) : Int) by rw [i64_w]; unfold wrap64; omega)
          clear hcs1 hA1
          generalize nAt l (i - 1) = m at HP0 HX1
          go_wp2_with (go_at_call 81; refine (HND.out _ HB.out).mono ?_; rintro e w1 ⟨rfl, hb⟩; have HB2 := Lib.hid (below_step HB.out hb); have HU := Lib.hid (pw_cell_below hb HPU.out); have HP := Lib.hid (pw_cell_below hb HP0.out); clear hb)
          refine rk7b ad l.length c i (i - 1) n.f0 m.f0 _ _ _ _ _ _ _ _ _ _ _ _ _ _ _ _ _ _ _ _ _ _ _ _ _ _ _ _ _ _ _ _ _ _ _ _ _ _ _ _ _ _ _ _ _ _ _ _ _ _ _ _ _ _ _ _ _ _ _ _ _ _ _ _ _ _ _ _ _ _ _ _ _ _ _ _ _ _ _ _ _ _ _ _ _ _ _ _ _ _ _ _ _ _ _ _ _ _ _ _ _ _ _ _ _ _ _ _ _ _ hi0 hlt (by omega) HWR.out HU.out HP.out rfl ?_
          intro w6 t24 t25 t26 t27 t28 t29 t30 t31 t32 t33 t34 t35 t36 t37 t38 hb
          have HB6 := Lib.hid (below_step HB2.out hb)
          clear hb HU HP HP0 HPU HND
          cases hbl : Op.bytesLess m.f0.toList n.f0.toList with
          | true =>
            have hx0 := HX1.out
            rw [if_neg (fun h => by rw [hbl] at h; exact Bool.noConfusion h.2)] at hx0
            subst hx0
            have HG6 := Lib.hid (show ∀ j, j < i + 1 → ck1 l j = 0 from fun j hj => by
              by_cases h : j = i
              · rw [h]; exact HCK.out
              · exact HG.out j (by omega))
            go_wp2
            go_roundg (l.length - (i + 1))
            case measure => omega
            case rel => exact ⟨i + 1, hlt, Nat.le_refl _, by go_num, HG6, HB6⟩
          | false =>
            have hx0 := HX1.out
            rw [if_pos ⟨hi0, hbl⟩] at hx0
            subst hx0
            have hck := HCK.out
            have hne : ck1 l i ≠ 0 := by rw [hck]; first | decide | exact hy0
            have hrr := firstE_hit HG.out hne l.length hlt
            have hr := HR.out
            unfold checkT at hr
            rw [hrr, if_pos hne, hck] at hr
            subst hr
            go_wp2
            go_ret
            exact ⟨rfl, HB6.out⟩
        · go_wp2_with (go_at_call 81; refine (HND.out _ HB.out).mono ?_; rintro e w1 ⟨rfl, hb⟩; have HB2 := Lib.hid (below_step HB.out hb); have HU := Lib.hid (pw_cell_below hb HPU.out); clear hb)
          refine rk7a ad l.length c i n.f0 _ _ _ _ _ _ _ _ _ _ _ _ _ _ _ _ _ _ _ _ _ _ _ _ _ _ _ _ _ _ _ _ _ _ _ _ _ _ _ _ _ _ _ _ _ _ _ _ _ _ _ _ _ _ _ _ _ _ _ _ _ _ _ _ _ _ _ _ _ _ _ _ _ _ _ _ _ _ _ _ _ _ _ _ _ _ _ _ _ _ _ _ _ _ _ _ _ _ _ _ _ _ _ _ _ _ _ _ _ hi0 HU.out ?_
          intro w6 t24 t25 t26 t27 t28 t29 t30 t31 t32 t33 t34 t35 t36 t37 t38 hb
          have HB6 := Lib.hid (below_step HB2.out hb)
          clear hb HU HPU HND
          have hx0 := HX1.out
          rw [if_neg (fun h => hi0 h.1)] at hx0
          subst hx0
          have HG6 := Lib.hid (show ∀ j, j < i + 1 → ck1 l j = 0 from fun j hj => by
            by_cases h : j = i
            · rw [h]; exact HCK.out
            · exact HG.out j (by omega))
          go_wp2
          go_roundg (l.length - (i + 1))
          case measure => omega
          case rel => exact ⟨i + 1, hlt, Nat.le_refl _, by go_num, HG6, HB6⟩
      · have hy1 : (y != 0) = true := bne_iff_ne.2 hy0
        have hx := HX.out
        rw [if_pos hy0] at hx
        subst hx
        have hck := HCK.out
        have hne : ck1 l i ≠ 0 := by rw [hck]; first | decide | exact hy0
        have hrr := firstE_hit HG.out hne l.length hlt
        have hr := HR.out
        unfold checkT at hr
        rw [hrr, if_pos hne, hck] at hr
        subst hr
        go_wp2_with (go_at_call 81; refine (HND.out _ HB.out).mono ?_; rintro e w1 ⟨rfl, hb⟩; have HB2 := Lib.hid (below_step HB.out hb); clear hb)
        go_ret
        exact ⟨rfl, HB2.out⟩
    · have HGA := Lib.hid (show Right l from fun j hj => HG.out j (by omega))
      have hr := HR.out
      unfold checkT at hr
      rw [firstE_zero l.length HGA.out, if_neg (by simp)] at hr
      have HR2 := Lib.hid hr
      clear hr HG HR hik
      have HF := Lib.hid fun (p : ByteArray) (w1 : World) (hb : Below w.heap.size w w1) => find_c l p A c w1 (Kd.C_below HC.out hb) hc
      obtain ⟨hq1, hq2⟩ := right_root HGA.out
      by_cases hroot : l.length ≠ 0 ∧ (nAt l 0).f0.toList = [47]
      · have hr := HR2.out
        rw [if_neg (fun h => h.elim (fun h => hroot.1 h) (fun h => h hroot.2))] at hr
        have HR3 := Lib.hid hr
        have hq3 := hq1.2 hroot
        have hq4 := hq2 hq3
        have HF0 := HF.out ⟨#[47]⟩
        unfold Found at HF0
        rw [(find_is (ck1_asc HGA.out) _).1, (find_is (ck1_asc HGA.out) _).2, hq3, hq4] at HF0
        replace HF0 := Lib.hid HF0
        obtain ⟨hl0, hr0⟩ := hroot
        have HR0 := Lib.hid hr0
        clear hr HR2 hq1 hq2 hq3 hq4 hr0
        obtain ⟨rn, hrn⟩ : ∃ rn, nAt l 0 = rn := ⟨_, rfl⟩
        rw [hrn] at HF0 HR3
        clear hrn
        obtain ⟨ad, _, _, _, _, hA, _, _⟩ := at50 HC.out HB.out 0 (by omega)
        subst hA
        go_wp2_with (go_at_call 40; refine (HF0.out _ HB.out).mono ?_; rintro e w4 ⟨cs, rfl, hFK, hb⟩; obtain ⟨A6, c6, A11, c11, rfl, _⟩ := k50_open hFK; have E5 := Lib.hid (blk_new w4 (.cells #[.string rn.f0, .bool rn.f1, .int .i64 rn.f2.f0, .int .i64 rn.f2.f1, .int .i64 rn.f2.f2, .int .i64 rn.f2.f3, .slice A6 rn.f3.length c6, .int .i64 rn.f4.f0, .int .i64 rn.f4.f1, .int .i64 rn.f4.f2, .int .i64 rn.f4.f3, .slice A11 rn.f5.length c11, .int .i64 rn.f6.f0, .int .i64 rn.f6.f1, .int .i64 rn.f6.f2, .int .i64 rn.f6.f3] 50)); have HB9 := Lib.hid (below_alloc (below_step HB.out hb) (.cells #[.string rn.f0, .bool rn.f1, .int .i64 rn.f2.f0, .int .i64 rn.f2.f1, .int .i64 rn.f2.f2, .int .i64 rn.f2.f3, .slice A6 rn.f3.length c6, .int .i64 rn.f4.f0, .int .i64 rn.f4.f1, .int .i64 rn.f4.f2, .int .i64 rn.f4.f3, .slice A11 rn.f5.length c11, .int .i64 rn.f6.f0, .int .i64 rn.f6.f1, .int .i64 rn.f6.f2, .int .i64 rn.f6.f3] 50)); clear hb hFK)
        go_loopg [7] l.length (fun k s7 wr => ∃ i : Nat, i ≤ l.length ∧ l.length - i ≤ k ∧ s7 = .int .i64 i ∧ Hid (∀ m, m + 1 < i → ck2 l m = 0) ∧ Hid (Below w.heap.size w wr) ∧ Hid (wr.heap[w4.heap.size]? = some (.cells #[.string rn.f0, .bool rn.f1, .int .i64 rn.f2.f0, .int .i64 rn.f2.f1, .int .i64 rn.f2.f2, .int .i64 rn.f2.f3, .slice A6 rn.f3.length c6, .int .i64 rn.f4.f0, .int .i64 rn.f4.f1, .int .i64 rn.f4.f2, .int .i64 rn.f4.f3, .slice A11 rn.f5.length c11, .int .i64 rn.f6.f0, .int .i64 rn.f6.f1, .int .i64 rn.f6.f2, .int .i64 rn.f6.f3] 50 (0, 0))))
        case atStart => exact ⟨0, Nat.zero_le _, Nat.le_refl _, rfl, Lib.hid (fun j hj => by omega), HB9, E5⟩
        case round =>
          clear E5 HB9
          obtain ⟨i, hi, hik, rfl, HGJ, HBJ, E5J⟩ := hrel
          obtain ⟨W1, hW⟩ : ∃ W, W = wr := ⟨_, rfl⟩
          subst hW
          by_cases hlt : i < l.length
          · obtain ⟨ad2, B6, e6, B11, e11, hA2, hcs, _⟩ := at50 HC.out HBJ.out i hlt
            obtain rfl := Option.some.inj hA2
            clear hA2
            have hnn := nAt_get hlt
            rw [← hnn] at hcs
            have c0_ := hcs.1
            have HC1 := Lib.hid hcs.2.1
            have HC2 := Lib.hid hcs.2.2.1
            have HC3 := Lib.hid hcs.2.2.2.1
            have HC4 := Lib.hid hcs.2.2.2.2.1
            have HC5 := Lib.hid hcs.2.2.2.2.2.1
            clear hcs hnn
            by_cases hi0 : i = 0
            · have hr1 : ((nAt l i).f0.toList == ([47] : List UInt8)) = true := by rw [hi0, HR0.out]; rfl
              have HG6 := Lib.hid (show ∀ m, m + 1 < i + 1 → ck2 l m = 0 from fun m hm => by omega)
              clear hi0
              generalize nAt l i = n at hr1 c0_ HC1 HC2 HC3 HC4 HC5
              go_wp2
              go_roundg (l.length - (i + 1))
              case measure => omega
              case rel => exact ⟨i + 1, hlt, Nat.le_refl _, by go_num, HG6, HBJ, E5J⟩
            · have hr1 : ((nAt l i).f0.toList == ([47] : List UInt8)) = false := beq_eq_false_iff_ne.2 (right_far HGA.out HR0.out (by omega) hlt)
              have hmem : nAt l i ∈ l := by rw [nAt_get hlt]; exact List.getElem_mem _
              have hpar := right_par HGA.out HR0.out (show 0 < i by omega) hlt
              have HPR := Lib.hid fun w1 : World => (donjonref7_Parent.calls 2000 (nAt l i).f0 _ w1 hpar).mono fun e w' h => (⟨h.1, h.2.below⟩ : e = .returned (.string (parP (nAt l i).f0)) ∧ Below w1.heap.size w1 w')
              have hck : ck2 l (i - 1) = hangN l (parP (nAt l i).f0) (nAt l i) := by unfold ck2; rw [show i - 1 + 1 = i by omega]
              obtain ⟨y, hy⟩ : ∃ y, ck2 l (i - 1) = y := ⟨_, rfl⟩
              have HY := Lib.hid hy
              rw [hck] at hy
              clear hck hpar
              have HLX := Lib.hid (right_lab HGA.out hmem)
              have HRET := Lib.hid (show y ≠ 0 → r = y from fun h => by
                have hr := HR3.out
                have hne : ck2 l (i - 1) ≠ 0 := by rw [HY.out]; exact h
                rw [firstE_hit (f := ck2 l) (fun m hm => HGJ.out m (by omega)) hne (l.length - 1) (by omega), if_pos hne, HY.out] at hr
                exact hr.symm)
              have HNEXT := Lib.hid (show y = 0 → ∀ m, m + 1 < i + 1 → ck2 l m = 0 from fun h m hm => by
                by_cases e : m = i - 1
                · rw [e, HY.out, h]
                · exact HGJ.out m (by omega))
              generalize hqq : parP (nAt l i).f0 = q at HPR hy
              clear hqq hmem
              have HFQ := HF.out q
              unfold Found at HFQ
              rw [(find_is (ck1_asc HGA.out) _).1, (find_is (ck1_asc HGA.out) _).2] at HFQ
              replace HFQ := Lib.hid HFQ
              have HMEM := Lib.hid fun h : isN l q = true => right_lab HGA.out (nodeN_mem h)
              unfold hangN at hy
              generalize isN l q = b at hy HFQ HMEM
              generalize nodeN l q = d at hy HFQ HMEM
              generalize nAt l i = n at hr1 c0_ HC1 HC2 HC3 HC4 HC5 HPR HLX hy
              cases b with
              | false =>
                rw [if_neg (by simp)] at hy
                subst hy
                obtain rfl := HRET.out (by decide)
                go_wp2_with (first | (go_at_call 39; refine (HPR.out _).mono ?_; rintro e w5 ⟨rfl, hb5⟩; have HW5 := Lib.hid hb5; have HB5 := Lib.hid (below_step HBJ.out hb5); clear hb5) | (go_at_call 40; refine (HFQ.out _ HB5.out).mono ?_; rintro e w4 ⟨cs, rfl, hFK, hb⟩; obtain ⟨A6, c6, A11, c11, rfl, _⟩ := k50_open hFK; have E8 := Lib.hid (blk_new w4 (.cells #[.string d.f0, .bool d.f1, .int .i64 d.f2.f0, .int .i64 d.f2.f1, .int .i64 d.f2.f2, .int .i64 d.f2.f3, .slice A6 d.f3.length c6, .int .i64 d.f4.f0, .int .i64 d.f4.f1, .int .i64 d.f4.f2, .int .i64 d.f4.f3, .slice A11 d.f5.length c11, .int .i64 d.f6.f0, .int .i64 d.f6.f1, .int .i64 d.f6.f2, .int .i64 d.f6.f3] 50)); have HW8 := Lib.hid (below_alloc (below_step HW5.out hb) (.cells #[.string d.f0, .bool d.f1, .int .i64 d.f2.f0, .int .i64 d.f2.f1, .int .i64 d.f2.f2, .int .i64 d.f2.f3, .slice A6 d.f3.length c6, .int .i64 d.f4.f0, .int .i64 d.f4.f1, .int .i64 d.f4.f2, .int .i64 d.f4.f3, .slice A11 d.f5.length c11, .int .i64 d.f6.f0, .int .i64 d.f6.f1, .int .i64 d.f6.f2, .int .i64 d.f6.f3] 50)); have HB8 := Lib.hid (below_alloc (below_step HB5.out hb) (.cells #[.string d.f0, .bool d.f1, .int .i64 d.f2.f0, .int .i64 d.f2.f1, .int .i64 d.f2.f2, .int .i64 d.f2.f3, .slice A6 d.f3.length c6, .int .i64 d.f4.f0, .int .i64 d.f4.f1, .int .i64 d.f4.f2, .int .i64 d.f4.f3, .slice A11 d.f5.length c11, .int .i64 d.f6.f0, .int .i64 d.f6.f1, .int .i64 d.f6.f2, .int .i64 d.f6.f3] 50)); have E5K := Lib.hid (blk_alloc (blk_below (blk_below E5J.out HW5.out) hb) (.cells #[.string d.f0, .bool d.f1, .int .i64 d.f2.f0, .int .i64 d.f2.f1, .int .i64 d.f2.f2, .int .i64 d.f2.f3, .slice A6 d.f3.length c6, .int .i64 d.f4.f0, .int .i64 d.f4.f1, .int .i64 d.f4.f2, .int .i64 d.f4.f3, .slice A11 d.f5.length c11, .int .i64 d.f6.f0, .int .i64 d.f6.f1, .int .i64 d.f6.f2, .int .i64 d.f6.f3] 50)); clear hb hFK))
                go_ret
                exact ⟨rfl, HB8.out⟩
              | true =>
                rw [if_pos rfl] at hy
                obtain ⟨df, hdf⟩ : ∃ df, d.f1 = df := ⟨_, rfl⟩
                rw [hdf] at hy
                have HDF := Lib.hid hdf
                clear hdf
                cases df with
                | false =>
                  rw [if_neg (by simp)] at hy
                  subst hy
                  obtain rfl := HRET.out (by decide)
                  go_wp2_with (first | (go_at_call 39; refine (HPR.out _).mono ?_; rintro e w5 ⟨rfl, hb5⟩; have HW5 := Lib.hid hb5; have HB5 := Lib.hid (below_step HBJ.out hb5); clear hb5) | (go_at_call 40; refine (HFQ.out _ HB5.out).mono ?_; rintro e w4 ⟨cs, rfl, hFK, hb⟩; obtain ⟨A6, c6, A11, c11, rfl, _⟩ := k50_open hFK; have E8 := Lib.hid (blk_new w4 (.cells #[.string d.f0, .bool d.f1, .int .i64 d.f2.f0, .int .i64 d.f2.f1, .int .i64 d.f2.f2, .int .i64 d.f2.f3, .slice A6 d.f3.length c6, .int .i64 d.f4.f0, .int .i64 d.f4.f1, .int .i64 d.f4.f2, .int .i64 d.f4.f3, .slice A11 d.f5.length c11, .int .i64 d.f6.f0, .int .i64 d.f6.f1, .int .i64 d.f6.f2, .int .i64 d.f6.f3] 50)); have HW8 := Lib.hid (below_alloc (below_step HW5.out hb) (.cells #[.string d.f0, .bool d.f1, .int .i64 d.f2.f0, .int .i64 d.f2.f1, .int .i64 d.f2.f2, .int .i64 d.f2.f3, .slice A6 d.f3.length c6, .int .i64 d.f4.f0, .int .i64 d.f4.f1, .int .i64 d.f4.f2, .int .i64 d.f4.f3, .slice A11 d.f5.length c11, .int .i64 d.f6.f0, .int .i64 d.f6.f1, .int .i64 d.f6.f2, .int .i64 d.f6.f3] 50)); have HB8 := Lib.hid (below_alloc (below_step HB5.out hb) (.cells #[.string d.f0, .bool d.f1, .int .i64 d.f2.f0, .int .i64 d.f2.f1, .int .i64 d.f2.f2, .int .i64 d.f2.f3, .slice A6 d.f3.length c6, .int .i64 d.f4.f0, .int .i64 d.f4.f1, .int .i64 d.f4.f2, .int .i64 d.f4.f3, .slice A11 d.f5.length c11, .int .i64 d.f6.f0, .int .i64 d.f6.f1, .int .i64 d.f6.f2, .int .i64 d.f6.f3] 50)); have E5K := Lib.hid (blk_alloc (blk_below (blk_below E5J.out HW5.out) hb) (.cells #[.string d.f0, .bool d.f1, .int .i64 d.f2.f0, .int .i64 d.f2.f1, .int .i64 d.f2.f2, .int .i64 d.f2.f3, .slice A6 d.f3.length c6, .int .i64 d.f4.f0, .int .i64 d.f4.f1, .int .i64 d.f4.f2, .int .i64 d.f4.f3, .slice A11 d.f5.length c11, .int .i64 d.f6.f0, .int .i64 d.f6.f1, .int .i64 d.f6.f2, .int .i64 d.f6.f3] 50)); have d1_ := ((blk_cell E8.out 1).trans rfl).trans (congrArg (fun x => some (Value.bool x)) HDF.out); clear hb hFK))
                  go_ret
                  exact ⟨rfl, HB8.out⟩
                | true =>
                  rw [if_pos rfl] at hy
                  have HHY := Lib.hid hy
                  have HOV := Lib.hid fun w1 : World => donjonref4_Over.calls n.f2.f0 n.f2.f1 n.f2.f2 n.f2.f3 d.f2.f0 d.f2.f1 d.f2.f2 d.f2.f3 (lover n.f2 d.f2) w1 (rover_iff HLX.out (HMEM.out rfl))
                  clear hy
                  go_wp2_with (first | (go_at_call 39; refine (HPR.out _).mono ?_; rintro e w5 ⟨rfl, hb5⟩; have HW5 := Lib.hid hb5; have HB5 := Lib.hid (below_step HBJ.out hb5); clear hb5) | (go_at_call 40; refine (HFQ.out _ HB5.out).mono ?_; rintro e w4 ⟨cs, rfl, hFK, hb⟩; obtain ⟨A6, c6, A11, c11, rfl, _⟩ := k50_open hFK; have E8 := Lib.hid (blk_new w4 (.cells #[.string d.f0, .bool d.f1, .int .i64 d.f2.f0, .int .i64 d.f2.f1, .int .i64 d.f2.f2, .int .i64 d.f2.f3, .slice A6 d.f3.length c6, .int .i64 d.f4.f0, .int .i64 d.f4.f1, .int .i64 d.f4.f2, .int .i64 d.f4.f3, .slice A11 d.f5.length c11, .int .i64 d.f6.f0, .int .i64 d.f6.f1, .int .i64 d.f6.f2, .int .i64 d.f6.f3] 50)); have HW8 := Lib.hid (below_alloc (below_step HW5.out hb) (.cells #[.string d.f0, .bool d.f1, .int .i64 d.f2.f0, .int .i64 d.f2.f1, .int .i64 d.f2.f2, .int .i64 d.f2.f3, .slice A6 d.f3.length c6, .int .i64 d.f4.f0, .int .i64 d.f4.f1, .int .i64 d.f4.f2, .int .i64 d.f4.f3, .slice A11 d.f5.length c11, .int .i64 d.f6.f0, .int .i64 d.f6.f1, .int .i64 d.f6.f2, .int .i64 d.f6.f3] 50)); have HB8 := Lib.hid (below_alloc (below_step HB5.out hb) (.cells #[.string d.f0, .bool d.f1, .int .i64 d.f2.f0, .int .i64 d.f2.f1, .int .i64 d.f2.f2, .int .i64 d.f2.f3, .slice A6 d.f3.length c6, .int .i64 d.f4.f0, .int .i64 d.f4.f1, .int .i64 d.f4.f2, .int .i64 d.f4.f3, .slice A11 d.f5.length c11, .int .i64 d.f6.f0, .int .i64 d.f6.f1, .int .i64 d.f6.f2, .int .i64 d.f6.f3] 50)); have E5K := Lib.hid (blk_alloc (blk_below (blk_below E5J.out HW5.out) hb) (.cells #[.string d.f0, .bool d.f1, .int .i64 d.f2.f0, .int .i64 d.f2.f1, .int .i64 d.f2.f2, .int .i64 d.f2.f3, .slice A6 d.f3.length c6, .int .i64 d.f4.f0, .int .i64 d.f4.f1, .int .i64 d.f4.f2, .int .i64 d.f4.f3, .slice A11 d.f5.length c11, .int .i64 d.f6.f0, .int .i64 d.f6.f1, .int .i64 d.f6.f2, .int .i64 d.f6.f3] 50)); have d1_ := ((blk_cell E8.out 1).trans rfl).trans (congrArg (fun x => some (Value.bool x)) HDF.out); clear hb hFK))
                  refine rk21 ad l.length c i w4.heap.size n.f1 n.f2 d.f2 (lover n.f2 d.f2) _ _ _ _ _ _ _ _ _ _ _ _ _ _ _ _ _ _ _ _ _ _ _ _ _ _ _ _ _ _ _ _ _ _ _ _ _ _ _ _ _ _ _ _ _ _ _ _ _ _ _ _ _ _ _ _ _ _ _ _ _ _ _ _ _ _ _ _ _ _ _ _ _ _ _ _ _ _ _ _ _ _ _ _ _ _ _ _ _ _ _ _ _ _ _ _ _ _ _ _ _ _ _ _ _ _ _ _ _ hlt (pw_cell_below HW8.out HC1.out) (pw_cell_below HW8.out HC2.out) (pw_cell_below HW8.out HC3.out) (pw_cell_below HW8.out HC4.out) (pw_cell_below HW8.out HC5.out) ((blk_cell E8.out 2).trans rfl) ((blk_cell E8.out 3).trans rfl) ((blk_cell E8.out 4).trans rfl) ((blk_cell E8.out 5).trans rfl) HOV.out rfl ?_
                  intro w6 t78 t79 t80 t81 t82 t83 t84 t85 t86 t87 t88 t89 t90 t91 t92 t93 t94 t95 t96 t97 t98 t99 t100 t101 t102 t103 t104 hb
                  have HB6 := Lib.hid (below_step HB8.out hb)
                  have E56 := Lib.hid (blk_below E5K.out hb)
                  have hy2 := HHY.out
                  unfold eqL at hy2
                  clear hb HHY E8 HW8 HC1 HC2 HC3 HC4 HC5 HOV HPR HFQ
                  generalize (!lover n.f2 d.f2 || (!n.f1 && !(n.f2.f0 == d.f2.f0 && (n.f2.f1 == d.f2.f1 && (n.f2.f2 == d.f2.f2 && n.f2.f3 == d.f2.f3))))) = rb at hy2 ⊢
                  cases rb with
                  | true =>
                    rw [if_pos rfl] at hy2
                    subst hy2
                    obtain rfl := HRET.out (by decide)
                    go_wp2
                    go_ret
                    exact ⟨rfl, HB6.out⟩
                  | false =>
                    rw [if_neg (by simp)] at hy2
                    subst hy2
                    have HG6 := Lib.hid (HNEXT.out rfl)
                    go_wp2
                    go_roundg (l.length - (i + 1))
                    case measure => omega
                    case rel => exact ⟨i + 1, hlt, Nat.le_refl _, by go_num, HG6, HB6, E56⟩
          · have hr := HR3.out
            rw [firstE_zero (l.length - 1) (fun m hm => HGJ.out m (by omega)), if_neg (by simp)] at hr
            have HR4 := Lib.hid hr
            clear hr HR3
            go_wp2
            refine rk23 w4.heap.size rn.f2 _ _ _ _ _ _ _ _ _ _ _ _ _ _ _ _ _ _ _ _ _ _ _ _ _ _ _ _ _ _ _ _ _ _ _ _ _ _ _ _ _ _ _ _ _ _ _ _ _ _ _ _ _ _ _ _ _ _ _ _ _ _ _ _ _ _ _ _ _ _ _ _ _ _ _ _ _ _ _ _ _ _ _ _ _ _ _ _ _ _ _ _ _ _ _ _ _ _ _ _ _ _ _ _ _ _ _ _ _ _ ((blk_cell E5J.out 2).trans rfl) ((blk_cell E5J.out 3).trans rfl) ((blk_cell E5J.out 4).trans rfl) ((blk_cell E5J.out 5).trans rfl) ?_
            intro w6 t105 t106 t107 hb
            have HB6 := Lib.hid (below_step HBJ.out hb)
            clear hb
            unfold botB at HR4
            generalize (!(rn.f2.f0 == 0) || (!(rn.f2.f1 == 0) || (!(rn.f2.f2 == 3) || !(rn.f2.f3 == 255)))) = rb at HR4 ⊢
            cases rb with
            | true =>
              have hr := HR4.out
              rw [if_pos rfl] at hr
              subst hr
              go_wp2
              go_ret
              exact ⟨rfl, HB6.out⟩
            | false =>
              have hr := HR4.out
              rw [if_neg (by simp)] at hr
              subst hr
              go_wp2
              go_ret
              exact ⟨rfl, HB6.out⟩
      · have hr := HR2.out
        rw [if_pos (by by_cases h : l.length = 0; exact Or.inl h; exact Or.inr fun e => hroot ⟨h, e⟩)] at hr
        subst hr
        have hq3 : isN l ⟨#[47]⟩ = false := by
          cases h : isN l ⟨#[47]⟩ with
          | false => rfl
          | true => exact absurd (hq1.1 h) hroot
        have HF0 := HF.out ⟨#[47]⟩
        unfold Found at HF0
        rw [(find_is (ck1_asc HGA.out) _).1, (find_is (ck1_asc HGA.out) _).2, hq3] at HF0
        generalize nodeN l ⟨#[47]⟩ = rn at HF0
        replace HF0 := Lib.hid HF0
        clear hroot hq1 hq2 hq3 HR2
        go_wp2_with (go_at_call 40; refine (HF0.out _ HB.out).mono ?_; rintro e w4 ⟨cs, rfl, hFK, hb⟩; obtain ⟨A6, c6, A11, c11, rfl, _⟩ := k50_open hFK; have E5 := Lib.hid (blk_new w4 (.cells #[.string rn.f0, .bool rn.f1, .int .i64 rn.f2.f0, .int .i64 rn.f2.f1, .int .i64 rn.f2.f2, .int .i64 rn.f2.f3, .slice A6 rn.f3.length c6, .int .i64 rn.f4.f0, .int .i64 rn.f4.f1, .int .i64 rn.f4.f2, .int .i64 rn.f4.f3, .slice A11 rn.f5.length c11, .int .i64 rn.f6.f0, .int .i64 rn.f6.f1, .int .i64 rn.f6.f2, .int .i64 rn.f6.f3] 50)); have HB9 := Lib.hid (below_alloc (below_step HB.out hb) (.cells #[.string rn.f0, .bool rn.f1, .int .i64 rn.f2.f0, .int .i64 rn.f2.f1, .int .i64 rn.f2.f2, .int .i64 rn.f2.f3, .slice A6 rn.f3.length c6, .int .i64 rn.f4.f0, .int .i64 rn.f4.f1, .int .i64 rn.f4.f2, .int .i64 rn.f4.f3, .slice A11 rn.f5.length c11, .int .i64 rn.f6.f0, .int .i64 rn.f6.f1, .int .i64 rn.f6.f2, .int .i64 rn.f6.f3] 50)); clear hb hFK)
        go_ret
        exact ⟨rfl, HB9.out⟩
end Go.Proofs.YtmndeoncbocplaaDoor.C
end
