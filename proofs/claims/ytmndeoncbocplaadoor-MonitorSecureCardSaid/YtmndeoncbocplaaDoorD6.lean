/- The example of monitors; the walk of the law. -/
import Derived.Test.YtmndeoncbocplaaDoorD3
import Derived.Deep.RegionHeldLaw
import Derived.Deep.RegionHeld3
import Derived.Test.YtmndeoncbocplaaDoorD2
import Derived.Deep.LoopGhost
import Derived.Test.YtmndeoncbocplaaDoorD1
import Derived.Test.YtmndeoncbocplaaDoorQ1
import Derived.Test.YtmndeoncbocplaaDoorQ2
import Derived.Test.YtmndeoncbocplaaDoorQ3
set_option linter.unusedVariables false
set_option linter.unusedSimpArgs false
/-! CKnown -/
namespace Go.Proofs.YtmndeoncbocplaaDoor.C
open Go.RowKit Go.Proofs.YtmndeoncbocplaaDoor.Q Go.Proofs.YtmndeoncbocplaaDoorW.PrintWords Go.Proofs.YtmndeoncbocplaaDoorW.PrintLast Go.Proofs.YtmndeoncbocplaaDoorW.PrintMore
attribute [local go_sem ↓] rd_at50 wr_at50 al_at50
attribute [local go_sem] rd50_new wr50_new al50 build50
theorem okp_l0x : Okp [[108, 48], [120]] := by
  refine ⟨fun x hx => ?_, by decide +kernel⟩
  rcases List.mem_cons.1 hx with rfl | hx
  · exact L.name_nm (by decide +kernel)
  · rw [List.mem_singleton.1 hx]; exact L.name_nm (by decide +kernel)
theorem okp_l0 : Okp [[108, 48]] := by
  refine ⟨fun x hx => ?_, by decide +kernel⟩
  rw [List.mem_singleton.1 hx]; exact L.name_nm (by decide +kernel)
def labK : S41 := ⟨1, 0, 3, 255⟩
theorem kn1 : (seeR (firstT [labK]) botS [] [[108, 48], [120]]).2 = 15 := by decide +kernel
theorem kn2 : (mayR (firstT [labK]) botS ⟨#[97]⟩ [[108, 48]] 1).2 = 15 := by decide +kernel
theorem kn3 : (seeR (firstT [labK]) botS [] [[108, 48]]).2 = 0 := by decide +kernel
theorem kn4 : (seeR (firstT [labK]) botS [] [[108, 48]]).1.f0 = ⟨#[47, 108, 48]⟩ := by decide +kernel
/-- What is told of a path in a tree. -/
theorem see_t {t : List S50} (T : Tree t) (u : ByteArray) (a : S41) (ns : List (List UInt8)) (hok : Okp ns) (p : ByteArray) (hp : pth ns = p) (n : S50) (k : Int) (hn : (seeR t a [] ns).1 = n) (hk : (seeR t a [] ns).2 = k) (A : Option Addr) (c : Nat) (w : World) (hC : Kd.C k50 w A t.length t) (hc : t.length ≤ c) :
    Calls Tryd.prog 43 #[.slice A t.length c, .agg #[.string u, .int .i64 a.f0, .int .i64 a.f1, .int .i64 a.f2, .int .i64 a.f3], .string p] w fun e w' => ∃ A6 c6 A11 c11, e = .returned (.tuple #[.agg #[.string n.f0, .bool n.f1, .int .i64 n.f2.f0, .int .i64 n.f2.f1, .int .i64 n.f2.f2, .int .i64 n.f2.f3, .slice A6 n.f3.length c6, .int .i64 n.f4.f0, .int .i64 n.f4.f1, .int .i64 n.f4.f2, .int .i64 n.f4.f3, .slice A11 n.f5.length c11, .int .i64 n.f6.f0, .int .i64 n.f6.f1, .int .i64 n.f6.f2, .int .i64 n.f6.f3], .int .i64 k]) ∧ k50.K w' n [.string n.f0, .bool n.f1, .int .i64 n.f2.f0, .int .i64 n.f2.f1, .int .i64 n.f2.f2, .int .i64 n.f2.f3, .slice A6 n.f3.length c6, .int .i64 n.f4.f0, .int .i64 n.f4.f1, .int .i64 n.f4.f2, .int .i64 n.f4.f3, .slice A11 n.f5.length c11, .int .i64 n.f6.f0, .int .i64 n.f6.f1, .int .i64 n.f6.f2, .int .i64 n.f6.f3] ∧ Below w.heap.size w w' := by
  subst hp hn hk
  refine (see_c t u a ns A c w hC hc (tree_srch T) hok.1 hok.2).mono ?_
  rintro e w' ⟨cs, rfl, hF, hB⟩
  have hK := hF w' (fun _ _ _ => rfl)
  obtain ⟨A6, c6, A11, c11, rfl, _⟩ := k50_open hK
  exact ⟨A6, c6, A11, c11, rfl, hK, hB⟩
theorem may_t {t : List S50} (T : Tree t) (u : ByteArray) (a : S41) (ns : List (List UInt8)) (hok : Okp ns) (p : ByteArray) (hp : pth ns = p) (mode : Int) (n : S50) (k : Int) (hn : (mayR t a u ns mode).1 = n) (hk : (mayR t a u ns mode).2 = k) (A : Option Addr) (c : Nat) (w : World) (hC : Kd.C k50 w A t.length t) (hc : t.length ≤ c) :
    Calls Tryd.prog 35 #[.slice A t.length c, .agg #[.string u, .int .i64 a.f0, .int .i64 a.f1, .int .i64 a.f2, .int .i64 a.f3], .string p, .int .i64 mode] w fun e w' => ∃ A6 c6 A11 c11, e = .returned (.tuple #[.agg #[.string n.f0, .bool n.f1, .int .i64 n.f2.f0, .int .i64 n.f2.f1, .int .i64 n.f2.f2, .int .i64 n.f2.f3, .slice A6 n.f3.length c6, .int .i64 n.f4.f0, .int .i64 n.f4.f1, .int .i64 n.f4.f2, .int .i64 n.f4.f3, .slice A11 n.f5.length c11, .int .i64 n.f6.f0, .int .i64 n.f6.f1, .int .i64 n.f6.f2, .int .i64 n.f6.f3], .int .i64 k]) ∧ k50.K w' n [.string n.f0, .bool n.f1, .int .i64 n.f2.f0, .int .i64 n.f2.f1, .int .i64 n.f2.f2, .int .i64 n.f2.f3, .slice A6 n.f3.length c6, .int .i64 n.f4.f0, .int .i64 n.f4.f1, .int .i64 n.f4.f2, .int .i64 n.f4.f3, .slice A11 n.f5.length c11, .int .i64 n.f6.f0, .int .i64 n.f6.f1, .int .i64 n.f6.f2, .int .i64 n.f6.f3] ∧ Below w.heap.size w w' := by
  subst hp hn hk
  refine (may_c t u a ns mode A c w hC hc (tree_srch T) (tree_acls T) hok.1 hok.2).mono ?_
  rintro e w' ⟨cs, rfl, hF, hB⟩
  have hK := hF w' (fun _ _ _ => rfl)
  obtain ⟨A6, c6, A11, c11, rfl, _⟩ := k50_open hK
  exact ⟨A6, c6, A11, c11, rfl, hK, hB⟩
theorem row_one {w : World} : Kd.C k41 (w.alloc (.cells #[.int .i64 1, .int .i64 0, .int .i64 3, .int .i64 255] 41)) (some ⟨w.heap.size, 0, none⟩) 1 [labK] := by
  refine ⟨rfl, by decide, fun _ => ⟨_, rfl, fun j q hj => ?_⟩⟩
  have hj0 : j = 0 := by
    have := (List.getElem?_eq_some_iff.1 hj).1
    simp at this
    exact this
  subst hj0
  have hq : q = labK := by simpa using hj.symm
  subst hq
  refine ⟨_, rfl, k41_mk _ _, fun i u hu => ?_⟩
  have hb := blk_new w (.cells #[.int .i64 1, .int .i64 0, .int .i64 3, .int .i64 255] 41)
  rcases i with _ | _ | _ | _ | i
  · have hu' : Value.int .i64 1 = u := by simpa [labK] using hu
    rw [← hu']; exact (blk_cell hb 0).trans rfl
  · have hu' : Value.int .i64 0 = u := by simpa [labK] using hu
    rw [← hu']; exact (blk_cell hb 1).trans rfl
  · have hu' : Value.int .i64 3 = u := by simpa [labK] using hu
    rw [← hu']; exact (blk_cell hb 2).trans rfl
  · have hu' : Value.int .i64 255 = u := by simpa [labK] using hu
    rw [← hu']; exact (blk_cell hb 3).trans rfl
  · simp at hu
theorem lab_K : Lab labK := by unfold Lab labK; decide
theorem C50_of' {w W : World} {A : Option Addr} {xs : List S50} (h : ReadsRow (k50.K w) 16 W A xs.length xs) (hb : Below w.heap.size w W) : Kd.C k50 W A xs.length xs :=
  ReadsRow.imp_ h (Below.refl _ _) (fun _ _ h => k50.K_below hb h)
set_option maxHeartbeats 8000000 in
set_option maxRecDepth 100000 in
theorem known13_c (w : World) : Calls Tryd.prog 31 #[] w fun e w' => e = .returned (.bool true) ∧ Below w.heap.size w w' := by
  have HT := Lib.hid (tree_first [labK] (by decide) (fun a ha => by rw [List.mem_singleton.1 ha]; exact lab_K))
  have H1 := Lib.hid kn1
  have H2 := Lib.hid kn2
  have H3 := Lib.hid kn3
  have H4 := Lib.hid kn4
  have HB0 := Lib.hid (below_alloc (Below.refl w.heap.size w) (.cells #[.int .i64 1, .int .i64 0, .int .i64 3, .int .i64 255] 41))
  have HF := Lib.hid (first_c [labK] (some ⟨w.heap.size, 0, none⟩) 1 (.slice none 0 0) (.slice none 0 0) _ (row_one (w := w)) (by decide) (by decide))
  obtain ⟨t, ht⟩ : ∃ t, firstT [labK] = t := ⟨_, rfl⟩
  have Ht := Lib.hid ht
  rw [ht] at HT H1 H2 H3 H4
  clear ht
  obtain ⟨n1, hn1⟩ : ∃ n, (seeR t botS [] [[108, 48], [120]]).1 = n := ⟨_, rfl⟩
  obtain ⟨n2, hn2⟩ : ∃ n, (mayR t botS ⟨#[97]⟩ [[108, 48]] 1).1 = n := ⟨_, rfl⟩
  obtain ⟨n3, hn3⟩ : ∃ n, (seeR t botS [] [[108, 48]]).1 = n := ⟨_, rfl⟩
  have hn4 : n3.f0 = ⟨#[47, 108, 48]⟩ := by rw [← hn3]; exact H4.out
  have Hn1 := Lib.hid hn1
  have Hn2 := Lib.hid hn2
  have Hn3 := Lib.hid hn3
  clear hn1 hn2 hn3 H4
  have htl : (⟨#[47, 108, 48]⟩ : ByteArray).toList = [47, 108, 48] := by rw [Lib.toList_data]
  go_enter Tryd.func31, Tryd.ntmps31
  go_wp2_with (first | (go_at_call 43; have hg := HBw4.out; clear hg; refine (see_t HT.out ⟨#[97]⟩ botS [[108, 48]] okp_l0 ⟨#[47, 108, 48]⟩ rfl n3 0 Hn3.out H3.out A1 c1 _ HCw4.out Hc1.out).mono ?_; rintro e w5 ⟨Z6, Zc6, Z11, Zc11, rfl, hK, hb⟩; have HBw5 := Lib.hid (below_alloc (below_step HBw4.out hb) (.cells #[.string n3.f0, .bool n3.f1, .int .i64 n3.f2.f0, .int .i64 n3.f2.f1, .int .i64 n3.f2.f2, .int .i64 n3.f2.f3, .slice Z6 n3.f3.length Zc6, .int .i64 n3.f4.f0, .int .i64 n3.f4.f1, .int .i64 n3.f4.f2, .int .i64 n3.f4.f3, .slice Z11 n3.f5.length Zc11, .int .i64 n3.f6.f0, .int .i64 n3.f6.f1, .int .i64 n3.f6.f2, .int .i64 n3.f6.f3] 50)); have HCw5 := Lib.hid (Kd.C_below HCw4.out (below_alloc hb (.cells #[.string n3.f0, .bool n3.f1, .int .i64 n3.f2.f0, .int .i64 n3.f2.f1, .int .i64 n3.f2.f2, .int .i64 n3.f2.f3, .slice Z6 n3.f3.length Zc6, .int .i64 n3.f4.f0, .int .i64 n3.f4.f1, .int .i64 n3.f4.f2, .int .i64 n3.f4.f3, .slice Z11 n3.f5.length Zc11, .int .i64 n3.f6.f0, .int .i64 n3.f6.f1, .int .i64 n3.f6.f2, .int .i64 n3.f6.f3] 50))); have ESw5 := Lib.hid (blk_alloc (blk_below ESw4.out hb) (.cells #[.string n3.f0, .bool n3.f1, .int .i64 n3.f2.f0, .int .i64 n3.f2.f1, .int .i64 n3.f2.f2, .int .i64 n3.f2.f3, .slice Z6 n3.f3.length Zc6, .int .i64 n3.f4.f0, .int .i64 n3.f4.f1, .int .i64 n3.f4.f2, .int .i64 n3.f4.f3, .slice Z11 n3.f5.length Zc11, .int .i64 n3.f6.f0, .int .i64 n3.f6.f1, .int .i64 n3.f6.f2, .int .i64 n3.f6.f3] 50)); have sw50 := (blk_cell ESw5.out 0).trans rfl; have sw51 := (blk_cell ESw5.out 1).trans rfl; have sw52 := (blk_cell ESw5.out 2).trans rfl; have sw53 := (blk_cell ESw5.out 3).trans rfl; have sw54 := (blk_cell ESw5.out 4).trans rfl; have nfw5 := (blk_cell (blk_new w5 (.cells #[.string n3.f0, .bool n3.f1, .int .i64 n3.f2.f0, .int .i64 n3.f2.f1, .int .i64 n3.f2.f2, .int .i64 n3.f2.f3, .slice Z6 n3.f3.length Zc6, .int .i64 n3.f4.f0, .int .i64 n3.f4.f1, .int .i64 n3.f4.f2, .int .i64 n3.f4.f3, .slice Z11 n3.f5.length Zc11, .int .i64 n3.f6.f0, .int .i64 n3.f6.f1, .int .i64 n3.f6.f2, .int .i64 n3.f6.f3] 50)) 0).trans rfl; clear hK hb) | (go_at_call 35; refine (may_t HT.out ⟨#[97]⟩ botS [[108, 48]] okp_l0 ⟨#[47, 108, 48]⟩ rfl 1 n2 15 Hn2.out H2.out A1 c1 _ HCw3.out Hc1.out).mono ?_; rintro e w4 ⟨Y6, Yc6, Y11, Yc11, rfl, hK, hb⟩; have HBw4 := Lib.hid (below_alloc (below_step HBw3.out hb) (.cells #[.string n2.f0, .bool n2.f1, .int .i64 n2.f2.f0, .int .i64 n2.f2.f1, .int .i64 n2.f2.f2, .int .i64 n2.f2.f3, .slice Y6 n2.f3.length Yc6, .int .i64 n2.f4.f0, .int .i64 n2.f4.f1, .int .i64 n2.f4.f2, .int .i64 n2.f4.f3, .slice Y11 n2.f5.length Yc11, .int .i64 n2.f6.f0, .int .i64 n2.f6.f1, .int .i64 n2.f6.f2, .int .i64 n2.f6.f3] 50)); have HCw4 := Lib.hid (Kd.C_below HCw3.out (below_alloc hb (.cells #[.string n2.f0, .bool n2.f1, .int .i64 n2.f2.f0, .int .i64 n2.f2.f1, .int .i64 n2.f2.f2, .int .i64 n2.f2.f3, .slice Y6 n2.f3.length Yc6, .int .i64 n2.f4.f0, .int .i64 n2.f4.f1, .int .i64 n2.f4.f2, .int .i64 n2.f4.f3, .slice Y11 n2.f5.length Yc11, .int .i64 n2.f6.f0, .int .i64 n2.f6.f1, .int .i64 n2.f6.f2, .int .i64 n2.f6.f3] 50))); have ESw4 := Lib.hid (blk_alloc (blk_below ESw3.out hb) (.cells #[.string n2.f0, .bool n2.f1, .int .i64 n2.f2.f0, .int .i64 n2.f2.f1, .int .i64 n2.f2.f2, .int .i64 n2.f2.f3, .slice Y6 n2.f3.length Yc6, .int .i64 n2.f4.f0, .int .i64 n2.f4.f1, .int .i64 n2.f4.f2, .int .i64 n2.f4.f3, .slice Y11 n2.f5.length Yc11, .int .i64 n2.f6.f0, .int .i64 n2.f6.f1, .int .i64 n2.f6.f2, .int .i64 n2.f6.f3] 50)); have sw40 := (blk_cell ESw4.out 0).trans rfl; have sw41 := (blk_cell ESw4.out 1).trans rfl; have sw42 := (blk_cell ESw4.out 2).trans rfl; have sw43 := (blk_cell ESw4.out 3).trans rfl; have sw44 := (blk_cell ESw4.out 4).trans rfl; have nfw4 := (blk_cell (blk_new w4 (.cells #[.string n2.f0, .bool n2.f1, .int .i64 n2.f2.f0, .int .i64 n2.f2.f1, .int .i64 n2.f2.f2, .int .i64 n2.f2.f3, .slice Y6 n2.f3.length Yc6, .int .i64 n2.f4.f0, .int .i64 n2.f4.f1, .int .i64 n2.f4.f2, .int .i64 n2.f4.f3, .slice Y11 n2.f5.length Yc11, .int .i64 n2.f6.f0, .int .i64 n2.f6.f1, .int .i64 n2.f6.f2, .int .i64 n2.f6.f3] 50)) 0).trans rfl; clear hK hb) | (go_at_call 43; refine (see_t HT.out ⟨#[97]⟩ botS [[108, 48], [120]] okp_l0x ⟨#[47, 108, 48, 47, 120]⟩ rfl n1 15 Hn1.out H1.out A1 c1 _ HC2.out Hc1.out).mono ?_; rintro e w3 ⟨X6, Xc6, X11, Xc11, rfl, hK, hb⟩; have HBw3 := Lib.hid (below_alloc (below_step HB2.out hb) (.cells #[.string n1.f0, .bool n1.f1, .int .i64 n1.f2.f0, .int .i64 n1.f2.f1, .int .i64 n1.f2.f2, .int .i64 n1.f2.f3, .slice X6 n1.f3.length Xc6, .int .i64 n1.f4.f0, .int .i64 n1.f4.f1, .int .i64 n1.f4.f2, .int .i64 n1.f4.f3, .slice X11 n1.f5.length Xc11, .int .i64 n1.f6.f0, .int .i64 n1.f6.f1, .int .i64 n1.f6.f2, .int .i64 n1.f6.f3] 50)); have HCw3 := Lib.hid (Kd.C_below HC2.out (below_alloc hb (.cells #[.string n1.f0, .bool n1.f1, .int .i64 n1.f2.f0, .int .i64 n1.f2.f1, .int .i64 n1.f2.f2, .int .i64 n1.f2.f3, .slice X6 n1.f3.length Xc6, .int .i64 n1.f4.f0, .int .i64 n1.f4.f1, .int .i64 n1.f4.f2, .int .i64 n1.f4.f3, .slice X11 n1.f5.length Xc11, .int .i64 n1.f6.f0, .int .i64 n1.f6.f1, .int .i64 n1.f6.f2, .int .i64 n1.f6.f3] 50))); have ESw3 := Lib.hid (blk_alloc (blk_below ES2.out hb) (.cells #[.string n1.f0, .bool n1.f1, .int .i64 n1.f2.f0, .int .i64 n1.f2.f1, .int .i64 n1.f2.f2, .int .i64 n1.f2.f3, .slice X6 n1.f3.length Xc6, .int .i64 n1.f4.f0, .int .i64 n1.f4.f1, .int .i64 n1.f4.f2, .int .i64 n1.f4.f3, .slice X11 n1.f5.length Xc11, .int .i64 n1.f6.f0, .int .i64 n1.f6.f1, .int .i64 n1.f6.f2, .int .i64 n1.f6.f3] 50)); have sw30 := (blk_cell ESw3.out 0).trans rfl; have sw31 := (blk_cell ESw3.out 1).trans rfl; have sw32 := (blk_cell ESw3.out 2).trans rfl; have sw33 := (blk_cell ESw3.out 3).trans rfl; have sw34 := (blk_cell ESw3.out 4).trans rfl; have nfw3 := (blk_cell (blk_new w3 (.cells #[.string n1.f0, .bool n1.f1, .int .i64 n1.f2.f0, .int .i64 n1.f2.f1, .int .i64 n1.f2.f2, .int .i64 n1.f2.f3, .slice X6 n1.f3.length Xc6, .int .i64 n1.f4.f0, .int .i64 n1.f4.f1, .int .i64 n1.f4.f2, .int .i64 n1.f4.f3, .slice X11 n1.f5.length Xc11, .int .i64 n1.f6.f0, .int .i64 n1.f6.f1, .int .i64 n1.f6.f2, .int .i64 n1.f6.f3] 50)) 0).trans rfl; clear hK hb) | (go_at_call 66; refine (donjonref4_Bottom.calls 0 0 3 255 _ rfl).mono ?_; rintro e w2 ⟨rfl, hb⟩; have HB2 := Lib.hid (below_alloc (below_step HB1.out hb) (.cells #[.string (⟨#[97]⟩ : ByteArray), .int .i64 0, .int .i64 0, .int .i64 3, .int .i64 255] 55)); have HC2 := Lib.hid (Kd.C_below HC1.out (below_alloc hb (.cells #[.string (⟨#[97]⟩ : ByteArray), .int .i64 0, .int .i64 0, .int .i64 3, .int .i64 255] 55))); have ES2 := Lib.hid (blk_new w2 (.cells #[.string (⟨#[97]⟩ : ByteArray), .int .i64 0, .int .i64 0, .int .i64 3, .int .i64 255] 55)); clear hb) | (go_at_call 65; refine HF.out.mono ?_; rintro e w1 ⟨v, rfl, ls, ⟨_, hls⟩, _, wx, hb1, hb2, hO⟩; obtain rfl := hls rfl; rw [Ht.out] at hO; obtain ⟨A1, c1, rfl, hc1, hR1⟩ := OwnRow.reads hO; have HC1 := Lib.hid (C50_of' hR1 hb2); have HB1 := Lib.hid (below_step HB0.out (below_step hb1 hb2)); have Hc1 := Lib.hid hc1; clear hb1 hb2 hO hR1 hls))
  go_ret
  exact ⟨rfl, by have h := HBw5.out; rw [hn4] at h; exact h⟩
end Go.Proofs.YtmndeoncbocplaaDoor.C
/-! CLaw -/
namespace Go.Proofs.YtmndeoncbocplaaDoor.C
open Go.RowKit Go.Proofs.YtmndeoncbocplaaDoor.Q Go.Proofs.YtmndeoncbocplaaDoorW.PrintWords Go.Proofs.YtmndeoncbocplaaDoorW.PrintLast Go.Proofs.YtmndeoncbocplaaDoorW.PrintMore
theorem wi13_c (a n : Int) (w : World) (h0 : 0 < n) (hn : n ≤ 4611686018427387904) : Calls Tryd.prog 34 #[.int .i64 a, .int .i64 n] w fun e w' => ∃ t : Nat, (t : Int) < n ∧ e = .returned (.int .i64 (t : Int)) ∧ Below w.heap.size w w' := by
  obtain ⟨t, ht, h1, h2⟩ := P.within_f a n h0 hn
  obtain ⟨k, rfl⟩ := Int.eq_ofNat_of_zero_le h1
  exact (donjonlaw13_within.calls a n k w ht).mono fun _ _ ⟨he, hd⟩ => ⟨k, h2, he, hd.below⟩
/-- Whose name a number gives: a to e. -/
def IsWho (u : ByteArray) : Prop := ∃ k : Nat, k < 5 ∧ u = ⟨#[UInt8.ofNat (97 + k)]⟩
theorem who_f (a : Int) : ∃ u, IsWho u ∧ donjonlaw13_Who.f a = some u := by
  obtain ⟨t, ht, h1, h2⟩ := P.within_f a 5 (by omega) (by omega)
  obtain ⟨k, rfl⟩ := Int.eq_ofNat_of_zero_le h1
  have e : donjonlaw13_within.f a 5 = some (k : Int) := ht
  refine ⟨⟨#[UInt8.ofNat (97 + k)]⟩, ⟨k, by omega, rfl⟩, ?_⟩
  unfold donjonlaw13_Who.f
  rw [e]
  have hw : (wrap64 (97 + (k : Int)) % 256).toNat = 97 + k := by unfold wrap64; omega
  simp [strOfNums, hw]
end Go.Proofs.YtmndeoncbocplaaDoor.C
/-! CSame -/
namespace Go.Proofs.YtmndeoncbocplaaDoor.C
open Go.RowKit Go.Proofs.YtmndeoncbocplaaDoor.Q Go.Proofs.YtmndeoncbocplaaDoorW.PrintWords Go.Proofs.YtmndeoncbocplaaDoorW.PrintLast Go.Proofs.YtmndeoncbocplaaDoorW.PrintMore
attribute [local go_sem ↓] rd_at50 wr_at50 al_at50
attribute [local go_sem] rd50_new wr50_new al50 build50
attribute [local go_sem high] eqA41 eqA47 eqA96
/-- A number out of a row. -/
theorem int_at {w W : World} {A : Option Addr} {xs : List Int} (hC : Kd.C (Kd.int .i64) w A xs.length xs) (hb : Below w.heap.size w W) (i : Nat) (hi : i < xs.length) : ∃ ad, A = some ad ∧ W.cell? (ad.add i) = some (.int .i64 (xs.getD i 0)) := by
  obtain ⟨ad, cs, e, _, hK, hc⟩ := ReadsRow.get_ (Kd.C_below hC hb) (0 : Int) (i : Int) (by omega) (by omega)
  have hcs : cs = [.int .i64 (xs.getD (i : Int).toNat 0)] := hK
  subst hcs
  have h := hc 0 _ rfl
  rw [Int.toNat_natCast, Nat.add_zero, show i * (Kd.int .i64).sz = i from Nat.mul_one i] at h
  exact ⟨ad, e, h⟩
set_option maxHeartbeats 8000000 in
set_option maxRecDepth 100000 in
theorem same_t (n : S50) (cs ds : List Value) (w : World) (h1 : k50.K w n cs) (h2 : k50.K w n ds) : Calls Tryd.prog 42 #[.agg cs.toArray, .agg ds.toArray] w fun e w' => e = .returned (.bool true) ∧ Below w.heap.size w w' := by
  obtain ⟨A6, c6, A11, c11, rfl, l6, g6, l11, g11⟩ := k50_open h1
  obtain ⟨B6, d6, B11, d11, rfl, m6, q6, m11, q11⟩ := k50_open h2
  clear h1 h2
  have hz3 : n.f3.length ≤ 9223372036854775807 := g6.2.1
  have hz5 : n.f5.length ≤ 9223372036854775807 := g11.2.1
  have G6 := Lib.hid g6
  have G11 := Lib.hid g11
  have Q6 := Lib.hid q6
  have Q11 := Lib.hid q11
  clear g6 g11 q6 q11
  have EA := Lib.hid (blk_alloc (blk_new w (.cells #[.string n.f0, .bool n.f1, .int .i64 n.f2.f0, .int .i64 n.f2.f1, .int .i64 n.f2.f2, .int .i64 n.f2.f3, .slice A6 n.f3.length c6, .int .i64 n.f4.f0, .int .i64 n.f4.f1, .int .i64 n.f4.f2, .int .i64 n.f4.f3, .slice A11 n.f5.length c11, .int .i64 n.f6.f0, .int .i64 n.f6.f1, .int .i64 n.f6.f2, .int .i64 n.f6.f3] 50)) (.cells #[.string n.f0, .bool n.f1, .int .i64 n.f2.f0, .int .i64 n.f2.f1, .int .i64 n.f2.f2, .int .i64 n.f2.f3, .slice B6 n.f3.length d6, .int .i64 n.f4.f0, .int .i64 n.f4.f1, .int .i64 n.f4.f2, .int .i64 n.f4.f3, .slice B11 n.f5.length d11, .int .i64 n.f6.f0, .int .i64 n.f6.f1, .int .i64 n.f6.f2, .int .i64 n.f6.f3] 50))
  have EB := Lib.hid (show ((w.alloc (.cells #[.string n.f0, .bool n.f1, .int .i64 n.f2.f0, .int .i64 n.f2.f1, .int .i64 n.f2.f2, .int .i64 n.f2.f3, .slice A6 n.f3.length c6, .int .i64 n.f4.f0, .int .i64 n.f4.f1, .int .i64 n.f4.f2, .int .i64 n.f4.f3, .slice A11 n.f5.length c11, .int .i64 n.f6.f0, .int .i64 n.f6.f1, .int .i64 n.f6.f2, .int .i64 n.f6.f3] 50)).alloc (.cells #[.string n.f0, .bool n.f1, .int .i64 n.f2.f0, .int .i64 n.f2.f1, .int .i64 n.f2.f2, .int .i64 n.f2.f3, .slice B6 n.f3.length d6, .int .i64 n.f4.f0, .int .i64 n.f4.f1, .int .i64 n.f4.f2, .int .i64 n.f4.f3, .slice B11 n.f5.length d11, .int .i64 n.f6.f0, .int .i64 n.f6.f1, .int .i64 n.f6.f2, .int .i64 n.f6.f3] 50)).heap[w.heap.size + 1]? = some (.cells #[.string n.f0, .bool n.f1, .int .i64 n.f2.f0, .int .i64 n.f2.f1, .int .i64 n.f2.f2, .int .i64 n.f2.f3, .slice B6 n.f3.length d6, .int .i64 n.f4.f0, .int .i64 n.f4.f1, .int .i64 n.f4.f2, .int .i64 n.f4.f3, .slice B11 n.f5.length d11, .int .i64 n.f6.f0, .int .i64 n.f6.f1, .int .i64 n.f6.f2, .int .i64 n.f6.f3] 50) by have := blk_new (w.alloc (.cells #[.string n.f0, .bool n.f1, .int .i64 n.f2.f0, .int .i64 n.f2.f1, .int .i64 n.f2.f2, .int .i64 n.f2.f3, .slice A6 n.f3.length c6, .int .i64 n.f4.f0, .int .i64 n.f4.f1, .int .i64 n.f4.f2, .int .i64 n.f4.f3, .slice A11 n.f5.length c11, .int .i64 n.f6.f0, .int .i64 n.f6.f1, .int .i64 n.f6.f2, .int .i64 n.f6.f3] 50)) (.cells #[.string n.f0, .bool n.f1, .int .i64 n.f2.f0, .int .i64 n.f2.f1, .int .i64 n.f2.f2, .int .i64 n.f2.f3, .slice B6 n.f3.length d6, .int .i64 n.f4.f0, .int .i64 n.f4.f1, .int .i64 n.f4.f2, .int .i64 n.f4.f3, .slice B11 n.f5.length d11, .int .i64 n.f6.f0, .int .i64 n.f6.f1, .int .i64 n.f6.f2, .int .i64 n.f6.f3] 50); rwa [World.size_alloc] at this)
  have HB := Lib.hid (below_alloc (below_alloc (Below.refl w.heap.size w) (.cells #[.string n.f0, .bool n.f1, .int .i64 n.f2.f0, .int .i64 n.f2.f1, .int .i64 n.f2.f2, .int .i64 n.f2.f3, .slice A6 n.f3.length c6, .int .i64 n.f4.f0, .int .i64 n.f4.f1, .int .i64 n.f4.f2, .int .i64 n.f4.f3, .slice A11 n.f5.length c11, .int .i64 n.f6.f0, .int .i64 n.f6.f1, .int .i64 n.f6.f2, .int .i64 n.f6.f3] 50)) (.cells #[.string n.f0, .bool n.f1, .int .i64 n.f2.f0, .int .i64 n.f2.f1, .int .i64 n.f2.f2, .int .i64 n.f2.f3, .slice B6 n.f3.length d6, .int .i64 n.f4.f0, .int .i64 n.f4.f1, .int .i64 n.f4.f2, .int .i64 n.f4.f3, .slice B11 n.f5.length d11, .int .i64 n.f6.f0, .int .i64 n.f6.f1, .int .i64 n.f6.f2, .int .i64 n.f6.f3] 50))
  have mixed : Tryd.prog.follows .mixedOrders = true := by kernel_rfl
  go_enter Tryd.func42, Tryd.ntmps42
  go_wp2
  generalize (w.alloc (.cells #[.string n.f0, .bool n.f1, .int .i64 n.f2.f0, .int .i64 n.f2.f1, .int .i64 n.f2.f2, .int .i64 n.f2.f3, .slice A6 n.f3.length c6, .int .i64 n.f4.f0, .int .i64 n.f4.f1, .int .i64 n.f4.f2, .int .i64 n.f4.f3, .slice A11 n.f5.length c11, .int .i64 n.f6.f0, .int .i64 n.f6.f1, .int .i64 n.f6.f2, .int .i64 n.f6.f3] 50)).alloc (.cells #[.string n.f0, .bool n.f1, .int .i64 n.f2.f0, .int .i64 n.f2.f1, .int .i64 n.f2.f2, .int .i64 n.f2.f3, .slice B6 n.f3.length d6, .int .i64 n.f4.f0, .int .i64 n.f4.f1, .int .i64 n.f4.f2, .int .i64 n.f4.f3, .slice B11 n.f5.length d11, .int .i64 n.f6.f0, .int .i64 n.f6.f1, .int .i64 n.f6.f2, .int .i64 n.f6.f3] 50) = V at EA EB HB ⊢
  go_loopg [5] n.f3.length (fun k s5 wr => ∃ i : Nat, i ≤ n.f3.length ∧ n.f3.length - i ≤ k ∧ s5 = .int .i64 i ∧ Hid (Below V.heap.size V wr))
  case atStart => exact ⟨0, Nat.zero_le _, Nat.le_refl _, rfl, Lib.hid (Below.refl _ _)⟩
  case round =>
    obtain ⟨i, hi, hik, rfl, HV⟩ := hrel
    have a6 := (blk_cell (blk_below EA.out HV.out) 6).trans rfl
    have b6 := (blk_cell (blk_below EB.out HV.out) 6).trans rfl
    by_cases hlt : i < n.f3.length
    · obtain ⟨ad, hA, x0, x1⟩ := at_T96 (Kd.C_below G6.out (below_step HB.out HV.out)) (i : Int) (by omega) (by omega)
      obtain ⟨bd, hB, y0, y1⟩ := at_T96 (Kd.C_below Q6.out (below_step HB.out HV.out)) (i : Int) (by omega) (by omega)
      subst hA
      subst hB
      simp only [Int.toNat_natCast] at x0 x1 y0 y1
      generalize rd_T96 n.f3 (i : Int) = y at x0 x1 y0 y1
      go_wp2
      go_region_o
      go_wp2
      go_roundg (n.f3.length - (i + 1))
      case measure => omega
      case rel => exact ⟨i + 1, hlt, Nat.le_refl _, by go_num, Lib.hid (below_drew1 HV.out)⟩
    · obtain ⟨V1, hV1⟩ : ∃ V, V = wr := ⟨_, rfl⟩
      subst hV1
      have EA1 := Lib.hid (blk_below EA.out HV.out)
      have EB1 := Lib.hid (blk_below EB.out HV.out)
      have HB1 := Lib.hid (below_step HB.out HV.out)
      go_wp2
      go_loopg [6] n.f5.length (fun k s6 wr => ∃ j : Nat, j ≤ n.f5.length ∧ n.f5.length - j ≤ k ∧ s6 = .int .i64 j ∧ Hid (Below V1.heap.size V1 wr))
      case atStart => exact ⟨0, Nat.zero_le _, Nat.le_refl _, rfl, Lib.hid (Below.refl _ _)⟩
      case round =>
        obtain ⟨j, hj, hjk, rfl, HV2⟩ := hrel
        have a11 := (blk_cell (blk_below EA1.out HV2.out) 11).trans rfl
        have b11 := (blk_cell (blk_below EB1.out HV2.out) 11).trans rfl
        by_cases hjt : j < n.f5.length
        · obtain ⟨ad, hA, x0⟩ := int_at G11.out (below_step HB1.out HV2.out) j hjt
          obtain ⟨bd, hB, y0⟩ := int_at Q11.out (below_step HB1.out HV2.out) j hjt
          subst hA
          subst hB
          generalize n.f5.getD j 0 = y at x0 y0
          go_wp2
          go_region_o
          go_wp2
          go_roundg (n.f5.length - (j + 1))
          case measure => omega
          case rel => exact ⟨j + 1, hjt, Nat.le_refl _, by go_num, Lib.hid (below_drew1 HV2.out)⟩
        · go_wp2
          go_ret
          exact ⟨rfl, below_step HB1.out HV2.out⟩
end Go.Proofs.YtmndeoncbocplaaDoor.C
