/- Texts that the claim's law stands on, cut down to what it reaches. -/
import Derived.Test.YtmndeoncbocplaaDoorMB
import Derived.Deep.RegionHeldLaw
import Derived.Deep.RegionHeld3
import Derived.Test.YtmndeoncbocplaaDoorMA2
import Derived.Deep.LoopGhost
import Derived.Test.YtmndeoncbocplaaDoorMA
import Derived.Test.YtmndeoncbocplaaDoorMQ
import Derived.Test.YtmndeoncbocplaaDoorMC
set_option linter.unusedVariables false
set_option linter.unusedSimpArgs false
section
set_option linter.unusedVariables false
set_option linter.unusedSimpArgs false
namespace Go.Proofs.YtmndeoncbocplaaDoor.C
open Go.RowKit Go.Proofs.YtmndeoncbocplaaDoor.Q Go.Proofs.YtmndeoncbocplaaDoorW.PrintWords Go.Proofs.YtmndeoncbocplaaDoorW.PrintLast Go.Proofs.YtmndeoncbocplaaDoorW.PrintMore
attribute [local go_sem ↓] rd_at50 wr_at50 al_at50
attribute [local go_sem] rd50_new wr50_new al50
theorem okp_l0x : Okp [[108, 48], [120]] := by
  refine ⟨fun x hx => ?_, by decide +kernel⟩
  rcases List.mem_cons.1 hx with rfl | hx
  · exact L.name_nm (by decide +kernel)
  · rw [List.mem_singleton.1 hx]; exact L.name_nm (by decide +kernel)
theorem okp_l0 : Okp [[108, 48]] := by
  refine ⟨fun x hx => ?_, by decide +kernel⟩
  rw [List.mem_singleton.1 hx]; exact L.name_nm (by decide +kernel)
def labK : S41 := ⟨1, 0, 3, 255⟩
theorem kn1 : (seeR (firstT [labK]) botS [] [[108, 48], [120]]).2 = 15 := by decide +kernel
theorem kn2 : (mayR (firstT [labK]) botS ⟨#[97]⟩ [[108, 48]] 1).2 = 15 := by decide +kernel
theorem kn3 : (seeR (firstT [labK]) botS [] [[108, 48]]).2 = 0 := by decide +kernel
theorem kn4 : (seeR (firstT [labK]) botS [] [[108, 48]]).1.f0 = ⟨#[47, 108, 48]⟩ := by decide +kernel
/-- What is told of a path in a tree. -/
theorem see_t {t : List S50} (T : Tree t) (u : ByteArray) (a : S41) (ns : List (List UInt8)) (hok : Okp ns) (p : ByteArray) (hp : pth ns = p) (n : S50) (k : Int) (hn : (seeR t a [] ns).1 = n) (hk : (seeR t a [] ns).2 = k) (A : Option Addr) (c : Nat) (w : World) (hC : Kd.C k50 w A t.length t) (hc : t.length ≤ c) :
    Calls Tryd.prog 43 #[.slice A t.length c, .agg #[.string u, .int .i64 a.f0, .int .i64 a.f1, .int .i64 a.f2, .int .i64 a.f3], .string p] w fun e w' => ∃ A6 c6 A11 c11, e = .returned (.tuple #[.agg #[.string n.f0, .bool n.f1, .int .i64 n.f2.f0, .int .i64 n.f2.f1, .int .i64 n.f2.f2, .int .i64 n.f2.f3, .slice A6 n.f3.length c6, .int .i64 n.f4.f0, .int .i64 n.f4.f1, .int .i64 n.f4.f2, .int .i64 n.f4.f3, .slice A11 n.f5.length c11, .int .i64 n.f6.f0, .int .i64 n.f6.f1, .int .i64 n.f6.f2, .int .i64 n.f6.f3], .int .i64 k]) ∧ k50.K w' n [.string n.f0, .bool n.f1, .int .i64 n.f2.f0, .int .i64 n.f2.f1, .int .i64 n.f2.f2, .int .i64 n.f2.f3, .slice A6 n.f3.length c6, .int .i64 n.f4.f0, .int .i64 n.f4.f1, .int .i64 n.f4.f2, .int .i64 n.f4.f3, .slice A11 n.f5.length c11, .int .i64 n.f6.f0, .int .i64 n.f6.f1, .int .i64 n.f6.f2, .int .i64 n.f6.f3] ∧ Below w.heap.size w w' := by
  subst hp hn hk
  refine (see_c t u a ns A c w hC hc (tree_srch T) hok.1 hok.2).mono ?_
  rintro e w' ⟨cs, rfl, hF, hB⟩
  have hK := hF w' (fun _ _ _ => rfl)
  obtain ⟨A6, c6, A11, c11, rfl, _⟩ := k50_open hK
  exact ⟨A6, c6, A11, c11, rfl, hK, hB⟩
theorem may_t {t : List S50} (T : Tree t) (u : ByteArray) (a : S41) (ns : List (List UInt8)) (hok : Okp ns) (p : ByteArray) (hp : pth ns = p) (mode : Int) (n : S50) (k : Int) (hn : (mayR t a u ns mode).1 = n) (hk : (mayR t a u ns mode).2 = k) (A : Option Addr) (c : Nat) (w : World) (hC : Kd.C k50 w A t.length t) (hc : t.length ≤ c) :
    Calls Tryd.prog 35 #[.slice A t.length c, .agg #[.string u, .int .i64 a.f0, .int .i64 a.f1, .int .i64 a.f2, .int .i64 a.f3], .string p, .int .i64 mode] w fun e w' => ∃ A6 c6 A11 c11, e = .returned (.tuple #[.agg #[.string n.f0, .bool n.f1, .int .i64 n.f2.f0, .int .i64 n.f2.f1, .int .i64 n.f2.f2, .int .i64 n.f2.f3, .slice A6 n.f3.length c6, .int .i64 n.f4.f0, .int .i64 n.f4.f1, .int .i64 n.f4.f2, .int .i64 n.f4.f3, .slice A11 n.f5.length c11, .int .i64 n.f6.f0, .int .i64 n.f6.f1, .int .i64 n.f6.f2, .int .i64 n.f6.f3], .int .i64 k]) ∧ k50.K w' n [.string n.f0, .bool n.f1, .int .i64 n.f2.f0, .int .i64 n.f2.f1, .int .i64 n.f2.f2, .int .i64 n.f2.f3, .slice A6 n.f3.length c6, .int .i64 n.f4.f0, .int .i64 n.f4.f1, .int .i64 n.f4.f2, .int .i64 n.f4.f3, .slice A11 n.f5.length c11, .int .i64 n.f6.f0, .int .i64 n.f6.f1, .int .i64 n.f6.f2, .int .i64 n.f6.f3] ∧ Below w.heap.size w w' := by
  subst hp hn hk
  refine (may_c t u a ns mode A c w hC hc (tree_srch T) (tree_acls T) hok.1 hok.2).mono ?_
  rintro e w' ⟨cs, rfl, hF, hB⟩
  have hK := hF w' (fun _ _ _ => rfl)
  obtain ⟨A6, c6, A11, c11, rfl, _⟩ := k50_open hK
  exact ⟨A6, c6, A11, c11, rfl, hK, hB⟩
theorem row_one {w : World} : Kd.C k41 (w.alloc (.cells #[.int .i64 1, .int .i64 0, .int .i64 3, .int .i64 255] 41)) (some ⟨w.heap.size, 0, none⟩) 1 [labK] := by
  refine ⟨rfl, by decide, fun _ => ⟨_, rfl, fun j q hj => ?_⟩⟩
  have hj0 : j = 0 := by
    have := (List.getElem?_eq_some_iff.1 hj).1
    simp at this
    exact this
  subst hj0
  have hq : q = labK := by simpa using hj.symm
  subst hq
  refine ⟨_, rfl, k41_mk _ _, fun i u hu => ?_⟩
  have hb := blk_new w (.cells #[.int .i64 1, .int .i64 0, .int .i64 3, .int .i64 255] 41)
  rcases i with _ | _ | _ | _ | i
  · have hu' : Value.int .i64 1 = u := by simpa [labK] using hu
    rw [← hu']; exact (blk_cell hb 0).trans rfl
  · have hu' : Value.int .i64 0 = u := by simpa [labK] using hu
    rw [← hu']; exact (blk_cell hb 1).trans rfl
  · have hu' : Value.int .i64 3 = u := by simpa [labK] using hu
    rw [← hu']; exact (blk_cell hb 2).trans rfl
  · have hu' : Value.int .i64 255 = u := by simpa [labK] using hu
    rw [← hu']; exact (blk_cell hb 3).trans rfl
  · simp at hu
theorem lab_K : Lab labK := by unfold Lab labK; decide
theorem C50_of' {w W : World} {A : Option Addr} {xs : List S50} (h : ReadsRow (k50.K w) 16 W A xs.length xs) (hb : Below w.heap.size w W) : Kd.C k50 W A xs.length xs :=
  ReadsRow.imp_ h (Below.refl _ _) (fun _ _ h => k50.K_below hb h)
set_option maxHeartbeats 8000000 in
set_option maxRecDepth 100000 in
theorem known13_c (w : World) : Calls Tryd.prog 31 #[] w fun e w' => e = .returned (.bool true) ∧ Below w.heap.size w w' := by
  have HT := Lib.hid (tree_first [labK] (by decide) (fun a ha => by rw [List.mem_singleton.1 ha]; exact lab_K))
  have H1 := Lib.hid kn1
  have H2 := Lib.hid kn2
  have H3 := Lib.hid kn3
  have H4 := Lib.hid kn4
  have HB0 := Lib.hid (below_alloc (Below.refl w.heap.size w) (.cells #[.int .i64 1, .int .i64 0, .int .i64 3, .int .i64 255] 41))
  have HF := Lib.hid (first_c [labK] (some ⟨w.heap.size, 0, none⟩) 1 (.slice none 0 0) (.slice none 0 0) _ (row_one (w := w)) (by decide) (by decide))
  obtain ⟨t, ht⟩ : ∃ t, firstT [labK] = t := ⟨_, rfl⟩
  have Ht := Lib.hid ht
  rw [ht] at HT H1 H2 H3 H4
  clear ht
  obtain ⟨n1, hn1⟩ : ∃ n, (seeR t botS [] [[108, 48], [120]]).1 = n := ⟨_, rfl⟩
  obtain ⟨n2, hn2⟩ : ∃ n, (mayR t botS ⟨#[97]⟩ [[108, 48]] 1).1 = n := ⟨_, rfl⟩
  obtain ⟨n3, hn3⟩ : ∃ n, (seeR t botS [] [[108, 48]]).1 = n := ⟨_, rfl⟩
  have hn4 : n3.f0 = ⟨#[47, 108, 48]⟩ := by rw [← hn3]; exact H4.out
  have Hn1 := Lib.hid hn1
  have Hn2 := Lib.hid hn2
  have Hn3 := Lib.hid hn3
  clear hn1 hn2 hn3 H4
  have htl : (⟨#[47, 108, 48]⟩ : ByteArray).toList = [47, 108, 48] := by rw [Lib.toList_data]
  go_enter Tryd.func31, Tryd.ntmps31
  go_wp2_with (first | (go_at_call 43; have hg := HBw4.out; clear hg; refine (see_t HT.out ⟨#[97]⟩ botS [[108, 48]] okp_l0 ⟨#[47, 108, 48]⟩ rfl n3 0 Hn3.out H3.out A1 c1 _ HCw4.out Hc1.out).mono ?_; rintro e w5 ⟨Z6, Zc6, Z11, Zc11, rfl, hK, hb⟩; have HBw5 := Lib.hid (below_alloc (below_step HBw4.out hb) (.cells #[.string n3.f0, .bool n3.f1, .int .i64 n3.f2.f0, .int .i64 n3.f2.f1, .int .i64 n3.f2.f2, .int .i64 n3.f2.f3, .slice Z6 n3.f3.length Zc6, .int .i64 n3.f4.f0, .int .i64 n3.f4.f1, .int .i64 n3.f4.f2, .int .i64 n3.f4.f3, .slice Z11 n3.f5.length Zc11, .int .i64 n3.f6.f0, .int .i64 n3.f6.f1, .int .i64 n3.f6.f2, .int .i64 n3.f6.f3] 50)); have HCw5 := Lib.hid (Kd.C_below HCw4.out (below_alloc hb (.cells #[.string n3.f0, .bool n3.f1, .int .i64 n3.f2.f0, .int .i64 n3.f2.f1, .int .i64 n3.f2.f2, .int .i64 n3.f2.f3, .slice Z6 n3.f3.length Zc6, .int .i64 n3.f4.f0, .int .i64 n3.f4.f1, .int .i64 n3.f4.f2, .int .i64 n3.f4.f3, .slice Z11 n3.f5.length Zc11, .int .i64 n3.f6.f0, .int .i64 n3.f6.f1, .int .i64 n3.f6.f2, .int .i64 n3.f6.f3] 50))); have ESw5 := Lib.hid (blk_alloc (blk_below ESw4.out hb) (.cells #[.string n3.f0, .bool n3.f1, .int .i64 n3.f2.f0, .int .i64 n3.f2.f1, .int .i64 n3.f2.f2, .int .i64 n3.f2.f3, .slice Z6 n3.f3.length Zc6, .int .i64 n3.f4.f0, .int .i64 n3.f4.f1, .int .i64 n3.f4.f2, .int .i64 n3.f4.f3, .slice Z11 n3.f5.length Zc11, .int .i64 n3.f6.f0, .int .i64 n3.f6.f1, .int .i64 n3.f6.f2, .int .i64 n3.f6.f3] 50)); have sw50 := (blk_cell ESw5.out 0).trans rfl; have sw51 := (blk_cell ESw5.out 1).trans rfl; have sw52 := (blk_cell ESw5.out 2).trans rfl; have sw53 := (blk_cell ESw5.out 3).trans rfl; have sw54 := (blk_cell ESw5.out 4).trans rfl; have nfw5 := (blk_cell (blk_new w5 (.cells #[.string n3.f0, .bool n3.f1, .int .i64 n3.f2.f0, .int .i64 n3.f2.f1, .int .i64 n3.f2.f2, .int .i64 n3.f2.f3, .slice Z6 n3.f3.length Zc6, .int .i64 n3.f4.f0, .int .i64 n3.f4.f1, .int .i64 n3.f4.f2, .int .i64 n3.f4.f3, .slice Z11 n3.f5.length Zc11, .int .i64 n3.f6.f0, .int .i64 n3.f6.f1, .int .i64 n3.f6.f2, .int .i64 n3.f6.f3] 50)) 0).trans rfl; clear hK hb) | (go_at_call 35; refine (may_t HT.out ⟨#[97]⟩ botS [[108, 48]] okp_l0 ⟨#[47, 108, 48]⟩ rfl 1 n2 15 Hn2.out H2.out A1 c1 _ HCw3.out Hc1.out).mono ?_; rintro e w4 ⟨Y6, Yc6, Y11, Yc11, rfl, hK, hb⟩; have HBw4 := Lib.hid (below_alloc (below_step HBw3.out hb) (.cells #[.string n2.f0, .bool n2.f1, .int .i64 n2.f2.f0, .int .i64 n2.f2.f1, .int .i64 n2.f2.f2, .int .i64 n2.f2.f3, .slice Y6 n2.f3.length Yc6, .int .i64 n2.f4.f0, .int .i64 n2.f4.f1, .int .i64 n2.f4.f2, .int .i64 n2.f4.f3, .slice Y11 n2.f5.length Yc11, .int .i64 n2.f6.f0, .int .i64 n2.f6.f1, .int .i64 n2.f6.f2, .int .i64 n2.f6.f3] 50)); have HCw4 := Lib.hid (Kd.C_below HCw3.out (below_alloc hb (.cells #[.string n2.f0, .bool n2.f1, .int .i64 n2.f2.f0, .int .i64 n2.f2.f1, .int .i64 n2.f2.f2, .int .i64 n2.f2.f3, .slice Y6 n2.f3.length Yc6, .int .i64 n2.f4.f0, .int .i64 n2.f4.f1, .int .i64 n2.f4.f2, .int .i64 n2.f4.f3, .slice Y11 n2.f5.length Yc11, .int .i64 n2.f6.f0, .int .i64 n2.f6.f1, .int .i64 n2.f6.f2, .int .i64 n2.f6.f3] 50))); have ESw4 := Lib.hid (blk_alloc (blk_below ESw3.out hb) (.cells #[.string n2.f0, .bool n2.f1, .int .i64 n2.f2.f0, .int .i64 n2.f2.f1, .int .i64 n2.f2.f2, .int .i64 n2.f2.f3, .slice Y6 n2.f3.length Yc6, .int .i64 n2.f4.f0, .int .i64 n2.f4.f1, .int .i64 n2.f4.f2, .int .i64 n2.f4.f3, .slice Y11 n2.f5.length Yc11, .int .i64 n2.f6.f0, .int .i64 n2.f6.f1, .int .i64 n2.f6.f2, .int .i64 n2.f6.f3] 50)); have sw40 := (blk_cell ESw4.out 0).trans rfl; have sw41 := (blk_cell ESw4.out 1).trans rfl; have sw42 := (blk_cell ESw4.out 2).trans rfl; have sw43 := (blk_cell ESw4.out 3).trans rfl; have sw44 := (blk_cell ESw4.out 4).trans rfl; have nfw4 := (blk_cell (blk_new w4 (.cells #[.string n2.f0, .bool n2.f1, .int .i64 n2.f2.f0, .int .i64 n2.f2.f1, .int .i64 n2.f2.f2, .int .i64 n2.f2.f3, .slice Y6 n2.f3.length Yc6, .int .i64 n2.f4.f0, .int .i64 n2.f4.f1, .int .i64 n2.f4.f2, .int .i64 n2.f4.f3, .slice Y11 n2.f5.length Yc11, .int .i64 n2.f6.f0, .int .i64 n2.f6.f1, .int .i64 n2.f6.f2, .int .i64 n2.f6.f3] 50)) 0).trans rfl; clear hK hb) | (go_at_call 43; refine (see_t HT.out ⟨#[97]⟩ botS [[108, 48], [120]] okp_l0x ⟨#[47, 108, 48, 47, 120]⟩ rfl n1 15 Hn1.out H1.out A1 c1 _ HC2.out Hc1.out).mono ?_; rintro e w3 ⟨X6, Xc6, X11, Xc11, rfl, hK, hb⟩; have HBw3 := Lib.hid (below_alloc (below_step HB2.out hb) (.cells #[.string n1.f0, .bool n1.f1, .int .i64 n1.f2.f0, .int .i64 n1.f2.f1, .int .i64 n1.f2.f2, .int .i64 n1.f2.f3, .slice X6 n1.f3.length Xc6, .int .i64 n1.f4.f0, .int .i64 n1.f4.f1, .int .i64 n1.f4.f2, .int .i64 n1.f4.f3, .slice X11 n1.f5.length Xc11, .int .i64 n1.f6.f0, .int .i64 n1.f6.f1, .int .i64 n1.f6.f2, .int .i64 n1.f6.f3] 50)); have HCw3 := Lib.hid (Kd.C_below HC2.out (below_alloc hb (.cells #[.string n1.f0, .bool n1.f1, .int .i64 n1.f2.f0, .int .i64 n1.f2.f1, .int .i64 n1.f2.f2, .int .i64 n1.f2.f3, .slice X6 n1.f3.length Xc6, .int .i64 n1.f4.f0, .int .i64 n1.f4.f1, .int .i64 n1.f4.f2, .int .i64 n1.f4.f3, .slice X11 n1.f5.length Xc11, .int .i64 n1.f6.f0, .int .i64 n1.f6.f1, .int .i64 n1.f6.f2, .int .i64 n1.f6.f3] 50))); have ESw3 := Lib.hid (blk_alloc (blk_below ES2.out hb) (.cells #[.string n1.f0, .bool n1.f1, .int .i64 n1.f2.f0, .int .i64 n1.f2.f1, .int .i64 n1.f2.f2, .int .i64 n1.f2.f3, .slice X6 n1.f3.length Xc6, .int .i64 n1.f4.f0, .int .i64 n1.f4.f1, .int .i64 n1.f4.f2, .int .i64 n1.f4.f3, .slice X11 n1.f5.length Xc11, .int .i64 n1.f6.f0, .int .i64 n1.f6.f1, .int .i64 n1.f6.f2, .int .i64 n1.f6.f3] 50)); have sw30 := (blk_cell ESw3.out 0).trans rfl; have sw31 := (blk_cell ESw3.out 1).trans rfl; have sw32 := (blk_cell ESw3.out 2).trans rfl; have sw33 := (blk_cell ESw3.out 3).trans rfl; have sw34 := (blk_cell ESw3.out 4).trans rfl; have nfw3 := (blk_cell (blk_new w3 (.cells #[.string n1.f0, .bool n1.f1, .int .i64 n1.f2.f0, .int .i64 n1.f2.f1, .int .i64 n1.f2.f2, .int .i64 n1.f2.f3, .slice X6 n1.f3.length Xc6, .int .i64 n1.f4.f0, .int .i64 n1.f4.f1, .int .i64 n1.f4.f2, .int .i64 n1.f4.f3, .slice X11 n1.f5.length Xc11, .int .i64 n1.f6.f0, .int .i64 n1.f6.f1, .int .i64 n1.f6.f2, .int .i64 n1.f6.f3] 50)) 0).trans rfl; clear hK hb) | (go_at_call 66; refine (donjonref4_Bottom.calls 0 0 3 255 _ rfl).mono ?_; rintro e w2 ⟨rfl, hb⟩; have HB2 := Lib.hid (below_alloc (below_step HB1.out hb) (.cells #[.string (⟨#[97]⟩ : ByteArray), .int .i64 0, .int .i64 0, .int .i64 3, .int .i64 255] 55)); have HC2 := Lib.hid (Kd.C_below HC1.out (below_alloc hb (.cells #[.string (⟨#[97]⟩ : ByteArray), .int .i64 0, .int .i64 0, .int .i64 3, .int .i64 255] 55))); have ES2 := Lib.hid (blk_new w2 (.cells #[.string (⟨#[97]⟩ : ByteArray), .int .i64 0, .int .i64 0, .int .i64 3, .int .i64 255] 55)); clear hb) | (go_at_call 65; refine HF.out.mono ?_; rintro e w1 ⟨v, rfl, ls, ⟨_, hls⟩, _, wx, hb1, hb2, hO⟩; obtain rfl := hls rfl; rw [Ht.out] at hO; obtain ⟨A1, c1, rfl, hc1, hR1⟩ := OwnRow.reads hO; have HC1 := Lib.hid (C50_of' hR1 hb2); have HB1 := Lib.hid (below_step HB0.out (below_step hb1 hb2)); have Hc1 := Lib.hid hc1; clear hb1 hb2 hO hR1 hls))
  go_ret
  exact ⟨rfl, by have h := HBw5.out; rw [hn4] at h; exact h⟩
end Go.Proofs.YtmndeoncbocplaaDoor.C
namespace Go.Proofs.YtmndeoncbocplaaDoor.C
open Go.RowKit Go.Proofs.YtmndeoncbocplaaDoor.Q Go.Proofs.YtmndeoncbocplaaDoorW.PrintWords Go.Proofs.YtmndeoncbocplaaDoorW.PrintLast Go.Proofs.YtmndeoncbocplaaDoorW.PrintMore
theorem wi13_c (a n : Int) (w : World) (h0 : 0 < n) (hn : n ≤ 4611686018427387904) : Calls Tryd.prog 34 #[.int .i64 a, .int .i64 n] w fun e w' => ∃ t : Nat, (t : Int) < n ∧ e = .returned (.int .i64 (t : Int)) ∧ Below w.heap.size w w' := by
  obtain ⟨t, ht, h1, h2⟩ := P.within_f a n h0 hn
  obtain ⟨k, rfl⟩ := Int.eq_ofNat_of_zero_le h1
  exact (donjonlaw13_within.calls a n k w ht).mono fun _ _ ⟨he, hd⟩ => ⟨k, h2, he, hd.below⟩
/-- Whose name a number gives: a to e. -/
def IsWho (u : ByteArray) : Prop := ∃ k : Nat, k < 5 ∧ u = ⟨#[UInt8.ofNat (97 + k)]⟩
theorem who_f (a : Int) : ∃ u, IsWho u ∧ donjonlaw13_Who.f a = some u := by
  obtain ⟨t, ht, h1, h2⟩ := P.within_f a 5 (by omega) (by omega)
  obtain ⟨k, rfl⟩ := Int.eq_ofNat_of_zero_le h1
  have e : donjonlaw13_within.f a 5 = some (k : Int) := ht
  refine ⟨⟨#[UInt8.ofNat (97 + k)]⟩, ⟨k, by omega, rfl⟩, ?_⟩
  unfold donjonlaw13_Who.f
  rw [e]
  have hw : (wrap64 (97 + (k : Int)) % 256).toNat = 97 + k := by unfold wrap64; omega
  simp [strOfNums, hw]
end Go.Proofs.YtmndeoncbocplaaDoor.C
namespace Go.Proofs.YtmndeoncbocplaaDoor.C
open Go.RowKit Go.Proofs.YtmndeoncbocplaaDoor.Q Go.Proofs.YtmndeoncbocplaaDoorW.PrintWords Go.Proofs.YtmndeoncbocplaaDoorW.PrintLast Go.Proofs.YtmndeoncbocplaaDoorW.PrintMore
attribute [local go_sem ↓] rd_at50 wr_at50 al_at50
attribute [local go_sem] rd50_new wr50_new al50
attribute [local go_sem high] eqA41 eqA47 eqA96
/-- A number out of a row. -/
theorem int_at {w W : World} {A : Option Addr} {xs : List Int} (hC : Kd.C (Kd.int .i64) w A xs.length xs) (hb : Below w.heap.size w W) (i : Nat) (hi : i < xs.length) : ∃ ad, A = some ad ∧ W.cell? (ad.add i) = some (.int .i64 (xs.getD i 0)) := by
  obtain ⟨ad, cs, e, _, hK, hc⟩ := ReadsRow.get_ (Kd.C_below hC hb) (0 : Int) (i : Int) (by omega) (by omega)
  have hcs : cs = [.int .i64 (xs.getD (i : Int).toNat 0)] := hK
  subst hcs
  have h := hc 0 _ rfl
  rw [Int.toNat_natCast, Nat.add_zero, show i * (Kd.int .i64).sz = i from Nat.mul_one i] at h
  exact ⟨ad, e, h⟩
set_option maxHeartbeats 8000000 in
set_option maxRecDepth 100000 in
theorem same_t (n : S50) (cs ds : List Value) (w : World) (h1 : k50.K w n cs) (h2 : k50.K w n ds) : Calls Tryd.prog 42 #[.agg cs.toArray, .agg ds.toArray] w fun e w' => e = .returned (.bool true) ∧ Below w.heap.size w w' := by
  obtain ⟨A6, c6, A11, c11, rfl, l6, g6, l11, g11⟩ := k50_open h1
  obtain ⟨B6, d6, B11, d11, rfl, m6, q6, m11, q11⟩ := k50_open h2
  clear h1 h2
  have hz3 : n.f3.length ≤ 9223372036854775807 := g6.2.1
  have hz5 : n.f5.length ≤ 9223372036854775807 := g11.2.1
  have G6 := Lib.hid g6
  have G11 := Lib.hid g11
  have Q6 := Lib.hid q6
  have Q11 := Lib.hid q11
  clear g6 g11 q6 q11
  have EA := Lib.hid (blk_alloc (blk_new w (.cells #[.string n.f0, .bool n.f1, .int .i64 n.f2.f0, .int .i64 n.f2.f1, .int .i64 n.f2.f2, .int .i64 n.f2.f3, .slice A6 n.f3.length c6, .int .i64 n.f4.f0, .int .i64 n.f4.f1, .int .i64 n.f4.f2, .int .i64 n.f4.f3, .slice A11 n.f5.length c11, .int .i64 n.f6.f0, .int .i64 n.f6.f1, .int .i64 n.f6.f2, .int .i64 n.f6.f3] 50)) (.cells #[.string n.f0, .bool n.f1, .int .i64 n.f2.f0, .int .i64 n.f2.f1, .int .i64 n.f2.f2, .int .i64 n.f2.f3, .slice B6 n.f3.length d6, .int .i64 n.f4.f0, .int .i64 n.f4.f1, .int .i64 n.f4.f2, .int .i64 n.f4.f3, .slice B11 n.f5.length d11, .int .i64 n.f6.f0, .int .i64 n.f6.f1, .int .i64 n.f6.f2, .int .i64 n.f6.f3] 50))
  have EB := Lib.hid (show ((w.alloc (.cells #[.string n.f0, .bool n.f1, .int .i64 n.f2.f0, .int .i64 n.f2.f1, .int .i64 n.f2.f2, .int .i64 n.f2.f3, .slice A6 n.f3.length c6, .int .i64 n.f4.f0, .int .i64 n.f4.f1, .int .i64 n.f4.f2, .int .i64 n.f4.f3, .slice A11 n.f5.length c11, .int .i64 n.f6.f0, .int .i64 n.f6.f1, .int .i64 n.f6.f2, .int .i64 n.f6.f3] 50)).alloc (.cells #[.string n.f0, .bool n.f1, .int .i64 n.f2.f0, .int .i64 n.f2.f1, .int .i64 n.f2.f2, .int .i64 n.f2.f3, .slice B6 n.f3.length d6, .int .i64 n.f4.f0, .int .i64 n.f4.f1, .int .i64 n.f4.f2, .int .i64 n.f4.f3, .slice B11 n.f5.length d11, .int .i64 n.f6.f0, .int .i64 n.f6.f1, .int .i64 n.f6.f2, .int .i64 n.f6.f3] 50)).heap[w.heap.size + 1]? = some (.cells #[.string n.f0, .bool n.f1, .int .i64 n.f2.f0, .int .i64 n.f2.f1, .int .i64 n.f2.f2, .int .i64 n.f2.f3, .slice B6 n.f3.length d6, .int .i64 n.f4.f0, .int .i64 n.f4.f1, .int .i64 n.f4.f2, .int .i64 n.f4.f3, .slice B11 n.f5.length d11, .int .i64 n.f6.f0, .int .i64 n.f6.f1, .int .i64 n.f6.f2, .int .i64 n.f6.f3] 50) by have := blk_new (w.alloc (.cells #[.string n.f0, .bool n.f1, .int .i64 n.f2.f0, .int .i64 n.f2.f1, .int .i64 n.f2.f2, .int .i64 n.f2.f3, .slice A6 n.f3.length c6, .int .i64 n.f4.f0, .int .i64 n.f4.f1, .int .i64 n.f4.f2, .int .i64 n.f4.f3, .slice A11 n.f5.length c11, .int .i64 n.f6.f0, .int .i64 n.f6.f1, .int .i64 n.f6.f2, .int .i64 n.f6.f3] 50)) (.cells #[.string n.f0, .bool n.f1, .int .i64 n.f2.f0, .int .i64 n.f2.f1, .int .i64 n.f2.f2, .int .i64 n.f2.f3, .slice B6 n.f3.length d6, .int .i64 n.f4.f0, .int .i64 n.f4.f1, .int .i64 n.f4.f2, .int .i64 n.f4.f3, .slice B11 n.f5.length d11, .int .i64 n.f6.f0, .int .i64 n.f6.f1, .int .i64 n.f6.f2, .int .i64 n.f6.f3] 50); rwa [World.size_alloc] at this)
  have HB := Lib.hid (below_alloc (below_alloc (Below.refl w.heap.size w) (.cells #[.string n.f0, .bool n.f1, .int .i64 n.f2.f0, .int .i64 n.f2.f1, .int .i64 n.f2.f2, .int .i64 n.f2.f3, .slice A6 n.f3.length c6, .int .i64 n.f4.f0, .int .i64 n.f4.f1, .int .i64 n.f4.f2, .int .i64 n.f4.f3, .slice A11 n.f5.length c11, .int .i64 n.f6.f0, .int .i64 n.f6.f1, .int .i64 n.f6.f2, .int .i64 n.f6.f3] 50)) (.cells #[.string n.f0, .bool n.f1, .int .i64 n.f2.f0, .int .i64 n.f2.f1, .int .i64 n.f2.f2, .int .i64 n.f2.f3, .slice B6 n.f3.length d6, .int .i64 n.f4.f0, .int .i64 n.f4.f1, .int .i64 n.f4.f2, .int .i64 n.f4.f3, .slice B11 n.f5.length d11, .int .i64 n.f6.f0, .int .i64 n.f6.f1, .int .i64 n.f6.f2, .int .i64 n.f6.f3] 50))
  have mixed : Tryd.prog.follows .mixedOrders = true := by kernel_rfl
  go_enter Tryd.func42, Tryd.ntmps42
  go_wp2
  generalize (w.alloc (.cells #[.string n.f0, .bool n.f1, .int .i64 n.f2.f0, .int .i64 n.f2.f1, .int .i64 n.f2.f2, .int .i64 n.f2.f3, .slice A6 n.f3.length c6, .int .i64 n.f4.f0, .int .i64 n.f4.f1, .int .i64 n.f4.f2, .int .i64 n.f4.f3, .slice A11 n.f5.length c11, .int .i64 n.f6.f0, .int .i64 n.f6.f1, .int .i64 n.f6.f2, .int .i64 n.f6.f3] 50)).alloc (.cells #[.string n.f0, .bool n.f1, .int .i64 n.f2.f0, .int .i64 n.f2.f1, .int .i64 n.f2.f2, .int .i64 n.f2.f3, .slice B6 n.f3.length d6, .int .i64 n.f4.f0, .int .i64 n.f4.f1, .int .i64 n.f4.f2, .int .i64 n.f4.f3, .slice B11 n.f5.length d11, .int .i64 n.f6.f0, .int .i64 n.f6.f1, .int .i64 n.f6.f2, .int .i64 n.f6.f3] 50) = V at EA EB HB ⊢
  go_loopg [5] n.f3.length (fun k s5 wr => ∃ i : Nat, i ≤ n.f3.length ∧ n.f3.length - i ≤ k ∧ s5 = .int .i64 i ∧ Hid (Below V.heap.size V wr))
  case atStart => exact ⟨0, Nat.zero_le _, Nat.le_refl _, rfl, Lib.hid (Below.refl _ _)⟩
  case round =>
    obtain ⟨i, hi, hik, rfl, HV⟩ := hrel
    have a6 := (blk_cell (blk_below EA.out HV.out) 6).trans rfl
    have b6 := (blk_cell (blk_below EB.out HV.out) 6).trans rfl
    by_cases hlt : i < n.f3.length
    · obtain ⟨ad, hA, x0, x1⟩ := at_T96 (Kd.C_below G6.out (below_step HB.out HV.out)) (i : Int) (by omega) (by omega)
      obtain ⟨bd, hB, y0, y1⟩ := at_T96 (Kd.C_below Q6.out (below_step HB.out HV.out)) (i : Int) (by omega) (by omega)
      subst hA
      subst hB
      simp only [Int.toNat_natCast] at x0 x1 y0 y1
      generalize rd_T96 n.f3 (i : Int) = y at x0 x1 y0 y1
      go_wp2
      go_region_o
      go_wp2
      go_roundg (n.f3.length - (i + 1))
      case measure => omega
      case rel => exact ⟨i + 1, hlt, Nat.le_refl _, by go_num, Lib.hid (below_drew1 HV.out)⟩
    · obtain ⟨V1, hV1⟩ : ∃ V, V = wr := ⟨_, rfl⟩
      subst hV1
      have EA1 := Lib.hid (blk_below EA.out HV.out)
      have EB1 := Lib.hid (blk_below EB.out HV.out)
      have HB1 := Lib.hid (below_step HB.out HV.out)
      go_wp2
      go_loopg [6] n.f5.length (fun k s6 wr => ∃ j : Nat, j ≤ n.f5.length ∧ n.f5.length - j ≤ k ∧ s6 = .int .i64 j ∧ Hid (Below V1.heap.size V1 wr))
      case atStart => exact ⟨0, Nat.zero_le _, Nat.le_refl _, rfl, Lib.hid (Below.refl _ _)⟩
      case round =>
        obtain ⟨j, hj, hjk, rfl, HV2⟩ := hrel
        have a11 := (blk_cell (blk_below EA1.out HV2.out) 11).trans rfl
        have b11 := (blk_cell (blk_below EB1.out HV2.out) 11).trans rfl
        by_cases hjt : j < n.f5.length
        · obtain ⟨ad, hA, x0⟩ := int_at G11.out (below_step HB1.out HV2.out) j hjt
          obtain ⟨bd, hB, y0⟩ := int_at Q11.out (below_step HB1.out HV2.out) j hjt
          subst hA
          subst hB
          generalize n.f5.getD j 0 = y at x0 y0
          go_wp2
          go_region_o
          go_wp2
          go_roundg (n.f5.length - (j + 1))
          case measure => omega
          case rel => exact ⟨j + 1, hjt, Nat.le_refl _, by go_num, Lib.hid (below_drew1 HV2.out)⟩
        · go_wp2
          go_ret
          exact ⟨rfl, below_step HB1.out HV2.out⟩
end Go.Proofs.YtmndeoncbocplaaDoor.C
end
section
set_option linter.unusedVariables false
set_option linter.unusedSimpArgs false
namespace Go.Proofs.YtmndeoncbocplaaDoor.C
open Go.RowKit Go.Proofs.YtmndeoncbocplaaDoor.Q Go.Proofs.YtmndeoncbocplaaDoorW.PrintWords Go.Proofs.YtmndeoncbocplaaDoorW.PrintLast Go.Proofs.YtmndeoncbocplaaDoorW.PrintMore
theorem add_block (a : Addr) (n : Nat) : (a.add n).block = a.block := by unfold Addr.add; split <;> rfl
theorem add_off (a : Addr) (n : Nat) : (a.add n).off = a.off + n := by
  unfold Addr.add
  split
  · rename_i h; subst h; rfl
  · rfl
/-- What a block of numbers may hold. -/
def Nums (w : World) (g : Nat) (q : Nat → Int) : Prop := w.heap[g]? = some (.cells #[.int .i64 (q 0), .int .i64 (q 1), .int .i64 (q 2), .int .i64 (q 3)] 41 (0, 0))
theorem nums_cell {w : World} {g : Nat} {q : Nat → Int} (h : Nums w g q) {a : Addr} (ha : a.block = g) {v : Value} (hv : w.cell? a = some v) : a.spot = none ∧ a.off < 4 ∧ v = .int .i64 (q a.off) := by
  unfold Nums at h
  subst ha
  unfold World.cell? at hv
  rw [h] at hv
  simp only at hv
  split at hv
  · cases hv
  · rename_i hs
    have hs' : a.spot = none := by cases hsp : a.spot with
      | none => rfl
      | some x => rw [hsp] at hs; simp at hs
    refine ⟨hs', ?_⟩
    generalize a.off = o at hv ⊢
    rcases o with _ | _ | _ | _ | o
    · exact ⟨by omega, by simpa using hv.symm⟩
    · exact ⟨by omega, by simpa using hv.symm⟩
    · exact ⟨by omega, by simpa using hv.symm⟩
    · exact ⟨by omega, by simpa using hv.symm⟩
    · simp at hv
theorem nums_put {w : World} {g : Nat} {q r : Nat → Int} (h : Nums w g q) : Nums (w.setRow g #[.int .i64 (r 0), .int .i64 (r 1), .int .i64 (r 2), .int .i64 (r 3)]) g r := setRow_heap _ _ _ _ _ _ h
theorem nums_read {w : World} {g : Nat} {q : Nat → Int} (h : Nums w g q) {a : Addr} (ha : a.block = g) (hs : a.spot = none) (ho : a.off < 4) : w.cell? a = some (.int .i64 (q a.off)) := by
  unfold Nums at h
  subst ha
  unfold World.cell?
  rw [h]
  simp only [hs, Option.isSome_none, Bool.false_eq_true, if_false]
  generalize a.off = o at ho ⊢
  rcases o with _ | _ | _ | _ | o
  · rfl
  · rfl
  · rfl
  · rfl
  · omega
/-- Numbers read anew. -/
theorem ints_turn {w : World} {g : Nat} {q r : Nat → Int} (h : Nums w g q) {A : Option Addr} {xs : List Int} (hC : Kd.C (Kd.int .i64) w A xs.length xs) :
    ∃ ys : List Int, ys.length = xs.length ∧ Kd.C (Kd.int .i64) (w.setRow g #[.int .i64 (r 0), .int .i64 (r 1), .int .i64 (r 2), .int .i64 (r 3)]) A ys.length ys := by
  have hp := nums_put (r := r) h
  generalize hW : w.setRow g #[.int .i64 (r 0), .int .i64 (r 1), .int .i64 (r 2), .int .i64 (r 3)] = W at hp
  obtain ⟨_, hm, hr⟩ := hC
  by_cases hx : 0 < xs.length
  · obtain ⟨ad, hA, hc⟩ := hr hx
    have key : ∀ j, j < xs.length → w.cell? (ad.add (j * 1 + 0)) = some (.int .i64 (xs.getD j 0)) := fun j hj => by
      obtain ⟨c, h1, h2, h3⟩ := hc j _ (List.getElem?_eq_getElem hj)
      have h2' : c = [.int .i64 (xs[j]'hj)] := h2
      subst h2'
      rw [List.getD_eq_getElem?_getD, List.getElem?_eq_getElem hj]
      exact h3 0 _ rfl
    by_cases hb : ad.block = g
    · refine ⟨(List.range xs.length).map fun j => r (ad.off + j), by simp, by simp, by simpa using hm, fun _ => ⟨ad, hA, fun j p hjp => ?_⟩⟩
      have hj : j < xs.length := by
        have := (List.getElem?_eq_some_iff.1 hjp).1
        simpa using this
      have hpv : p = r (ad.off + j) := by
        rw [List.getElem?_map, List.getElem?_range hj] at hjp
        simpa using hjp.symm
      subst hpv
      refine ⟨[.int .i64 (r (ad.off + j))], rfl, rfl, fun i u hi => ?_⟩
      rcases i with _ | i
      · have hu : u = .int .i64 (r (ad.off + j)) := by simpa using hi.symm
        subst hu
        obtain ⟨k1, k2, _⟩ := nums_cell h (by rw [add_block]; exact hb) (key j hj)
        have := nums_read hp (a := ad.add (j * 1 + 0)) (by rw [add_block]; exact hb) k1 k2
        rw [add_off] at this
        show W.cell? (ad.add (j * 1 + 0)) = _
        rw [show j * 1 + 0 = j by omega] at this ⊢
        exact this
      · simp at hi
    · refine ⟨xs, rfl, rfl, hm, fun _ => ⟨ad, hA, fun j p hjp => ?_⟩⟩
      obtain ⟨c, h1, h2, h3⟩ := hc j p hjp
      refine ⟨c, h1, h2, fun i u hi => ?_⟩
      rw [← hW, cell_setRow_other _ _ _ _ (by rw [add_block]; exact hb)]
      exact h3 i u hi
  · exact ⟨xs, rfl, rfl, hm, fun h => absurd h hx⟩
/-- Grants stay: each begins with a text. -/
theorem grants_turn {w : World} {g : Nat} {q r : Nat → Int} (h : Nums w g q) {A : Option Addr} {xs : List S96} (hC : Kd.C k96 w A xs.length xs) : Kd.C k96 (w.setRow g #[.int .i64 (r 0), .int .i64 (r 1), .int .i64 (r 2), .int .i64 (r 3)]) A xs.length xs := by
  obtain ⟨_, hm, hr⟩ := hC
  refine ⟨rfl, hm, fun hx => ?_⟩
  obtain ⟨ad, hA, hc⟩ := hr hx
  refine ⟨ad, hA, fun j p hjp => ?_⟩
  obtain ⟨c, h1, h2, h3⟩ := hc j p hjp
  have h2' := k96_open h2
  refine ⟨c, h1, by rw [h2']; exact k96_mk _ p, fun i u hi => ?_⟩
  have h0 := h3 0 (.string p.f0) (by rw [h2']; rfl)
  have hb : ad.block ≠ g := fun e => by
    obtain ⟨_, _, k⟩ := nums_cell h (by rw [add_block]; exact e) h0
    cases k
  rw [cell_setRow_other _ _ _ _ (by rw [add_block]; exact hb)]
  exact h3 i u hi
/-- Two nodes that differ in words alone, as many. -/
def Like (n m : S50) : Prop := m.f0 = n.f0 ∧ m.f1 = n.f1 ∧ m.f2 = n.f2 ∧ m.f3 = n.f3 ∧ m.f4 = n.f4 ∧ m.f6 = n.f6 ∧ m.f5.length = n.f5.length
theorem node_turn {w : World} {g : Nat} {q r : Nat → Int} (h : Nums w g q) {n : S50} {cs : List Value} (hK : k50.K w n cs) : ∃ m, Like n m ∧ k50.K (w.setRow g #[.int .i64 (r 0), .int .i64 (r 1), .int .i64 (r 2), .int .i64 (r 3)]) m cs := by
  obtain ⟨A6, c6, A11, c11, rfl, l6, g6, l11, g11⟩ := k50_open hK
  obtain ⟨ys, hl, hy⟩ := ints_turn (r := r) h g11
  obtain ⟨n0, n1, n2, n3, n4, n5, n6⟩ := n
  refine ⟨⟨n0, n1, n2, n3, n4, ys, n6⟩, ⟨rfl, rfl, rfl, rfl, rfl, rfl, hl⟩, ?_⟩
  have hk := k50_mk (w.setRow g #[.int .i64 (r 0), .int .i64 (r 1), .int .i64 (r 2), .int .i64 (r 3)]) ⟨n0, n1, n2, n3, n4, ys, n6⟩ l6 (grants_turn h g6) (c11 := c11) (by show ys.length ≤ c11; have a : n5.length ≤ c11 := l11; have b : ys.length = n5.length := hl; omega) hy
  simp only at hk hl ⊢
  rw [hl] at hk
  exact hk
theorem nodes_turn {w : World} {g : Nat} {q r : Nat → Int} (h : Nums w g q) {A : Option Addr} {t : List S50} (hC : Kd.C k50 w A t.length t) :
    ∃ t' : List S50, t'.length = t.length ∧ Kd.C k50 (w.setRow g #[.int .i64 (r 0), .int .i64 (r 1), .int .i64 (r 2), .int .i64 (r 3)]) A t'.length t' ∧ ∀ (j : Nat) (h1 : j < t.length) (h2 : j < t'.length), Like (t[j]'h1) (t'[j]'h2) := by
  obtain ⟨_, hm, hr⟩ := hC
  by_cases hx : 0 < t.length
  · obtain ⟨ad, hA, hc⟩ := hr hx
    have H : ∀ j : Fin t.length, ∃ m, Like t[j] m ∧ ∃ c, c.length = 16 ∧ k50.K (w.setRow g #[.int .i64 (r 0), .int .i64 (r 1), .int .i64 (r 2), .int .i64 (r 3)]) m c ∧ ∀ i u, c[i]? = some u → (w.setRow g #[.int .i64 (r 0), .int .i64 (r 1), .int .i64 (r 2), .int .i64 (r 3)]).cell? (ad.add (j.val * 16 + i)) = some u := fun j => by
      obtain ⟨c, h1, h2, h3⟩ := hc j.val _ (List.getElem?_eq_getElem j.isLt)
      obtain ⟨m, hl, hk⟩ := node_turn (r := r) h h2
      have h0 := h3 0 (.string (t[j.val]'j.isLt).f0) (by obtain ⟨A6, c6, A11, c11, e, _⟩ := k50_open h2; rw [e]; rfl)
      have hb : ad.block ≠ g := fun e => by
        obtain ⟨_, _, k⟩ := nums_cell h (by rw [add_block]; exact e) h0
        cases k
      refine ⟨m, hl, c, h1, hk, fun i u hi => ?_⟩
      rw [cell_setRow_other _ _ _ _ (by rw [add_block]; exact hb)]
      exact h3 i u hi
    let f : Fin t.length → S50 := fun j => Classical.choose (H j)
    have hf : ∀ j, _ := fun j => Classical.choose_spec (H j)
    refine ⟨List.ofFn f, List.length_ofFn, ⟨rfl, by rw [List.length_ofFn]; exact hm, fun _ => ⟨ad, hA, fun j p hjp => ?_⟩⟩, fun j h1 h2 => ?_⟩
    · obtain ⟨hlt, he⟩ := List.getElem?_eq_some_iff.1 hjp
      rw [List.getElem_ofFn] at he
      rw [List.length_ofFn] at hlt
      obtain ⟨_, c, h1, h2, h3⟩ := hf ⟨j, hlt⟩
      rw [← he]
      exact ⟨c, h1, h2, h3⟩
    · rw [List.getElem_ofFn]
      exact (hf ⟨j, h1⟩).1
  · exact ⟨t, rfl, ⟨rfl, hm, fun h => absurd h hx⟩, fun j h1 _ => absurd (Nat.lt_of_le_of_lt (Nat.zero_le j) h1) hx⟩
theorem like_mem {t t' : List S50} (hl : t'.length = t.length) (h : ∀ (j : Nat) (h1 : j < t.length) (h2 : j < t'.length), Like (t[j]'h1) (t'[j]'h2)) {m : S50} (hm : m ∈ t') : ∃ n ∈ t, Like n m := by
  obtain ⟨j, hj, rfl⟩ := List.getElem_of_mem hm
  exact ⟨t[j]'(by omega), List.getElem_mem _, h j (by omega) hj⟩
theorem like_mem' {t t' : List S50} (hl : t'.length = t.length) (h : ∀ (j : Nat) (h1 : j < t.length) (h2 : j < t'.length), Like (t[j]'h1) (t'[j]'h2)) {n : S50} (hn : n ∈ t) : ∃ m ∈ t', Like n m := by
  obtain ⟨j, hj, rfl⟩ := List.getElem_of_mem hn
  exact ⟨t'[j]'(by omega), List.getElem_mem _, h j hj (by omega)⟩
theorem like_tree {t t' : List S50} (T : Tree t) (hl : t'.length = t.length) (h : ∀ (j : Nat) (h1 : j < t.length) (h2 : j < t'.length), Like (t[j]'h1) (t'[j]'h2)) : Tree t' := by
  refine ⟨?_, by rw [hl]; exact T.len, ?_, ?_, ?_⟩
  · refine List.pairwise_iff_getElem.2 fun i j hi hj hij => ?_
    rw [(h i (by omega) hi).1, (h j (by omega) hj).1]
    exact List.pairwise_iff_getElem.1 T.asc i j (by omega) (by omega) hij
  · obtain ⟨n, hn, h0, h1, h2⟩ := T.root
    obtain ⟨m, hm, e0, e1, e2, _⟩ := like_mem' hl h hn
    exact ⟨m, hm, e0.trans h0, e1.trans h1, e2.trans h2⟩
  · intro m hm
    obtain ⟨n, hn, e0, e1, e2, e3, e4, e6, e5⟩ := like_mem hl h hm
    obtain ⟨k1, k2, k3, k4, k5, k6⟩ := T.ok n hn
    refine ⟨by rw [e2]; exact k1, by rw [e6]; exact k2, by rw [e3]; exact k3, by rw [e5]; exact k4, fun hd => ?_, by rw [e4]; exact k6⟩
    obtain ⟨g1, g2⟩ := k5 (by rw [← e1]; exact hd)
    exact ⟨List.length_eq_zero_iff.1 (by rw [e5, g1]; rfl), by rw [e4]; exact g2⟩
  · intro m hm
    obtain ⟨n, hn, e0, e1, e2, e3, e4, e6, e5⟩ := like_mem hl h hm
    obtain ⟨ns, k1, k2, k3⟩ := T.up n hn
    refine ⟨ns, k1, e0.trans k2, fun hne => ?_⟩
    obtain ⟨d, hd, d0, d1, d2, d3⟩ := k3 hne
    obtain ⟨d', hd', f0, f1, f2, _⟩ := like_mem' hl h hd
    exact ⟨d', hd', f0.trans d0, f1.trans d1, by rw [e2, f2]; exact d2, fun hs => by rw [e2, f2]; exact d3 (by rw [← e1]; exact hs)⟩
/-- A store of a label into a block of numbers: the tree is read anew. -/
theorem tree_turn {w : World} {g : Nat} {q r : S41} (h : w.heap[g]? = some (.cells #[.int .i64 q.f0, .int .i64 q.f1, .int .i64 q.f2, .int .i64 q.f3] 41 (0, 0))) {A : Option Addr} {t : List S50} (hC : Kd.C k50 w A t.length t) (T : Tree t) :
    ∃ t' : List S50, t'.length = t.length ∧ Kd.C k50 (w.setRow g #[.int .i64 r.f0, .int .i64 r.f1, .int .i64 r.f2, .int .i64 r.f3]) A t'.length t' ∧ Tree t' ∧ ∀ (j : Nat) (h1 : j < t.length) (h2 : j < t'.length), Like (t[j]'h1) (t'[j]'h2) := by
  obtain ⟨t', h1, h2, h3⟩ := nodes_turn (q := fun i => if i = 0 then q.f0 else if i = 1 then q.f1 else if i = 2 then q.f2 else q.f3) (r := fun i => if i = 0 then r.f0 else if i = 1 then r.f1 else if i = 2 then r.f2 else r.f3) h hC
  exact ⟨t', h1, h2, like_tree T h1 h3, h3⟩
end Go.Proofs.YtmndeoncbocplaaDoor.C
namespace Go.Proofs.YtmndeoncbocplaaDoor.C
open Go.RowKit Go.Proofs.YtmndeoncbocplaaDoor.Q Go.Proofs.YtmndeoncbocplaaDoorW.PrintWords Go.Proofs.YtmndeoncbocplaaDoorW.PrintLast Go.Proofs.YtmndeoncbocplaaDoorW.PrintMore
noncomputable def cReg (f : Func) (k : Nat) : Code := (f.body.bind fun c => regIn c k).getD .skip
theorem wr_at41 (x v : Value) : Instr.storeAt 41 x v = wrS 41 x v := wr_at 41 x v
theorem wr41_blk {W : World} {g : Nat} {old cs : Array Value} (hg : W.heap[g]? = some (.cells old 41 (0, 0))) (ho : old.size = 4) (hi : cs.size = 4) (h1 : cs.all (·.oneCell') = true) : (wrS 41 (.pointer (some ⟨g, 0, none⟩)) (.agg cs)).run Tryd.prog W = .ok () (W.setRow g cs) :=
  wr_row hg (by rw [hi]; kernel_rfl) (by rw [ho, hi]) h1
theorem take_at {P : Program} {md : Region.Mode} {ops : Array Oper} {Q : Exit → Act → World → Prop} {S : World → Prop} (i d : Nat) {oi : Oper} {v : Value} {fuel : Nat} {listed : Array Bool} {a : Act} {w : World} (hi : ops.toList[i]? = some oi) (hd : oi.dst = some d)
    (hs : Region.noSelect ops = true) (hf : Region.free md ops listed i = true) (hr : (Region.ready md ops listed).contains i = true)
    (hQ : ∀ c a w, Q (.panic c) (a.put oi.dst v) w → Q (.panic c) a w) (hy : YieldsIf P ops S oi v a) (hS : S w)
    (h : wpAnyH P md ops Q S fuel (listed.setIfInBounds i true) (a.put (some d) v) w) : wpAnyH P md ops Q S (fuel + 1) listed a w :=
  wpAnyH_take (by rw [← Array.getElem?_toList]; exact hi) hs hf hr hQ hy hS (by rw [hd]; exact h)
theorem K_setRow {w6 : World} {B g : Nat} {x : S50} {cs : List Value} {cs' : Array Value} (h : k50.FK w6 (fun k => B ≤ k) x cs) (hg : g < B) : k50.K (w6.setRow g cs') x cs :=
  Foot.now (Foot.step h (fun k hk _ => setRow_other w6 g k cs' (by omega)))
end Go.Proofs.YtmndeoncbocplaaDoor.C
end
