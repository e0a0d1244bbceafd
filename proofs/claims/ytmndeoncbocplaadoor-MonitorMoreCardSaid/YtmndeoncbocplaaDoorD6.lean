/- The example of monitors; the walk of MonitorMore. -/
import Derived.Test.YtmndeoncbocplaaDoorD3
import Derived.Deep.RegionHeldLaw
import Derived.Deep.RegionHeld3
import Derived.Test.YtmndeoncbocplaaDoorD2
import Derived.Deep.LoopGhost
import Derived.Test.YtmndeoncbocplaaDoorD5
/-! CKnown -/
namespace Go.Proofs.YtmndeoncbocplaaDoor.C
open Go.RowKit Go.Proofs.YtmndeoncbocplaaDoor.Q Go.Proofs.YtmndeoncbocplaaDoorW.PrintWords Go.Proofs.YtmndeoncbocplaaDoorW.PrintLast Go.Proofs.YtmndeoncbocplaaDoorW.PrintMore
attribute [local go_sem ↓] rd_at50 wr_at50 al_at50
attribute [local go_sem] rd50_new wr50_new al50 build50
theorem okp_l0x : Okp [[108, 48], [120]] := by
  refine ⟨fun x hx => ?_, by decide +kernel⟩
  rcases List.mem_cons.1 hx with rfl | hx
  · exact L.name_nm (by decide +kernel)
  · rw [List.mem_singleton.1 hx]; exact L.name_nm (by decide +kernel)
theorem okp_l0 : Okp [[108, 48]] := by
  refine ⟨fun x hx => ?_, by decide +kernel⟩
  rw [List.mem_singleton.1 hx]; exact L.name_nm (by decide +kernel)
def labK : S41 := ⟨1, 0, 3, 255⟩
theorem kn1 : (seeR (firstT [labK]) botS [] [[108, 48], [120]]).2 = 15 := by decide +kernel
theorem kn2 : (mayR (firstT [labK]) botS ⟨#[97]⟩ [[108, 48]] 1).2 = 15 := by decide +kernel
theorem kn3 : (seeR (firstT [labK]) botS [] [[108, 48]]).2 = 0 := by decide +kernel
theorem kn4 : (seeR (firstT [labK]) botS [] [[108, 48]]).1.f0 = ⟨#[47, 108, 48]⟩ := by decide +kernel
/-- What is told of a path in a tree. -/
theorem see_t {t : List S50} (T : Tree t) (u : ByteArray) (a : S41) (ns : List (List UInt8)) (hok : Okp ns) (p : ByteArray) (hp : pth ns = p) (n : S50) (k : Int) (hn : (seeR t a [] ns).1 = n) (hk : (seeR t a [] ns).2 = k) (A : Option Addr) (c : Nat) (w : World) (hC : Kd.C k50 w A t.length t) (hc : t.length ≤ c) :
    Calls Tryd.prog 43 #[.slice A t.length c, .agg #[.string u, .int .i64 a.f0, .int .i64 a.f1, .int .i64 a.f2, .int .i64 a.f3], .string p] w fun e w' => ∃ A6 c6 A11 c11, e = .returned (.tuple #[.agg #[.string n.f0, .bool n.f1, .int .i64 n.f2.f0, .int .i64 n.f2.f1, .int .i64 n.f2.f2, .int .i64 n.f2.f3, .slice A6 n.f3.length c6, .int .i64 n.f4.f0, .int .i64 n.f4.f1, .int .i64 n.f4.f2, .int .i64 n.f4.f3, .slice A11 n.f5.length c11, .int .i64 n.f6.f0, .int .i64 n.f6.f1, .int .i64 n.f6.f2, .int .i64 n.f6.f3], .int .i64 k]) ∧ k50.K w' n [.string n.f0, .bool n.f1, .int .i64 n.f2.f0, .int .i64 n.f2.f1, .int .i64 n.f2.f2, .int .i64 n.f2.f3, .slice A6 n.f3.length c6, .int .i64 n.f4.f0, .int .i64 n.f4.f1, .int .i64 n.f4.f2, .int .i64 n.f4.f3, .slice A11 n.f5.length c11, .int .i64 n.f6.f0, .int .i64 n.f6.f1, .int .i64 n.f6.f2, .int .i64 n.f6.f3] ∧ Below w.heap.size w w' := by
  subst hp hn hk
  refine (see_c t u a ns A c w hC hc (tree_srch T) hok.1 hok.2).mono ?_
  rintro e w' ⟨cs, rfl, hF, hB⟩
  have hK := hF w' (fun _ _ _ => rfl)
  obtain ⟨A6, c6, A11, c11, rfl, _⟩ := k50_open hK
  exact ⟨A6, c6, A11, c11, rfl, hK, hB⟩
theorem may_t {t : List S50} (T : Tree t) (u : ByteArray) (a : S41) (ns : List (List UInt8)) (hok : Okp ns) (p : ByteArray) (hp : pth ns = p) (mode : Int) (n : S50) (k : Int) (hn : (mayR t a u ns mode).1 = n) (hk : (mayR t a u ns mode).2 = k) (A : Option Addr) (c : Nat) (w : World) (hC : Kd.C k50 w A t.length t) (hc : t.length ≤ c) :
    Calls Tryd.prog 35 #[.slice A t.length c, .agg #[.string u, .int .i64 a.f0, .int .i64 a.f1, .int .i64 a.f2, .int .i64 a.f3], .string p, .int .i64 mode] w fun e w' => ∃ A6 c6 A11 c11, e = .returned (.tuple #[.agg #[.string n.f0, .bool n.f1, .int .i64 n.f2.f0, .int .i64 n.f2.f1, .int .i64 n.f2.f2, .int .i64 n.f2.f3, .slice A6 n.f3.length c6, .int .i64 n.f4.f0, .int .i64 n.f4.f1, .int .i64 n.f4.f2, .int .i64 n.f4.f3, .slice A11 n.f5.length c11, .int .i64 n.f6.f0, .int .i64 n.f6.f1, .int .i64 n.f6.f2, .int .i64 n.f6.f3], .int .i64 k]) ∧ k50.K w' n [.string n.f0, .bool n.f1, .int .i64 n.f2.f0, .int .i64 n.f2.f1, .int .i64 n.f2.f2, .int .i64 n.f2.f3, .slice A6 n.f3.length c6, .int .i64 n.f4.f0, .int .i64 n.f4.f1, .int .i64 n.f4.f2, .int .i64 n.f4.f3, .slice A11 n.f5.length c11, .int .i64 n.f6.f0, .int .i64 n.f6.f1, .int .i64 n.f6.f2, .int .i64 n.f6.f3] ∧ Below w.heap.size w w' := by
  subst hp hn hk
  refine (may_c t u a ns mode A c w hC hc (tree_srch T) (tree_acls T) hok.1 hok.2).mono ?_
  rintro e w' ⟨cs, rfl, hF, hB⟩
  have hK := hF w' (fun _ _ _ => rfl)
  obtain ⟨A6, c6, A11, c11, rfl, _⟩ := k50_open hK
  exact ⟨A6, c6, A11, c11, rfl, hK, hB⟩
theorem row_one {w : World} : Kd.C k41 (w.alloc (.cells #[.int .i64 1, .int .i64 0, .int .i64 3, .int .i64 255] 41)) (some ⟨w.heap.size, 0, none⟩) 1 [labK] := by
  refine ⟨rfl, by decide, fun _ => ⟨_, rfl, fun j q hj => ?_⟩⟩
  have hj0 : j = 0 := by
    have := (List.getElem?_eq_some_iff.1 hj).1
    simp at this
    exact this
  subst hj0
  have hq : q = labK := by simpa using hj.symm
  subst hq
  refine ⟨_, rfl, k41_mk _ _, fun i u hu => ?_⟩
  have hb := blk_new w (.cells #[.int .i64 1, .int .i64 0, .int .i64 3, .int .i64 255] 41)
  rcases i with _ | _ | _ | _ | i
  · have hu' : Value.int .i64 1 = u := by simpa [labK] using hu
    rw [← hu']; exact (blk_cell hb 0).trans rfl
  · have hu' : Value.int .i64 0 = u := by simpa [labK] using hu
    rw [← hu']; exact (blk_cell hb 1).trans rfl
  · have hu' : Value.int .i64 3 = u := by simpa [labK] using hu
    rw [← hu']; exact (blk_cell hb 2).trans rfl
  · have hu' : Value.int .i64 255 = u := by simpa [labK] using hu
    rw [← hu']; exact (blk_cell hb 3).trans rfl
  · simp at hu
theorem lab_K : Lab labK := by unfold Lab labK; decide
theorem C50_of' {w W : World} {A : Option Addr} {xs : List S50} (h : ReadsRow (k50.K w) 16 W A xs.length xs) (hb : Below w.heap.size w W) : Kd.C k50 W A xs.length xs :=
  ReadsRow.imp_ h (Below.refl _ _) (fun _ _ h => k50.K_below hb h)
set_option maxHeartbeats 8000000 in
set_option maxRecDepth 100000 in
theorem known13_c (w : World) : Calls Tryd.prog 31 #[] w fun e w' => e = .returned (.bool true) ∧ Below w.heap.size w w' := by
  have HT := Lib.hid (tree_first [labK] (by decide) (fun a ha => by rw [List.mem_singleton.1 ha]; exact lab_K))
  have H1 := Lib.hid kn1
  have H2 := Lib.hid kn2
  have H3 := Lib.hid kn3
  have H4 := Lib.hid kn4
  have HB0 := Lib.hid (below_alloc (Below.refl w.heap.size w) (.cells #[.int .i64 1, .int .i64 0, .int .i64 3, .int .i64 255] 41))
  have HF := Lib.hid (first_c [labK] (some ⟨w.heap.size, 0, none⟩) 1 (.slice none 0 0) (.slice none 0 0) _ (row_one (w := w)) (by decide) (by decide))
  obtain ⟨t, ht⟩ : ∃ t, firstT [labK] = t := ⟨_, rfl⟩
  have Ht := Lib.hid ht
  rw [ht] at HT H1 H2 H3 H4
  clear ht
  obtain ⟨n1, hn1⟩ : ∃ n, (seeR t botS [] [[108, 48], [120]]).1 = n := ⟨_, rfl⟩
  obtain ⟨n2, hn2⟩ : ∃ n, (mayR t botS ⟨#[97]⟩ [[108, 48]] 1).1 = n := ⟨_, rfl⟩
  obtain ⟨n3, hn3⟩ : ∃ n, (seeR t botS [] [[108, 48]]).1 = n := ⟨_, rfl⟩
  have hn4 : n3.f0 = ⟨#[47, 108, 48]⟩ := by rw [← hn3]; exact H4.out
  have Hn1 := Lib.hid hn1
  have Hn2 := Lib.hid hn2
  have Hn3 := Lib.hid hn3
  clear hn1 hn2 hn3 H4
  have htl : (⟨#[47, 108, 48]⟩ : ByteArray).toList = [47, 108, 48] := by rw [Lib.toList_data]
  go_enter Tryd.func31, Tryd.ntmps31
  go_wp2_with (first | (go_at_call 43; have hg := HBw4.out; clear hg; refine (see_t HT.out ⟨#[97]⟩ botS [[108, 48]] okp_l0 ⟨#[47, 108, 48]⟩ rfl n3 0 Hn3.out H3.out A1 c1 _ HCw4.out Hc1.out).mono ?_; rintro e w5 ⟨Z6, Zc6, Z11, Zc11, rfl, hK, hb⟩; have HBw5 := Lib.hid (below_alloc (below_step HBw4.out hb) (.cells #[.string n3.f0, .bool n3.f1, .int .i64 n3.f2.f0, .int .i64 n3.f2.f1, .int .i64 n3.f2.f2, .int .i64 n3.f2.f3, .slice Z6 n3.f3.length Zc6, .int .i64 n3.f4.f0, .int .i64 n3.f4.f1, .int .i64 n3.f4.f2, .int .i64 n3.f4.f3, .slice Z11 n3.f5.length Zc11, .int .i64 n3.f6.f0, .int .i64 n3.f6.f1, .int .i64 n3.f6.f2, .int .i64 n3.f6.f3] 50)); have HCw5 := Lib.hid (Kd.C_below HCw4.out (below_alloc hb (.cells #[.string n3.f0, .bool n3.f1, .int .i64 n3.f2.f0, .int .i64 n3.f2.f1, .int .i64 n3.f2.f2, .int .i64 n3.f2.f3, .slice Z6 n3.f3.length Zc6, .int .i64 n3.f4.f0, .int .i64 n3.f4.f1, .int .i64 n3.f4.f2, .int .i64 n3.f4.f3, .slice Z11 n3.f5.length Zc11, .int .i64 n3.f6.f0, .int .i64 n3.f6.f1, .int .i64 n3.f6.f2, .int .i64 n3.f6.f3] 50))); have ESw5 := Lib.hid (blk_alloc (blk_below ESw4.out hb) (.cells #[.string n3.f0, .bool n3.f1, .int .i64 n3.f2.f0, .int .i64 n3.f2.f1, .int .i64 n3.f2.f2, .int .i64 n3.f2.f3, .slice Z6 n3.f3.length Zc6, .int .i64 n3.f4.f0, .int .i64 n3.f4.f1, .int .i64 n3.f4.f2, .int .i64 n3.f4.f3, .slice Z11 n3.f5.length Zc11, .int .i64 n3.f6.f0, .int .i64 n3.f6.f1, .int .i64 n3.f6.f2, .int .i64 n3.f6.f3] 50)); have sw50 := (blk_cell ESw5.out 0).trans rfl; have sw51 := (blk_cell ESw5.out 1).trans rfl; have sw52 := (blk_cell ESw5.out 2).trans rfl; have sw53 := (blk_cell ESw5.out 3).trans rfl; have sw54 := (blk_cell ESw5.out 4).trans rfl; have nfw5 := (blk_cell (blk_new w5 (.cells #[.string n3.f0, .bool n3.f1, .int .i64 n3.f2.f0, .int .i64 n3.f2.f1, .int .i64 n3.f2.f2, .int .i64 n3.f2.f3, .slice Z6 n3.f3.length Zc6, .int .i64 n3.f4.f0, .int .i64 n3.f4.f1, .int .i64 n3.f4.f2, .int .i64 n3.f4.f3, .slice Z11 n3.f5.length Zc11, .int .i64 n3.f6.f0, .int .i64 n3.f6.f1, .int .i64 n3.f6.f2, .int .i64 n3.f6.f3] 50)) 0).trans rfl; clear hK hb) | (go_at_call 35; refine (may_t HT.out ⟨#[97]⟩ botS [[108, 48]] okp_l0 ⟨#[47, 108, 48]⟩ rfl 1 n2 15 Hn2.out H2.out A1 c1 _ HCw3.out Hc1.out).mono ?_; rintro e w4 ⟨Y6, Yc6, Y11, Yc11, rfl, hK, hb⟩; have HBw4 := Lib.hid (below_alloc (below_step HBw3.out hb) (.cells #[.string n2.f0, .bool n2.f1, .int .i64 n2.f2.f0, .int .i64 n2.f2.f1, .int .i64 n2.f2.f2, .int .i64 n2.f2.f3, .slice Y6 n2.f3.length Yc6, .int .i64 n2.f4.f0, .int .i64 n2.f4.f1, .int .i64 n2.f4.f2, .int .i64 n2.f4.f3, .slice Y11 n2.f5.length Yc11, .int .i64 n2.f6.f0, .int .i64 n2.f6.f1, .int .i64 n2.f6.f2, .int .i64 n2.f6.f3] 50)); have HCw4 := Lib.hid (Kd.C_below HCw3.out (below_alloc hb (.cells #[.string n2.f0, .bool n2.f1, .int .i64 n2.f2.f0, .int .i64 n2.f2.f1, .int .i64 n2.f2.f2, .int .i64 n2.f2.f3, .slice Y6 n2.f3.length Yc6, .int .i64 n2.f4.f0, .int .i64 n2.f4.f1, .int .i64 n2.f4.f2, .int .i64 n2.f4.f3, .slice Y11 n2.f5.length Yc11, .int .i64 n2.f6.f0, .int .i64 n2.f6.f1, .int .i64 n2.f6.f2, .int .i64 n2.f6.f3] 50))); have ESw4 := Lib.hid (blk_alloc (blk_below ESw3.out hb) (.cells #[.string n2.f0, .bool n2.f1, .int .i64 n2.f2.f0, .int .i64 n2.f2.f1, .int .i64 n2.f2.f2, .int .i64 n2.f2.f3, .slice Y6 n2.f3.length Yc6, .int .i64 n2.f4.f0, .int .i64 n2.f4.f1, .int .i64 n2.f4.f2, .int .i64 n2.f4.f3, .slice Y11 n2.f5.length Yc11, .int .i64 n2.f6.f0, .int .i64 n2.f6.f1, .int .i64 n2.f6.f2, .int .i64 n2.f6.f3] 50)); have sw40 := (blk_cell ESw4.out 0).trans rfl; have sw41 := (blk_cell ESw4.out 1).trans rfl; have sw42 := (blk_cell ESw4.out 2).trans rfl; have sw43 := (blk_cell ESw4.out 3).trans rfl; have sw44 := (blk_cell ESw4.out 4).trans rfl; have nfw4 := (blk_cell (blk_new w4 (.cells #[.string n2.f0, .bool n2.f1, .int .i64 n2.f2.f0, .int .i64 n2.f2.f1, .int .i64 n2.f2.f2, .int .i64 n2.f2.f3, .slice Y6 n2.f3.length Yc6, .int .i64 n2.f4.f0, .int .i64 n2.f4.f1, .int .i64 n2.f4.f2, .int .i64 n2.f4.f3, .slice Y11 n2.f5.length Yc11, .int .i64 n2.f6.f0, .int .i64 n2.f6.f1, .int .i64 n2.f6.f2, .int .i64 n2.f6.f3] 50)) 0).trans rfl; clear hK hb) | (go_at_call 43; refine (see_t HT.out ⟨#[97]⟩ botS [[108, 48], [120]] okp_l0x ⟨#[47, 108, 48, 47, 120]⟩ rfl n1 15 Hn1.out H1.out A1 c1 _ HC2.out Hc1.out).mono ?_; rintro e w3 ⟨X6, Xc6, X11, Xc11, rfl, hK, hb⟩; have HBw3 := Lib.hid (below_alloc (below_step HB2.out hb) (.cells #[.string n1.f0, .bool n1.f1, .int .i64 n1.f2.f0, .int .i64 n1.f2.f1, .int .i64 n1.f2.f2, .int .i64 n1.f2.f3, .slice X6 n1.f3.length Xc6, .int .i64 n1.f4.f0, .int .i64 n1.f4.f1, .int .i64 n1.f4.f2, .int .i64 n1.f4.f3, .slice X11 n1.f5.length Xc11, .int .i64 n1.f6.f0, .int .i64 n1.f6.f1, .int .i64 n1.f6.f2, .int .i64 n1.f6.f3] 50)); have HCw3 := Lib.hid (Kd.C_below HC2.out (below_alloc hb (.cells #[.string n1.f0, .bool n1.f1, .int .i64 n1.f2.f0, .int .i64 n1.f2.f1, .int .i64 n1.f2.f2, .int .i64 n1.f2.f3, .slice X6 n1.f3.length Xc6, .int .i64 n1.f4.f0, .int .i64 n1.f4.f1, .int .i64 n1.f4.f2, .int .i64 n1.f4.f3, .slice X11 n1.f5.length Xc11, .int .i64 n1.f6.f0, .int .i64 n1.f6.f1, .int .i64 n1.f6.f2, .int .i64 n1.f6.f3] 50))); have ESw3 := Lib.hid (blk_alloc (blk_below ES2.out hb) (.cells #[.string n1.f0, .bool n1.f1, .int .i64 n1.f2.f0, .int .i64 n1.f2.f1, .int .i64 n1.f2.f2, .int .i64 n1.f2.f3, .slice X6 n1.f3.length Xc6, .int .i64 n1.f4.f0, .int .i64 n1.f4.f1, .int .i64 n1.f4.f2, .int .i64 n1.f4.f3, .slice X11 n1.f5.length Xc11, .int .i64 n1.f6.f0, .int .i64 n1.f6.f1, .int .i64 n1.f6.f2, .int .i64 n1.f6.f3] 50)); have sw30 := (blk_cell ESw3.out 0).trans rfl; have sw31 := (blk_cell ESw3.out 1).trans rfl; have sw32 := (blk_cell ESw3.out 2).trans rfl; have sw33 := (blk_cell ESw3.out 3).trans rfl; have sw34 := (blk_cell ESw3.out 4).trans rfl; have nfw3 := (blk_cell (blk_new w3 (.cells #[.string n1.f0, .bool n1.f1, .int .i64 n1.f2.f0, .int .i64 n1.f2.f1, .int .i64 n1.f2.f2, .int .i64 n1.f2.f3, .slice X6 n1.f3.length Xc6, .int .i64 n1.f4.f0, .int .i64 n1.f4.f1, .int .i64 n1.f4.f2, .int .i64 n1.f4.f3, .slice X11 n1.f5.length Xc11, .int .i64 n1.f6.f0, .int .i64 n1.f6.f1, .int .i64 n1.f6.f2, .int .i64 n1.f6.f3] 50)) 0).trans rfl; clear hK hb) | (go_at_call 66; refine (donjonref4_Bottom.calls 0 0 3 255 _ rfl).mono ?_; rintro e w2 ⟨rfl, hb⟩; have HB2 := Lib.hid (below_alloc (below_step HB1.out hb) (.cells #[.string (⟨#[97]⟩ : ByteArray), .int .i64 0, .int .i64 0, .int .i64 3, .int .i64 255] 55)); have HC2 := Lib.hid (Kd.C_below HC1.out (below_alloc hb (.cells #[.string (⟨#[97]⟩ : ByteArray), .int .i64 0, .int .i64 0, .int .i64 3, .int .i64 255] 55))); have ES2 := Lib.hid (blk_new w2 (.cells #[.string (⟨#[97]⟩ : ByteArray), .int .i64 0, .int .i64 0, .int .i64 3, .int .i64 255] 55)); clear hb) | (go_at_call 65; refine HF.out.mono ?_; rintro e w1 ⟨v, rfl, ls, ⟨_, hls⟩, _, wx, hb1, hb2, hO⟩; obtain rfl := hls rfl; rw [Ht.out] at hO; obtain ⟨A1, c1, rfl, hc1, hR1⟩ := OwnRow.reads hO; have HC1 := Lib.hid (C50_of' hR1 hb2); have HB1 := Lib.hid (below_step HB0.out (below_step hb1 hb2)); have Hc1 := Lib.hid hc1; clear hb1 hb2 hO hR1 hls))
  go_ret
  exact ⟨rfl, by have h := HBw5.out; rw [hn4] at h; exact h⟩
end Go.Proofs.YtmndeoncbocplaaDoor.C
/-! CLaw -/
namespace Go.Proofs.YtmndeoncbocplaaDoor.C
open Go.RowKit Go.Proofs.YtmndeoncbocplaaDoor.Q Go.Proofs.YtmndeoncbocplaaDoorW.PrintWords Go.Proofs.YtmndeoncbocplaaDoorW.PrintLast Go.Proofs.YtmndeoncbocplaaDoorW.PrintMore
theorem wi13_c (a n : Int) (w : World) (h0 : 0 < n) (hn : n ≤ 4611686018427387904) : Calls Tryd.prog 34 #[.int .i64 a, .int .i64 n] w fun e w' => ∃ t : Nat, (t : Int) < n ∧ e = .returned (.int .i64 (t : Int)) ∧ Below w.heap.size w w' := by
  obtain ⟨t, ht, h1, h2⟩ := P.within_f a n h0 hn
  obtain ⟨k, rfl⟩ := Int.eq_ofNat_of_zero_le h1
  exact (donjonlaw13_within.calls a n k w ht).mono fun _ _ ⟨he, hd⟩ => ⟨k, h2, he, hd.below⟩
/-- Whose name a number gives: a to e. -/
def IsWho (u : ByteArray) : Prop := ∃ k : Nat, k < 5 ∧ u = ⟨#[UInt8.ofNat (97 + k)]⟩
theorem who_f (a : Int) : ∃ u, IsWho u ∧ donjonlaw13_Who.f a = some u := by
  obtain ⟨t, ht, h1, h2⟩ := P.within_f a 5 (by omega) (by omega)
  obtain ⟨k, rfl⟩ := Int.eq_ofNat_of_zero_le h1
  have e : donjonlaw13_within.f a 5 = some (k : Int) := ht
  refine ⟨⟨#[UInt8.ofNat (97 + k)]⟩, ⟨k, by omega, rfl⟩, ?_⟩
  unfold donjonlaw13_Who.f
  rw [e]
  have hw : (wrap64 (97 + (k : Int)) % 256).toNat = 97 + k := by unfold wrap64; omega
  simp [strOfNums, hw]
end Go.Proofs.YtmndeoncbocplaaDoor.C
/-! CMore -/
namespace Go.Proofs.YtmndeoncbocplaaDoor.C
open Go.RowKit Go.Proofs.YtmndeoncbocplaaDoor.Q Go.Proofs.YtmndeoncbocplaaDoorW.PrintWords Go.Proofs.YtmndeoncbocplaaDoorW.PrintLast Go.Proofs.YtmndeoncbocplaaDoorW.PrintMore
attribute [local go_sem ↓] rd_at50 wr_at50 al_at50
attribute [local go_sem] rd50_new wr50_new al50 build50
/-- One mode of those asked for: not asked, or allowed. -/
def okB (E : Int → Int) (m k : Int) : Bool := bits .and .i64 m k == 0 || decide (E k = 0)
def kk (i : Nat) : Int := if i = 0 then 1 else if i = 1 then 2 else if i = 2 then 4 else 8
def pref (E : Int → Int) (m : Int) (i : Nat) : Bool := if i = 0 then true else if i = 1 then okB E m 1 else if i = 2 then okB E m 1 && okB E m 2 else (okB E m 1 && okB E m 2) && okB E m 4
theorem okB_zero {E : Int → Int} {m k : Int} (h : bits .and .i64 m k = 0) : okB E m k = true := by simp [okB, h]
theorem okB_yes {E : Int → Int} {m k : Int} (h : E k = 0) : okB E m k = true := by simp [okB, h]
theorem okB_no {E : Int → Int} {m k : Int} (h : ¬ bits .and .i64 m k = 0) (h2 : ¬ E k = 0) : okB E m k = false := by simp [okB, h, h2]
theorem pref_succ0 {E : Int → Int} {m : Int} : pref E m (0 + 1) = (pref E m 0 && okB E m 1) := by simp [pref]
theorem pref_succ1 {E : Int → Int} {m : Int} : pref E m (1 + 1) = (pref E m 1 && okB E m 2) := by simp [pref]
theorem pref_succ2 {E : Int → Int} {m : Int} : pref E m (2 + 1) = (pref E m 2 && okB E m 4) := by simp [pref]
set_option maxHeartbeats 8000000 in
set_option maxRecDepth 100000 in
theorem more_c (terms : List S41) (makes : List S80) (A B : Option Addr) (c d : Nat) (who pick : Int) (w : World) (hC : Kd.C k41 w A terms.length terms) (hc : terms.length ≤ c) (hD : Kd.C k80 w B makes.length makes) (hd : makes.length ≤ d) :
    Calls Tryd.prog 8 #[.slice A terms.length c, .slice B makes.length d, .int .i64 who, .int .i64 pick] w fun e w' => e = .returned (.bool true) ∧ Below w.heap.size w w' := by
  have HG := Lib.hid fun w1 (hb : Below w.heap.size w w1) => grow_c terms makes A B c d w1 (Kd.C_below hC hb) hc (Kd.C_below hD hb) hd
  clear hC hD
  obtain ⟨u, _, hu⟩ := who_f who
  have HU := Lib.hid fun w1 => donjonlaw13_Who.calls who u w1 hu
  clear hu
  go_enter Tryd.func8, Tryd.ntmps8
  go_wp2_with (first | (go_at_call 34; have hg := HX4.out; clear hg; refine (wi13_c _ _ _ (by have := HL.out; omega) (by have := HL.out; omega)).mono ?_; rintro e w5 ⟨k2, hk2, rfl, hb⟩; obtain ⟨ad2, D6, d6, D11, d11, hA2, hcs2, HK2⟩ := at50 HCt.out (below_step HX4.out hb) k2 (by omega); obtain rfl := Option.some.inj hA2; obtain ⟨_, _, h2, h3, h4, h5, _⟩ := hcs2; have HX5 := Lib.hid (below_step HX4.out hb); have BN5 := Lib.hid (blk_below BN4.out hb); have HM2 := Lib.hid (List.getElem_mem (l := t) (n := k2) (by omega)); generalize t[k2]'(by omega) = n2 at h2 h3 h4 h5 HM2; clear HK2 hb) | (go_at_call 36; refine (HU.out _).mono ?_; rintro e w4 ⟨rfl, hb⟩; have HX4 := Lib.hid (below_step HX3.out hb); have BN4 := Lib.hid (blk_below BN3.out hb); clear hb) | (go_at_call 34; refine (wi13_c _ _ _ (by have := HL.out; omega) (by have := HL.out; omega)).mono ?_; rintro e w3 ⟨k1, hk1, rfl, hb⟩; obtain ⟨ad, A6, c6, A11, c11, rfl, hcs, HK⟩ := at50 HCt.out hb k1 (by omega); have hld := rd50_of (loadC50 (P := Tryd.prog) hcs); have HM1 := Lib.hid (List.getElem_mem (l := t) (n := k1) (by omega)); generalize t[k1]'(by omega) = n at hld HM1; have HX3 := Lib.hid (below_alloc hb (.cells #[.string n.f0, .bool n.f1, .int .i64 n.f2.f0, .int .i64 n.f2.f1, .int .i64 n.f2.f2, .int .i64 n.f2.f3, .slice A6 n.f3.length c6, .int .i64 n.f4.f0, .int .i64 n.f4.f1, .int .i64 n.f4.f2, .int .i64 n.f4.f3, .slice A11 n.f5.length c11, .int .i64 n.f6.f0, .int .i64 n.f6.f1, .int .i64 n.f6.f2, .int .i64 n.f6.f3] 50)); have BN3 := Lib.hid (blk_new w3 (.cells #[.string n.f0, .bool n.f1, .int .i64 n.f2.f0, .int .i64 n.f2.f1, .int .i64 n.f2.f2, .int .i64 n.f2.f3, .slice A6 n.f3.length c6, .int .i64 n.f4.f0, .int .i64 n.f4.f1, .int .i64 n.f4.f2, .int .i64 n.f4.f3, .slice A11 n.f5.length c11, .int .i64 n.f6.f0, .int .i64 n.f6.f1, .int .i64 n.f6.f2, .int .i64 n.f6.f3] 50)); clear hcs HK hb) | (go_at_call 32; refine (HG.out _ HB1.out).mono ?_; rintro e w2 ⟨Ag, t, cg, rfl, hT, hcg, hCt, hb⟩; have HT := Lib.hid hT; have HCt := Lib.hid hCt; have HB2 := Lib.hid (below_step HB1.out hb); have HL := Lib.hid (And.intro (tree_ne hT) hT.len); have Hcg := Lib.hid hcg; clear hT hCt hb) | (go_at_call 31; refine (known13_c _).mono ?_; rintro e w1 ⟨rfl, hb⟩; have HB1 := Lib.hid hb; clear hb))
  have BSV0 := blk_new w5 (.cells #[.string u, .int .i64 n2.f2.f0, .int .i64 n2.f2.f1, .int .i64 n2.f2.f2, .int .i64 n2.f2.f3] 55)
  have BNV0 := blk_alloc BN5.out (.cells #[.string u, .int .i64 n2.f2.f0, .int .i64 n2.f2.f1, .int .i64 n2.f2.f2, .int .i64 n2.f2.f3] 55)
  have HXV := Lib.hid (below_alloc HX5.out (.cells #[.string u, .int .i64 n2.f2.f0, .int .i64 n2.f2.f1, .int .i64 n2.f2.f2, .int .i64 n2.f2.f3] 55))
  clear h2 h3 h4 h5 hld
  generalize w5.alloc (.cells #[.string u, .int .i64 n2.f2.f0, .int .i64 n2.f2.f1, .int .i64 n2.f2.f2, .int .i64 n2.f2.f3] 55) = V at BSV0 BNV0 HXV ⊢
  have BSV := Lib.hid BSV0
  have BNV := Lib.hid BNV0
  clear BSV0 BNV0
  obtain ⟨ns, hok, hp⟩ := tree_path HT.out HM1.out
  obtain ⟨E, hE⟩ : ∃ E : Int → Int, ∀ k, (mayR t n2.f2 u ns k).2 = E k := ⟨fun k => (mayR t n2.f2 u ns k).2, fun _ => rfl⟩
  obtain ⟨NN, hN⟩ : ∃ E : Int → S50, ∀ k, (mayR t n2.f2 u ns k).1 = E k := ⟨fun k => (mayR t n2.f2 u ns k).1, fun _ => rfl⟩
  have HMay := Lib.hid fun w1 (hb : Below V.heap.size V w1) k => may_t HT.out u n2.f2 ns hok n.f0 hp.symm k (NN k) (E k) (hN k) (hE k) (some ad) cg w1 (Kd.C_below HCt.out (below_step HXV.out hb)) Hcg.out
  have HE := Lib.hid (show ∀ m, 1 ≤ m → m ≤ 7 → decide (E m = 0) = pref E m 3 from fun m h1 h7 => by have h := more_law HT.out n2.f2 u ns m h1 h7; rw [hE, hE, hE, hE] at h; exact h)
  have HBV := Lib.hid (below_step HB2.out HXV.out)
  clear hE hN hok hp
  go_loopg [12] 8 (fun k s12 wr => ∃ m : Int, 1 ≤ m ∧ m ≤ 8 ∧ 8 - m ≤ k ∧ s12 = .int .i64 m ∧ Hid (Below V.heap.size V wr))
  case atStart => exact ⟨1, by omega, by omega, by omega, rfl, Lib.hid (Below.refl _ _)⟩
  case round =>
    obtain ⟨m, hm1, hm8, hmk, rfl, HV⟩ := hrel
    by_cases hm : m ≤ 7
    · have sn0 := (blk_cell (blk_below BNV.out HV.out) 0).trans rfl
      have s0 := (blk_cell (blk_below BSV.out HV.out) 0).trans rfl
      have s1 := (blk_cell (blk_below BSV.out HV.out) 1).trans rfl
      have s2 := (blk_cell (blk_below BSV.out HV.out) 2).trans rfl
      have s3 := (blk_cell (blk_below BSV.out HV.out) 3).trans rfl
      have s4 := (blk_cell (blk_below BSV.out HV.out) 4).trans rfl
      obtain ⟨W0, hW⟩ : ∃ W, W = wr := ⟨_, rfl⟩
      subst hW
      generalize hnm0 : NN m = n0
      generalize hem0 : E m = em
      have Hnm := Lib.hid hnm0
      have Hem := Lib.hid hem0
      clear hnm0 hem0
      go_wp2_with (go_at_call 35; refine (HMay.out _ HV.out m).mono ?_; rw [Hnm.out, Hem.out]; rintro e w6 ⟨X6, x6, X11, x11, rfl, _, hb⟩; have HV6 := Lib.hid (below_alloc (below_step HV.out hb) (.cells #[.string n0.f0, .bool n0.f1, .int .i64 n0.f2.f0, .int .i64 n0.f2.f1, .int .i64 n0.f2.f2, .int .i64 n0.f2.f3, .slice X6 n0.f3.length x6, .int .i64 n0.f4.f0, .int .i64 n0.f4.f1, .int .i64 n0.f4.f2, .int .i64 n0.f4.f3, .slice X11 n0.f5.length x11, .int .i64 n0.f6.f0, .int .i64 n0.f6.f1, .int .i64 n0.f6.f2, .int .i64 n0.f6.f3] 50)); clear hb)
      go_loopg [15, 16] 3 (fun k s15 s16 wr => ∃ (i : Nat) (kv : Int) (pv : Bool), i ≤ 3 ∧ 3 - i ≤ k ∧ s16 = .int .i64 kv ∧ s15 = .bool pv ∧ Hid (kv = kk i ∧ pv = pref E m i) ∧ Hid (Below V.heap.size V wr))
      case atStart => exact ⟨0, 1, true, by omega, Nat.le_refl _, rfl, rfl, Lib.hid ⟨rfl, rfl⟩, HV6⟩
      case round =>
        obtain ⟨i, kv, pv, hi, hik, rfl, rfl, HKP, HV7⟩ := hrel
        have qn0 := (blk_cell (blk_below BNV.out HV7.out) 0).trans rfl
        have q0 := (blk_cell (blk_below BSV.out HV7.out) 0).trans rfl
        have q1 := (blk_cell (blk_below BSV.out HV7.out) 1).trans rfl
        have q2 := (blk_cell (blk_below BSV.out HV7.out) 2).trans rfl
        have q3 := (blk_cell (blk_below BSV.out HV7.out) 3).trans rfl
        have q4 := (blk_cell (blk_below BSV.out HV7.out) 4).trans rfl
        by_cases hi3 : i < 3
        · rcases (show i = 0 ∨ i = 1 ∨ i = 2 by omega) with rfl | rfl | rfl
          · obtain ⟨hkv, hpv⟩ := HKP.out
            have hk1 : kv = 1 := hkv
            subst hk1
            have HPV := Lib.hid hpv
            clear hpv hkv
            by_cases hb0 : bits .and .i64 m 1 = 0
            · go_wp2_with (go_at_call 35; refine (HMay.out _ HV7.out 1).mono ?_; rintro e w8 ⟨Y6, y6, Y11, y11, rfl, _, hb⟩; have HV8 := Lib.hid (below_alloc (below_step HV7.out hb) (.cells #[.string (NN 1).f0, .bool (NN 1).f1, .int .i64 (NN 1).f2.f0, .int .i64 (NN 1).f2.f1, .int .i64 (NN 1).f2.f2, .int .i64 (NN 1).f2.f3, .slice Y6 (NN 1).f3.length y6, .int .i64 (NN 1).f4.f0, .int .i64 (NN 1).f4.f1, .int .i64 (NN 1).f4.f2, .int .i64 (NN 1).f4.f3, .slice Y11 (NN 1).f5.length y11, .int .i64 (NN 1).f6.f0, .int .i64 (NN 1).f6.f1, .int .i64 (NN 1).f6.f2, .int .i64 (NN 1).f6.f3] 50)); clear hb)
              go_roundg (3 - (0 + 1))
              case measure => omega
              case rel => exact ⟨0 + 1, 2, pv, by omega, Nat.le_refl _, by go_num, rfl, Lib.hid ⟨rfl, by rw [pref_succ0, ← HPV.out, okB_zero hb0, Bool.and_true]⟩, HV8⟩
            · by_cases he : E 1 = 0
              · go_wp2_with (go_at_call 35; refine (HMay.out _ HV7.out 1).mono ?_; rintro e w8 ⟨Y6, y6, Y11, y11, rfl, _, hb⟩; have HV8 := Lib.hid (below_alloc (below_step HV7.out hb) (.cells #[.string (NN 1).f0, .bool (NN 1).f1, .int .i64 (NN 1).f2.f0, .int .i64 (NN 1).f2.f1, .int .i64 (NN 1).f2.f2, .int .i64 (NN 1).f2.f3, .slice Y6 (NN 1).f3.length y6, .int .i64 (NN 1).f4.f0, .int .i64 (NN 1).f4.f1, .int .i64 (NN 1).f4.f2, .int .i64 (NN 1).f4.f3, .slice Y11 (NN 1).f5.length y11, .int .i64 (NN 1).f6.f0, .int .i64 (NN 1).f6.f1, .int .i64 (NN 1).f6.f2, .int .i64 (NN 1).f6.f3] 50)); clear hb)
                go_roundg (3 - (0 + 1))
                case measure => omega
                case rel => exact ⟨0 + 1, 2, pv, by omega, Nat.le_refl _, by go_num, rfl, Lib.hid ⟨rfl, by rw [pref_succ0, ← HPV.out, okB_yes he, Bool.and_true]⟩, HV8⟩
              · have hb1 : (bits .and .i64 m 1 != 0) = true := by simpa using hb0
                have he1 : (E 1 != 0) = true := by simpa using he
                go_wp2_with (go_at_call 35; refine (HMay.out _ HV7.out 1).mono ?_; rintro e w8 ⟨Y6, y6, Y11, y11, rfl, _, hb⟩; have HV8 := Lib.hid (below_alloc (below_step HV7.out hb) (.cells #[.string (NN 1).f0, .bool (NN 1).f1, .int .i64 (NN 1).f2.f0, .int .i64 (NN 1).f2.f1, .int .i64 (NN 1).f2.f2, .int .i64 (NN 1).f2.f3, .slice Y6 (NN 1).f3.length y6, .int .i64 (NN 1).f4.f0, .int .i64 (NN 1).f4.f1, .int .i64 (NN 1).f4.f2, .int .i64 (NN 1).f4.f3, .slice Y11 (NN 1).f5.length y11, .int .i64 (NN 1).f6.f0, .int .i64 (NN 1).f6.f1, .int .i64 (NN 1).f6.f2, .int .i64 (NN 1).f6.f3] 50)); clear hb)
                go_roundg (3 - (0 + 1))
                case measure => omega
                case rel => exact ⟨0 + 1, 2, false, by omega, Nat.le_refl _, by go_num, rfl, Lib.hid ⟨rfl, by rw [pref_succ0, okB_no hb0 he, Bool.and_false]⟩, HV8⟩
          · obtain ⟨hkv, hpv⟩ := HKP.out
            have hk1 : kv = 2 := hkv
            subst hk1
            have HPV := Lib.hid hpv
            clear hpv hkv
            by_cases hb0 : bits .and .i64 m 2 = 0
            · go_wp2_with (go_at_call 35; refine (HMay.out _ HV7.out 2).mono ?_; rintro e w8 ⟨Y6, y6, Y11, y11, rfl, _, hb⟩; have HV8 := Lib.hid (below_alloc (below_step HV7.out hb) (.cells #[.string (NN 2).f0, .bool (NN 2).f1, .int .i64 (NN 2).f2.f0, .int .i64 (NN 2).f2.f1, .int .i64 (NN 2).f2.f2, .int .i64 (NN 2).f2.f3, .slice Y6 (NN 2).f3.length y6, .int .i64 (NN 2).f4.f0, .int .i64 (NN 2).f4.f1, .int .i64 (NN 2).f4.f2, .int .i64 (NN 2).f4.f3, .slice Y11 (NN 2).f5.length y11, .int .i64 (NN 2).f6.f0, .int .i64 (NN 2).f6.f1, .int .i64 (NN 2).f6.f2, .int .i64 (NN 2).f6.f3] 50)); clear hb)
              go_roundg (3 - (1 + 1))
              case measure => omega
              case rel => exact ⟨1 + 1, 4, pv, by omega, Nat.le_refl _, by go_num, rfl, Lib.hid ⟨rfl, by rw [pref_succ1, ← HPV.out, okB_zero hb0, Bool.and_true]⟩, HV8⟩
            · by_cases he : E 2 = 0
              · go_wp2_with (go_at_call 35; refine (HMay.out _ HV7.out 2).mono ?_; rintro e w8 ⟨Y6, y6, Y11, y11, rfl, _, hb⟩; have HV8 := Lib.hid (below_alloc (below_step HV7.out hb) (.cells #[.string (NN 2).f0, .bool (NN 2).f1, .int .i64 (NN 2).f2.f0, .int .i64 (NN 2).f2.f1, .int .i64 (NN 2).f2.f2, .int .i64 (NN 2).f2.f3, .slice Y6 (NN 2).f3.length y6, .int .i64 (NN 2).f4.f0, .int .i64 (NN 2).f4.f1, .int .i64 (NN 2).f4.f2, .int .i64 (NN 2).f4.f3, .slice Y11 (NN 2).f5.length y11, .int .i64 (NN 2).f6.f0, .int .i64 (NN 2).f6.f1, .int .i64 (NN 2).f6.f2, .int .i64 (NN 2).f6.f3] 50)); clear hb)
                go_roundg (3 - (1 + 1))
                case measure => omega
                case rel => exact ⟨1 + 1, 4, pv, by omega, Nat.le_refl _, by go_num, rfl, Lib.hid ⟨rfl, by rw [pref_succ1, ← HPV.out, okB_yes he, Bool.and_true]⟩, HV8⟩
              · have hb1 : (bits .and .i64 m 2 != 0) = true := by simpa using hb0
                have he1 : (E 2 != 0) = true := by simpa using he
                go_wp2_with (go_at_call 35; refine (HMay.out _ HV7.out 2).mono ?_; rintro e w8 ⟨Y6, y6, Y11, y11, rfl, _, hb⟩; have HV8 := Lib.hid (below_alloc (below_step HV7.out hb) (.cells #[.string (NN 2).f0, .bool (NN 2).f1, .int .i64 (NN 2).f2.f0, .int .i64 (NN 2).f2.f1, .int .i64 (NN 2).f2.f2, .int .i64 (NN 2).f2.f3, .slice Y6 (NN 2).f3.length y6, .int .i64 (NN 2).f4.f0, .int .i64 (NN 2).f4.f1, .int .i64 (NN 2).f4.f2, .int .i64 (NN 2).f4.f3, .slice Y11 (NN 2).f5.length y11, .int .i64 (NN 2).f6.f0, .int .i64 (NN 2).f6.f1, .int .i64 (NN 2).f6.f2, .int .i64 (NN 2).f6.f3] 50)); clear hb)
                go_roundg (3 - (1 + 1))
                case measure => omega
                case rel => exact ⟨1 + 1, 4, false, by omega, Nat.le_refl _, by go_num, rfl, Lib.hid ⟨rfl, by rw [pref_succ1, okB_no hb0 he, Bool.and_false]⟩, HV8⟩
          · obtain ⟨hkv, hpv⟩ := HKP.out
            have hk1 : kv = 4 := hkv
            subst hk1
            have HPV := Lib.hid hpv
            clear hpv hkv
            by_cases hb0 : bits .and .i64 m 4 = 0
            · go_wp2_with (go_at_call 35; refine (HMay.out _ HV7.out 4).mono ?_; rintro e w8 ⟨Y6, y6, Y11, y11, rfl, _, hb⟩; have HV8 := Lib.hid (below_alloc (below_step HV7.out hb) (.cells #[.string (NN 4).f0, .bool (NN 4).f1, .int .i64 (NN 4).f2.f0, .int .i64 (NN 4).f2.f1, .int .i64 (NN 4).f2.f2, .int .i64 (NN 4).f2.f3, .slice Y6 (NN 4).f3.length y6, .int .i64 (NN 4).f4.f0, .int .i64 (NN 4).f4.f1, .int .i64 (NN 4).f4.f2, .int .i64 (NN 4).f4.f3, .slice Y11 (NN 4).f5.length y11, .int .i64 (NN 4).f6.f0, .int .i64 (NN 4).f6.f1, .int .i64 (NN 4).f6.f2, .int .i64 (NN 4).f6.f3] 50)); clear hb)
              go_roundg (3 - (2 + 1))
              case measure => omega
              case rel => exact ⟨2 + 1, 8, pv, by omega, Nat.le_refl _, by go_num, rfl, Lib.hid ⟨rfl, by rw [pref_succ2, ← HPV.out, okB_zero hb0, Bool.and_true]⟩, HV8⟩
            · by_cases he : E 4 = 0
              · go_wp2_with (go_at_call 35; refine (HMay.out _ HV7.out 4).mono ?_; rintro e w8 ⟨Y6, y6, Y11, y11, rfl, _, hb⟩; have HV8 := Lib.hid (below_alloc (below_step HV7.out hb) (.cells #[.string (NN 4).f0, .bool (NN 4).f1, .int .i64 (NN 4).f2.f0, .int .i64 (NN 4).f2.f1, .int .i64 (NN 4).f2.f2, .int .i64 (NN 4).f2.f3, .slice Y6 (NN 4).f3.length y6, .int .i64 (NN 4).f4.f0, .int .i64 (NN 4).f4.f1, .int .i64 (NN 4).f4.f2, .int .i64 (NN 4).f4.f3, .slice Y11 (NN 4).f5.length y11, .int .i64 (NN 4).f6.f0, .int .i64 (NN 4).f6.f1, .int .i64 (NN 4).f6.f2, .int .i64 (NN 4).f6.f3] 50)); clear hb)
                go_roundg (3 - (2 + 1))
                case measure => omega
                case rel => exact ⟨2 + 1, 8, pv, by omega, Nat.le_refl _, by go_num, rfl, Lib.hid ⟨rfl, by rw [pref_succ2, ← HPV.out, okB_yes he, Bool.and_true]⟩, HV8⟩
              · have hb1 : (bits .and .i64 m 4 != 0) = true := by simpa using hb0
                have he1 : (E 4 != 0) = true := by simpa using he
                go_wp2_with (go_at_call 35; refine (HMay.out _ HV7.out 4).mono ?_; rintro e w8 ⟨Y6, y6, Y11, y11, rfl, _, hb⟩; have HV8 := Lib.hid (below_alloc (below_step HV7.out hb) (.cells #[.string (NN 4).f0, .bool (NN 4).f1, .int .i64 (NN 4).f2.f0, .int .i64 (NN 4).f2.f1, .int .i64 (NN 4).f2.f2, .int .i64 (NN 4).f2.f3, .slice Y6 (NN 4).f3.length y6, .int .i64 (NN 4).f4.f0, .int .i64 (NN 4).f4.f1, .int .i64 (NN 4).f4.f2, .int .i64 (NN 4).f4.f3, .slice Y11 (NN 4).f5.length y11, .int .i64 (NN 4).f6.f0, .int .i64 (NN 4).f6.f1, .int .i64 (NN 4).f6.f2, .int .i64 (NN 4).f6.f3] 50)); clear hb)
                go_roundg (3 - (2 + 1))
                case measure => omega
                case rel => exact ⟨2 + 1, 8, false, by omega, Nat.le_refl _, by go_num, rfl, Lib.hid ⟨rfl, by rw [pref_succ2, okB_no hb0 he, Bool.and_false]⟩, HV8⟩
        · obtain rfl : i = 3 := by omega
          obtain ⟨hkv, hpv⟩ := HKP.out
          have hk1 : kv = 8 := hkv
          subst hk1
          have hlaw := HE.out m hm1 hm
          rw [Hem.out, ← hpv] at hlaw
          clear hpv hkv
          by_cases hez : em = 0
          · have hpt : pv = true := by rw [← hlaw]; exact decide_eq_true hez
            subst hpt
            clear hlaw
            subst hez
            go_wp2
            go_roundg (7 - m).toNat
            case measure => omega
            case rel => exact ⟨m + 1, by omega, by omega, by omega, by go_num, HV7⟩
          · have hpt : pv = false := by rw [← hlaw]; exact decide_eq_false hez
            subst hpt
            clear hlaw
            go_wp2
            go_roundg (7 - m).toNat
            case measure => omega
            case rel => exact ⟨m + 1, by omega, by omega, by omega, by go_num, HV7⟩
    · have hm8' : m = 8 := by omega
      subst hm8'
      go_wp2
      go_ret
      exact ⟨rfl, below_step HBV.out HV.out⟩
end Go.Proofs.YtmndeoncbocplaaDoor.C
