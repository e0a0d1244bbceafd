/- MonitorHigher: whoever may read at a label may, by labels, at every one that is over it: the walk. -/
import Derived.Test.YtmndeoncbocplaaDoorCRH
import Derived.Test.YtmndeoncbocplaaDoorD5
import Derived.Test.YtmndeoncbocplaaDoorD6
set_option linter.unusedVariables false
set_option linter.unusedSimpArgs false
namespace Go.Proofs.YtmndeoncbocplaaDoor.C
open Go.RowKit Go.Proofs.YtmndeoncbocplaaDoor.Q Go.Proofs.YtmndeoncbocplaaDoorW.PrintWords Go.Proofs.YtmndeoncbocplaaDoorW.PrintLast Go.Proofs.YtmndeoncbocplaaDoorW.PrintMore
attribute [local go_sem ↓] rd_at50 wr_at50 al_at50
attribute [local go_sem] rd50_new wr50_new al50 build50
set_option maxHeartbeats 8000000 in
set_option maxRecDepth 100000 in
theorem higher_c (terms : List S41) (makes : List S80) (A B : Option Addr) (c d : Nat) (who : Int) (up : S41) (pick : Int) (w : World) (hC : Kd.C k41 w A terms.length terms) (hc : terms.length ≤ c) (hD : Kd.C k80 w B makes.length makes) (hd : makes.length ≤ d) :
    Calls Tryd.prog 9 #[.slice A terms.length c, .slice B makes.length d, .int .i64 who, .agg #[.int .i64 up.f0, .int .i64 up.f1, .int .i64 up.f2, .int .i64 up.f3], .int .i64 pick] w fun e w' => e = .returned (.bool true) ∧ Below w.heap.size w w' := by
  have HG := Lib.hid fun w1 (hb : Below w.heap.size w w1) => grow_c terms makes A B c d w1 (Kd.C_below hC hb) hc (Kd.C_below hD hb) hd
  clear hC hD
  obtain ⟨u, _, hu⟩ := who_f who
  have HU := Lib.hid fun w1 => donjonlaw13_Who.calls who u w1 hu
  clear hu
  have EB0 := Lib.hid (blk_new w (.cells #[.int .i64 up.f0, .int .i64 up.f1, .int .i64 up.f2, .int .i64 up.f3] 41))
  have HB0 := Lib.hid (below_alloc (Below.refl w.heap.size w) (.cells #[.int .i64 up.f0, .int .i64 up.f1, .int .i64 up.f2, .int .i64 up.f3] 41))
  go_enter Tryd.func9, Tryd.ntmps9
  go_wp2_with (first | (go_at_call 34; have hg := HX3.out; clear hg; refine (wi13_c _ _ _ (by have := HL.out; omega) (by have := HL.out; omega)).mono ?_; rintro e w4 ⟨k2, hk2, rfl, hb⟩; obtain ⟨ad2, D6, d6, D11, d11, hA2, hcs2, HK2⟩ := at50 HCt.out (below_step HX3.out hb) k2 (by omega); obtain rfl := Option.some.inj hA2; obtain ⟨_, _, h2, h3, h4, h5, _⟩ := hcs2; have HM2 := Lib.hid (HT.out.ok _ (List.getElem_mem (l := t) (n := k2) (by omega))).1; generalize (t[k2]'(by omega)).f2 = a at h2 h3 h4 h5 HM2; have HX4 := Lib.hid (below_alloc (below_step HX3.out hb) (.cells #[.int .i64 a.f0, .int .i64 a.f1, .int .i64 a.f2, .int .i64 a.f3] 41)); have BN4 := Lib.hid (blk_alloc (blk_below BN3.out hb) (.cells #[.int .i64 a.f0, .int .i64 a.f1, .int .i64 a.f2, .int .i64 a.f3] 41)); have EB4 := Lib.hid (blk_alloc (blk_below EB3.out hb) (.cells #[.int .i64 a.f0, .int .i64 a.f1, .int .i64 a.f2, .int .i64 a.f3] 41)); have BA4 := Lib.hid (blk_new w4 (.cells #[.int .i64 a.f0, .int .i64 a.f1, .int .i64 a.f2, .int .i64 a.f3] 41)); clear HK2 hb) | (go_at_call 34; refine (wi13_c _ _ _ (by have := HL.out; omega) (by have := HL.out; omega)).mono ?_; rintro e w3 ⟨k1, hk1, rfl, hb⟩; obtain ⟨ad, A6, c6, A11, c11, rfl, hcs, HK⟩ := at50 HCt.out hb k1 (by omega); have hld := rd50_of (loadC50 (P := Tryd.prog) hcs); have HM1 := Lib.hid (List.getElem_mem (l := t) (n := k1) (by omega)); generalize t[k1]'(by omega) = n at hld HM1; have HX3 := Lib.hid (below_alloc hb (.cells #[.string n.f0, .bool n.f1, .int .i64 n.f2.f0, .int .i64 n.f2.f1, .int .i64 n.f2.f2, .int .i64 n.f2.f3, .slice A6 n.f3.length c6, .int .i64 n.f4.f0, .int .i64 n.f4.f1, .int .i64 n.f4.f2, .int .i64 n.f4.f3, .slice A11 n.f5.length c11, .int .i64 n.f6.f0, .int .i64 n.f6.f1, .int .i64 n.f6.f2, .int .i64 n.f6.f3] 50)); have BN3 := Lib.hid (blk_new w3 (.cells #[.string n.f0, .bool n.f1, .int .i64 n.f2.f0, .int .i64 n.f2.f1, .int .i64 n.f2.f2, .int .i64 n.f2.f3, .slice A6 n.f3.length c6, .int .i64 n.f4.f0, .int .i64 n.f4.f1, .int .i64 n.f4.f2, .int .i64 n.f4.f3, .slice A11 n.f5.length c11, .int .i64 n.f6.f0, .int .i64 n.f6.f1, .int .i64 n.f6.f2, .int .i64 n.f6.f3] 50)); have EB3 := Lib.hid (blk_alloc (blk_below EB2.out hb) (.cells #[.string n.f0, .bool n.f1, .int .i64 n.f2.f0, .int .i64 n.f2.f1, .int .i64 n.f2.f2, .int .i64 n.f2.f3, .slice A6 n.f3.length c6, .int .i64 n.f4.f0, .int .i64 n.f4.f1, .int .i64 n.f4.f2, .int .i64 n.f4.f3, .slice A11 n.f5.length c11, .int .i64 n.f6.f0, .int .i64 n.f6.f1, .int .i64 n.f6.f2, .int .i64 n.f6.f3] 50)); clear hcs HK hb) | (go_at_call 32; refine (HG.out _ HB1.out).mono ?_; rintro e w2 ⟨Ag, t, cg, rfl, hT, hcg, hCt, hb⟩; have HT := Lib.hid hT; have HCt := Lib.hid hCt; have HB2 := Lib.hid (below_step HB1.out hb); have EB2 := Lib.hid (blk_below EB1.out hb); have HL := Lib.hid (And.intro (tree_ne hT) hT.len); have Hcg := Lib.hid hcg; clear hT hCt hb hcg) | (go_at_call 31; refine (known13_c _).mono ?_; rintro e w1 ⟨rfl, hb⟩; have HB1 := Lib.hid (below_step HB0.out hb); have EB1 := Lib.hid (blk_below EB0.out hb); clear hb))
  obtain ⟨ns, hok, hp⟩ := tree_path HT.out HM1.out
  have HOK := Lib.hid hok
  have HPP := Lib.hid hp
  have HNc := Lib.hid (show (#[.string n.f0, .bool n.f1, .int .i64 n.f2.f0, .int .i64 n.f2.f1, .int .i64 n.f2.f2, .int .i64 n.f2.f3, .slice A6 n.f3.length c6, .int .i64 n.f4.f0, .int .i64 n.f4.f1, .int .i64 n.f4.f2, .int .i64 n.f4.f3, .slice A11 n.f5.length c11, .int .i64 n.f6.f0, .int .i64 n.f6.f1, .int .i64 n.f6.f2, .int .i64 n.f6.f3] : Array Value)[0]? = some (.string n.f0) from rfl)
  clear hok hp
  generalize w4.alloc (.cells #[.int .i64 a.f0, .int .i64 a.f1, .int .i64 a.f2, .int .i64 a.f3] 41) = V at HX4 BN4 EB4 BA4 ⊢
  refine rh6 a up w4.heap.size w.heap.size _ _ _ _ _ _ _ _ _ _ _ _ _ _ _ _ _ _ _ _ _ _ _ _ _ _ _ _ _ _ _ _ _ _ _ _ _ _ _ _ _ _ _ _ _ _ _ _ _ _ _ _ _ _ _ _ _ _ _ _ _ _ _ _ _ _ _ _ _ _ V _ BA4.out EB4.out ?_
  intro g w5 q t40 t41 t42 t43 hJ hq hb5
  have HJ5 := Lib.hid hJ
  have HQ := Lib.hid hq
  have HX5 := Lib.hid (below_step HX4.out hb5)
  have BA5 := Lib.hid (blk_below BA4.out hb5)
  have BN5 := Lib.hid (blk_below BN4.out hb5)
  clear hJ hq hb5
  have HQ2 := Lib.hid (join_lab HM2.out HQ.out).1
  have HLaw := Lib.hid (higher_law HT.out a q HM2.out HQ.out u ns)
  obtain ⟨x1, hx1⟩ : ∃ x, (mayR t a u ns 1).1 = x := ⟨_, rfl⟩
  obtain ⟨e1, he1⟩ : ∃ x, (mayR t a u ns 1).2 = x := ⟨_, rfl⟩
  obtain ⟨x2, hx2⟩ : ∃ x, (mayR t (joinS a q) u ns 1).1 = x := ⟨_, rfl⟩
  obtain ⟨e2, he2⟩ : ∃ x, (mayR t (joinS a q) u ns 1).2 = x := ⟨_, rfl⟩
  rw [he1, he2] at HLaw
  have HE1 := Lib.hid he1
  have HE2 := Lib.hid he2
  have HX1 := Lib.hid hx1
  have HX2 := Lib.hid hx2
  clear hx1 hx2 he1 he2
  generalize joinS a q = j at HJ5 HQ2 HE2 HX2 HLaw
  go_wp2
  refine rh7 who ad t.length cg n.f0 w4.heap.size w3.heap.size _ _ u a x1 e1 _ _ _ _ _ _ _ _ _ _ _ _ _ _ _ _ _ _ _ _ _ _ _ _ _ _ _ _ _ _ _ _ _ _ _ _ _ _ _ _ _ _ _ _ _ _ _ _ _ _ _ _ _ _ _ _ _ _ _ _ _ _ _ _ _ _ _ _ w5 _ BA5.out BN5.out HNc.out HU.out (fun w1 hb => may_t HT.out u a ns HOK.out n.f0 HPP.out.symm 1 x1 e1 HX1.out HE1.out (some ad) cg w1 (Kd.C_below HCt.out (below_step HX5.out hb)) Hcg.out) ?_
  intro w6 t15 t44 t45 t46 t47 t48 t49 t50 t51 t52 t53 t54 hb6
  have HX6 := Lib.hid (below_step HX5.out hb6)
  have HJ6 := Lib.hid (blk_below HJ5.out hb6)
  have BN6 := Lib.hid (blk_below BN5.out hb6)
  clear hb6
  go_wp2
  refine rh8 who ad t.length cg n.f0 g w3.heap.size _ _ u j x2 e2 _ _ _ _ _ _ _ _ _ _ _ _ _ _ _ _ _ _ _ _ _ _ _ _ _ _ _ _ _ _ _ _ _ _ _ _ _ _ _ _ _ _ _ _ _ _ _ _ _ _ _ _ _ _ _ _ _ _ _ _ _ _ _ _ _ _ _ _ w6 _ HJ6.out BN6.out HNc.out HU.out (fun w1 hb => may_t HT.out u j ns HOK.out n.f0 HPP.out.symm 1 x2 e2 HX2.out HE2.out (some ad) cg w1 (Kd.C_below HCt.out (below_step HX6.out hb)) Hcg.out) ?_
  intro w7 t17 t55 t56 t57 t58 t59 t60 t61 t62 t63 t64 t65 hb7
  have HX7 := Lib.hid (below_step HX6.out hb7)
  clear hb7
  by_cases he : e1 = 0
  · have hf := HLaw.out he
    subst he
    subst hf
    go_wp2
    go_ret
    exact ⟨rfl, below_step HB2.out HX7.out⟩
  · have hne : (e1 != 0) = true := by simpa using he
    go_wp2
    go_ret
    exact ⟨rfl, below_step HB2.out HX7.out⟩
end Go.Proofs.YtmndeoncbocplaaDoor.C
