/- MonitorAsks: in any tree, of any path, such as may not be, too, a subject is told what the document says: the walk. -/
import Derived.Test.YtmndeoncbocplaaDoorMAskR
import Derived.Deep.LoopGhost
set_option linter.unusedVariables false
set_option linter.unusedSimpArgs false
section
set_option linter.unusedVariables false
set_option linter.unusedSimpArgs false
namespace Go.Proofs.YtmndeoncbocplaaDoor.C
open Go.RowKit Go.Proofs.YtmndeoncbocplaaDoor.Q Go.Proofs.YtmndeoncbocplaaDoorW.PrintWords Go.Proofs.YtmndeoncbocplaaDoorW.PrintLast Go.Proofs.YtmndeoncbocplaaDoorW.PrintMore
attribute [local go_sem ↓] rd_at50 wr_at50 al_at50 wr_at41
attribute [local go_sem] rd50_new wr50_new al50
theorem who_ne' {u : ByteArray} (h : IsWho u) : u ≠ star := by
  obtain ⟨k, hk, rfl⟩ := h
  have key : ∀ k : Fin 5, (⟨#[UInt8.ofNat (97 + k.val)]⟩ : ByteArray) ≠ star := by decide +kernel
  exact key ⟨k, hk⟩
theorem wi13_d (a n : Int) (h0 : 0 < n) (hn : n ≤ 4611686018427387904) : ∃ k : Nat, (k : Int) < n ∧ ∀ w : World, Calls Tryd.prog 34 #[.int .i64 a, .int .i64 n] w fun e w' => e = .returned (.int .i64 (k : Int)) ∧ Below w.heap.size w w' := by
  obtain ⟨t, ht, h1, h2⟩ := P.within_f a n h0 hn
  obtain ⟨k, rfl⟩ := Int.eq_ofNat_of_zero_le h1
  exact ⟨k, h2, fun w => (donjonlaw13_within.calls a n k w ht).mono fun _ _ ⟨he, hd⟩ => ⟨he, hd.below⟩⟩
set_option maxHeartbeats 4000000 in
set_option maxRecDepth 100000 in
theorem asks_c (terms : List S41) (makes : List S80) (l : List Int) (A B A2 : Option Addr) (c d c2 : Nat) (who : Int) (at0 : S41) (raw : ByteArray) (mode pick : Int) (w : World) (hC : Kd.C k41 w A terms.length terms) (hc : terms.length ≤ c) (hD : Kd.C k80 w B makes.length makes) (hd : makes.length ≤ d) (hE : Kd.C (Kd.int .i64) w A2 l.length l) (hc2 : l.length ≤ c2) :
    Calls Tryd.prog 12 #[.slice A terms.length c, .slice B makes.length d, .int .i64 who, .agg #[.int .i64 at0.f0, .int .i64 at0.f1, .int .i64 at0.f2, .int .i64 at0.f3], .string raw, .slice A2 l.length c2, .int .i64 mode, .int .i64 pick] w fun e w' => e = .returned (.bool true) ∧ Below w.heap.size w w' := by
  have HG := Lib.hid fun w1 (hb : Below w.heap.size w w1) => grow_c terms makes A B c d w1 (Kd.C_below hC hb) hc (Kd.C_below hD hb) hd
  have HCl := Lib.hid hE
  obtain ⟨ns0, hok0, hof⟩ := of_c l hE.2.1
  obtain ⟨p1, hp1⟩ : ∃ p, pth ns0 = p := ⟨_, rfl⟩
  rw [hp1] at hof
  have HOF := Lib.hid hof
  clear hC hD hE hof hp1 hok0
  obtain ⟨u, hws, hu⟩ := who_f who
  have HU := Lib.hid fun w1 => donjonlaw13_Who.calls who u w1 hu
  have HWS := Lib.hid hws
  clear hu hws
  have EB0 := Lib.hid (blk_new w (.cells #[.int .i64 at0.f0, .int .i64 at0.f1, .int .i64 at0.f2, .int .i64 at0.f3] 41))
  have HB0 := Lib.hid (below_alloc (Below.refl w.heap.size w) (.cells #[.int .i64 at0.f0, .int .i64 at0.f1, .int .i64 at0.f2, .int .i64 at0.f3] 41))
  by_cases hr : 500 < raw.size
  · go_enter Tryd.func12, Tryd.ntmps12
    go_wp2_with (go_at_call 31; refine (known13_c _).mono ?_; rintro e w1 ⟨rfl, hb⟩; have HB1 := Lib.hid (below_step HB0.out hb); have EB1 := Lib.hid (blk_below EB0.out hb); clear hb)
    go_ret
    exact ⟨rfl, HB1.out⟩
  · by_cases h30 : 0 < pick.tmod 3
    · have HH := Lib.hid True.intro
      go_enter Tryd.func12, Tryd.ntmps12
      go_wp2_with (first | (go_at_call 34; have hg := HC5.out; clear hg; refine (wi13_c _ _ _ (by omega) (by omega)).mono ?_; rintro e w5 ⟨k1, hk1, rfl, hb⟩; obtain ⟨ad2, A6, c6, A11, c11, hA2, hcs, HK⟩ := at50 HC5.out hb k1 (by have := HTL5.out; omega); obtain rfl := Option.some.inj hA2; obtain ⟨_, _, h2, h3, h4, h5, _⟩ := hcs; have HA := Lib.hid (HT5.out.ok _ (List.getElem_mem (l := t) (n := k1) (by have := HTL5.out; omega))).1; generalize (t[k1]'(by have := HTL5.out; omega)).f2 = a at h2 h3 h4 h5 HA; have EB6 := Lib.hid (blk_below EB5.out hb); have hst2 := wr41_blk (cs := #[.int .i64 a.f0, .int .i64 a.f1, .int .i64 a.f2, .int .i64 a.f3]) EB6.out rfl rfl (by simp [Value.oneCell']); obtain ⟨tt, hl, hC6, hT6, _⟩ := tree_turn (r := a) EB6.out (Kd.C_below HC5.out hb) HT5.out; have HC6 := Lib.hid hC6; have HT6 := Lib.hid hT6; have HTL6 := Lib.hid (hl.trans HTL5.out); have EB7 := Lib.hid (setRow_heap _ _ _ #[.int .i64 a.f0, .int .i64 a.f1, .int .i64 a.f2, .int .i64 a.f3] _ _ EB6.out); have HB6 := Lib.hid (below_setRow (below_step HB5.out hb) (Nat.le_refl _) #[.int .i64 a.f0, .int .i64 a.f1, .int .i64 a.f2, .int .i64 a.f3]); clear hb hl hC6 hT6 hA2 HK) | (go_at_call 33; refine (good_c at0 _).mono ?_; rintro e w4 ⟨q, rfl, hq, hb⟩; have HQ := Lib.hid hq; have HX4 := Lib.hid hb; have EB4 := Lib.hid (blk_below EB2.out hb); have hst := wr41_blk (cs := #[.int .i64 q.f0, .int .i64 q.f1, .int .i64 q.f2, .int .i64 q.f3]) EB4.out rfl rfl (by simp [Value.oneCell']); obtain ⟨t, hl, hC5, hT5, _⟩ := tree_turn (r := q) EB4.out (Kd.C_below HC2.out HX4.out) HT2.out; have HC5 := Lib.hid hC5; have HT5 := Lib.hid hT5; have HTL5 := Lib.hid (hl.trans HTL.out); have EB5 := Lib.hid (setRow_heap _ _ _ #[.int .i64 q.f0, .int .i64 q.f1, .int .i64 q.f2, .int .i64 q.f3] _ _ EB4.out); have HB5 := Lib.hid (below_setRow (below_step HB2.out HX4.out) (Nat.le_refl _) #[.int .i64 q.f0, .int .i64 q.f1, .int .i64 q.f2, .int .i64 q.f3]); clear hb hl hC5 hT5 hq) | (go_at_call 32; refine (HG.out _ HB1.out).mono ?_; rintro e w2 ⟨Ag, t0, cg, rfl, hT, hcg, hCt, hb⟩; obtain ⟨ad, rfl, _⟩ := hCt.2.2 (tree_ne hT); obtain ⟨tl, htl⟩ : ∃ n, t0.length = n := ⟨_, rfl⟩; have HT2 := Lib.hid hT; have HC2 := Lib.hid hCt; have HB2 := Lib.hid (below_step HB1.out hb); have EB2 := Lib.hid (blk_below EB1.out hb); have htl0 : 0 < tl := (by have := tree_ne hT; omega); have htl1 : tl ≤ 1000 := (by have := hT.len; omega); have hcl : tl ≤ cg := (by omega); have s0b := (blk_cell EB2.out 0).trans rfl; have s1b := (blk_cell EB2.out 1).trans rfl; have s2b := (blk_cell EB2.out 2).trans rfl; have s3b := (blk_cell EB2.out 3).trans rfl; rw [htl]; have HTL := Lib.hid htl; clear hT hCt hb hcg htl) | (go_at_call 31; refine (known13_c _).mono ?_; rintro e w1 ⟨rfl, hb⟩; have HB1 := Lib.hid (below_step HB0.out hb); have EB1 := Lib.hid (blk_below EB0.out hb); clear hb))
      trace_state
      all_goals first
      | (
      have HCV := HC6
      have HTV := HT6
      have HTLV := HTL6
      have EAV := EB7
      have HLA := HA
      have hbv := HB6.out
      clear hst hst2 HC6 HT6 HTL6 EB7 HA HB6 h2 h3 h4 h5 EB6 EB5 HB5 EB4 HX4 s0b s1b s2b s3b EB2 HB2 HC2 HT2 HTL EB1 HB1 EB0 HB0 HG
      skip
      skip
      skip
      skip
      generalize w5.setRow w.heap.size #[.int .i64 a.f0, .int .i64 a.f1, .int .i64 a.f2, .int .i64 a.f3] = V at HCV EAV hbv ⊢
      obtain ⟨k8, hk8, hW8⟩ := wi13_d mode 8 (by omega) (by omega)
      obtain ⟨k7, hk7, hW7⟩ := wi13_d mode 7 (by omega) (by omega)
      obtain ⟨kk, hkk, hWI⟩ := wi13_d (IntKind.i64.wrap (pick.tdiv 3)) (tl : Int) (by omega) (by omega)
      have hkt : kk < tt.length := by have := HTLV.out; omega
      obtain ⟨ad2, A6, c6, A11, c11, hA2, hcs, _⟩ := at50 HCV.out (Below.refl _ _) kk hkt
      obtain rfl := Option.some.inj hA2
      have HP0 := Lib.hid hcs.1
      obtain ⟨ns, hok, hp⟩ := tree_path HTV.out (List.getElem_mem (l := tt) (n := kk) hkt)
      rw [hp] at HP0
      have hjo := rjoin_f ns [120] hok.1 (by have := check_len hok.2; omega) (by decide)
      have hASK : ∀ p m, ∀ w1, Below V.heap.size V w1 → Calls Tryd.prog 44 #[.slice (some ad) tl cg, .string u, .agg #[.int .i64 a.f0, .int .i64 a.f1, .int .i64 a.f2, .int .i64 a.f3], .string p, .int .i64 m] w1 fun e w' => e = .returned (.bool true) ∧ Below w1.heap.size w1 w' := fun p m w1 hb => by
        have h := ask_c HTV.out u (who_ne' HWS.out) a HLA.out p m (some ad) cg w1 (Kd.C_below HCV.out hb) (by have := HTLV.out; omega)
        rw [HTLV.out] at h
        exact h
      refine rk9 who mode pick raw p1 (pth ns) (pth (ns ++ [[120]])) u A2 l.length c2 ad tl cg w.heap.size kk (k8 : Int) (k7 : Int) a _ _ _ _ _ _ _ _ _ _ _ _ _ _ _ _ _ _ _ _ _ _ _ _ _ _ _ _ _ _ _ _ _ _ _ _ _ _ _ _ _ _ _ _ _ _ _ _ _ _ _ _ _ _ _ _ _ _ _ _ _ _ _ _ _ _ _ _ _ _ _ _ _ _ _ _ _ _ _ _ _ _ _ _ _ _ _ _ _ _ _ _ _ _ V _ EAV.out HP0.out (by omega) (by omega) (by omega) HU.out (fun w1 hb => HOF.out A2 c2 w1 (Kd.C_below HCl.out (below_step hbv hb)) hc2) (fun w1 => (donjonref7_Join.calls (pth ns) ⟨#[120]⟩ (pth (ns ++ [[120]])) w1 hjo).mono fun e w' h => ⟨h.1, h.2.below⟩) hW8 hW7 hWI (hASK raw mode) (hASK p1 k8) (hASK (pth ns) _) (hASK (pth (ns ++ [[120]])) _) ?_
      intro w9 t44 t45 t46 t47 t48 t49 t50 t51 t52 t53 t54 t55 t56 t57 t58 t59 t60 t61 t62 t63 t64 t65 t66 t67 t68 t69 t70 t71 t72 t73 t74 t75 t76 t77 t78 t79 t80 t81 t82 t83 t84 t85 t86 t87 t88 t89 t90 t91 t92 t93 t94 t95 t96 t97 t98 t99 t100 hb
      have hfin := below_step hbv hb
      clear hW8 hW7 hWI hASK
      go_wp2
      go_ret
      exact ⟨rfl, hfin⟩
)
      | (
      have HCV := HC5
      have HTV := HT5
      have HTLV := HTL5
      have EAV := EB5
      have HLA := HQ
      have hbv := HB5.out
      clear hst HC5 HT5 HTL5 EB5 HQ HB5 EB4 HX4 s0b s1b s2b s3b EB2 HB2 HC2 HT2 HTL EB1 HB1 EB0 HB0 HG
      obtain ⟨a, hqa⟩ : ∃ a, a = q := ⟨_, rfl⟩
      subst hqa
      obtain ⟨tt, htt⟩ : ∃ x, x = t := ⟨_, rfl⟩
      subst htt
      generalize w4.setRow w.heap.size #[.int .i64 a.f0, .int .i64 a.f1, .int .i64 a.f2, .int .i64 a.f3] = V at HCV EAV hbv ⊢
      obtain ⟨k8, hk8, hW8⟩ := wi13_d mode 8 (by omega) (by omega)
      obtain ⟨k7, hk7, hW7⟩ := wi13_d mode 7 (by omega) (by omega)
      obtain ⟨kk, hkk, hWI⟩ := wi13_d (IntKind.i64.wrap (pick.tdiv 3)) (tl : Int) (by omega) (by omega)
      have hkt : kk < tt.length := by have := HTLV.out; omega
      obtain ⟨ad2, A6, c6, A11, c11, hA2, hcs, _⟩ := at50 HCV.out (Below.refl _ _) kk hkt
      obtain rfl := Option.some.inj hA2
      have HP0 := Lib.hid hcs.1
      obtain ⟨ns, hok, hp⟩ := tree_path HTV.out (List.getElem_mem (l := tt) (n := kk) hkt)
      rw [hp] at HP0
      have hjo := rjoin_f ns [120] hok.1 (by have := check_len hok.2; omega) (by decide)
      have hASK : ∀ p m, ∀ w1, Below V.heap.size V w1 → Calls Tryd.prog 44 #[.slice (some ad) tl cg, .string u, .agg #[.int .i64 a.f0, .int .i64 a.f1, .int .i64 a.f2, .int .i64 a.f3], .string p, .int .i64 m] w1 fun e w' => e = .returned (.bool true) ∧ Below w1.heap.size w1 w' := fun p m w1 hb => by
        have h := ask_c HTV.out u (who_ne' HWS.out) a HLA.out p m (some ad) cg w1 (Kd.C_below HCV.out hb) (by have := HTLV.out; omega)
        rw [HTLV.out] at h
        exact h
      refine rk9 who mode pick raw p1 (pth ns) (pth (ns ++ [[120]])) u A2 l.length c2 ad tl cg w.heap.size kk (k8 : Int) (k7 : Int) a _ _ _ _ _ _ _ _ _ _ _ _ _ _ _ _ _ _ _ _ _ _ _ _ _ _ _ _ _ _ _ _ _ _ _ _ _ _ _ _ _ _ _ _ _ _ _ _ _ _ _ _ _ _ _ _ _ _ _ _ _ _ _ _ _ _ _ _ _ _ _ _ _ _ _ _ _ _ _ _ _ _ _ _ _ _ _ _ _ _ _ _ _ _ V _ EAV.out HP0.out (by omega) (by omega) (by omega) HU.out (fun w1 hb => HOF.out A2 c2 w1 (Kd.C_below HCl.out (below_step hbv hb)) hc2) (fun w1 => (donjonref7_Join.calls (pth ns) ⟨#[120]⟩ (pth (ns ++ [[120]])) w1 hjo).mono fun e w' h => ⟨h.1, h.2.below⟩) hW8 hW7 hWI (hASK raw mode) (hASK p1 k8) (hASK (pth ns) _) (hASK (pth (ns ++ [[120]])) _) ?_
      intro w9 t44 t45 t46 t47 t48 t49 t50 t51 t52 t53 t54 t55 t56 t57 t58 t59 t60 t61 t62 t63 t64 t65 t66 t67 t68 t69 t70 t71 t72 t73 t74 t75 t76 t77 t78 t79 t80 t81 t82 t83 t84 t85 t86 t87 t88 t89 t90 t91 t92 t93 t94 t95 t96 t97 t98 t99 t100 hb
      have hfin := below_step hbv hb
      clear hW8 hW7 hWI hASK
      go_wp2
      go_ret
      exact ⟨rfl, hfin⟩
)
    · have HH := Lib.hid True.intro
      go_enter Tryd.func12, Tryd.ntmps12
      go_wp2_with (first | (go_at_call 33; refine (good_c at0 _).mono ?_; rintro e w4 ⟨q, rfl, hq, hb⟩; have HQ := Lib.hid hq; have HX4 := Lib.hid hb; have EB4 := Lib.hid (blk_below EB2.out hb); have hst := wr41_blk (cs := #[.int .i64 q.f0, .int .i64 q.f1, .int .i64 q.f2, .int .i64 q.f3]) EB4.out rfl rfl (by simp [Value.oneCell']); obtain ⟨t, hl, hC5, hT5, _⟩ := tree_turn (r := q) EB4.out (Kd.C_below HC2.out HX4.out) HT2.out; have HC5 := Lib.hid hC5; have HT5 := Lib.hid hT5; have HTL5 := Lib.hid (hl.trans HTL.out); have EB5 := Lib.hid (setRow_heap _ _ _ #[.int .i64 q.f0, .int .i64 q.f1, .int .i64 q.f2, .int .i64 q.f3] _ _ EB4.out); have HB5 := Lib.hid (below_setRow (below_step HB2.out HX4.out) (Nat.le_refl _) #[.int .i64 q.f0, .int .i64 q.f1, .int .i64 q.f2, .int .i64 q.f3]); clear hb hl hC5 hT5 hq) | (go_at_call 32; refine (HG.out _ HB1.out).mono ?_; rintro e w2 ⟨Ag, t0, cg, rfl, hT, hcg, hCt, hb⟩; obtain ⟨ad, rfl, _⟩ := hCt.2.2 (tree_ne hT); obtain ⟨tl, htl⟩ : ∃ n, t0.length = n := ⟨_, rfl⟩; have HT2 := Lib.hid hT; have HC2 := Lib.hid hCt; have HB2 := Lib.hid (below_step HB1.out hb); have EB2 := Lib.hid (blk_below EB1.out hb); have htl0 : 0 < tl := (by have := tree_ne hT; omega); have htl1 : tl ≤ 1000 := (by have := hT.len; omega); have hcl : tl ≤ cg := (by omega); have s0b := (blk_cell EB2.out 0).trans rfl; have s1b := (blk_cell EB2.out 1).trans rfl; have s2b := (blk_cell EB2.out 2).trans rfl; have s3b := (blk_cell EB2.out 3).trans rfl; rw [htl]; have HTL := Lib.hid htl; clear hT hCt hb hcg htl) | (go_at_call 31; refine (known13_c _).mono ?_; rintro e w1 ⟨rfl, hb⟩; have HB1 := Lib.hid (below_step HB0.out hb); have EB1 := Lib.hid (blk_below EB0.out hb); clear hb))
      all_goals (
      have HCV := HC5
      have HTV := HT5
      have HTLV := HTL5
      have EAV := EB5
      have HLA := HQ
      have hbv := HB5.out
      clear hst HC5 HT5 HTL5 EB5 HQ HB5 EB4 HX4 s0b s1b s2b s3b EB2 HB2 HC2 HT2 HTL EB1 HB1 EB0 HB0 HG
      obtain ⟨a, hqa⟩ : ∃ a, a = q := ⟨_, rfl⟩
      subst hqa
      obtain ⟨tt, htt⟩ : ∃ x, x = t := ⟨_, rfl⟩
      subst htt
      generalize w4.setRow w.heap.size #[.int .i64 a.f0, .int .i64 a.f1, .int .i64 a.f2, .int .i64 a.f3] = V at HCV EAV hbv ⊢
      obtain ⟨k8, hk8, hW8⟩ := wi13_d mode 8 (by omega) (by omega)
      obtain ⟨k7, hk7, hW7⟩ := wi13_d mode 7 (by omega) (by omega)
      obtain ⟨kk, hkk, hWI⟩ := wi13_d (IntKind.i64.wrap (pick.tdiv 3)) (tl : Int) (by omega) (by omega)
      have hkt : kk < tt.length := by have := HTLV.out; omega
      obtain ⟨ad2, A6, c6, A11, c11, hA2, hcs, _⟩ := at50 HCV.out (Below.refl _ _) kk hkt
      obtain rfl := Option.some.inj hA2
      have HP0 := Lib.hid hcs.1
      obtain ⟨ns, hok, hp⟩ := tree_path HTV.out (List.getElem_mem (l := tt) (n := kk) hkt)
      rw [hp] at HP0
      have hjo := rjoin_f ns [120] hok.1 (by have := check_len hok.2; omega) (by decide)
      have hASK : ∀ p m, ∀ w1, Below V.heap.size V w1 → Calls Tryd.prog 44 #[.slice (some ad) tl cg, .string u, .agg #[.int .i64 a.f0, .int .i64 a.f1, .int .i64 a.f2, .int .i64 a.f3], .string p, .int .i64 m] w1 fun e w' => e = .returned (.bool true) ∧ Below w1.heap.size w1 w' := fun p m w1 hb => by
        have h := ask_c HTV.out u (who_ne' HWS.out) a HLA.out p m (some ad) cg w1 (Kd.C_below HCV.out hb) (by have := HTLV.out; omega)
        rw [HTLV.out] at h
        exact h
      refine rk9 who mode pick raw p1 (pth ns) (pth (ns ++ [[120]])) u A2 l.length c2 ad tl cg w.heap.size kk (k8 : Int) (k7 : Int) a _ _ _ _ _ _ _ _ _ _ _ _ _ _ _ _ _ _ _ _ _ _ _ _ _ _ _ _ _ _ _ _ _ _ _ _ _ _ _ _ _ _ _ _ _ _ _ _ _ _ _ _ _ _ _ _ _ _ _ _ _ _ _ _ _ _ _ _ _ _ _ _ _ _ _ _ _ _ _ _ _ _ _ _ _ _ _ _ _ _ _ _ _ _ V _ EAV.out HP0.out (by omega) (by omega) (by omega) HU.out (fun w1 hb => HOF.out A2 c2 w1 (Kd.C_below HCl.out (below_step hbv hb)) hc2) (fun w1 => (donjonref7_Join.calls (pth ns) ⟨#[120]⟩ (pth (ns ++ [[120]])) w1 hjo).mono fun e w' h => ⟨h.1, h.2.below⟩) hW8 hW7 hWI (hASK raw mode) (hASK p1 k8) (hASK (pth ns) _) (hASK (pth (ns ++ [[120]])) _) ?_
      intro w9 t44 t45 t46 t47 t48 t49 t50 t51 t52 t53 t54 t55 t56 t57 t58 t59 t60 t61 t62 t63 t64 t65 t66 t67 t68 t69 t70 t71 t72 t73 t74 t75 t76 t77 t78 t79 t80 t81 t82 t83 t84 t85 t86 t87 t88 t89 t90 t91 t92 t93 t94 t95 t96 t97 t98 t99 t100 hb
      have hfin := below_step hbv hb
      clear hW8 hW7 hWI hASK
      go_wp2
      go_ret
      exact ⟨rfl, hfin⟩
)
end Go.Proofs.YtmndeoncbocplaaDoor.C
end
