/- Texts that the claim's law stands on, cut down to what it reaches. -/
import Derived.Test.YteilkbookcmndaaGreatDoorHR
import Derived.Deep.RegionHeldLaw
import Derived.Deep.RegionHeld3
import Derived.Deep.LoopGhost
import Derived.Test.YteilkbookcmndaaGreatDoorHB2
import Derived.Test.YteilkbookcmndaaGreatDoorHX5
set_option linter.unusedVariables false
set_option linter.unusedSimpArgs false
section
set_option linter.unusedVariables false
set_option linter.unusedSimpArgs false
namespace Go.Proofs.YteilkbookcmndaaGreatDoor.C
open Go.RowKit Go.Proofs.YteilkbookcmndaaGreatDoor.Q Go.Proofs.YteilkbookcmndaaGreatDoorW.PrintWords Go.Proofs.YteilkbookcmndaaGreatDoorW.PrintLast Go.Proofs.YteilkbookcmndaaGreatDoorW.PrintMore
attribute [local go_sem ↓] rd_at50 wr_at50 al_at50
attribute [local go_sem] rd50_new wr50_new al50
theorem nrowF_put {W : World} {g B i : Nat} {l : List S50} {cur : List Value} {x : S50} {cs : List Value} (h : NRowF W g B l.length l cur) (hi : i < l.length) (hx : k50.FK W (fun k => B ≤ k ∧ k ≠ g) x cs) : NRowF (W.setRow g (splice cur (i * 16) cs).toArray) g B (l.set i x).length (l.set i x) (splice cur (i * 16) cs) := by
 obtain ⟨h0, h4⟩ := h
 refine ⟨nrow_set h0 hi (hx.mono fun k hk => hk.2), fun j hj y hy => ?_⟩
 have hl := fk_len hx
 have hm : ∀ {y : S50} {c : List Value}, k50.FK W (fun k => B ≤ k ∧ k ≠ g) y c → k50.FK (W.setRow g (splice cur (i * 16) cs).toArray) (fun k => B ≤ k ∧ k ≠ g) y c := fun hy => hy.step fun k hk _ => setRow_other W g k _ hk.2
 have h2 := h0.2.1
 have hfit : i * 16 + cs.length ≤ cur.length := by omega
 rw [List.length_set] at hj
 rw [List.getElem?_set] at hy
 by_cases hij : i = j
 ·subst hij
  rw [if_pos rfl, if_pos hi] at hy
  obtain rfl := Option.some.inj hy
  have := splice_in cur cs (i * 16) hfit
  rw [hl] at this
  rw [this]
  exact hm hx
 ·rw [if_neg hij] at hy
  by_cases hji : j < i
  ·rw [splice_ahead cur cs (i * 16) (j * 16) 16 (by omega) hfit]
   exact hm (h4 j hj y hy)
  ·rw [splice_behind cur cs (i * 16) (j * 16) 16 (by omega) hfit]
   exact hm (h4 j hj y hy)
set_option maxHeartbeats 16000000 in
set_option maxRecDepth 1000000 in
theorem tput1_cF (l : List S50) (n : S50) (cs : List Value) (A : Option Addr) (c : Nat) (w : World) (hC : Kd.C k50 w A l.length l) (hc : l.length ≤ c) (hn : l.length < 100000) (hR : RisingN l n.f0) (hF : ∀ m ∈ l, Fits m) (hK : k50.K w n cs) (hFn : Fits n) (h1 : isN l n.f0 = true) (l2 : List S50) (hl2 : l.set (atN l n.f0) n = l2) :
  Calls Tryz.prog 150 #[.slice A l.length c, .agg cs.toArray] w fun e w' => ∃ A' c', e = .returned (.slice A' l2.length c') ∧ l2.length ≤ c' ∧ Kd.F k50 w' (fun k => w.heap.size ≤ k) A' l2.length l2 ∧ Below w.heap.size w w' := by
 obtain ⟨A6, c6, A11, c11, rfl, _⟩ := k50_open hK
 have HTW := Lib.hid fun w1 (hb : Below w.heap.size w w1) => twins_cF l A c w1 (Kd.C_below hC hb) hc (by omega) hF
 have HPL := Lib.hid fun (g : Nat) (w1 : World) (h : Kd.C k50 w1 (some ⟨g, 0, none⟩) l.length l) => placeN l n.f0 (some ⟨g, 0, none⟩) l.length w1 h (Nat.le_refl _) (by omega) hR
 have HT1 := Lib.hid fun (w1 : World) (hb : Below w.heap.size w w1) => twin_c n _ w1 (k50.K_below hb hK) hFn
 have HLE := Lib.hid (at_leN l n.f0)
 have HLT := Lib.hid (fun h => isN_lt h : isN l n.f0 = true → atN l n.f0 < l.length)
 clear hC hR hF hK hFn
 generalize atN l n.f0 = i at HPL HLE HLT hl2
 rw [h1] at HPL HLT
 clear h1
 have HBX := Lib.hid (blk_new w (.cells #[.string n.f0, .bool n.f1, .int .i64 n.f2.f0, .int .i64 n.f2.f1, .int .i64 n.f2.f2, .int .i64 n.f2.f3, .slice A6 n.f3.length c6, .int .i64 n.f4.f0, .int .i64 n.f4.f1, .int .i64 n.f4.f2, .int .i64 n.f4.f3, .slice A11 n.f5.length c11, .int .i64 n.f6.f0, .int .i64 n.f6.f1, .int .i64 n.f6.f2, .int .i64 n.f6.f3] 36))
 have HB0 := Lib.hid (below_alloc (Below.refl w.heap.size w) (.cells #[.string n.f0, .bool n.f1, .int .i64 n.f2.f0, .int .i64 n.f2.f1, .int .i64 n.f2.f2, .int .i64 n.f2.f3, .slice A6 n.f3.length c6, .int .i64 n.f4.f0, .int .i64 n.f4.f1, .int .i64 n.f4.f2, .int .i64 n.f4.f3, .slice A11 n.f5.length c11, .int .i64 n.f6.f0, .int .i64 n.f6.f1, .int .i64 n.f6.f2, .int .i64 n.f6.f3] 36))
 go_enter Tryz.func150, Tryz.ntmps150
 have hi := HLT.out rfl
 subst hl2
 go_wp2_with (first | (go_at_call 49; go_loud (refine (HTW.out _ HB0.out).mono ?_; rintro e w1 ⟨g, cur, rfl, hg, hcl, hN, hb⟩; have HN1 := Lib.hid hN; have HB1 := Lib.hid (below_step HB0.out hb); have HG1 := Lib.hid (show w.heap.size + 1 ≤ g by simpa using hg); have HX1 := Lib.hid (blk_below HBX.out hb); have hp0 := (blk_cell HX1.out 0).trans rfl; clear hb hN hg)) | (go_at_call 50; go_loud (refine (HPL.out g _ (nrow_C HN1.out.1 (by omega))).mono ?_; rintro e w2 ⟨rfl, hb⟩; have HN2 := Lib.hid (nrowF_below HN1.out hb); have HB2 := Lib.hid (below_step HB1.out hb); have HX2 := Lib.hid (blk_below HX1.out hb); have hld := rd50_blk HX2.out rfl; clear hb)) | (go_at_call 70; go_loud (refine (HT1.out _ HB2.out).mono ?_; rintro e w3 ⟨cs2, rfl, hfk, hb⟩; have HN3 := Lib.hid (nrowF_below HN2.out hb); have HB3 := Lib.hid (below_step HB2.out hb); have hgl := blk_lt HN2.out.1.1; have HFK := Lib.hid hfk; have hst := wr50_in (o := i * 16) (cs := cs2.toArray) HN3.out.1.1 (by omega) (by rw [List.size_toArray]; exact fk_len HFK.out) (Array.all_eq_true_iff_forall_mem.2 fun v hv => fk_one HFK.out v (by simpa using hv)); clear hb hfk)))
 go_ret
 have hgB := HG1.out
 have hsz : ∀ o : Obj, (w.alloc o).heap.size = w.heap.size + 1 := fun o => World.size_alloc w o
 have HN4 := nrowF_put (i := i) (x := n) HN3.out hi (HFK.out.mono fun k hk => ⟨by rw [hsz]; omega, by omega⟩)
 refine ⟨some ⟨g, 0, none⟩, l.length, by rw [List.length_set]; rfl, by rw [List.length_set]; exact Nat.le_refl _, Kd.F_mono (nrowF_C HN4 (by rw [hsz]; omega) (by rw [List.length_set]; omega)) (fun k hk => by rw [hsz] at hk; omega), below_setRow HB3.out (by omega) _⟩
end Go.Proofs.YteilkbookcmndaaGreatDoor.C
end
section
set_option linter.unusedVariables false
set_option linter.unusedSimpArgs false
namespace Go.Proofs.YteilkbookcmndaaGreatDoor.C
open Go.RowKit Go.Proofs.YteilkbookcmndaaGreatDoor.Q Go.Proofs.YteilkbookcmndaaGreatDoorW.PrintWords Go.Proofs.YteilkbookcmndaaGreatDoorW.PrintLast Go.Proofs.YteilkbookcmndaaGreatDoorW.PrintMore
attribute [local go_sem ↓] rd_at50 wr_at50 al_at50
attribute [local go_sem] rd50_new wr50_new al50
set_option maxHeartbeats 2000000 in
set_option maxRecDepth 100000 in
theorem clone110M (xs : List S96) (A : Option Addr) (c : Nat) (w : World) (hC : Kd.C k96 w A xs.length xs) (hbig : xs.length * 24 ≤ 140737488355328) :
  Calls Tryz.prog 95 #[.slice A xs.length c] w fun e w' => ∃ v, e = .returned v ∧ Kd.R k96 85 w' w.heap.size (fun k => w.heap.size ≤ k) v xs ∧ Below w.heap.size w w' := by
 have q22 : ∀ (w : World) (a : Option Addr) (n c n' c' : Nat), (binOp .eql 31 (.slice a n c) (.slice none n' c')).run Tryz.prog w = .ok (.bool a.isNone) w := fun w a n c n' c' => Lib.run_eql_slice_nil w _ _ a n c n' c' Tryz.underlying31
 have hz := Tryz.zeroValue85
 have u22 : ∀ w, Sem.run Tryz.prog (underlying 31) w = .ok (TypeDesc.slice 85) w := run_underlying Tryz.underlying31
 have hinfo : (Tryz.prog.info? 85).map (fun i => (i.zero, i.size, i.bytes)) = some (some (.agg #[.string (⟨#[]⟩ : ByteArray), .int .i64 0]), 2, 24) := by kernel_rfl
 cases A with
 | none =>
  have h0 : xs = [] := by
   cases xs with
   | nil => rfl
   | cons x l => obtain ⟨ad, h, _⟩ := hC.2.2 (Nat.succ_pos _); cases h
  subst h0
  go_enter Tryz.func95, Tryz.ntmps95
  go_wp2
  go_ret
  exact ⟨_, rfl, Kd.R_nil _ _ _ _ _, Below.refl _ _⟩
 | some ad =>
  obtain ⟨news, hr, hc⟩ := ReadsRow.inner_ hC
  have H1 := Lib.hid (fun u hu => Reps_one (d := k96) hr u hu : ∀ u ∈ news, u.oneCell' = true)
  have HC := Lib.hid hc
  have HR := Lib.hid hr
  have hlen : news.length = xs.length * 2 := hr.1
  have hmax := hC.2.1
  clear hc hr hC
  obtain ⟨i0, hi0, hv⟩ := Option.map_eq_some_iff.1 hinfo
  clear hinfo
  obtain ⟨hz0, hz1, hz2⟩ : i0.zero = some (.agg #[.string (⟨#[]⟩ : ByteArray), .int .i64 0]) ∧ i0.size = 2 ∧ i0.bytes = 24 := by simpa using hv
  clear hv
  go_enter Tryz.func95, Tryz.ntmps95
  go_wp2_with (at_builtin; refine wpList_append_own _ rfl _ _ 31 rfl w.heap.size 85 i0 (.agg #[.string (⟨#[]⟩ : ByteArray), .int .i64 0]) 2 24 Tryz.underlying31 hi0 hz0 hz1 hz2 rfl (by decide) _ _ _ rfl (World.ownsRow_made w #[] 0 (Nat.le_refl _) (Nat.zero_le _) (by simp)) ad xs.length c news rfl ?qc1 ?qc2 ?qc3 ?qc4 ?qc5 ?qc6 ?_)
  case qc1 => exact hlen
  case qc2 =>
   intro j u hj
   exact Lib.cell?_alloc_some _ (HC.out j u hj)
  case qc3 => exact H1.out
  case qc4 => rw [Nat.zero_add]; exact hmax
  case qc5 => rw [Nat.zero_add]; exact hbig
  case qc6 => simp
  intro v' w1 hown hgrow hnil
  go_wp2
  go_ret
  have hb : Below w.heap.size w w1 := ((Below.refl _ w).alloc (Nat.le_refl _) _).grown hgrow (by simp) (by intro k hk; simp [Value.ownBlock] at hk; omega)
  have hO : OwnRow (k96.M w1 w.heap.size (fun k => w.heap.size ≤ k ∧ some k ≠ v'.ownBlock)) 85 2 w1 w.heap.size v' xs := ⟨news, by simpa using hown, HR.out.imp_ fun _ _ h => by rw [k96_open h]; exact k96_mkM _ _ _ _⟩
  have hR : k96.R 85 w1 w.heap.size (fun k => w.heap.size ≤ k) v' xs := ⟨own_base hO.choose_spec.1, hO⟩
  exact ⟨v', rfl, hR, hb⟩
set_option maxHeartbeats 2000000 in
set_option maxRecDepth 100000 in
theorem clone111M (xs : List Int) (A : Option Addr) (c : Nat) (w : World) (hC : Kd.C (Kd.int .i64) w A xs.length xs) (hbig : xs.length * 8 ≤ 140737488355328) :
  Calls Tryz.prog 96 #[.slice A xs.length c] w fun e w' => ∃ v, e = .returned v ∧ Kd.R (Kd.int .i64) 2 w' w.heap.size (fun k => w.heap.size ≤ k) v xs ∧ Below w.heap.size w w' := by
 have q22 : ∀ (w : World) (a : Option Addr) (n c n' c' : Nat), (binOp .eql 34 (.slice a n c) (.slice none n' c')).run Tryz.prog w = .ok (.bool a.isNone) w := fun w a n c n' c' => Lib.run_eql_slice_nil w _ _ a n c n' c' Tryz.underlying34
 have hz := Tryz.zeroValue2
 have u22 : ∀ w, Sem.run Tryz.prog (underlying 34) w = .ok (TypeDesc.slice 2) w := run_underlying Tryz.underlying34
 have hinfo : (Tryz.prog.info? 2).map (fun i => (i.zero, i.size, i.bytes)) = some (some (.int .i64 0), 1, 8) := by kernel_rfl
 cases A with
 | none =>
  have h0 : xs = [] := by
   cases xs with
   | nil => rfl
   | cons x l => obtain ⟨ad, h, _⟩ := hC.2.2 (Nat.succ_pos _); cases h
  subst h0
  go_enter Tryz.func96, Tryz.ntmps96
  go_wp2
  go_ret
  exact ⟨_, rfl, Kd.R_nil _ _ _ _ _, Below.refl _ _⟩
 | some ad =>
  obtain ⟨news, hr, hc⟩ := ReadsRow.inner_ hC
  have H1 := Lib.hid (fun u hu => Reps_one (d := (Kd.int .i64)) hr u hu : ∀ u ∈ news, u.oneCell' = true)
  have HC := Lib.hid hc
  have HR := Lib.hid hr
  have hlen : news.length = xs.length * 1 := hr.1
  have hmax := hC.2.1
  clear hc hr hC
  obtain ⟨i0, hi0, hv⟩ := Option.map_eq_some_iff.1 hinfo
  clear hinfo
  obtain ⟨hz0, hz1, hz2⟩ : i0.zero = some (.int .i64 0) ∧ i0.size = 1 ∧ i0.bytes = 8 := by simpa using hv
  clear hv
  go_enter Tryz.func96, Tryz.ntmps96
  go_wp2_with (at_builtin; refine wpList_append_own _ rfl _ _ 34 rfl w.heap.size 2 i0 (.int .i64 0) 1 8 Tryz.underlying34 hi0 hz0 hz1 hz2 rfl (by decide) _ _ _ rfl (World.ownsRow_made w #[] 0 (Nat.le_refl _) (Nat.zero_le _) (by simp)) ad xs.length c news rfl ?qc1 ?qc2 ?qc3 ?qc4 ?qc5 ?qc6 ?_)
  case qc1 => exact hlen
  case qc2 =>
   intro j u hj
   exact Lib.cell?_alloc_some _ (HC.out j u hj)
  case qc3 => exact H1.out
  case qc4 => rw [Nat.zero_add]; exact hmax
  case qc5 => rw [Nat.zero_add]; exact hbig
  case qc6 => simp
  intro v' w1 hown hgrow hnil
  go_wp2
  go_ret
  have hb : Below w.heap.size w w1 := ((Below.refl _ w).alloc (Nat.le_refl _) _).grown hgrow (by simp) (by intro k hk; simp [Value.ownBlock] at hk; omega)
  have hO : OwnRow ((Kd.int .i64).M w1 w.heap.size (fun k => w.heap.size ≤ k ∧ some k ≠ v'.ownBlock)) 2 1 w1 w.heap.size v' xs := ⟨news, by simpa using hown, HR.out.imp_ fun _ _ h => h⟩
  have hR : (Kd.int .i64).R 2 w1 w.heap.size (fun k => w.heap.size ≤ k) v' xs := ⟨own_base hO.choose_spec.1, hO⟩
  exact ⟨v', rfl, hR, hb⟩
set_option maxHeartbeats 2000000 in
set_option maxRecDepth 100000 in
theorem twin_M (n : S50) (cs : List Value) (w : World) (hK : k50.K w n cs) (hF : Fits n) :
  Calls Tryz.prog 70 #[.agg cs.toArray] w fun e w' => ∃ cs2 : List Value, e = .returned (.agg cs2.toArray) ∧ k50.M w' w.heap.size (fun k => w.heap.size ≤ k) n cs2 ∧ Below w.heap.size w w' := by
 obtain ⟨A6, c6, A11, c11, rfl, l6, g6, l11, g11⟩ := k50_open hK
 clear hK
 have HC := Lib.hid g6
 have HD := Lib.hid g11
 have HF := Lib.hid hF
 clear g6 g11 hF
 go_enter Tryz.func70, Tryz.ntmps70
 go_wp2
 generalize hW : (w.alloc _).alloc _ = W
 have B1 : W.heap[w.heap.size]? = some (.cells #[.string n.f0, .bool n.f1, .int .i64 n.f2.f0, .int .i64 n.f2.f1, .int .i64 n.f2.f2, .int .i64 n.f2.f3, .slice A6 n.f3.length c6, .int .i64 n.f4.f0, .int .i64 n.f4.f1, .int .i64 n.f4.f2, .int .i64 n.f4.f3, .slice A11 n.f5.length c11, .int .i64 n.f6.f0, .int .i64 n.f6.f1, .int .i64 n.f6.f2, .int .i64 n.f6.f3] 36 (0, 0)) := by rw [← hW]; exact blk_alloc (blk_new _ _) _
 have B2 : W.heap[w.heap.size + 1]? = some (.cells #[.string (⟨#[]⟩ : ByteArray), .bool false, .int .i64 0, .int .i64 0, .int .i64 0, .int .i64 0, .slice none 0 0, .int .i64 0, .int .i64 0, .int .i64 0, .int .i64 0, .slice none 0 0, .int .i64 0, .int .i64 0, .int .i64 0, .int .i64 0] 36 (0, 0)) := by rw [← hW]; exact (by simpa using blk_new (w.alloc _) _)
 have HB : Below w.heap.size w W := by rw [← hW]; exact below_alloc (below_alloc (Below.refl _ _) _) _
 clear hW
 have HG := Lib.hid HB
 clear HB
 refine start_ (n := 10) (S := fun w' => w'.heap[w.heap.size]? = some (.cells #[.string n.f0, .bool n.f1, .int .i64 n.f2.f0, .int .i64 n.f2.f1, .int .i64 n.f2.f2, .int .i64 n.f2.f3, .slice A6 n.f3.length c6, .int .i64 n.f4.f0, .int .i64 n.f4.f1, .int .i64 n.f4.f2, .int .i64 n.f4.f3, .slice A11 n.f5.length c11, .int .i64 n.f6.f0, .int .i64 n.f6.f1, .int .i64 n.f6.f2, .int .i64 n.f6.f3] 36 (0, 0))) (ds := [7, 9]) #[false, false, false, false, false, false, false, false, false, false] (by kernel_rfl) rfl rfl B1 (fun hHeld => ?_); refine with_tabW twin_tab1 twin_bits1 (fun HT_ HW_ => ?_)
 refine pure_ (i := 0) (N := some 3) (v := ?_) (a' := ?_) #[true, false, false, false, false, false, false, false, false, false] rfl rfl (any_of HT_.out (by kernel_rfl)) (fun _ _ _ h => h) (Or.inl ⟨by rfl, ?_⟩) ?_ ?_
 rotate_left
 ·intro w'
  go_simp
  with_reducible rfl
 rotate_left
 ·simp only [Act.put, List.setIfInBounds_toArray, List.set_cons_zero, List.set_cons_succ, i64_w, i32_w]
  rfl
 refine pure_ (i := 3) (N := some 6) (v := ?_) (a' := ?_) #[true, false, false, true, false, false, false, false, false, false] rfl rfl (any_of HT_.out (by kernel_rfl)) (fun _ _ _ h => h) (Or.inl ⟨by rfl, ?_⟩) ?_ ?_
 rotate_left
 ·intro w'
  go_simp
  with_reducible rfl
 rotate_left
 ·simp only [Act.put, List.setIfInBounds_toArray, List.set_cons_zero, List.set_cons_succ, i64_w, i32_w]
  rfl
 refine take_ (i := 1) (N := some 4) (v := ?_) (a' := ?_) #[true, true, false, true, false, false, false, false, false, false] rfl rfl (take_ofW HT_.out HW_.out (by kernel_rfl)) (fun _ _ _ h => h) (Or.inl ⟨by rfl, ?_⟩) hHeld ?_ ?_
 rotate_left
 ·intro w' hS
  have hc := (blk_cell hS 6).trans rfl
  go_simp
  with_reducible rfl
 rotate_left
 ·simp only [Act.put, List.setIfInBounds_toArray, List.set_cons_zero, List.set_cons_succ, i64_w, i32_w]
  rfl
 refine take_ (i := 4) (N := some 7) (v := ?_) (a' := ?_) #[true, true, false, true, true, false, false, false, false, false] rfl rfl (take_ofW HT_.out HW_.out (by kernel_rfl)) (fun _ _ _ h => h) (Or.inl ⟨by rfl, ?_⟩) hHeld ?_ ?_
 rotate_left
 ·intro w' hS
  have hc := (blk_cell hS 11).trans rfl
  go_simp
  with_reducible rfl
 rotate_left
 ·simp only [Act.put, List.setIfInBounds_toArray, List.set_cons_zero, List.set_cons_succ, i64_w, i32_w]
  rfl
 generalize hW : W.drew = V at hHeld ⊢
 have B2 : V.heap[w.heap.size + 1]? = some (.cells #[.string (⟨#[]⟩ : ByteArray), .bool false, .int .i64 0, .int .i64 0, .int .i64 0, .int .i64 0, .slice none 0 0, .int .i64 0, .int .i64 0, .int .i64 0, .int .i64 0, .slice none 0 0, .int .i64 0, .int .i64 0, .int .i64 0, .int .i64 0] 36 (0, 0)) := by rw [← hW]; exact B2
 have HG := Lib.hid (show Below w.heap.size w V by rw [← hW]; exact below_drew1 HG.out)
 have hV : w.heap.size + 1 < V.heap.size := blk_lt B2
 clear hW B1
 refine one_ (i := 2) (N := some 5) #[true, true, true, true, true, false, false, false, false, false] rfl rfl (one_of HT_.out (by kernel_rfl)) (by decide) (fun K hK => ?_)
 refine goes_ Tryz.func95 (by kernel_rfl) rfl #[.slice A6 n.f3.length c6] (by rfl) rfl rfl (by (try simp only [List.map_toArray, List.map_cons, List.map_nil]); first | done | rfl) ?_
 refine (clone110M _ _ _ _ (Kd.C_below HC.out HG.out) (by have := HF.out.1; omega)).mono ?_
 rintro e V1 ⟨v6, rfl, hB6, hb⟩
 obtain ⟨B6, d6, rfl, hl6, _⟩ := Kd.R_reads hB6
 refine ⟨_, rfl, ?_⟩
 replace hHeld := blk_below hHeld hb
 replace B2 := blk_below B2 hb
 have HC := Lib.hid (Kd.R_lower (Kd.R_mono hB6 (ok' := fun k => w.heap.size + 1 < k) (fun k hk => Nat.lt_of_lt_of_le hV hk)) HG.out.size)
 have HG := Lib.hid (below_step HG.out hb)
 refine hK.out _ _ hHeld ?_
 clear hK K hb hB6
 intro _
 refine norm_ (a' := ?_) ?_ ?_
 rotate_left
 ·show Act.put _ (some 5) _ = _
  simp only [Act.put, List.setIfInBounds_toArray, List.set_cons_zero, List.set_cons_succ, i64_w, i32_w]
  rfl
 refine pure_ (i := 6) (N := some 9) (v := ?_) (a' := ?_) #[true, true, true, true, true, false, true, false, false, false] rfl rfl (any_of HT_.out (by kernel_rfl)) (fun _ _ _ h => h) (Or.inl ⟨by rfl, ?_⟩) ?_ ?_
 rotate_left
 ·intro w'
  go_simp
  with_reducible rfl
 rotate_left
 ·simp only [Act.put, List.setIfInBounds_toArray, List.set_cons_zero, List.set_cons_succ, i64_w, i32_w]
  rfl
 refine one_ (i := 5) (N := some 8) #[true, true, true, true, true, true, true, false, false, false] rfl rfl (one_of HT_.out (by kernel_rfl)) (by decide) (fun K hK => ?_)
 refine goes_ Tryz.func96 (by kernel_rfl) rfl #[.slice A11 n.f5.length c11] (by rfl) rfl rfl (by (try simp only [List.map_toArray, List.map_cons, List.map_nil]); first | done | rfl) ?_
 refine (clone111M _ _ _ _ (Kd.C_below HD.out HG.out) (by have := HF.out.2; omega)).mono ?_
 rintro e V2 ⟨v11, rfl, hB11, hb⟩
 obtain ⟨B11, d11, rfl, hl11, _⟩ := Kd.R_reads hB11
 refine ⟨_, rfl, ?_⟩
 replace hHeld := blk_below hHeld hb
 have B2' := B2
 replace B2 := blk_below B2 hb
 have HD := Lib.hid (Kd.R_lower (Kd.R_mono hB11 (ok' := fun k => w.heap.size + 1 < k) (fun k hk => Nat.lt_of_lt_of_le (blk_lt B2') hk)) HG.out.size)
 have HG := Lib.hid (below_step HG.out hb)
 have HC := Lib.hid (Kd.R_below HC.out hb)
 refine hK.out _ _ hHeld ?_
 clear hK K hb hB11
 intro _
 refine norm_ (a' := ?_) ?_ ?_
 rotate_left
 ·show Act.put _ (some 8) _ = _
  simp only [Act.put, List.setIfInBounds_toArray, List.set_cons_zero, List.set_cons_succ, i64_w, i32_w]
  rfl
 refine last_ (i := 7) (N := none) #[true, true, true, true, true, true, true, true, false, false] rfl rfl (one_of HT_.out (by kernel_rfl)) (by decide) (fun K hK => ?_)
 have hs := (blk_cell hHeld 6).trans rfl
 have hf := blk_frozen hHeld 6
 refine skip_ (w1 := ?_) (by rfl) rfl ?_ ?_
 rotate_left
 ·go_simp
  rfl
 clear hs hf
 refine hK.out _ _ ?_
 clear hK K
 refine pure_ (i := 8) (N := some 10) (v := ?_) (a' := ?_) #[true, true, true, true, true, true, true, true, true, false] rfl rfl (any_of HT_.out (by kernel_rfl)) (fun _ _ _ h => h) (Or.inl ⟨by rfl, ?_⟩) ?_ ?_
 rotate_left
 ·intro w'
  go_simp
  with_reducible rfl
 rotate_left
 ·simp only [Act.put, List.setIfInBounds_toArray, List.set_cons_zero, List.set_cons_succ, i64_w, i32_w]
  rfl
 refine last_ (i := 9) (N := none) #[true, true, true, true, true, true, true, true, true, true] rfl rfl (one_of HT_.out (by kernel_rfl)) (by decide) (fun K hK => ?_)
 have hs := (blk_cell hHeld 11).trans rfl
 have hf := blk_frozen hHeld 11
 refine skip_ (w1 := ?_) (by rfl) rfl ?_ ?_
 rotate_left
 ·go_simp
  rfl
 clear hs hf
 refine hK.out _ _ ?_
 clear hK K
 refine done_ (done_of HT_.out (by kernel_rfl)) ?_
 clear HT_ HW_
 generalize hV : (V2.setCell ⟨w.heap.size, 6, none⟩ (.slice B6 n.f3.length d6)).setCell ⟨w.heap.size, 11, none⟩ (.slice B11 n.f5.length d11) = V3
 have E1 : V3.heap[w.heap.size]? = some (.cells #[.string n.f0, .bool n.f1, .int .i64 n.f2.f0, .int .i64 n.f2.f1, .int .i64 n.f2.f2, .int .i64 n.f2.f3, .slice B6 n.f3.length d6, .int .i64 n.f4.f0, .int .i64 n.f4.f1, .int .i64 n.f4.f2, .int .i64 n.f4.f3, .slice B11 n.f5.length d11, .int .i64 n.f6.f0, .int .i64 n.f6.f1, .int .i64 n.f6.f2, .int .i64 n.f6.f3] 36 (0, 0)) := by rw [← hV]; exact blk_put (blk_put hHeld 6 _ rfl) 11 _ rfl
 have E2 : V3.heap[w.heap.size + 1]? = some (.cells #[.string (⟨#[]⟩ : ByteArray), .bool false, .int .i64 0, .int .i64 0, .int .i64 0, .int .i64 0, .slice none 0 0, .int .i64 0, .int .i64 0, .int .i64 0, .int .i64 0, .slice none 0 0, .int .i64 0, .int .i64 0, .int .i64 0, .int .i64 0] 36 (0, 0)) := by rw [← hV]; exact blk_far (blk_far B2 (by simp) _) (by simp) _
 have hc : Kd.R k96 85 V3 w.heap.size (fun k => w.heap.size + 1 < k) (.slice B6 n.f3.length d6) n.f3 := by rw [← hV]; exact Kd.R_far (Kd.R_far HC.out (p := ⟨w.heap.size, 6, none⟩) (fun k hk => by show k ≠ w.heap.size; omega) _) (p := ⟨w.heap.size, 11, none⟩) (fun k hk => by show k ≠ w.heap.size; omega) _
 have hd : Kd.R (Kd.int .i64) 2 V3 w.heap.size (fun k => w.heap.size + 1 < k) (.slice B11 n.f5.length d11) n.f5 := by rw [← hV]; exact Kd.R_far (Kd.R_far HD.out (p := ⟨w.heap.size, 6, none⟩) (fun k hk => by show k ≠ w.heap.size; omega) _) (p := ⟨w.heap.size, 11, none⟩) (fun k hk => by show k ≠ w.heap.size; omega) _
 have HB3 := Lib.hid (show Below w.heap.size w V3 by rw [← hV]; exact below_set (below_set HG.out (Nat.le_refl _)) (Nat.le_refl _))
 have HK3 := Lib.hid (k50_mkM V3 w.heap.size _ n hc hd)
 have r1 := rd50_blk E1 rfl
 have r2 := wr50_blk E2 (cs := #[.string n.f0, .bool n.f1, .int .i64 n.f2.f0, .int .i64 n.f2.f1, .int .i64 n.f2.f2, .int .i64 n.f2.f3, .slice B6 n.f3.length d6, .int .i64 n.f4.f0, .int .i64 n.f4.f1, .int .i64 n.f4.f2, .int .i64 n.f4.f3, .slice B11 n.f5.length d11, .int .i64 n.f6.f0, .int .i64 n.f6.f1, .int .i64 n.f6.f2, .int .i64 n.f6.f3]) rfl rfl (by simp [Value.oneCell'])
 have HE := Lib.hid (setRow_heap _ _ _ #[.string n.f0, .bool n.f1, .int .i64 n.f2.f0, .int .i64 n.f2.f1, .int .i64 n.f2.f2, .int .i64 n.f2.f3, .slice B6 n.f3.length d6, .int .i64 n.f4.f0, .int .i64 n.f4.f1, .int .i64 n.f4.f2, .int .i64 n.f4.f3, .slice B11 n.f5.length d11, .int .i64 n.f6.f0, .int .i64 n.f6.f1, .int .i64 n.f6.f2, .int .i64 n.f6.f3] _ _ E2)
 clear hc hd hV E1 E2 HC HD HG B2 hHeld
 go_wp2
 refine bodyPost_ret (results_cell_row rfl _ _ (w.heap.size + 1) 36 _ (0, 0) _ rfl HE.out Tryz.underlying36 rfl (by kernel_rfl)) rfl ?_
 refine ⟨_, rfl, ?_, below_setRow HB3.out (Nat.le_succ _) _⟩
 exact k50.M_mono (fun k hk => by omega) (Kd.M_step HK3.out fun k hk _ => setRow_other _ _ _ _ (by omega))
set_option maxHeartbeats 2000000 in
set_option maxRecDepth 100000 in
theorem tfind_M (l : List S50) (p : ByteArray) (A : Option Addr) (c : Nat) (w : World) (hC : Kd.C k50 w A l.length l) (hc : l.length ≤ c) (hn : l.length < 1000000) (hR : RisingN l p) (hF : ∀ n ∈ l, Fits n) (h1 : isN l p = true) (nd : S50) (hnd : l[atN l p]? = some nd) :
  Calls Tryz.prog 57 #[.slice A l.length c, .string p] w fun e w' => ∃ cs : List Value, e = .returned (.tuple #[.agg cs.toArray, .bool true]) ∧ k50.M w' w.heap.size (fun k => w.heap.size ≤ k) nd cs ∧ Below w.heap.size w w' := by
 have HC := Lib.hid hC
 have HP := Lib.hid fun w1 (hb : Below w.heap.size w w1) => placeN l p A c w1 (Kd.C_below hC hb) hc hn hR
 have hi := isN_lt h1
 have HZ := Lib.hid hnd
 have HF := Lib.hid hF
 clear hC hR hF hnd
 rw [h1] at HP
 clear h1
 generalize atN l p = i at HP hi HZ
 go_enter Tryz.func57, Tryz.ntmps57
 go_wp2_with (first | (go_at_call 50; refine (HP.out _ (below_alloc (Below.refl _ _) _)).mono ?_; rintro e w1 ⟨rfl, hb⟩; have E1 := Lib.hid (blk_below (blk_new w _) hb); have HB := Lib.hid (below_step (below_alloc (Below.refl w.heap.size w) _) hb); clear hb; obtain ⟨ad, A6, c6, A11, c11, rfl, hcs, HK⟩ := at50 HC.out HB.out i hi; have hld := rd50_of (loadC50 (P := Tryz.prog) hcs); have HT := Lib.hid (twin_M _ _ w1 (k50.K_below HB.out HK.out) (HF.out _ (List.getElem_mem hi))); have HZ2 := Lib.hid (show nd = l[i] from by have h := HZ.out; rw [List.getElem?_eq_getElem hi] at h; exact (Option.some.inj h).symm); clear hcs HK HZ HC HF) | (go_at_call 70; refine HT.out.mono ?_; rintro e w2 ⟨cs2, rfl, hFK, hb⟩; have hw1 : w.heap.size < w1.heap.size := blk_lt E1.out; have E2 := blk_below E1.out hb; have hl2 : cs2.toArray.size = 16 := k50.K_len (k50.K_of_M hFK); have r2 := wr50_blk E2 (cs := cs2.toArray) rfl hl2 (by simpa using k50.K_one (k50.K_of_M hFK)); have HE := Lib.hid (setRow_heap _ _ _ cs2.toArray _ _ E2); have HB2 := Lib.hid (below_setRow (below_step HB.out hb) (Nat.le_refl _) cs2.toArray); have HFK := Lib.hid (k50.M_lower HB.out.size (k50.M_mono (ok' := fun k => w.heap.size ≤ k) (fun k hk => by omega) (Kd.M_step hFK (w1 := w2.setRow w.heap.size cs2.toArray) fun k hk _ => setRow_other _ _ _ _ (by omega)))); have HL := Lib.hid hl2; clear E2 hb hFK hl2 HB HT E1))
 refine bodyPost_ret (results_ct rfl _ _ w.heap.size 36 _ (0, 0) _ rfl HE.out Tryz.underlying36 rfl (by rw [HL.out]; kernel_rfl)) rfl ?_
 refine ⟨_, rfl, ?_, HB2.out⟩
 rw [HZ2.out]
 exact HFK.out
theorem reps_nums {w : World} {xs : List Int} {cs : List Value} (h : Reps ((Kd.int .i64).K w) 1 xs cs) : cs = nums .i64 xs := by
 refine List.ext_getElem (by rw [h.1, nums_length, Nat.mul_one]) fun i h1 h2 => ?_
 have hi : i < xs.length := by rw [nums_length] at h2; exact h2
 have e : (cs.drop (i * 1)).take 1 = [.int .i64 xs[i]] := h.2 i xs[i] (List.getElem?_eq_getElem hi)
 have e0 : ((cs.drop (i * 1)).take 1)[0]? = some (.int .i64 xs[i]) := by rw [e]; rfl
 rw [List.getElem?_take, if_pos (by decide), List.getElem?_drop, Nat.mul_one, Nat.add_zero, List.getElem?_eq_getElem h1] at e0
 rw [Option.some.inj e0]
 simp [nums]
theorem nums_reps (w : World) (base : Nat) (ok : Nat → Prop) (xs : List Int) : Reps ((Kd.int .i64).M w base ok) 1 xs (nums .i64 xs) := by
 refine ⟨by rw [nums_length, Nat.mul_one], fun j p hj => ?_⟩
 show ((nums .i64 xs).drop (j * 1)).take 1 = [.int .i64 p]
 have hl : j < (nums .i64 xs).length := by rw [nums_length]; exact (List.getElem?_eq_some_iff.1 hj).1
 have he : (nums .i64 xs)[j] = .int .i64 p := by
  have := (List.getElem?_eq_some_iff.1 hj).2
  simp [nums, this]
 rw [Nat.mul_one, List.drop_eq_getElem_cons hl, he]
 rfl
/-- A word is stored into a node that was made: it is one with that word. -/
theorem node_put {W : World} {base : Nat} {ok : Nat → Prop} {n : S50} {cs : List Value} (h : k50.M W base ok n cs) (off : Nat) (ho : off < n.f5.length) (wd : Int) :
  ∃ g cap, cs[11]? = some (.slice (some ⟨g, 0, none⟩) n.f5.length cap) ∧ base ≤ g ∧ ok g ∧ g < W.heap.size ∧ n.f5.length ≤ cap ∧ (∃ cells, W.heap[g]? = some (.cells cells 2 (0, 0))) ∧ W.cell? ⟨g, off, none⟩ = some (.int .i64 (n.f5.getD off 0)) ∧ W.frozen? ⟨g, off, none⟩ = false ∧ k50.M (W.setCell ⟨g, off, none⟩ (.int .i64 wd)) base ok ⟨n.f0, n.f1, n.f2, n.f3, n.f4, n.f5.set off wd, n.f6⟩ cs := by
 obtain ⟨v6, v11, rfl, g6, g11⟩ := k50_openM h
 obtain ⟨h0, inner, hown, hr⟩ := g11
 have hin : inner = nums .i64 n.f5 := reps_nums (w := W) (hr.imp_ fun _ _ hp => (Kd.int .i64).K_of_M hp)
 subst hin
 have hty := fun k hk => own_typed hown k hk
 have hlt := fun k hk => own_lt hown k hk
 have hba := fun k hk => own_base hown k hk
 obtain ⟨g, cap, rfl, _, _⟩ := hown.form (by omega)
 have hb : Value.ownBlock (.slice (some ⟨g, 0, none⟩) n.f5.length cap) = some g := rfl
 obtain ⟨cells, hcells⟩ := hty g hb
 have hat := own_at hown (off : Int) (by omega) (by omega)
 rw [Int.toNat_natCast] at hat
 have hst := (own_store hown (off : Int) wd).1
 rw [Int.toNat_natCast] at hst
 refine ⟨g, cap, rfl, hba g hb, h0 g hb, hlt g hb, own_le hown, ⟨cells, hcells⟩, ?_, hat.2, ?_⟩
 ·have := hat.1
  simpa [rd, Int.toNat_natCast] using this
 ·have e1 : (n.f5.set off wd).length = n.f5.length := List.length_set
  have hg6 : Kd.R k96 85 (W.setCell ⟨g, off, none⟩ (.int .i64 wd)) base ok v6 n.f3 := Kd.R_set g6 hcells (by decide) off _
  have hg11 : Kd.R (Kd.int .i64) 2 (W.setCell ⟨g, off, none⟩ (.int .i64 wd)) base ok (.slice (some ⟨g, 0, none⟩) n.f5.length cap) (n.f5.set off wd) := ⟨h0, nums .i64 (n.f5.set off wd), by rw [e1]; exact hst, nums_reps _ _ _ _⟩
  exact k50_mkM _ base ok ⟨n.f0, n.f1, n.f2, n.f3, n.f4, n.f5.set off wd, n.f6⟩ hg6 hg11
end Go.Proofs.YteilkbookcmndaaGreatDoor.C
end
section
set_option linter.unusedVariables false
set_option linter.unusedSimpArgs false
namespace Go.Proofs.YteilkbookcmndaaGreatDoor.C
open Go.RowKit Go.Proofs.YteilkbookcmndaaGreatDoor.Q Go.Proofs.YteilkbookcmndaaGreatDoorW.PrintWords Go.Proofs.YteilkbookcmndaaGreatDoorW.PrintLast Go.Proofs.YteilkbookcmndaaGreatDoorW.PrintMore
attribute [local go_sem ↓] rd_at50 wr_at50 al_at50
attribute [local go_sem] rd50_new wr50_new al50
attribute [local go_sem ↓] rd_at45 wr_at45 rd_at150 wr_at150 rd_at47b wr_at47b rd_at77 wr_at77 rd_at41p wr_at41p
attribute [local go_sem] rd45_new wr45_new rd150_new wr150_new wr47b_new
attribute [local go_sem] max2_mx max_two
theorem grown_put {W w : World} (hb : Below W.heap.size W w) (g j : Nat) (v : Value) : W.grownBy (w.setCell ⟨g, j, none⟩ v) (some g) :=
 ⟨hb.os, hb.tape, hb.output, by simpa [World.setCell] using hb.size, fun k hk hne => (Below.heap_setCell w ⟨g, j, none⟩ v k (fun e => hne (by rw [e]))).trans (hb.block k hk)⟩
theorem below_grown {W w w1 : World} {r : Option Nat} (hb : Below W.heap.size W w) (hg : w.grownBy w1 r) : W.grownBy w1 r :=
 ⟨hg.os.trans hb.os, hg.tape.trans hb.tape, hg.output.trans hb.output, Nat.le_trans hb.size hg.size, fun k hk hne => (hg.block k (Nat.lt_of_lt_of_le hk hb.size) hne).trans (hb.block k hk)⟩
set_option maxHeartbeats 16000000 in
set_option maxRecDepth 1000000 in
theorem wt0 (gm k tl c nb cb : Nat) (A : Option Addr) (bd : Addr) (u p : ByteArray) (a : S41) (off : Nat) (wd : Int) (nd : S50) (u4 u5 u6 u7 u8 u9 u10 u11 u12 u13 u14 u15 u16 u17 u18 u19 u20 u21 u22 u23 u24 u25 u26 u27 u28 u29 u30 u31 u32 u33 u34 u35 u36 u37 u38 : Value) (W : World) (Q : Exit → Act → World → Prop)
  (hm : W.heap[gm]? = some (.cells #[.slice A tl c, .string u, .int .i64 a.f0, .int .i64 a.f1, .int .i64 a.f2, .int .i64 a.f3, .slice (some bd) nb cb] 105 (0, 0))) (hp : W.cell? (bd.add k) = some (.string p)) (hk : k < nb) (hnb : nb ≤ cb)
  (hS : ∀ w1 : World, Below W.heap.size W w1 → Calls Tryz.prog 57 #[.slice A tl c, .string p] w1 fun e w' => ∃ A6 c6 A11 c11, e = .returned (.tuple #[.agg #[.string nd.f0, .bool nd.f1, .int .i64 nd.f2.f0, .int .i64 nd.f2.f1, .int .i64 nd.f2.f2, .int .i64 nd.f2.f3, .slice A6 nd.f3.length c6, .int .i64 nd.f4.f0, .int .i64 nd.f4.f1, .int .i64 nd.f4.f2, .int .i64 nd.f4.f3, .slice A11 nd.f5.length c11, .int .i64 nd.f6.f0, .int .i64 nd.f6.f1, .int .i64 nd.f6.f2, .int .i64 nd.f6.f3], .bool true]) ∧ k50.M w' w1.heap.size (fun k => w1.heap.size ≤ k) nd [.string nd.f0, .bool nd.f1, .int .i64 nd.f2.f0, .int .i64 nd.f2.f1, .int .i64 nd.f2.f2, .int .i64 nd.f2.f3, .slice A6 nd.f3.length c6, .int .i64 nd.f4.f0, .int .i64 nd.f4.f1, .int .i64 nd.f4.f2, .int .i64 nd.f4.f3, .slice A11 nd.f5.length c11, .int .i64 nd.f6.f0, .int .i64 nd.f6.f1, .int .i64 nd.f6.f2, .int .i64 nd.f6.f3] ∧ Below w1.heap.size w1 w')
  (hpost : ∀ (g : Nat) (w' : World) (A6 : Option Addr) (c6 : Nat) (A11 : Option Addr) (c11 : Nat) (t10 t11 t12 t13 t14 t15 t16 t17 t18 t19 t20 t21 t22 t23 t24 : Value), k50.M w' W.heap.size (fun k => k ≠ g ∧ W.heap.size ≤ k) nd [.string nd.f0, .bool nd.f1, .int .i64 nd.f2.f0, .int .i64 nd.f2.f1, .int .i64 nd.f2.f2, .int .i64 nd.f2.f3, .slice A6 nd.f3.length c6, .int .i64 nd.f4.f0, .int .i64 nd.f4.f1, .int .i64 nd.f4.f2, .int .i64 nd.f4.f3, .slice A11 nd.f5.length c11, .int .i64 nd.f6.f0, .int .i64 nd.f6.f1, .int .i64 nd.f6.f2, .int .i64 nd.f6.f3] → w'.heap[g]? = some (.cells #[.string nd.f0, .bool nd.f1, .int .i64 nd.f2.f0, .int .i64 nd.f2.f1, .int .i64 nd.f2.f2, .int .i64 nd.f2.f3, .slice A6 nd.f3.length c6, .int .i64 nd.f4.f0, .int .i64 nd.f4.f1, .int .i64 nd.f4.f2, .int .i64 nd.f4.f3, .slice A11 nd.f5.length c11, .int .i64 nd.f6.f0, .int .i64 nd.f6.f1, .int .i64 nd.f6.f2, .int .i64 nd.f6.f3] 36 (0, 0)) → W.heap.size ≤ g → Below W.heap.size W w' → Q .normal ⟨#[.pointer (some ⟨gm, 0, none⟩), .int .i64 (k : Int), .int .i64 (off : Int), .int .i64 wd, u4, u5, u6, u7, .pointer (some ⟨g, 0, none⟩), .bool true, t10, t11, t12, t13, t14, t15, t16, t17, t18, t19, t20, t21, t22, t23, t24, u25, u26, u27, u28, u29, u30, u31, u32, u33, u34, u35, u36, u37, u38], []⟩ w') :
  Code.wp Tryz.prog (cReg Tryz.f149 0) Q ⟨#[.pointer (some ⟨gm, 0, none⟩), .int .i64 (k : Int), .int .i64 (off : Int), .int .i64 wd, u4, u5, u6, u7, u8, u9, u10, u11, u12, u13, u14, u15, u16, u17, u18, u19, u20, u21, u22, u23, u24, u25, u26, u27, u28, u29, u30, u31, u32, u33, u34, u35, u36, u37, u38], []⟩ W := by
 have EM := Lib.hid hm
 have EP := Lib.hid hp
 have HSE := Lib.hid hS
 have HPO := Lib.hid hpost
 clear hm hp hS hpost
 have HB := Lib.hid (below_drew1 (Below.refl W.heap.size W))
 conv => arg 2; whnf
 refine wp_region_noPanic ?_
 refine wp_region_held_drew (S := fun W1 => W1.cell? ⟨gm, 0, none⟩ = some (.slice A tl c) ∧ W1.cell? ⟨gm, 6, none⟩ = some (.slice (some bd) nb cb) ∧ W1.cell? (bd.add k) = some (.string p)) (by kernel_rfl) ?_ (fun hHeld => ?_)
 focus ((try dsimp only); exact ⟨(blk_cell (blk_below EM.out HB.out) 0).trans rfl, (blk_cell (blk_below EM.out HB.out) 6).trans rfl, pw_cell_below HB.out EP.out⟩)
 refine tk 0 11 (v := ?_) rfl rfl (by kernel_rfl) rfl ?_ (by assumption) ?_; rotate_left; focus (intro w hSw; go_simp; try with_reducible rfl)
 try simp only [Act.put, List.setIfInBounds_toArray, List.set_cons_zero, List.set_cons_succ]
 refine tk 1 12 (v := ?_) rfl rfl (by kernel_rfl) rfl ?_ (by assumption) ?_; rotate_left; focus (intro w hSw; go_simp; try with_reducible rfl)
 try simp only [Act.put, List.setIfInBounds_toArray, List.set_cons_zero, List.set_cons_succ]
 refine tk 2 13 (v := ?_) rfl rfl (by kernel_rfl) rfl ?_ (by assumption) ?_; rotate_left; focus (intro w hSw; go_simp; try with_reducible rfl)
 try simp only [Act.put, List.setIfInBounds_toArray, List.set_cons_zero, List.set_cons_succ]
 refine tk 3 14 (v := ?_) rfl rfl (by kernel_rfl) rfl ?_ (by assumption) ?_; rotate_left; focus (intro w hSw; go_simp; try with_reducible rfl)
 try simp only [Act.put, List.setIfInBounds_toArray, List.set_cons_zero, List.set_cons_succ]
 refine tk 4 15 (v := ?_) rfl rfl (by kernel_rfl) rfl ?_ (by assumption) ?_; rotate_left; focus (intro w hSw; go_simp; try with_reducible rfl)
 try simp only [Act.put, List.setIfInBounds_toArray, List.set_cons_zero, List.set_cons_succ]
 refine tk 5 16 (v := ?_) rfl rfl (by kernel_rfl) rfl ?_ (by assumption) ?_; rotate_left; focus (intro w hSw; go_simp; try with_reducible rfl)
 try simp only [Act.put, List.setIfInBounds_toArray, List.set_cons_zero, List.set_cons_succ]
 refine tk 6 17 (v := ?_) rfl rfl (by kernel_rfl) rfl ?_ (by assumption) ?_; rotate_left; focus (intro w hSw; go_simp; try with_reducible rfl)
 try simp only [Act.put, List.setIfInBounds_toArray, List.set_cons_zero, List.set_cons_succ]
 refine tk 7 18 (v := ?_) rfl rfl (by kernel_rfl) rfl ?_ (by assumption) ?_; rotate_left; focus (intro w hSw; go_simp; try with_reducible rfl)
 try simp only [Act.put, List.setIfInBounds_toArray, List.set_cons_zero, List.set_cons_succ]
 refine tk 8 19 (v := ?_) rfl rfl (by kernel_rfl) rfl ?_ (by assumption) ?_; rotate_left; focus (intro w hSw; go_simp; try with_reducible rfl)
 try simp only [Act.put, List.setIfInBounds_toArray, List.set_cons_zero, List.set_cons_succ]
 refine tk 9 20 (v := ?_) rfl rfl (by kernel_rfl) rfl ?_ (by assumption) ?_; rotate_left; focus (intro w hSw; go_simp; try with_reducible rfl)
 try simp only [Act.put, List.setIfInBounds_toArray, List.set_cons_zero, List.set_cons_succ]
 refine tk 10 21 (v := ?_) rfl rfl (by kernel_rfl) rfl ?_ (by assumption) ?_; rotate_left; focus (intro w hSw; go_simp; try with_reducible rfl)
 try simp only [Act.put, List.setIfInBounds_toArray, List.set_cons_zero, List.set_cons_succ]
 refine wpAnyH_ready (rs := [11, 15]) (by kernel_rfl) (by simp) ?_
 refine AllReadyH.cons rfl (fun K hK => ?_) ?_
 ·go_simp
  go_wp2_with (go_at_call 57; go_loud (refine (HSE.out _ HB.out).mono ?_; rintro e wa ⟨A6, c6, A11, c11, rfl, hK, hb⟩; have HFK := Lib.hid hK; have HB := Lib.hid (below_step HB.out hb); clear hb hK))
  refine hK.out _ _ ?_ (fun hHeld => ?_)
  focus ((try dsimp only); exact ⟨(blk_cell (blk_below EM.out HB.out) 0).trans rfl, (blk_cell (blk_below EM.out HB.out) 6).trans rfl, pw_cell_below HB.out EP.out⟩)
  clear hK K
  refine tk 12 10 (v := ?_) rfl rfl (by kernel_rfl) rfl ?_ (by assumption) ?_; rotate_left; focus (intro w hSw; go_simp; try with_reducible rfl)
  try simp only [Act.put, List.setIfInBounds_toArray, List.set_cons_zero, List.set_cons_succ]
  refine tk 13 23 (v := ?_) rfl rfl (by kernel_rfl) rfl ?_ (by assumption) ?_; rotate_left; focus (intro w hSw; go_simp; try with_reducible rfl)
  try simp only [Act.put, List.setIfInBounds_toArray, List.set_cons_zero, List.set_cons_succ]
  refine tk 14 24 (v := ?_) rfl rfl (by kernel_rfl) rfl ?_ (by assumption) ?_; rotate_left; focus (intro w hSw; go_simp; try with_reducible rfl)
  try simp only [Act.put, List.setIfInBounds_toArray, List.set_cons_zero, List.set_cons_succ]
  refine wpAnyH_ready (rs := [15]) (by kernel_rfl) (by simp) ?_
  refine AllReadyH.cons rfl (fun K hK => ?_) ?_
  ·have EZ := Lib.hid (show (World.alloc wa (.cells #[.string (⟨#[]⟩ : ByteArray), .bool false, .int .i64 0, .int .i64 0, .int .i64 0, .int .i64 0, .slice none 0 0, .int .i64 0, .int .i64 0, .int .i64 0, .int .i64 0, .slice none 0 0, .int .i64 0, .int .i64 0, .int .i64 0, .int .i64 0] 36)).heap[wa.heap.size]? = some (.cells #[.string (⟨#[]⟩ : ByteArray), .bool false, .int .i64 0, .int .i64 0, .int .i64 0, .int .i64 0, .slice none 0 0, .int .i64 0, .int .i64 0, .int .i64 0, .int .i64 0, .slice none 0 0, .int .i64 0, .int .i64 0, .int .i64 0, .int .i64 0] 36) from blk_new wa (.cells #[.string (⟨#[]⟩ : ByteArray), .bool false, .int .i64 0, .int .i64 0, .int .i64 0, .int .i64 0, .slice none 0 0, .int .i64 0, .int .i64 0, .int .i64 0, .int .i64 0, .slice none 0 0, .int .i64 0, .int .i64 0, .int .i64 0, .int .i64 0] 36))
   have HZ := Lib.hid (show W.heap.size ≤ wa.heap.size from (by first | exact Nat.le_refl _ | exact below_size HB.out))
   have HFK := Lib.hid (k50.M_mono (ok' := fun k => k ≠ wa.heap.size ∧ W.heap.size ≤ k) (fun k hk => by have h2 := hk.2.2.1; have h1 : W.heap.size ≤ k := hk.1; omega) (Kd.M_below (k50.M_bound HFK.out) (below_alloc (Below.refl _ _) (.cells #[.string (⟨#[]⟩ : ByteArray), .bool false, .int .i64 0, .int .i64 0, .int .i64 0, .int .i64 0, .slice none 0 0, .int .i64 0, .int .i64 0, .int .i64 0, .int .i64 0, .slice none 0 0, .int .i64 0, .int .i64 0, .int .i64 0, .int .i64 0] 36))))
   have HB := Lib.hid (below_alloc HB.out (.cells #[.string (⟨#[]⟩ : ByteArray), .bool false, .int .i64 0, .int .i64 0, .int .i64 0, .int .i64 0, .slice none 0 0, .int .i64 0, .int .i64 0, .int .i64 0, .int .i64 0, .slice none 0 0, .int .i64 0, .int .i64 0, .int .i64 0, .int .i64 0] 36))
   go_simp
   refine hK.out _ _ ?_ (fun hHeld => ?_)
   focus ((try dsimp only); exact ⟨(blk_cell (blk_below EM.out HB.out) 0).trans rfl, (blk_cell (blk_below EM.out HB.out) 6).trans rfl, pw_cell_below HB.out EP.out⟩)
   clear hK K
   refine wpAnyH_ready (rs := [16]) (by kernel_rfl) (by simp) ?_
   refine AllReadyH.cons rfl (fun K hK => ?_) ?_
   ·have hst := wr50_blk (cs := #[.string nd.f0, .bool nd.f1, .int .i64 nd.f2.f0, .int .i64 nd.f2.f1, .int .i64 nd.f2.f2, .int .i64 nd.f2.f3, .slice A6 nd.f3.length c6, .int .i64 nd.f4.f0, .int .i64 nd.f4.f1, .int .i64 nd.f4.f2, .int .i64 nd.f4.f3, .slice A11 nd.f5.length c11, .int .i64 nd.f6.f0, .int .i64 nd.f6.f1, .int .i64 nd.f6.f2, .int .i64 nd.f6.f3]) EZ.out rfl rfl (by simp [Value.oneCell'])
    have EX := Lib.hid (setRow_heap _ _ _ (#[.string nd.f0, .bool nd.f1, .int .i64 nd.f2.f0, .int .i64 nd.f2.f1, .int .i64 nd.f2.f2, .int .i64 nd.f2.f3, .slice A6 nd.f3.length c6, .int .i64 nd.f4.f0, .int .i64 nd.f4.f1, .int .i64 nd.f4.f2, .int .i64 nd.f4.f3, .slice A11 nd.f5.length c11, .int .i64 nd.f6.f0, .int .i64 nd.f6.f1, .int .i64 nd.f6.f2, .int .i64 nd.f6.f3] : Array Value) _ _ EZ.out)
    have HFK := Lib.hid (Kd.M_step (w1 := World.setRow _ _ (#[.string nd.f0, .bool nd.f1, .int .i64 nd.f2.f0, .int .i64 nd.f2.f1, .int .i64 nd.f2.f2, .int .i64 nd.f2.f3, .slice A6 nd.f3.length c6, .int .i64 nd.f4.f0, .int .i64 nd.f4.f1, .int .i64 nd.f4.f2, .int .i64 nd.f4.f3, .slice A11 nd.f5.length c11, .int .i64 nd.f6.f0, .int .i64 nd.f6.f1, .int .i64 nd.f6.f2, .int .i64 nd.f6.f3] : Array Value)) HFK.out (fun k hk hlt => setRow_other _ _ k _ hk.1))
    have HB := Lib.hid (below_setRow HB.out HZ.out (#[.string nd.f0, .bool nd.f1, .int .i64 nd.f2.f0, .int .i64 nd.f2.f1, .int .i64 nd.f2.f2, .int .i64 nd.f2.f3, .slice A6 nd.f3.length c6, .int .i64 nd.f4.f0, .int .i64 nd.f4.f1, .int .i64 nd.f4.f2, .int .i64 nd.f4.f3, .slice A11 nd.f5.length c11, .int .i64 nd.f6.f0, .int .i64 nd.f6.f1, .int .i64 nd.f6.f2, .int .i64 nd.f6.f3] : Array Value))
    go_simp
    refine hK.out _ _ ?_ (fun hHeld => ?_)
    focus ((try dsimp only); exact ⟨(blk_cell (blk_below EM.out HB.out) 0).trans rfl, (blk_cell (blk_below EM.out HB.out) 6).trans rfl, pw_cell_below HB.out EP.out⟩)
    clear hK K
    refine tk 17 9 (v := ?_) rfl rfl (by kernel_rfl) rfl ?_ (by assumption) ?_; rotate_left; focus (intro w hSw; go_simp; try with_reducible rfl)
    try simp only [Act.put, List.setIfInBounds_toArray, List.set_cons_zero, List.set_cons_succ]
    refine wpAnyH_done (by kernel_rfl) ?_ _
    refine NoPanic.normal ?_
    exact HPO.out _ _ A6 c6 A11 c11 _ _ _ _ _ _ _ _ _ _ _ _ _ _ _ HFK.out EX.out HZ.out HB.out
   exact AllReadyH.nil
  exact AllReadyH.nil
 refine AllReadyH.cons rfl (fun K hK => ?_) ?_
 ·have EZ := Lib.hid (show (World.alloc W.drew (.cells #[.string (⟨#[]⟩ : ByteArray), .bool false, .int .i64 0, .int .i64 0, .int .i64 0, .int .i64 0, .slice none 0 0, .int .i64 0, .int .i64 0, .int .i64 0, .int .i64 0, .slice none 0 0, .int .i64 0, .int .i64 0, .int .i64 0, .int .i64 0] 36)).heap[W.heap.size]? = some (.cells #[.string (⟨#[]⟩ : ByteArray), .bool false, .int .i64 0, .int .i64 0, .int .i64 0, .int .i64 0, .slice none 0 0, .int .i64 0, .int .i64 0, .int .i64 0, .int .i64 0, .slice none 0 0, .int .i64 0, .int .i64 0, .int .i64 0, .int .i64 0] 36) from blk_new W.drew (.cells #[.string (⟨#[]⟩ : ByteArray), .bool false, .int .i64 0, .int .i64 0, .int .i64 0, .int .i64 0, .slice none 0 0, .int .i64 0, .int .i64 0, .int .i64 0, .int .i64 0, .slice none 0 0, .int .i64 0, .int .i64 0, .int .i64 0, .int .i64 0] 36))
  have HZ := Lib.hid (show W.heap.size ≤ W.heap.size from (by first | exact Nat.le_refl _ | exact below_size HB.out))
  have HB := Lib.hid (below_alloc HB.out (.cells #[.string (⟨#[]⟩ : ByteArray), .bool false, .int .i64 0, .int .i64 0, .int .i64 0, .int .i64 0, .slice none 0 0, .int .i64 0, .int .i64 0, .int .i64 0, .int .i64 0, .slice none 0 0, .int .i64 0, .int .i64 0, .int .i64 0, .int .i64 0] 36))
  go_simp
  refine hK.out _ _ ?_ (fun hHeld => ?_)
  focus ((try dsimp only); exact ⟨(blk_cell (blk_below EM.out HB.out) 0).trans rfl, (blk_cell (blk_below EM.out HB.out) 6).trans rfl, pw_cell_below HB.out EP.out⟩)
  clear hK K
  refine wpAnyH_ready (rs := [11]) (by kernel_rfl) (by simp) ?_
  refine AllReadyH.cons rfl (fun K hK => ?_) ?_
  ·go_simp
   go_wp2_with (go_at_call 57; go_loud (refine (HSE.out _ HB.out).mono ?_; rintro e wa ⟨A6, c6, A11, c11, rfl, hK, hb⟩; have HFK := Lib.hid (k50.M_lower (show W.heap.size ≤ _ by rw [World.size_alloc]; exact Nat.le_succ _) (k50.M_mono (ok' := fun k => k ≠ W.heap.size ∧ W.heap.size ≤ k) (fun k hk => by rw [World.size_alloc] at hk; have hk' : W.heap.size + 1 ≤ k := hk; omega) hK)); have HB := Lib.hid (below_step HB.out hb); have EZ := Lib.hid (blk_below EZ.out hb); clear hb hK))
   refine hK.out _ _ ?_ (fun hHeld => ?_)
   focus ((try dsimp only); exact ⟨(blk_cell (blk_below EM.out HB.out) 0).trans rfl, (blk_cell (blk_below EM.out HB.out) 6).trans rfl, pw_cell_below HB.out EP.out⟩)
   clear hK K
   refine tk 12 10 (v := ?_) rfl rfl (by kernel_rfl) rfl ?_ (by assumption) ?_; rotate_left; focus (intro w hSw; go_simp; try with_reducible rfl)
   try simp only [Act.put, List.setIfInBounds_toArray, List.set_cons_zero, List.set_cons_succ]
   refine tk 13 23 (v := ?_) rfl rfl (by kernel_rfl) rfl ?_ (by assumption) ?_; rotate_left; focus (intro w hSw; go_simp; try with_reducible rfl)
   try simp only [Act.put, List.setIfInBounds_toArray, List.set_cons_zero, List.set_cons_succ]
   refine tk 14 24 (v := ?_) rfl rfl (by kernel_rfl) rfl ?_ (by assumption) ?_; rotate_left; focus (intro w hSw; go_simp; try with_reducible rfl)
   try simp only [Act.put, List.setIfInBounds_toArray, List.set_cons_zero, List.set_cons_succ]
   refine wpAnyH_ready (rs := [16]) (by kernel_rfl) (by simp) ?_
   refine AllReadyH.cons rfl (fun K hK => ?_) ?_
   ·have hst := wr50_blk (cs := #[.string nd.f0, .bool nd.f1, .int .i64 nd.f2.f0, .int .i64 nd.f2.f1, .int .i64 nd.f2.f2, .int .i64 nd.f2.f3, .slice A6 nd.f3.length c6, .int .i64 nd.f4.f0, .int .i64 nd.f4.f1, .int .i64 nd.f4.f2, .int .i64 nd.f4.f3, .slice A11 nd.f5.length c11, .int .i64 nd.f6.f0, .int .i64 nd.f6.f1, .int .i64 nd.f6.f2, .int .i64 nd.f6.f3]) EZ.out rfl rfl (by simp [Value.oneCell'])
    have EX := Lib.hid (setRow_heap _ _ _ (#[.string nd.f0, .bool nd.f1, .int .i64 nd.f2.f0, .int .i64 nd.f2.f1, .int .i64 nd.f2.f2, .int .i64 nd.f2.f3, .slice A6 nd.f3.length c6, .int .i64 nd.f4.f0, .int .i64 nd.f4.f1, .int .i64 nd.f4.f2, .int .i64 nd.f4.f3, .slice A11 nd.f5.length c11, .int .i64 nd.f6.f0, .int .i64 nd.f6.f1, .int .i64 nd.f6.f2, .int .i64 nd.f6.f3] : Array Value) _ _ EZ.out)
    have HFK := Lib.hid (Kd.M_step (w1 := World.setRow _ _ (#[.string nd.f0, .bool nd.f1, .int .i64 nd.f2.f0, .int .i64 nd.f2.f1, .int .i64 nd.f2.f2, .int .i64 nd.f2.f3, .slice A6 nd.f3.length c6, .int .i64 nd.f4.f0, .int .i64 nd.f4.f1, .int .i64 nd.f4.f2, .int .i64 nd.f4.f3, .slice A11 nd.f5.length c11, .int .i64 nd.f6.f0, .int .i64 nd.f6.f1, .int .i64 nd.f6.f2, .int .i64 nd.f6.f3] : Array Value)) HFK.out (fun k hk hlt => setRow_other _ _ k _ hk.1))
    have HB := Lib.hid (below_setRow HB.out HZ.out (#[.string nd.f0, .bool nd.f1, .int .i64 nd.f2.f0, .int .i64 nd.f2.f1, .int .i64 nd.f2.f2, .int .i64 nd.f2.f3, .slice A6 nd.f3.length c6, .int .i64 nd.f4.f0, .int .i64 nd.f4.f1, .int .i64 nd.f4.f2, .int .i64 nd.f4.f3, .slice A11 nd.f5.length c11, .int .i64 nd.f6.f0, .int .i64 nd.f6.f1, .int .i64 nd.f6.f2, .int .i64 nd.f6.f3] : Array Value))
    go_simp
    refine hK.out _ _ ?_ (fun hHeld => ?_)
    focus ((try dsimp only); exact ⟨(blk_cell (blk_below EM.out HB.out) 0).trans rfl, (blk_cell (blk_below EM.out HB.out) 6).trans rfl, pw_cell_below HB.out EP.out⟩)
    clear hK K
    refine tk 17 9 (v := ?_) rfl rfl (by kernel_rfl) rfl ?_ (by assumption) ?_; rotate_left; focus (intro w hSw; go_simp; try with_reducible rfl)
    try simp only [Act.put, List.setIfInBounds_toArray, List.set_cons_zero, List.set_cons_succ]
    refine wpAnyH_done (by kernel_rfl) ?_ _
    refine NoPanic.normal ?_
    exact HPO.out _ _ A6 c6 A11 c11 _ _ _ _ _ _ _ _ _ _ _ _ _ _ _ HFK.out EX.out HZ.out HB.out
   exact AllReadyH.nil
  exact AllReadyH.nil
 exact AllReadyH.nil
set_option maxHeartbeats 16000000 in
set_option maxRecDepth 1000000 in
theorem wt2 (gm gn k off tl c nb cb t2 : Nat) (A : Option Addr) (bd : Addr) (u : ByteArray) (a : S41) (wd : Int) (cs : List Value) (l2 : List S50) (u4 u5 u6 u7 u9 u10 u11 u12 u13 u14 u15 u16 u17 u18 u19 u20 u21 u22 u23 u24 u25 u26 u27 u28 u29 u30 u31 u32 u33 u34 u35 u36 u37 u38 : Value) (W : World) (Q : Exit → Act → World → Prop)
  (hm : W.heap[gm]? = some (.cells #[.slice A tl c, .string u, .int .i64 a.f0, .int .i64 a.f1, .int .i64 a.f2, .int .i64 a.f3, .slice (some bd) nb cb] 105 (0, 0))) (hN : W.heap[gn]? = some (.cells cs.toArray 36 (0, 0))) (hcs : cs.toArray.size = 16) (hl2 : l2.length = t2) (hne : gn ≠ gm)
  (hP : ∀ w1 : World, Below W.heap.size W w1 → Calls Tryz.prog 150 #[.slice A tl c, .agg cs.toArray] w1 fun e w' => ∃ A' c', e = .returned (.slice A' t2 c') ∧ t2 ≤ c' ∧ Kd.F k50 w' (fun k => W.heap.size ≤ k) A' t2 l2 ∧ Below w1.heap.size w1 w')
  (hpost : ∀ (w' : World) (A' : Option Addr) (c' : Nat) (t30 t31 t32 t33 t34 t35 t36 t37 t38 : Value), w'.heap[gm]? = some (.cells #[.slice A' t2 c', .string u, .int .i64 a.f0, .int .i64 a.f1, .int .i64 a.f2, .int .i64 a.f3, .slice (some bd) nb cb] 105 (0, 0)) → t2 ≤ c' → Kd.F k50 w' (fun k => W.heap.size ≤ k) A' t2 l2 → W.grownBy w' (some gm) → Q .normal ⟨#[.pointer (some ⟨gm, 0, none⟩), .int .i64 (k : Int), .int .i64 (off : Int), .int .i64 wd, u4, u5, u6, u7, .pointer (some ⟨gn, 0, none⟩), u9, u10, u11, u12, u13, u14, u15, u16, u17, u18, u19, u20, u21, u22, u23, u24, u25, u26, u27, u28, u29, t30, t31, t32, t33, t34, t35, t36, t37, t38], []⟩ w') :
  Code.wp Tryz.prog (cReg Tryz.f149 2) Q ⟨#[.pointer (some ⟨gm, 0, none⟩), .int .i64 (k : Int), .int .i64 (off : Int), .int .i64 wd, u4, u5, u6, u7, .pointer (some ⟨gn, 0, none⟩), u9, u10, u11, u12, u13, u14, u15, u16, u17, u18, u19, u20, u21, u22, u23, u24, u25, u26, u27, u28, u29, u30, u31, u32, u33, u34, u35, u36, u37, u38], []⟩ W := by
 have EM := Lib.hid hm
 have EN := Lib.hid hN
 have HPU := Lib.hid hP
 have HPO := Lib.hid hpost
 clear hm hN hP hpost
 have HB := Lib.hid (below_drew1 (Below.refl W.heap.size W))
 conv => arg 2; whnf
 refine wp_region_noPanic ?_
 refine wp_region_held_drew (S := fun W1 => (rdS 36 (.pointer (some ⟨gn, 0, none⟩))).run Tryz.prog W1 = .ok (.agg cs.toArray) W1) (by kernel_rfl) ?_ (fun hHeld => ?_)
 focus ((try dsimp only); first | exact rd50_blk EY.out hcs | exact rd50_blk (blk_below EN.out HB.out) hcs)
 refine tk 0 30 (v := ?_) rfl rfl (by kernel_rfl) rfl ?_ (by assumption) ?_; rotate_left; focus (intro w hSw; go_simp; try with_reducible rfl)
 try simp only [Act.put, List.setIfInBounds_toArray, List.set_cons_zero, List.set_cons_succ]
 refine tk 1 31 (v := ?_) rfl rfl (by kernel_rfl) rfl ?_ (by assumption) ?_; rotate_left; focus (intro w hSw; go_simp; try with_reducible rfl)
 try simp only [Act.put, List.setIfInBounds_toArray, List.set_cons_zero, List.set_cons_succ]
 refine tk 2 32 (v := ?_) rfl rfl (by kernel_rfl) rfl ?_ (by assumption) ?_; rotate_left; focus (intro w hSw; go_simp; try with_reducible rfl)
 try simp only [Act.put, List.setIfInBounds_toArray, List.set_cons_zero, List.set_cons_succ]
 refine tk 3 33 (v := ?_) rfl rfl (by kernel_rfl) rfl ?_ (by assumption) ?_; rotate_left; focus (intro w hSw; go_simp; try with_reducible rfl)
 try simp only [Act.put, List.setIfInBounds_toArray, List.set_cons_zero, List.set_cons_succ]
 refine tk 5 35 (v := ?_) rfl rfl (by kernel_rfl) rfl ?_ (by assumption) ?_; rotate_left; focus (intro w hSw; go_simp; try with_reducible rfl)
 try simp only [Act.put, List.setIfInBounds_toArray, List.set_cons_zero, List.set_cons_succ]
 refine wpAnyH_ready (rs := [4]) (by kernel_rfl) (by simp) ?_
 refine AllReadyH.cons rfl (fun K hK => ?_) ?_
 ·have c0 := (blk_cell (blk_below EM.out HB.out) 0).trans rfl
  go_simp
  refine hK.out _ _ ?_ (fun hHeld => ?_)
  focus ((try dsimp only); first | exact rd50_blk EY.out hcs | exact rd50_blk (blk_below EN.out HB.out) hcs)
  clear hK K
  refine wpAnyH_ready (rs := [6]) (by kernel_rfl) (by simp) ?_
  refine AllReadyH.cons rfl (fun K hK => ?_) ?_
  ·go_simp
   go_wp2_with (go_at_call 150; go_loud (refine (HPU.out _ HB.out).mono ?_; rintro e wa ⟨A', c', rfl, hc', hF, hb⟩; have HF := Lib.hid hF; have HCL := Lib.hid hc'; have HB := Lib.hid (below_step HB.out hb); clear hb hF hc'))
   refine hK.out _ _ ?_ (fun hHeld => ?_)
   focus ((try dsimp only); first | exact rd50_blk EY.out hcs | exact rd50_blk (blk_below EN.out HB.out) hcs)
   clear hK K
   refine tk 7 37 (v := ?_) rfl rfl (by kernel_rfl) rfl ?_ (by assumption) ?_; rotate_left; focus (intro w hSw; go_simp; try with_reducible rfl)
   try simp only [Act.put, List.setIfInBounds_toArray, List.set_cons_zero, List.set_cons_succ]
   refine tk 8 38 (v := ?_) rfl rfl (by kernel_rfl) rfl ?_ (by assumption) ?_; rotate_left; focus (intro w hSw; go_simp; try with_reducible rfl)
   try simp only [Act.put, List.setIfInBounds_toArray, List.set_cons_zero, List.set_cons_succ]
   refine wpAnyH_ready (rs := [9]) (by kernel_rfl) (by simp) ?_
   refine AllReadyH.cons rfl (fun K hK => ?_) ?_
   ·have EQ := Lib.hid (blk_below EM.out HB.out)
    have c0 := (blk_cell EQ.out 0).trans rfl
    have z0 := blk_frozen EQ.out 0
    have EY := Lib.hid (blk_far (p := ⟨gm, 0, none⟩) (blk_below EN.out HB.out) (by show gn ≠ gm; exact hne) (.slice A' t2 c' : Value))
    have EX := Lib.hid (blk_put EQ.out 0 (.slice A' t2 c' : Value) rfl)
    have HG := Lib.hid (grown_put HB.out gm 0 (.slice A' t2 c' : Value))
    have HF := Lib.hid (Kd.F_far (p := ⟨gm, 0, none⟩) HF.out (fun k hk => by have h1 := blk_lt EM.out; have h2 : W.heap.size ≤ k := hk; show k ≠ gm; omega) (.slice A' t2 c' : Value))
    go_simp
    refine hK.out _ _ ?_ (fun hHeld => ?_)
    focus ((try dsimp only); first | exact rd50_blk EY.out hcs | exact rd50_blk (blk_below EN.out HB.out) hcs)
    clear hK K
    refine wpAnyH_done (by kernel_rfl) ?_ _
    refine NoPanic.normal ?_
    exact HPO.out _ A' c' _ _ _ _ _ _ _ _ _ EX.out HCL.out HF.out HG.out
   exact AllReadyH.nil
  exact AllReadyH.nil
 exact AllReadyH.nil
set_option maxHeartbeats 16000000 in
set_option maxRecDepth 1000000 in
theorem write_c (gm k off c nb cb : Nat) (A : Option Addr) (bd : Addr) (u p : ByteArray) (a : S41) (wd : Int) (nd : S50) (l l2 : List S50) (w : World)
  (hm : w.heap[gm]? = some (.cells #[.slice A l.length c, .string u, .int .i64 a.f0, .int .i64 a.f1, .int .i64 a.f2, .int .i64 a.f3, .slice (some bd) nb cb] 105 (0, 0))) (hp : w.cell? (bd.add k) = some (.string p)) (hk : k < nb) (hnb : nb ≤ cb)
  (hC : Kd.C k50 w A l.length l) (hc : l.length ≤ c) (hn : l.length < 100000) (hR : RisingN l p) (hF : ∀ m ∈ l, Fits m) (h1 : isN l p = true) (hnd : l[atN l p]? = some nd) (hpn : nd.f0 = p) (ho : off < nd.f5.length) (hl2 : l.set (atN l p) ⟨nd.f0, nd.f1, nd.f2, nd.f3, nd.f4, nd.f5.set off wd, nd.f6⟩ = l2) :
  Calls Tryz.prog 149 #[.pointer (some ⟨gm, 0, none⟩), .int .i64 (k : Int), .int .i64 (off : Int), .int .i64 wd] w fun e w' => e = .returned (.tuple #[]) ∧ ∃ A' c', w'.heap[gm]? = some (.cells #[.slice A' l2.length c', .string u, .int .i64 a.f0, .int .i64 a.f1, .int .i64 a.f2, .int .i64 a.f3, .slice (some bd) nb cb] 105 (0, 0)) ∧ l2.length ≤ c' ∧ Kd.F k50 w' (fun j => w.heap.size ≤ j) A' l2.length l2 ∧ w.grownBy w' (some gm) := by
 subst hpn
 have EM := Lib.hid hm
 have HP := Lib.hid hp
 have HC := Lib.hid hC
 have HT := Lib.hid fun w1 (hb : Below w.heap.size w w1) => tfind_M l nd.f0 A c w1 (Kd.C_below hC hb) hc (by omega) hR hF h1 nd hnd
 have hFn : Fits nd := hF nd (List.mem_of_getElem? hnd)
 have HPT := Lib.hid fun w1 (hb : Below w.heap.size w w1) (cs : List Value) (hK : k50.K w1 ⟨nd.f0, nd.f1, nd.f2, nd.f3, nd.f4, nd.f5.set off wd, nd.f6⟩ cs) => tput1_cF l ⟨nd.f0, nd.f1, nd.f2, nd.f3, nd.f4, nd.f5.set off wd, nd.f6⟩ cs A c w1 (Kd.C_below hC hb) hc hn hR hF hK ⟨hFn.1, by show (nd.f5.set off wd).length ≤ 1000; rw [List.length_set]; exact hFn.2⟩ h1 l2 hl2
 clear hm hp hC hR hF h1 hnd hl2 hFn
 go_enter Tryz.func149, Tryz.ntmps149
 go_wp2
 refine wt0 gm k l.length c nb cb A bd u nd.f0 a off wd nd _ _ _ _ _ _ _ _ _ _ _ _ _ _ _ _ _ _ _ _ _ _ _ _ _ _ _ _ _ _ _ _ _ _ _ w _ EM.out HP.out hk hnb (fun w1 hb => (HT.out w1 hb).mono ?_) ?_
 ·rintro e w' ⟨cs, rfl, hM, hb⟩
  obtain ⟨A6, c6, A11, c11, hcs, _⟩ := k50_open (k50.K_of_M hM)
  subst hcs
  exact ⟨A6, c6, A11, c11, rfl, hM, hb⟩
 intro g w3 A6 c6 A11 c11 t10 t11 t12 t13 t14 t15 t16 t17 t18 t19 t20 t21 t22 t23 t24 hM hX hg hb
 obtain ⟨gw, cap, hcs, hgw0, hgw1, hgw2, hcap, ⟨cells, hcl⟩, hce, hfz, hM2⟩ := node_put hM off ho wd
 injection (Option.some.inj hcs) with e1 _ e2
 subst e1 e2
 have n11 := (blk_cell hX 11).trans rfl
 have ho1 : (off : Int) < (nd.f5.length : Int) := by omega
 have ho0 : (0 : Int) ≤ (off : Int) := by omega
 have hkb : k50.K (w3.setCell ⟨gw, off, none⟩ (.int .i64 wd)) ⟨nd.f0, nd.f1, nd.f2, nd.f3, nd.f4, nd.f5.set off wd, nd.f6⟩ _ := k50.K_of_M hM2
 have HKB := Lib.hid hkb
 have HX2 := Lib.hid (blk_far (p := ⟨gw, off, none⟩) hX (fun e => hgw1.1 e.symm) (.int .i64 wd))
 have hgm := blk_lt EM.out
 have HBW := Lib.hid (below_set (j := off) (v := .int .i64 wd) hb hgw0)
 clear hM hM2 hX hb hkb hcs hcl
 go_wp2
 refine wt2 gm g k off l.length c nb cb l2.length A bd u a wd _ l2 _ _ _ _ _ _ _ _ _ _ _ _ _ _ _ _ _ _ _ _ _ _ _ _ _ _ _ _ _ _ _ _ _ _ _ _ (blk_below EM.out HBW.out) HX2.out rfl rfl (by omega) (fun w1 hb1 => (HPT.out w1 (below_step HBW.out hb1) _ (k50.K_below hb1 HKB.out)).mono ?_) ?_
 ·rintro e w' ⟨A', c', rfl, hc', hF', hb'⟩
  exact ⟨A', c', rfl, hc', Kd.F_mono hF' (fun k hk => Nat.le_trans hb1.size hk), hb'⟩
 intro w5 A' c' r30 r31 r32 r33 r34 r35 r36 r37 r38 hm5 hc5 hF5 hg5
 go_wp2
 first | go_end0 | refine bodyPost_ret (results_none rfl _ _ _) rfl ?_
 exact ⟨rfl, A', c', hm5, hc5, Kd.F_mono hF5 (fun k hk => Nat.le_trans HBW.out.size hk), below_grown HBW.out hg5⟩
end Go.Proofs.YteilkbookcmndaaGreatDoor.C
end
