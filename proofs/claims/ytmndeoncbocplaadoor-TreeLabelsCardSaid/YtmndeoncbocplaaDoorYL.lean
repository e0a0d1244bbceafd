/- Texts that the claim's law stands on, cut down to what it reaches. -/
import Derived.Test.YtmndeoncbocplaaDoorYT3
import Derived.Test.YtmndeoncbocplaaDoorYF
import Derived.Test.YtmndeoncbocplaaDoorYR
import Derived.Test.YtmndeoncbocplaaDoorYQ
import Derived.Test.YtmndeoncbocplaaDoorYK
import Derived.Deep.RegionHeldLaw
import Derived.Deep.RegionHeld3
import Derived.Deep.LoopGhost
set_option linter.unusedVariables false
set_option linter.unusedSimpArgs false
section
set_option linter.unusedVariables false
set_option linter.unusedSimpArgs false
namespace Go.Proofs.YtmndeoncbocplaaDoor.C
open Go.RowKit Go.Proofs.YtmndeoncbocplaaDoor.Q Go.Proofs.YtmndeoncbocplaaDoorW.PrintWords Go.Proofs.YtmndeoncbocplaaDoorW.PrintLast Go.Proofs.YtmndeoncbocplaaDoorW.PrintMore
theorem at_count (l : List S50) (p : ByteArray) : atN l p = l.countP fun m => less m.f0 p := by
  have e : (List.range l.length).map (fun i => l.getD i z50) = l := by
    apply List.ext_getElem?
    intro i
    by_cases h : i < l.length
    · simp [h, List.getD_eq_getElem?_getD]
    · rw [List.getElem?_eq_none (by simp; omega), List.getElem?_eq_none (by omega)]
  have h := List.countP_map (p := fun m : S50 => less m.f0 p) (f := fun i => l.getD i z50) (l := List.range l.length)
  rw [e] at h
  rw [h]
  rfl
theorem tw_count {p : ByteArray} : ∀ {l : List S50}, Asc l → (l.takeWhile fun m => less m.f0 p).length = l.countP fun m => less m.f0 p
  | [], _ => rfl
  | x :: l, h => by
    obtain ⟨h1, h2⟩ := List.pairwise_cons.1 h
    rw [List.takeWhile_cons, List.countP_cons]
    by_cases hx : less x.f0 p = true
    · rw [if_pos hx, if_pos hx, List.length_cons, tw_count h2]
    · rw [if_neg hx, if_neg hx, List.length_nil]
      symm
      rw [Nat.add_zero, List.countP_eq_zero]
      intro y hy hyp
      exact hx (less_trans (h1 y hy) hyp)
theorem take_at_tw {l : List S50} (h : Asc l) (p : ByteArray) : l.take (atN l p) = (l.takeWhile fun m => less m.f0 p) ∧ l.drop (atN l p) = (l.dropWhile fun m => less m.f0 p) := by
  have e := List.takeWhile_append_dropWhile (p := fun m : S50 => less m.f0 p) (l := l)
  have hn : atN l p = (l.takeWhile fun m => less m.f0 p).length := by rw [at_count, tw_count h]
  rw [hn]
  have h1 := List.take_left (l₁ := l.takeWhile fun m => less m.f0 p) (l₂ := l.dropWhile fun m => less m.f0 p)
  have h2 := List.drop_left (l₁ := l.takeWhile fun m => less m.f0 p) (l₂ := l.dropWhile fun m => less m.f0 p)
  rw [e] at h1 h2
  exact ⟨h1, h2⟩
/-- A node that is new: both ways to put it come to the same. -/
theorem putP_new {t : List S50} (h : Asc t) (n : S50) (hno : isN t n.f0 = false) : putP t n = putN t n := by
  have hf : t.filter (keepN n.f0) = t := List.filter_eq_self.2 fun x hx => (keep_iff _ _).2 fun e => by
    have := (is_at h hx).1
    rw [e, hno] at this
    cases this
  obtain ⟨e1, e2⟩ := take_at_tw h n.f0
  unfold putP putN
  rw [hno, if_neg (by simp), hf, e1, e2]
theorem nAt_mem {t : List S50} {i : Nat} (h : i < t.length) : nAt t i ∈ t := by rw [nAt_get h]; exact List.getElem_mem h
theorem asc_lt {t : List S50} (A : Asc t) {i j : Nat} (hij : i < j) (hj : j < t.length) : less (nAt t i).f0 (nAt t j).f0 = true := by
  rw [nAt_get hj, nAt_get (show i < t.length by omega)]
  exact List.pairwise_iff_getElem.1 A i j (by omega) hj hij
theorem not_root {ns : List (List UInt8)} (hok : Okp ns) : less (pth ns) (pth []) = false := by
  obtain ⟨r, hr⟩ := okp_head hok
  unfold less
  rw [pth_nil, Lib.toList_data, pth_data, hr]
  cases r <;> simp [Op.bytesLess]
theorem root_less_pth {ns : List (List UInt8)} (hok : Okp ns) (hne : ns ≠ []) : less (pth []) (pth ns) = true := by
  cases h : less (pth []) (pth ns) with
  | true => rfl
  | false => exact absurd (pth_inj hok.1 (by simp) (less_tri (not_root hok) h)) hne
theorem check_put {t : List S50} (T : Tree t) (n : S50) {ns : List (List UInt8)} (hok : Okp ns) (hne : ns ≠ []) (hp : n.f0 = pth ns) (hnd : ndN (peN n.f0) n = 0) (hno : isN t n.f0 = false) : checkT (putN t n) = hangN (putN t n) (parP n.f0) n := by
  have hfar : ∀ x ∈ t, x.f0 ≠ n.f0 := by
    intro x hx e
    have := (is_at T.asc hx).1
    rw [e, hno] at this
    cases this
  have A := asc_put T.asc n
  obtain ⟨r, hr, r0, _, r2⟩ := T.root
  have hmem : ∀ x, x ∈ putN t n ↔ x = n ∨ (x ∈ t ∧ x.f0 ≠ n.f0) := fun x => mem_put
  have hin : ∀ {x}, x ∈ t → x ∈ putN t n := fun hx => (hmem _).2 (Or.inr ⟨hx, hfar _ hx⟩)
  have hnin : n ∈ putN t n := (hmem _).2 (Or.inl rfl)
  have hpaths : ∀ x ∈ putN t n, ∃ ms, Okp ms ∧ x.f0 = pth ms := by
    intro x hx
    rcases (hmem x).1 hx with rfl | ⟨hx, _⟩
    · exact ⟨ns, hok, hp⟩
    · exact tree_path T hx
  generalize putN t n = t' at A hmem hin hnin hpaths ⊢
  have hlen : 0 < t'.length := List.length_pos_of_mem hnin
  -- the root is first
  have hhead : nAt t' 0 = r := by
    obtain ⟨k, hk, he⟩ := List.getElem_of_mem (hin hr)
    by_cases hk0 : k = 0
    · subst hk0; rw [nAt_get hk]; exact he
    · have hlt := asc_lt A (show 0 < k by omega) hk
      obtain ⟨ms, hms, hmp⟩ := hpaths _ (nAt_mem hlen)
      rw [nAt_get hk, he, r0, hmp, not_root hms] at hlt
      cases hlt
  have h1 : firstE (ck1 t') t'.length = 0 := firstE_zero _ fun j hj => by
    unfold ck1
    have hz : ndN (peN (nAt t' j).f0) (nAt t' j) = 0 := by
      have hm := nAt_mem hj
      rcases (hmem _).1 hm with e | ⟨hx, _⟩
      · rw [e]; exact hnd
      · exact node_zero T hx
    rw [hz, if_neg (by simp), if_neg]
    rintro ⟨h0, hb⟩
    have := asc_lt A (show j - 1 < j by omega) hj
    unfold less at this
    rw [this] at hb
    exact Bool.noConfusion hb
  have hold : ∀ j, j < t'.length - 1 → nAt t' (j + 1) ≠ n → ck2 t' j = 0 := by
    intro j hj hjn
    have hj1 : j + 1 < t'.length := by omega
    have hm := nAt_mem hj1
    have hx : nAt t' (j + 1) ∈ t := by
      rcases (hmem _).1 hm with e | ⟨hx, _⟩
      · exact absurd e hjn
      · exact hx
    obtain ⟨ms, hmo, hmp, hup⟩ := T.up _ hx
    have hms : ms ≠ [] := by
      rintro rfl
      have hlt := asc_lt A (show 0 < j + 1 by omega) hj1
      rw [hhead, r0, hmp, less_irr] at hlt
      cases hlt
    obtain ⟨d, hd, d0, d1, dl, ds⟩ := hup hms
    obtain ⟨i1, i2⟩ := is_at A (hin hd)
    have hpar : parP (nAt t' (j + 1)).f0 = d.f0 := by unfold parP; rw [hmp, pparent_f hmo hms, d0]; rfl
    unfold ck2 hangN
    rw [hpar, if_pos i1, i2, if_pos d1, dl]
    cases hf : (nAt t' (j + 1)).f1 with
    | true => simp
    | false =>
      have he := ds hf
      have : eqL (nAt t' (j + 1)).f2 d = true := by unfold eqL; rw [he]; simp
      rw [this]
      simp
  obtain ⟨k, hk, hkn⟩ := List.getElem_of_mem hnin
  have hk0 : k ≠ 0 := by
    rintro rfl
    have e : nAt t' 0 = n := by rw [nAt_get hk]; exact hkn
    rw [hhead] at e
    have := root_less_pth hok hne
    rw [← hp, ← e, r0, less_irr] at this
    cases this
  have hkn' : nAt t' (k - 1 + 1) = n := by rw [show k - 1 + 1 = k by omega, nAt_get hk]; exact hkn
  have huniq : ∀ j, j < t'.length - 1 → j ≠ k - 1 → ck2 t' j = 0 := by
    intro j hj hjk
    refine hold j hj fun e => ?_
    rcases Nat.lt_or_gt_of_ne hjk with h | h
    · have := asc_lt A (show j + 1 < k by omega) hk
      rw [e, nAt_get hk, hkn, less_irr] at this
      cases this
    · have := asc_lt A (show k < j + 1 by omega) (by omega)
      rw [e, nAt_get hk, hkn, less_irr] at this
      cases this
  have hkv : ck2 t' (k - 1) = hangN t' (parP n.f0) n := by unfold ck2; rw [hkn']
  have h2 : firstE (ck2 t') (t'.length - 1) = hangN t' (parP n.f0) n := by
    by_cases hz : hangN t' (parP n.f0) n = 0
    · rw [hz]
      refine firstE_zero _ fun j hj => ?_
      by_cases hjk : j = k - 1
      · rw [hjk, hkv, hz]
      · exact huniq j hj hjk
    · rw [← hkv]
      exact firstE_hit (fun j hj => huniq j (by omega) (by omega)) (by rw [hkv]; exact hz) _ (by omega)
  unfold checkT
  rw [h1, if_neg (by simp), if_neg, h2, hhead, r2]
  · by_cases hz : hangN t' (parP n.f0) n = 0
    · rw [hz]; rfl
    · rw [if_pos hz]
  · intro h
    rcases h with h | h
    · omega
    · exact h (by rw [hhead, r0]; exact pth_nil)
/-- What hangs below a node of the tree. -/
theorem hang_in {t : List S50} (T : Tree t) {d n : S50} (hd : d ∈ t) {ds : List (List UInt8)} {x : List UInt8} (hok : Okp (ds ++ [x])) (hpd : d.f0 = pth ds) (hp : n.f0 = pth (ds ++ [x])) (hno : isN t n.f0 = false) :
    hangN (putN t n) (parP n.f0) n = if d.f1 = true then (if (!lover n.f2 d.f2 || (!n.f1 && !eqL n.f2 d)) = true then 15 else 0) else 3 := by
  have hdn : d.f0 ≠ n.f0 := by
    intro e
    have := (is_at T.asc hd).1
    rw [e, hno] at this
    cases this
  obtain ⟨i1, i2⟩ := is_at (asc_put T.asc n) (mem_put.2 (Or.inr ⟨hd, hdn⟩))
  have hpar : parP n.f0 = d.f0 := by
    unfold parP
    rw [hp, pparent_f hok (by simp), List.dropLast_concat, hpd]
    rfl
  unfold hangN
  rw [hpar, if_pos i1, i2]
/-- A byte that no path of the tree has. -/
theorem not_in {t : List S50} (F : Fine t) (h : Asc t) {p : ByteArray} {b : UInt8} (hb : b ∈ p.toList) (hn : ¬ FineB b) : isN t p = false := by
  cases hi : isN t p with
  | false => rfl
  | true =>
    obtain ⟨hm, he⟩ := is_mem hi
    exact absurd (F _ hm b (by rw [he]; exact hb)) hn
theorem hang_no {t : List S50} (T : Tree t) (F : Fine t) {n : S50} {ns : List (List UInt8)} (hok : Okp ns) (hne : ns ≠ []) (hp : n.f0 = pth ns) {b : UInt8} (hb : b ∈ (pth ns.dropLast).toList) (hnb : ¬ FineB b) (hnl : pth ns.dropLast ≠ pth ns) :
    hangN (putN t n) (parP n.f0) n = 2 := by
  have hpar : parP n.f0 = pth ns.dropLast := by unfold parP; rw [hp, pparent_f hok hne]; rfl
  have hi : isN (putN t n) (pth ns.dropLast) = false := by
    cases h : isN (putN t n) (pth ns.dropLast) with
    | false => rfl
    | true =>
      obtain ⟨hm, he⟩ := is_mem h
      rcases mem_put.1 hm with e | ⟨hm, _⟩
      · rw [e, hp] at he; exact absurd he.symm hnl
      · exact absurd (F _ hm b (by rw [he]; exact hb)) hnb
  unfold hangN
  rw [hpar, hi, if_neg (by simp)]
end Go.Proofs.YtmndeoncbocplaaDoor.C
end
section
set_option linter.unusedVariables false
set_option linter.unusedSimpArgs false
namespace Go.Proofs.YtmndeoncbocplaaDoor.C
open Go.RowKit Go.Proofs.YtmndeoncbocplaaDoor.Q Go.Proofs.YtmndeoncbocplaaDoorW.PrintWords Go.Proofs.YtmndeoncbocplaaDoorW.PrintLast Go.Proofs.YtmndeoncbocplaaDoorW.PrintMore
theorem node_zero' {n : S50} (h : NodeOk n) {ns : List (List UInt8)} (hok : Okp ns) (hne : ns ≠ []) (hp : n.f0 = pth ns) : ndN (peN n.f0) n = 0 := by
  obtain ⟨h1, h2, h3, h4, h5, h6⟩ := h
  unfold ndN
  rw [hp, pe_zero hok, lab_zero h1, lab_zero h2, acl_zero h3]
  rw [if_neg (by simp [first4])]
  by_cases hd : n.f1 = true
  · obtain ⟨hw, hr⟩ := h5 hd
    rw [if_neg (fun h => by rw [hd] at h; exact Bool.noConfusion h.2), if_pos hd, hw, hr]
    rfl
  · rw [if_neg, if_neg hd, if_neg, if_neg (by omega)]
    · have : ringN n.f4 = 0 := by unfold ringN; rw [if_pos (by omega)]
      simpa using this
    · rintro ⟨hroot, _⟩
      exact hne (pth_inj hok.1 (by simp) (bytes_of_toList (hroot.trans pth_nil.symm)))
/-- A node without a list, rings, words. -/
def plainN (q : ByteArray) (b : Bool) (g : S41) : S50 := ⟨q, b, g, [], z47, [], z41⟩
theorem z41_lab : Lab z41 := by unfold Lab z41; decide
theorem z47_ok : 0 ≤ z47.f0 ∧ z47.f0 ≤ z47.f1 ∧ z47.f1 ≤ z47.f2 ∧ z47.f2 < 8 ∧ 0 ≤ z47.f3 ∧ z47.f3 < 17 := by unfold z47; decide
theorem plain_ok (q : ByteArray) (b : Bool) {g : S41} (h : Lab g) : NodeOk (plainN q b g) :=
  ⟨h, z41_lab, ⟨[], List.Pairwise.nil, by simp, rfl, by simp [plainN], Nat.zero_le _⟩, Nat.zero_le _, fun _ => ⟨rfl, rfl⟩, z47_ok⟩
def plainCells (q : ByteArray) (b : Bool) (g : S41) : Array Value := #[.string q, .bool b, .int .i64 g.f0, .int .i64 g.f1, .int .i64 g.f2, .int .i64 g.f3, .slice none 0 0, .int .i64 0, .int .i64 0, .int .i64 0, .int .i64 0, .slice none 0 0, .int .i64 0, .int .i64 0, .int .i64 0, .int .i64 0]
theorem plain_K (w : World) (q : ByteArray) (b : Bool) (g : S41) : k50.K w (plainN q b g) (plainCells q b g).toList :=
  k50_mk w (plainN q b g) (A6 := none) (c6 := 0) (Nat.le_refl _) (Kd.C_nil k96 w) (A11 := none) (c11 := 0) (Nat.le_refl _) (Kd.C_nil (Kd.int .i64) w)
theorem put_check {t : List S50} (T : Tree t) (q : ByteArray) (b : Bool) (g : S41) (hg : Lab g) {ns : List (List UInt8)} (hok : Okp ns) (hne : ns ≠ []) (hp : q = pth ns) (hno : isN t q = false) (want : Int) (hw : hangN (putN t (plainN q b g)) (parP q) (plainN q b g) = want)
    (A : Option Addr) (c : Nat) (w0 : World) (hC : Kd.C k50 w0 A t.length t) (hc : t.length ≤ c) :
    ∃ t2 : List S50, (∀ w, Below w0.heap.size w0 w → Calls Tryd.prog 55 #[.slice A t.length c, .agg #[.string q, .bool b, .int .i64 g.f0, .int .i64 g.f1, .int .i64 g.f2, .int .i64 g.f3, .slice none 0 0, .int .i64 0, .int .i64 0, .int .i64 0, .int .i64 0, .slice none 0 0, .int .i64 0, .int .i64 0, .int .i64 0, .int .i64 0]] w fun e w' => ∃ A' c', e = .returned (.slice A' t2.length c') ∧ t2.length ≤ c' ∧ Kd.C k50 w' A' t2.length t2 ∧ Below w.heap.size w w') ∧
      ∀ A c w, Kd.C k50 w A t2.length t2 → t2.length ≤ c → Calls Tryd.prog 49 #[.slice A t2.length c] w fun e w' => e = .returned (.int .i64 want) ∧ Below w.heap.size w w' := by
  have htl := T.len
  have hN : NodeOk (plainN q b g) := plain_ok q b hg
  have hpn : putP t (plainN q b g) = putN t (plainN q b g) := putP_new T.asc _ hno
  refine ⟨putN t (plainN q b g), fun w hb => ?_, fun A c w hC hc => ?_⟩
  · rw [← hpn]
    exact tput_c t (plainN q b g) (plainCells q b g).toList A c w (Kd.C_below hC hb) hc (by omega) (asc_rising T.asc _) (tree_srch T).2.2 (plain_K w q b g) (node_fits hN)
  · have hl := put_len t (plainN q b g)
    have h := treecheck_c (putN t (plainN q b g)) A c w hC hc (by omega) (fun x hx => by
      rcases mem_put.1 hx with rfl | ⟨hx, _⟩
      · have hz := check_len hok.2
        exact ⟨_, by show P.path_Parent.f q = _; rw [hp]; exact P.parent_f (pth ns) (by rw [pth_size]; omega) ns (pth_data ns) hok.1⟩
      · exact tree_par T x hx)
    rw [check_put T (plainN q b g) hok hne hp (node_zero' hN hok hne hp) hno] at h
    rw [show hangN (putN t (plainN q b g)) (parP (plainN q b g).f0) (plainN q b g) = want from hw] at h
    exact h
theorem zz_okp {ds : List (List UInt8)} (hd : Okp ds) (hz : L.checkL (L.render (ds ++ [[122, 122]])) = 0) : Okp (ds ++ [[122, 122]]) := by
  refine ⟨fun x hx => ?_, hz⟩
  rcases List.mem_append.1 hx with hx | hx
  · exact hd.1 x hx
  · rw [List.mem_singleton.1 hx]
    exact L.name_nm (by decide +kernel)
theorem zz_byte (ds : List (List UInt8)) : (122 : UInt8) ∈ (pth (ds ++ [[122, 122]])).toList := by
  rw [Lib.toList_data, pth_data, L.render_flat _ (by simp), L.flat_snoc]
  simp
theorem no_okp : Okp [[110, 111], [122, 122]] := by
  refine ⟨fun x hx => ?_, by decide +kernel⟩
  rcases List.mem_cons.1 hx with rfl | hx
  · exact L.name_nm (by decide +kernel)
  · rw [List.mem_singleton.1 hx]; exact L.name_nm (by decide +kernel)
theorem no_pth : pth [[110, 111], [122, 122]] = ⟨#[47, 110, 111, 47, 122, 122]⟩ := L.bytes_ext rfl
theorem not_fine_z : ¬ FineB 122 := by unfold FineB; decide
theorem not_fine_n : ¬ FineB 110 := by unfold FineB; decide
/-- The node below a directory: what the check tells. -/
theorem zz_hang {t : List S50} (T : Tree t) (F : Fine t) {d : S50} (hd : d ∈ t) {ds : List (List UInt8)} (hpd : d.f0 = pth ds) (hok : Okp (ds ++ [[122, 122]])) (b : Bool) (g : S41) :
    isN t (pth (ds ++ [[122, 122]])) = false ∧ hangN (putN t (plainN (pth (ds ++ [[122, 122]])) b g)) (parP (pth (ds ++ [[122, 122]]))) (plainN (pth (ds ++ [[122, 122]])) b g) = if d.f1 = true then (if (!lover g d.f2 || (!b && !eqL g d)) = true then 15 else 0) else 3 := by
  have hno := not_in F T.asc (zz_byte ds) not_fine_z
  exact ⟨hno, hang_in T hd (n := plainN (pth (ds ++ [[122, 122]])) b g) hok hpd rfl hno⟩
theorem no_hang {t : List S50} (T : Tree t) (F : Fine t) (b : Bool) (g : S41) :
    isN t (pth [[110, 111], [122, 122]]) = false ∧ hangN (putN t (plainN (pth [[110, 111], [122, 122]]) b g)) (parP (pth [[110, 111], [122, 122]])) (plainN (pth [[110, 111], [122, 122]]) b g) = 2 := by
  have hb : (110 : UInt8) ∈ (pth ([[110, 111], [122, 122]] : List (List UInt8)).dropLast).toList := by
    rw [Lib.toList_data, pth_data]; decide
  have hb2 : (110 : UInt8) ∈ (pth [[110, 111], [122, 122]]).toList := by
    rw [Lib.toList_data, pth_data]; decide
  refine ⟨not_in F T.asc hb2 not_fine_n, hang_no T F (n := plainN (pth [[110, 111], [122, 122]]) b g) no_okp (by simp) rfl hb not_fine_n ?_⟩
  intro e
  have := congrArg ByteArray.size e
  rw [pth_size, pth_size] at this
  revert this
  decide
end Go.Proofs.YtmndeoncbocplaaDoor.C
end
section
set_option linter.unusedVariables false
set_option linter.unusedSimpArgs false
namespace Go.Proofs.YtmndeoncbocplaaDoor.C
open Go.RowKit Go.Proofs.YtmndeoncbocplaaDoor.Q Go.Proofs.YtmndeoncbocplaaDoorW.PrintWords Go.Proofs.YtmndeoncbocplaaDoorW.PrintLast Go.Proofs.YtmndeoncbocplaaDoorW.PrintMore
attribute [local go_sem ↓] rd_at50 wr_at50 al_at50
attribute [local go_sem] rd50_new wr50_new al50
set_option maxHeartbeats 8000000 in
set_option maxRecDepth 1000000 in
theorem rl5 (gd gb : Nat) (p q : ByteArray) (lb : S41) (u0 u1 u2 u3 u4 u5 u6 u7 u9 u10 u11 u13 u14 u15 u16 u17 u18 u19 u20 u21 u22 u23 u24 u25 u26 u27 u28 u29 u30 u31 u32 u33 u34 u35 u36 u37 u38 u39 u40 u41 u42 u43 u44 u45 u46 u47 u48 u49 u50 u51 u52 u53 u54 u55 u56 u57 u58 u59 u60 u61 u62 u63 u64 u65 u66 u67 u68 u69 u70 u71 u72 u73 u74 u75 : Value) (W : World) (Q : Exit → Act → World → Prop)
    (hp : W.cell? ⟨gd, 0, none⟩ = some (.string p)) (h0 : W.cell? ⟨gb, 0, none⟩ = some (.int .i64 lb.f0)) (h1 : W.cell? ⟨gb, 1, none⟩ = some (.int .i64 lb.f1)) (h2 : W.cell? ⟨gb, 2, none⟩ = some (.int .i64 lb.f2)) (h3 : W.cell? ⟨gb, 3, none⟩ = some (.int .i64 lb.f3))
    (hJ : ∀ w1 : World, Calls Tryd.prog 45 #[.string p, .string ⟨#[122, 122]⟩] w1 fun e w' => e = .returned (.string q) ∧ Below w1.heap.size w1 w')
    (hG : ∀ w1 : World, Calls Tryd.prog 33 #[.agg #[.int .i64 lb.f0, .int .i64 lb.f1, .int .i64 lb.f2, .int .i64 lb.f3]] w1 fun e w' => ∃ g : S41, e = .returned (.agg #[.int .i64 g.f0, .int .i64 g.f1, .int .i64 g.f2, .int .i64 g.f3]) ∧ Lab g ∧ Below w1.heap.size w1 w')
    (hpost : ∀ (g : Nat) (w' : World) (gl : S41) (t27 t28 t29 t30 t31 t32 : Value), Lab gl → w'.heap[g]? = some (.cells #[.string q, .bool true, .int .i64 gl.f0, .int .i64 gl.f1, .int .i64 gl.f2, .int .i64 gl.f3, .slice none 0 0, .int .i64 0, .int .i64 0, .int .i64 0, .int .i64 0, .slice none 0 0, .int .i64 0, .int .i64 0, .int .i64 0, .int .i64 0] 50 (0, 0)) → W.heap.size ≤ g → Below W.heap.size W w' → Q .normal ⟨#[u0, u1, u2, u3, u4, u5, u6, u7, .pointer (some ⟨gb, 0, none⟩), u9, u10, u11, .pointer (some ⟨gd, 0, none⟩), .pointer (some ⟨g, 0, none⟩), u14, u15, u16, u17, u18, u19, u20, u21, u22, u23, u24, u25, u26, t27, t28, t29, t30, t31, t32, u33, u34, u35, u36, u37, u38, u39, u40, u41, u42, u43, u44, u45, u46, u47, u48, u49, u50, u51, u52, u53, u54, u55, u56, u57, u58, u59, u60, u61, u62, u63, u64, u65, u66, u67, u68, u69, u70, u71, u72, u73, u74, u75], []⟩ w') :
    Code.wp Tryd.prog (cReg Tryd.f18 5) Q ⟨#[u0, u1, u2, u3, u4, u5, u6, u7, .pointer (some ⟨gb, 0, none⟩), u9, u10, u11, .pointer (some ⟨gd, 0, none⟩), u13, u14, u15, u16, u17, u18, u19, u20, u21, u22, u23, u24, u25, u26, u27, u28, u29, u30, u31, u32, u33, u34, u35, u36, u37, u38, u39, u40, u41, u42, u43, u44, u45, u46, u47, u48, u49, u50, u51, u52, u53, u54, u55, u56, u57, u58, u59, u60, u61, u62, u63, u64, u65, u66, u67, u68, u69, u70, u71, u72, u73, u74, u75], []⟩ W := by
  have EP := Lib.hid hp
  have E0 := Lib.hid h0
  have E1 := Lib.hid h1
  have E2 := Lib.hid h2
  have E3 := Lib.hid h3
  have HJ := Lib.hid hJ
  have HG := Lib.hid hG
  have HPO := Lib.hid hpost
  clear hp h0 h1 h2 h3 hJ hG hpost
  have HB := Lib.hid (below_drew1 (Below.refl W.heap.size W))
  conv => arg 2; whnf
  refine wp_region_noPanic ?_
  refine wp_region_held_drew (S := fun W1 => W1.cell? ⟨gd, 0, none⟩ = some (.string p) ∧ W1.cell? ⟨gb, 0, none⟩ = some (.int .i64 lb.f0) ∧ W1.cell? ⟨gb, 1, none⟩ = some (.int .i64 lb.f1) ∧ W1.cell? ⟨gb, 2, none⟩ = some (.int .i64 lb.f2) ∧ W1.cell? ⟨gb, 3, none⟩ = some (.int .i64 lb.f3)) (by kernel_rfl) ?_ (fun hHeld => ?_)
  focus ((try dsimp only); exact ⟨pw_cell_below HB.out EP.out, pw_cell_below HB.out E0.out, pw_cell_below HB.out E1.out, pw_cell_below HB.out E2.out, pw_cell_below HB.out E3.out⟩)
  first
    | (refine take_at 0 27 (v := ?_) rfl rfl (by kernel_rfl) (by kernel_rfl) (by kernel_rfl) (fun _ _ _ h => h) (Or.inl ⟨by rfl, ?_⟩) (by assumption) ?_; rotate_left; focus (intro w hSw; (try dsimp only at hSw); go_simp; try with_reducible rfl))
    | (refine take_at 0 27 (v := undef) rfl rfl (by kernel_rfl) (by kernel_rfl) (by kernel_rfl) (fun _ _ _ h => h) (Or.inr ⟨by rfl, rfl⟩) (by assumption) ?_)
  try simp only [Act.put, List.setIfInBounds_toArray, List.set_cons_zero, List.set_cons_succ]
  first
    | (refine take_at 1 28 (v := ?_) rfl rfl (by kernel_rfl) (by kernel_rfl) (by kernel_rfl) (fun _ _ _ h => h) (Or.inl ⟨by rfl, ?_⟩) (by assumption) ?_; rotate_left; focus (intro w hSw; (try dsimp only at hSw); go_simp; try with_reducible rfl))
    | (refine take_at 1 28 (v := undef) rfl rfl (by kernel_rfl) (by kernel_rfl) (by kernel_rfl) (fun _ _ _ h => h) (Or.inr ⟨by rfl, rfl⟩) (by assumption) ?_)
  try simp only [Act.put, List.setIfInBounds_toArray, List.set_cons_zero, List.set_cons_succ]
  first
    | (refine take_at 3 30 (v := ?_) rfl rfl (by kernel_rfl) (by kernel_rfl) (by kernel_rfl) (fun _ _ _ h => h) (Or.inl ⟨by rfl, ?_⟩) (by assumption) ?_; rotate_left; focus (intro w hSw; (try dsimp only at hSw); go_simp; try with_reducible rfl))
    | (refine take_at 3 30 (v := undef) rfl rfl (by kernel_rfl) (by kernel_rfl) (by kernel_rfl) (fun _ _ _ h => h) (Or.inr ⟨by rfl, rfl⟩) (by assumption) ?_)
  try simp only [Act.put, List.setIfInBounds_toArray, List.set_cons_zero, List.set_cons_succ]
  refine wpAnyH_ready (rs := [2, 6]) (by kernel_rfl) (by simp) ?_
  refine AllReadyH.cons rfl (fun K hK => ?_) ?_
  · go_simp
    go_wp2_with (go_at_call 45; go_loud (refine (HJ.out _).mono ?_; rintro e wa ⟨rfl, hb⟩; have HB := Lib.hid (below_step HB.out hb); (try have EZ := Lib.hid (blk_below EZ.out hb)); clear hb))
    refine hK.out _ _ ?_ (fun hHeld => ?_)
    focus ((try dsimp only); exact ⟨pw_cell_below HB.out EP.out, pw_cell_below HB.out E0.out, pw_cell_below HB.out E1.out, pw_cell_below HB.out E2.out, pw_cell_below HB.out E3.out⟩)
    clear hK K
    refine wpAnyH_ready (rs := [4, 6]) (by kernel_rfl) (by simp) ?_
    refine AllReadyH.cons rfl (fun K hK => ?_) ?_
    · go_simp
      go_wp2_with (go_at_call 33; go_loud (refine (HG.out _).mono ?_; rintro e wb ⟨gl, rfl, hLg, hb⟩; have HLG := Lib.hid hLg; have HB := Lib.hid (below_step HB.out hb); (try have EZ := Lib.hid (blk_below EZ.out hb)); clear hb hLg))
      refine hK.out _ _ ?_ (fun hHeld => ?_)
      focus ((try dsimp only); exact ⟨pw_cell_below HB.out EP.out, pw_cell_below HB.out E0.out, pw_cell_below HB.out E1.out, pw_cell_below HB.out E2.out, pw_cell_below HB.out E3.out⟩)
      clear hK K
      first
        | (refine take_at 5 32 (v := ?_) rfl rfl (by kernel_rfl) (by kernel_rfl) (by kernel_rfl) (fun _ _ _ h => h) (Or.inl ⟨by rfl, ?_⟩) (by assumption) ?_; rotate_left; focus (intro w hSw; (try dsimp only at hSw); go_simp; try with_reducible rfl))
        | (refine take_at 5 32 (v := undef) rfl rfl (by kernel_rfl) (by kernel_rfl) (by kernel_rfl) (fun _ _ _ h => h) (Or.inr ⟨by rfl, rfl⟩) (by assumption) ?_)
      try simp only [Act.put, List.setIfInBounds_toArray, List.set_cons_zero, List.set_cons_succ]
      refine wpAnyH_ready (rs := [6]) (by kernel_rfl) (by simp) ?_
      refine AllReadyH.cons rfl (fun K hK => ?_) ?_
      · have EZ := Lib.hid (show (World.alloc wb (.cells #[.string (⟨#[]⟩ : ByteArray), .bool false, .int .i64 0, .int .i64 0, .int .i64 0, .int .i64 0, .slice none 0 0, .int .i64 0, .int .i64 0, .int .i64 0, .int .i64 0, .slice none 0 0, .int .i64 0, .int .i64 0, .int .i64 0, .int .i64 0] 50)).heap[wb.heap.size]? = some (.cells #[.string (⟨#[]⟩ : ByteArray), .bool false, .int .i64 0, .int .i64 0, .int .i64 0, .int .i64 0, .slice none 0 0, .int .i64 0, .int .i64 0, .int .i64 0, .int .i64 0, .slice none 0 0, .int .i64 0, .int .i64 0, .int .i64 0, .int .i64 0] 50) from blk_new wb (.cells #[.string (⟨#[]⟩ : ByteArray), .bool false, .int .i64 0, .int .i64 0, .int .i64 0, .int .i64 0, .slice none 0 0, .int .i64 0, .int .i64 0, .int .i64 0, .int .i64 0, .slice none 0 0, .int .i64 0, .int .i64 0, .int .i64 0, .int .i64 0] 50))
        have HZ := Lib.hid (show W.heap.size ≤ wb.heap.size from (by first | exact Nat.le_refl _ | exact below_size HB.out))
        have HB := Lib.hid (below_alloc HB.out (.cells #[.string (⟨#[]⟩ : ByteArray), .bool false, .int .i64 0, .int .i64 0, .int .i64 0, .int .i64 0, .slice none 0 0, .int .i64 0, .int .i64 0, .int .i64 0, .int .i64 0, .slice none 0 0, .int .i64 0, .int .i64 0, .int .i64 0, .int .i64 0] 50))
        go_simp
        refine hK.out _ _ ?_ (fun hHeld => ?_)
        focus ((try dsimp only); exact ⟨pw_cell_below HB.out EP.out, pw_cell_below HB.out E0.out, pw_cell_below HB.out E1.out, pw_cell_below HB.out E2.out, pw_cell_below HB.out E3.out⟩)
        clear hK K
        refine wpAnyH_ready (rs := [7]) (by kernel_rfl) (by simp) ?_
        refine AllReadyH.cons rfl (fun K hK => ?_) ?_
        · have hst := wr50_blk (cs := #[.string q, .bool true, .int .i64 gl.f0, .int .i64 gl.f1, .int .i64 gl.f2, .int .i64 gl.f3, .slice none 0 0, .int .i64 0, .int .i64 0, .int .i64 0, .int .i64 0, .slice none 0 0, .int .i64 0, .int .i64 0, .int .i64 0, .int .i64 0]) EZ.out rfl rfl (by simp [Value.oneCell'])
          have EX := Lib.hid (setRow_heap _ _ _ (#[.string q, .bool true, .int .i64 gl.f0, .int .i64 gl.f1, .int .i64 gl.f2, .int .i64 gl.f3, .slice none 0 0, .int .i64 0, .int .i64 0, .int .i64 0, .int .i64 0, .slice none 0 0, .int .i64 0, .int .i64 0, .int .i64 0, .int .i64 0] : Array Value) _ _ EZ.out)
          have HB := Lib.hid (below_setRow HB.out HZ.out (#[.string q, .bool true, .int .i64 gl.f0, .int .i64 gl.f1, .int .i64 gl.f2, .int .i64 gl.f3, .slice none 0 0, .int .i64 0, .int .i64 0, .int .i64 0, .int .i64 0, .slice none 0 0, .int .i64 0, .int .i64 0, .int .i64 0, .int .i64 0] : Array Value))
          go_simp
          refine hK.out _ _ ?_ (fun hHeld => ?_)
          focus ((try dsimp only); exact ⟨pw_cell_below HB.out EP.out, pw_cell_below HB.out E0.out, pw_cell_below HB.out E1.out, pw_cell_below HB.out E2.out, pw_cell_below HB.out E3.out⟩)
          clear hK K
          refine wpAnyH_done (by kernel_rfl) ?_ _
          refine NoPanic.normal ?_
          exact HPO.out _ _ _ _ _ _ _ _ _ HLG.out EX.out HZ.out HB.out
        exact AllReadyH.nil
      exact AllReadyH.nil
    refine AllReadyH.cons rfl (fun K hK => ?_) ?_
    · have EZ := Lib.hid (show (World.alloc wa (.cells #[.string (⟨#[]⟩ : ByteArray), .bool false, .int .i64 0, .int .i64 0, .int .i64 0, .int .i64 0, .slice none 0 0, .int .i64 0, .int .i64 0, .int .i64 0, .int .i64 0, .slice none 0 0, .int .i64 0, .int .i64 0, .int .i64 0, .int .i64 0] 50)).heap[wa.heap.size]? = some (.cells #[.string (⟨#[]⟩ : ByteArray), .bool false, .int .i64 0, .int .i64 0, .int .i64 0, .int .i64 0, .slice none 0 0, .int .i64 0, .int .i64 0, .int .i64 0, .int .i64 0, .slice none 0 0, .int .i64 0, .int .i64 0, .int .i64 0, .int .i64 0] 50) from blk_new wa (.cells #[.string (⟨#[]⟩ : ByteArray), .bool false, .int .i64 0, .int .i64 0, .int .i64 0, .int .i64 0, .slice none 0 0, .int .i64 0, .int .i64 0, .int .i64 0, .int .i64 0, .slice none 0 0, .int .i64 0, .int .i64 0, .int .i64 0, .int .i64 0] 50))
      have HZ := Lib.hid (show W.heap.size ≤ wa.heap.size from (by first | exact Nat.le_refl _ | exact below_size HB.out))
      have HB := Lib.hid (below_alloc HB.out (.cells #[.string (⟨#[]⟩ : ByteArray), .bool false, .int .i64 0, .int .i64 0, .int .i64 0, .int .i64 0, .slice none 0 0, .int .i64 0, .int .i64 0, .int .i64 0, .int .i64 0, .slice none 0 0, .int .i64 0, .int .i64 0, .int .i64 0, .int .i64 0] 50))
      go_simp
      refine hK.out _ _ ?_ (fun hHeld => ?_)
      focus ((try dsimp only); exact ⟨pw_cell_below HB.out EP.out, pw_cell_below HB.out E0.out, pw_cell_below HB.out E1.out, pw_cell_below HB.out E2.out, pw_cell_below HB.out E3.out⟩)
      clear hK K
      refine wpAnyH_ready (rs := [4]) (by kernel_rfl) (by simp) ?_
      refine AllReadyH.cons rfl (fun K hK => ?_) ?_
      · go_simp
        go_wp2_with (go_at_call 33; go_loud (refine (HG.out _).mono ?_; rintro e wb ⟨gl, rfl, hLg, hb⟩; have HLG := Lib.hid hLg; have HB := Lib.hid (below_step HB.out hb); (try have EZ := Lib.hid (blk_below EZ.out hb)); clear hb hLg))
        refine hK.out _ _ ?_ (fun hHeld => ?_)
        focus ((try dsimp only); exact ⟨pw_cell_below HB.out EP.out, pw_cell_below HB.out E0.out, pw_cell_below HB.out E1.out, pw_cell_below HB.out E2.out, pw_cell_below HB.out E3.out⟩)
        clear hK K
        first
          | (refine take_at 5 32 (v := ?_) rfl rfl (by kernel_rfl) (by kernel_rfl) (by kernel_rfl) (fun _ _ _ h => h) (Or.inl ⟨by rfl, ?_⟩) (by assumption) ?_; rotate_left; focus (intro w hSw; (try dsimp only at hSw); go_simp; try with_reducible rfl))
          | (refine take_at 5 32 (v := undef) rfl rfl (by kernel_rfl) (by kernel_rfl) (by kernel_rfl) (fun _ _ _ h => h) (Or.inr ⟨by rfl, rfl⟩) (by assumption) ?_)
        try simp only [Act.put, List.setIfInBounds_toArray, List.set_cons_zero, List.set_cons_succ]
        refine wpAnyH_ready (rs := [7]) (by kernel_rfl) (by simp) ?_
        refine AllReadyH.cons rfl (fun K hK => ?_) ?_
        · have hst := wr50_blk (cs := #[.string q, .bool true, .int .i64 gl.f0, .int .i64 gl.f1, .int .i64 gl.f2, .int .i64 gl.f3, .slice none 0 0, .int .i64 0, .int .i64 0, .int .i64 0, .int .i64 0, .slice none 0 0, .int .i64 0, .int .i64 0, .int .i64 0, .int .i64 0]) EZ.out rfl rfl (by simp [Value.oneCell'])
          have EX := Lib.hid (setRow_heap _ _ _ (#[.string q, .bool true, .int .i64 gl.f0, .int .i64 gl.f1, .int .i64 gl.f2, .int .i64 gl.f3, .slice none 0 0, .int .i64 0, .int .i64 0, .int .i64 0, .int .i64 0, .slice none 0 0, .int .i64 0, .int .i64 0, .int .i64 0, .int .i64 0] : Array Value) _ _ EZ.out)
          have HB := Lib.hid (below_setRow HB.out HZ.out (#[.string q, .bool true, .int .i64 gl.f0, .int .i64 gl.f1, .int .i64 gl.f2, .int .i64 gl.f3, .slice none 0 0, .int .i64 0, .int .i64 0, .int .i64 0, .int .i64 0, .slice none 0 0, .int .i64 0, .int .i64 0, .int .i64 0, .int .i64 0] : Array Value))
          go_simp
          refine hK.out _ _ ?_ (fun hHeld => ?_)
          focus ((try dsimp only); exact ⟨pw_cell_below HB.out EP.out, pw_cell_below HB.out E0.out, pw_cell_below HB.out E1.out, pw_cell_below HB.out E2.out, pw_cell_below HB.out E3.out⟩)
          clear hK K
          refine wpAnyH_done (by kernel_rfl) ?_ _
          refine NoPanic.normal ?_
          exact HPO.out _ _ _ _ _ _ _ _ _ HLG.out EX.out HZ.out HB.out
        exact AllReadyH.nil
      exact AllReadyH.nil
    exact AllReadyH.nil
  refine AllReadyH.cons rfl (fun K hK => ?_) ?_
  · have EZ := Lib.hid (show (World.alloc W.drew (.cells #[.string (⟨#[]⟩ : ByteArray), .bool false, .int .i64 0, .int .i64 0, .int .i64 0, .int .i64 0, .slice none 0 0, .int .i64 0, .int .i64 0, .int .i64 0, .int .i64 0, .slice none 0 0, .int .i64 0, .int .i64 0, .int .i64 0, .int .i64 0] 50)).heap[W.heap.size]? = some (.cells #[.string (⟨#[]⟩ : ByteArray), .bool false, .int .i64 0, .int .i64 0, .int .i64 0, .int .i64 0, .slice none 0 0, .int .i64 0, .int .i64 0, .int .i64 0, .int .i64 0, .slice none 0 0, .int .i64 0, .int .i64 0, .int .i64 0, .int .i64 0] 50) from blk_new W.drew (.cells #[.string (⟨#[]⟩ : ByteArray), .bool false, .int .i64 0, .int .i64 0, .int .i64 0, .int .i64 0, .slice none 0 0, .int .i64 0, .int .i64 0, .int .i64 0, .int .i64 0, .slice none 0 0, .int .i64 0, .int .i64 0, .int .i64 0, .int .i64 0] 50))
    have HZ := Lib.hid (show W.heap.size ≤ W.heap.size from (by first | exact Nat.le_refl _ | exact below_size HB.out))
    have HB := Lib.hid (below_alloc HB.out (.cells #[.string (⟨#[]⟩ : ByteArray), .bool false, .int .i64 0, .int .i64 0, .int .i64 0, .int .i64 0, .slice none 0 0, .int .i64 0, .int .i64 0, .int .i64 0, .int .i64 0, .slice none 0 0, .int .i64 0, .int .i64 0, .int .i64 0, .int .i64 0] 50))
    go_simp
    refine hK.out _ _ ?_ (fun hHeld => ?_)
    focus ((try dsimp only); exact ⟨pw_cell_below HB.out EP.out, pw_cell_below HB.out E0.out, pw_cell_below HB.out E1.out, pw_cell_below HB.out E2.out, pw_cell_below HB.out E3.out⟩)
    clear hK K
    refine wpAnyH_ready (rs := [2]) (by kernel_rfl) (by simp) ?_
    refine AllReadyH.cons rfl (fun K hK => ?_) ?_
    · go_simp
      go_wp2_with (go_at_call 45; go_loud (refine (HJ.out _).mono ?_; rintro e wa ⟨rfl, hb⟩; have HB := Lib.hid (below_step HB.out hb); (try have EZ := Lib.hid (blk_below EZ.out hb)); clear hb))
      refine hK.out _ _ ?_ (fun hHeld => ?_)
      focus ((try dsimp only); exact ⟨pw_cell_below HB.out EP.out, pw_cell_below HB.out E0.out, pw_cell_below HB.out E1.out, pw_cell_below HB.out E2.out, pw_cell_below HB.out E3.out⟩)
      clear hK K
      refine wpAnyH_ready (rs := [4]) (by kernel_rfl) (by simp) ?_
      refine AllReadyH.cons rfl (fun K hK => ?_) ?_
      · go_simp
        go_wp2_with (go_at_call 33; go_loud (refine (HG.out _).mono ?_; rintro e wb ⟨gl, rfl, hLg, hb⟩; have HLG := Lib.hid hLg; have HB := Lib.hid (below_step HB.out hb); (try have EZ := Lib.hid (blk_below EZ.out hb)); clear hb hLg))
        refine hK.out _ _ ?_ (fun hHeld => ?_)
        focus ((try dsimp only); exact ⟨pw_cell_below HB.out EP.out, pw_cell_below HB.out E0.out, pw_cell_below HB.out E1.out, pw_cell_below HB.out E2.out, pw_cell_below HB.out E3.out⟩)
        clear hK K
        first
          | (refine take_at 5 32 (v := ?_) rfl rfl (by kernel_rfl) (by kernel_rfl) (by kernel_rfl) (fun _ _ _ h => h) (Or.inl ⟨by rfl, ?_⟩) (by assumption) ?_; rotate_left; focus (intro w hSw; (try dsimp only at hSw); go_simp; try with_reducible rfl))
          | (refine take_at 5 32 (v := undef) rfl rfl (by kernel_rfl) (by kernel_rfl) (by kernel_rfl) (fun _ _ _ h => h) (Or.inr ⟨by rfl, rfl⟩) (by assumption) ?_)
        try simp only [Act.put, List.setIfInBounds_toArray, List.set_cons_zero, List.set_cons_succ]
        refine wpAnyH_ready (rs := [7]) (by kernel_rfl) (by simp) ?_
        refine AllReadyH.cons rfl (fun K hK => ?_) ?_
        · have hst := wr50_blk (cs := #[.string q, .bool true, .int .i64 gl.f0, .int .i64 gl.f1, .int .i64 gl.f2, .int .i64 gl.f3, .slice none 0 0, .int .i64 0, .int .i64 0, .int .i64 0, .int .i64 0, .slice none 0 0, .int .i64 0, .int .i64 0, .int .i64 0, .int .i64 0]) EZ.out rfl rfl (by simp [Value.oneCell'])
          have EX := Lib.hid (setRow_heap _ _ _ (#[.string q, .bool true, .int .i64 gl.f0, .int .i64 gl.f1, .int .i64 gl.f2, .int .i64 gl.f3, .slice none 0 0, .int .i64 0, .int .i64 0, .int .i64 0, .int .i64 0, .slice none 0 0, .int .i64 0, .int .i64 0, .int .i64 0, .int .i64 0] : Array Value) _ _ EZ.out)
          have HB := Lib.hid (below_setRow HB.out HZ.out (#[.string q, .bool true, .int .i64 gl.f0, .int .i64 gl.f1, .int .i64 gl.f2, .int .i64 gl.f3, .slice none 0 0, .int .i64 0, .int .i64 0, .int .i64 0, .int .i64 0, .slice none 0 0, .int .i64 0, .int .i64 0, .int .i64 0, .int .i64 0] : Array Value))
          go_simp
          refine hK.out _ _ ?_ (fun hHeld => ?_)
          focus ((try dsimp only); exact ⟨pw_cell_below HB.out EP.out, pw_cell_below HB.out E0.out, pw_cell_below HB.out E1.out, pw_cell_below HB.out E2.out, pw_cell_below HB.out E3.out⟩)
          clear hK K
          refine wpAnyH_done (by kernel_rfl) ?_ _
          refine NoPanic.normal ?_
          exact HPO.out _ _ _ _ _ _ _ _ _ HLG.out EX.out HZ.out HB.out
        exact AllReadyH.nil
      exact AllReadyH.nil
    exact AllReadyH.nil
  exact AllReadyH.nil
end Go.Proofs.YtmndeoncbocplaaDoor.C
end
