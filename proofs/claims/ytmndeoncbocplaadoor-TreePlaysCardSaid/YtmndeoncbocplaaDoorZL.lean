/- Texts that the claim's law stands on, cut down to what it reaches. -/
import Derived.Test.YtmndeoncbocplaaDoorZT3
import Derived.Test.YtmndeoncbocplaaDoorZF
import Derived.Test.YtmndeoncbocplaaDoorZR
import Derived.Test.YtmndeoncbocplaaDoorZU
import Derived.Test.YtmndeoncbocplaaDoorZQ
import Derived.Deep.RegionHeldLaw
import Derived.Deep.RegionHeld3
import Derived.Deep.LoopGhost
set_option linter.unusedVariables false
set_option linter.unusedSimpArgs false
section
set_option linter.unusedVariables false
set_option linter.unusedSimpArgs false
namespace Go.Proofs.YtmndeoncbocplaaDoor.C
open Go.RowKit Go.Proofs.YtmndeoncbocplaaDoor.Q Go.Proofs.YtmndeoncbocplaaDoorW.PrintWords Go.Proofs.YtmndeoncbocplaaDoorW.PrintLast Go.Proofs.YtmndeoncbocplaaDoorW.PrintMore
theorem at_count (l : List S50) (p : ByteArray) : atN l p = l.countP fun m => less m.f0 p := by
  have e : (List.range l.length).map (fun i => l.getD i z50) = l := by
    apply List.ext_getElem?
    intro i
    by_cases h : i < l.length
    · simp [h, List.getD_eq_getElem?_getD]
    · rw [List.getElem?_eq_none (by simp; omega), List.getElem?_eq_none (by omega)]
  have h := List.countP_map (p := fun m : S50 => less m.f0 p) (f := fun i => l.getD i z50) (l := List.range l.length)
  rw [e] at h
  rw [h]
  rfl
theorem tw_count {p : ByteArray} : ∀ {l : List S50}, Asc l → (l.takeWhile fun m => less m.f0 p).length = l.countP fun m => less m.f0 p
  | [], _ => rfl
  | x :: l, h => by
    obtain ⟨h1, h2⟩ := List.pairwise_cons.1 h
    rw [List.takeWhile_cons, List.countP_cons]
    by_cases hx : less x.f0 p = true
    · rw [if_pos hx, if_pos hx, List.length_cons, tw_count h2]
    · rw [if_neg hx, if_neg hx, List.length_nil]
      symm
      rw [Nat.add_zero, List.countP_eq_zero]
      intro y hy hyp
      exact hx (less_trans (h1 y hy) hyp)
theorem take_at_tw {l : List S50} (h : Asc l) (p : ByteArray) : l.take (atN l p) = (l.takeWhile fun m => less m.f0 p) ∧ l.drop (atN l p) = (l.dropWhile fun m => less m.f0 p) := by
  have e := List.takeWhile_append_dropWhile (p := fun m : S50 => less m.f0 p) (l := l)
  have hn : atN l p = (l.takeWhile fun m => less m.f0 p).length := by rw [at_count, tw_count h]
  rw [hn]
  have h1 := List.take_left (l₁ := l.takeWhile fun m => less m.f0 p) (l₂ := l.dropWhile fun m => less m.f0 p)
  have h2 := List.drop_left (l₁ := l.takeWhile fun m => less m.f0 p) (l₂ := l.dropWhile fun m => less m.f0 p)
  rw [e] at h1 h2
  exact ⟨h1, h2⟩
/-- A node that is new: both ways to put it come to the same. -/
theorem putP_new {t : List S50} (h : Asc t) (n : S50) (hno : isN t n.f0 = false) : putP t n = putN t n := by
  have hf : t.filter (keepN n.f0) = t := List.filter_eq_self.2 fun x hx => (keep_iff _ _).2 fun e => by
    have := (is_at h hx).1
    rw [e, hno] at this
    cases this
  obtain ⟨e1, e2⟩ := take_at_tw h n.f0
  unfold putP putN
  rw [hno, if_neg (by simp), hf, e1, e2]
/-- A byte that no path of the tree has. -/
theorem not_in {t : List S50} (F : Fine t) (h : Asc t) {p : ByteArray} {b : UInt8} (hb : b ∈ p.toList) (hn : ¬ FineB b) : isN t p = false := by
  cases hi : isN t p with
  | false => rfl
  | true =>
    obtain ⟨hm, he⟩ := is_mem hi
    exact absurd (F _ hm b (by rw [he]; exact hb)) hn
end Go.Proofs.YtmndeoncbocplaaDoor.C
end
section
set_option linter.unusedVariables false
set_option linter.unusedSimpArgs false
namespace Go.Proofs.YtmndeoncbocplaaDoor.C
open Go.RowKit Go.Proofs.YtmndeoncbocplaaDoor.Q Go.Proofs.YtmndeoncbocplaaDoorW.PrintWords Go.Proofs.YtmndeoncbocplaaDoorW.PrintLast Go.Proofs.YtmndeoncbocplaaDoorW.PrintMore
theorem not_fine_n : ¬ FineB 110 := by unfold FineB; decide
end Go.Proofs.YtmndeoncbocplaaDoor.C
end
section
set_option linter.unusedVariables false
set_option linter.unusedSimpArgs false
namespace Go.Proofs.YtmndeoncbocplaaDoor.C
open Go.RowKit Go.Proofs.YtmndeoncbocplaaDoor.Q Go.Proofs.YtmndeoncbocplaaDoorW.PrintWords Go.Proofs.YtmndeoncbocplaaDoorW.PrintLast Go.Proofs.YtmndeoncbocplaaDoorW.PrintMore
/-- A row of nodes such as the play comes to. -/
structure Plays (t : List S50) : Prop where
  asc : Asc t
  fits : ∀ n ∈ t, Fits n
  path : ∀ n ∈ t, ∃ ns, Okp ns ∧ n.f0 = pth ns
  fine : Fine t
theorem tree_plays {t : List S50} (T : Tree t) (F : Fine t) : Plays t := ⟨T.asc, (tree_srch T).2.2, fun n hn => tree_path T hn, F⟩
theorem plays_put {t : List S50} (P : Plays t) {n : S50} (hf : Fits n) (hp : ∃ ns, Okp ns ∧ n.f0 = pth ns) (hfi : FineP n.f0) : Plays (putN t n) := by
  refine ⟨asc_put P.asc n, fun x hx => ?_, fun x hx => ?_, fine_put P.fine hfi⟩
  · rcases mem_put.1 hx with rfl | ⟨hx, _⟩
    · exact hf
    · exact P.fits x hx
  · rcases mem_put.1 hx with rfl | ⟨hx, _⟩
    · exact hp
    · exact P.path x hx
theorem plays_drop {t : List S50} (P : Plays t) (p : ByteArray) : Plays (t.filter (keepN p)) :=
  ⟨List.Pairwise.filter _ P.asc, fun n hn => P.fits n (List.mem_filter.1 hn).1, fun n hn => P.path n (List.mem_filter.1 hn).1, fun n hn => P.fine n (List.mem_filter.1 hn).1⟩
/-- Where a path stands in a rising row: what is ahead, what is behind. -/
theorem parts {t : List S50} (h : Asc t) {p : ByteArray} (hi : isN t p = true) : ∃ x, x.f0 = p ∧ t = t.take (atN t p) ++ x :: t.drop (atN t p + 1) ∧ (∀ y ∈ t.take (atN t p), less y.f0 p = true) ∧ (∀ y ∈ t.drop (atN t p + 1), less p y.f0 = true) := by
  have hlt := isN_lt hi
  obtain ⟨_, he⟩ := is_mem hi
  have hx : (t[atN t p]'hlt).f0 = p := by
    unfold nodeN at he
    rw [if_pos hi, List.getD_eq_getElem?_getD, List.getElem?_eq_getElem hlt] at he
    exact he
  have e : t = t.take (atN t p) ++ (t[atN t p]'hlt) :: t.drop (atN t p + 1) := by
    rw [← List.drop_eq_getElem_cons hlt, List.take_append_drop]
  refine ⟨_, hx, e, fun y hy => ?_, fun y hy => ?_⟩
  · rw [(take_at_tw h p).1] at hy
    exact take_lt t p y hy
  · have h2 : Asc (t.take (atN t p) ++ (t[atN t p]'hlt) :: t.drop (atN t p + 1)) := by rw [← e]; exact h
    obtain ⟨_, h3, _⟩ := List.pairwise_append.1 h2
    have := (List.pairwise_cons.1 h3).1 y hy
    rw [hx] at this
    exact this
theorem filter_parts {t : List S50} (h : Asc t) {p : ByteArray} (hi : isN t p = true) : t.filter (keepN p) = t.take (atN t p) ++ t.drop (atN t p + 1) := by
  obtain ⟨x, hx, e, h1, h2⟩ := parts h hi
  have e2 : t.filter (keepN p) = (t.take (atN t p) ++ x :: t.drop (atN t p + 1)).filter (keepN p) := by rw [← e]
  rw [e2, List.filter_append, List.filter_cons, if_neg (by rw [keep_iff]; exact fun hne => hne hx)]
  rw [List.filter_eq_self.2 (fun y hy => (keep_iff _ _).2 (less_ne (h1 y hy))), List.filter_eq_self.2 (fun y hy => (keep_iff _ _).2 (fun e => less_ne (h2 y hy) e.symm))]
theorem filter_none {t : List S50} (h : Asc t) {p : ByteArray} (hi : isN t p = false) : t.filter (keepN p) = t :=
  List.filter_eq_self.2 fun x hx => (keep_iff _ _).2 fun e => by
    have := (is_at h hx).1
    rw [e, hi] at this
    cases this
theorem drop_eq {t : List S50} (h : Asc t) (p : ByteArray) : dropP t p = t.filter (keepN p) := by
  unfold dropP
  cases hi : isN t p with
  | true => rw [if_pos rfl, filter_parts h hi]
  | false => rw [if_neg (by simp), filter_none h hi]
theorem put_eq {t : List S50} (h : Asc t) (n : S50) : putP t n = putN t n := by
  cases hi : isN t n.f0 with
  | false => exact putP_new h n hi
  | true =>
    obtain ⟨x, hx, e, h1, h2⟩ := parts h hi
    have hlt := isN_lt hi
    unfold putP putN
    rw [hi, if_pos rfl, List.set_eq_take_append_cons_drop, if_pos hlt, filter_parts h hi]
    have hB : ∀ y ∈ t.drop (atN t n.f0 + 1), less y.f0 n.f0 = false := fun y hy => less_asym (h2 y hy)
    rw [List.takeWhile_append_of_pos (fun y hy => h1 y hy), List.dropWhile_append_of_pos (fun y hy => h1 y hy)]
    generalize t.drop (atN t n.f0 + 1) = B at hB
    cases B with
    | nil => simp
    | cons b B =>
      have hb := hB b List.mem_cons_self
      rw [List.takeWhile_cons, List.dropWhile_cons, if_neg (by rw [hb]; simp), if_neg (by rw [hb]; simp), List.append_nil]
theorem kid_path2 {t : List S50} (P : Plays t) {n : S50} (hn : n ∈ t) {ds : List (List UInt8)} (hod : Okp ds) (h : kidB (pth ds) n = true) : ∃ x, lastP n.f0 = bytesOf x ∧ n.f0 = pth (ds ++ [x]) := by
  obtain ⟨ns, hok, hp⟩ := P.path n hn
  unfold kidB at h
  simp only [Bool.and_eq_true, Bool.not_eq_true', beq_eq_false_iff_ne, beq_iff_eq] at h
  obtain ⟨h1, h2⟩ := h
  have hne : ns ≠ [] := by
    rintro rfl
    exact h1 (by rw [hp]; exact pth_nil)
  have hpar : parP n.f0 = pth ns.dropLast := by unfold parP; rw [hp, pparent_f hok hne]; rfl
  rw [hpar] at h2
  have e1 : ns.dropLast = ds := pth_inj (fun x hx => hok.1 x (List.dropLast_subset ns hx)) hod.1 (bytes_of_toList h2)
  have e2 : ds ++ [ns.getLast hne] = ns := by rw [← e1]; exact List.dropLast_concat_getLast hne
  refine ⟨ns.getLast hne, bytes_of_toList ?_, by rw [e2]; exact hp⟩
  rw [hp, last_p hok hne]
  show _ = (bytesOf (ns.getLast hne)).toList
  rw [Lib.toList_data]
  rfl
theorem bl_pre : ∀ (pre x y : List UInt8), Op.bytesLess (pre ++ x) (pre ++ y) = Op.bytesLess x y
  | [], x, y => rfl
  | a :: pre, x, y => by
    have ih := bl_pre pre x y
    simp [Op.bytesLess, ih]
theorem less_name {ds : List (List UInt8)} {x y : List UInt8} (h : less (pth (ds ++ [x])) (pth (ds ++ [y])) = true) : Op.bytesLess x y = true := by
  unfold less at h
  rw [Lib.toList_data, Lib.toList_data, pth_data, pth_data, L.render_snoc, L.render_snoc] at h
  rw [show L.flat ds ++ 47 :: x = (L.flat ds ++ [47]) ++ x by simp, show L.flat ds ++ 47 :: y = (L.flat ds ++ [47]) ++ y by simp, bl_pre] at h
  exact h
theorem under_eq {t : List S50} (P : Plays t) {ds : List (List UInt8)} (hod : Okp ds) : (under t (pth ds)).map bytesOf = kids t (pth ds) := by
  have hs : ((kids t (pth ds)).map ByteArray.toList).Pairwise fun x y => decide (x ≤ y) = true := by
    unfold kids
    rw [List.map_map, List.pairwise_map]
    refine List.Pairwise.imp_of_mem ?_ (List.Pairwise.filter _ P.asc)
    intro a b ha hb hl
    obtain ⟨ha, ka⟩ := List.mem_filter.1 ha
    obtain ⟨hb, kb⟩ := List.mem_filter.1 hb
    obtain ⟨x, x1, x2⟩ := kid_path2 P ha hod ka
    obtain ⟨y, y1, y2⟩ := kid_path2 P hb hod kb
    rw [x2, y2] at hl
    have hxy := less_name hl
    rw [bytesLess_eq, decide_eq_true_eq] at hxy
    have e : ∀ z : List UInt8, (bytesOf z).toList = z := fun z => by rw [Lib.toList_data]; rfl
    rw [decide_eq_true_eq]
    show (lastP a.f0).toList ≤ (lastP b.f0).toList
    rw [x1, y1, e, e]
    exact List.le_of_lt hxy
  unfold under
  rw [List.mergeSort_of_pairwise hs, List.map_map]
  have hid : ∀ z : ByteArray, (bytesOf ∘ ByteArray.toList) z = z := fun z => bytes_of_toList (by show (bytesOf z.toList).toList = z.toList; rw [Lib.toList_data]; rfl)
  rw [List.map_congr_left (fun z _ => hid z), List.map_id']
theorem kids_len (t : List S50) (p : ByteArray) : (under t p).length = (kids t p).length := by
  unfold under
  rw [List.length_mergeSort, List.length_map]
/-- The reference's last name. -/
theorem rslash_s (s : ByteArray) (pre n : List UInt8) (hd : s.data.toList = pre ++ 47 :: n) (hsz : s.size ≤ 78) (hz : s.size = pre.length + (n.length + 1)) (hfr : L.Free n) (h1 : 1 ≤ n.length) (k : Nat) (hk : 1001 < k) : donjonref7_slash.f k s = some (pre.length : Int) := by
  have hs := slash_at s (by omega) pre n hd hfr s.size k 0 0 (Nat.zero_le _) (Nat.sub_zero _) (by omega)
  rw [Int.ofNat_zero] at hs
  unfold donjonref7_slash.f
  exact hs
theorem rext_s (s : ByteArray) (pre n : List UInt8) (hd : s.data.toList = pre ++ 47 :: n) : s.extract (pre.length + 1) s.size = ⟨n.toArray⟩ := by
  apply L.bytes_ext
  rw [Lib.extract_to_end, hd, show pre ++ 47 :: n = (pre ++ [47]) ++ n from by simp, List.drop_append_of_le_length (by simp), List.drop_of_length_le (by simp)]
  simp
theorem rlast_a (s : ByteArray) (p k : Nat) (hs : donjonref7_slash.f k s = some (p : Int)) (hp : p + 1 ≤ s.size) (h2 : 2 ≤ s.size) (hsz : s.size ≤ 78) : donjonref7_Last.f k s = some (s.extract (p + 1) s.size) := by
  have hlt : ¬ ((s.size : Int) < 2) := by omega
  have hw : wrap64 ((p : Int) + 1) = (p : Int) + 1 := L.wrap_succ (n := s.size) (by omega) (by omega) (by omega)
  have hge : (0 : Int) ≤ (p : Int) + 1 := by omega
  have hle : (p : Int) + 1 ≤ (s.size : Int) := by omega
  have ht : ((p : Int) + 1).toNat = p + 1 := by omega
  unfold donjonref7_Last.f
  rw [if_neg hlt, hs, Option.bind_some, hw, if_pos hge, if_pos hle, ht]
theorem rlast_s (s : ByteArray) (pre n : List UInt8) (hd : s.data.toList = pre ++ 47 :: n) (hsz : s.size ≤ 78) (hfr : L.Free n) (h1 : 1 ≤ n.length) (k : Nat) (hk : 1001 < k) : donjonref7_Last.f k s = some (bytesOf n) := by
  have hz := Lib.size_eq s
  rw [hd, List.length_append, List.length_cons] at hz
  have h := rlast_a s pre.length k (rslash_s s pre n hd hsz hz hfr h1 k hk) (by omega) (by omega) hsz
  rw [rext_s s pre n hd] at h
  exact h
theorem rlast_g (a : List (List UInt8)) (n : List UInt8) (hn : ∀ x ∈ a ++ [n], L.Nm x) (h0 : L.checkL (L.render (a ++ [n])) = 0) (k : Nat) (hk : 1001 < k) : donjonref7_Last.f k (pth (a ++ [n])) = some (bytesOf n) := by
  have hlen := check_len h0
  have hd := pth_data (a ++ [n])
  rw [L.render_snoc] at hd
  have hnn := hn n (by simp)
  exact rlast_s _ (L.flat a) n hd (by rw [pth_size]; exact hlen) hnn.1 hnn.2 k hk
theorem rlast_f (ns : List (List UInt8)) (hn : ∀ x ∈ ns, L.Nm x) (hne : ns ≠ []) (h0 : L.checkL (L.render ns) = 0) (k : Nat) (hk : 1001 < k) : donjonref7_Last.f k (pth ns) = some (lastP (pth ns)) := by
  have hlast := last_p ⟨hn, h0⟩ hne
  have e := List.dropLast_concat_getLast hne
  have h := rlast_g ns.dropLast (ns.getLast hne) (by rw [e]; exact hn) (by rw [e]; exact h0) k hk
  rw [e] at h
  rw [h]
  congr 1
  refine bytes_of_toList ?_
  rw [hlast, Lib.toList_data]
  rfl
end Go.Proofs.YtmndeoncbocplaaDoor.C
end
section
set_option linter.unusedVariables false
set_option linter.unusedSimpArgs false
namespace Go.Proofs.YtmndeoncbocplaaDoor.C
open Go.RowKit Go.Proofs.YtmndeoncbocplaaDoor.Q Go.Proofs.YtmndeoncbocplaaDoorW.PrintWords Go.Proofs.YtmndeoncbocplaaDoorW.PrintLast Go.Proofs.YtmndeoncbocplaaDoorW.PrintMore
attribute [local go_sem ↓] rd_at50 wr_at50 al_at50
attribute [local go_sem] rd50_new wr50_new al50
set_option maxHeartbeats 4000000 in
set_option maxRecDepth 100000 in
theorem runder_c (l : List S50) (p : ByteArray) (A : Option Addr) (c : Nat) (w : World) (hC : Kd.C k50 w A l.length l) (hc : l.length ≤ c) (hn : l.length < 1000000) (hP : ∀ n ∈ l, ∃ ns, Okp ns ∧ n.f0 = pth ns) :
    Calls Tryd.prog 60 #[.slice A l.length c, .string p] w fun e w' => ∃ U cu, e = .returned (.slice U (kids l p).length cu) ∧ (kids l p).length ≤ cu ∧ Kd.C Kd.string w' U (kids l p).length (kids l p) ∧ Below w.heap.size w w' := by
  have HC := Lib.hid hC
  have HP := Lib.hid hP
  clear hC hP
  go_enter Tryd.func60, Tryd.ntmps60
  go_wp2
  go_loopg [5, 6] l.length (fun k s5 s6 wr => ∃ (i : Nat) (v : Value), i ≤ l.length ∧ l.length - i ≤ k ∧ s5 = v ∧ s6 = .int .i64 i ∧ Hid (OwnRow ((Kd.string).K w) 9 1 wr w.heap.size v (kids (l.take i) p)) ∧ Hid (Below w.heap.size w wr))
  case atStart => exact ⟨0, .slice none 0 0, Nat.zero_le _, Nat.le_refl _, rfl, rfl, Lib.hid (OwnRow.none_ _ _ _ _ _), Lib.hid (Below.refl _ _)⟩
  case round =>
    obtain ⟨i, v, hi, hik, rfl, rfl, HO, HB⟩ := hrel
    obtain ⟨W0, hW⟩ : ∃ W, W = wr := ⟨_, rfl⟩
    subst hW
    obtain ⟨Ao, co, hs, hco, _⟩ := OwnRow.reads HO.out
    subst hs
    by_cases hlt : i < l.length
    · obtain ⟨ad, B6, e6, B11, e11, hA, hcs, _⟩ := at50 HC.out HB.out i hlt
      subst hA
      have HM := Lib.hid (List.getElem_mem (l := l) (n := i) hlt)
      have HNO := Lib.hid (fun hk => kids_no (p := p) hlt hk)
      have HYES := Lib.hid (fun hk => kids_yes (p := p) hlt hk)
      have HKL := Lib.hid (kids_le (l.take i) p)
      have hp0 := hcs.1
      have HP0 := Lib.hid hp0
      clear hcs
      generalize (l[i]'hlt) = n at hp0 HP0 HM HNO HYES
      obtain ⟨ns, hok, hpn⟩ := HP.out n HM.out
      by_cases hroot : n.f0.toList = [47]
      · have hr1 : (n.f0.toList == ([47] : List UInt8)) = true := by rw [hroot]; rfl
        have HN := Lib.hid (HNO.out (by unfold kidB; rw [hr1]; rfl))
        clear hroot hok hpn
        go_wp2
        go_roundg (l.length - (i + 1))
        case measure => omega
        case rel => exact ⟨i + 1, _, hlt, Nat.le_refl _, rfl, by go_num, Lib.hid (by rw [HN.out]; exact HO.out), HB⟩
      · have hr1 : (n.f0.toList == ([47] : List UInt8)) = false := beq_eq_false_iff_ne.2 hroot
        have hr2 : (n.f0.toList = ([47] : List UInt8)) = False := eq_false hroot
        have hne : ns ≠ [] := by rintro rfl; exact hroot (by rw [hpn]; exact pth_nil)
        have hpar : parP n.f0 = pth ns.dropLast := by unfold parP; rw [hpn, pparent_f hok hne]; rfl
        have HKB := Lib.hid (show kidB p n = ((pth ns.dropLast).toList == p.toList) by unfold kidB; rw [hpar, hr1]; rfl)
        have HQ := Lib.hid fun w1 => donjonref7_Parent.calls 2000 n.f0 (pth ns.dropLast) w1 (by rw [hpn]; exact rparent_f ns hok.1 hne hok.2 2000 (by omega))
        have HX := Lib.hid fun w1 => donjonref7_Last.calls 2000 n.f0 (lastP n.f0) w1 (by rw [hpn]; exact rlast_f ns hok.1 hne hok.2 2000 (by omega))
        clear hroot hok hpn hpar hne
        generalize pth ns.dropLast = q at HKB HQ
        generalize lastP n.f0 = x at HX HYES
        by_cases hpp : q.toList = p.toList
        · have hp1 : (q.toList == p.toList) = true := beq_iff_eq.2 hpp
          have HN := Lib.hid (HYES.out (by rw [HKB.out, hp1]))
          clear hpp
          go_wp2_with (first | (go_at_call 39; refine (HQ.out _).mono ?_; rintro e w1 ⟨rfl, hb⟩; have HJ1 := Lib.hid hb.below; have hp0 := pw_cell_below hb.below HP0.out; clear hb) | (go_at_call 88; have hg := HJ1.out; clear hg; refine (HX.out _).mono ?_; rintro e w2 ⟨rfl, hb⟩; have HJ2 := Lib.hid (below_step HJ1.out hb.below); clear hb) | (at_builtin; go_loud (refine OwnRow.append w.heap.size rfl _ _ 35 9 (.string ⟨#[]⟩) 1 16 rfl Tryd.underlying35 inf9 rfl (by decide) (by decide) (.slice Ao (kids (l.take i) p).length co) (kids (l.take i) p) x [.string x] rfl (by first | rfl | (rw [World.size_alloc]; rfl)) rfl rfl (by simp [Value.oneCell']) (OwnRow.below HO.out HJ2.out) (below_step HB.out HJ2.out) (below_size (below_step HB.out HJ2.out)) (by have := HKL.out; rw [List.length_take] at this; omega) ?_; intro v1 w3 hO hB hg hat; have HO1 := Lib.hid hO; have HB1 := Lib.hid hB; clear hO hB hg hat)))
          go_roundg (l.length - (i + 1))
          case measure => omega
          case rel => exact ⟨i + 1, _, hlt, Nat.le_refl _, rfl, by go_num, Lib.hid (by rw [HN.out]; exact HO1.out), HB1⟩
        · have hp1 : (q.toList == p.toList) = false := beq_eq_false_iff_ne.2 hpp
          have HN := Lib.hid (HNO.out (by rw [HKB.out, hp1]))
          clear hpp
          go_wp2_with (go_at_call 39; go_loud (refine (HQ.out _).mono ?_; rintro e w1 ⟨rfl, hb⟩; have HJ1 := Lib.hid hb.below; clear hb))
          go_roundg (l.length - (i + 1))
          case measure => omega
          case rel => exact ⟨i + 1, _, hlt, Nat.le_refl _, rfl, by go_num, Lib.hid (by rw [HN.out]; exact OwnRow.below HO.out HJ1.out), Lib.hid (below_step HB.out HJ1.out)⟩
    · obtain rfl : i = l.length := by omega
      have HO1 := HO.out
      rw [List.take_length] at HO1
      have hlk : (kids (l.take l.length) p).length = (kids l p).length := by rw [List.take_length]
      go_wp2
      obtain ⟨U, cu, hU, hcu, hR⟩ := OwnRow.reads HO1
      go_ret
      injection hU with h1 h2 h3
      subst h1 h3
      exact ⟨Ao, co, by rw [← hlk]; rfl, hcu, ReadsRow.imp_ hR (Below.refl _ _) (fun _ _ h => h), HB.out⟩
end Go.Proofs.YtmndeoncbocplaaDoor.C
end
