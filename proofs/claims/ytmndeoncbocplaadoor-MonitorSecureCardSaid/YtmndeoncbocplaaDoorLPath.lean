/- What the printed functions of paths come to, in plain words: names, checks, pieces. No program stands in it. -/
import Derived.Test.YtmndeoncbocplaaDoorLStr
import Derived.Test.YtmndeoncbocplaaDoorGName
import Derived.Test.YtmndeoncbocplaaDoorGSplit
import Derived.Test.YtmndeoncbocplaaDoorGLast
import Derived.Test.YtmndeoncbocplaaDoorP2
import Derived.Test.YtmndeoncbocplaaDoorP3
import Derived.Test.YtmndeoncbocplaaDoorP4
import Derived.Test.YtmndeoncbocplaaDoorP5
namespace Go.Proofs.YtmndeoncbocplaaDoor.P
open Go.RowKit Go.Proofs.YtmndeoncbocplaaDoorW.PrintWords Go.Proofs.YtmndeoncbocplaaDoorW.PrintLast Go.Proofs.YtmndeoncbocplaaDoor.L

theorem all_drop (s : ByteArray) (n : Nat) (h : n < s.data.toList.length) : (s.data.toList.drop n).all nameByte = (nameByte (s.data.toList[n]'h) && (s.data.toList.drop (n + 1)).all nameByte) := by
  rw [List.drop_eq_getElem_cons h, List.all_cons]

/-- The reference's loop over a name's bytes. -/
theorem ref_name_l0 (s : ByteArray) (hs : s.size ≤ 140737488351232) (d : Nat) : ∀ (k i : Nat), i ≤ s.size → s.size - i = d → d < k →
    donjonref7_Name.l0 k s (i : Int) = some ((s.data.toList.drop i).all nameByte && (decide (1 ≤ s.size) && decide (s.size ≤ 12))) := by
  have hz := Lib.size_eq s
  induction d with
  | zero =>
    intro k i h1 hd hk
    obtain ⟨k, rfl⟩ : ∃ m, k = m + 1 := ⟨k - 1, by omega⟩
    simp only [donjonref7_Name.l0]
    rw [if_neg (by omega), List.drop_of_length_le (by omega)]
    by_cases h : 1 ≤ s.size
    · rw [if_pos (by omega)]
      simp [h]
      omega
    · rw [if_neg (by omega)]
      simp [h]
  | succ d ih =>
    intro k i h1 hd hk
    obtain ⟨k, rfl⟩ : ∃ m, k = m + 1 := ⟨k - 1, by omega⟩
    have hlt : i < s.data.toList.length := by omega
    have hn := ih k (i + 1) (by omega) (by omega) (by omega)
    rw [all_drop s i hlt]
    have hb := bt_nat s i hlt
    simp only [donjonref7_Name.l0]
    rw [if_pos (by omega), if_pos (by omega), hb, wrap_succ (n := s.size) (by omega) (by omega) (by omega)]
    rw [show ((i : Int) + 1) = ((i + 1 : Nat) : Int) from rfl, hn]
    generalize s.data.toList[i]'hlt = b
    unfold nameByte
    have hb2 : b.toNat < 256 := b.toNat_lt
    by_cases h1 : b.toNat < 97
    · rw [if_pos (by omega)]
      by_cases h2 : b.toNat < 48
      · rw [if_pos (by omega)]
        simp [show ¬ 97 ≤ b.toNat by omega, show ¬ 48 ≤ b.toNat by omega]
      · rw [if_neg (by omega)]
        by_cases h3 : b.toNat > 57
        · rw [if_pos (by omega)]
          simp [show ¬ 97 ≤ b.toNat by omega, show ¬ b.toNat ≤ 57 by omega]
        · rw [if_neg (by omega)]
          simp [show 48 ≤ b.toNat by omega, show b.toNat ≤ 57 by omega]
    · rw [if_neg (by omega)]
      by_cases h2 : b.toNat > 122
      · rw [if_pos (by omega), if_neg (by omega), if_pos (by omega)]
        simp [show ¬ b.toNat ≤ 122 by omega, show ¬ b.toNat ≤ 57 by omega]
      · rw [if_neg (by omega)]
        simp [show 97 ≤ b.toNat by omega, show b.toNat ≤ 122 by omega]
theorem ref_name (s : ByteArray) (hs : s.size ≤ 140737488351232) (k : Nat) (hk : s.size < k) : donjonref7_Name.f k s = some (nameB s) := by
  unfold donjonref7_Name.f
  have h := ref_name_l0 s hs s.size k 0 (Nat.zero_le _) (by omega) hk
  rw [show ((0 : Nat) : Int) = 0 from rfl] at h
  rw [h]
  rfl

/-- The pieces of a text at a slash, as texts. -/
def pieces (s : ByteArray) : List ByteArray := (splitL s.data.toList).map fun l => ⟨l.toArray⟩
theorem pieces_data (s : ByteArray) : (pieces s).map (·.data.toList) = splitL s.data.toList := by
  unfold pieces
  rw [List.map_map]
  conv => rhs; rw [← List.map_id (splitL s.data.toList)]
  exact List.map_congr_left fun l _ => rfl
theorem list_ext_data : ∀ {a b : List ByteArray}, a.map (·.data.toList) = b.map (·.data.toList) → a = b
  | [], [], _ => rfl
  | [], y :: b, h => by simp at h
  | x :: a, [], h => by simp at h
  | x :: a, y :: b, h => by
    simp only [List.map_cons, List.cons.injEq] at h
    rw [bytes_ext h.1, list_ext_data h.2]
theorem split_f (s : ByteArray) (hs : s.size < 4294967281) : strings_Split.f s ⟨#[47]⟩ = some (pieces s) := by
  unfold strings_Split.f
  rw [if_pos ⟨rfl, hs⟩]
  congr 1
  apply list_ext_data
  rw [pieces_data, Lib.splitB_data, ← splitK_slash]
  first | done | rfl

theorem rdOf_nat (xs : List ByteArray) (i : Nat) (h : i < xs.length) : rdOf ByteArray.empty xs (i : Int) = xs[i]'h := by
  unfold rdOf
  rw [Int.toNat_natCast, List.getD_eq_getElem?_getD, List.getElem?_eq_getElem h]
  rfl

/-- Names one by one, the program's loop. -/
theorem path_names (xs : List ByteArray) (hx : xs.length ≤ 4294967281) (d : Nat) : ∀ (k i : Nat), i ≤ xs.length → xs.length - i = d → d < k →
    path_Check.l0 k xs (xs.length : Int) (i : Int) = some (if (xs.drop i).all nameB then 0 else 1) := by
  induction d with
  | zero =>
    intro k i h1 hd hk
    obtain ⟨k, rfl⟩ : ∃ m, k = m + 1 := ⟨k - 1, by omega⟩
    simp only [path_Check.l0]
    rw [if_neg (by omega), List.drop_of_length_le (by omega)]
    rfl
  | succ d ih =>
    intro k i h1 hd hk
    obtain ⟨k, rfl⟩ : ∃ m, k = m + 1 := ⟨k - 1, by omega⟩
    have hlt : i < xs.length := by omega
    have hn := ih k (i + 1) (by omega) (by omega) (by omega)
    rw [List.drop_eq_getElem_cons hlt, List.all_cons]
    simp only [path_Check.l0]
    rw [if_pos (by omega), if_pos (by omega), if_pos (by omega), rdOf_nat xs i hlt]
    unfold path_Name.f
    simp only [Option.bind_some]
    cases hb : nameB (xs[i]'hlt) with
    | true =>
      rw [if_pos rfl, wrap_succ (n := xs.length) (by omega) (by omega) (by omega), show ((i : Int) + 1) = ((i + 1 : Nat) : Int) from rfl, hn]
      simp
    | false =>
      rw [if_neg (by decide)]
      simp

theorem pieces_all (l : List (List UInt8)) : (l.map fun x => (⟨x.toArray⟩ : ByteArray)).all nameB = l.all nameL := by
  rw [List.all_map]
  exact congrArg (fun p => l.all p) (funext fun x => nameB_eq _)

/-- The program's check of a path. -/
theorem path_check (s : ByteArray) (k : Nat) (hk : 90 < k) : path_Check.f k s = some (checkL s.data.toList) := by
  unfold path_Check.f checkL
  have hz := Lib.size_eq s
  rw [Lib.toList_data]
  by_cases h1 : s.size > 78
  · rw [if_pos (show (s.size : Int) > 78 by omega), if_pos (show s.data.toList.length > 78 by omega)]
  · rw [if_neg (show ¬ (s.size : Int) > 78 by omega), if_neg (show ¬ s.data.toList.length > 78 by omega)]
    by_cases h2 : s.data.toList = [47]
    · rw [if_pos h2, if_pos h2]
    · rw [if_neg h2, if_neg h2, split_f s (by omega)]
      simp only [Option.bind_some]
      obtain ⟨k, rfl⟩ : ∃ m, k = m + 1 := ⟨k - 1, by omega⟩
      have hl78 : s.data.toList.length ≤ 78 := by omega
      generalize hl : s.data.toList = l at h2 hl78
      unfold pieces
      rw [hl]
      cases l with
      | nil =>
        simp [splitL, path_Check.j0, rdOf, Lib.toList_data]
      | cons c t =>
        by_cases hc : c = 47
        · subst hc
          rw [splitL_slash, List.map_cons]
          simp only [ne_eq, not_true_eq_false, if_false]
          have hlen : ∀ m : List UInt8, (splitL m).length ≤ m.length + 1 := by
            intro m
            induction m with
            | nil => simp [splitL]
            | cons a m ih =>
              by_cases ha : a = 47
              · subst ha; rw [splitL_slash]; simp; omega
              · obtain ⟨b, u, e1, e2⟩ := splitL_other a m ha
                rw [e2]; rw [e1] at ih; simp at ih ⊢; omega
          have hm := hlen t
          have hne : 1 ≤ (splitL t).length := by
            cases h : splitL t with
            | nil => exact absurd h (splitL_ne t)
            | cons _ _ => simp
          simp only [List.length_cons] at hl78
          generalize hp : splitL t = ps at hm hne
          have e0 : rdOf ByteArray.empty ((⟨([] : List UInt8).toArray⟩ : ByteArray) :: ps.map fun x => ⟨x.toArray⟩) 0 = ⟨([] : List UInt8).toArray⟩ := rfl
          rw [if_pos (by simp), e0, if_pos (by rw [Lib.toList_data])]
          have ePL : ((((⟨([] : List UInt8).toArray⟩ : ByteArray) :: ps.map fun x => ⟨x.toArray⟩).length : Nat) : Int) = (ps.length : Int) + 1 := by simp
          rw [ePL, if_neg (by omega)]
          simp only [path_Check.j0]
          by_cases h6 : ps.length > 6
          · rw [if_pos (by simp; omega), if_pos h6]
          · rw [if_neg (by simp; omega), if_neg h6, if_pos (by simp; omega)]
            simp only [Option.bind_some, List.drop_succ_cons, List.drop_zero]
            have h := path_names (ps.map fun x => (⟨x.toArray⟩ : ByteArray)) (by simp; omega) ps.length k 0 (Nat.zero_le _) (by simp) (by omega)
            rw [show ((0 : Nat) : Int) = 0 from rfl, List.drop_zero, pieces_all] at h
            rw [h]
        · obtain ⟨a, u, e1, e2⟩ := splitL_other c t hc
          rw [e2, List.map_cons]
          have e0 : rdOf ByteArray.empty ((⟨(c :: a).toArray⟩ : ByteArray) :: u.map fun x => ⟨x.toArray⟩) 0 = ⟨(c :: a).toArray⟩ := rfl
          rw [if_pos (by simp), e0, if_neg (by rw [Lib.toList_data]; simp)]
          simp only [path_Check.j0, if_true]
          rw [if_pos hc]

theorem splitL_length_le : ∀ m : List UInt8, (splitL m).length ≤ m.length + 1
  | [] => by simp [splitL]
  | a :: m => by
    have ih := splitL_length_le m
    by_cases ha : a = 47
    · subst ha; rw [splitL_slash]; simp; omega
    · obtain ⟨b, u, e1, e2⟩ := splitL_other a m ha
      rw [e2]; rw [e1] at ih; simp at ih ⊢; omega

theorem extract_pieces (s : ByteArray) (a b : Nat) (l : List UInt8) (h : l = (s.data.toList.drop a).take (b - a)) : s.extract a b = ⟨l.toArray⟩ := by
  apply bytes_ext
  rw [Lib.extract_data, h]

/-- The reference's loop over a path's bytes: what has been cut off, then the pieces of the rest. -/
theorem ref_parts_l0 (s : ByteArray) (hs : s.size ≤ 4294967281) (h2 : 2 ≤ s.size) (d : Nat) : ∀ (k i a : Nat) (acc : List ByteArray), a ≤ i → i ≤ s.size → s.size - i = d → acc.length ≤ i → 2 * d + 8 < k →
    (∀ c ∈ (s.data.toList.drop a).take (i - a), c ≠ 47) →
    donjonref7_Parts.l0 k s acc (a : Int) (i : Int) = some (acc ++ ((splitL (s.data.toList.drop a)).map fun l => ⟨l.toArray⟩)) := by
  have hz := Lib.size_eq s
  induction d with
  | zero =>
    intro k i a acc hai hi hd hacc hk hpre
    obtain ⟨k, rfl⟩ : ∃ m, k = m + 4 := ⟨k - 4, by omega⟩
    have hie : i = s.size := by omega
    subst hie
    rw [List.take_of_length_le (by simp <;> omega)] at hpre
    rw [splitL_one _ hpre]
    simp only [donjonref7_Parts.l0]
    rw [if_pos (by omega)]
    simp only [donjonref7_Parts.j1]
    rw [if_pos (by simp; omega), if_pos trivial, if_pos (show (0 : Int) ≤ (a : Int) by omega), if_pos (show (a : Int) ≤ (s.size : Int) by omega), if_pos (Int.le_refl _), if_pos (show acc.length < 8796093022208 by omega)]
    simp only [donjonref7_Parts.l0]
    rw [wrap_succ (n := 9223372036854775807) (by omega) (by omega) (by omega), if_neg (by omega)]
    simp only [donjonref7_Parts.j1]
    rw [if_neg (by decide)]
    simp only [Int.toNat_natCast, List.map_cons, List.map_nil]
    rw [extract_pieces s a s.size (s.data.toList.drop a) (by rw [List.take_of_length_le]; simp <;> omega)]
  | succ d ih =>
    intro k i a acc hai hi hd hacc hk hpre
    obtain ⟨k, rfl⟩ : ∃ m, k = m + 2 := ⟨k - 2, by omega⟩
    have hlt : i < s.data.toList.length := by omega
    have hb := bt_nat s i hlt
    have hsplit : s.data.toList.drop a = (s.data.toList.drop a).take (i - a) ++ (s.data.toList[i]'hlt) :: s.data.toList.drop (i + 1) := by
      have e1 := (List.take_append_drop (i - a) (s.data.toList.drop a)).symm
      rw [List.drop_drop, show a + (i - a) = i from by omega, List.drop_eq_getElem_cons hlt] at e1
      exact e1
    simp only [donjonref7_Parts.l0]
    rw [if_pos (show (i : Int) ≤ (s.size : Int) by omega)]
    simp only [donjonref7_Parts.j1]
    rw [if_pos (by simp; omega), if_neg (show ¬ (i : Int) = (s.size : Int) by omega), if_pos (show (0 : Int) ≤ (i : Int) by omega), if_pos (show (i : Int) < (s.size : Int) by omega), hb]
    rw [wrap_succ (n := 9223372036854775807) (by omega) (by omega) (by omega)]
    by_cases hc : s.data.toList[i]'hlt = 47
    · rw [if_pos (by rw [hc]; rfl), if_pos (show (0 : Int) ≤ (a : Int) by omega), if_pos (show (a : Int) ≤ (i : Int) by omega), if_pos (show (i : Int) ≤ (s.size : Int) by omega), if_pos (show acc.length < 8796093022208 by omega)]
      have h := ih k (i + 1) (i + 1) (acc ++ [s.extract a i]) (Nat.le_refl _) (by omega) (by omega) (by simp; omega) (by omega) (by simp)
      simp only [Int.toNat_natCast]
      rw [show ((i : Int) + 1) = ((i + 1 : Nat) : Int) from rfl, h]
      rw [hc] at hsplit
      rw [hsplit, splitL_cut _ _ hpre, extract_pieces s a i _ rfl]
      simp
    · rw [if_neg (show ¬ (((s.data.toList[i]'hlt).toNat : Nat) : Int) = 47 from fun h => hc (UInt8.toNat_inj.1 (by rw [show (47 : UInt8).toNat = 47 from rfl]; omega)))]
      have h := ih k (i + 1) a acc (by omega) (by omega) (by omega) (by omega) (by omega) (by
        rw [show i + 1 - a = (i - a) + 1 from by omega]
        intro c hcm
        rw [List.take_succ_eq_append_getElem (by simp; omega)] at hcm
        rcases List.mem_append.1 hcm with hm | hm
        · exact hpre c hm
        · have : c = s.data.toList[i]'hlt := by
            simp at hm
            rw [hm]
            congr 1
            omega
          rw [this]; exact hc)
      rw [show ((i : Int) + 1) = ((i + 1 : Nat) : Int) from rfl, h]
theorem ref_parts (s : ByteArray) (hs : s.size ≤ 4294967281) (k : Nat) (hk : 2 * s.size + 10 < k) :
    donjonref7_Parts.f k s = some (if 2 ≤ s.size then (splitL (s.data.toList.drop 1)).map fun l => ⟨l.toArray⟩ else []) := by
  unfold donjonref7_Parts.f
  by_cases h : 2 ≤ s.size
  · have e := ref_parts_l0 s hs h (s.size - 1) k 1 1 [] (Nat.le_refl _) (by omega) (by omega) (by simp) (by omega) (by simp)
    rw [show ((1 : Nat) : Int) = 1 from rfl] at e
    rw [e, if_pos h]
    simp
  · obtain ⟨k, rfl⟩ : ∃ m, k = m + 2 := ⟨k - 2, by omega⟩
    rw [if_neg h]
    simp only [donjonref7_Parts.l0]
    by_cases h1 : (1 : Int) ≤ (s.size : Int)
    · rw [if_pos h1]
      simp only [donjonref7_Parts.j1]
      rw [if_neg (by simp; omega)]
    · rw [if_neg h1]
      simp only [donjonref7_Parts.j1]
      rw [if_neg (by decide)]

theorem ref_names (xs : List ByteArray) (hx : xs.length ≤ 4294967281) (hb : ∀ x ∈ xs, x.size ≤ 1000) (d : Nat) : ∀ (k i : Nat), i ≤ xs.length → xs.length - i = d → d + 1001 < k →
    donjonref7_Check.l0 k xs (i : Int) = some (if (xs.drop i).all nameB then 0 else 1) := by
  induction d with
  | zero =>
    intro k i h1 hd hk
    obtain ⟨k, rfl⟩ : ∃ m, k = m + 1 := ⟨k - 1, by omega⟩
    simp only [donjonref7_Check.l0]
    rw [if_neg (by omega), List.drop_of_length_le (by omega)]
    rfl
  | succ d ih =>
    intro k i h1 hd hk
    obtain ⟨k, rfl⟩ : ∃ m, k = m + 1 := ⟨k - 1, by omega⟩
    have hlt : i < xs.length := by omega
    have hn := ih k (i + 1) (by omega) (by omega) (by omega)
    have hsz := hb (xs[i]'hlt) (List.getElem_mem hlt)
    rw [List.drop_eq_getElem_cons hlt, List.all_cons]
    simp only [donjonref7_Check.l0]
    rw [if_pos (by omega), if_pos (by omega), rdOf_nat xs i hlt, ref_name _ (by omega) k (by omega)]
    simp only [Option.bind_some]
    cases hb : nameB (xs[i]'hlt) with
    | true =>
      rw [if_pos rfl, wrap_succ (n := xs.length) (by omega) (by omega) (by omega), show ((i : Int) + 1) = ((i + 1 : Nat) : Int) from rfl, hn]
      simp
    | false =>
      rw [if_neg (by decide)]
      simp
theorem splitL_short (m : List UInt8) : ∀ x ∈ splitL m, x.length ≤ m.length := by
  induction m with
  | nil => simp [splitL]
  | cons a m ih =>
    by_cases ha : a = 47
    · subst ha
      rw [splitL_slash]
      intro x hx
      rcases List.mem_cons.1 hx with rfl | hx
      · simp
      · have := ih x hx; simp; omega
    · obtain ⟨b, u, e1, e2⟩ := splitL_other a m ha
      rw [e2]; rw [e1] at ih
      intro x hx
      rcases List.mem_cons.1 hx with rfl | hx
      · have := ih b List.mem_cons_self; simp; omega
      · have := ih x (List.mem_cons_of_mem _ hx); simp; omega

/-- The reference's check of a path. -/
theorem ref_check (s : ByteArray) (k : Nat) (hk : 1200 < k) : donjonref7_Check.f k s = some (checkL s.data.toList) := by
  unfold donjonref7_Check.f checkL
  have hz := Lib.size_eq s
  rw [Lib.toList_data]
  by_cases h1 : s.size > 78
  · rw [if_pos (show (s.size : Int) > 78 by omega), if_pos (show s.data.toList.length > 78 by omega)]
  · rw [if_neg (show ¬ (s.size : Int) > 78 by omega), if_neg (show ¬ s.data.toList.length > 78 by omega)]
    by_cases h2 : s.data.toList = [47]
    · rw [if_pos h2, if_pos h2]
    · rw [if_neg h2, if_neg h2]
      obtain ⟨k, rfl⟩ : ∃ m, k = m + 1 := ⟨k - 1, by omega⟩
      cases hl : s.data.toList with
      | nil =>
        rw [hl] at hz
        simp only [List.length_nil] at hz
        rw [if_pos (by omega)]
        simp [donjonref7_Check.j0]
      | cons c t =>
        rw [hl] at hz h2
        have hb := bt_nat s 0 (by rw [hl]; simp)
        simp only [hl, List.getElem_cons_zero] at hb
        rw [show ((0 : Nat) : Int) = 0 from rfl] at hb
        simp only [List.length_cons] at hz
        by_cases hc : c = 47
        · subst hc
          have ht : t ≠ [] := fun h => h2 (by rw [h])
          have htl : 1 ≤ t.length := by cases t with | nil => exact absurd rfl ht | cons _ _ => simp
          rw [if_neg (by omega), if_pos (by omega), hb]
          simp only [donjonref7_Check.j0, ne_eq, not_true_eq_false, if_false]
          rw [if_neg (by decide), ref_parts s (by omega) k (by omega), if_pos (by omega), hl]
          simp only [Option.bind_some, List.drop_succ_cons, List.drop_zero]
          have hm := splitL_length_le t
          have hsh := splitL_short t
          generalize splitL t = ps at hm hsh
          by_cases h6 : ps.length > 6
          · rw [if_pos (by simp; omega), if_pos h6]
          · rw [if_neg (by simp; omega), if_neg h6]
            have h := ref_names (ps.map fun x => (⟨x.toArray⟩ : ByteArray)) (by simp; omega) (by
              intro x hx
              obtain ⟨l, hl, rfl⟩ := List.mem_map.1 hx
              have := hsh l hl
              rw [Lib.size_eq]
              show l.length ≤ 1000
              omega) ps.length k 0 (Nat.zero_le _) (by simp) (by omega)
            rw [show ((0 : Nat) : Int) = 0 from rfl, List.drop_zero, pieces_all] at h
            rw [h]
        · by_cases h3 : (s.size : Int) < 2
          · rw [if_pos h3]
            simp [donjonref7_Check.j0, hc]
          · rw [if_neg h3, if_pos (by omega), hb]
            have : (((c.toNat : Nat) : Int) != 47) = true := by
              rw [bne_iff_ne]
              intro h
              exact hc (UInt8.toNat_inj.1 (by rw [show (47 : UInt8).toNat = 47 from rfl]; omega))
            rw [this]
            simp [donjonref7_Check.j0, hc]
end Go.Proofs.YtmndeoncbocplaaDoor.P
