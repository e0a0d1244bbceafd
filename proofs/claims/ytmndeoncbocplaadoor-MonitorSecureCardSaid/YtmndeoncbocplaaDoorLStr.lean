/- Plain facts on texts of bytes: pieces at a slash, names, paths. No program stands in it. -/
import Derived.Lib.SplitLaws
import Derived.Lib.IndexBytes
import Derived.Lib.LastIndexByte
import Derived.Lib.Strings
import Derived.Test.YtmndeoncbocplaaDoorWMore
namespace Go.Proofs.YtmndeoncbocplaaDoor.L
open Go.RowKit Go.Proofs.YtmndeoncbocplaaDoorW.PrintWords

/-- May a byte stand in a name? -/
def nameByte (b : UInt8) : Bool := (decide (97 ≤ b.toNat) && decide (b.toNat ≤ 122)) || (decide (48 ≤ b.toNat) && decide (b.toNat ≤ 57))
/-- Is a text a name? -/
def nameL (l : List UInt8) : Bool := l.all nameByte && (decide (1 ≤ l.length) && decide (l.length ≤ 12))
def nameB (s : ByteArray) : Bool := s.data.toList.all nameByte && (decide (1 ≤ s.size) && decide (s.size ≤ 12))
theorem nameB_eq (s : ByteArray) : nameB s = nameL s.data.toList := by unfold nameB nameL; rw [Lib.size_eq]

/-- The pieces of a text at each slash. -/
def splitL : List UInt8 → List (List UInt8)
  | [] => [[]]
  | c :: l => if c = 47 then [] :: splitL l else match splitL l with
    | [] => [[c]]
    | h :: t => (c :: h) :: t

theorem splitL_ne (l : List UInt8) : splitL l ≠ [] := by
  cases l with
  | nil => simp [splitL]
  | cons c l =>
    unfold splitL
    split
    · simp
    · split <;> simp
theorem splitL_slash (l : List UInt8) : splitL (47 :: l) = [] :: splitL l := by simp [splitL]
theorem splitL_other (c : UInt8) (l : List UInt8) (h : c ≠ 47) : ∃ a t, splitL l = a :: t ∧ splitL (c :: l) = (c :: a) :: t := by
  cases hs : splitL l with
  | nil => exact absurd hs (splitL_ne l)
  | cons a t => exact ⟨a, t, rfl, by simp [splitL, h, hs]⟩
theorem splitL_pre (pre rest : List UInt8) (h : ∀ c ∈ pre, c ≠ 47) : ∃ a t, splitL rest = a :: t ∧ splitL (pre ++ rest) = (pre ++ a) :: t := by
  induction pre with
  | nil =>
    cases hs : splitL rest with
    | nil => exact absurd hs (splitL_ne rest)
    | cons a t => exact ⟨a, t, rfl, by simp [hs]⟩
  | cons c pre ih =>
    obtain ⟨a, t, h1, h2⟩ := ih fun d hd => h d (List.mem_cons_of_mem _ hd)
    obtain ⟨a', t', h3, h4⟩ := splitL_other c (pre ++ rest) (h c List.mem_cons_self)
    rw [h2] at h3
    injection h3 with h5 h6
    subst h5; subst h6
    exact ⟨a, t, h1, h4⟩
/-- One piece: no slash. -/
theorem splitL_one (l : List UInt8) (h : ∀ c ∈ l, c ≠ 47) : splitL l = [l] := by
  obtain ⟨a, t, h1, h2⟩ := splitL_pre l [] h
  simp only [List.append_nil] at h2
  rw [show splitL [] = [[]] from rfl] at h1
  injection h1 with h3 h4
  subst h3; subst h4
  simpa using h2
/-- A piece, then a slash. -/
theorem splitL_cut (pre rest : List UInt8) (h : ∀ c ∈ pre, c ≠ 47) : splitL (pre ++ 47 :: rest) = pre :: splitL rest := by
  obtain ⟨a, t, h1, h2⟩ := splitL_pre pre (47 :: rest) h
  rw [splitL_slash] at h1
  injection h1 with h3 h4
  subst h3; subst h4
  simpa using h2

/-- The shelf's pieces at a slash are these. -/
theorem splitK_slash (l : List UInt8) : Lib.splitK [47] 0 (Lib.count l [47]) l = splitL l := by
  rw [Lib.count_one]
  induction l with
  | nil => rfl
  | cons c l ih =>
    by_cases hc : c = 47
    · subst hc
      rw [List.count_cons_self, splitL_slash, ← ih]
      simp only [Lib.splitK, Lib.index_one]
      simp [Lib.indexByte]
    · rw [List.count_cons_of_ne hc]
      obtain ⟨a, t, h1, h2⟩ := splitL_other c l hc
      rw [h2]
      rw [h1] at ih
      cases hk : l.count 47 with
      | zero =>
        rw [hk] at ih
        simp only [Lib.splitK] at ih ⊢
        injection ih with h3 h4
        subst h3; subst h4
        rfl
      | succ k =>
        rw [hk] at ih
        simp only [Lib.splitK, Lib.index_one] at ih ⊢
        have hpos : 0 < l.count 47 := by omega
        have hmem : (47 : UInt8) ∈ l := List.count_pos_iff.1 hpos
        have hne : Lib.indexByte l 47 ≠ -1 := fun hn => by
          obtain ⟨i, hi⟩ := List.getElem?_of_mem hmem
          exact Lib.indexByte_none hn i hi
        have hge := Lib.indexByte_ge l 47
        have e : Lib.indexByte (c :: l) 47 = Lib.indexByte l 47 + 1 := by
          rw [Lib.indexByte.eq_def]
          simp [hc, hne]
        rw [if_neg (by simpa using hne)] at ih
        rw [e, if_neg (by simp; omega)]
        injection ih with h3 h4
        obtain ⟨n, hn⟩ : ∃ n : Nat, Lib.indexByte l 47 = n := ⟨(Lib.indexByte l 47).toNat, by omega⟩
        rw [hn] at h3 h4 ⊢
        simp only [Int.toNat_natCast, Nat.add_zero, List.length_cons, List.length_nil, Nat.zero_add] at h3 h4
        rw [show ((n : Int) + 1).toNat = n + 1 from by omega]
        simp only [Nat.add_zero, List.take_succ_cons, List.length_cons, List.length_nil, Nat.zero_add, List.drop_succ_cons]
        rw [h3, h4]

theorem bytes_ext {a b : ByteArray} (h : a.data.toList = b.data.toList) : a = b := by
  cases a; cases b
  simp only [ByteArray.mk.injEq] at *
  exact Array.toList_inj.1 h

/-- A text's check, as the document says it. -/
def checkL (l : List UInt8) : Int :=
  if l.length > 78 then 5 else if l = [47] then 0 else match l with
    | [] => 1
    | c :: t => if c ≠ 47 then 1 else if (splitL t).length > 6 then 1 else if (splitL t).all nameL then 0 else 1

theorem wrap_succ {i n : Int} (h0 : 0 ≤ i) (h : i < n) (hn : n ≤ 9223372036854775807) : wrap64 (i + 1) = i + 1 := by
  unfold wrap64
  omega

theorem bt_nat (s : ByteArray) (n : Nat) (h : n < s.data.toList.length) : bt s (n : Int) = ((s.data.toList[n]'h).toNat : Int) := by
  unfold bt
  rw [dif_pos (by rw [Int.toNat_natCast, Lib.size_eq]; exact h)]
  rfl

end Go.Proofs.YtmndeoncbocplaaDoor.L
