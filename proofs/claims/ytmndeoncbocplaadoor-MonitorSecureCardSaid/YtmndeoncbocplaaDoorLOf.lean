/- The paths that the laws' function Of makes are rows of at most six names of letters. No program stands in it. -/
import Derived.Test.YtmndeoncbocplaaDoorLPaths
import Derived.Test.YtmndeoncbocplaaDoorP6
import Derived.Test.YtmndeoncbocplaaDoorP7
set_option linter.unusedVariables false
set_option linter.unusedSimpArgs false
namespace Go.Proofs.YtmndeoncbocplaaDoor.P
open Go.RowKit Go.Proofs.YtmndeoncbocplaaDoorW.PrintWords Go.Proofs.YtmndeoncbocplaaDoorW.PrintLast Go.Proofs.YtmndeoncbocplaaDoor.L

theorem within_f (a n : Int) (h0 : 0 < n) (hn : n ≤ 4611686018427387904) : ∃ w, donjonlaw7_within.f a n = some w ∧ 0 ≤ w ∧ w < n := by
  unfold donjonlaw7_within.f
  rw [if_neg (by omega)]
  have h1 := Int.tmod_lt_of_pos a h0
  have h2 := Int.lt_tmod_of_pos a h0
  by_cases h : Int.tmod a n < 0
  · rw [if_pos h]
    exact ⟨_, rfl, by unfold wrap64; omega, by unfold wrap64; omega⟩
  · rw [if_neg h]
    exact ⟨_, rfl, by omega, h1⟩

/-- A letter's byte. -/
def letter (c : Int) : UInt8 := UInt8.ofNat ((97 + c) % 256).toNat
theorem letter_name (c : Int) (h0 : 0 ≤ c) (h : c < 26) : nameByte (letter c) = true := by
  obtain ⟨n, rfl⟩ := Int.eq_ofNat_of_zero_le h0
  have hn : n < 26 := by omega
  unfold letter
  rw [show ((97 + (n : Int)) % 256).toNat = 97 + n from by omega]
  have e : (UInt8.ofNat (97 + n)).toNat = 97 + n := by rw [UInt8.toNat_ofNat']; omega
  unfold nameByte
  rw [e]
  simp
  omega
theorem append_data (s t : ByteArray) : (s ++ t).data.toList = s.data.toList ++ t.data.toList := ByteArray.toList_data_append
theorem append_size (s t : ByteArray) : (s ++ t).size = s.size + t.size := by rw [Lib.size_eq, append_data, List.length_append, ← Lib.size_eq, ← Lib.size_eq]

/-- A name's letters, one by one. -/
theorem of_letters (x0 : List Int) (i : Nat) (hi : i < x0.length) (hlen : x0.length ≤ 9223372036854775807) (t c : Int) (ht : donjonlaw7_within.f (rd x0 (i : Int)) 3 = some t) (ht3 : t < 3)
    (hc : donjonlaw7_within.f (wrap64 (Int.tdiv (rd x0 (i : Int)) 3)) 5 = some c) (hc0 : 0 ≤ c) (hc5 : c < 5) (d : Nat) : ∀ (k : Nat) (j : Int) (s : ByteArray), 0 ≤ j → t + 1 - j = d → s.size + d ≤ 1000000 →
    donjonlaw7_Of.l1 (k + 1 + d) x0 s (i : Int) j = donjonlaw7_Of.l0 k x0 ⟨(s.data.toList ++ List.replicate d (letter c)).toArray⟩ ((i + 1 : Nat) : Int) := by
  induction d with
  | zero =>
    intro k j s hj hd hs
    rw [Nat.add_zero]
    simp only [donjonlaw7_Of.l1]
    rw [if_pos (by omega), if_pos (by omega), ht]
    simp only [Option.bind_some]
    rw [if_neg (by omega), wrap_succ (n := 9223372036854775807) (by omega) (by omega) (by omega), show ((i : Int) + 1) = ((i + 1 : Nat) : Int) from rfl]
    congr 1
    exact bytes_ext (by simp)
  | succ d ih =>
    intro k j s hj hd hs
    rw [show k + 1 + (d + 1) = (k + 1 + d) + 1 from by omega]
    simp only [donjonlaw7_Of.l1]
    rw [if_pos (by omega), if_pos (by omega), ht]
    simp only [Option.bind_some]
    rw [if_pos (by omega), hc]
    simp only [Option.bind_some]
    rw [show wrap64 (97 + c) = 97 + c from by unfold wrap64; omega, strOfNums_size, if_pos (by simp; omega), wrap_succ (n := 9223372036854775807) (by omega) (by omega) (by omega)]
    have hz : (s ++ strOfNums [(97 + c) % 256]).size = s.size + 1 := by rw [append_size, strOfNums_size]; rfl
    rw [ih k (j + 1) _ (by omega) (by omega) (by omega)]
    congr 1
    apply bytes_ext
    simp only [append_data, strOfNums_data]
    rw [List.replicate_succ]
    simp [letter]

/-- The rest of the names. -/
theorem of_rest (x0 : List Int) (hlen : x0.length ≤ 9223372036854775807) (m : Nat) : ∀ (ns : List (List UInt8)) (s : ByteArray), s.data.toList = flat ns → s.size ≤ 4 * ns.length → min x0.length 6 = ns.length + m →
    (∀ x ∈ ns, nameL x = true ∧ x.length ≤ 3) →
    ∃ rest : List (List UInt8), rest.length = m ∧ (∀ x ∈ rest, nameL x = true ∧ x.length ≤ 3) ∧ ∀ k, 10 * m + 10 ≤ k → donjonlaw7_Of.l0 k x0 s (ns.length : Int) = some ⟨(render (ns ++ rest)).toArray⟩ := by
  induction m with
  | zero =>
    intro ns s hs hz hm hns
    refine ⟨[], rfl, by simp, fun k hk => ?_⟩
    obtain ⟨k, rfl⟩ : ∃ q, k = q + 2 := ⟨k - 2, by omega⟩
    rw [List.append_nil]
    have hend : donjonlaw7_Of.j1 (k + 1) x0 s (ns.length : Int) false = some ⟨(render ns).toArray⟩ := by
      simp only [donjonlaw7_Of.j1]
      rw [if_neg (by decide), Lib.toList_data, hs]
      by_cases h : flat ns = []
      · rw [if_pos h, flat_eq_nil h]
        rfl
      · rw [if_neg h, render_flat ns (fun e => h (by rw [e]; rfl)), ← hs]
    simp only [donjonlaw7_Of.l0]
    by_cases h : (ns.length : Int) < (x0.length : Int)
    · rw [if_pos h, show decide ((ns.length : Int) < 6) = false from by rw [decide_eq_false_iff_not]; omega]
      exact hend
    · rw [if_neg h]
      exact hend
  | succ m ih =>
    intro ns s hs hz hm hns
    have hlt : ns.length < x0.length := by omega
    obtain ⟨t, ht, ht0, ht3⟩ := within_f (rd x0 (ns.length : Int)) 3 (by decide) (by decide)
    obtain ⟨c, hc, hc0, hc5⟩ := within_f (wrap64 (Int.tdiv (rd x0 (ns.length : Int)) 3)) 5 (by decide) (by decide)
    have hd : t + 1 - 0 = ((t + 1).toNat : Int) := by omega
    have hl : (List.replicate (t + 1).toNat (letter c)).length = (t + 1).toNat := List.length_replicate
    have hgood : nameL (List.replicate (t + 1).toNat (letter c)) = true := by
      unfold nameL
      rw [hl]
      simp only [Bool.and_eq_true, decide_eq_true_eq]
      refine ⟨?_, by omega, by omega⟩
      rw [List.all_eq_true]
      intro b hb
      rw [(List.mem_replicate.1 hb).2]
      exact letter_name c hc0 (by omega)
    have hs1 : (s ++ (⟨#[47]⟩ : ByteArray)).data.toList ++ List.replicate (t + 1).toNat (letter c) = flat (ns ++ [List.replicate (t + 1).toNat (letter c)]) := by
      rw [append_data, hs, flat_snoc]
      simp
    have hz1 : (s ++ (⟨#[47]⟩ : ByteArray)).size = s.size + 1 := append_size _ _
    obtain ⟨rest, hr1, hr2, hr3⟩ := ih (ns ++ [List.replicate (t + 1).toNat (letter c)]) ⟨(flat (ns ++ [List.replicate (t + 1).toNat (letter c)])).toArray⟩ rfl
      (by rw [Lib.size_eq, ← hs1]; simp only [List.length_append, hl, List.length_cons, List.length_nil]; rw [← Lib.size_eq, hz1]; omega) (by rw [List.length_append]; simp; omega) (by
      intro x hx
      rcases List.mem_append.1 hx with hx | hx
      · exact hns x hx
      · rw [List.mem_singleton.1 hx]
        exact ⟨hgood, by rw [hl]; omega⟩)
    refine ⟨List.replicate (t + 1).toNat (letter c) :: rest, by simp [hr1], ?_, ?_⟩
    · intro x hx
      rcases List.mem_cons.1 hx with rfl | hx
      · exact ⟨hgood, by rw [hl]; omega⟩
      · exact hr2 x hx
    · intro k hk
      obtain ⟨k, rfl⟩ : ∃ q, k = q + 1 + (t + 1).toNat + 2 := ⟨k - (3 + (t + 1).toNat), by omega⟩
      simp only [donjonlaw7_Of.l0]
      rw [if_pos (by omega), show decide ((ns.length : Int) < 6) = true from by rw [decide_eq_true_eq]; omega]
      simp only [donjonlaw7_Of.j1]
      rw [if_pos trivial, if_pos (by omega), of_letters x0 ns.length hlt hlen t c ht ht3 hc hc0 hc5 (t + 1).toNat k 0 _ (by decide) hd (by omega), hs1]
      have h := hr3 k (by omega)
      rw [List.length_append, List.length_singleton] at h
      rw [h]
      simp

/-- Of: a row of at most six names. -/
theorem of_f (x0 : List Int) (hlen : x0.length ≤ 9223372036854775807) : ∃ ns : List (List UInt8), ns.length ≤ 6 ∧ (∀ x ∈ ns, nameL x = true ∧ x.length ≤ 3) ∧ ∀ k, 80 ≤ k → donjonlaw7_Of.f k x0 = some ⟨(render ns).toArray⟩ := by
  obtain ⟨rest, h1, h2, h3⟩ := of_rest x0 hlen (min x0.length 6) [] ⟨#[]⟩ rfl (by decide) (by simp) (by simp)
  refine ⟨rest, by omega, h2, fun k hk => ?_⟩
  have h := h3 k (by omega)
  rw [List.nil_append] at h
  unfold donjonlaw7_Of.f
  exact h
theorem render_short {ns : List (List UInt8)} (h : ns.length ≤ 6) (hx : ∀ x ∈ ns, nameL x = true ∧ x.length ≤ 3) : (render ns).length ≤ 24 := by
  have key : ∀ l : List (List UInt8), (∀ x ∈ l, x.length ≤ 3) → (flat l).length ≤ 4 * l.length := by
    intro l
    induction l with
    | nil => intro _; simp [flat_nil]
    | cons n l ih =>
      intro hl
      have h1 := hl n List.mem_cons_self
      have h2 := ih fun x hx => hl x (List.mem_cons_of_mem _ hx)
      rw [flat_cons]
      simp only [List.length_cons, List.length_append]
      omega
  by_cases h0 : ns = []
  · subst h0; decide
  · rw [render_flat _ h0]
    have := key ns fun x hxm => (hx x hxm).2
    omega
theorem of_check {ns : List (List UInt8)} (h : ns.length ≤ 6) (hx : ∀ x ∈ ns, nameL x = true ∧ x.length ≤ 3) : checkL (render ns) = 0 := by
  have hs := render_short h hx
  rw [check_render ns (fun x hxm => name_nm (hx x hxm).1), if_neg (by omega), if_neg (by omega), if_pos (List.all_eq_true.2 fun x hxm => (hx x hxm).1)]

/-- The chapter's examples. -/
theorem nm_a (c : UInt8) (h : nameByte c = true) : Nm [c] := name_nm (by unfold nameL; simp [h])
theorem known_f : donjonlaw7_known.f = some true := by
  have e1 := parent_f ⟨#[47, 97, 47, 98]⟩ (by decide) [[97], [98]] rfl (by intro x hx; rcases List.mem_cons.1 hx with rfl | hx; exact nm_a 97 (by decide); rw [List.mem_singleton.1 hx]; exact nm_a 98 (by decide))
  have e2 := in_f ⟨#[47, 97, 98]⟩ ⟨#[47, 97]⟩ (by decide) (by decide) [[97, 98]] [[97]] rfl rfl (by intro x hx; rw [List.mem_singleton.1 hx]; exact name_nm (by decide)) (by intro x hx; rw [List.mem_singleton.1 hx]; exact nm_a 97 (by decide))
  have e3 := in_f ⟨#[47, 97, 47, 98]⟩ ⟨#[47, 97]⟩ (by decide) (by decide) [[97], [98]] [[97]] rfl rfl (by intro x hx; rcases List.mem_cons.1 hx with rfl | hx; exact nm_a 97 (by decide); rw [List.mem_singleton.1 hx]; exact nm_a 98 (by decide)) (by intro x hx; rw [List.mem_singleton.1 hx]; exact nm_a 97 (by decide))
  unfold donjonlaw7_known.f
  rw [e1]
  simp only [Option.bind_some]
  rw [e2, e3, Lib.toList_data, if_pos (by rfl)]
  simp only [Option.bind_some]
  decide
end Go.Proofs.YtmndeoncbocplaaDoor.P
