/- PathDepth, without the program: a row of names of one length is a path just if it is short enough; going up comes to the root. No condition beyond the form's own reach. -/
import Derived.Test.YtmndeoncbocplaaDoorLOf
import Derived.Test.YtmndeoncbocplaaDoorP11
namespace Go.Proofs.YtmndeoncbocplaaDoor.Pure
open Go.RowKit Go.Proofs.YtmndeoncbocplaaDoor.P Go.Proofs.YtmndeoncbocplaaDoor.L Go.Proofs.YtmndeoncbocplaaDoorW.PrintWords Go.Proofs.YtmndeoncbocplaaDoorW.PrintLast

/-- The names: of number j so many of the j-th letter. -/
def nmd (size j : Nat) : List UInt8 := List.replicate size (letter (j : Int))
def nms (size n : Nat) : List (List UInt8) := (List.range n).map (nmd size)
theorem nms_succ (size n : Nat) : nms size (n + 1) = nms size n ++ [nmd size n] := by simp [nms, List.range_succ]
theorem nms_len (size n : Nat) : (nms size n).length = n := by simp [nms]
theorem nms_take (size n j : Nat) (h : j ≤ n) : (nms size n).take j = nms size j := by
  unfold nms
  rw [← List.map_take, List.take_range, Nat.min_eq_left h]
theorem nms_nm {size n : Nat} (hs : 1 ≤ size) (hn : n ≤ 26) : ∀ x ∈ nms size n, Nm x := by
  intro x hx
  obtain ⟨j, hj, rfl⟩ := List.mem_map.1 hx
  have hj' := List.mem_range.1 hj
  refine ⟨fun c hc e => ?_, by simp [nmd]; omega⟩
  rw [(List.mem_replicate.1 hc).2] at e
  have := letter_name (j : Int) (by omega) (by omega)
  rw [e] at this
  revert this
  decide
theorem flat_size (size n : Nat) : (flat (nms size n)).length = n * (size + 1) := by
  induction n with
  | zero => simp [nms, flat]
  | succ n ih => rw [nms_succ, flat_snoc, List.length_append, ih, List.length_cons]; simp [nmd]; rw [Nat.add_mul]; omega
theorem nms_all {size n : Nat} (hs : 1 ≤ size) (hn : n ≤ 26) (h1 : 1 ≤ n) : (nms size n).all nameL = decide (size ≤ 12) := by
  by_cases h : size ≤ 12
  · rw [show decide (size ≤ 12) = true from by simpa using h, List.all_eq_true]
    intro x hx
    obtain ⟨j, hj, rfl⟩ := List.mem_map.1 hx
    have hj' := List.mem_range.1 hj
    unfold nameL
    simp only [Bool.and_eq_true, decide_eq_true_eq]
    refine ⟨List.all_eq_true.2 fun c hc => ?_, by simp [nmd]; omega, by simp [nmd]; omega⟩
    rw [(List.mem_replicate.1 hc).2]
    exact letter_name _ (by omega) (by omega)
  · rw [show decide (size ≤ 12) = false from by simpa using h, List.all_eq_false]
    refine ⟨nmd size 0, List.mem_map.2 ⟨0, List.mem_range.2 h1, rfl⟩, ?_⟩
    unfold nameL
    simp [nmd]
    omega

/-- The letters of one name. -/
theorem letters (n size j : Nat) (hj : j < 26) (hs : size ≤ 14) (d : Nat) : ∀ (k i : Nat) (s : ByteArray), size - i = d → i ≤ size → s.size + d ≤ 1000 →
    donjonlaw7_PathDepth.l1 (k + 1 + d) (n : Int) (size : Int) s (j : Int) (i : Int) = donjonlaw7_PathDepth.l0 k (n : Int) (size : Int) ⟨(s.data.toList ++ List.replicate d (letter (j : Int))).toArray⟩ ((j + 1 : Nat) : Int) := by
  induction d with
  | zero =>
    intro k i s hd hi hz
    rw [Nat.add_zero]
    simp only [donjonlaw7_PathDepth.l1]
    rw [if_neg (by omega), wrap_succ (n := 9223372036854775807) (by omega) (by omega) (by omega)]
    congr 1
    exact bytes_ext (by simp)
  | succ d ih =>
    intro k i s hd hi hz
    rw [show k + 1 + (d + 1) = (k + 1 + d) + 1 from by omega]
    simp only [donjonlaw7_PathDepth.l1]
    rw [if_pos (by omega)]
    simp only [Option.bind_some]
    rw [show wrap64 (97 + (j : Int)) = 97 + (j : Int) from by unfold wrap64; omega, strOfNums_size, if_pos (by simp; omega), wrap_succ (n := 9223372036854775807) (by omega) (by omega) (by omega)]
    have hz1 : (s ++ strOfNums [(97 + (j : Int)) % 256]).size = s.size + 1 := by rw [append_size, strOfNums_size]; rfl
    rw [show ((i : Int) + 1) = ((i + 1 : Nat) : Int) from rfl, ih k (i + 1) _ (by omega) (by omega) (by omega)]
    congr 1
    apply bytes_ext
    simp only [append_data, strOfNums_data]
    rw [List.replicate_succ]
    simp [letter]

/-- The document's word on such a row. -/
def want (n size : Nat) : Int := if n * (size + 1) > 78 then 5 else if n > 6 ∨ size > 12 then 1 else 0
theorem check_nms {n size : Nat} (h1 : 1 ≤ n) (hn : n ≤ 8) (hs : 1 ≤ size) : checkL (flat (nms size n)) = want n size := by
  have hne : nms size n ≠ [] := fun h => by have := nms_len size n; rw [h] at this; simp at this; omega
  rw [← render_flat _ hne, check_render _ (nms_nm hs (by omega)), render_flat _ hne, flat_size, nms_len, nms_all hs (by omega) h1]
  unfold want
  by_cases h78 : n * (size + 1) > 78
  · rw [if_pos h78, if_pos h78]
  · rw [if_neg h78, if_neg h78]
    by_cases h6 : n > 6
    · rw [if_pos h6, if_pos (.inl h6)]
    · rw [if_neg h6]
      by_cases h12 : size ≤ 12
      · rw [if_pos (by simpa using h12), if_neg (by omega)]
      · rw [if_neg (by simpa using h12), if_pos (by omega)]

/-- Going up. -/
theorem rise (n size : Nat) (hn : n ≤ 6) (hs : 1 ≤ size) (hs2 : size ≤ 14) (d : Nat) : ∀ (k i : Nat), n - i = d → i ≤ n → d < k →
    donjonlaw7_PathDepth.l2 k (n : Int) (size : Int) ⟨(render (nms size d)).toArray⟩ (i : Int) = some true := by
  have hsz : ∀ d, d ≤ 6 → (⟨(render (nms size d)).toArray⟩ : ByteArray).size ≤ 4294967281 := by
    intro d hd
    rw [Lib.size_eq]
    show (render (nms size d)).length ≤ _
    by_cases h0 : nms size d = []
    · rw [h0]; decide
    · rw [render_flat _ h0, flat_size]
      have : d * (size + 1) ≤ 6 * 15 := Nat.mul_le_mul hd (by omega)
      omega
  induction d with
  | zero =>
    intro k i hd hi hk
    obtain ⟨k, rfl⟩ : ∃ q, k = q + 1 := ⟨k - 1, by omega⟩
    simp only [donjonlaw7_PathDepth.l2]
    have e0 : (⟨(render (nms size 0)).toArray⟩ : ByteArray) = ⟨#[47]⟩ := rfl
    rw [if_neg (by omega), e0, Lib.toList_data, if_pos rfl, parent_f ⟨#[47]⟩ (by decide) [] rfl (by simp), last_f ⟨#[47]⟩ (by decide) [] rfl (by simp), parts_f ⟨#[47]⟩ (by decide) [] rfl (by simp)]
    simp only [Option.bind_some, Lib.toList_data]
    rw [if_pos (by rfl), if_pos (by rfl)]
    rfl
  | succ d ih =>
    intro k i hd hi hk
    obtain ⟨k, rfl⟩ : ∃ q, k = q + 1 := ⟨k - 1, by omega⟩
    have hnm := nms_nm (size := size) (n := d + 1) hs (by omega)
    simp only [donjonlaw7_PathDepth.l2]
    rw [if_pos (by omega), last_f _ (hsz _ (by omega)) (nms size (d + 1)) rfl hnm, parent_f _ (hsz _ (by omega)) (nms size (d + 1)) rfl hnm]
    simp only [Option.bind_some]
    have e1 : ((⟨((nms size (d + 1)).getLast?.getD []).toArray⟩ : ByteArray).size : Int) = (size : Int) := by
      rw [nms_succ, List.getLast?_concat, Lib.size_eq]
      simp [nmd]
    have e2 : upL (nms size (d + 1)) = render (nms size d) := by
      unfold upL
      rw [if_neg (fun h => by have := nms_len size (d + 1); rw [h] at this; simp at this), nms_succ, List.dropLast_concat]
    rw [if_pos e1, e2, wrap_succ (n := 9223372036854775807) (by omega) (by omega) (by omega), show ((i : Int) + 1) = ((i + 1 : Nat) : Int) from rfl]
    exact ih k (i + 1) (by omega) (by omega) (by omega)

/-- The row is made, then asked. -/
theorem build (n size : Nat) (h1 : 1 ≤ n) (hn : n ≤ 8) (hs : 1 ≤ size) (hs2 : size ≤ 14) (d : Nat) : ∀ (k j : Nat), n - j = d → j ≤ n → 20 * d + 200 ≤ k →
    donjonlaw7_PathDepth.l0 k (n : Int) (size : Int) ⟨(flat (nms size j)).toArray⟩ (j : Int) = some true := by
  have hsz : ∀ j, j ≤ 8 → (⟨(flat (nms size j)).toArray⟩ : ByteArray).size = j * (size + 1) ∧ j * (size + 1) ≤ 120 := by
    intro j hj
    refine ⟨by rw [Lib.size_eq]; exact flat_size size j, ?_⟩
    have : j * (size + 1) ≤ 8 * 15 := Nat.mul_le_mul hj (by omega)
    omega
  induction d with
  | zero =>
    intro k j hd hj hk
    obtain ⟨k, rfl⟩ : ∃ q, k = q + 2 := ⟨k - 2, by omega⟩
    obtain rfl : j = n := by omega
    obtain ⟨z1, z2⟩ := hsz j (by omega)
    have hne : nms size j ≠ [] := fun h => by have := nms_len size j; rw [h] at this; simp at this; omega
    have key : ∀ c : Int, c = want j size → donjonlaw7_PathDepth.j2 (k + 1) (j : Int) (size : Int) ⟨(flat (nms size j)).toArray⟩ c = some true := by
      intro c hc
      subst hc
      simp only [donjonlaw7_PathDepth.j2]
      rw [path_check _ k (by omega), show checkL (⟨(flat (nms size j)).toArray⟩ : ByteArray).data.toList = want j size from check_nms h1 hn hs]
      simp only [Option.bind_some]
      rw [if_pos trivial]
      by_cases h0 : want j size = 0
      · rw [if_pos h0, parts_f _ (by omega) (nms size j) (by rw [render_flat _ hne]) (nms_nm hs (by omega))]
        simp only [Option.bind_some]
        rw [if_pos (by simp [nms_len])]
        have h6 : j ≤ 6 := by
          unfold want at h0
          by_cases h6 : j ≤ 6
          · exact h6
          · by_cases h78 : j * (size + 1) > 78
            · rw [if_pos h78] at h0; cases h0
            · rw [if_neg h78, if_pos (.inl (by omega))] at h0; cases h0
        have := rise j size h6 hs hs2 j k 0 (by omega) (by omega) (by omega)
        rw [render_flat _ hne] at this
        exact this
      · rw [if_neg h0]
    simp only [donjonlaw7_PathDepth.l0]
    rw [if_neg (by omega), z1]
    unfold want at key
    by_cases h78 : j * (size + 1) > 78
    · rw [if_pos (by omega)]
      exact key 5 (by rw [if_pos h78])
    · rw [if_neg (by omega)]
      by_cases h6 : j > 6
      · rw [if_pos (by omega)]
        exact key 1 (by rw [if_neg h78, if_pos (.inl h6)])
      · rw [if_neg (by omega)]
        by_cases h12 : size > 12
        · rw [if_pos (by omega)]
          exact key 1 (by rw [if_neg h78, if_pos (.inr h12)])
        · rw [if_neg (by omega)]
          exact key 0 (by rw [if_neg h78, if_neg (by omega)])
  | succ d ih =>
    intro k j hd hj hk
    obtain ⟨k, rfl⟩ : ∃ q, k = q + 1 + size + 1 := ⟨k - (size + 2), by omega⟩
    obtain ⟨z1, z2⟩ := hsz j (by omega)
    simp only [donjonlaw7_PathDepth.l0]
    rw [if_pos (by omega), if_pos (by omega)]
    have hz1 : ((⟨(flat (nms size j)).toArray⟩ : ByteArray) ++ (⟨#[47]⟩ : ByteArray)).size = j * (size + 1) + 1 := by rw [append_size, z1]; rfl
    have h := letters n size j (by omega) hs2 size k 0 ((⟨(flat (nms size j)).toArray⟩ : ByteArray) ++ (⟨#[47]⟩ : ByteArray)) (by omega) (by omega) (by omega)
    rw [show ((0 : Nat) : Int) = 0 from rfl] at h
    rw [h]
    have e : ((⟨(flat (nms size j)).toArray⟩ : ByteArray) ++ (⟨#[47]⟩ : ByteArray)).data.toList ++ List.replicate size (letter (j : Int)) = flat (nms size (j + 1)) := by
      rw [append_data, nms_succ, flat_snoc]
      simp [nmd]
    rw [e]
    exact ih k (j + 1) (by omega) (by omega) (by omega)

theorem PathDepth : donjonlaw7_PathDepth.Pure := by
  intro a0 a1 _ _
  obtain ⟨n, hn, hn0, hn8⟩ := within_f a0 8 (by decide) (by decide)
  obtain ⟨z, hz, hz0, hz14⟩ := within_f a1 14 (by decide) (by decide)
  obtain ⟨n, rfl⟩ := Int.eq_ofNat_of_zero_le hn0
  obtain ⟨z, rfl⟩ := Int.eq_ofNat_of_zero_le hz0
  obtain ⟨k, hk⟩ : ∃ k : Nat, 1000 ≤ k := ⟨1000, Nat.le_refl _⟩
  refine ⟨k, ?_⟩
  unfold donjonlaw7_PathDepth.f
  rw [known_f, hn, hz]
  simp only [Option.bind_some]
  rw [if_pos trivial, show wrap64 (1 + (n : Int)) = ((n + 1 : Nat) : Int) from by unfold wrap64; omega, show wrap64 (1 + (z : Int)) = ((z + 1 : Nat) : Int) from by unfold wrap64; omega]
  have h := build (n + 1) (z + 1) (by omega) (by omega) (by omega) (by omega) (n + 1) k 0 (by omega) (by omega) (by omega)
  rw [show (⟨(flat (nms (z + 1) 0)).toArray⟩ : ByteArray) = ⟨#[]⟩ from rfl] at h
  exact h

end Go.Proofs.YtmndeoncbocplaaDoor.Pure
