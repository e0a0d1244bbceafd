/- PathIn, without the program: a path lies below just the paths that it goes through. No condition beyond the form's own reach. -/
import Derived.Test.YtmndeoncbocplaaDoorLOf
import Derived.Test.YtmndeoncbocplaaDoorP8
namespace Go.Proofs.YtmndeoncbocplaaDoor.Pure
open Go.RowKit Go.Proofs.YtmndeoncbocplaaDoor.P Go.Proofs.YtmndeoncbocplaaDoor.L Go.Proofs.YtmndeoncbocplaaDoorW.PrintWords Go.Proofs.YtmndeoncbocplaaDoorW.PrintLast

/-- The path of a row of names, as bytes. -/
def rb (ns : List (List UInt8)) : ByteArray := ⟨(render ns).toArray⟩
theorem rb_data (ns : List (List UInt8)) : (rb ns).data.toList = render ns := rfl
theorem rb_inj {a b : List (List UInt8)} (ha : ∀ x ∈ a, Nm x) (hb : ∀ x ∈ b, Nm x) (h : render a = render b) : a = b := by
  cases a with
  | nil => exact ((render_one hb).1 h.symm).symm
  | cons n a =>
    cases b with
    | nil => exact absurd ((render_one ha).1 h) (by simp)
    | cons m b =>
      rw [render_cons, render_cons] at h
      injection h with _ h
      have h1 := split_flat a n (ha n List.mem_cons_self).1 (fun x hx => (ha x (List.mem_cons_of_mem _ hx)).1)
      have h2 := split_flat b m (hb m List.mem_cons_self).1 (fun x hx => (hb x (List.mem_cons_of_mem _ hx)).1)
      rw [← h1, ← h2, h]

theorem size_le {ns : List (List UInt8)} (h : (render ns).length ≤ 24) : (rb ns).size ≤ 4294967281 := by
  rw [Lib.size_eq, rb_data]; omega
theorem dropLast_short {ns : List (List UInt8)} (h : ns.length ≤ 6) (hx : ∀ x ∈ ns, nameL x = true ∧ x.length ≤ 3) (j : Nat) : (ns.take j).length ≤ 6 ∧ ∀ x ∈ ns.take j, nameL x = true ∧ x.length ≤ 3 :=
  ⟨by rw [List.length_take]; omega, fun x hm => hx x (List.mem_of_mem_take hm)⟩

/-- The loop: from a front of the path's names on. -/
theorem in_loop (a b : List (List UInt8)) (ha : a.length ≤ 6) (hax : ∀ x ∈ a, nameL x = true ∧ x.length ≤ 3) (hb : b.length ≤ 6) (hbx : ∀ x ∈ b, nameL x = true ∧ x.length ≤ 3) (j : Nat) :
    ∀ k, j + 2 ≤ k → j < a.length → ∀ is : Bool, (is = true ↔ ∃ q, j < q ∧ q < a.length ∧ a.take q = b) → donjonlaw7_PathIn.l0 k (rb a) (rb b) is (rb (a.take j)) = some true := by
  have hna : ∀ x ∈ a, Nm x := fun x hm => name_nm (hax x hm).1
  have hnb : ∀ x ∈ b, Nm x := fun x hm => name_nm (hbx x hm).1
  have hsa := size_le (render_short ha hax)
  have hsb := size_le (render_short hb hbx)
  have hend : ∀ k is, 1 ≤ k → (is = true ↔ ∃ q, q < a.length ∧ a.take q = b) → donjonlaw7_PathIn.l0 k (rb a) (rb b) is ⟨#[]⟩ = some true := by
    intro k is hk his
    obtain ⟨k, rfl⟩ : ∃ q, k = q + 1 := ⟨k - 1, by omega⟩
    simp only [donjonlaw7_PathIn.l0]
    rw [Lib.toList_data, if_pos (by rfl), in_f _ _ hsa hsb a b rfl rfl hna hnb, in_f _ _ hsa hsa a a rfl rfl hna hna]
    have e : decide (b <+: a ∧ b ≠ a) = is := by
      rw [Bool.eq_iff_iff, decide_eq_true_eq, his]
      constructor
      · rintro ⟨h1, h2⟩
        refine ⟨b.length, ?_, (List.prefix_iff_eq_take.1 h1).symm⟩
        rcases Nat.lt_or_ge b.length a.length with h | h
        · exact h
        · exact absurd (h1.eq_of_length_le h) h2
      · rintro ⟨q, h1, rfl⟩
        refine ⟨List.take_prefix _ _, fun h => ?_⟩
        have := congrArg List.length h
        rw [List.length_take] at this
        omega
    simp only [Option.bind_some, e]
    rw [if_pos (by simp)]
    simp
  induction j with
  | zero =>
    intro k hk hj is his
    obtain ⟨k, rfl⟩ : ∃ q, k = q + 1 := ⟨k - 1, by omega⟩
    have hj0 := dropLast_short ha hax 0
    have hnj : ∀ x ∈ a.take 0, Nm x := fun x hm => name_nm (hj0.2 x hm).1
    have hsj := size_le (render_short hj0.1 hj0.2)
    have hne : a.take 0 ≠ a := fun h => by have := congrArg List.length h; simp at this; omega
    simp only [donjonlaw7_PathIn.l0]
    rw [Lib.toList_data, rb_data, if_neg (render_ne _), in_f _ _ hsa hsj a _ rfl rfl hna hnj, in_f _ _ hsj hsa _ a rfl rfl hnj hna, parent_f _ hsj _ rfl hnj]
    simp only [Option.bind_some]
    rw [if_pos (by rw [decide_eq_true_eq]; exact ⟨List.take_prefix _ _, hne⟩), if_neg (by rw [decide_eq_true_eq]; rintro ⟨h, _⟩; have := h.length_le; rw [List.length_take] at this; omega)]
    have hup : (⟨(upL (a.take 0)).toArray⟩ : ByteArray) = ⟨#[]⟩ := rfl
    rw [hup]
    have hst : (render (a.take 0) == (rb b).toList) = decide (a.take 0 = b) := by
      rw [Lib.toList_data, rb_data, Bool.eq_iff_iff, beq_iff_eq, decide_eq_true_eq]
      exact ⟨rb_inj hnj hnb, fun h => by rw [h]⟩
    cases is with
    | true =>
      rw [if_pos rfl]
      refine hend k true (by omega) ⟨fun _ => ?_, fun _ => rfl⟩
      obtain ⟨q, _, h2, h3⟩ := his.1 rfl
      exact ⟨q, h2, h3⟩
    | false =>
      rw [if_neg (by decide), hst]
      refine hend k _ (by omega) ?_
      rw [decide_eq_true_eq]
      constructor
      · intro h; exact ⟨0, hj, h⟩
      · rintro ⟨q, h1, h2⟩
        by_cases hq : q = 0
        · subst hq; exact h2
        · exact absurd (his.2 ⟨q, by omega, h1, h2⟩) (by decide)
  | succ j ih =>
    intro k hk hj is his
    obtain ⟨k, rfl⟩ : ∃ q, k = q + 1 := ⟨k - 1, by omega⟩
    have hj0 := dropLast_short ha hax (j + 1)
    have hnj : ∀ x ∈ a.take (j + 1), Nm x := fun x hm => name_nm (hj0.2 x hm).1
    have hsj := size_le (render_short hj0.1 hj0.2)
    have hlen : (a.take (j + 1)).length = j + 1 := by rw [List.length_take]; omega
    have hne : a.take (j + 1) ≠ a := fun h => by have := congrArg List.length h; omega
    simp only [donjonlaw7_PathIn.l0]
    rw [Lib.toList_data, rb_data, if_neg (render_ne _), in_f _ _ hsa hsj a _ rfl rfl hna hnj, in_f _ _ hsj hsa _ a rfl rfl hnj hna, parent_f _ hsj _ rfl hnj]
    simp only [Option.bind_some]
    rw [if_pos (by rw [decide_eq_true_eq]; exact ⟨List.take_prefix _ _, hne⟩), if_neg (by rw [decide_eq_true_eq]; rintro ⟨h, _⟩; have := h.length_le; omega)]
    have hup : (⟨(upL (a.take (j + 1))).toArray⟩ : ByteArray) = rb (a.take j) := by
      unfold upL rb
      rw [if_neg (fun h => by rw [h] at hlen; simp at hlen), List.dropLast_take (by omega)]
      rfl
    rw [hup]
    have hst : (render (a.take (j + 1)) == (rb b).toList) = decide (a.take (j + 1) = b) := by
      rw [Lib.toList_data, rb_data, Bool.eq_iff_iff, beq_iff_eq, decide_eq_true_eq]
      exact ⟨rb_inj hnj hnb, fun h => by rw [h]⟩
    cases is with
    | true =>
      rw [if_pos rfl]
      refine ih k (by omega) (by omega) true ⟨fun _ => ?_, fun _ => rfl⟩
      obtain ⟨q, h1, h2, h3⟩ := his.1 rfl
      exact ⟨q, by omega, h2, h3⟩
    | false =>
      rw [if_neg (by decide), hst]
      refine ih k (by omega) (by omega) _ ?_
      rw [decide_eq_true_eq]
      constructor
      · intro h; exact ⟨j + 1, by omega, hj, h⟩
      · rintro ⟨q, h0, h1, h2⟩
        by_cases hq : q = j + 1
        · subst hq; exact h2
        · exact absurd (his.2 ⟨q, by omega, h1, h2⟩) (by decide)

theorem PathIn : donjonlaw7_PathIn.Pure := by
  intro l0 l1 h0 _ _ h1 _ _
  unfold maxLen at h0 h1
  obtain ⟨a, ha, hax, hfa⟩ := of_f l0 h0
  obtain ⟨b, hb, hbx, hfb⟩ := of_f l1 h1
  have hna : ∀ x ∈ a, Nm x := fun x hm => name_nm (hax x hm).1
  have hnb : ∀ x ∈ b, Nm x := fun x hm => name_nm (hbx x hm).1
  have hsa := size_le (render_short ha hax)
  have hsb := size_le (render_short hb hbx)
  refine ⟨200, ?_⟩
  unfold donjonlaw7_PathIn.f
  rw [known_f, hfa 200 (by decide), hfb 200 (by decide)]
  simp only [Option.bind_some]
  rw [if_pos trivial, path_check _ 200 (by decide), path_check _ 200 (by decide), show checkL (⟨(render a).toArray⟩ : ByteArray).data.toList = 0 from of_check ha hax, show checkL (⟨(render b).toArray⟩ : ByteArray).data.toList = 0 from of_check hb hbx]
  simp only [Option.bind_some]
  rw [if_pos trivial]
  simp only [donjonlaw7_PathIn.j0]
  rw [if_neg (by decide)]
  show (path_Parent.f (rb a)).bind (fun t => donjonlaw7_PathIn.l0 199 (rb a) (rb b) false t) = some true
  rw [parent_f _ hsa a rfl hna]
  simp only [Option.bind_some]
  by_cases h : a = []
  · subst h
    show donjonlaw7_PathIn.l0 199 (rb []) (rb b) false ⟨#[]⟩ = some true
    obtain ⟨k, hk⟩ : ∃ k, 199 = k + 1 := ⟨198, rfl⟩
    rw [hk]
    simp only [donjonlaw7_PathIn.l0]
    rw [Lib.toList_data, if_pos (by rfl), in_f _ _ hsa hsb [] b rfl rfl hna hnb, in_f _ _ hsa hsa [] [] rfl rfl hna hna]
    have e : decide (b <+: [] ∧ b ≠ []) = false := by
      rw [decide_eq_false_iff_not]
      rintro ⟨h1, h2⟩
      exact h2 (List.prefix_nil.1 h1)
    simp only [Option.bind_some, e]
    decide
  · have hup : (⟨(upL a).toArray⟩ : ByteArray) = rb (a.take (a.length - 1)) := by
      unfold upL rb
      rw [if_neg h, List.dropLast_eq_take]
    have hpos : 1 ≤ a.length := by
      cases a with
      | nil => exact absurd rfl h
      | cons _ _ => simp
    rw [hup]
    refine in_loop a b ha hax hb hbx (a.length - 1) 199 (by omega) (by omega) false ⟨fun h => (by cases h), ?_⟩
    rintro ⟨q, h1, h2, _⟩
    omega
end Go.Proofs.YtmndeoncbocplaaDoor.Pure
