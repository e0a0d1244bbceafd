/- Plain facts on paths as rows of names: pieces, checks, the path above, the last name, what lies below what. No program stands in it. -/
import Derived.Test.YtmndeoncbocplaaDoorLStr
set_option linter.unusedVariables false
set_option linter.unusedSimpArgs false
namespace Go.Proofs.YtmndeoncbocplaaDoor.L
open Go.RowKit Go.Proofs.YtmndeoncbocplaaDoorW.PrintWords

/-- No slash stands in it. -/
def Free (n : List UInt8) : Prop := ∀ c ∈ n, c ≠ 47
/-- A name's shape: no slash, not empty. -/
def Nm (n : List UInt8) : Prop := Free n ∧ 1 ≤ n.length
def flat (ns : List (List UInt8)) : List UInt8 := ns.flatMap fun n => 47 :: n
/-- The path of a row of names. -/
def render (ns : List (List UInt8)) : List UInt8 := if ns = [] then [47] else flat ns
theorem flat_nil : flat [] = [] := rfl
theorem flat_cons (n : List UInt8) (ns : List (List UInt8)) : flat (n :: ns) = 47 :: (n ++ flat ns) := by simp [flat]
theorem flat_append (a b : List (List UInt8)) : flat (a ++ b) = flat a ++ flat b := by simp [flat]
theorem flat_snoc (a : List (List UInt8)) (n : List UInt8) : flat (a ++ [n]) = flat a ++ 47 :: n := by simp [flat]
theorem render_nil : render [] = [47] := rfl
theorem render_cons (n : List UInt8) (ns : List (List UInt8)) : render (n :: ns) = 47 :: (n ++ flat ns) := by simp [render, flat_cons]
theorem render_flat (ns : List (List UInt8)) (h : ns ≠ []) : render ns = flat ns := by simp [render, h]
theorem render_snoc (a : List (List UInt8)) (n : List UInt8) : render (a ++ [n]) = flat a ++ 47 :: n := by rw [render_flat _ (by simp), flat_snoc]
theorem render_ne (ns : List (List UInt8)) : render ns ≠ [] := by
  cases ns with
  | nil => simp [render]
  | cons n ns => rw [render_cons]; simp
theorem flat_eq_nil {ns : List (List UInt8)} (h : flat ns = []) : ns = [] := by
  cases ns with
  | nil => rfl
  | cons n ns => rw [flat_cons] at h; simp at h
theorem flat_head (ns : List (List UInt8)) : flat ns = [] ∨ ∃ t, flat ns = 47 :: t := by
  cases ns with
  | nil => exact .inl rfl
  | cons n ns => exact .inr ⟨_, flat_cons n ns⟩

theorem split_flat : ∀ (ns : List (List UInt8)) (n : List UInt8), Free n → (∀ x ∈ ns, Free x) → splitL (n ++ flat ns) = n :: ns
  | [], n, hn, _ => by rw [flat_nil, List.append_nil]; exact splitL_one n hn
  | m :: ns, n, hn, h => by
    rw [flat_cons, splitL_cut n _ hn, split_flat ns m (h m List.mem_cons_self) (fun x hx => h x (List.mem_cons_of_mem _ hx))]

theorem name_nm {n : List UInt8} (h : nameL n = true) : Nm n := by
  unfold nameL at h
  simp only [Bool.and_eq_true, List.all_eq_true, decide_eq_true_eq] at h
  refine ⟨fun c hc e => ?_, h.2.1⟩
  subst e
  have := h.1 47 hc
  revert this
  decide

theorem render_one {ns : List (List UInt8)} (hn : ∀ x ∈ ns, Nm x) : render ns = [47] ↔ ns = [] := by
  constructor
  · intro h
    cases ns with
    | nil => rfl
    | cons n ns =>
      rw [render_cons] at h
      injection h with _ h
      have := (hn n List.mem_cons_self).2
      rw [(List.append_eq_nil_iff.1 h).1] at this
      simp at this
  · rintro rfl; rfl

theorem check_render (ns : List (List UInt8)) (hn : ∀ x ∈ ns, Nm x) :
    checkL (render ns) = if (render ns).length > 78 then 5 else if ns.length > 6 then 1 else if ns.all nameL then 0 else 1 := by
  unfold checkL
  by_cases hl : (render ns).length > 78
  · rw [if_pos hl, if_pos hl]
  rw [if_neg hl, if_neg hl]
  cases ns with
  | nil => rw [render_nil, if_pos rfl]; rfl
  | cons n ns =>
    rw [if_neg (fun h => by have := (render_one hn).1 h; simp at this), render_cons]
    have hs := split_flat ns n (hn n List.mem_cons_self).1 (fun x hx => (hn x (List.mem_cons_of_mem _ hx)).1)
    simp only [ne_eq, not_true_eq_false, if_false]
    rw [hs]

/-- A byte that no name has makes a path none. -/
theorem split_mem (c : UInt8) (hc : c ≠ 47) : ∀ t : List UInt8, c ∈ t → ∃ p ∈ splitL t, c ∈ p
  | [], h => by simp at h
  | d :: t, h => by
    by_cases hd : d = 47
    · subst hd
      rcases List.mem_cons.1 h with rfl | h
      · exact absurd rfl hc
      obtain ⟨p, hp, hcp⟩ := split_mem c hc t h
      exact ⟨p, by rw [splitL_slash]; exact List.mem_cons_of_mem _ hp, hcp⟩
    · obtain ⟨a, u, e1, e2⟩ := splitL_other d t hd
      rw [e2]
      rcases List.mem_cons.1 h with rfl | h
      · exact ⟨_, List.mem_cons_self, List.mem_cons_self⟩
      obtain ⟨p, hp, hcp⟩ := split_mem c hc t h
      rw [e1] at hp
      rcases List.mem_cons.1 hp with rfl | hp
      · exact ⟨_, List.mem_cons_self, List.mem_cons_of_mem _ hcp⟩
      · exact ⟨p, List.mem_cons_of_mem _ hp, hcp⟩
theorem check_bad (l : List UInt8) (c : UInt8) (hc : c ≠ 47) (hb : nameByte c = false) (h : c ∈ l) (hl : l.length ≤ 78) : checkL l = 1 := by
  unfold checkL
  rw [if_neg (by omega), if_neg (by rintro rfl; simp at h; exact hc h)]
  cases l with
  | nil => simp at h
  | cons d t =>
    by_cases hd : d = 47
    · subst hd
      simp only [ne_eq, not_true_eq_false, if_false]
      rcases List.mem_cons.1 h with rfl | h
      · exact absurd rfl hc
      obtain ⟨p, hp, hcp⟩ := split_mem c hc t h
      by_cases h6 : (splitL t).length > 6
      · rw [if_pos h6]
      · rw [if_neg h6, if_neg]
        intro ha
        have := List.all_eq_true.1 ha p hp
        unfold nameL at this
        simp only [Bool.and_eq_true, List.all_eq_true] at this
        rw [this.1 c hcp] at hb
        cases hb
    · simp [hd]
/-- Two slashes side by side make it none. -/
theorem split_two (v : List UInt8) : ∀ u : List UInt8, ∃ h t, splitL (u ++ 47 :: 47 :: v) = h :: t ∧ ([] : List UInt8) ∈ t
  | [] => ⟨[], [] :: splitL v, by rw [List.nil_append, splitL_slash, splitL_slash], List.mem_cons_self⟩
  | d :: u => by
    obtain ⟨h, t, e, hm⟩ := split_two v u
    by_cases hd : d = 47
    · subst hd
      exact ⟨[], h :: t, by rw [List.cons_append, splitL_slash, e], List.mem_cons_of_mem _ hm⟩
    · obtain ⟨a, w, e1, e2⟩ := splitL_other d (u ++ 47 :: 47 :: v) hd
      rw [e] at e1
      injection e1 with e3 e4
      subst e3; subst e4
      exact ⟨d :: h, t, e2, hm⟩
theorem check_two (u v : List UInt8) (hl : (u ++ 47 :: 47 :: v).length ≤ 78) : checkL (u ++ 47 :: 47 :: v) = 1 := by
  have key : ∀ t : List UInt8, ([] : List UInt8) ∈ splitL t → (if (splitL t).length > 6 then (1 : Int) else if (splitL t).all nameL then 0 else 1) = 1 := by
    intro t ht
    by_cases h6 : (splitL t).length > 6
    · rw [if_pos h6]
    · rw [if_neg h6, if_neg]
      intro ha
      have := List.all_eq_true.1 ha [] ht
      revert this
      decide
  unfold checkL
  rw [if_neg (by omega)]
  cases u with
  | nil =>
    rw [List.nil_append, if_neg (by simp)]
    simp only [ne_eq, not_true_eq_false, if_false]
    exact key _ (by rw [splitL_slash]; exact List.mem_cons_self)
  | cons d u =>
    rw [List.cons_append, if_neg (by simp)]
    by_cases hd : d = 47
    · subst hd
      simp only [ne_eq, not_true_eq_false, if_false]
      obtain ⟨h, t, e, hm⟩ := split_two v u
      exact key _ (by rw [e]; exact List.mem_cons_of_mem _ hm)
    · simp [hd]

/-- n and m free of slashes: what begins n, a slash, begins m and what follows it just if n is m. -/
theorem free_prefix : ∀ (n m x y : List UInt8), Free n → Free m → (y = [] ∨ ∃ t, y = 47 :: t) → ((n ++ 47 :: x) <+: (m ++ y) ↔ n = m ∧ (47 :: x) <+: y)
  | [], [], x, y, _, _, _ => by simp
  | [], b :: m, x, y, _, hm, _ => by
    simp only [List.nil_append, List.cons_append]
    constructor
    · rintro ⟨t, ht⟩
      injection ht with h1 h2
      exact absurd h1.symm (hm b List.mem_cons_self)
    · rintro ⟨h, _⟩
      cases h
  | a :: n, [], x, y, hn, _, hy => by
    simp only [List.nil_append, List.cons_append]
    constructor
    · rintro ⟨t, ht⟩
      rcases hy with rfl | ⟨u, rfl⟩
      · simp at ht
      · injection ht with h1 h2
        exact absurd h1 (hn a List.mem_cons_self)
    · rintro ⟨h, _⟩
      cases h
  | a :: n, b :: m, x, y, hn, hm, hy => by
    have ih := free_prefix n m x y (fun c hc => hn c (List.mem_cons_of_mem _ hc)) (fun c hc => hm c (List.mem_cons_of_mem _ hc)) hy
    simp only [List.cons_append, List.cons_prefix_cons, List.cons.injEq, ih, and_assoc]
theorem flat_prefix : ∀ (b a : List (List UInt8)), (∀ x ∈ b, Free x) → (∀ x ∈ a, Free x) → ((flat b ++ [47]) <+: flat a ↔ b <+: a ∧ b ≠ a)
  | [], a, _, _ => by
    rw [flat_nil, List.nil_append]
    rcases flat_head a with h | ⟨t, h⟩
    · have := flat_eq_nil h; subst this; simp [flat_nil]
    · have hne : a ≠ [] := by rintro rfl; simp [flat_nil] at h
      rw [h]
      simp [hne.symm]
  | n :: b, [], _, _ => by
    rw [flat_cons, flat_nil]
    simp
  | n :: b, m :: a, hb, ha => by
    have ih := flat_prefix b a (fun x hx => hb x (List.mem_cons_of_mem _ hx)) (fun x hx => ha x (List.mem_cons_of_mem _ hx))
    rw [flat_cons, flat_cons, List.cons_append, List.cons_prefix_cons]
    have hn := hb n List.mem_cons_self
    have hm := ha m List.mem_cons_self
    simp only [true_and, List.append_assoc, List.cons_prefix_cons, List.cons.injEq, ne_eq, not_and]
    rcases flat_head b with h | ⟨t, h⟩
    · have := flat_eq_nil h; subst this
      rw [h, List.nil_append] at ih ⊢
      rw [free_prefix n m [] (flat a) hn hm (flat_head a), ih]
      constructor
      · rintro ⟨h1, h2, h3⟩; exact ⟨⟨h1, h2⟩, fun _ => h3⟩
      · rintro ⟨⟨h1, h2⟩, h3⟩; exact ⟨h1, h2, h3 h1⟩
    · rw [h, List.cons_append] at ih ⊢
      rw [free_prefix n m (t ++ [47]) (flat a) hn hm (flat_head a), ih]
      constructor
      · rintro ⟨h1, h2, h3⟩; exact ⟨⟨h1, h2⟩, fun _ => h3⟩
      · rintro ⟨⟨h1, h2⟩, h3⟩; exact ⟨h1, h2, h3 h1⟩

/-- Where a slash stands last. -/
theorem lastIdx_snoc (s : ByteArray) (pre n : List UInt8) (h : s.data.toList = pre ++ 47 :: n) (hn : Free n) : Lib.lastIdx s 47 s.size = (pre.length : Int) := by
  have hz := Lib.size_eq s
  rw [h] at hz
  simp only [List.length_append, List.length_cons] at hz
  have hat : ∀ j (hj : j < s.size), (s.data[j]!) = (pre ++ 47 :: n)[j]'(by simp; omega) := by
    intro j hj
    rw [getElem!_pos s.data j hj]
    exact List.getElem_of_eq h _
  have key : ∀ d, d ≤ n.length → Lib.lastIdx s 47 (pre.length + 1 + d) = (pre.length : Int) := by
    intro d
    induction d with
    | zero =>
      intro _
      simp only [Nat.add_zero, Lib.lastIdx]
      rw [hat _ (by omega)]
      simp
    | succ d ih =>
      intro hd
      rw [show pre.length + 1 + (d + 1) = (pre.length + 1 + d) + 1 from by omega]
      simp only [Lib.lastIdx]
      rw [hat _ (by omega), ih (by omega), if_neg]
      have e0 : (pre ++ 47 :: n)[pre.length + 1 + d]'(by simp; omega) = n[d]'(by omega) := by
        rw [List.getElem_append_right (by omega)]
        simp only [show pre.length + 1 + d - pre.length = d + 1 from by omega, List.getElem_cons_succ]
      rw [e0]
      intro e
      exact hn (n[d]'(by omega)) (List.getElem_mem _) (UInt8.toNat_inj.1 (by rw [show (47 : UInt8).toNat = 47 from rfl]; omega))
  have := key n.length (Nat.le_refl _)
  rwa [show pre.length + 1 + n.length = s.size from by omega] at this
end Go.Proofs.YtmndeoncbocplaaDoor.L
