/- What the printed functions of paths come to at a path of names: the path above, the last name, what lies below what, the names. No program stands in it. -/
import Derived.Test.YtmndeoncbocplaaDoorLNames
import Derived.Test.YtmndeoncbocplaaDoorLPath
import Derived.Test.YtmndeoncbocplaaDoorP1
import Derived.Test.YtmndeoncbocplaaDoorP10
set_option linter.unusedVariables false
set_option linter.unusedSimpArgs false
namespace Go.Proofs.YtmndeoncbocplaaDoor.P
open Go.RowKit Go.Proofs.YtmndeoncbocplaaDoorW.PrintWords Go.Proofs.YtmndeoncbocplaaDoorW.PrintLast Go.Proofs.YtmndeoncbocplaaDoor.L

theorem lastIndex_f (s : ByteArray) (hs : s.size ≤ 4294967281) : strings_LastIndex.f s ⟨#[47]⟩ = some (Lib.lastIdx s 47 s.size) := by
  unfold strings_LastIndex.f
  rw [if_pos ⟨rfl, by omega⟩]
  rfl
theorem root_size {s : ByteArray} (h : s.data.toList = [47]) : s = ⟨#[47]⟩ := bytes_ext h
theorem lastIdx_root : Lib.lastIdx ⟨#[47]⟩ 47 (⟨#[47]⟩ : ByteArray).size = 0 := lastIdx_snoc ⟨#[47]⟩ [] [] rfl (by intro c h; simp at h)

/-- The row of names above one. -/
def upL (ns : List (List UInt8)) : List UInt8 := if ns = [] then [] else render ns.dropLast
theorem parent_f (s : ByteArray) (hs : s.size ≤ 4294967281) (ns : List (List UInt8)) (h : s.data.toList = render ns) (hn : ∀ x ∈ ns, Nm x) : path_Parent.f s = some ⟨(upL ns).toArray⟩ := by
  unfold path_Parent.f
  rw [lastIndex_f s hs]
  simp only [Option.bind_some]
  have hz := Lib.size_eq s
  rw [Lib.toList_data]
  rcases List.eq_nil_or_concat ns with rfl | ⟨a, n, rfl⟩
  · rw [if_pos (show s.data.toList = [47] from h)]
    rfl
  · rw [List.concat_eq_append] at *
    have hne : a ++ [n] ≠ [] := by simp
    rw [if_neg (fun e => hne ((render_one hn).1 (h.symm.trans e)))]
    rw [render_snoc] at h
    have hl := lastIdx_snoc s (flat a) n h (hn n (by simp)).1
    rw [hl, if_neg (by omega)]
    have hsz : (flat a).length + 1 ≤ s.size := by rw [hz, h]; simp
    unfold upL
    rw [if_neg hne, List.dropLast_concat]
    by_cases h0 : a = []
    · subst h0
      have e1 : mx ((flat []).length : Int) 1 = 1 := rfl
      rw [e1, if_pos (by decide), if_pos (by omega)]
      congr 1
      apply bytes_ext
      rw [Lib.extract_data, h, render_nil]
      rfl
    · have hpos : 1 ≤ (flat a).length := by
        cases hf : flat a with
        | nil => exact absurd (flat_eq_nil hf) h0
        | cons _ _ => simp
      rw [render_flat _ h0]
      have e1 : mx ((flat a).length : Int) 1 = ((flat a).length : Int) := if_neg (by omega)
      rw [e1, if_pos (by omega), if_pos (by omega)]
      congr 1
      apply bytes_ext
      rw [Lib.extract_data, h]
      simp

theorem last_f (s : ByteArray) (hs : s.size ≤ 4294967281) (ns : List (List UInt8)) (h : s.data.toList = render ns) (hn : ∀ x ∈ ns, Nm x) : path_Last.f s = some ⟨(ns.getLast?.getD []).toArray⟩ := by
  unfold path_Last.f
  rw [lastIndex_f s hs]
  simp only [Option.bind_some]
  have hz := Lib.size_eq s
  rcases List.eq_nil_or_concat ns with rfl | ⟨a, n, rfl⟩
  · have := root_size h
    subst this
    rw [lastIdx_root, show wrap64 (0 + 1) = 1 from by unfold wrap64; omega, if_pos (by decide), if_pos (by decide)]
    rfl
  · rw [List.concat_eq_append] at *
    rw [render_snoc] at h
    have hl := lastIdx_snoc s (flat a) n h (hn n (by simp)).1
    have hsz : (flat a).length + 1 + n.length = s.size := by rw [hz, h]; simp; omega
    rw [hl, wrap_succ (n := s.size) (by omega) (by omega) (by omega), if_pos (by omega), if_pos (by omega)]
    congr 1
    apply bytes_ext
    rw [Lib.extract_to_end, h, show ((flat a).length + 1 : Int).toNat = (flat a).length + 1 from by omega, show flat a ++ 47 :: n = (flat a ++ [47]) ++ n from by simp,
      List.drop_append_of_le_length (by simp), List.drop_of_length_le (by simp)]
    simp

theorem in_f (s t : ByteArray) (hs : s.size ≤ 4294967281) (ht : t.size ≤ 4294967281) (a b : List (List UInt8)) (h1 : s.data.toList = render a) (h2 : t.data.toList = render b) (ha : ∀ x ∈ a, Nm x) (hb : ∀ x ∈ b, Nm x) :
    path_In.f s t = some (decide (b <+: a ∧ b ≠ a)) := by
  unfold path_In.f strings_HasPrefix.f stringslite_HasPrefix.f
  have hz := Lib.size_eq s
  have hy := Lib.size_eq t
  simp only [Lib.toList_data]
  by_cases hr : b = []
  · subst hr
    rw [if_pos (show t.data.toList = [47] from h2), h1]
    by_cases h0 : a = []
    · subst h0; rfl
    · have : render a ≠ [47] := fun e => h0 ((render_one ha).1 e)
      simp [this, Ne.symm h0]
  · rw [if_neg (fun e => hr ((render_one hb).1 (h2.symm.trans e))), if_pos (by omega)]
    have hap : (t ++ (⟨#[47]⟩ : ByteArray)).data.toList = flat b ++ [47] := by
      rw [ByteArray.data_append, Array.toList_append, h2, render_flat b hr]
    have hsz : (t ++ (⟨#[47]⟩ : ByteArray)).size = (flat b ++ [47]).length := by rw [Lib.size_eq, hap]
    have key : (flat b ++ [47]) <+: render a ↔ (b <+: a ∧ b ≠ a) := by
      by_cases h0 : a = []
      · subst h0
        rw [render_nil]
        constructor
        · intro h
          have hle := h.length_le
          have hb1 : 1 ≤ (flat b).length := by
            cases hf : flat b with
            | nil => exact absurd (flat_eq_nil hf) hr
            | cons _ _ => simp
          rw [List.length_append] at hle
          simp only [List.length_cons, List.length_nil] at hle
          omega
        · rintro ⟨h, _⟩
          exact absurd (List.prefix_nil.1 h) hr
      · rw [render_flat a h0]
        exact flat_prefix b a (fun x hx => (hb x hx).1) (fun x hx => (ha x hx).1)
    rw [hsz]
    rw [h1] at hz
    by_cases hle : (flat b ++ [47]).length ≤ (render a).length
    · rw [if_pos (by omega), if_pos (by omega), if_pos (by omega)]
      simp only [Option.bind_some]
      congr 1
      rw [Lib.extract_data, h1, hap, Bool.eq_iff_iff]
      simp only [Int.toNat_natCast, Nat.sub_zero, List.drop_zero, beq_iff_eq, decide_eq_true_eq]
      rw [← key, List.prefix_iff_eq_take]
      exact eq_comm
    · rw [if_neg (by omega)]
      simp only [Option.bind_some]
      congr 1
      symm
      rw [decide_eq_false_iff_not, ← key]
      intro h
      exact hle h.length_le

theorem parts_f (s : ByteArray) (hs : s.size ≤ 4294967281) (ns : List (List UInt8)) (h : s.data.toList = render ns) (hn : ∀ x ∈ ns, Nm x) : path_Parts.f s = some (ns.map fun l => ⟨l.toArray⟩) := by
  unfold path_Parts.f
  have hz := Lib.size_eq s
  rw [Lib.toList_data]
  cases ns with
  | nil => rw [if_pos (show s.data.toList = [47] from h)]; rfl
  | cons n ns =>
    rw [if_neg (fun e => by have := (render_one hn).1 (h.symm.trans e); simp at this), if_neg (by rw [h]; exact render_ne _)]
    rw [render_cons] at h
    rw [h] at hz
    simp only [List.length_cons] at hz
    have he : (s.extract 1 s.size).data.toList = n ++ flat ns := by rw [Lib.extract_to_end, h]; rfl
    have hes : (s.extract 1 s.size).size < 4294967281 := by rw [Lib.size_eq, he]; omega
    rw [if_pos (by omega), split_f _ hes]
    unfold pieces
    rw [he, split_flat ns n (hn n List.mem_cons_self).1 (fun x hx => (hn x (List.mem_cons_of_mem _ hx)).1)]
    rfl
end Go.Proofs.YtmndeoncbocplaaDoor.P
