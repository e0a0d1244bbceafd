/- path.Name: of whatever text, valid UTF-8 or not, the walk over its runes answers what the plain function over its bytes says. No condition. -/
import Derived.Lib.OthersKept
import Derived.Laws.RangeAny
import Derived.Lib.Hide
import Derived.Test.YtmndeoncbocplaaDoorLStr
import Derived.Test.YtmndeoncbocplaaDoorP0
namespace Go.Proofs.YtmndeoncbocplaaDoor.P
open Go.RowKit Go.Proofs.YtmndeoncbocplaaDoorW.PrintWords Go.Proofs.YtmndeoncbocplaaDoorW.PrintLast Go.Proofs.YtmndeoncbocplaaDoorW.PrintMore Go.Proofs.YtmndeoncbocplaaDoor.L

def path_Name.f (a0 : ByteArray) : Option (Bool) := some (nameB a0)

theorem width_pos (s : ByteArray) (pos : Nat) (h : pos < s.size) : 1 ≤ (Utf8.decode s pos).2 := by
  by_cases ha : (s[pos]'h).toNat < 128
  · rw [decode_ascii s pos h ha]
    exact Nat.le_refl _
  · exact (decode_high s pos h (by omega)).2
/-- What a rune at a place is: good just if the byte is; then it is one byte long. -/
theorem rune_good (s : ByteArray) (pos : Nat) (h : pos < s.size) :
    (nameByte (s[pos]'h) = true → (Utf8.decode s pos).2 = 1 ∧ ((97 ≤ (Utf8.decode s pos).1 ∧ (Utf8.decode s pos).1 ≤ 122) ∨ (48 ≤ (Utf8.decode s pos).1 ∧ (Utf8.decode s pos).1 ≤ 57))) ∧
    (nameByte (s[pos]'h) = false → ¬ ((97 ≤ (Utf8.decode s pos).1 ∧ (Utf8.decode s pos).1 ≤ 122) ∨ (48 ≤ (Utf8.decode s pos).1 ∧ (Utf8.decode s pos).1 ≤ 57))) := by
  by_cases ha : (s[pos]'h).toNat < 128
  · rw [decode_ascii s pos h ha]
    unfold nameByte
    simp only [Bool.or_eq_true, Bool.and_eq_true, decide_eq_true_eq, Bool.or_eq_false_iff, Bool.and_eq_false_iff, decide_eq_false_iff_not]
    constructor
    · intro hh
      refine ⟨trivial, ?_⟩
      omega
    · intro hh
      omega
  · have hd := (decode_high s pos h (by omega)).1
    unfold nameByte
    simp only [Bool.or_eq_true, Bool.and_eq_true, decide_eq_true_eq]
    constructor
    · intro hh
      omega
    · intro _
      omega

theorem name_bad (s : ByteArray) (pos : Nat) (h : pos < s.size) (hb : nameByte (s[pos]'h) = false) : nameB s = false := by
  unfold nameB
  have : s.data.toList.all nameByte = false := by
    rw [List.all_eq_false]
    refine ⟨s[pos]'h, ?_, by simp [hb]⟩
    exact Array.mem_toList_iff.2 (Array.getElem_mem _)
  rw [this]
  rfl
theorem name_end (s : ByteArray) (hg : ∀ j (hj : j < s.size), nameByte (s[j]'hj) = true) : nameB s = (decide (1 ≤ s.size) && decide (s.size ≤ 12)) := by
  unfold nameB
  have : s.data.toList.all nameByte = true := by
    rw [List.all_eq_true]
    intro b hb
    obtain ⟨j, hj, rfl⟩ := List.getElem_of_mem hb
    exact hg j (by simpa using hj)
  rw [this]
  rfl

set_option maxRecDepth 1000000 in
theorem path_Name.calls (a0 : ByteArray) (r : Bool) (w : World) (h : path_Name.f a0 = some r) :
    Calls Tryd.prog 21 #[.string a0] w fun e w' => e = .returned (.bool r) ∧ Below w.heap.size w w' := by
  obtain rfl : nameB a0 = r := Option.some.inj h
  clear h
  go_enter Tryd.func21, Tryd.ntmps21
  go_wp2
  go_loopw [2] (fun b wr => ∃ (pos : Nat), wr = w.iter a0 pos ∧ b = .bool false ∧ pos ≤ a0.size ∧ (Hid (∀ j (hj : j < a0.size), j < pos → nameByte (a0[j]'hj) = true))) (fun _ wr => a0.size - wr.iterPos w.heap.size)
  case atStart => exact ⟨0, rfl, rfl, Nat.zero_le _, Lib.hid fun j _ h => absurd h (Nat.not_lt_zero _)⟩
  case round =>
    obtain ⟨pos, rfl, rfl, hpos, HG⟩ := hrel
    by_cases hp : pos < a0.size
    · have hnx : ∀ ty, (Instr.next (.pointer (some ⟨w.heap.size, 0, none⟩)) true ty).run Tryd.prog (w.iter a0 pos) = _ := fun ty => run_next_any w a0 pos ty hp
      have hr := rune_good a0 pos hp
      have hbad := name_bad a0 pos hp
      generalize hN : nameByte (a0[pos]'hp) = nb at hr hbad
      have HN := Lib.hid hN
      clear hN
      generalize hD : Utf8.decode a0 pos = cd at hr hnx
      obtain ⟨c, wd⟩ := cd
      have HD := Lib.hid hD
      clear hD
      simp only at hr
      cases nb with
      | true =>
        obtain ⟨rfl, hc⟩ := hr.1 rfl
        clear hr hbad
        rcases hc with ⟨hc1, hc2⟩ | ⟨hc1, hc2⟩
        all_goals
          go_wp2
          go_roundw
          case rel =>
            refine ⟨pos + 1, rfl, rfl, hp, Lib.hid fun j hj hlt => ?_⟩
            by_cases hjp : j = pos
            · subst hjp
              exact HN.out
            · exact HG.out j hj (by omega)
          case measure =>
            simp
            omega
      | false =>
        have hc := hr.2 rfl
        have HB := Lib.hid (hbad rfl)
        clear hr hbad
        have hc' : c < 48 ∨ (57 < c ∧ c < 97) ∨ 122 < c := by omega
        clear hc
        rcases hc' with hc | ⟨hc1, hc2⟩ | hc
        all_goals
          go_wp2
          go_ret
          exact ⟨by rw [HB.out]; rfl, below_alloc (Below.refl _ _) _⟩
    · have hnx : ∀ ty, (Instr.next (.pointer (some ⟨w.heap.size, 0, none⟩)) true ty).run Tryd.prog (w.iter a0 pos) = _ := fun ty => run_next_end w a0 pos ty hp
      have HE := Lib.hid (name_end a0 fun j hj => HG.out j hj (by omega))
      clear HG
      by_cases h1 : 1 ≤ a0.size
      · by_cases h2 : a0.size ≤ 12
        all_goals
          go_wp2
          go_ret
          exact ⟨by rw [HE.out]; simp [h1, h2]; try omega, below_alloc (Below.refl _ _) _⟩
      · go_wp2
        go_ret
        exact ⟨by rw [HE.out]; simp [h1], below_alloc (Below.refl _ _) _⟩
end Go.Proofs.YtmndeoncbocplaaDoor.P
