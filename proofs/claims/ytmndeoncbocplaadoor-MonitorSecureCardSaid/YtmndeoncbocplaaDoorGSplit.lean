/- strings.Split at a separator of one byte, as the program calls it: the pieces are those that the shelf's plain function tells; the library's own text is walked by the kit. Condition: the text is shorter than 4294967281 bytes. -/
import Derived.Shelf.Strings.Split
import Derived.Lib.IndexBytes
import Derived.Test.YtmndeoncbocplaaDoorP0
namespace Go.Proofs
open Go.Shelf
def Tryd.lays146_ren : Go.Shelf.Ren := ⟨fun | 146 => 61 | 221 => 89 | 268 => 114 | 138 => 115 | 143 => 116 | 195 => 137 | 197 => 138 | 218 => 139 | 219 => 140 | 260 => 150 | 217 => 151 | 225 => 152 | 224 => 153 | 267 => 154 | 266 => 160 | 314 => 161 | n => n, fun | 9 => 9 | 31 => 35 | 3 => 3 | 4 => 4 | 0 => 0 | 105 => 147 | 21 => 21 | 5 => 5 | 46 => 126 | 119 => 165 | 139 => 168 | 138 => 167 | 146 => 133 | 51 => 132 | n => n, fun | 1 => 0 | 3 => 1 | 4 => 2 | n => n⟩
theorem Tryd.lays146 : Go.Proofs.Lays.n146 Tryd.prog Tryd.lays146_ren := {
  mixed := by kernel_rfl
  f138 := Tryd.func115.trans (congrArg some (by kernel_rfl))
  f143 := Tryd.func116.trans (congrArg some (by kernel_rfl))
  f146 := Tryd.func61.trans (congrArg some (by kernel_rfl))
  f195 := Tryd.func137.trans (congrArg some (by kernel_rfl))
  f197 := Tryd.func138.trans (congrArg some (by kernel_rfl))
  f217 := Tryd.func151.trans (congrArg some (by kernel_rfl))
  f218 := Tryd.func139.trans (congrArg some (by kernel_rfl))
  f219 := Tryd.func140.trans (congrArg some (by kernel_rfl))
  f221 := Tryd.func89.trans (congrArg some (by kernel_rfl))
  f224 := Tryd.func153.trans (congrArg some (by kernel_rfl))
  f225 := Tryd.func152.trans (congrArg some (by kernel_rfl))
  f260 := Tryd.func150.trans (congrArg some (by kernel_rfl))
  f266 := Tryd.func160.trans (congrArg some (by kernel_rfl))
  f267 := Tryd.func154.trans (congrArg some (by kernel_rfl))
  f268 := Tryd.func114.trans (congrArg some (by kernel_rfl))
  f314 := Tryd.func161.trans (congrArg some (by kernel_rfl))
  t0 := Tryd.underlying0
  a0 := Tryd.isAgg0
  z0 := Tryd.sizeOf0
  v0 := Tryd.zeroValue0
  t3 := Tryd.underlying3
  a3 := Tryd.isAgg3
  z3 := Tryd.sizeOf3
  v3 := Tryd.zeroValue3
  t4 := Tryd.underlying4
  a4 := Tryd.isAgg4
  z4 := Tryd.sizeOf4
  v4 := Tryd.zeroValue4
  t5 := Tryd.underlying5
  a5 := Tryd.isAgg5
  z5 := Tryd.sizeOf5
  v5 := Tryd.zeroValue5
  t9 := Tryd.underlying9
  a9 := Tryd.isAgg9
  z9 := Tryd.sizeOf9
  v9 := Tryd.zeroValue9
  t21 := Tryd.underlying21
  a21 := Tryd.isAgg21
  z21 := Tryd.sizeOf21
  v21 := Tryd.zeroValue21
  t31 := Tryd.underlying35
  a31 := Tryd.isAgg35
  z31 := Tryd.sizeOf35
  v31 := Tryd.zeroValue35
  t46 := Tryd.underlying126
  a46 := Tryd.isAgg126
  z46 := Tryd.sizeOf126
  v46 := Tryd.zeroValue126
  t51 := Tryd.underlying132
  a51 := Tryd.isAgg132
  z51 := Tryd.sizeOf132
  v51 := Tryd.zeroValue132
  t105 := Tryd.underlying147
  a105 := Tryd.isAgg147
  z105 := Tryd.sizeOf147
  v105 := Tryd.zeroValue147
  t119 := Tryd.underlying165
  a119 := Tryd.isAgg165
  z119 := Tryd.sizeOf165
  t138 := Tryd.underlying167
  a138 := Tryd.isAgg167
  z138 := Tryd.sizeOf167
  v138 := Tryd.zeroValue167
  t139 := Tryd.underlying168
  a139 := Tryd.isAgg168
  z139 := Tryd.sizeOf168
  v139 := Tryd.zeroValue168
  t146 := Tryd.underlying133
  a146 := Tryd.isAgg133
  z146 := Tryd.sizeOf133
  v146 := Tryd.zeroValue133
  g1 := by kernel_rfl
  g3 := by kernel_rfl
  g4 := by kernel_rfl }
end Go.Proofs
namespace Go.Proofs.YtmndeoncbocplaaDoor.P
open Go.RowKit Go.Shelf Go.Proofs.YtmndeoncbocplaaDoorW.PrintWords Go.Proofs.YtmndeoncbocplaaDoorW.PrintLast Go.Proofs.YtmndeoncbocplaaDoorW.PrintMore

theorem genSplit_one (s : ByteArray) (c : UInt8) (w : World) (hs : s.size < 4294967281) :
    Calls Tryd.prog 89 #[.string s, .string ⟨#[c]⟩, .int .i64 0, .int .i64 (-1)] w fun e w' =>
      e = .returned (.slice (some ⟨w.heap.size, 0, none⟩) (Lib.splitB ⟨#[c]⟩ 0 (Lib.countB s ⟨#[c]⟩ + 1 - 1) s).length (Lib.countB s ⟨#[c]⟩ + 1)) ∧ w' = w.alloc (.cells (Lib.cellsOf (Lib.splitB ⟨#[c]⟩ 0 (Lib.countB s ⟨#[c]⟩ + 1 - 1) s) (Lib.countB s ⟨#[c]⟩ + 1)) 9) := by
  have L := Tryd.lays146
  have h1 : 1 ≤ (⟨#[c]⟩ : ByteArray).size := Nat.le_refl _
  have hle := Lib.countB_le ⟨#[c]⟩ h1 s.size s (Nat.le_refl _)
  exact Any.strings_genSplit_core { L with } (by kernel_rfl) s ⟨#[c]⟩ 0 (-1) (Lib.countB s ⟨#[c]⟩ + 1) w hs h1 (Nat.zero_le _)
    (fun x cs _ => (Any.strings_Index_one { L with } x c _).mono fun e w' ⟨he, hw⟩ => ⟨by
      rw [he]
      show _ = Ending.returned (Value.int .i64 (Lib.index x.data.toList [c]))
      rw [Lib.index_one], hw⟩)
    ((Any.strings_Count_one { L with } s c w).mono fun e w' ⟨he, hw⟩ => ⟨by
      rw [he]
      show _ = Ending.returned (Value.int .i64 ((Lib.count s.data.toList [c] : Nat) : Int))
      rw [Lib.count_one]
      rfl, hw⟩)
    (by decide) (by decide) (by rw [if_pos (by decide)]; omega)

set_option maxHeartbeats 1000000 in
theorem split_one (s : ByteArray) (c : UInt8) (w : World) (hs : s.size < 4294967281) :
    Calls Tryd.prog 61 #[.string s, .string ⟨#[c]⟩] w fun e w' =>
      e = .returned (.slice (some ⟨w.heap.size, 0, none⟩) (Lib.countB s ⟨#[c]⟩ + 1) (Lib.countB s ⟨#[c]⟩ + 1)) ∧ w' = w.alloc (.cells ((Lib.splitB ⟨#[c]⟩ 0 (Lib.countB s ⟨#[c]⟩) s).map Value.string).toArray 9) := by
  have h1 : 1 ≤ (⟨#[c]⟩ : ByteArray).size := Nat.le_refl _
  have hlen := Lib.splitB_all ⟨#[c]⟩ h1 0 _ s rfl
  have k := genSplit_one s c w hs
  rw [Nat.add_sub_cancel, hlen] at k
  have e2 : Lib.cellsOf (Lib.splitB ⟨#[c]⟩ 0 (Lib.countB s ⟨#[c]⟩) s) (Lib.countB s ⟨#[c]⟩ + 1) = ((Lib.splitB ⟨#[c]⟩ 0 (Lib.countB s ⟨#[c]⟩) s).map Value.string).toArray := by rw [← hlen]; exact Lib.cellsOf_full _
  rw [e2] at k
  go_enter Tryd.func61, Tryd.ntmps61
  go_wp2_with (go_at_call 89; refine k.mono ?_; rintro e w' ⟨rfl, hw⟩; rw [hw])
  go_ret
  exact ⟨rfl, rfl⟩

/-- The pieces of a text at a separator of one byte. -/
def strings_Split.f (a0 a1 : ByteArray) : Option (List ByteArray) := if a1.size = 1 ∧ a0.size < 4294967281 then some (Lib.splitB a1 0 (Lib.countB a0 a1) a0) else none

theorem reps_map {α : Type} (enc : α → Value) (l : List α) : Reps (fun x cs => cs = [enc x]) 1 l (l.map enc) := by
  refine ⟨by simp, fun j p hj => ?_⟩
  obtain ⟨hlt, rfl⟩ := List.getElem?_eq_some_iff.1 hj
  rw [Nat.mul_one, List.drop_eq_getElem_cons (by simpa using hlt)]
  simp
theorem reps_strs (w : World) (b : Nat) (ok : Nat → Prop) (l : List ByteArray) : Reps (Kd.string.M w b ok) 1 l (l.map Value.string) := reps_map Value.string l

theorem strings_Split.calls (a0 a1 : ByteArray) (r : List ByteArray) (w : World) (h : strings_Split.f a0 a1 = some r) :
    Calls Tryd.prog 61 #[.string a0, .string a1] w fun e w' => ∃ v0_ : Value, e = .returned (v0_) ∧ Kd.R Kd.string 9 w' w.heap.size (fun _ => True) v0_ r ∧ Below w.heap.size w w' := by
  unfold strings_Split.f at h
  split at h
  · rename_i hc
    obtain ⟨h1, hs⟩ := hc
    obtain ⟨c, rfl⟩ := Lib.one_byte a1 h1
    obtain rfl := Option.some.inj h
    have hlen := Lib.splitB_all ⟨#[c]⟩ (Nat.le_refl _) 0 _ a0 rfl
    have hle := Lib.countB_le ⟨#[c]⟩ (Nat.le_refl _) a0.size a0 (Nat.le_refl _)
    refine (split_one a0 c w hs).mono fun e w' ⟨he, hw⟩ => ?_
    subst hw
    refine ⟨_, he, ⟨fun _ _ => trivial, ?_⟩, below_alloc (Below.refl _ _) _⟩
    have := OwnRow.lit (R := Kd.string.M (w.alloc (.cells ((Lib.splitB ⟨#[c]⟩ 0 (Lib.countB a0 ⟨#[c]⟩) a0).map Value.string).toArray 9)) w.heap.size (fun k => True ∧ some k ≠ (Value.slice (some ⟨w.heap.size, 0, none⟩) (Lib.countB a0 ⟨#[c]⟩ + 1) (Lib.countB a0 ⟨#[c]⟩ + 1)).ownBlock)) (e := 9) (size := 1) w w.heap.size (reps_strs _ _ _ (Lib.splitB ⟨#[c]⟩ 0 (Lib.countB a0 ⟨#[c]⟩) a0)) (Nat.le_refl _) (by rw [hlen]; omega)
    rw [hlen] at this
    exact this
  · cases h
end Go.Proofs.YtmndeoncbocplaaDoor.P
