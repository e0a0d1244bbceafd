/- strings.LastIndex at a text of one byte, as the program calls it. Condition: the text is shorter than 4611686018427387904 bytes. -/
import Derived.Shelf.Strings.LastIndex
import Derived.Test.YtmndeoncbocplaaDoorP0
namespace Go.Proofs
open Go.Shelf
def Tryd.lays148_ren : Go.Shelf.Ren := ⟨fun | 148 => 63 | 222 => 90 | 223 => 91 | 269 => 117 | n => n, fun | 9 => 9 | 3 => 3 | 4 => 4 | 5 => 5 | 146 => 133 | 51 => 132 | 46 => 126 | n => n, fun | n => n⟩
theorem Tryd.lays148 : Go.Proofs.Lays.n148 Tryd.prog Tryd.lays148_ren := {
  mixed := by kernel_rfl
  f148 := Tryd.func63.trans (congrArg some (by kernel_rfl))
  f222 := Tryd.func90.trans (congrArg some (by kernel_rfl))
  f223 := Tryd.func91.trans (congrArg some (by kernel_rfl))
  f269 := Tryd.func117.trans (congrArg some (by kernel_rfl))
  t3 := Tryd.underlying3
  a3 := Tryd.isAgg3
  z3 := Tryd.sizeOf3
  v3 := Tryd.zeroValue3
  t4 := Tryd.underlying4
  a4 := Tryd.isAgg4
  z4 := Tryd.sizeOf4
  v4 := Tryd.zeroValue4
  t5 := Tryd.underlying5
  a5 := Tryd.isAgg5
  z5 := Tryd.sizeOf5
  v5 := Tryd.zeroValue5
  t9 := Tryd.underlying9
  a9 := Tryd.isAgg9
  z9 := Tryd.sizeOf9
  v9 := Tryd.zeroValue9
  t46 := Tryd.underlying126
  a46 := Tryd.isAgg126
  z46 := Tryd.sizeOf126
  v46 := Tryd.zeroValue126
  t51 := Tryd.underlying132
  a51 := Tryd.isAgg132
  z51 := Tryd.sizeOf132
  v51 := Tryd.zeroValue132
  t146 := Tryd.underlying133
  a146 := Tryd.isAgg133
  z146 := Tryd.sizeOf133
  v146 := Tryd.zeroValue133 }
end Go.Proofs
namespace Go.Proofs.YtmndeoncbocplaaDoor.P
open Go.RowKit Go.Shelf Go.Proofs.YtmndeoncbocplaaDoorW.PrintWords Go.Proofs.YtmndeoncbocplaaDoorW.PrintLast Go.Proofs.YtmndeoncbocplaaDoorW.PrintMore

/-- Where a byte stands last; -1: nowhere. -/
def strings_LastIndex.f (a0 a1 : ByteArray) : Option (Int) := if a1.size = 1 ∧ a0.size < 4611686018427387904 then some (Lib.lastIdx a0 (bt a1 0) a0.size) else none

theorem strings_LastIndex.calls (a0 a1 : ByteArray) (r : Int) (w : World) (h : strings_LastIndex.f a0 a1 = some r) :
    Calls Tryd.prog 63 #[.string a0, .string a1] w fun e w' => e = .returned (.int .i64 r) ∧ Drawn0 w w' := by
  unfold strings_LastIndex.f at h
  split at h
  · rename_i hc
    obtain ⟨h1, hs⟩ := hc
    obtain rfl := Option.some.inj h
    refine (Any.strings_LastIndex_one Tryd.lays148 a0 a1 h1 hs w).mono fun e w' ⟨he, hw⟩ => ?_
    subst hw
    refine ⟨?_, ⟨0, rfl⟩⟩
    rw [he]
    unfold Lib.lastIndexByte bt
    rw [dif_pos (show (0 : Int).toNat < a1.size by rw [h1]; decide)]
    rfl
  · cases h
end Go.Proofs.YtmndeoncbocplaaDoor.P
