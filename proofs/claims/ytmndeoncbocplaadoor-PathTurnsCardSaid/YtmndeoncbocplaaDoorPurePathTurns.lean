/- PathTurns, without the program: a path with a byte that no name has, or with two slashes side by side, is none. No condition beyond the form's own reach. -/
import Derived.Test.YtmndeoncbocplaaDoorLOf
import Derived.Test.YtmndeoncbocplaaDoorP9
namespace Go.Proofs.YtmndeoncbocplaaDoor.Pure
open Go.RowKit Go.Proofs.YtmndeoncbocplaaDoor.P Go.Proofs.YtmndeoncbocplaaDoor.L Go.Proofs.YtmndeoncbocplaaDoorW.PrintWords Go.Proofs.YtmndeoncbocplaaDoorW.PrintLast

/-- Bytes that stand in no name. -/
def badL : List UInt8 := [65, 90, 95, 45, 46, 32, 42, 0, 255]
theorem bad_all : ∀ c ∈ badL, nameByte c = false ∧ c ≠ 47 := by decide

theorem PathTurns : donjonlaw7_PathTurns.Pure := by
  intro l0 a1 a2 h0 _ _ _ _
  unfold maxLen at h0
  obtain ⟨ns, hn, hx, hf⟩ := of_f l0 h0
  have hs24 := render_short hn hx
  have hne := render_ne ns
  refine ⟨200, ?_⟩
  unfold donjonlaw7_PathTurns.f
  rw [known_f, hf 200 (by decide)]
  simp only [Option.bind_some]
  rw [if_pos trivial]
  generalize hr : render ns = r at hs24 hne
  have hz : (⟨r.toArray⟩ : ByteArray).size = r.length := by rw [Lib.size_eq]
  have hpos : 1 ≤ r.length := by cases r with | nil => exact absurd rfl hne | cons _ _ => simp
  rw [hz]
  obtain ⟨k, hk, hk0, hkn⟩ := within_f a1 (r.length : Int) (by omega) (by omega)
  obtain ⟨b, hb, hb0, hb9⟩ := within_f a2 9 (by decide) (by decide)
  rw [hk, hb]
  simp only [Option.bind_some]
  obtain ⟨k, rfl⟩ := Int.eq_ofNat_of_zero_le hk0
  obtain ⟨b, rfl⟩ := Int.eq_ofNat_of_zero_le hb0
  have hkn' : k < r.length := by omega
  have hb9' : b < 9 := by omega
  rw [path_check _ 200 (by decide), show checkL (⟨r.toArray⟩ : ByteArray).data.toList = 0 from by rw [← hr]; exact of_check hn hx]
  simp only [Option.bind_some]
  rw [wrap_succ (i := (b : Int)) (n := 9) (by omega) (by omega) (by omega), wrap_succ (i := (k : Int)) (n := r.length) (by omega) (by omega) (by omega)]
  have eb : ((⟨#[65, 90, 95, 45, 46, 32, 42, 0, 255]⟩ : ByteArray).extract (b : Int).toNat ((b : Int) + 1).toNat).data.toList = [badL[b]'hb9'] := by
    rw [Lib.extract_data, Int.toNat_natCast, show ((b : Int) + 1).toNat = b + 1 from by omega, show b + 1 - b = 1 from by omega]
    show (badL.drop b).take 1 = _
    rw [List.drop_eq_getElem_cons hb9']
    rfl
  have e1 : ((⟨r.toArray⟩ : ByteArray).extract 0 (k : Int).toNat).data.toList = r.take k := by
    rw [Lib.extract_data, Int.toNat_natCast]
    simp
  have e2 : ((⟨r.toArray⟩ : ByteArray).extract ((k : Int) + 1).toNat r.length).data.toList = r.drop (k + 1) := by
    rw [← hz, Lib.extract_to_end, show ((k : Int) + 1).toNat = k + 1 from by omega]
  have z1 : ((⟨r.toArray⟩ : ByteArray).extract 0 (k : Int).toNat).size = k := by rw [Lib.size_eq, e1, List.length_take]; omega
  have z2 : ((⟨r.toArray⟩ : ByteArray).extract ((k : Int) + 1).toNat r.length).size = r.length - (k + 1) := by rw [Lib.size_eq, e2, List.length_drop]
  have zb : ((⟨#[65, 90, 95, 45, 46, 32, 42, 0, 255]⟩ : ByteArray).extract (b : Int).toNat ((b : Int) + 1).toNat).size = 1 := by rw [Lib.size_eq, eb]; rfl
  simp only [append_size, z1, z2, zb]
  rw [if_pos trivial, if_pos (by omega), if_pos (by omega), if_pos (by omega), if_pos (by omega), if_pos (by omega), if_pos (by omega), if_pos (by omega), if_pos (by omega), if_pos (by omega)]
  rw [path_check _ 200 (by decide), append_data, append_data, e1, e2, eb]
  obtain ⟨hbad, h47⟩ := bad_all (badL[b]'hb9') (List.getElem_mem _)
  have hl1 : (r.take k ++ [badL[b]'hb9'] ++ r.drop (k + 1)).length ≤ 78 := by simp only [List.length_append, List.length_take, List.length_drop, List.length_singleton]; omega
  rw [check_bad _ (badL[b]'hb9') h47 hbad (by simp) hl1]
  simp only [Option.bind_some]
  have z47 : (⟨#[47, 47]⟩ : ByteArray).size = 2 := rfl
  rw [if_pos trivial, if_pos (by omega), z47, if_pos (by omega), path_check _ 200 (by decide), append_data, append_data, e1, e2]
  have hl2 : (r.take k ++ 47 :: 47 :: r.drop (k + 1)).length ≤ 78 := by simp only [List.length_append, List.length_take, List.length_drop, List.length_cons]; omega
  have e3 : r.take k ++ (⟨#[47, 47]⟩ : ByteArray).data.toList ++ r.drop (k + 1) = r.take k ++ 47 :: 47 :: r.drop (k + 1) := by simp
  rw [e3, check_two _ _ hl2]
  rfl
end Go.Proofs.YtmndeoncbocplaaDoor.Pure
