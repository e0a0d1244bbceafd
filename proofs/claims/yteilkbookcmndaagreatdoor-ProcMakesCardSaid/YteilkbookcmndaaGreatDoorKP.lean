/- Texts that the claim's law stands on, cut down to what it reaches. -/
import Derived.Test.YteilkbookcmndaaGreatDoorProg
import Derived.Below
import Derived.Deep.Draws
import Derived.Deep.AppendLies
import Derived.Maps.AppendAt
import Derived.OwnWalk
import Derived.Laws.BytesArg
import Derived.Laws.MakeOwn
import Derived.Laws.OwnMore
import Derived.Deep.OwnRows
import Derived.Tactics
import Derived.Lib.ConvBytes
import Derived.Laws.Slices
import Derived.WalkKit
import Derived.KernelRfl
import Derived.RowKit3
import Derived.Deep.LoopGhost
import Derived.Deep.QuietTactic
import Derived.BigQuiet
import Derived.WideLaws
import Derived.Deep.DeepCutAuto
import Derived.Deep.CutBlock
import Derived.Deep.RegionHeld3
import Derived.Laws.Rows
import Derived.Lib.AppendStr
import Derived.ArgAppend
import Derived.Laws.IdiomCopy
import Derived.OrdersHeld
import Derived.Laws.BitsLemmas
import Derived.RowKit
import Derived.Test.YteilkbookcmndaaGreatDoorKW
import Derived.Lib.OthersKept
import Derived.Laws.RangeAny
import Derived.Lib.Hide
import Derived.Test.YteilkbookcmndaaGreatDoorKQ
import Derived.Shelf.Strings.Split
import Derived.Lib.IndexBytes
set_option linter.unusedVariables false
set_option linter.unusedSimpArgs false
section
namespace Go.Proofs.YteilkbookcmndaaGreatDoor.P
open Go.RowKit Go.Proofs.YteilkbookcmndaaGreatDoorW.PrintWords Go.Proofs.YteilkbookcmndaaGreatDoorW.PrintLast Go.Proofs.YteilkbookcmndaaGreatDoorW.PrintMore
attribute [local go_sem] max2_int min2_int max_two min_two max_three min_three -- for this text's walks alone
def errW : Option Int → Value
  | none => .nilIface
  | some c => .iface 0 (.int .i64 c)
theorem errW_none : errW none = .nilIface := rfl
theorem errW_some (c : Int) : errW (some c) = .iface 0 (.int .i64 c) := rfl
theorem info9 : (Tryz.prog.info? 9).map (fun i => (i.zero, i.size, i.bytes)) = some (some (.string ⟨#[]⟩), 1, 16) := by kernel_rfl
end Go.Proofs.YteilkbookcmndaaGreatDoor.P
end
section
namespace Go.Proofs.YteilkbookcmndaaGreatDoor.P
open Go.RowKit Go.Proofs.YteilkbookcmndaaGreatDoorW.PrintWords Go.Proofs.YteilkbookcmndaaGreatDoorW.PrintLast Go.Proofs.YteilkbookcmndaaGreatDoorW.PrintMore Go.Proofs.YteilkbookcmndaaGreatDoor.L
def path_Name.f (a0 : ByteArray) : Option (Bool) := some (nameB a0)
theorem rune_good (s : ByteArray) (pos : Nat) (h : pos < s.size) :
    (nameByte (s[pos]'h) = true → (Utf8.decode s pos).2 = 1 ∧ ((97 ≤ (Utf8.decode s pos).1 ∧ (Utf8.decode s pos).1 ≤ 122) ∨ (48 ≤ (Utf8.decode s pos).1 ∧ (Utf8.decode s pos).1 ≤ 57))) ∧
    (nameByte (s[pos]'h) = false → ¬ ((97 ≤ (Utf8.decode s pos).1 ∧ (Utf8.decode s pos).1 ≤ 122) ∨ (48 ≤ (Utf8.decode s pos).1 ∧ (Utf8.decode s pos).1 ≤ 57))) := by
  by_cases ha : (s[pos]'h).toNat < 128
  · rw [decode_ascii s pos h ha]
    unfold nameByte
    simp only [Bool.or_eq_true, Bool.and_eq_true, decide_eq_true_eq, Bool.or_eq_false_iff, Bool.and_eq_false_iff, decide_eq_false_iff_not]
    constructor
    · intro hh
      refine ⟨trivial, ?_⟩
      omega
    · intro hh
      omega
  · have hd := (decode_high s pos h (by omega)).1
    unfold nameByte
    simp only [Bool.or_eq_true, Bool.and_eq_true, decide_eq_true_eq]
    constructor
    · intro hh
      omega
    · intro _
      omega
theorem name_bad (s : ByteArray) (pos : Nat) (h : pos < s.size) (hb : nameByte (s[pos]'h) = false) : nameB s = false := by
  unfold nameB
  have : s.data.toList.all nameByte = false := by
    rw [List.all_eq_false]
    refine ⟨s[pos]'h, ?_, by simp [hb]⟩
    exact Array.mem_toList_iff.2 (Array.getElem_mem _)
  rw [this]
  rfl
theorem name_end (s : ByteArray) (hg : ∀ j (hj : j < s.size), nameByte (s[j]'hj) = true) : nameB s = (decide (1 ≤ s.size) && decide (s.size ≤ 12)) := by
  unfold nameB
  have : s.data.toList.all nameByte = true := by
    rw [List.all_eq_true]
    intro b hb
    obtain ⟨j, hj, rfl⟩ := List.getElem_of_mem hb
    exact hg j (by simpa using hj)
  rw [this]
  rfl
set_option maxRecDepth 1000000 in
theorem path_Name.calls (a0 : ByteArray) (r : Bool) (w : World) (h : path_Name.f a0 = some r) :
    Calls Tryz.prog 90 #[.string a0] w fun e w' => e = .returned (.bool r) ∧ Below w.heap.size w w' := by
  obtain rfl : nameB a0 = r := Option.some.inj h
  clear h
  go_enter Tryz.func90, Tryz.ntmps90
  go_wp2
  go_loopw [2] (fun b wr => ∃ (pos : Nat), wr = w.iter a0 pos ∧ b = .bool false ∧ pos ≤ a0.size ∧ (Hid (∀ j (hj : j < a0.size), j < pos → nameByte (a0[j]'hj) = true))) (fun _ wr => a0.size - wr.iterPos w.heap.size)
  case atStart => exact ⟨0, rfl, rfl, Nat.zero_le _, Lib.hid fun j _ h => absurd h (Nat.not_lt_zero _)⟩
  case round =>
    obtain ⟨pos, rfl, rfl, hpos, HG⟩ := hrel
    by_cases hp : pos < a0.size
    · have hnx : ∀ ty, (Instr.next (.pointer (some ⟨w.heap.size, 0, none⟩)) true ty).run Tryz.prog (w.iter a0 pos) = _ := fun ty => run_next_any w a0 pos ty hp
      have hr := rune_good a0 pos hp
      have hbad := name_bad a0 pos hp
      generalize hN : nameByte (a0[pos]'hp) = nb at hr hbad
      have HN := Lib.hid hN
      clear hN
      generalize hD : Utf8.decode a0 pos = cd at hr hnx
      obtain ⟨c, wd⟩ := cd
      have HD := Lib.hid hD
      clear hD
      simp only at hr
      cases nb with
      | true =>
        obtain ⟨rfl, hc⟩ := hr.1 rfl
        clear hr hbad
        rcases hc with ⟨hc1, hc2⟩ | ⟨hc1, hc2⟩
        all_goals
          go_wp2
          go_roundw
          case rel =>
            refine ⟨pos + 1, rfl, rfl, hp, Lib.hid fun j hj hlt => ?_⟩
            by_cases hjp : j = pos
            · subst hjp
              exact HN.out
            · exact HG.out j hj (by omega)
          case measure =>
            simp
            omega
      | false =>
        have hc := hr.2 rfl
        have HB := Lib.hid (hbad rfl)
        clear hr hbad
        have hc' : c < 48 ∨ (57 < c ∧ c < 97) ∨ 122 < c := by omega
        clear hc
        rcases hc' with hc | ⟨hc1, hc2⟩ | hc
        all_goals
          go_wp2
          go_ret
          exact ⟨by rw [HB.out]; rfl, below_alloc (Below.refl _ _) _⟩
    · have hnx : ∀ ty, (Instr.next (.pointer (some ⟨w.heap.size, 0, none⟩)) true ty).run Tryz.prog (w.iter a0 pos) = _ := fun ty => run_next_end w a0 pos ty hp
      have HE := Lib.hid (name_end a0 fun j hj => HG.out j hj (by omega))
      clear HG
      by_cases h1 : 1 ≤ a0.size
      · by_cases h2 : a0.size ≤ 12
        all_goals
          go_wp2
          go_ret
          exact ⟨by rw [HE.out]; simp [h1, h2]; try omega, below_alloc (Below.refl _ _) _⟩
      · go_wp2
        go_ret
        exact ⟨by rw [HE.out]; simp [h1], below_alloc (Below.refl _ _) _⟩
end Go.Proofs.YteilkbookcmndaaGreatDoor.P
end
section
namespace Go.Proofs
open Go.Shelf
def Tryz.lays146_ren : Go.Shelf.Ren := ⟨fun | 146 => 89 | 221 => 115 | 268 => 118 | 138 => 119 | 143 => 120 | 195 => 121 | 197 => 122 | 218 => 123 | 219 => 124 | 260 => 125 | 217 => 126 | 225 => 127 | 224 => 128 | 267 => 129 | 266 => 130 | 314 => 131 | n => n, fun | 9 => 9 | 31 => 39 | 3 => 3 | 4 => 4 | 0 => 0 | 105 => 189 | 21 => 21 | 5 => 5 | 46 => 141 | 119 => 193 | 139 => 196 | 138 => 195 | 146 => 197 | 51 => 142 | n => n, fun | 1 => 1 | 3 => 2 | 4 => 3 | n => n⟩
theorem Tryz.lays146 : Go.Proofs.Lays.n146 Tryz.prog Tryz.lays146_ren := {
  mixed := by kernel_rfl
  f138 := Tryz.func119.trans (congrArg some (by kernel_rfl))
  f143 := Tryz.func120.trans (congrArg some (by kernel_rfl))
  f146 := Tryz.func89.trans (congrArg some (by kernel_rfl))
  f195 := Tryz.func121.trans (congrArg some (by kernel_rfl))
  f197 := Tryz.func122.trans (congrArg some (by kernel_rfl))
  f217 := Tryz.func126.trans (congrArg some (by kernel_rfl))
  f218 := Tryz.func123.trans (congrArg some (by kernel_rfl))
  f219 := Tryz.func124.trans (congrArg some (by kernel_rfl))
  f221 := Tryz.func115.trans (congrArg some (by kernel_rfl))
  f224 := Tryz.func128.trans (congrArg some (by kernel_rfl))
  f225 := Tryz.func127.trans (congrArg some (by kernel_rfl))
  f260 := Tryz.func125.trans (congrArg some (by kernel_rfl))
  f266 := Tryz.func130.trans (congrArg some (by kernel_rfl))
  f267 := Tryz.func129.trans (congrArg some (by kernel_rfl))
  f268 := Tryz.func118.trans (congrArg some (by kernel_rfl))
  f314 := Tryz.func131.trans (congrArg some (by kernel_rfl))
  t0 := Tryz.underlying0
  a0 := Tryz.isAgg0
  z0 := Tryz.sizeOf0
  v0 := Tryz.zeroValue0
  t3 := Tryz.underlying3
  a3 := Tryz.isAgg3
  z3 := Tryz.sizeOf3
  v3 := Tryz.zeroValue3
  t4 := Tryz.underlying4
  a4 := Tryz.isAgg4
  z4 := Tryz.sizeOf4
  v4 := Tryz.zeroValue4
  t5 := Tryz.underlying5
  a5 := Tryz.isAgg5
  z5 := Tryz.sizeOf5
  v5 := Tryz.zeroValue5
  t9 := Tryz.underlying9
  a9 := Tryz.isAgg9
  z9 := Tryz.sizeOf9
  v9 := Tryz.zeroValue9
  t21 := Tryz.underlying21
  a21 := Tryz.isAgg21
  z21 := Tryz.sizeOf21
  v21 := Tryz.zeroValue21
  t31 := Tryz.underlying39
  a31 := Tryz.isAgg39
  z31 := Tryz.sizeOf39
  v31 := Tryz.zeroValue39
  t46 := Tryz.underlying141
  a46 := Tryz.isAgg141
  z46 := Tryz.sizeOf141
  v46 := Tryz.zeroValue141
  t51 := Tryz.underlying142
  a51 := Tryz.isAgg142
  z51 := Tryz.sizeOf142
  v51 := Tryz.zeroValue142
  t105 := Tryz.underlying189
  a105 := Tryz.isAgg189
  z105 := Tryz.sizeOf189
  v105 := Tryz.zeroValue189
  t119 := Tryz.underlying193
  a119 := Tryz.isAgg193
  z119 := Tryz.sizeOf193
  t138 := Tryz.underlying195
  a138 := Tryz.isAgg195
  z138 := Tryz.sizeOf195
  v138 := Tryz.zeroValue195
  t139 := Tryz.underlying196
  a139 := Tryz.isAgg196
  z139 := Tryz.sizeOf196
  v139 := Tryz.zeroValue196
  t146 := Tryz.underlying197
  a146 := Tryz.isAgg197
  z146 := Tryz.sizeOf197
  v146 := Tryz.zeroValue197
  g1 := by kernel_rfl
  g3 := by kernel_rfl
  g4 := by kernel_rfl }
end Go.Proofs
namespace Go.Proofs.YteilkbookcmndaaGreatDoor.P
open Go.RowKit Go.Shelf Go.Proofs.YteilkbookcmndaaGreatDoorW.PrintWords Go.Proofs.YteilkbookcmndaaGreatDoorW.PrintLast Go.Proofs.YteilkbookcmndaaGreatDoorW.PrintMore
theorem genSplit_one (s : ByteArray) (c : UInt8) (w : World) (hs : s.size < 4294967281) :
    Calls Tryz.prog 115 #[.string s, .string ⟨#[c]⟩, .int .i64 0, .int .i64 (-1)] w fun e w' =>
      e = .returned (.slice (some ⟨w.heap.size, 0, none⟩) (Lib.splitB ⟨#[c]⟩ 0 (Lib.countB s ⟨#[c]⟩ + 1 - 1) s).length (Lib.countB s ⟨#[c]⟩ + 1)) ∧ w' = w.alloc (.cells (Lib.cellsOf (Lib.splitB ⟨#[c]⟩ 0 (Lib.countB s ⟨#[c]⟩ + 1 - 1) s) (Lib.countB s ⟨#[c]⟩ + 1)) 9) := by
  have L := Tryz.lays146
  have h1 : 1 ≤ (⟨#[c]⟩ : ByteArray).size := Nat.le_refl _
  have hle := Lib.countB_le ⟨#[c]⟩ h1 s.size s (Nat.le_refl _)
  exact Any.strings_genSplit_core { L with } (by kernel_rfl) s ⟨#[c]⟩ 0 (-1) (Lib.countB s ⟨#[c]⟩ + 1) w hs h1 (Nat.zero_le _)
    (fun x cs _ => (Any.strings_Index_one { L with } x c _).mono fun e w' ⟨he, hw⟩ => ⟨by
      rw [he]
      show _ = Ending.returned (Value.int .i64 (Lib.index x.data.toList [c]))
      rw [Lib.index_one], hw⟩)
    ((Any.strings_Count_one { L with } s c w).mono fun e w' ⟨he, hw⟩ => ⟨by
      rw [he]
      show _ = Ending.returned (Value.int .i64 ((Lib.count s.data.toList [c] : Nat) : Int))
      rw [Lib.count_one]
      rfl, hw⟩)
    (by decide) (by decide) (by rw [if_pos (by decide)]; omega)
set_option maxHeartbeats 1000000 in
theorem split_one (s : ByteArray) (c : UInt8) (w : World) (hs : s.size < 4294967281) :
    Calls Tryz.prog 89 #[.string s, .string ⟨#[c]⟩] w fun e w' =>
      e = .returned (.slice (some ⟨w.heap.size, 0, none⟩) (Lib.countB s ⟨#[c]⟩ + 1) (Lib.countB s ⟨#[c]⟩ + 1)) ∧ w' = w.alloc (.cells ((Lib.splitB ⟨#[c]⟩ 0 (Lib.countB s ⟨#[c]⟩) s).map Value.string).toArray 9) := by
  have h1 : 1 ≤ (⟨#[c]⟩ : ByteArray).size := Nat.le_refl _
  have hlen := Lib.splitB_all ⟨#[c]⟩ h1 0 _ s rfl
  have k := genSplit_one s c w hs
  rw [Nat.add_sub_cancel, hlen] at k
  have e2 : Lib.cellsOf (Lib.splitB ⟨#[c]⟩ 0 (Lib.countB s ⟨#[c]⟩) s) (Lib.countB s ⟨#[c]⟩ + 1) = ((Lib.splitB ⟨#[c]⟩ 0 (Lib.countB s ⟨#[c]⟩) s).map Value.string).toArray := by rw [← hlen]; exact Lib.cellsOf_full _
  rw [e2] at k
  go_enter Tryz.func89, Tryz.ntmps89
  go_wp2_with (go_at_call 115; refine k.mono ?_; rintro e w' ⟨rfl, hw⟩; rw [hw])
  go_ret
  exact ⟨rfl, rfl⟩
def strings_Split.f (a0 a1 : ByteArray) : Option (List ByteArray) := if a1.size = 1 ∧ a0.size < 4294967281 then some (Lib.splitB a1 0 (Lib.countB a0 a1) a0) else none
theorem reps_map {α : Type} (enc : α → Value) (l : List α) : Reps (fun x cs => cs = [enc x]) 1 l (l.map enc) := by
  refine ⟨by simp, fun j p hj => ?_⟩
  obtain ⟨hlt, rfl⟩ := List.getElem?_eq_some_iff.1 hj
  rw [Nat.mul_one, List.drop_eq_getElem_cons (by simpa using hlt)]
  simp
theorem reps_strs (w : World) (b : Nat) (ok : Nat → Prop) (l : List ByteArray) : Reps (Kd.string.M w b ok) 1 l (l.map Value.string) := reps_map Value.string l
theorem strings_Split.calls (a0 a1 : ByteArray) (r : List ByteArray) (w : World) (h : strings_Split.f a0 a1 = some r) :
    Calls Tryz.prog 89 #[.string a0, .string a1] w fun e w' => ∃ v0_ : Value, e = .returned (v0_) ∧ Kd.R Kd.string 9 w' w.heap.size (fun _ => True) v0_ r ∧ Below w.heap.size w w' := by
  unfold strings_Split.f at h
  split at h
  · rename_i hc
    obtain ⟨h1, hs⟩ := hc
    obtain ⟨c, rfl⟩ := Lib.one_byte a1 h1
    obtain rfl := Option.some.inj h
    have hlen := Lib.splitB_all ⟨#[c]⟩ (Nat.le_refl _) 0 _ a0 rfl
    have hle := Lib.countB_le ⟨#[c]⟩ (Nat.le_refl _) a0.size a0 (Nat.le_refl _)
    refine (split_one a0 c w hs).mono fun e w' ⟨he, hw⟩ => ?_
    subst hw
    refine ⟨_, he, ⟨fun _ _ => trivial, ?_⟩, below_alloc (Below.refl _ _) _⟩
    have := OwnRow.lit (R := Kd.string.M (w.alloc (.cells ((Lib.splitB ⟨#[c]⟩ 0 (Lib.countB a0 ⟨#[c]⟩) a0).map Value.string).toArray 9)) w.heap.size (fun k => True ∧ some k ≠ (Value.slice (some ⟨w.heap.size, 0, none⟩) (Lib.countB a0 ⟨#[c]⟩ + 1) (Lib.countB a0 ⟨#[c]⟩ + 1)).ownBlock)) (e := 9) (size := 1) w w.heap.size (reps_strs _ _ _ (Lib.splitB ⟨#[c]⟩ 0 (Lib.countB a0 ⟨#[c]⟩) a0)) (Nat.le_refl _) (by rw [hlen]; omega)
    rw [hlen] at this
    exact this
  · cases h
end Go.Proofs.YteilkbookcmndaaGreatDoor.P
end
section
namespace Go.Proofs.YteilkbookcmndaaGreatDoor.P
open Go.RowKit Go.Proofs.YteilkbookcmndaaGreatDoorW.PrintWords Go.Proofs.YteilkbookcmndaaGreatDoorW.PrintLast Go.Proofs.YteilkbookcmndaaGreatDoorW.PrintMore
attribute [local go_sem] max2_int min2_int max_two min_two max_three min_three -- for this text's walks alone
def donjonref7_Name.l0 : Nat → ByteArray → Int → Option (Bool)
  | 0, _, _ => none
  | k + 1, x0, x3 => if x3 < (x0.size : Int) then (if 0 ≤ x3 then (if (bt x0 x3) < 97 then (if (bt x0 x3) < 48 then (some false) else (if (bt x0 x3) > 57 then (some false) else (donjonref7_Name.l0 k x0 (wrap64 (x3 + 1))))) else (if (bt x0 x3) > 122 then (if (bt x0 x3) < 48 then (some false) else (if (bt x0 x3) > 57 then (some false) else (donjonref7_Name.l0 k x0 (wrap64 (x3 + 1))))) else (donjonref7_Name.l0 k x0 (wrap64 (x3 + 1))))) else (none)) else (if (x0.size : Int) ≥ 1 then (some (decide ((x0.size : Int) ≤ 12))) else (some false))
def donjonref7_Name.f (k : Nat) (a0 : ByteArray) : Option (Bool) := donjonref7_Name.l0 k a0 0
set_option maxHeartbeats 8000000 in
set_option maxRecDepth 100000 in
theorem donjonref7_Name.calls (k : Nat) (a0 : ByteArray) (r : Bool) (w : World) (h : donjonref7_Name.f k a0 = some r) :
    Calls Tryz.prog 94 #[.string a0] w fun e w' => e = .returned (.bool r) ∧ Drawn0 w w' := by
  have H : (donjonref7_Name.l0 k a0 0) = some r := h
  clear h
  have H' := Aside0.mk H
  clear H
  go_enter Tryz.func94, Tryz.ntmps94
  go_wp2
  go_loopg [3] k (fun kq v3 w' => ∃ (x3_1 : Int), v3 = .int .i64 x3_1 ∧ Aside0 (donjonref7_Name.l0 kq a0 x3_1 = some r) ∧ Aside0 (kq ≤ k) ∧ Drawn0 w w')
  case atStart => exact ⟨(0), (by first | rfl | (simp; done) | (simp [*]; done)), H', ⟨Nat.le_refl _⟩, by repeat (first | exact Drawn0.refl _ | apply Drawn0.step)⟩
  case round =>
    clear H'
    obtain ⟨x3_1, rfl, HA, HK1, ⟨m1, rfl⟩⟩ := hrel
    cases gk with
    | zero => exact absurd HA.out (by simp [donjonref7_Name.l0])
    | succ k1 =>
      have H := HA.out
      clear HA
      simp only [donjonref7_Name.l0] at H
      by_cases c2 : x3_1 < (a0.size : Int)
      · rw [if_pos c2] at H
        have c2b0 : decide (x3_1 < (a0.size : Int)) = true := decide_eq_true c2
        clear c2
        by_cases c3 : 0 ≤ x3_1
        · rw [if_pos c3] at H
          have c3b0 : decide (0 ≤ x3_1) = true := decide_eq_true c3
          clear c3
          by_cases c5 : (bt a0 x3_1) < 97
          · rw [if_pos c5] at H
            have c5b0 : decide ((bt a0 x3_1) < 97) = true := decide_eq_true c5
            clear c5
            by_cases c7 : (bt a0 x3_1) < 48
            · rw [if_pos c7] at H
              have c7b0 : decide ((bt a0 x3_1) < 48) = true := decide_eq_true c7
              clear c7
              obtain rfl := Option.some.inj H
              have p4 : 0 ≤ (x3_1 : Int) := of_decide_eq_true (by first | (with_reducible assumption) | assumption)
              have q4 : x3_1 < (a0.size : Int) := of_decide_eq_true (by first | (with_reducible assumption) | assumption)
              have hx4 := bt_at a0 x3_1
              replace p4 := eq_true p4
              replace q4 := eq_true q4
              have p6 : 0 ≤ (x3_1 : Int) := of_decide_eq_true (by first | (with_reducible assumption) | assumption)
              have q6 : x3_1 < (a0.size : Int) := of_decide_eq_true (by first | (with_reducible assumption) | assumption)
              have hx6 := bt_at a0 x3_1
              replace p6 := eq_true p6
              replace q6 := eq_true q6
              go_wp2
              go_ret
              exact ⟨by first | rfl | (simp; done) | (simp [*]; done), by repeat (first | exact Drawn0.refl _ | apply Drawn0.step)⟩
            · rw [if_neg c7] at H
              have c7b0 : decide ((bt a0 x3_1) < 48) = false := decide_eq_false c7
              clear c7
              by_cases c9 : (bt a0 x3_1) > 57
              · rw [if_pos c9] at H
                have c9b0 : decide (57 < (bt a0 x3_1)) = true := decide_eq_true c9
                clear c9
                obtain rfl := Option.some.inj H
                have p4 : 0 ≤ (x3_1 : Int) := of_decide_eq_true (by first | (with_reducible assumption) | assumption)
                have q4 : x3_1 < (a0.size : Int) := of_decide_eq_true (by first | (with_reducible assumption) | assumption)
                have hx4 := bt_at a0 x3_1
                replace p4 := eq_true p4
                replace q4 := eq_true q4
                have p6 : 0 ≤ (x3_1 : Int) := of_decide_eq_true (by first | (with_reducible assumption) | assumption)
                have q6 : x3_1 < (a0.size : Int) := of_decide_eq_true (by first | (with_reducible assumption) | assumption)
                have hx6 := bt_at a0 x3_1
                replace p6 := eq_true p6
                replace q6 := eq_true q6
                have p8 : 0 ≤ (x3_1 : Int) := of_decide_eq_true (by first | (with_reducible assumption) | assumption)
                have q8 : x3_1 < (a0.size : Int) := of_decide_eq_true (by first | (with_reducible assumption) | assumption)
                have hx8 := bt_at a0 x3_1
                replace p8 := eq_true p8
                replace q8 := eq_true q8
                go_wp2
                go_ret
                exact ⟨by first | rfl | (simp; done) | (simp [*]; done), by repeat (first | exact Drawn0.refl _ | apply Drawn0.step)⟩
              · rw [if_neg c9] at H
                have c9b0 : decide (57 < (bt a0 x3_1)) = false := decide_eq_false c9
                clear c9
                have H' := Aside0.mk H
                clear H
                have p4 : 0 ≤ (x3_1 : Int) := of_decide_eq_true (by first | (with_reducible assumption) | assumption)
                have q4 : x3_1 < (a0.size : Int) := of_decide_eq_true (by first | (with_reducible assumption) | assumption)
                have hx4 := bt_at a0 x3_1
                replace p4 := eq_true p4
                replace q4 := eq_true q4
                have p6 : 0 ≤ (x3_1 : Int) := of_decide_eq_true (by first | (with_reducible assumption) | assumption)
                have q6 : x3_1 < (a0.size : Int) := of_decide_eq_true (by first | (with_reducible assumption) | assumption)
                have hx6 := bt_at a0 x3_1
                replace p6 := eq_true p6
                replace q6 := eq_true q6
                have p8 : 0 ≤ (x3_1 : Int) := of_decide_eq_true (by first | (with_reducible assumption) | assumption)
                have q8 : x3_1 < (a0.size : Int) := of_decide_eq_true (by first | (with_reducible assumption) | assumption)
                have hx8 := bt_at a0 x3_1
                replace p8 := eq_true p8
                replace q8 := eq_true q8
                go_wp2
                go_roundg k1
                case measure => have := HK1.out; omega
                case rel => exact ⟨(wrap64 (x3_1 + 1)), (by first | rfl | (simp; done) | (simp [*]; done)), H', ⟨by have := HK1.out; omega⟩, by repeat (first | exact Drawn0.refl _ | apply Drawn0.step)⟩
          · rw [if_neg c5] at H
            have c5b0 : decide ((bt a0 x3_1) < 97) = false := decide_eq_false c5
            clear c5
            by_cases c11 : (bt a0 x3_1) > 122
            · rw [if_pos c11] at H
              have c11b0 : decide (122 < (bt a0 x3_1)) = true := decide_eq_true c11
              clear c11
              by_cases c13 : (bt a0 x3_1) < 48
              · rw [if_pos c13] at H
                have c13b0 : decide ((bt a0 x3_1) < 48) = true := decide_eq_true c13
                clear c13
                obtain rfl := Option.some.inj H
                have p4 : 0 ≤ (x3_1 : Int) := of_decide_eq_true (by first | (with_reducible assumption) | assumption)
                have q4 : x3_1 < (a0.size : Int) := of_decide_eq_true (by first | (with_reducible assumption) | assumption)
                have hx4 := bt_at a0 x3_1
                replace p4 := eq_true p4
                replace q4 := eq_true q4
                have p10 : 0 ≤ (x3_1 : Int) := of_decide_eq_true (by first | (with_reducible assumption) | assumption)
                have q10 : x3_1 < (a0.size : Int) := of_decide_eq_true (by first | (with_reducible assumption) | assumption)
                have hx10 := bt_at a0 x3_1
                replace p10 := eq_true p10
                replace q10 := eq_true q10
                have p12 : 0 ≤ (x3_1 : Int) := of_decide_eq_true (by first | (with_reducible assumption) | assumption)
                have q12 : x3_1 < (a0.size : Int) := of_decide_eq_true (by first | (with_reducible assumption) | assumption)
                have hx12 := bt_at a0 x3_1
                replace p12 := eq_true p12
                replace q12 := eq_true q12
                go_wp2
                go_ret
                exact ⟨by first | rfl | (simp; done) | (simp [*]; done), by repeat (first | exact Drawn0.refl _ | apply Drawn0.step)⟩
              · rw [if_neg c13] at H
                have c13b0 : decide ((bt a0 x3_1) < 48) = false := decide_eq_false c13
                clear c13
                by_cases c15 : (bt a0 x3_1) > 57
                · rw [if_pos c15] at H
                  have c15b0 : decide (57 < (bt a0 x3_1)) = true := decide_eq_true c15
                  clear c15
                  obtain rfl := Option.some.inj H
                  have p4 : 0 ≤ (x3_1 : Int) := of_decide_eq_true (by first | (with_reducible assumption) | assumption)
                  have q4 : x3_1 < (a0.size : Int) := of_decide_eq_true (by first | (with_reducible assumption) | assumption)
                  have hx4 := bt_at a0 x3_1
                  replace p4 := eq_true p4
                  replace q4 := eq_true q4
                  have p10 : 0 ≤ (x3_1 : Int) := of_decide_eq_true (by first | (with_reducible assumption) | assumption)
                  have q10 : x3_1 < (a0.size : Int) := of_decide_eq_true (by first | (with_reducible assumption) | assumption)
                  have hx10 := bt_at a0 x3_1
                  replace p10 := eq_true p10
                  replace q10 := eq_true q10
                  have p12 : 0 ≤ (x3_1 : Int) := of_decide_eq_true (by first | (with_reducible assumption) | assumption)
                  have q12 : x3_1 < (a0.size : Int) := of_decide_eq_true (by first | (with_reducible assumption) | assumption)
                  have hx12 := bt_at a0 x3_1
                  replace p12 := eq_true p12
                  replace q12 := eq_true q12
                  have p14 : 0 ≤ (x3_1 : Int) := of_decide_eq_true (by first | (with_reducible assumption) | assumption)
                  have q14 : x3_1 < (a0.size : Int) := of_decide_eq_true (by first | (with_reducible assumption) | assumption)
                  have hx14 := bt_at a0 x3_1
                  replace p14 := eq_true p14
                  replace q14 := eq_true q14
                  go_wp2
                  go_ret
                  exact ⟨by first | rfl | (simp; done) | (simp [*]; done), by repeat (first | exact Drawn0.refl _ | apply Drawn0.step)⟩
                · rw [if_neg c15] at H
                  have c15b0 : decide (57 < (bt a0 x3_1)) = false := decide_eq_false c15
                  clear c15
                  have H' := Aside0.mk H
                  clear H
                  have p4 : 0 ≤ (x3_1 : Int) := of_decide_eq_true (by first | (with_reducible assumption) | assumption)
                  have q4 : x3_1 < (a0.size : Int) := of_decide_eq_true (by first | (with_reducible assumption) | assumption)
                  have hx4 := bt_at a0 x3_1
                  replace p4 := eq_true p4
                  replace q4 := eq_true q4
                  have p10 : 0 ≤ (x3_1 : Int) := of_decide_eq_true (by first | (with_reducible assumption) | assumption)
                  have q10 : x3_1 < (a0.size : Int) := of_decide_eq_true (by first | (with_reducible assumption) | assumption)
                  have hx10 := bt_at a0 x3_1
                  replace p10 := eq_true p10
                  replace q10 := eq_true q10
                  have p12 : 0 ≤ (x3_1 : Int) := of_decide_eq_true (by first | (with_reducible assumption) | assumption)
                  have q12 : x3_1 < (a0.size : Int) := of_decide_eq_true (by first | (with_reducible assumption) | assumption)
                  have hx12 := bt_at a0 x3_1
                  replace p12 := eq_true p12
                  replace q12 := eq_true q12
                  have p14 : 0 ≤ (x3_1 : Int) := of_decide_eq_true (by first | (with_reducible assumption) | assumption)
                  have q14 : x3_1 < (a0.size : Int) := of_decide_eq_true (by first | (with_reducible assumption) | assumption)
                  have hx14 := bt_at a0 x3_1
                  replace p14 := eq_true p14
                  replace q14 := eq_true q14
                  go_wp2
                  go_roundg k1
                  case measure => have := HK1.out; omega
                  case rel => exact ⟨(wrap64 (x3_1 + 1)), (by first | rfl | (simp; done) | (simp [*]; done)), H', ⟨by have := HK1.out; omega⟩, by repeat (first | exact Drawn0.refl _ | apply Drawn0.step)⟩
            · rw [if_neg c11] at H
              have c11b0 : decide (122 < (bt a0 x3_1)) = false := decide_eq_false c11
              clear c11
              have H' := Aside0.mk H
              clear H
              have p4 : 0 ≤ (x3_1 : Int) := of_decide_eq_true (by first | (with_reducible assumption) | assumption)
              have q4 : x3_1 < (a0.size : Int) := of_decide_eq_true (by first | (with_reducible assumption) | assumption)
              have hx4 := bt_at a0 x3_1
              replace p4 := eq_true p4
              replace q4 := eq_true q4
              have p10 : 0 ≤ (x3_1 : Int) := of_decide_eq_true (by first | (with_reducible assumption) | assumption)
              have q10 : x3_1 < (a0.size : Int) := of_decide_eq_true (by first | (with_reducible assumption) | assumption)
              have hx10 := bt_at a0 x3_1
              replace p10 := eq_true p10
              replace q10 := eq_true q10
              go_wp2
              go_roundg k1
              case measure => have := HK1.out; omega
              case rel => exact ⟨(wrap64 (x3_1 + 1)), (by first | rfl | (simp; done) | (simp [*]; done)), H', ⟨by have := HK1.out; omega⟩, by repeat (first | exact Drawn0.refl _ | apply Drawn0.step)⟩
        · rw [if_neg c3] at H
          exact absurd H (by simp)
      · rw [if_neg c2] at H
        have c2b0 : decide (x3_1 < (a0.size : Int)) = false := decide_eq_false c2
        clear c2
        by_cases c16 : (a0.size : Int) ≥ 1
        · rw [if_pos c16] at H
          have c16b0 : decide (1 ≤ (a0.size : Int)) = true := decide_eq_true c16
          have c16b1 : decide (1 ≤ a0.size) = true := decide_eq_true (by omega)
          clear c16
          obtain rfl := Option.some.inj H
          go_wp2
          go_ret
          exact ⟨by first | rfl | (simp; done) | (simp [*]; done), by repeat (first | exact Drawn0.refl _ | apply Drawn0.step)⟩
        · rw [if_neg c16] at H
          have c16b0 : decide (1 ≤ (a0.size : Int)) = false := decide_eq_false c16
          have c16b1 : decide (1 ≤ a0.size) = false := decide_eq_false (by omega)
          clear c16
          obtain rfl := Option.some.inj H
          go_wp2
          go_ret
          exact ⟨by first | rfl | (simp; done) | (simp [*]; done), by repeat (first | exact Drawn0.refl _ | apply Drawn0.step)⟩
end Go.Proofs.YteilkbookcmndaaGreatDoor.P
end
section
namespace Go.Proofs.YteilkbookcmndaaGreatDoor.P
open Go.RowKit Go.Proofs.YteilkbookcmndaaGreatDoorW.PrintWords Go.Proofs.YteilkbookcmndaaGreatDoorW.PrintLast Go.Proofs.YteilkbookcmndaaGreatDoorW.PrintMore
attribute [local go_sem] max2_int min2_int max_two min_two max_three min_three -- for this text's walks alone
mutual
def path_Check.j0 : Nat → List ByteArray → Bool → Option (Int)
  | 0, _, _ => none
  | k + 1, x3, x26 => if x26 = true then (some 1) else (if 1 ≤ (x3.length : Int) then ((some (x3.drop 1 : List ByteArray)).bind fun y111 => (path_Check.l0 k y111 (y111.length : Int) 0)) else (none))
def path_Check.l0 : Nat → List ByteArray → Int → Int → Option (Int)
  | 0, _, _, _ => none
  | k + 1, x28, x29, x30 => if x30 < x29 then (if 0 ≤ x30 then (if x30 < (x28.length : Int) then ((path_Name.f (rdOf ByteArray.empty x28 x30)).bind fun t116 => (if t116 = true then (path_Check.l0 k x28 x29 (wrap64 (x30 + 1))) else (some 1))) else (none)) else (none)) else (some 0)
end
def path_Check.f (k : Nat) (a0 : ByteArray) : Option (Int) := if (a0.size : Int) > 78 then (some 5) else (if a0.toList = ([47] : List UInt8) then (some 0) else ((strings_Split.f a0 (⟨#[47]⟩ : ByteArray)).bind fun t107 => (if 0 < (t107.length : Int) then (if (rdOf ByteArray.empty t107 0).toList = ([] : List UInt8) then (if (t107.length : Int) < 2 then (path_Check.j0 k t107 true) else (path_Check.j0 k t107 (decide ((t107.length : Int) > 7)))) else (path_Check.j0 k t107 true)) else (none))))
set_option maxHeartbeats 8000000 in
set_option maxRecDepth 100000 in
theorem path_Check.calls (k : Nat) (a0 : ByteArray) (r : Int) (w : World) (h : path_Check.f k a0 = some r) :
    Calls Tryz.prog 55 #[.string a0] w fun e w' => e = .returned (.int .i64 r) ∧ Below w.heap.size w w' := by
  have HB := Aside0.mk (Below.refl w.heap.size w)
  have H : (if (a0.size : Int) > 78 then (some 5) else (if a0.toList = ([47] : List UInt8) then (some 0) else ((strings_Split.f a0 (⟨#[47]⟩ : ByteArray)).bind fun t107 => (if 0 < (t107.length : Int) then (if (rdOf ByteArray.empty t107 0).toList = ([] : List UInt8) then (if (t107.length : Int) < 2 then (path_Check.j0 k t107 true) else (path_Check.j0 k t107 (decide ((t107.length : Int) > 7)))) else (path_Check.j0 k t107 true)) else (none))))) = some r := h
  clear h
  by_cases c2 : (a0.size : Int) > 78
  · rw [if_pos c2] at H
    have c2b0 : decide (78 < (a0.size : Int)) = true := decide_eq_true c2
    have c2b1 : decide (78 < a0.size) = true := decide_eq_true (by omega)
    clear c2
    obtain rfl := Option.some.inj H
    go_enter Tryz.func55, Tryz.ntmps55
    go_wp2
    go_ret
    exact ⟨by first | rfl | (simp [errW_none, errW_some] <;> rfl) | (simp [*, errW_none, errW_some] <;> rfl), by repeat (first | (with_reducible first | exact HB.out | apply below_alloc | apply pw_below_drewN | apply below_drew1) | exact HB.out)⟩
  · rw [if_neg c2] at H
    have c2b0 : decide (78 < (a0.size : Int)) = false := decide_eq_false c2
    have c2b1 : decide (78 < a0.size) = false := decide_eq_false (by omega)
    clear c2
    by_cases c3 : a0.toList = ([47] : List UInt8)
    · rw [if_pos c3] at H
      have c3b0 : (a0.toList == ([47] : List UInt8)) = true := beq_iff_eq.mpr c3
      have c3b1 : (a0.toList != ([47] : List UInt8)) = false := bne_eq_false_iff_eq.mpr c3
      clear c3
      obtain rfl := Option.some.inj H
      go_enter Tryz.func55, Tryz.ntmps55
      go_wp2
      go_ret
      exact ⟨by first | rfl | (simp [errW_none, errW_some] <;> rfl) | (simp [*, errW_none, errW_some] <;> rfl), by repeat (first | (with_reducible first | exact HB.out | apply below_alloc | apply pw_below_drewN | apply below_drew1) | exact HB.out)⟩
    · rw [if_neg c3] at H
      have c3b0 : (a0.toList == ([47] : List UInt8)) = false := beq_eq_false_iff_ne.mpr c3
      have c3b1 : (a0.toList != ([47] : List UInt8)) = true := bne_iff_ne.mpr c3
      replace H := Option.bind_eq_some_iff.mp H
      obtain ⟨t107, A40, H⟩ := H
      replace H : (if 0 < (t107.length : Int) then (if (rdOf ByteArray.empty t107 0).toList = ([] : List UInt8) then (if (t107.length : Int) < 2 then (path_Check.j0 k t107 true) else (path_Check.j0 k t107 (decide ((t107.length : Int) > 7)))) else (path_Check.j0 k t107 true)) else (none)) = some r := H
      have A4 := Aside0.mk A40
      clear A40
      have HC5 := Aside0.mk H
      clear H
      go_enter Tryz.func55, Tryz.ntmps55
      go_upto_region 6 with (first | ((with_reducible refine gate_callee (f := 89) rfl ?_); refine goesL_ (some 12) rfl rfl Tryz.func89 (by kernel_rfl) rfl #[.string a0, .string (⟨#[47]⟩ : ByteArray)] rfl (by (try simp only [List.map_toArray, List.map_cons, List.map_nil]); first | done | rfl | (simp only [List.length_drop, List.length_take]; rfl)) ?_; (with_reducible refine (strings_Split.calls a0 (⟨#[47]⟩ : ByteArray) t107 _ A4.out).mono ?_); rintro e w6 ⟨v108, rfl, ho0, hb⟩; refine ⟨_, rfl, ?_⟩; have n0_ := Aside0.mk (Kd.R_lower ho0 (below_size (by repeat (first | (with_reducible first | exact HB.out | apply below_alloc | apply pw_below_drewN | apply below_drew1) | exact HB.out)))); have n1_ := Aside0.mk (below_step (by repeat (first | (with_reducible first | exact HB.out | apply below_alloc | apply pw_below_drewN | apply below_drew1) | exact HB.out)) hb); clear HB; have HO109 := n0_; have HB := n1_; clear n0_ n1_; (try clear hb); (try clear hb2); (try clear hk); (try clear hi); (try clear ho0)))
      (try simp only [Act.put, List.setIfInBounds_toArray, List.set_cons_zero, List.set_cons_succ])
      go_cut [26] (fun v26 wc => ∃ (kq : Nat) (x26_4 : Bool), v26 = .bool x26_4 ∧ Aside0 (path_Check.j0 kq t107 x26_4 = some r) ∧ Aside0 (kq ≤ k) ∧ Aside0 (Kd.R Kd.string 9 wc w.heap.size (fun _ => True) v108 t107) ∧ Aside0 (Below w.heap.size w wc))
      case first =>
        have H := HC5.out
        clear HC5
        by_cases c7 : 0 < (t107.length : Int)
        · rw [if_pos c7] at H
          have c7b0 : decide (0 < (t107.length : Int)) = true := decide_eq_true c7
          have c7b1 : decide (0 < t107.length) = true := decide_eq_true (by omega)
          clear c7
          (first | rw [c7b0] | (simp only [i64_w, i32_w]; rw [c7b0]) | skip)
          by_cases c8 : (rdOf ByteArray.empty t107 0).toList = ([] : List UInt8)
          · rw [if_pos c8] at H
            have c8b0 : ((rdOf ByteArray.empty t107 0).toList == ([] : List UInt8)) = true := beq_iff_eq.mpr c8
            have c8b1 : ((rdOf ByteArray.empty t107 0).toList != ([] : List UInt8)) = false := bne_eq_false_iff_eq.mpr c8
            clear c8
            by_cases c9 : (t107.length : Int) < 2
            · rw [if_pos c9] at H
              have c9b0 : decide ((t107.length : Int) < 2) = true := decide_eq_true c9
              have c9b1 : decide (t107.length < 2) = true := decide_eq_true (by omega)
              clear c9
              have H' := Aside0.mk H
              clear H
              obtain ⟨Ao10, co10, eo10⟩ := Kd.R_slice HO109.out
              subst eo10
              have p110 : 0 ≤ (0 : Int) := (by omega)
              have q110 : 0 < (t107.length : Int) := of_decide_eq_true (by first | (with_reducible assumption) | assumption)
              obtain ⟨ad110, e110, hx110_0⟩ := Kd.at_string (Kd.R_reads' HO109.out).2.2 0 p110 q110
              cases e110
              have qi110 : (0 < t107.length) = True := eq_true (by omega)
              (try rw [show ((0 : Int)).toNat = 0 from rfl] at hx110_0)
              (try rw [Addr.add_zero'] at hx110_0)
              replace p110 := eq_true p110
              replace q110 := eq_true q110
              go_wp2
              go_meet
              case rel => exact ⟨_, (true), (by first | rfl | (simp; done) | (simp [*]; done)), H', ⟨by first | omega | exact Nat.le_refl _⟩, ⟨by (with_reducible repeat (first | apply Kd.R_alloc | apply Kd.R_drewN | apply Kd.R_drew)); exact HO109.out⟩, ⟨by repeat (first | (with_reducible first | exact HB.out | apply below_alloc | apply pw_below_drewN | apply below_drew1) | exact HB.out)⟩⟩
            · rw [if_neg c9] at H
              have c9b0 : decide ((t107.length : Int) < 2) = false := decide_eq_false c9
              have c9b1 : decide (t107.length < 2) = false := decide_eq_false (by omega)
              clear c9
              have H' := Aside0.mk H
              clear H
              obtain ⟨Ao11, co11, eo11⟩ := Kd.R_slice HO109.out
              subst eo11
              have p110 : 0 ≤ (0 : Int) := (by omega)
              have q110 : 0 < (t107.length : Int) := of_decide_eq_true (by first | (with_reducible assumption) | assumption)
              obtain ⟨ad110, e110, hx110_0⟩ := Kd.at_string (Kd.R_reads' HO109.out).2.2 0 p110 q110
              cases e110
              have qi110 : (0 < t107.length) = True := eq_true (by omega)
              (try rw [show ((0 : Int)).toNat = 0 from rfl] at hx110_0)
              (try rw [Addr.add_zero'] at hx110_0)
              replace p110 := eq_true p110
              replace q110 := eq_true q110
              go_wp2
              go_meet
              case rel => exact ⟨_, (decide ((t107.length : Int) > 7)), (by first | rfl | (simp; done) | (simp [*]; done)), H', ⟨by first | omega | exact Nat.le_refl _⟩, ⟨by (with_reducible repeat (first | apply Kd.R_alloc | apply Kd.R_drewN | apply Kd.R_drew)); exact HO109.out⟩, ⟨by repeat (first | (with_reducible first | exact HB.out | apply below_alloc | apply pw_below_drewN | apply below_drew1) | exact HB.out)⟩⟩
          · rw [if_neg c8] at H
            have c8b0 : ((rdOf ByteArray.empty t107 0).toList == ([] : List UInt8)) = false := beq_eq_false_iff_ne.mpr c8
            have c8b1 : ((rdOf ByteArray.empty t107 0).toList != ([] : List UInt8)) = true := bne_iff_ne.mpr c8
            have H' := Aside0.mk H
            clear H
            obtain ⟨Ao12, co12, eo12⟩ := Kd.R_slice HO109.out
            subst eo12
            have p110 : 0 ≤ (0 : Int) := (by omega)
            have q110 : 0 < (t107.length : Int) := of_decide_eq_true (by first | (with_reducible assumption) | assumption)
            obtain ⟨ad110, e110, hx110_0⟩ := Kd.at_string (Kd.R_reads' HO109.out).2.2 0 p110 q110
            cases e110
            have qi110 : (0 < t107.length) = True := eq_true (by omega)
            (try rw [show ((0 : Int)).toNat = 0 from rfl] at hx110_0)
            (try rw [Addr.add_zero'] at hx110_0)
            replace p110 := eq_true p110
            replace q110 := eq_true q110
            go_wp2
            go_meet
            case rel => exact ⟨_, (true), (by first | rfl | (simp; done) | (simp [*]; done)), H', ⟨by first | omega | exact Nat.le_refl _⟩, ⟨by (with_reducible repeat (first | apply Kd.R_alloc | apply Kd.R_drewN | apply Kd.R_drew)); exact HO109.out⟩, ⟨by repeat (first | (with_reducible first | exact HB.out | apply below_alloc | apply pw_below_drewN | apply below_drew1) | exact HB.out)⟩⟩
        · rw [if_neg c7] at H
          exact absurd H (by simp)
      case rest =>
        clear HC5
        try clear p1
        try clear q1
        try clear hx1
        try clear qi1
        try clear c2
        try clear c2b0
        try clear c2b1
        try clear p2
        try clear c3
        try clear c3b0
        try clear c3b1
        try clear c6
        try clear c7
        try clear c7b0
        try clear c7b1
        try clear c8
        try clear c8b0
        try clear c8b1
        try clear c9
        try clear c9b0
        try clear c9b1
        try clear p11
        try clear q11
        try clear hx11
        try clear qi11
        try clear hx110_0
        try clear p110
        try clear q110
        obtain ⟨kq, x26_4, rfl, HA, HJ4, HO_3, HB⟩ := hcut
        cases kq with
        | zero => exact absurd HA.out (by simp [path_Check.j0])
        | succ kj4 =>
          have H := HA.out
          clear HA
          simp only [path_Check.j0] at H
          by_cases c13 : x26_4 = true
          · subst c13
            have H1 : (some 1) = some r := by rw [if_pos rfl] at H; exact H
            clear H
            have H := H1
            clear H1
            obtain rfl := Option.some.inj H
            go_wp2
            go_ret
            exact ⟨by first | rfl | (simp [errW_none, errW_some] <;> rfl) | (simp [*, errW_none, errW_some] <;> rfl), by repeat (first | (with_reducible first | exact HB.out | apply below_alloc | apply pw_below_drewN | apply below_drew1) | exact HB.out)⟩
          · replace c13 := Bool.eq_false_iff.mpr c13
            subst c13
            have H1 : (if 1 ≤ (t107.length : Int) then ((some (t107.drop 1 : List ByteArray)).bind fun y111 => (path_Check.l0 kj4 y111 (y111.length : Int) 0)) else (none)) = some r := by rw [if_neg (show ¬ (false = true) by decide)] at H; exact H
            clear H
            have H := H1
            clear H1
            by_cases c14 : 1 ≤ (t107.length : Int)
            · rw [if_pos c14] at H
              have c14b0 := eq_true c14
              have c14b1 : decide (1 ≤ (t107.length : Int)) = true := decide_eq_true c14
              clear c14
              obtain ⟨y111, hy111⟩ : ∃ y_ : List ByteArray, y_ = (t107.drop 1) := ⟨_, rfl⟩
              replace H : (path_Check.l0 kj4 y111 (y111.length : Int) 0) = some r := by first | (rw [hy111]; with_reducible exact H) | (have H2_ := (Option.bind_some _ _).symm.trans H; rw [hy111]; with_reducible exact H2_) | (have H2_ := (Option.bind_some _ _).symm.trans H; with_reducible exact H2_) | with_reducible exact H | (rw [hy111]; exact H) | exact H
              have Ny111 := Aside0.mk hy111
              clear hy111
              have H' := Aside0.mk H
              clear H
              obtain ⟨Ao16, co16, eo16⟩ := Kd.R_slice HO_3.out
              subst eo16
              have q15 : (1 : Int) ≤ ((t107.length : Int) : Int) := of_decide_eq_true (by first | (with_reducible assumption) | assumption)
              obtain ⟨i015, hi015, _, hsz15, _⟩ := info_parts info9
              have hroom15 : t107.length ≤ co16 := (Kd.R_reads' HO_3.out).2.1
              have hC15 : Kd.C Kd.string _ Ao16 t107.length t107 := (Kd.R_reads' HO_3.out).2.2
              have hcut15 := cut_from (P := Tryz.prog) 39 9 .i64 Tryz.underlying39 hi015 1 hsz15 Ao16 t107.length co16 1 (by omega) q15
              have hr15 := Kd.C_drop (m := (1 : Int).toNat) (c := co16) hC15 (by omega) hroom15
              obtain ⟨A15, hA15⟩ : ∃ A1, A1 = (if co16 = (1 : Int).toNat then Ao16 else (Ao16 : Option Addr).map (·.add ((1 : Int).toNat * 1))) := ⟨_, rfl⟩
              obtain ⟨c15, hc15⟩ : ∃ c1, c1 = co16 - (1 : Int).toNat := ⟨_, rfl⟩
              have hy15 : y111.length = t107.length - (1 : Int).toNat := (by rw [Ny111.out, List.length_drop] <;> omega)
              rw [show (t107).drop (1 : Int).toNat = y111 from Ny111.out.symm] at hr15
              replace hr15 : Kd.C Kd.string _ A15 y111.length y111 := (by rw [hA15]; exact hr15)
              rw [← hy15, ← hA15, ← hc15] at hcut15
              have HR114 := Aside0.mk hr15
              have HC114 := Aside0.mk (show y111.length ≤ c15 from by rw [hy15, hc15]; exact Nat.sub_le_sub_right hroom15 _)
              clear hr15 hC15 hroom15 hi015 hsz15 hc15
              have KY15 := Aside0.mk hy15
              have KA15 := Aside0.mk hA15
              clear hy15 hA15
              have KL15 := Aside0.mk (show 1 ≤ t107.length from by omega)
              replace q15 := eq_true q15
              go_wp2
              go_loopg [30] kj4 (fun kq v30 w' => ∃ (x30_2 : Int), v30 = .int .i64 x30_2 ∧ Aside0 (path_Check.l0 kq y111 (y111.length : Int) x30_2 = some r) ∧ Aside0 (kq ≤ kj4) ∧ Aside0 (Kd.C Kd.string w' A15 y111.length y111) ∧ Aside0 (Below w.heap.size w w'))
              case atStart => exact ⟨(0), (by first | rfl | (simp; done) | (simp [*]; done)), H', ⟨Nat.le_refl _⟩, ⟨by repeat (first | (with_reducible exact HR114.out) | (with_reducible refine Kd.C_alloc ?_ _) | (with_reducible refine Kd.C_drewN ?_ _) | (with_reducible refine Kd.C_drew ?_) | exact HR114.out)⟩, ⟨by repeat (first | (with_reducible first | exact HB.out | apply below_alloc | apply pw_below_drewN | apply below_drew1) | exact HB.out)⟩⟩
              case round =>
                clear H'
                try clear c1
                try clear p1
                try clear q1
                try clear hx1
                try clear qi1
                try clear c2
                try clear c2b0
                try clear c2b1
                try clear p2
                try clear c3
                try clear c3b0
                try clear c3b1
                try clear c6
                try clear c7
                try clear c7b0
                try clear c7b1
                try clear c8
                try clear c8b0
                try clear c8b1
                try clear c9
                try clear c9b0
                try clear c9b1
                try clear p11
                try clear q11
                try clear hx11
                try clear qi11
                try clear c13
                try clear c14
                try clear c14b0
                try clear c14b1
                try clear c15
                try clear q15
                try clear hx110_0
                try clear p1
                try clear p11
                try clear p110
                try clear p2
                try clear q1
                try clear q11
                try clear q110
                try clear q15
                obtain ⟨x30_2, rfl, HA, HK2, HR114, HB⟩ := hrel
                cases gk with
                | zero => exact absurd HA.out (by simp [path_Check.l0])
                | succ k2 =>
                  have H := HA.out
                  clear HA
                  simp only [path_Check.l0] at H
                  by_cases c17 : x30_2 < (y111.length : Int)
                  · rw [if_pos c17] at H
                    have c17b0 : decide (x30_2 < (y111.length : Int)) = true := decide_eq_true c17
                    clear c17
                    by_cases c18 : 0 ≤ x30_2
                    · rw [if_pos c18] at H
                      have c18b0 : decide (0 ≤ x30_2) = true := decide_eq_true c18
                      clear c18
                      by_cases c19 : x30_2 < (y111.length : Int)
                      · rw [if_pos c19] at H
                        have c19b0 : decide (x30_2 < (y111.length : Int)) = true := decide_eq_true c19
                        clear c19
                        replace H := Option.bind_eq_some_iff.mp H
                        obtain ⟨t116, A200, H⟩ := H
                        replace H : (if t116 = true then (path_Check.l0 k2 y111 (y111.length : Int) (wrap64 (x30_2 + 1))) else (some 1)) = some r := H
                        have A20 := Aside0.mk A200
                        clear A200
                        by_cases c21 : t116 = true
                        · subst c21
                          have H1 : (path_Check.l0 k2 y111 (y111.length : Int) (wrap64 (x30_2 + 1))) = some r := by rw [if_pos rfl] at H; exact H
                          clear H
                          have H := H1
                          clear H1
                          have H' := Aside0.mk H
                          clear H
                          have p115 : 0 ≤ (x30_2 : Int) := of_decide_eq_true (by first | (with_reducible assumption) | assumption)
                          have q115 : x30_2 < (y111.length : Int) := of_decide_eq_true (by first | (with_reducible assumption) | assumption)
                          obtain ⟨ad115, e115, hx115_0⟩ := Kd.at_string HR114.out x30_2 p115 q115
                          cases e115
                          (try replace hx115_0 := (HB.out.cell (World.block_lt_of_cell? w _ hx115_0)).trans hx115_0)
                          replace p115 := eq_true p115
                          replace q115 := eq_true q115
                          go_wp2_with (first | ((with_reducible refine gate_callee (f := 90) rfl ?_); refine goesL_ (some 35) rfl rfl Tryz.func90 (by kernel_rfl) rfl #[.string (rdOf ByteArray.empty y111 x30_2)] rfl (by (try simp only [List.map_toArray, List.map_cons, List.map_nil]); first | done | rfl | (simp only [List.length_drop, List.length_take]; rfl)) ?_; (with_reducible refine (path_Name.calls (rdOf ByteArray.empty y111 x30_2) true _ A20.out).mono ?_); rintro e w22 ⟨rfl, hb⟩; refine ⟨_, rfl, ?_⟩; have n0_ := Aside0.mk (Kd.C_below (by repeat (first | (with_reducible exact HR114.out) | (with_reducible refine Kd.C_alloc ?_ _) | (with_reducible refine Kd.C_drewN ?_ _) | (with_reducible refine Kd.C_drew ?_) | exact HR114.out)) hb); have n1_ := Aside0.mk (below_step (by repeat (first | (with_reducible first | exact HB.out | apply below_alloc | apply pw_below_drewN | apply below_drew1) | exact HB.out)) hb); clear HR114; clear HB; have HR114 := n0_; have HB := n1_; clear n0_ n1_; (try clear hb); (try clear hb2); (try clear hk); (try clear hi)))
                          go_roundg k2
                          case measure => have := HJ4.out; have := HK2.out; omega
                          case rel => exact ⟨(wrap64 (x30_2 + 1)), (by first | rfl | (simp; done) | (simp [*]; done)), H', ⟨by have := HJ4.out; have := HK2.out; omega⟩, ⟨by repeat (first | (with_reducible exact HR114.out) | (with_reducible refine Kd.C_alloc ?_ _) | (with_reducible refine Kd.C_drewN ?_ _) | (with_reducible refine Kd.C_drew ?_) | exact HR114.out)⟩, ⟨by repeat (first | (with_reducible first | exact HB.out | apply below_alloc | apply pw_below_drewN | apply below_drew1) | exact HB.out)⟩⟩
                        · replace c21 := Bool.eq_false_iff.mpr c21
                          subst c21
                          have H1 : (some 1) = some r := by rw [if_neg (show ¬ (false = true) by decide)] at H; exact H
                          clear H
                          have H := H1
                          clear H1
                          obtain rfl := Option.some.inj H
                          have p115 : 0 ≤ (x30_2 : Int) := of_decide_eq_true (by first | (with_reducible assumption) | assumption)
                          have q115 : x30_2 < (y111.length : Int) := of_decide_eq_true (by first | (with_reducible assumption) | assumption)
                          obtain ⟨ad115, e115, hx115_0⟩ := Kd.at_string HR114.out x30_2 p115 q115
                          cases e115
                          (try replace hx115_0 := (HB.out.cell (World.block_lt_of_cell? w _ hx115_0)).trans hx115_0)
                          replace p115 := eq_true p115
                          replace q115 := eq_true q115
                          go_wp2_with (first | ((with_reducible refine gate_callee (f := 90) rfl ?_); refine goesL_ (some 35) rfl rfl Tryz.func90 (by kernel_rfl) rfl #[.string (rdOf ByteArray.empty y111 x30_2)] rfl (by (try simp only [List.map_toArray, List.map_cons, List.map_nil]); first | done | rfl | (simp only [List.length_drop, List.length_take]; rfl)) ?_; (with_reducible refine (path_Name.calls (rdOf ByteArray.empty y111 x30_2) false _ A20.out).mono ?_); rintro e w23 ⟨rfl, hb⟩; refine ⟨_, rfl, ?_⟩; have n0_ := Aside0.mk (Kd.C_below (by repeat (first | (with_reducible exact HR114.out) | (with_reducible refine Kd.C_alloc ?_ _) | (with_reducible refine Kd.C_drewN ?_ _) | (with_reducible refine Kd.C_drew ?_) | exact HR114.out)) hb); have n1_ := Aside0.mk (below_step (by repeat (first | (with_reducible first | exact HB.out | apply below_alloc | apply pw_below_drewN | apply below_drew1) | exact HB.out)) hb); clear HR114; clear HB; have HR114 := n0_; have HB := n1_; clear n0_ n1_; (try clear hb); (try clear hb2); (try clear hk); (try clear hi)))
                          go_ret
                          exact ⟨by first | rfl | (simp [errW_none, errW_some] <;> rfl) | (simp [*, errW_none, errW_some] <;> rfl), by repeat (first | (with_reducible first | exact HB.out | apply below_alloc | apply pw_below_drewN | apply below_drew1) | exact HB.out)⟩
                      · rw [if_neg c19] at H
                        exact absurd H (by simp)
                    · rw [if_neg c18] at H
                      exact absurd H (by simp)
                  · rw [if_neg c17] at H
                    have c17b0 : decide (x30_2 < (y111.length : Int)) = false := decide_eq_false c17
                    clear c17
                    obtain rfl := Option.some.inj H
                    go_wp2
                    go_ret
                    exact ⟨by first | rfl | (simp [errW_none, errW_some] <;> rfl) | (simp [*, errW_none, errW_some] <;> rfl), by repeat (first | (with_reducible first | exact HB.out | apply below_alloc | apply pw_below_drewN | apply below_drew1) | exact HB.out)⟩
            · rw [if_neg c14] at H
              exact absurd H (by simp)
end Go.Proofs.YteilkbookcmndaaGreatDoor.P
end
section
namespace Go.Proofs.YteilkbookcmndaaGreatDoor.P
open Go.RowKit Go.Proofs.YteilkbookcmndaaGreatDoorW.PrintWords Go.Proofs.YteilkbookcmndaaGreatDoorW.PrintLast Go.Proofs.YteilkbookcmndaaGreatDoorW.PrintMore
attribute [local go_sem] max2_int min2_int max_two min_two max_three min_three -- for this text's walks alone
mutual
def donjonref7_Parts.l0 : Nat → ByteArray → List ByteArray → Int → Int → Option (List ByteArray)
  | 0, _, _, _, _ => none
  | k + 1, x0, x3, x4, x5 => if x5 ≤ (x0.size : Int) then (donjonref7_Parts.j1 k x0 x3 x4 x5 (decide ((x0.size : Int) > 1))) else (donjonref7_Parts.j1 k x0 x3 x4 x5 false)
def donjonref7_Parts.j1 : Nat → ByteArray → List ByteArray → Int → Int → Bool → Option (List ByteArray)
  | 0, _, _, _, _, _ => none
  | k + 1, x0, x3, x4, x5, x14 => if x14 = true then (if x5 = (x0.size : Int) then (if 0 ≤ x4 then (if x4 ≤ x5 then (if x5 ≤ (x0.size : Int) then (if x3.length < 8796093022208 then (donjonref7_Parts.l0 k x0 (x3 ++ [x0.extract (x4 : Int).toNat (x5 : Int).toNat]) (wrap64 (x5 + 1)) (wrap64 (x5 + 1))) else (none)) else (none)) else (none)) else (none)) else (if 0 ≤ x5 then (if x5 < (x0.size : Int) then (if (bt x0 x5) = 47 then (if 0 ≤ x4 then (if x4 ≤ x5 then (if x5 ≤ (x0.size : Int) then (if x3.length < 8796093022208 then (donjonref7_Parts.l0 k x0 (x3 ++ [x0.extract (x4 : Int).toNat (x5 : Int).toNat]) (wrap64 (x5 + 1)) (wrap64 (x5 + 1))) else (none)) else (none)) else (none)) else (none)) else (donjonref7_Parts.l0 k x0 x3 x4 (wrap64 (x5 + 1)))) else (none)) else (none))) else (some x3)
end
def donjonref7_Parts.f (k : Nat) (a0 : ByteArray) : Option (List ByteArray) := donjonref7_Parts.l0 k a0 ([] : List ByteArray) 1 1
set_option maxHeartbeats 8000000 in
set_option maxRecDepth 100000 in
theorem donjonref7_Parts.calls (k : Nat) (a0 : ByteArray) (r : List ByteArray) (w : World) (h : donjonref7_Parts.f k a0 = some r) :
    Calls Tryz.prog 68 #[.string a0] w fun e w' => ∃ v0_ : Value, e = .returned (v0_) ∧ Kd.R Kd.string 9 w' w.heap.size (fun _ => True) v0_ r ∧ Below w.heap.size w w' := by
  have HB := Aside0.mk (Below.refl w.heap.size w)
  have H : (donjonref7_Parts.l0 k a0 ([] : List ByteArray) 1 1) = some r := h
  clear h
  have H' := Aside0.mk H
  clear H
  go_enter Tryz.func68, Tryz.ntmps68
  go_wp2
  go_loopg [3, 4, 5] k (fun kq v3 v4 v5 w' => ∃ (x3_1 : List ByteArray) (x4_1 : Int) (x5_1 : Int), v4 = .int .i64 x4_1 ∧ v5 = .int .i64 x5_1 ∧ Aside0 (donjonref7_Parts.l0 kq a0 x3_1 x4_1 x5_1 = some r) ∧ Aside0 (kq ≤ k) ∧ Aside0 (Kd.R Kd.string 9 w' w.heap.size (fun _ => True) v3 x3_1) ∧ Aside0 (Below w.heap.size w w'))
  case atStart => exact ⟨(([] : List ByteArray)), (1), (1), (by first | rfl | (simp; done) | (simp [*]; done)), (by first | rfl | (simp; done) | (simp [*]; done)), H', ⟨Nat.le_refl _⟩, ⟨by first | exact Kd.R_nil _ _ _ _ _ | exact Kd.N_nil _ _ _ _ _ | exact Kd.V_nil _ _ _ _ _ | exact Kd.Q_nil _ _ _ _ _ | exact Kd.S_nil _ _ _ _ _⟩, ⟨by repeat (first | (with_reducible first | exact HB.out | apply below_alloc | apply pw_below_drewN | apply below_drew1) | exact HB.out)⟩⟩
  case round =>
    clear H'
    obtain ⟨x3_1, x4_1, x5_1, rfl, rfl, HA, HK1, HO_3, HB⟩ := hrel
    cases gk with
    | zero => exact absurd HA.out (by simp [donjonref7_Parts.l0])
    | succ k1 =>
      have H := HA.out
      clear HA
      simp only [donjonref7_Parts.l0] at H
      have HC2 := Aside0.mk H
      clear H
      go_upto_region 4 with (fail)
      go_cut [14] (fun v14 wc => ∃ (kq : Nat) (x14_1 : Bool), v14 = .bool x14_1 ∧ Aside0 (donjonref7_Parts.j1 kq a0 x3_1 x4_1 x5_1 x14_1 = some r) ∧ Aside0 (kq ≤ k1) ∧ Aside0 (Kd.R Kd.string 9 wc w.heap.size (fun _ => True) u3 x3_1) ∧ Aside0 (Below w.heap.size w wc))
      case first =>
        have H := HC2.out
        clear HC2
        by_cases c3 : x5_1 ≤ (a0.size : Int)
        · rw [if_pos c3] at H
          have c3b0 : decide (x5_1 ≤ (a0.size : Int)) = true := decide_eq_true c3
          clear c3
          (first | rw [c3b0] | (simp only [i64_w, i32_w]; rw [c3b0]) | skip)
          have H' := Aside0.mk H
          clear H
          go_wp2
          go_meet
          case rel => exact ⟨_, (decide ((a0.size : Int) > 1)), (by first | rfl | (simp; done) | (simp [*]; done)), H', ⟨by have := HK1.out; first | omega | exact Nat.le_refl _⟩, ⟨by (with_reducible repeat (first | apply Kd.R_alloc | apply Kd.R_drewN | apply Kd.R_drew)); exact HO_3.out⟩, ⟨by repeat (first | (with_reducible first | exact HB.out | apply below_alloc | apply pw_below_drewN | apply below_drew1) | exact HB.out)⟩⟩
        · rw [if_neg c3] at H
          have c3b0 : decide (x5_1 ≤ (a0.size : Int)) = false := decide_eq_false c3
          clear c3
          (first | rw [c3b0] | (simp only [i64_w, i32_w]; rw [c3b0]) | skip)
          have H' := Aside0.mk H
          clear H
          go_wp2
          go_meet
          case rel => exact ⟨_, (false), (by first | rfl | (simp; done) | (simp [*]; done)), H', ⟨by have := HK1.out; first | omega | exact Nat.le_refl _⟩, ⟨by (with_reducible repeat (first | apply Kd.R_alloc | apply Kd.R_drewN | apply Kd.R_drew)); exact HO_3.out⟩, ⟨by repeat (first | (with_reducible first | exact HB.out | apply below_alloc | apply pw_below_drewN | apply below_drew1) | exact HB.out)⟩⟩
      case rest =>
        clear HC2
        try clear p2
        try clear c3
        try clear c3b0
        obtain ⟨kq, x14_1, rfl, HA, HJ1, HO_3, HB⟩ := hcut
        cases kq with
        | zero => exact absurd HA.out (by simp [donjonref7_Parts.j1])
        | succ kj1 =>
          have H := HA.out
          clear HA
          simp only [donjonref7_Parts.j1] at H
          by_cases c4 : x14_1 = true
          · subst c4
            have H1 : (if x5_1 = (a0.size : Int) then (if 0 ≤ x4_1 then (if x4_1 ≤ x5_1 then (if x5_1 ≤ (a0.size : Int) then (if x3_1.length < 8796093022208 then (donjonref7_Parts.l0 kj1 a0 (x3_1 ++ [a0.extract (x4_1 : Int).toNat (x5_1 : Int).toNat]) (wrap64 (x5_1 + 1)) (wrap64 (x5_1 + 1))) else (none)) else (none)) else (none)) else (none)) else (if 0 ≤ x5_1 then (if x5_1 < (a0.size : Int) then (if (bt a0 x5_1) = 47 then (if 0 ≤ x4_1 then (if x4_1 ≤ x5_1 then (if x5_1 ≤ (a0.size : Int) then (if x3_1.length < 8796093022208 then (donjonref7_Parts.l0 kj1 a0 (x3_1 ++ [a0.extract (x4_1 : Int).toNat (x5_1 : Int).toNat]) (wrap64 (x5_1 + 1)) (wrap64 (x5_1 + 1))) else (none)) else (none)) else (none)) else (none)) else (donjonref7_Parts.l0 kj1 a0 x3_1 x4_1 (wrap64 (x5_1 + 1)))) else (none)) else (none))) = some r := by rw [if_pos rfl] at H; exact H
            clear H
            have H := H1
            clear H1
            by_cases c5 : x5_1 = (a0.size : Int)
            · rw [if_pos c5] at H
              have c5b0 : (x5_1 == (a0.size : Int)) = true := beq_iff_eq.mpr c5
              have c5b1 : (x5_1 != (a0.size : Int)) = false := bne_eq_false_iff_eq.mpr c5
              clear c5
              by_cases c6 : 0 ≤ x4_1
              · rw [if_pos c6] at H
                have c6b0 := eq_true c6
                have c6b1 : decide (0 ≤ x4_1) = true := decide_eq_true c6
                clear c6
                by_cases c7 : x4_1 ≤ x5_1
                · rw [if_pos c7] at H
                  have c7b0 := eq_true c7
                  have c7b1 : decide (x4_1 ≤ x5_1) = true := decide_eq_true c7
                  clear c7
                  by_cases c8 : x5_1 ≤ (a0.size : Int)
                  · rw [if_pos c8] at H
                    have c8b0 := eq_true c8
                    have c8b1 : decide (x5_1 ≤ (a0.size : Int)) = true := decide_eq_true c8
                    clear c8
                    by_cases c9 : x3_1.length < 8796093022208
                    · rw [if_pos c9] at H
                      have LMc9 := Aside0.mk c9
                      clear c9
                      obtain ⟨y117, hy117⟩ : ∃ y_ : List ByteArray, y_ = (x3_1 ++ [a0.extract (x4_1 : Int).toNat (x5_1 : Int).toNat]) := ⟨_, rfl⟩
                      replace H : (donjonref7_Parts.l0 kj1 a0 y117 (wrap64 (x5_1 + 1)) (wrap64 (x5_1 + 1))) = some r := by first | (rw [hy117]; with_reducible exact H) | (have H2_ := (Option.bind_some _ _).symm.trans H; rw [hy117]; with_reducible exact H2_) | (have H2_ := (Option.bind_some _ _).symm.trans H; with_reducible exact H2_) | with_reducible exact H | (rw [hy117]; exact H) | exact H
                      have Ny117 := Aside0.mk hy117
                      clear hy117
                      have H' := Aside0.mk H
                      clear H
                      go_wp2_with (first | ((with_reducible refine gate_builtin (b := .append) (xs := #[.tmp 27, .tmp 32]) rfl ?_); (try (refine gate_guard (by rfl) ?_; dsimp only)); at_builtin; refine Kd.R_append Kd.string (w0 := w) w.heap.size rfl (.tmp 27) (.tmp 32) 39 9 (.string ⟨#[]⟩) 16 rfl Tryz.underlying39 info9 rfl (by decide) (by omega) u3 x3_1 (a0.extract (x4_1 : Int).toNat (x5_1 : Int).toNat) [.string (a0.extract (x4_1 : Int).toNat (x5_1 : Int).toNat)] (fun _ => True) (fun _ => False) rfl rfl ?aP (fun _ hk => hk.elim) ?aF ?aO ?aB ?aS ?aL ?_; (case aP => exact rfl); (case aB => exact (by repeat (first | (with_reducible first | exact HB.out | apply below_alloc | apply pw_below_drewN | apply below_drew1) | exact HB.out))); (case aF => exact (fun _ _ => trivial)); (case aO => exact (by (with_reducible repeat (first | apply Kd.R_alloc | apply Kd.R_drewN | apply Kd.R_drew)); exact HO_3.out)); (case aS => exact (below_size (by repeat (first | (with_reducible first | exact HB.out | apply below_alloc | apply pw_below_drewN | apply below_drew1) | exact HB.out)))); (case aL => have := LMc9.out; omega); intro v118 w10 ho hb hg hat; rw [← Ny117.out] at ho; have n0_ := Aside0.mk (hb); have n1_ := Aside0.mk (ho); clear HB; clear HO_3; have HB := n0_; have HO119 := n1_; clear n0_ n1_; clear ho hb hg hat))
                      go_roundg kj1
                      case measure => have := HK1.out; have := HJ1.out; omega
                      case rel => exact ⟨(y117), (wrap64 (x5_1 + 1)), (wrap64 (x5_1 + 1)), (by first | rfl | (simp; done) | (simp [*]; done)), (by first | rfl | (simp; done) | (simp [*]; done)), H', ⟨by have := HK1.out; have := HJ1.out; omega⟩, ⟨by (with_reducible repeat (first | apply Kd.R_alloc | apply Kd.R_drewN | apply Kd.R_drew)); exact HO119.out⟩, ⟨by repeat (first | (with_reducible first | exact HB.out | apply below_alloc | apply pw_below_drewN | apply below_drew1) | exact HB.out)⟩⟩
                    · rw [if_neg c9] at H
                      exact absurd H (by simp)
                  · rw [if_neg c8] at H
                    exact absurd H (by simp)
                · rw [if_neg c7] at H
                  exact absurd H (by simp)
              · rw [if_neg c6] at H
                exact absurd H (by simp)
            · rw [if_neg c5] at H
              have c5b0 : (x5_1 == (a0.size : Int)) = false := beq_eq_false_iff_ne.mpr c5
              have c5b1 : (x5_1 != (a0.size : Int)) = true := bne_iff_ne.mpr c5
              by_cases c11 : 0 ≤ x5_1
              · rw [if_pos c11] at H
                have c11b0 : decide (0 ≤ x5_1) = true := decide_eq_true c11
                clear c11
                by_cases c12 : x5_1 < (a0.size : Int)
                · rw [if_pos c12] at H
                  have c12b0 : decide (x5_1 < (a0.size : Int)) = true := decide_eq_true c12
                  clear c12
                  by_cases c14 : (bt a0 x5_1) = 47
                  · rw [if_pos c14] at H
                    have c14b0 : ((bt a0 x5_1) == 47) = true := beq_iff_eq.mpr c14
                    have c14b1 : ((bt a0 x5_1) != 47) = false := bne_eq_false_iff_eq.mpr c14
                    clear c14
                    by_cases c15 : 0 ≤ x4_1
                    · rw [if_pos c15] at H
                      have c15b0 := eq_true c15
                      have c15b1 : decide (0 ≤ x4_1) = true := decide_eq_true c15
                      clear c15
                      by_cases c16 : x4_1 ≤ x5_1
                      · rw [if_pos c16] at H
                        have c16b0 := eq_true c16
                        have c16b1 : decide (x4_1 ≤ x5_1) = true := decide_eq_true c16
                        clear c16
                        by_cases c17 : x5_1 ≤ (a0.size : Int)
                        · rw [if_pos c17] at H
                          have c17b0 := eq_true c17
                          have c17b1 : decide (x5_1 ≤ (a0.size : Int)) = true := decide_eq_true c17
                          clear c17
                          by_cases c18 : x3_1.length < 8796093022208
                          · rw [if_pos c18] at H
                            have LMc18 := Aside0.mk c18
                            clear c18
                            obtain ⟨y120, hy120⟩ : ∃ y_ : List ByteArray, y_ = (x3_1 ++ [a0.extract (x4_1 : Int).toNat (x5_1 : Int).toNat]) := ⟨_, rfl⟩
                            replace H : (donjonref7_Parts.l0 kj1 a0 y120 (wrap64 (x5_1 + 1)) (wrap64 (x5_1 + 1))) = some r := by first | (rw [hy120]; with_reducible exact H) | (have H2_ := (Option.bind_some _ _).symm.trans H; rw [hy120]; with_reducible exact H2_) | (have H2_ := (Option.bind_some _ _).symm.trans H; with_reducible exact H2_) | with_reducible exact H | (rw [hy120]; exact H) | exact H
                            have Ny120 := Aside0.mk hy120
                            clear hy120
                            have H' := Aside0.mk H
                            clear H
                            have p13 : 0 ≤ (x5_1 : Int) := of_decide_eq_true (by first | (with_reducible assumption) | assumption)
                            have q13 : x5_1 < (a0.size : Int) := of_decide_eq_true (by first | (with_reducible assumption) | assumption)
                            have hx13 := bt_at a0 x5_1
                            replace p13 := eq_true p13
                            replace q13 := eq_true q13
                            go_wp2_with (first | ((with_reducible refine gate_builtin (b := .append) (xs := #[.tmp 27, .tmp 32]) rfl ?_); (try (refine gate_guard (by rfl) ?_; dsimp only)); at_builtin; refine Kd.R_append Kd.string (w0 := w) w.heap.size rfl (.tmp 27) (.tmp 32) 39 9 (.string ⟨#[]⟩) 16 rfl Tryz.underlying39 info9 rfl (by decide) (by omega) u3 x3_1 (a0.extract (x4_1 : Int).toNat (x5_1 : Int).toNat) [.string (a0.extract (x4_1 : Int).toNat (x5_1 : Int).toNat)] (fun _ => True) (fun _ => False) rfl rfl ?aP (fun _ hk => hk.elim) ?aF ?aO ?aB ?aS ?aL ?_; (case aP => exact rfl); (case aB => exact (by repeat (first | (with_reducible first | exact HB.out | apply below_alloc | apply pw_below_drewN | apply below_drew1) | exact HB.out))); (case aF => exact (fun _ _ => trivial)); (case aO => exact (by (with_reducible repeat (first | apply Kd.R_alloc | apply Kd.R_drewN | apply Kd.R_drew)); exact HO_3.out)); (case aS => exact (below_size (by repeat (first | (with_reducible first | exact HB.out | apply below_alloc | apply pw_below_drewN | apply below_drew1) | exact HB.out)))); (case aL => have := LMc18.out; omega); intro v121 w19 ho hb hg hat; rw [← Ny120.out] at ho; have n0_ := Aside0.mk (hb); have n1_ := Aside0.mk (ho); clear HB; clear HO_3; have HB := n0_; have HO122 := n1_; clear n0_ n1_; clear ho hb hg hat))
                            go_roundg kj1
                            case measure => have := HK1.out; have := HJ1.out; omega
                            case rel => exact ⟨(y120), (wrap64 (x5_1 + 1)), (wrap64 (x5_1 + 1)), (by first | rfl | (simp; done) | (simp [*]; done)), (by first | rfl | (simp; done) | (simp [*]; done)), H', ⟨by have := HK1.out; have := HJ1.out; omega⟩, ⟨by (with_reducible repeat (first | apply Kd.R_alloc | apply Kd.R_drewN | apply Kd.R_drew)); exact HO122.out⟩, ⟨by repeat (first | (with_reducible first | exact HB.out | apply below_alloc | apply pw_below_drewN | apply below_drew1) | exact HB.out)⟩⟩
                          · rw [if_neg c18] at H
                            exact absurd H (by simp)
                        · rw [if_neg c17] at H
                          exact absurd H (by simp)
                      · rw [if_neg c16] at H
                        exact absurd H (by simp)
                    · rw [if_neg c15] at H
                      exact absurd H (by simp)
                  · rw [if_neg c14] at H
                    have c14b0 : ((bt a0 x5_1) == 47) = false := beq_eq_false_iff_ne.mpr c14
                    have c14b1 : ((bt a0 x5_1) != 47) = true := bne_iff_ne.mpr c14
                    have H' := Aside0.mk H
                    clear H
                    have p13 : 0 ≤ (x5_1 : Int) := of_decide_eq_true (by first | (with_reducible assumption) | assumption)
                    have q13 : x5_1 < (a0.size : Int) := of_decide_eq_true (by first | (with_reducible assumption) | assumption)
                    have hx13 := bt_at a0 x5_1
                    replace p13 := eq_true p13
                    replace q13 := eq_true q13
                    go_wp2
                    go_roundg kj1
                    case measure => have := HK1.out; have := HJ1.out; omega
                    case rel => exact ⟨(x3_1), (x4_1), (wrap64 (x5_1 + 1)), (by first | rfl | (simp; done) | (simp [*]; done)), (by first | rfl | (simp; done) | (simp [*]; done)), H', ⟨by have := HK1.out; have := HJ1.out; omega⟩, ⟨by (with_reducible repeat (first | apply Kd.R_alloc | apply Kd.R_drewN | apply Kd.R_drew)); exact HO_3.out⟩, ⟨by repeat (first | (with_reducible first | exact HB.out | apply below_alloc | apply pw_below_drewN | apply below_drew1) | exact HB.out)⟩⟩
                · rw [if_neg c12] at H
                  exact absurd H (by simp)
              · rw [if_neg c11] at H
                exact absurd H (by simp)
          · replace c4 := Bool.eq_false_iff.mpr c4
            subst c4
            have H1 : (some x3_1) = some r := by rw [if_neg (show ¬ (false = true) by decide)] at H; exact H
            clear H
            have H := H1
            clear H1
            obtain rfl := Option.some.inj H
            go_wp2
            go_ret
            exact ⟨_, by first | rfl | (simp [errW_none, errW_some] <;> rfl) | (simp [*, errW_none, errW_some] <;> rfl), by (with_reducible repeat (first | apply Kd.R_alloc | apply Kd.R_drewN | apply Kd.R_drew)); exact HO_3.out, by repeat (first | (with_reducible first | exact HB.out | apply below_alloc | apply pw_below_drewN | apply below_drew1) | exact HB.out)⟩
end Go.Proofs.YteilkbookcmndaaGreatDoor.P
end
section
namespace Go.Proofs.YteilkbookcmndaaGreatDoor.P
open Go.RowKit Go.Proofs.YteilkbookcmndaaGreatDoorW.PrintWords Go.Proofs.YteilkbookcmndaaGreatDoorW.PrintLast Go.Proofs.YteilkbookcmndaaGreatDoorW.PrintMore
attribute [local go_sem] max2_int min2_int max_two min_two max_three min_three -- for this text's walks alone
mutual
def donjonref7_Check.j0 : Nat → ByteArray → Bool → Option (Int)
  | 0, _, _ => none
  | k + 1, x0, x17 => if x17 = true then (some 1) else ((donjonref7_Parts.f k x0).bind fun t123 => (if (t123.length : Int) > 6 then (some 1) else (donjonref7_Check.l0 k t123 0)))
def donjonref7_Check.l0 : Nat → List ByteArray → Int → Option (Int)
  | 0, _, _ => none
  | k + 1, x3, x4 => if x4 < (x3.length : Int) then (if 0 ≤ x4 then ((donjonref7_Name.f k (rdOf ByteArray.empty x3 x4)).bind fun t127 => (if t127 = true then (donjonref7_Check.l0 k x3 (wrap64 (x4 + 1))) else (some 1))) else (none)) else (some 0)
end
def donjonref7_Check.f (k : Nat) (a0 : ByteArray) : Option (Int) := if (a0.size : Int) > 78 then (some 5) else (if a0.toList = ([47] : List UInt8) then (some 0) else (if (a0.size : Int) < 2 then (donjonref7_Check.j0 k a0 true) else (if 0 < (a0.size : Int) then (donjonref7_Check.j0 k a0 ((bt a0 0) != 47)) else (none))))
set_option maxHeartbeats 8000000 in
set_option maxRecDepth 100000 in
theorem donjonref7_Check.calls (k : Nat) (a0 : ByteArray) (r : Int) (w : World) (h : donjonref7_Check.f k a0 = some r) :
    Calls Tryz.prog 67 #[.string a0] w fun e w' => e = .returned (.int .i64 r) ∧ Below w.heap.size w w' := by
  have HB := Aside0.mk (Below.refl w.heap.size w)
  have H : (if (a0.size : Int) > 78 then (some 5) else (if a0.toList = ([47] : List UInt8) then (some 0) else (if (a0.size : Int) < 2 then (donjonref7_Check.j0 k a0 true) else (if 0 < (a0.size : Int) then (donjonref7_Check.j0 k a0 ((bt a0 0) != 47)) else (none))))) = some r := h
  clear h
  by_cases c2 : (a0.size : Int) > 78
  · rw [if_pos c2] at H
    have c2b0 : decide (78 < (a0.size : Int)) = true := decide_eq_true c2
    have c2b1 : decide (78 < a0.size) = true := decide_eq_true (by omega)
    clear c2
    obtain rfl := Option.some.inj H
    go_enter Tryz.func67, Tryz.ntmps67
    go_wp2
    go_ret
    exact ⟨by first | rfl | (simp [errW_none, errW_some] <;> rfl) | (simp [*, errW_none, errW_some] <;> rfl), by repeat (first | (with_reducible first | exact HB.out | apply below_alloc | apply pw_below_drewN | apply below_drew1) | exact HB.out)⟩
  · rw [if_neg c2] at H
    have c2b0 : decide (78 < (a0.size : Int)) = false := decide_eq_false c2
    have c2b1 : decide (78 < a0.size) = false := decide_eq_false (by omega)
    clear c2
    by_cases c3 : a0.toList = ([47] : List UInt8)
    · rw [if_pos c3] at H
      have c3b0 : (a0.toList == ([47] : List UInt8)) = true := beq_iff_eq.mpr c3
      have c3b1 : (a0.toList != ([47] : List UInt8)) = false := bne_eq_false_iff_eq.mpr c3
      clear c3
      obtain rfl := Option.some.inj H
      go_enter Tryz.func67, Tryz.ntmps67
      go_wp2
      go_ret
      exact ⟨by first | rfl | (simp [errW_none, errW_some] <;> rfl) | (simp [*, errW_none, errW_some] <;> rfl), by repeat (first | (with_reducible first | exact HB.out | apply below_alloc | apply pw_below_drewN | apply below_drew1) | exact HB.out)⟩
    · rw [if_neg c3] at H
      have c3b0 : (a0.toList == ([47] : List UInt8)) = false := beq_eq_false_iff_ne.mpr c3
      have c3b1 : (a0.toList != ([47] : List UInt8)) = true := bne_iff_ne.mpr c3
      have HC4 := Aside0.mk H
      clear H
      go_enter Tryz.func67, Tryz.ntmps67
      go_upto_region 5 with (fail)
      go_cut [17] (fun v17 wc => ∃ (kq : Nat) (x17_3 : Bool), v17 = .bool x17_3 ∧ Aside0 (donjonref7_Check.j0 kq a0 x17_3 = some r) ∧ Aside0 (kq ≤ k) ∧ Aside0 (Below w.heap.size w wc))
      case first =>
        have H := HC4.out
        clear HC4
        by_cases c5 : (a0.size : Int) < 2
        · rw [if_pos c5] at H
          have c5b0 : decide ((a0.size : Int) < 2) = true := decide_eq_true c5
          have c5b1 : decide (a0.size < 2) = true := decide_eq_true (by omega)
          clear c5
          (first | rw [c5b0] | (simp only [i64_w, i32_w]; rw [c5b0]) | skip)
          have H' := Aside0.mk H
          clear H
          go_wp2
          go_meet
          case rel => exact ⟨_, (true), (by first | rfl | (simp; done) | (simp [*]; done)), H', ⟨by first | omega | exact Nat.le_refl _⟩, ⟨by repeat (first | (with_reducible first | exact HB.out | apply below_alloc | apply pw_below_drewN | apply below_drew1) | exact HB.out)⟩⟩
        · rw [if_neg c5] at H
          have c5b0 : decide ((a0.size : Int) < 2) = false := decide_eq_false c5
          have c5b1 : decide (a0.size < 2) = false := decide_eq_false (by omega)
          clear c5
          (first | rw [c5b0] | (simp only [i64_w, i32_w]; rw [c5b0]) | skip)
          by_cases c6 : 0 < (a0.size : Int)
          · rw [if_pos c6] at H
            have c6b0 : decide (0 < (a0.size : Int)) = true := decide_eq_true c6
            have c6b1 : decide (0 < a0.size) = true := decide_eq_true (by omega)
            clear c6
            have H' := Aside0.mk H
            clear H
            have p7 : 0 ≤ (0 : Int) := (by omega)
            have q7 : 0 < a0.size := (by have : (0 : Int) < (a0.size : Int) := of_decide_eq_true (by first | (with_reducible assumption) | assumption); omega)
            have hx7 : ∀ h : 0 < a0.size, ((a0[0]'h).toNat : Int) = bt a0 0 := bt_at a0 0
            clear p7
            have qi7 : (0 < (a0.size : Int)) = True := eq_true (of_decide_eq_true (by first | (with_reducible assumption) | assumption))
            replace q7 := eq_true q7
            go_wp2
            go_meet
            case rel => exact ⟨_, (((bt a0 0) != 47)), (by first | rfl | (simp; done) | (simp [*]; done)), H', ⟨by first | omega | exact Nat.le_refl _⟩, ⟨by repeat (first | (with_reducible first | exact HB.out | apply below_alloc | apply pw_below_drewN | apply below_drew1) | exact HB.out)⟩⟩
          · rw [if_neg c6] at H
            exact absurd H (by simp)
      case rest =>
        clear HC4
        try clear c2
        try clear c2b0
        try clear c2b1
        try clear p2
        try clear c3
        try clear c3b0
        try clear c3b1
        try clear c5
        try clear c5b0
        try clear c5b1
        try clear c6
        try clear c6b0
        try clear c6b1
        try clear p7
        try clear q7
        try clear hx7
        try clear qi7
        try clear p7
        try clear q7
        obtain ⟨kq, x17_3, rfl, HA, HJ3, HB⟩ := hcut
        cases kq with
        | zero => exact absurd HA.out (by simp [donjonref7_Check.j0])
        | succ kj3 =>
          have H := HA.out
          clear HA
          simp only [donjonref7_Check.j0] at H
          by_cases c8 : x17_3 = true
          · subst c8
            have H1 : (some 1) = some r := by rw [if_pos rfl] at H; exact H
            clear H
            have H := H1
            clear H1
            obtain rfl := Option.some.inj H
            go_wp2
            go_ret
            exact ⟨by first | rfl | (simp [errW_none, errW_some] <;> rfl) | (simp [*, errW_none, errW_some] <;> rfl), by repeat (first | (with_reducible first | exact HB.out | apply below_alloc | apply pw_below_drewN | apply below_drew1) | exact HB.out)⟩
          · replace c8 := Bool.eq_false_iff.mpr c8
            subst c8
            have H1 : ((donjonref7_Parts.f kj3 a0).bind fun t123 => (if (t123.length : Int) > 6 then (some 1) else (donjonref7_Check.l0 kj3 t123 0))) = some r := by rw [if_neg (show ¬ (false = true) by decide)] at H; exact H
            clear H
            have H := H1
            clear H1
            replace H := Option.bind_eq_some_iff.mp H
            obtain ⟨t123, A90, H⟩ := H
            replace H : (if (t123.length : Int) > 6 then (some 1) else (donjonref7_Check.l0 kj3 t123 0)) = some r := H
            have A9 := Aside0.mk A90
            clear A90
            by_cases c10 : (t123.length : Int) > 6
            · rw [if_pos c10] at H
              have c10b0 : decide (6 < (t123.length : Int)) = true := decide_eq_true c10
              have c10b1 : decide (6 < t123.length) = true := decide_eq_true (by omega)
              clear c10
              obtain rfl := Option.some.inj H
              go_wp2_with (first | ((with_reducible refine gate_callee (f := 68) rfl ?_); refine goesL_ (some 19) rfl rfl Tryz.func68 (by kernel_rfl) rfl #[.string a0] rfl (by (try simp only [List.map_toArray, List.map_cons, List.map_nil]); first | done | rfl | (simp only [List.length_drop, List.length_take]; rfl)) ?_; (with_reducible refine (donjonref7_Parts.calls kj3 a0 t123 _ A9.out).mono ?_); rintro e w11 ⟨v124, rfl, ho0, hb⟩; refine ⟨_, rfl, ?_⟩; have n0_ := Aside0.mk (Kd.R_lower ho0 (below_size (by repeat (first | (with_reducible first | exact HB.out | apply below_alloc | apply pw_below_drewN | apply below_drew1) | exact HB.out)))); have n1_ := Aside0.mk (below_step (by repeat (first | (with_reducible first | exact HB.out | apply below_alloc | apply pw_below_drewN | apply below_drew1) | exact HB.out)) hb); clear HB; have HO125 := n0_; have HB := n1_; clear n0_ n1_; (try clear hb); (try clear hb2); (try clear hk); (try clear hi); (try clear ho0); obtain ⟨Ao12, co12, eo12⟩ := Kd.R_slice HO125.out; subst eo12))
              go_ret
              exact ⟨by first | rfl | (simp [errW_none, errW_some] <;> rfl) | (simp [*, errW_none, errW_some] <;> rfl), by repeat (first | (with_reducible first | exact HB.out | apply below_alloc | apply pw_below_drewN | apply below_drew1) | exact HB.out)⟩
            · rw [if_neg c10] at H
              have c10b0 : decide (6 < (t123.length : Int)) = false := decide_eq_false c10
              have c10b1 : decide (6 < t123.length) = false := decide_eq_false (by omega)
              clear c10
              have H' := Aside0.mk H
              clear H
              go_wp2_with (first | ((with_reducible refine gate_callee (f := 68) rfl ?_); refine goesL_ (some 19) rfl rfl Tryz.func68 (by kernel_rfl) rfl #[.string a0] rfl (by (try simp only [List.map_toArray, List.map_cons, List.map_nil]); first | done | rfl | (simp only [List.length_drop, List.length_take]; rfl)) ?_; (with_reducible refine (donjonref7_Parts.calls kj3 a0 t123 _ A9.out).mono ?_); rintro e w13 ⟨v124, rfl, ho0, hb⟩; refine ⟨_, rfl, ?_⟩; have n0_ := Aside0.mk (Kd.R_lower ho0 (below_size (by repeat (first | (with_reducible first | exact HB.out | apply below_alloc | apply pw_below_drewN | apply below_drew1) | exact HB.out)))); have n1_ := Aside0.mk (below_step (by repeat (first | (with_reducible first | exact HB.out | apply below_alloc | apply pw_below_drewN | apply below_drew1) | exact HB.out)) hb); clear HB; have HO125 := n0_; have HB := n1_; clear n0_ n1_; (try clear hb); (try clear hb2); (try clear hk); (try clear hi); (try clear ho0); obtain ⟨Ao14, co14, eo14⟩ := Kd.R_slice HO125.out; subst eo14))
              go_loopg [4] kj3 (fun kq v4 w' => ∃ (x4_2 : Int), v4 = .int .i64 x4_2 ∧ Aside0 (donjonref7_Check.l0 kq t123 x4_2 = some r) ∧ Aside0 (kq ≤ kj3) ∧ Aside0 (Kd.R Kd.string 9 w' w.heap.size (fun _ => True) (.slice Ao14 t123.length co14) t123) ∧ Aside0 (Below w.heap.size w w'))
              case atStart => exact ⟨(0), (by first | rfl | (simp; done) | (simp [*]; done)), H', ⟨Nat.le_refl _⟩, ⟨by (with_reducible repeat (first | apply Kd.R_alloc | apply Kd.R_drewN | apply Kd.R_drew)); exact HO125.out⟩, ⟨by repeat (first | (with_reducible first | exact HB.out | apply below_alloc | apply pw_below_drewN | apply below_drew1) | exact HB.out)⟩⟩
              case round =>
                clear H'
                try clear c1
                try clear c2
                try clear c2b0
                try clear c2b1
                try clear p2
                try clear c3
                try clear c3b0
                try clear c3b1
                try clear c5
                try clear c5b0
                try clear c5b1
                try clear c6
                try clear c6b0
                try clear c6b1
                try clear p7
                try clear q7
                try clear hx7
                try clear qi7
                try clear c8
                try clear c10
                try clear c10b0
                try clear c10b1
                try clear p2
                try clear p7
                try clear q7
                obtain ⟨x4_2, rfl, HA, HK2, HO_3, HB⟩ := hrel
                cases gk with
                | zero => exact absurd HA.out (by simp [donjonref7_Check.l0])
                | succ k2 =>
                  have H := HA.out
                  clear HA
                  simp only [donjonref7_Check.l0] at H
                  by_cases c15 : x4_2 < (t123.length : Int)
                  · rw [if_pos c15] at H
                    have c15b0 : decide (x4_2 < (t123.length : Int)) = true := decide_eq_true c15
                    clear c15
                    by_cases c16 : 0 ≤ x4_2
                    · rw [if_pos c16] at H
                      have c16b0 : decide (0 ≤ x4_2) = true := decide_eq_true c16
                      clear c16
                      replace H := Option.bind_eq_some_iff.mp H
                      obtain ⟨t127, A170, H⟩ := H
                      replace H : (if t127 = true then (donjonref7_Check.l0 k2 t123 (wrap64 (x4_2 + 1))) else (some 1)) = some r := H
                      have A17 := Aside0.mk A170
                      clear A170
                      by_cases c18 : t127 = true
                      · subst c18
                        have H1 : (donjonref7_Check.l0 k2 t123 (wrap64 (x4_2 + 1))) = some r := by rw [if_pos rfl] at H; exact H
                        clear H
                        have H := H1
                        clear H1
                        have H' := Aside0.mk H
                        clear H
                        have p126 : 0 ≤ (x4_2 : Int) := of_decide_eq_true (by first | (with_reducible assumption) | assumption)
                        have q126 : x4_2 < (t123.length : Int) := of_decide_eq_true (by first | (with_reducible assumption) | assumption)
                        obtain ⟨ad126, e126, hx126_0⟩ := Kd.at_string (Kd.R_reads' HO_3.out).2.2 x4_2 p126 q126
                        cases e126
                        replace p126 := eq_true p126
                        replace q126 := eq_true q126
                        go_wp2_with (first | ((with_reducible refine gate_callee (f := 94) rfl ?_); refine goesL_ (some 33) rfl rfl Tryz.func94 (by kernel_rfl) rfl #[.string (rdOf ByteArray.empty t123 x4_2)] rfl (by (try simp only [List.map_toArray, List.map_cons, List.map_nil]); first | done | rfl | (simp only [List.length_drop, List.length_take]; rfl)) ?_; (with_reducible refine (donjonref7_Name.calls k2 (rdOf ByteArray.empty t123 x4_2) true _ A17.out).mono ?_); rintro e w' ⟨rfl, ⟨nd, rfl⟩⟩; refine ⟨_, rfl, ?_⟩))
                        go_roundg k2
                        case measure => have := HJ3.out; have := HK2.out; omega
                        case rel => exact ⟨(wrap64 (x4_2 + 1)), (by first | rfl | (simp; done) | (simp [*]; done)), H', ⟨by have := HJ3.out; have := HK2.out; omega⟩, ⟨by (with_reducible repeat (first | apply Kd.R_alloc | apply Kd.R_drewN | apply Kd.R_drew)); exact HO_3.out⟩, ⟨by repeat (first | (with_reducible first | exact HB.out | apply below_alloc | apply pw_below_drewN | apply below_drew1) | exact HB.out)⟩⟩
                      · replace c18 := Bool.eq_false_iff.mpr c18
                        subst c18
                        have H1 : (some 1) = some r := by rw [if_neg (show ¬ (false = true) by decide)] at H; exact H
                        clear H
                        have H := H1
                        clear H1
                        obtain rfl := Option.some.inj H
                        have p126 : 0 ≤ (x4_2 : Int) := of_decide_eq_true (by first | (with_reducible assumption) | assumption)
                        have q126 : x4_2 < (t123.length : Int) := of_decide_eq_true (by first | (with_reducible assumption) | assumption)
                        obtain ⟨ad126, e126, hx126_0⟩ := Kd.at_string (Kd.R_reads' HO_3.out).2.2 x4_2 p126 q126
                        cases e126
                        replace p126 := eq_true p126
                        replace q126 := eq_true q126
                        go_wp2_with (first | ((with_reducible refine gate_callee (f := 94) rfl ?_); refine goesL_ (some 33) rfl rfl Tryz.func94 (by kernel_rfl) rfl #[.string (rdOf ByteArray.empty t123 x4_2)] rfl (by (try simp only [List.map_toArray, List.map_cons, List.map_nil]); first | done | rfl | (simp only [List.length_drop, List.length_take]; rfl)) ?_; (with_reducible refine (donjonref7_Name.calls k2 (rdOf ByteArray.empty t123 x4_2) false _ A17.out).mono ?_); rintro e w' ⟨rfl, ⟨nd, rfl⟩⟩; refine ⟨_, rfl, ?_⟩))
                        go_ret
                        exact ⟨by first | rfl | (simp [errW_none, errW_some] <;> rfl) | (simp [*, errW_none, errW_some] <;> rfl), by repeat (first | (with_reducible first | exact HB.out | apply below_alloc | apply pw_below_drewN | apply below_drew1) | exact HB.out)⟩
                    · rw [if_neg c16] at H
                      exact absurd H (by simp)
                  · rw [if_neg c15] at H
                    have c15b0 : decide (x4_2 < (t123.length : Int)) = false := decide_eq_false c15
                    clear c15
                    obtain rfl := Option.some.inj H
                    go_wp2
                    go_ret
                    exact ⟨by first | rfl | (simp [errW_none, errW_some] <;> rfl) | (simp [*, errW_none, errW_some] <;> rfl), by repeat (first | (with_reducible first | exact HB.out | apply below_alloc | apply pw_below_drewN | apply below_drew1) | exact HB.out)⟩
end Go.Proofs.YteilkbookcmndaaGreatDoor.P
end
section
namespace Go.Proofs.YteilkbookcmndaaGreatDoor.P
open Go.RowKit Go.Proofs.YteilkbookcmndaaGreatDoorW.PrintWords Go.Proofs.YteilkbookcmndaaGreatDoorW.PrintLast Go.Proofs.YteilkbookcmndaaGreatDoor.L
theorem all_drop (s : ByteArray) (n : Nat) (h : n < s.data.toList.length) : (s.data.toList.drop n).all nameByte = (nameByte (s.data.toList[n]'h) && (s.data.toList.drop (n + 1)).all nameByte) := by
  rw [List.drop_eq_getElem_cons h, List.all_cons]
theorem ref_name_l0 (s : ByteArray) (hs : s.size ≤ 140737488351232) (d : Nat) : ∀ (k i : Nat), i ≤ s.size → s.size - i = d → d < k →
    donjonref7_Name.l0 k s (i : Int) = some ((s.data.toList.drop i).all nameByte && (decide (1 ≤ s.size) && decide (s.size ≤ 12))) := by
  have hz := Lib.size_eq s
  induction d with
  | zero =>
    intro k i h1 hd hk
    obtain ⟨k, rfl⟩ : ∃ m, k = m + 1 := ⟨k - 1, by omega⟩
    simp only [donjonref7_Name.l0]
    rw [if_neg (by omega), List.drop_of_length_le (by omega)]
    by_cases h : 1 ≤ s.size
    · rw [if_pos (by omega)]
      simp [h]
      omega
    · rw [if_neg (by omega)]
      simp [h]
  | succ d ih =>
    intro k i h1 hd hk
    obtain ⟨k, rfl⟩ : ∃ m, k = m + 1 := ⟨k - 1, by omega⟩
    have hlt : i < s.data.toList.length := by omega
    have hn := ih k (i + 1) (by omega) (by omega) (by omega)
    rw [all_drop s i hlt]
    have hb := bt_nat s i hlt
    simp only [donjonref7_Name.l0]
    rw [if_pos (by omega), if_pos (by omega), hb, wrap_succ (n := s.size) (by omega) (by omega) (by omega)]
    rw [show ((i : Int) + 1) = ((i + 1 : Nat) : Int) from rfl, hn]
    generalize s.data.toList[i]'hlt = b
    unfold nameByte
    have hb2 : b.toNat < 256 := b.toNat_lt
    by_cases h1 : b.toNat < 97
    · rw [if_pos (by omega)]
      by_cases h2 : b.toNat < 48
      · rw [if_pos (by omega)]
        simp [show ¬ 97 ≤ b.toNat by omega, show ¬ 48 ≤ b.toNat by omega]
      · rw [if_neg (by omega)]
        by_cases h3 : b.toNat > 57
        · rw [if_pos (by omega)]
          simp [show ¬ 97 ≤ b.toNat by omega, show ¬ b.toNat ≤ 57 by omega]
        · rw [if_neg (by omega)]
          simp [show 48 ≤ b.toNat by omega, show b.toNat ≤ 57 by omega]
    · rw [if_neg (by omega)]
      by_cases h2 : b.toNat > 122
      · rw [if_pos (by omega), if_neg (by omega), if_pos (by omega)]
        simp [show ¬ b.toNat ≤ 122 by omega, show ¬ b.toNat ≤ 57 by omega]
      · rw [if_neg (by omega)]
        simp [show 97 ≤ b.toNat by omega, show b.toNat ≤ 122 by omega]
theorem ref_name (s : ByteArray) (hs : s.size ≤ 140737488351232) (k : Nat) (hk : s.size < k) : donjonref7_Name.f k s = some (nameB s) := by
  unfold donjonref7_Name.f
  have h := ref_name_l0 s hs s.size k 0 (Nat.zero_le _) (by omega) hk
  rw [show ((0 : Nat) : Int) = 0 from rfl] at h
  rw [h]
  rfl
def pieces (s : ByteArray) : List ByteArray := (splitL s.data.toList).map fun l => ⟨l.toArray⟩
theorem pieces_data (s : ByteArray) : (pieces s).map (·.data.toList) = splitL s.data.toList := by
  unfold pieces
  rw [List.map_map]
  conv => rhs; rw [← List.map_id (splitL s.data.toList)]
  exact List.map_congr_left fun l _ => rfl
theorem list_ext_data : ∀ {a b : List ByteArray}, a.map (·.data.toList) = b.map (·.data.toList) → a = b
  | [], [], _ => rfl
  | [], y :: b, h => by simp at h
  | x :: a, [], h => by simp at h
  | x :: a, y :: b, h => by
    simp only [List.map_cons, List.cons.injEq] at h
    rw [bytes_ext h.1, list_ext_data h.2]
theorem split_f (s : ByteArray) (hs : s.size < 4294967281) : strings_Split.f s ⟨#[47]⟩ = some (pieces s) := by
  unfold strings_Split.f
  rw [if_pos ⟨rfl, hs⟩]
  congr 1
  apply list_ext_data
  rw [pieces_data, Lib.splitB_data, ← splitK_slash]
  first | done | rfl
theorem rdOf_nat (xs : List ByteArray) (i : Nat) (h : i < xs.length) : rdOf ByteArray.empty xs (i : Int) = xs[i]'h := by
  unfold rdOf
  rw [Int.toNat_natCast, List.getD_eq_getElem?_getD, List.getElem?_eq_getElem h]
  rfl
theorem path_names (xs : List ByteArray) (hx : xs.length ≤ 4294967281) (d : Nat) : ∀ (k i : Nat), i ≤ xs.length → xs.length - i = d → d < k →
    path_Check.l0 k xs (xs.length : Int) (i : Int) = some (if (xs.drop i).all nameB then 0 else 1) := by
  induction d with
  | zero =>
    intro k i h1 hd hk
    obtain ⟨k, rfl⟩ : ∃ m, k = m + 1 := ⟨k - 1, by omega⟩
    simp only [path_Check.l0]
    rw [if_neg (by omega), List.drop_of_length_le (by omega)]
    rfl
  | succ d ih =>
    intro k i h1 hd hk
    obtain ⟨k, rfl⟩ : ∃ m, k = m + 1 := ⟨k - 1, by omega⟩
    have hlt : i < xs.length := by omega
    have hn := ih k (i + 1) (by omega) (by omega) (by omega)
    rw [List.drop_eq_getElem_cons hlt, List.all_cons]
    simp only [path_Check.l0]
    rw [if_pos (by omega), if_pos (by omega), if_pos (by omega), rdOf_nat xs i hlt]
    unfold path_Name.f
    simp only [Option.bind_some]
    cases hb : nameB (xs[i]'hlt) with
    | true =>
      rw [if_pos rfl, wrap_succ (n := xs.length) (by omega) (by omega) (by omega), show ((i : Int) + 1) = ((i + 1 : Nat) : Int) from rfl, hn]
      simp
    | false =>
      rw [if_neg (by decide)]
      simp
theorem pieces_all (l : List (List UInt8)) : (l.map fun x => (⟨x.toArray⟩ : ByteArray)).all nameB = l.all nameL := by
  rw [List.all_map]
  exact congrArg (fun p => l.all p) (funext fun x => nameB_eq _)
theorem path_check (s : ByteArray) (k : Nat) (hk : 90 < k) : path_Check.f k s = some (checkL s.data.toList) := by
  unfold path_Check.f checkL
  have hz := Lib.size_eq s
  rw [Lib.toList_data]
  by_cases h1 : s.size > 78
  · rw [if_pos (show (s.size : Int) > 78 by omega), if_pos (show s.data.toList.length > 78 by omega)]
  · rw [if_neg (show ¬ (s.size : Int) > 78 by omega), if_neg (show ¬ s.data.toList.length > 78 by omega)]
    by_cases h2 : s.data.toList = [47]
    · rw [if_pos h2, if_pos h2]
    · rw [if_neg h2, if_neg h2, split_f s (by omega)]
      simp only [Option.bind_some]
      obtain ⟨k, rfl⟩ : ∃ m, k = m + 1 := ⟨k - 1, by omega⟩
      have hl78 : s.data.toList.length ≤ 78 := by omega
      generalize hl : s.data.toList = l at h2 hl78
      unfold pieces
      rw [hl]
      cases l with
      | nil =>
        simp [splitL, path_Check.j0, rdOf, Lib.toList_data]
      | cons c t =>
        by_cases hc : c = 47
        · subst hc
          rw [splitL_slash, List.map_cons]
          simp only [ne_eq, not_true_eq_false, if_false]
          have hlen : ∀ m : List UInt8, (splitL m).length ≤ m.length + 1 := by
            intro m
            induction m with
            | nil => simp [splitL]
            | cons a m ih =>
              by_cases ha : a = 47
              · subst ha; rw [splitL_slash]; simp; omega
              · obtain ⟨b, u, e1, e2⟩ := splitL_other a m ha
                rw [e2]; rw [e1] at ih; simp at ih ⊢; omega
          have hm := hlen t
          have hne : 1 ≤ (splitL t).length := by
            cases h : splitL t with
            | nil => exact absurd h (splitL_ne t)
            | cons _ _ => simp
          simp only [List.length_cons] at hl78
          generalize hp : splitL t = ps at hm hne
          have e0 : rdOf ByteArray.empty ((⟨([] : List UInt8).toArray⟩ : ByteArray) :: ps.map fun x => ⟨x.toArray⟩) 0 = ⟨([] : List UInt8).toArray⟩ := rfl
          rw [if_pos (by simp), e0, if_pos (by rw [Lib.toList_data])]
          have ePL : ((((⟨([] : List UInt8).toArray⟩ : ByteArray) :: ps.map fun x => ⟨x.toArray⟩).length : Nat) : Int) = (ps.length : Int) + 1 := by simp
          rw [ePL, if_neg (by omega)]
          simp only [path_Check.j0]
          by_cases h6 : ps.length > 6
          · rw [if_pos (by simp; omega), if_pos h6]
          · rw [if_neg (by simp; omega), if_neg h6, if_pos (by simp; omega)]
            simp only [Option.bind_some, List.drop_succ_cons, List.drop_zero]
            have h := path_names (ps.map fun x => (⟨x.toArray⟩ : ByteArray)) (by simp; omega) ps.length k 0 (Nat.zero_le _) (by simp) (by omega)
            rw [show ((0 : Nat) : Int) = 0 from rfl, List.drop_zero, pieces_all] at h
            rw [h]
        · obtain ⟨a, u, e1, e2⟩ := splitL_other c t hc
          rw [e2, List.map_cons]
          have e0 : rdOf ByteArray.empty ((⟨(c :: a).toArray⟩ : ByteArray) :: u.map fun x => ⟨x.toArray⟩) 0 = ⟨(c :: a).toArray⟩ := rfl
          rw [if_pos (by simp), e0, if_neg (by rw [Lib.toList_data]; simp)]
          simp only [path_Check.j0, if_true]
          rw [if_pos hc]
theorem splitL_length_le : ∀ m : List UInt8, (splitL m).length ≤ m.length + 1
  | [] => by simp [splitL]
  | a :: m => by
    have ih := splitL_length_le m
    by_cases ha : a = 47
    · subst ha; rw [splitL_slash]; simp; omega
    · obtain ⟨b, u, e1, e2⟩ := splitL_other a m ha
      rw [e2]; rw [e1] at ih; simp at ih ⊢; omega
theorem extract_pieces (s : ByteArray) (a b : Nat) (l : List UInt8) (h : l = (s.data.toList.drop a).take (b - a)) : s.extract a b = ⟨l.toArray⟩ := by
  apply bytes_ext
  rw [Lib.extract_data, h]
theorem ref_parts_l0 (s : ByteArray) (hs : s.size ≤ 4294967281) (h2 : 2 ≤ s.size) (d : Nat) : ∀ (k i a : Nat) (acc : List ByteArray), a ≤ i → i ≤ s.size → s.size - i = d → acc.length ≤ i → 2 * d + 8 < k →
    (∀ c ∈ (s.data.toList.drop a).take (i - a), c ≠ 47) →
    donjonref7_Parts.l0 k s acc (a : Int) (i : Int) = some (acc ++ ((splitL (s.data.toList.drop a)).map fun l => ⟨l.toArray⟩)) := by
  have hz := Lib.size_eq s
  induction d with
  | zero =>
    intro k i a acc hai hi hd hacc hk hpre
    obtain ⟨k, rfl⟩ : ∃ m, k = m + 4 := ⟨k - 4, by omega⟩
    have hie : i = s.size := by omega
    subst hie
    rw [List.take_of_length_le (by simp <;> omega)] at hpre
    rw [splitL_one _ hpre]
    simp only [donjonref7_Parts.l0]
    rw [if_pos (by omega)]
    simp only [donjonref7_Parts.j1]
    rw [if_pos (by simp; omega), if_pos trivial, if_pos (show (0 : Int) ≤ (a : Int) by omega), if_pos (show (a : Int) ≤ (s.size : Int) by omega), if_pos (Int.le_refl _), if_pos (show acc.length < 8796093022208 by omega)]
    simp only [donjonref7_Parts.l0]
    rw [wrap_succ (n := 9223372036854775807) (by omega) (by omega) (by omega), if_neg (by omega)]
    simp only [donjonref7_Parts.j1]
    rw [if_neg (by decide)]
    simp only [Int.toNat_natCast, List.map_cons, List.map_nil]
    rw [extract_pieces s a s.size (s.data.toList.drop a) (by rw [List.take_of_length_le]; simp <;> omega)]
  | succ d ih =>
    intro k i a acc hai hi hd hacc hk hpre
    obtain ⟨k, rfl⟩ : ∃ m, k = m + 2 := ⟨k - 2, by omega⟩
    have hlt : i < s.data.toList.length := by omega
    have hb := bt_nat s i hlt
    have hsplit : s.data.toList.drop a = (s.data.toList.drop a).take (i - a) ++ (s.data.toList[i]'hlt) :: s.data.toList.drop (i + 1) := by
      have e1 := (List.take_append_drop (i - a) (s.data.toList.drop a)).symm
      rw [List.drop_drop, show a + (i - a) = i from by omega, List.drop_eq_getElem_cons hlt] at e1
      exact e1
    simp only [donjonref7_Parts.l0]
    rw [if_pos (show (i : Int) ≤ (s.size : Int) by omega)]
    simp only [donjonref7_Parts.j1]
    rw [if_pos (by simp; omega), if_neg (show ¬ (i : Int) = (s.size : Int) by omega), if_pos (show (0 : Int) ≤ (i : Int) by omega), if_pos (show (i : Int) < (s.size : Int) by omega), hb]
    rw [wrap_succ (n := 9223372036854775807) (by omega) (by omega) (by omega)]
    by_cases hc : s.data.toList[i]'hlt = 47
    · rw [if_pos (by rw [hc]; rfl), if_pos (show (0 : Int) ≤ (a : Int) by omega), if_pos (show (a : Int) ≤ (i : Int) by omega), if_pos (show (i : Int) ≤ (s.size : Int) by omega), if_pos (show acc.length < 8796093022208 by omega)]
      have h := ih k (i + 1) (i + 1) (acc ++ [s.extract a i]) (Nat.le_refl _) (by omega) (by omega) (by simp; omega) (by omega) (by simp)
      simp only [Int.toNat_natCast]
      rw [show ((i : Int) + 1) = ((i + 1 : Nat) : Int) from rfl, h]
      rw [hc] at hsplit
      rw [hsplit, splitL_cut _ _ hpre, extract_pieces s a i _ rfl]
      simp
    · rw [if_neg (show ¬ (((s.data.toList[i]'hlt).toNat : Nat) : Int) = 47 from fun h => hc (UInt8.toNat_inj.1 (by rw [show (47 : UInt8).toNat = 47 from rfl]; omega)))]
      have h := ih k (i + 1) a acc (by omega) (by omega) (by omega) (by omega) (by omega) (by
        rw [show i + 1 - a = (i - a) + 1 from by omega]
        intro c hcm
        rw [List.take_succ_eq_append_getElem (by simp; omega)] at hcm
        rcases List.mem_append.1 hcm with hm | hm
        · exact hpre c hm
        · have : c = s.data.toList[i]'hlt := by
            simp at hm
            rw [hm]
            congr 1
            omega
          rw [this]; exact hc)
      rw [show ((i : Int) + 1) = ((i + 1 : Nat) : Int) from rfl, h]
theorem ref_parts (s : ByteArray) (hs : s.size ≤ 4294967281) (k : Nat) (hk : 2 * s.size + 10 < k) :
    donjonref7_Parts.f k s = some (if 2 ≤ s.size then (splitL (s.data.toList.drop 1)).map fun l => ⟨l.toArray⟩ else []) := by
  unfold donjonref7_Parts.f
  by_cases h : 2 ≤ s.size
  · have e := ref_parts_l0 s hs h (s.size - 1) k 1 1 [] (Nat.le_refl _) (by omega) (by omega) (by simp) (by omega) (by simp)
    rw [show ((1 : Nat) : Int) = 1 from rfl] at e
    rw [e, if_pos h]
    simp
  · obtain ⟨k, rfl⟩ : ∃ m, k = m + 2 := ⟨k - 2, by omega⟩
    rw [if_neg h]
    simp only [donjonref7_Parts.l0]
    by_cases h1 : (1 : Int) ≤ (s.size : Int)
    · rw [if_pos h1]
      simp only [donjonref7_Parts.j1]
      rw [if_neg (by simp; omega)]
    · rw [if_neg h1]
      simp only [donjonref7_Parts.j1]
      rw [if_neg (by decide)]
theorem ref_names (xs : List ByteArray) (hx : xs.length ≤ 4294967281) (hb : ∀ x ∈ xs, x.size ≤ 1000) (d : Nat) : ∀ (k i : Nat), i ≤ xs.length → xs.length - i = d → d + 1001 < k →
    donjonref7_Check.l0 k xs (i : Int) = some (if (xs.drop i).all nameB then 0 else 1) := by
  induction d with
  | zero =>
    intro k i h1 hd hk
    obtain ⟨k, rfl⟩ : ∃ m, k = m + 1 := ⟨k - 1, by omega⟩
    simp only [donjonref7_Check.l0]
    rw [if_neg (by omega), List.drop_of_length_le (by omega)]
    rfl
  | succ d ih =>
    intro k i h1 hd hk
    obtain ⟨k, rfl⟩ : ∃ m, k = m + 1 := ⟨k - 1, by omega⟩
    have hlt : i < xs.length := by omega
    have hn := ih k (i + 1) (by omega) (by omega) (by omega)
    have hsz := hb (xs[i]'hlt) (List.getElem_mem hlt)
    rw [List.drop_eq_getElem_cons hlt, List.all_cons]
    simp only [donjonref7_Check.l0]
    rw [if_pos (by omega), if_pos (by omega), rdOf_nat xs i hlt, ref_name _ (by omega) k (by omega)]
    simp only [Option.bind_some]
    cases hb : nameB (xs[i]'hlt) with
    | true =>
      rw [if_pos rfl, wrap_succ (n := xs.length) (by omega) (by omega) (by omega), show ((i : Int) + 1) = ((i + 1 : Nat) : Int) from rfl, hn]
      simp
    | false =>
      rw [if_neg (by decide)]
      simp
theorem splitL_short (m : List UInt8) : ∀ x ∈ splitL m, x.length ≤ m.length := by
  induction m with
  | nil => simp [splitL]
  | cons a m ih =>
    by_cases ha : a = 47
    · subst ha
      rw [splitL_slash]
      intro x hx
      rcases List.mem_cons.1 hx with rfl | hx
      · simp
      · have := ih x hx; simp; omega
    · obtain ⟨b, u, e1, e2⟩ := splitL_other a m ha
      rw [e2]; rw [e1] at ih
      intro x hx
      rcases List.mem_cons.1 hx with rfl | hx
      · have := ih b List.mem_cons_self; simp; omega
      · have := ih x (List.mem_cons_of_mem _ hx); simp; omega
theorem ref_check (s : ByteArray) (k : Nat) (hk : 1200 < k) : donjonref7_Check.f k s = some (checkL s.data.toList) := by
  unfold donjonref7_Check.f checkL
  have hz := Lib.size_eq s
  rw [Lib.toList_data]
  by_cases h1 : s.size > 78
  · rw [if_pos (show (s.size : Int) > 78 by omega), if_pos (show s.data.toList.length > 78 by omega)]
  · rw [if_neg (show ¬ (s.size : Int) > 78 by omega), if_neg (show ¬ s.data.toList.length > 78 by omega)]
    by_cases h2 : s.data.toList = [47]
    · rw [if_pos h2, if_pos h2]
    · rw [if_neg h2, if_neg h2]
      obtain ⟨k, rfl⟩ : ∃ m, k = m + 1 := ⟨k - 1, by omega⟩
      cases hl : s.data.toList with
      | nil =>
        rw [hl] at hz
        simp only [List.length_nil] at hz
        rw [if_pos (by omega)]
        simp [donjonref7_Check.j0]
      | cons c t =>
        rw [hl] at hz h2
        have hb := bt_nat s 0 (by rw [hl]; simp)
        simp only [hl, List.getElem_cons_zero] at hb
        rw [show ((0 : Nat) : Int) = 0 from rfl] at hb
        simp only [List.length_cons] at hz
        by_cases hc : c = 47
        · subst hc
          have ht : t ≠ [] := fun h => h2 (by rw [h])
          have htl : 1 ≤ t.length := by cases t with | nil => exact absurd rfl ht | cons _ _ => simp
          rw [if_neg (by omega), if_pos (by omega), hb]
          simp only [donjonref7_Check.j0, ne_eq, not_true_eq_false, if_false]
          rw [if_neg (by decide), ref_parts s (by omega) k (by omega), if_pos (by omega), hl]
          simp only [Option.bind_some, List.drop_succ_cons, List.drop_zero]
          have hm := splitL_length_le t
          have hsh := splitL_short t
          generalize splitL t = ps at hm hsh
          by_cases h6 : ps.length > 6
          · rw [if_pos (by simp; omega), if_pos h6]
          · rw [if_neg (by simp; omega), if_neg h6]
            have h := ref_names (ps.map fun x => (⟨x.toArray⟩ : ByteArray)) (by simp; omega) (by
              intro x hx
              obtain ⟨l, hl, rfl⟩ := List.mem_map.1 hx
              have := hsh l hl
              rw [Lib.size_eq]
              show l.length ≤ 1000
              omega) ps.length k 0 (Nat.zero_le _) (by simp) (by omega)
            rw [show ((0 : Nat) : Int) = 0 from rfl, List.drop_zero, pieces_all] at h
            rw [h]
        · by_cases h3 : (s.size : Int) < 2
          · rw [if_pos h3]
            simp [donjonref7_Check.j0, hc]
          · rw [if_neg h3, if_pos (by omega), hb]
            have : (((c.toNat : Nat) : Int) != 47) = true := by
              rw [bne_iff_ne]
              intro h
              exact hc (UInt8.toNat_inj.1 (by rw [show (47 : UInt8).toNat = 47 from rfl]; omega))
            rw [this]
            simp [donjonref7_Check.j0, hc]
end Go.Proofs.YteilkbookcmndaaGreatDoor.P
end
section
namespace Go.Proofs.YteilkbookcmndaaGreatDoor.P
open Go.RowKit Go.Proofs.YteilkbookcmndaaGreatDoorW.PrintWords Go.Proofs.YteilkbookcmndaaGreatDoorW.PrintLast Go.Proofs.YteilkbookcmndaaGreatDoorW.PrintMore
attribute [local go_sem] max2_int min2_int max_two min_two max_three min_three -- for this text's walks alone
def path_Parts.f (a0 : ByteArray) : Option (List ByteArray) := if a0.toList = ([47] : List UInt8) then (some ([] : List ByteArray)) else (if a0.toList = ([] : List UInt8) then (some ([] : List ByteArray)) else (if 1 ≤ (a0.size : Int) then ((strings_Split.f (a0.extract 1 a0.size) (⟨#[47]⟩ : ByteArray)).bind fun t159 => (some t159)) else (none)))
set_option maxHeartbeats 8000000 in
set_option maxRecDepth 100000 in
theorem path_Parts.calls (a0 : ByteArray) (r : List ByteArray) (w : World) (h : path_Parts.f a0 = some r) :
    Calls Tryz.prog 56 #[.string a0] w fun e w' => ∃ v0_ : Value, e = .returned (v0_) ∧ Kd.R Kd.string 9 w' w.heap.size (fun _ => True) v0_ r ∧ Below w.heap.size w w' := by
  have HB := Aside0.mk (Below.refl w.heap.size w)
  have H : (if a0.toList = ([47] : List UInt8) then (some ([] : List ByteArray)) else (if a0.toList = ([] : List UInt8) then (some ([] : List ByteArray)) else (if 1 ≤ (a0.size : Int) then ((strings_Split.f (a0.extract 1 a0.size) (⟨#[47]⟩ : ByteArray)).bind fun t159 => (some t159)) else (none)))) = some r := h
  clear h
  by_cases c2 : a0.toList = ([47] : List UInt8)
  · rw [if_pos c2] at H
    have c2b0 : (a0.toList == ([47] : List UInt8)) = true := beq_iff_eq.mpr c2
    have c2b1 : (a0.toList != ([47] : List UInt8)) = false := bne_eq_false_iff_eq.mpr c2
    clear c2
    obtain rfl := Option.some.inj H
    go_enter Tryz.func56, Tryz.ntmps56
    go_wp2
    go_ret
    exact ⟨_, by first | rfl | (simp [errW_none, errW_some] <;> rfl) | (simp [*, errW_none, errW_some] <;> rfl), by first | exact Kd.R_nil _ _ _ _ _ | exact Kd.N_nil _ _ _ _ _ | exact Kd.V_nil _ _ _ _ _ | exact Kd.Q_nil _ _ _ _ _ | exact Kd.S_nil _ _ _ _ _, by repeat (first | (with_reducible first | exact HB.out | apply below_alloc | apply pw_below_drewN | apply below_drew1) | exact HB.out)⟩
  · rw [if_neg c2] at H
    have c2b0 : (a0.toList == ([47] : List UInt8)) = false := beq_eq_false_iff_ne.mpr c2
    have c2b1 : (a0.toList != ([47] : List UInt8)) = true := bne_iff_ne.mpr c2
    by_cases c3 : a0.toList = ([] : List UInt8)
    · rw [if_pos c3] at H
      have c3b0 : (a0.toList == ([] : List UInt8)) = true := beq_iff_eq.mpr c3
      have c3b1 : (a0.toList != ([] : List UInt8)) = false := bne_eq_false_iff_eq.mpr c3
      clear c3
      obtain rfl := Option.some.inj H
      go_enter Tryz.func56, Tryz.ntmps56
      go_wp2
      go_ret
      exact ⟨_, by first | rfl | (simp [errW_none, errW_some] <;> rfl) | (simp [*, errW_none, errW_some] <;> rfl), by first | exact Kd.R_nil _ _ _ _ _ | exact Kd.N_nil _ _ _ _ _ | exact Kd.V_nil _ _ _ _ _ | exact Kd.Q_nil _ _ _ _ _ | exact Kd.S_nil _ _ _ _ _, by repeat (first | (with_reducible first | exact HB.out | apply below_alloc | apply pw_below_drewN | apply below_drew1) | exact HB.out)⟩
    · rw [if_neg c3] at H
      have c3b0 : (a0.toList == ([] : List UInt8)) = false := beq_eq_false_iff_ne.mpr c3
      have c3b1 : (a0.toList != ([] : List UInt8)) = true := bne_iff_ne.mpr c3
      by_cases c4 : 1 ≤ (a0.size : Int)
      · rw [if_pos c4] at H
        have c4b0 := eq_true c4
        have c4b1 : decide (1 ≤ (a0.size : Int)) = true := decide_eq_true c4
        clear c4
        replace H := Option.bind_eq_some_iff.mp H
        obtain ⟨t159, A50, H⟩ := H
        replace H : (some t159) = some r := H
        have A5 := Aside0.mk A50
        clear A50
        obtain rfl := Option.some.inj H
        go_enter Tryz.func56, Tryz.ntmps56
        go_wp2_with (first | ((with_reducible refine gate_callee (f := 89) rfl ?_); refine goesL_ (some 11) rfl rfl Tryz.func89 (by kernel_rfl) rfl #[.string (a0.extract 1 a0.size), .string (⟨#[47]⟩ : ByteArray)] rfl (by (try simp only [List.map_toArray, List.map_cons, List.map_nil]); first | done | rfl | (simp only [List.length_drop, List.length_take]; rfl)) ?_; (with_reducible refine (strings_Split.calls (a0.extract 1 a0.size) (⟨#[47]⟩ : ByteArray) t159 _ A5.out).mono ?_); rintro e w6 ⟨v160, rfl, ho0, hb⟩; refine ⟨_, rfl, ?_⟩; have n0_ := Aside0.mk (Kd.R_lower ho0 (below_size (by repeat (first | (with_reducible first | exact HB.out | apply below_alloc | apply pw_below_drewN | apply below_drew1) | exact HB.out)))); have n1_ := Aside0.mk (below_step (by repeat (first | (with_reducible first | exact HB.out | apply below_alloc | apply pw_below_drewN | apply below_drew1) | exact HB.out)) hb); clear HB; have HO161 := n0_; have HB := n1_; clear n0_ n1_; (try clear hb); (try clear hb2); (try clear hk); (try clear hi); (try clear ho0)))
        go_ret
        exact ⟨_, by first | rfl | (simp [errW_none, errW_some] <;> rfl) | (simp [*, errW_none, errW_some] <;> rfl), by (with_reducible repeat (first | apply Kd.R_alloc | apply Kd.R_drewN | apply Kd.R_drew)); exact HO161.out, by repeat (first | (with_reducible first | exact HB.out | apply below_alloc | apply pw_below_drewN | apply below_drew1) | exact HB.out)⟩
      · rw [if_neg c4] at H
        exact absurd H (by simp)
end Go.Proofs.YteilkbookcmndaaGreatDoor.P
end
section
namespace Go.Proofs.YteilkbookcmndaaGreatDoor.P
open Go.RowKit Go.Proofs.YteilkbookcmndaaGreatDoorW.PrintWords Go.Proofs.YteilkbookcmndaaGreatDoorW.PrintLast Go.Proofs.YteilkbookcmndaaGreatDoor.L
theorem parts_f (s : ByteArray) (hs : s.size ≤ 4294967281) (ns : List (List UInt8)) (h : s.data.toList = render ns) (hn : ∀ x ∈ ns, Nm x) : path_Parts.f s = some (ns.map fun l => ⟨l.toArray⟩) := by
  unfold path_Parts.f
  have hz := Lib.size_eq s
  rw [Lib.toList_data]
  cases ns with
  | nil => rw [if_pos (show s.data.toList = [47] from h)]; rfl
  | cons n ns =>
    rw [if_neg (fun e => by have := (render_one hn).1 (h.symm.trans e); simp at this), if_neg (by rw [h]; exact render_ne _)]
    rw [render_cons] at h
    rw [h] at hz
    simp only [List.length_cons] at hz
    have he : (s.extract 1 s.size).data.toList = n ++ flat ns := by rw [Lib.extract_to_end, h]; rfl
    have hes : (s.extract 1 s.size).size < 4294967281 := by rw [Lib.size_eq, he]; omega
    rw [if_pos (by omega), split_f _ hes]
    unfold pieces
    rw [he, split_flat ns n (hn n List.mem_cons_self).1 (fun x hx => (hn x (List.mem_cons_of_mem _ hx)).1)]
    rfl
end Go.Proofs.YteilkbookcmndaaGreatDoor.P
end
section
namespace Go.Proofs.YteilkbookcmndaaGreatDoor.P
open Go.RowKit Go.Proofs.YteilkbookcmndaaGreatDoorW.PrintWords Go.Proofs.YteilkbookcmndaaGreatDoorW.PrintLast Go.Proofs.YteilkbookcmndaaGreatDoorW.PrintMore
attribute [local go_sem] max2_int min2_int max_two min_two max_three min_three -- for this text's walks alone
def donjonlaw7_within.f (a0 : Int) (a1 : Int) : Option (Int) := if a1 = 0 then (none) else (if (Int.tmod a0 a1) < 0 then (some (wrap64 ((Int.tmod a0 a1) + a1))) else (some (Int.tmod a0 a1)))
set_option maxHeartbeats 8000000 in
set_option maxRecDepth 100000 in
theorem donjonlaw7_within.calls (a0 : Int) (a1 : Int) (r : Int) (w : World) (h : donjonlaw7_within.f a0 a1 = some r) :
    Calls Tryz.prog 64 #[.int .i64 a0, .int .i64 a1] w fun e w' => e = .returned (.int .i64 r) ∧ Drawn0 w w' := by
  have H : (if a1 = 0 then (none) else (if (Int.tmod a0 a1) < 0 then (some (wrap64 ((Int.tmod a0 a1) + a1))) else (some (Int.tmod a0 a1)))) = some r := h
  clear h
  by_cases c3 : a1 = 0
  · rw [if_pos c3] at H
    exact absurd H (by simp)
  · rw [if_neg c3] at H
    have c3b0 : (a1 == 0) = false := beq_eq_false_iff_ne.mpr c3
    have c3b1 : (a1 != 0) = true := bne_iff_ne.mpr c3
    by_cases c4 : (Int.tmod a0 a1) < 0
    · rw [if_pos c4] at H
      have c4b0 : decide ((Int.tmod a0 a1) < 0) = true := decide_eq_true c4
      clear c4
      obtain rfl := Option.some.inj H
      go_enter Tryz.func64, Tryz.ntmps64
      go_wp2
      go_ret
      exact ⟨by first | rfl | (simp; done) | (simp [*]; done), by repeat (first | exact Drawn0.refl _ | apply Drawn0.step)⟩
    · rw [if_neg c4] at H
      have c4b0 : decide ((Int.tmod a0 a1) < 0) = false := decide_eq_false c4
      clear c4
      obtain rfl := Option.some.inj H
      go_enter Tryz.func64, Tryz.ntmps64
      go_wp2
      go_ret
      exact ⟨by first | rfl | (simp; done) | (simp [*]; done), by repeat (first | exact Drawn0.refl _ | apply Drawn0.step)⟩
end Go.Proofs.YteilkbookcmndaaGreatDoor.P
end
section
namespace Go.Proofs.YteilkbookcmndaaGreatDoor.P
open Go.RowKit Go.Proofs.YteilkbookcmndaaGreatDoorW.PrintWords Go.Proofs.YteilkbookcmndaaGreatDoorW.PrintLast Go.Proofs.YteilkbookcmndaaGreatDoorW.PrintMore
attribute [local go_sem] max2_int min2_int max_two min_two max_three min_three -- for this text's walks alone
mutual
def donjonlaw7_Of.l0 : Nat → List Int → ByteArray → Int → Option (ByteArray)
  | 0, _, _, _ => none
  | k + 1, x0, x3, x4 => if x4 < (x0.length : Int) then (donjonlaw7_Of.j1 k x0 x3 x4 (decide (x4 < 6))) else (donjonlaw7_Of.j1 k x0 x3 x4 false)
def donjonlaw7_Of.j1 : Nat → List Int → ByteArray → Int → Bool → Option (ByteArray)
  | 0, _, _, _, _ => none
  | k + 1, x0, x3, x4, x13 => if x13 = true then (if x3.size + 1 ≤ 9223372036854775807 then (donjonlaw7_Of.l1 k x0 (x3 ++ (⟨#[47]⟩ : ByteArray)) x4 0) else (none)) else (if x3.toList = ([] : List UInt8) then (some (⟨#[47]⟩ : ByteArray)) else (some x3))
def donjonlaw7_Of.l1 : Nat → List Int → ByteArray → Int → Int → Option (ByteArray)
  | 0, _, _, _, _ => none
  | k + 1, x0, x3, x4, x5 => if 0 ≤ x4 then (if x4 < (x0.length : Int) then ((donjonlaw7_within.f (rd x0 x4) 3).bind fun t134 => (if x5 ≤ t134 then ((donjonlaw7_within.f (wrap64 (Int.tdiv (rd x0 x4) 3)) 5).bind fun t136 => ((some (([(wrap64 (97 + t136)) % 256] : List Int) : List Int)).bind fun y137 => (if x3.size + (strOfNums y137).size ≤ 9223372036854775807 then (donjonlaw7_Of.l1 k x0 (x3 ++ (strOfNums y137)) x4 (wrap64 (x5 + 1))) else (none)))) else (donjonlaw7_Of.l0 k x0 x3 (wrap64 (x4 + 1))))) else (none)) else (none)
end
def donjonlaw7_Of.f (k : Nat) (l0 : List Int) : Option (ByteArray) := donjonlaw7_Of.l0 k l0 (⟨#[]⟩ : ByteArray) 0
set_option maxHeartbeats 8000000 in
set_option maxRecDepth 100000 in
theorem donjonlaw7_Of.calls (k : Nat) (A0 : Option Addr) (c0 : Nat) (l0 : List Int) (r : ByteArray) (w : World) (hr0 : Kd.C (Kd.int .i64) w A0 l0.length l0) (hc0 : l0.length ≤ c0) (h : donjonlaw7_Of.f k l0 = some r) :
    Calls Tryz.prog 42 #[.slice A0 l0.length c0] w fun e w' => e = .returned (.string r) ∧ Below w.heap.size w w' := by
  have HR0 := Aside0.mk hr0
  have HC0 := Aside0.mk hc0
  clear hr0 hc0
  have HB := Aside0.mk (Below.refl w.heap.size w)
  have H : (donjonlaw7_Of.l0 k l0 (⟨#[]⟩ : ByteArray) 0) = some r := h
  clear h
  have H' := Aside0.mk H
  clear H
  go_enter Tryz.func42, Tryz.ntmps42
  go_wp2
  go_loopg [3, 4] k (fun kq v3 v4 w' => ∃ (x3_1 : ByteArray) (x4_1 : Int), v3 = .string x3_1 ∧ v4 = .int .i64 x4_1 ∧ Aside0 (donjonlaw7_Of.l0 kq l0 x3_1 x4_1 = some r) ∧ Aside0 (kq ≤ k) ∧ Aside0 (Below w.heap.size w w'))
  case atStart => exact ⟨((⟨#[]⟩ : ByteArray)), (0), (by first | rfl | (simp; done) | (simp [*]; done)), (by first | rfl | (simp; done) | (simp [*]; done)), H', ⟨Nat.le_refl _⟩, ⟨by repeat (first | (with_reducible first | exact HB.out | apply below_alloc | apply pw_below_drewN | apply below_drew1) | exact HB.out)⟩⟩
  case round =>
    clear H'
    obtain ⟨x3_1, x4_1, rfl, rfl, HA, HK1, HB⟩ := hrel
    cases gk with
    | zero => exact absurd HA.out (by simp [donjonlaw7_Of.l0])
    | succ k1 =>
      have H := HA.out
      clear HA
      simp only [donjonlaw7_Of.l0] at H
      have HC2 := Aside0.mk H
      clear H
      go_upto_region 3 with (fail)
      go_cut [13] (fun v13 wc => ∃ (kq : Nat) (x13_1 : Bool), v13 = .bool x13_1 ∧ Aside0 (donjonlaw7_Of.j1 kq l0 x3_1 x4_1 x13_1 = some r) ∧ Aside0 (kq ≤ k1) ∧ Aside0 (Below w.heap.size w wc))
      case first =>
        have H := HC2.out
        clear HC2
        by_cases c3 : x4_1 < (l0.length : Int)
        · rw [if_pos c3] at H
          have c3b0 : decide (x4_1 < (l0.length : Int)) = true := decide_eq_true c3
          clear c3
          (first | rw [c3b0] | (simp only [i64_w, i32_w]; rw [c3b0]) | skip)
          have H' := Aside0.mk H
          clear H
          go_wp2
          go_meet
          case rel => exact ⟨_, (decide (x4_1 < 6)), (by first | rfl | (simp; done) | (simp [*]; done)), H', ⟨by have := HK1.out; first | omega | exact Nat.le_refl _⟩, ⟨by repeat (first | (with_reducible first | exact HB.out | apply below_alloc | apply pw_below_drewN | apply below_drew1) | exact HB.out)⟩⟩
        · rw [if_neg c3] at H
          have c3b0 : decide (x4_1 < (l0.length : Int)) = false := decide_eq_false c3
          clear c3
          (first | rw [c3b0] | (simp only [i64_w, i32_w]; rw [c3b0]) | skip)
          have H' := Aside0.mk H
          clear H
          go_wp2
          go_meet
          case rel => exact ⟨_, (false), (by first | rfl | (simp; done) | (simp [*]; done)), H', ⟨by have := HK1.out; first | omega | exact Nat.le_refl _⟩, ⟨by repeat (first | (with_reducible first | exact HB.out | apply below_alloc | apply pw_below_drewN | apply below_drew1) | exact HB.out)⟩⟩
      case rest =>
        clear HC2
        try clear c2
        try clear p2
        try clear c3
        try clear c3b0
        obtain ⟨kq, x13_1, rfl, HA, HJ1, HB⟩ := hcut
        cases kq with
        | zero => exact absurd HA.out (by simp [donjonlaw7_Of.j1])
        | succ kj1 =>
          have H := HA.out
          clear HA
          simp only [donjonlaw7_Of.j1] at H
          by_cases c4 : x13_1 = true
          · subst c4
            have H1 : (if x3_1.size + 1 ≤ 9223372036854775807 then (donjonlaw7_Of.l1 kj1 l0 (x3_1 ++ (⟨#[47]⟩ : ByteArray)) x4_1 0) else (none)) = some r := by rw [if_pos rfl] at H; exact H
            clear H
            have H := H1
            clear H1
            by_cases c5 : x3_1.size + 1 ≤ 9223372036854775807
            · rw [if_pos c5] at H
              have c5b0 := eq_true c5
              have c5b1 : decide (x3_1.size + 1 ≤ 9223372036854775807) = true := decide_eq_true c5
              try have c5b2 : (9223372036854775807 < x3_1.size + 1) = False := eq_false (Nat.not_lt.2 c5)
              have H' := Aside0.mk H
              clear H
              go_wp2
              go_loopg [3, 5] kj1 (fun kq v3 v5 w' => ∃ (x3_3 : ByteArray) (x5_3 : Int), v3 = .string x3_3 ∧ v5 = .int .i64 x5_3 ∧ Aside0 (donjonlaw7_Of.l1 kq l0 x3_3 x4_1 x5_3 = some r) ∧ Aside0 (kq ≤ kj1) ∧ Aside0 (Below w.heap.size w w'))
              case atStart => exact ⟨(x3_1 ++ (⟨#[47]⟩ : ByteArray)), (0), (by first | rfl | (simp; done) | (simp [*]; done)), (by first | rfl | (simp; done) | (simp [*]; done)), H', ⟨Nat.le_refl _⟩, ⟨by repeat (first | (with_reducible first | exact HB.out | apply below_alloc | apply pw_below_drewN | apply below_drew1) | exact HB.out)⟩⟩
              case round =>
                clear H'
                try clear c2
                try clear p2
                try clear c3
                try clear c3b0
                try clear c4
                try clear c5
                try clear c5b0
                try clear c5b1
                try clear c5b2
                try clear p2
                obtain ⟨x3_3, x5_3, rfl, rfl, HA, HK3, HB⟩ := hrel
                cases gk with
                | zero => exact absurd HA.out (by simp [donjonlaw7_Of.l1])
                | succ k3 =>
                  have H := HA.out
                  clear HA
                  simp only [donjonlaw7_Of.l1] at H
                  by_cases c6 : 0 ≤ x4_1
                  · rw [if_pos c6] at H
                    have c6b0 : decide (0 ≤ x4_1) = true := decide_eq_true c6
                    clear c6
                    by_cases c7 : x4_1 < (l0.length : Int)
                    · rw [if_pos c7] at H
                      have c7b0 : decide (x4_1 < (l0.length : Int)) = true := decide_eq_true c7
                      clear c7
                      replace H := Option.bind_eq_some_iff.mp H
                      obtain ⟨t134, A80, H⟩ := H
                      replace H : (if x5_3 ≤ t134 then ((donjonlaw7_within.f (wrap64 (Int.tdiv (rd l0 x4_1) 3)) 5).bind fun t136 => ((some (([(wrap64 (97 + t136)) % 256] : List Int) : List Int)).bind fun y137 => (if x3_3.size + (strOfNums y137).size ≤ 9223372036854775807 then (donjonlaw7_Of.l1 k3 l0 (x3_3 ++ (strOfNums y137)) x4_1 (wrap64 (x5_3 + 1))) else (none)))) else (donjonlaw7_Of.l0 k3 l0 x3_3 (wrap64 (x4_1 + 1)))) = some r := H
                      have A8 := Aside0.mk A80
                      clear A80
                      by_cases c9 : x5_3 ≤ t134
                      · rw [if_pos c9] at H
                        have c9b0 : decide (x5_3 ≤ t134) = true := decide_eq_true c9
                        clear c9
                        replace H := Option.bind_eq_some_iff.mp H
                        obtain ⟨t136, A100, H⟩ := H
                        replace H : ((some (([(wrap64 (97 + t136)) % 256] : List Int) : List Int)).bind fun y137 => (if x3_3.size + (strOfNums y137).size ≤ 9223372036854775807 then (donjonlaw7_Of.l1 k3 l0 (x3_3 ++ (strOfNums y137)) x4_1 (wrap64 (x5_3 + 1))) else (none))) = some r := H
                        have A10 := Aside0.mk A100
                        clear A100
                        obtain ⟨y137, hy137⟩ : ∃ y_ : List Int, y_ = (([(wrap64 (97 + t136)) % 256] : List Int)) := ⟨_, rfl⟩
                        replace H : (if x3_3.size + (strOfNums y137).size ≤ 9223372036854775807 then (donjonlaw7_Of.l1 k3 l0 (x3_3 ++ (strOfNums y137)) x4_1 (wrap64 (x5_3 + 1))) else (none)) = some r := by first | (rw [hy137]; with_reducible exact H) | (have H2_ := (Option.bind_some _ _).symm.trans H; rw [hy137]; with_reducible exact H2_) | (have H2_ := (Option.bind_some _ _).symm.trans H; with_reducible exact H2_) | with_reducible exact H | (rw [hy137]; exact H) | exact H
                        have Ny137 := Aside0.mk hy137
                        clear hy137
                        by_cases c11 : x3_3.size + (strOfNums y137).size ≤ 9223372036854775807
                        · rw [if_pos c11] at H
                          have c11b0 := eq_true c11
                          have c11b1 : decide (x3_3.size + (strOfNums y137).size ≤ 9223372036854775807) = true := decide_eq_true c11
                          try have c11b2 : (9223372036854775807 < x3_3.size + (strOfNums y137).size) = False := eq_false (Nat.not_lt.2 c11)
                          have H' := Aside0.mk H
                          clear H
                          have p133 : 0 ≤ (x4_1 : Int) := of_decide_eq_true (by first | (with_reducible assumption) | assumption)
                          have q133 : x4_1 < (l0.length : Int) := of_decide_eq_true (by first | (with_reducible assumption) | assumption)
                          obtain ⟨ad133, e133, hx133_0⟩ := Kd.at_int HR0.out x4_1 p133 q133
                          cases e133
                          (try replace hx133_0 := (HB.out.cell (World.block_lt_of_cell? w _ hx133_0)).trans hx133_0)
                          replace p133 := eq_true p133
                          replace q133 := eq_true q133
                          go_wp2_with (first | ((with_reducible refine gate_callee (f := 64) rfl ?_); refine goesL_ (some 23) rfl rfl Tryz.func64 (by kernel_rfl) rfl #[.int .i64 (rd l0 x4_1), .int .i64 3] rfl (by (try simp only [List.map_toArray, List.map_cons, List.map_nil]); first | done | rfl | (simp only [List.length_drop, List.length_take]; rfl)) ?_; (with_reducible refine (donjonlaw7_within.calls (rd l0 x4_1) 3 t134 _ A8.out).mono ?_); rintro e w' ⟨rfl, ⟨nd, rfl⟩⟩; refine ⟨_, rfl, ?_⟩; have p135 : 0 ≤ (x4_1 : Int) := of_decide_eq_true (by first | (with_reducible assumption) | assumption); have q135 : x4_1 < (l0.length : Int) := of_decide_eq_true (by first | (with_reducible assumption) | assumption); obtain ⟨ad135, e135, hx135_0⟩ := Kd.at_int HR0.out x4_1 p135 q135; obtain rfl : ad133 = ad135 := (by injection e135); replace hx135_0 := (HB.out.cell (World.block_lt_of_cell? w _ hx135_0)).trans hx135_0; replace p135 := eq_true p135; replace q135 := eq_true q135) | ((with_reducible refine gate_callee (f := 64) rfl ?_); refine goesL_ (some 33) rfl rfl Tryz.func64 (by kernel_rfl) rfl #[.int .i64 (wrap64 (Int.tdiv (rd l0 x4_1) 3)), .int .i64 5] rfl (by (try simp only [List.map_toArray, List.map_cons, List.map_nil]); first | done | rfl | (simp only [List.length_drop, List.length_take]; rfl)) ?_; (with_reducible refine (donjonlaw7_within.calls (wrap64 (Int.tdiv (rd l0 x4_1) 3)) 5 t136 _ A10.out).mono ?_); rintro e w' ⟨rfl, ⟨nd, rfl⟩⟩; refine ⟨_, rfl, ?_⟩) | ((with_reducible refine gate_dst (N := 36) rfl ?_); refine Kd.R_lit (Kd.int .u8) _ 5 ?hg (N := 36) ?hd (xs := ([(wrap64 (97 + t136)) % 256] : List Int)) (inner := [.int .u8 ((wrap64 (97 + t136)) % 256)]) (ok := fun _ => True) (okp := fun _ => True) ?hr ?hp (fun _ hk => hk) trivial (Below.refl _ _) (Nat.le_refl _) (by simp) ?_; (case hd => rfl); (case hg => rfl); (case hr => first | (go_simp; done) | (go_simp; rfl)); (case hp => exact (Reps.one (show Kd.M (Kd.int .u8) _ _ _ ((wrap64 (97 + t136)) % 256) [.int .u8 ((wrap64 (97 + t136)) % 256)] from rfl) (Reps.none _ _))); intro v138 w12 ho13 hb hg_ hnew_; clear hg_ hnew_; (first | rw [← Ny137.out] at ho13 | (simp only [Int.reduceToNat] at ho13; rw [← Ny137.out] at ho13)); have n0_ := Aside0.mk (Kd.R_lower ho13 (below_size (by repeat (first | (with_reducible first | exact HB.out | apply below_alloc | apply pw_below_drewN | apply below_drew1) | exact HB.out)))); have n1_ := Aside0.mk (below_step (by repeat (first | (with_reducible first | exact HB.out | apply below_alloc | apply pw_below_drewN | apply below_drew1) | exact HB.out)) hb); clear HB; have HO139 := n0_; have HB := n1_; clear n0_ n1_; clear hb ho13; have hcv14 := own_string (P := Tryz.prog) Tryz.underlying38 Tryz.underlying5 Tryz.underlying9 (Kd.own_of_R HO139.out)))
                          go_roundg k3
                          case measure => have := HK1.out; have := HJ1.out; have := HK3.out; omega
                          case rel => exact ⟨(x3_3 ++ (strOfNums y137)), (wrap64 (x5_3 + 1)), (by first | rfl | (simp; done) | (simp [*]; done)), (by first | rfl | (simp; done) | (simp [*]; done)), H', ⟨by have := HK1.out; have := HJ1.out; have := HK3.out; omega⟩, ⟨by repeat (first | (with_reducible first | exact HB.out | apply below_alloc | apply pw_below_drewN | apply below_drew1) | exact HB.out)⟩⟩
                        · rw [if_neg c11] at H
                          exact absurd H (by simp)
                      · rw [if_neg c9] at H
                        have c9b0 : decide (x5_3 ≤ t134) = false := decide_eq_false c9
                        clear c9
                        have H' := Aside0.mk H
                        clear H
                        have p133 : 0 ≤ (x4_1 : Int) := of_decide_eq_true (by first | (with_reducible assumption) | assumption)
                        have q133 : x4_1 < (l0.length : Int) := of_decide_eq_true (by first | (with_reducible assumption) | assumption)
                        obtain ⟨ad133, e133, hx133_0⟩ := Kd.at_int HR0.out x4_1 p133 q133
                        cases e133
                        (try replace hx133_0 := (HB.out.cell (World.block_lt_of_cell? w _ hx133_0)).trans hx133_0)
                        replace p133 := eq_true p133
                        replace q133 := eq_true q133
                        go_wp2_with (first | ((with_reducible refine gate_callee (f := 64) rfl ?_); refine goesL_ (some 23) rfl rfl Tryz.func64 (by kernel_rfl) rfl #[.int .i64 (rd l0 x4_1), .int .i64 3] rfl (by (try simp only [List.map_toArray, List.map_cons, List.map_nil]); first | done | rfl | (simp only [List.length_drop, List.length_take]; rfl)) ?_; (with_reducible refine (donjonlaw7_within.calls (rd l0 x4_1) 3 t134 _ A8.out).mono ?_); rintro e w' ⟨rfl, ⟨nd, rfl⟩⟩; refine ⟨_, rfl, ?_⟩))
                        go_roundg k3
                        case measure => have := HK1.out; have := HJ1.out; have := HK3.out; omega
                        case rel => exact ⟨(x3_3), (wrap64 (x4_1 + 1)), (by first | rfl | (simp; done) | (simp [*]; done)), (by first | rfl | (simp; done) | (simp [*]; done)), H', ⟨by have := HK1.out; have := HJ1.out; have := HK3.out; omega⟩, ⟨by repeat (first | (with_reducible first | exact HB.out | apply below_alloc | apply pw_below_drewN | apply below_drew1) | exact HB.out)⟩⟩
                    · rw [if_neg c7] at H
                      exact absurd H (by simp)
                  · rw [if_neg c6] at H
                    exact absurd H (by simp)
            · rw [if_neg c5] at H
              exact absurd H (by simp)
          · replace c4 := Bool.eq_false_iff.mpr c4
            subst c4
            have H1 : (if x3_1.toList = ([] : List UInt8) then (some (⟨#[47]⟩ : ByteArray)) else (some x3_1)) = some r := by rw [if_neg (show ¬ (false = true) by decide)] at H; exact H
            clear H
            have H := H1
            clear H1
            by_cases c15 : x3_1.toList = ([] : List UInt8)
            · rw [if_pos c15] at H
              have c15b0 : (x3_1.toList == ([] : List UInt8)) = true := beq_iff_eq.mpr c15
              have c15b1 : (x3_1.toList != ([] : List UInt8)) = false := bne_eq_false_iff_eq.mpr c15
              clear c15
              obtain rfl := Option.some.inj H
              go_wp2
              go_ret
              exact ⟨by first | rfl | (simp [errW_none, errW_some] <;> rfl) | (simp [*, errW_none, errW_some] <;> rfl), by repeat (first | (with_reducible first | exact HB.out | apply below_alloc | apply pw_below_drewN | apply below_drew1) | exact HB.out)⟩
            · rw [if_neg c15] at H
              have c15b0 : (x3_1.toList == ([] : List UInt8)) = false := beq_eq_false_iff_ne.mpr c15
              have c15b1 : (x3_1.toList != ([] : List UInt8)) = true := bne_iff_ne.mpr c15
              obtain rfl := Option.some.inj H
              go_wp2
              go_ret
              exact ⟨by first | rfl | (simp [errW_none, errW_some] <;> rfl) | (simp [*, errW_none, errW_some] <;> rfl), by repeat (first | (with_reducible first | exact HB.out | apply below_alloc | apply pw_below_drewN | apply below_drew1) | exact HB.out)⟩
end Go.Proofs.YteilkbookcmndaaGreatDoor.P
end
section
namespace Go.Proofs.YteilkbookcmndaaGreatDoor.P
open Go.RowKit Go.Proofs.YteilkbookcmndaaGreatDoorW.PrintWords Go.Proofs.YteilkbookcmndaaGreatDoorW.PrintLast Go.Proofs.YteilkbookcmndaaGreatDoor.L
theorem within_f (a n : Int) (h0 : 0 < n) (hn : n ≤ 4611686018427387904) : ∃ w, donjonlaw7_within.f a n = some w ∧ 0 ≤ w ∧ w < n := by
  unfold donjonlaw7_within.f
  rw [if_neg (by omega)]
  have h1 := Int.tmod_lt_of_pos a h0
  have h2 := Int.lt_tmod_of_pos a h0
  by_cases h : Int.tmod a n < 0
  · rw [if_pos h]
    exact ⟨_, rfl, by unfold wrap64; omega, by unfold wrap64; omega⟩
  · rw [if_neg h]
    exact ⟨_, rfl, by omega, h1⟩
def letter (c : Int) : UInt8 := UInt8.ofNat ((97 + c) % 256).toNat
theorem letter_name (c : Int) (h0 : 0 ≤ c) (h : c < 26) : nameByte (letter c) = true := by
  obtain ⟨n, rfl⟩ := Int.eq_ofNat_of_zero_le h0
  have hn : n < 26 := by omega
  unfold letter
  rw [show ((97 + (n : Int)) % 256).toNat = 97 + n from by omega]
  have e : (UInt8.ofNat (97 + n)).toNat = 97 + n := by rw [UInt8.toNat_ofNat']; omega
  unfold nameByte
  rw [e]
  simp
  omega
theorem append_data (s t : ByteArray) : (s ++ t).data.toList = s.data.toList ++ t.data.toList := ByteArray.toList_data_append
theorem append_size (s t : ByteArray) : (s ++ t).size = s.size + t.size := by rw [Lib.size_eq, append_data, List.length_append, ← Lib.size_eq, ← Lib.size_eq]
theorem of_letters (x0 : List Int) (i : Nat) (hi : i < x0.length) (hlen : x0.length ≤ 9223372036854775807) (t c : Int) (ht : donjonlaw7_within.f (rd x0 (i : Int)) 3 = some t) (ht3 : t < 3)
    (hc : donjonlaw7_within.f (wrap64 (Int.tdiv (rd x0 (i : Int)) 3)) 5 = some c) (hc0 : 0 ≤ c) (hc5 : c < 5) (d : Nat) : ∀ (k : Nat) (j : Int) (s : ByteArray), 0 ≤ j → t + 1 - j = d → s.size + d ≤ 1000000 →
    donjonlaw7_Of.l1 (k + 1 + d) x0 s (i : Int) j = donjonlaw7_Of.l0 k x0 ⟨(s.data.toList ++ List.replicate d (letter c)).toArray⟩ ((i + 1 : Nat) : Int) := by
  induction d with
  | zero =>
    intro k j s hj hd hs
    rw [Nat.add_zero]
    simp only [donjonlaw7_Of.l1]
    rw [if_pos (by omega), if_pos (by omega), ht]
    simp only [Option.bind_some]
    rw [if_neg (by omega), wrap_succ (n := 9223372036854775807) (by omega) (by omega) (by omega), show ((i : Int) + 1) = ((i + 1 : Nat) : Int) from rfl]
    congr 1
    exact bytes_ext (by simp)
  | succ d ih =>
    intro k j s hj hd hs
    rw [show k + 1 + (d + 1) = (k + 1 + d) + 1 from by omega]
    simp only [donjonlaw7_Of.l1]
    rw [if_pos (by omega), if_pos (by omega), ht]
    simp only [Option.bind_some]
    rw [if_pos (by omega), hc]
    simp only [Option.bind_some]
    rw [show wrap64 (97 + c) = 97 + c from by unfold wrap64; omega, strOfNums_size, if_pos (by simp; omega), wrap_succ (n := 9223372036854775807) (by omega) (by omega) (by omega)]
    have hz : (s ++ strOfNums [(97 + c) % 256]).size = s.size + 1 := by rw [append_size, strOfNums_size]; rfl
    rw [ih k (j + 1) _ (by omega) (by omega) (by omega)]
    congr 1
    apply bytes_ext
    simp only [append_data, strOfNums_data]
    rw [List.replicate_succ]
    simp [letter]
theorem render_short {ns : List (List UInt8)} (h : ns.length ≤ 6) (hx : ∀ x ∈ ns, nameL x = true ∧ x.length ≤ 3) : (render ns).length ≤ 24 := by
  have key : ∀ l : List (List UInt8), (∀ x ∈ l, x.length ≤ 3) → (flat l).length ≤ 4 * l.length := by
    intro l
    induction l with
    | nil => intro _; simp [flat_nil]
    | cons n l ih =>
      intro hl
      have h1 := hl n List.mem_cons_self
      have h2 := ih fun x hx => hl x (List.mem_cons_of_mem _ hx)
      rw [flat_cons]
      simp only [List.length_cons, List.length_append]
      omega
  by_cases h0 : ns = []
  · subst h0; decide
  · rw [render_flat _ h0]
    have := key ns fun x hxm => (hx x hxm).2
    omega
theorem of_check {ns : List (List UInt8)} (h : ns.length ≤ 6) (hx : ∀ x ∈ ns, nameL x = true ∧ x.length ≤ 3) : checkL (render ns) = 0 := by
  have hs := render_short h hx
  rw [check_render ns (fun x hxm => name_nm (hx x hxm).1), if_neg (by omega), if_neg (by omega), if_pos (List.all_eq_true.2 fun x hxm => (hx x hxm).1)]
end Go.Proofs.YteilkbookcmndaaGreatDoor.P
end
