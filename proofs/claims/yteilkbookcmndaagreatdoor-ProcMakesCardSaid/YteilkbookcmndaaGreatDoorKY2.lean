/- Texts that the claim's law stands on, cut down to what it reaches. -/
import Derived.Test.YteilkbookcmndaaGreatDoorKY1
import Derived.Deep.RegionHeldLaw
import Derived.Deep.RegionHeld3
import Derived.Deep.LoopGhost
set_option linter.unusedVariables false
set_option linter.unusedSimpArgs false
section
namespace Go.Proofs.YteilkbookcmndaaGreatDoor.C
open Go.RowKit Go.Proofs.YteilkbookcmndaaGreatDoor.Q Go.Proofs.YteilkbookcmndaaGreatDoorW.PrintWords Go.Proofs.YteilkbookcmndaaGreatDoorW.PrintLast Go.Proofs.YteilkbookcmndaaGreatDoorW.PrintMore
attribute [local go_sem ↓] rd_at50 wr_at50 al_at50
attribute [local go_sem] rd50_new wr50_new al50
attribute [local go_sem ↓] rd_at45 wr_at45 rd_at150 wr_at150 rd_at47b wr_at47b rd_at77 wr_at77
attribute [local go_sem] rd45_new wr45_new rd150_new wr150_new wr47b_new wr77_new
attribute [local go_sem] max_two
theorem cellsC {α : Type} {d : Kd α} {w : World} {g : Nat} {ty : TypeId} {x : α} {cs : List Value} (hg : w.heap[g]? = some (.cells cs.toArray ty (0, 0))) (hK : d.K w x cs) (hs : cs.length = d.sz) : Kd.C d w (some ⟨g, 0, none⟩) [x].length [x] := by
 refine ⟨rfl, by show 1 ≤ 9223372036854775807; decide, fun _ => ⟨_, rfl, fun j q hj => ?_⟩⟩
 have hj0 : j = 0 := by
  have := (List.getElem?_eq_some_iff.1 hj).1
  simp at this
  exact this
 subst hj0
 have hq : q = x := by simpa using hj.symm
 subst hq
 refine ⟨cs, hs, hK, fun i u hu => ?_⟩
 have h2 := blk_cell hg i
 have hadd : ((⟨g, 0, none⟩ : Addr).add (0 * d.sz + i)) = ⟨g, i, none⟩ := by rw [Nat.zero_mul, Nat.zero_add]; unfold Addr.add; split <;> simp_all
 rw [hadd, h2]
 simpa using hu
theorem grantC {w : World} {g : Nat} {s : ByteArray} {m : Int} (hg : w.heap[g]? = some (.cells #[.string s, .int .i64 m] 85 (0, 0))) : Kd.C k96 w (some ⟨g, 0, none⟩) 1 [⟨s, m⟩] :=
 cellsC (cs := [.string s, .int .i64 m]) hg (k96_mk w ⟨s, m⟩) rfl
theorem labC {w : World} {g : Nat} {a : S41} (hg : w.heap[g]? = some (.cells #[.int .i64 a.f0, .int .i64 a.f1, .int .i64 a.f2, .int .i64 a.f3] 30 (0, 0))) : Kd.C k41 w (some ⟨g, 0, none⟩) 1 [a] :=
 cellsC (cs := [.int .i64 a.f0, .int .i64 a.f1, .int .i64 a.f2, .int .i64 a.f3]) hg (k41_mk w a) rfl
theorem strC {w : World} {g : Nat} {s : ByteArray} (hg : w.heap[g]? = some (.cells #[.string s] 9 (0, 0))) : Kd.C Kd.string w (some ⟨g, 0, none⟩) [s].length [s] :=
 cellsC (cs := [.string s]) hg rfl rfl
theorem putC (l : List S50) (n : S50) (cs : List Value) (A : Option Addr) (c : Nat) (w : World) (hC : Kd.C k50 w A l.length l) (hc : l.length ≤ c) (hn : l.length ≤ 1000) (hK : k50.K w n cs) :
  Calls Tryz.prog 24 #[.slice A l.length c, .agg cs.toArray] w fun e w' => ∃ A' c', e = .returned (.slice A' (putN l n).length c') ∧ (putN l n).length ≤ c' ∧ Kd.C k50 w' A' (putN l n).length (putN l n) ∧ Below w.heap.size w w' := by
 refine (put_c l n cs A c w w hC (Below.refl _ _) hc hn hK).mono ?_
 rintro e w' ⟨v, rfl, hO, hb⟩
 obtain ⟨A', c', rfl, hc', hr⟩ := OwnRow.reads hO
 exact ⟨A', c', rfl, hc', C50_of' hr hb, hb⟩
theorem first_bot (g : Nat) (w : World) (hg : w.heap[g]? = some (.cells #[.int .i64 0, .int .i64 0, .int .i64 3, .int .i64 255] 30 (0, 0))) :
  Calls Tryz.prog 26 #[.agg #[.slice (some ⟨g, 0, none⟩) 1 1, .slice none 0 0, .slice none 0 0]] w fun e w' => ∃ A' c', e = .returned (.slice A' (firstT [botS]).length c') ∧ (firstT [botS]).length ≤ c' ∧ Kd.C k50 w' A' (firstT [botS]).length (firstT [botS]) ∧ Below w.heap.size w w' := by
 refine (first_c [botS] (some ⟨g, 0, none⟩) 1 (.slice none 0 0) (.slice none 0 0) w (labC (a := botS) hg) (by decide) (by decide)).mono ?_
 rintro e w' ⟨v, rfl, ls, hls, _, w1, hb1, hb2, hO⟩
 have hl := hls.2 rfl
 subst hl
 obtain ⟨A', c', rfl, hc', hr⟩ := OwnRow.reads hO
 exact ⟨A', c', rfl, hc', C50_of' hr hb2, below_step hb1 hb2⟩
end Go.Proofs.YteilkbookcmndaaGreatDoor.C
end
