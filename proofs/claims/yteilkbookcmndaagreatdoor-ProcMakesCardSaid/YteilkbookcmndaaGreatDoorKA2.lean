/- Texts that the claim's law stands on, cut down to what it reaches. -/
import Derived.Test.YteilkbookcmndaaGreatDoorKA
import Derived.Deep.LoopGhost
import Derived.Test.YteilkbookcmndaaGreatDoorKP
import Derived.Test.YteilkbookcmndaaGreatDoorKQ
import Derived.Laws.CopyOwn
import Derived.Lib.Walk
import Derived.Lib.QuoteBits
set_option linter.unusedVariables false
set_option linter.unusedSimpArgs false
section
namespace Go.Proofs.YteilkbookcmndaaGreatDoor.C
open Go.RowKit Go.Proofs.YteilkbookcmndaaGreatDoor.Q Go.Proofs.YteilkbookcmndaaGreatDoorW.PrintWords Go.Proofs.YteilkbookcmndaaGreatDoorW.PrintLast Go.Proofs.YteilkbookcmndaaGreatDoorW.PrintMore
attribute [local go_sem ↓] rd_at50 wr_at50 al_at50
attribute [local go_sem] rd50_new wr50_new al50
def seeR (l : List S50) (a : S41) (pre : List (List UInt8)) : List (List UInt8) → S50 × Int
  | [] => if isN l (pth pre) then (nodeN l (pth pre), 0) else (z50, 2)
  | n :: rest => if isN l (pth pre) then (if (nodeN l (pth pre)).f1 then (if lover a (nodeN l (pth pre)).f2 then seeR l a (pre ++ [n]) rest else (z50, 15)) else (z50, 3)) else (z50, 2)
def NodeE (n : S50) (k : Int) (w : World) (e : Ending) (w' : World) : Prop := ∃ cs : List Value, e = .returned (.tuple #[.agg cs.toArray, .int .i64 k]) ∧ k50.FK w' (fun k => w.heap.size ≤ k) n cs ∧ Below w.heap.size w w'
def Srch (l : List S50) : Prop := l.length < 1000000 ∧ (∀ p, RisingN l p) ∧ ∀ n ∈ l, Fits n
set_option maxHeartbeats 1000000 in
set_option maxRecDepth 100000 in
theorem see_c (l : List S50) (u : ByteArray) (a : S41) (ns : List (List UInt8)) (A : Option Addr) (c : Nat) (w : World) (hC : Kd.C k50 w A l.length l) (hc : l.length ≤ c) (hS : Srch l) (hN : ∀ x ∈ ns, L.Nm x) (h0 : L.checkL (L.render ns) = 0) :
    Calls Tryz.prog 35 #[.slice A l.length c, .agg #[.string u, .int .i64 a.f0, .int .i64 a.f1, .int .i64 a.f2, .int .i64 a.f3], .string (pth ns)] w (NodeE (seeR l a [] ns).1 (seeR l a [] ns).2 w) := by
  have hsz : (pth ns).size ≤ 4294967281 := by rw [pth_size]; have := check_len h0; omega
  have HK := Lib.hid fun w1 => P.path_Check.calls 100 (pth ns) 0 w1 (by rw [P.path_check _ _ (by omega)]; exact congrArg some h0)
  have HP := Lib.hid fun w1 => P.path_Parts.calls (pth ns) _ w1 (P.parts_f _ hsz ns rfl hN)
  have hpl : ∀ i, (L.render (ns.take i)).length ≤ 1000 := fun i => by
    have h1 := render_le (ns.take i); have h2 := flat_take ns i; have h3 := flat_le ns; have h4 := check_len h0
    omega
  have hnl : ∀ i (h : i < ns.length), (ns[i]'h).length ≤ 1000 := fun i h => by
    have h2 := flat_take ns (i + 1); have h3 := flat_le ns; have h4 := check_len h0
    rw [List.take_succ_eq_append_getElem h, L.flat_snoc, List.length_append, List.length_cons] at h2
    omega
  have HJ := Lib.hid fun i (h : i < ns.length) w1 => path_Join.calls (pth (ns.take i)) ⟨(ns[i]'h).toArray⟩ (pth (ns.take (i + 1))) w1 (by rw [List.take_succ_eq_append_getElem h]; exact join_f _ _ (fun x hx => hN x (List.mem_of_mem_take hx)) (hpl i) (hnl i h))
  clear hpl hnl
  have HC := Lib.hid hC
  have HS := Lib.hid hS
  have HN := Lib.hid hN
  clear hC hS hN h0 hsz
  obtain ⟨nms, hnms⟩ : ∃ nms : List ByteArray, nms = ns.map fun l => ⟨l.toArray⟩ := ⟨_, rfl⟩
  have HNM := Lib.hid hnms
  rw [← hnms] at HP
  clear hnms
  generalize pth ns = p at HK HP ⊢
  go_enter Tryz.func35, Tryz.ntmps35
  go_wp2_with (first | (go_at_call 55; refine (HK.out _).mono ?_; rintro e w1 ⟨rfl, hb⟩; have E1 := Lib.hid (blk_below (blk_alloc (blk_new w _) _) hb); have E2 := Lib.hid (blk_below (blk_new (w.alloc _) _) hb); have HB := Lib.hid (below_step (below_alloc (below_alloc (Below.refl w.heap.size w) _) _) hb); clear hb) | (go_at_call 56; refine (HP.out _).mono ?_; rintro e w2 ⟨v9, rfl, hR, hb⟩; obtain ⟨A9, c9, rfl, hl9, hC9⟩ := Kd.R_reads hR; have HF9 := Lib.hid hC9; have E1 := Lib.hid (blk_below E1.out hb); have E2 := Lib.hid (blk_below E2.out hb); have HB := Lib.hid (below_step HB.out hb); clear hb hR hC9))
  have HF := Lib.hid fun i wr (hb : Below w.heap.size w wr) => tfind l (pth (ns.take i)) A c wr (Kd.C_below HC.out hb) hc HS.out.1 (HS.out.2.1 _) HS.out.2.2
  have HLL := Lib.hid (show nms.length = ns.length by rw [HNM.out]; simp)
  go_loopg [9, 25] ns.length (fun k s9 s25 wr => ∃ i, i ≤ ns.length ∧ ns.length - i ≤ k ∧ s25 = .int .i64 i ∧ s9 = .string (pth (ns.take i)) ∧ Hid (Below w2.heap.size w2 wr) ∧ Hid (seeR l a [] ns = seeR l a (ns.take i) (ns.drop i)))
  case atStart => exact ⟨0, Nat.zero_le _, Nat.le_refl _, rfl, rfl, Lib.hid (Below.refl _ _), Lib.hid rfl⟩
  case round =>
    obtain ⟨i, hi, hik, rfl, rfl, HW, HV⟩ := hrel
    replace E1 := Lib.hid E1.out
    have E2 := Lib.hid (show w2.heap[w.heap.size + 1]? = some (.cells #[.string (⟨#[]⟩ : ByteArray), .bool false, .int .i64 0, .int .i64 0, .int .i64 0, .int .i64 0, .slice none 0 0, .int .i64 0, .int .i64 0, .int .i64 0, .int .i64 0, .slice none 0 0, .int .i64 0, .int .i64 0, .int .i64 0, .int .i64 0] 36 (0, 0)) by have := E2.out; rwa [World.size_alloc] at this)
    have HBW := Lib.hid (below_step HB.out HW.out)
    by_cases hlt' : i < nms.length
    · have hlt : i < ns.length := by have := HLL.out; omega
      obtain ⟨ad9, c, hA9, _, hK9, hc9⟩ := Kd.C_get (Kd.C_below HF9.out HW.out) (⟨#[]⟩ : ByteArray) (i : Int) (by omega) (by omega)
      obtain rfl : c = [.string ⟨(ns[i]'hlt).toArray⟩] := by
        have h9 : c = [.string (nms.getD (i : Int).toNat ⟨#[]⟩)] := hK9
        rw [h9, Int.toNat_natCast, HNM.out]
        simp [List.getD_eq_getElem?_getD, List.getElem?_eq_getElem hlt]
      have h9 := hc9 0 _ rfl
      subst hA9
      simp only [Int.toNat_natCast, show Kd.string.sz = 1 from rfl, Nat.mul_one, Nat.add_zero] at h9
      clear hc9 hK9
      have HV1 := Lib.hid (show seeR l a [] ns = if isN l (pth (ns.take i)) then (if (nodeN l (pth (ns.take i))).f1 then (if lover a (nodeN l (pth (ns.take i))).f2 then seeR l a (ns.take (i + 1)) (ns.drop (i + 1)) else (z50, 15)) else (z50, 3)) else (z50, 2) by
        rw [HV.out, List.drop_eq_getElem_cons hlt, seeR, List.take_succ_eq_append_getElem hlt])
      have HF := Lib.hid (HF.out i wr HBW.out)
      have HJ := Lib.hid (HJ.out i hlt)
      clear HV
      generalize nodeN l (pth (ns.take i)) = nd at HF HV1
      generalize isN l (pth (ns.take i)) = b at HF HV1
      have E1w := Lib.hid (blk_below E1.out HW.out)
      have E2w := Lib.hid (blk_below E2.out HW.out)
      cases b with
      | false =>
        go_wp2_with (go_at_call 57; refine HF.out.mono ?_; rintro e w4 ⟨cs, rfl, hFK, hb⟩; obtain ⟨A6, c6, A11, c11, rfl, _⟩ := k50_openF hFK; have E2' := blk_alloc (blk_below E2w.out hb) (.cells #[.string nd.f0, .bool nd.f1, .int .i64 nd.f2.f0, .int .i64 nd.f2.f1, .int .i64 nd.f2.f2, .int .i64 nd.f2.f3, .slice A6 nd.f3.length c6, .int .i64 nd.f4.f0, .int .i64 nd.f4.f1, .int .i64 nd.f4.f2, .int .i64 nd.f4.f3, .slice A11 nd.f5.length c11, .int .i64 nd.f6.f0, .int .i64 nd.f6.f1, .int .i64 nd.f6.f2, .int .i64 nd.f6.f3] 36); have r2 := wr50_blk E2' (cs := #[.string (⟨#[]⟩ : ByteArray), .bool false, .int .i64 0, .int .i64 0, .int .i64 0, .int .i64 0, .slice none 0 0, .int .i64 0, .int .i64 0, .int .i64 0, .int .i64 0, .slice none 0 0, .int .i64 0, .int .i64 0, .int .i64 0, .int .i64 0]) rfl rfl (by simp [Value.oneCell']); have HE := Lib.hid (setRow_heap _ _ _ #[.string (⟨#[]⟩ : ByteArray), .bool false, .int .i64 0, .int .i64 0, .int .i64 0, .int .i64 0, .slice none 0 0, .int .i64 0, .int .i64 0, .int .i64 0, .int .i64 0, .slice none 0 0, .int .i64 0, .int .i64 0, .int .i64 0, .int .i64 0] _ _ E2'); have HB9 := Lib.hid (below_setRow (below_alloc (below_step HBW.out hb) (.cells #[.string nd.f0, .bool nd.f1, .int .i64 nd.f2.f0, .int .i64 nd.f2.f1, .int .i64 nd.f2.f2, .int .i64 nd.f2.f3, .slice A6 nd.f3.length c6, .int .i64 nd.f4.f0, .int .i64 nd.f4.f1, .int .i64 nd.f4.f2, .int .i64 nd.f4.f3, .slice A11 nd.f5.length c11, .int .i64 nd.f6.f0, .int .i64 nd.f6.f1, .int .i64 nd.f6.f2, .int .i64 nd.f6.f3] 36)) (Nat.le_succ _) #[.string (⟨#[]⟩ : ByteArray), .bool false, .int .i64 0, .int .i64 0, .int .i64 0, .int .i64 0, .slice none 0 0, .int .i64 0, .int .i64 0, .int .i64 0, .int .i64 0, .slice none 0 0, .int .i64 0, .int .i64 0, .int .i64 0, .int .i64 0]); clear E2' hFK hb)
        refine bodyPost_ret (results_ct rfl _ _ (w.heap.size + 1) 36 _ (0, 0) _ rfl HE.out Tryz.underlying36 rfl (by kernel_rfl)) rfl ?_
        rw [HV1.out]
        exact ⟨_, rfl, z50_FK _ _, HB9.out⟩
      | true =>
        cases hf : nd.f1 with
        | false =>
          have HV2 := Lib.hid (show seeR l a [] ns = (z50, 3) by rw [HV1.out, hf]; rfl)
          go_wp2_with (go_at_call 57; refine HF.out.mono ?_; rintro e w4 ⟨cs, rfl, hFK, hb⟩; obtain ⟨A6, c6, A11, c11, rfl, _⟩ := k50_openF hFK; have E2' := blk_alloc (blk_below E2w.out hb) (.cells #[.string nd.f0, .bool nd.f1, .int .i64 nd.f2.f0, .int .i64 nd.f2.f1, .int .i64 nd.f2.f2, .int .i64 nd.f2.f3, .slice A6 nd.f3.length c6, .int .i64 nd.f4.f0, .int .i64 nd.f4.f1, .int .i64 nd.f4.f2, .int .i64 nd.f4.f3, .slice A11 nd.f5.length c11, .int .i64 nd.f6.f0, .int .i64 nd.f6.f1, .int .i64 nd.f6.f2, .int .i64 nd.f6.f3] 36); rw [hf] at E2'; have r2 := wr50_blk E2' (cs := #[.string (⟨#[]⟩ : ByteArray), .bool false, .int .i64 0, .int .i64 0, .int .i64 0, .int .i64 0, .slice none 0 0, .int .i64 0, .int .i64 0, .int .i64 0, .int .i64 0, .slice none 0 0, .int .i64 0, .int .i64 0, .int .i64 0, .int .i64 0]) rfl rfl (by simp [Value.oneCell']); have HE := Lib.hid (setRow_heap _ _ _ #[.string (⟨#[]⟩ : ByteArray), .bool false, .int .i64 0, .int .i64 0, .int .i64 0, .int .i64 0, .slice none 0 0, .int .i64 0, .int .i64 0, .int .i64 0, .int .i64 0, .slice none 0 0, .int .i64 0, .int .i64 0, .int .i64 0, .int .i64 0] _ _ E2'); have HB9 := Lib.hid (below_setRow (below_alloc (below_step HBW.out hb) (.cells #[.string nd.f0, .bool false, .int .i64 nd.f2.f0, .int .i64 nd.f2.f1, .int .i64 nd.f2.f2, .int .i64 nd.f2.f3, .slice A6 nd.f3.length c6, .int .i64 nd.f4.f0, .int .i64 nd.f4.f1, .int .i64 nd.f4.f2, .int .i64 nd.f4.f3, .slice A11 nd.f5.length c11, .int .i64 nd.f6.f0, .int .i64 nd.f6.f1, .int .i64 nd.f6.f2, .int .i64 nd.f6.f3] 36)) (Nat.le_succ _) #[.string (⟨#[]⟩ : ByteArray), .bool false, .int .i64 0, .int .i64 0, .int .i64 0, .int .i64 0, .slice none 0 0, .int .i64 0, .int .i64 0, .int .i64 0, .int .i64 0, .slice none 0 0, .int .i64 0, .int .i64 0, .int .i64 0, .int .i64 0]); clear E2' hFK hb)
          refine bodyPost_ret (results_ct rfl _ _ (w.heap.size + 1) 36 _ (0, 0) _ rfl HE.out Tryz.underlying36 rfl (by kernel_rfl)) rfl ?_
          rw [HV2.out]
          exact ⟨_, rfl, z50_FK _ _, HB9.out⟩
        | true =>
          cases hl : lover a nd.f2 with
          | false =>
            have HV2 := Lib.hid (show seeR l a [] ns = (z50, 15) by rw [HV1.out, hf, hl]; rfl)
            have HO := Lib.hid fun w1 => lover_calls a nd.f2 w1
            rw [hl] at HO
            clear hl
            have hq : ∀ A6 c6 A11 c11, ((.cells #[.string nd.f0, .bool true, .int .i64 nd.f2.f0, .int .i64 nd.f2.f1, .int .i64 nd.f2.f2, .int .i64 nd.f2.f3, .slice A6 nd.f3.length c6, .int .i64 nd.f4.f0, .int .i64 nd.f4.f1, .int .i64 nd.f4.f2, .int .i64 nd.f4.f3, .slice A11 nd.f5.length c11, .int .i64 nd.f6.f0, .int .i64 nd.f6.f1, .int .i64 nd.f6.f2, .int .i64 nd.f6.f3] 36) : Obj) = (.cells #[.string nd.f0, .bool nd.f1, .int .i64 nd.f2.f0, .int .i64 nd.f2.f1, .int .i64 nd.f2.f2, .int .i64 nd.f2.f3, .slice A6 nd.f3.length c6, .int .i64 nd.f4.f0, .int .i64 nd.f4.f1, .int .i64 nd.f4.f2, .int .i64 nd.f4.f3, .slice A11 nd.f5.length c11, .int .i64 nd.f6.f0, .int .i64 nd.f6.f1, .int .i64 nd.f6.f2, .int .i64 nd.f6.f3] 36) := fun _ _ _ _ => by rw [hf]
            go_wp2_with (first | (go_at_call 57; refine HF.out.mono ?_; rintro e w4 ⟨cs, rfl, hFK, hb⟩; obtain ⟨A6, c6, A11, c11, rfl, _⟩ := k50_openF hFK; have E1' := blk_alloc (blk_below E1w.out hb) (.cells #[.string nd.f0, .bool nd.f1, .int .i64 nd.f2.f0, .int .i64 nd.f2.f1, .int .i64 nd.f2.f2, .int .i64 nd.f2.f3, .slice A6 nd.f3.length c6, .int .i64 nd.f4.f0, .int .i64 nd.f4.f1, .int .i64 nd.f4.f2, .int .i64 nd.f4.f3, .slice A11 nd.f5.length c11, .int .i64 nd.f6.f0, .int .i64 nd.f6.f1, .int .i64 nd.f6.f2, .int .i64 nd.f6.f3] 36); have a1 := (blk_cell E1' 1).trans rfl; have a2 := (blk_cell E1' 2).trans rfl; have a3 := (blk_cell E1' 3).trans rfl; have a4 := (blk_cell E1' 4).trans rfl; clear E1'; rw [← hq] at a1 a2 a3 a4; have E2' := Lib.hid (blk_alloc (blk_below E2w.out hb) (.cells #[.string nd.f0, .bool nd.f1, .int .i64 nd.f2.f0, .int .i64 nd.f2.f1, .int .i64 nd.f2.f2, .int .i64 nd.f2.f3, .slice A6 nd.f3.length c6, .int .i64 nd.f4.f0, .int .i64 nd.f4.f1, .int .i64 nd.f4.f2, .int .i64 nd.f4.f3, .slice A11 nd.f5.length c11, .int .i64 nd.f6.f0, .int .i64 nd.f6.f1, .int .i64 nd.f6.f2, .int .i64 nd.f6.f3] 36)); rw [← hq] at E2'; have HB8 := Lib.hid (below_alloc (below_step HBW.out hb) (.cells #[.string nd.f0, .bool nd.f1, .int .i64 nd.f2.f0, .int .i64 nd.f2.f1, .int .i64 nd.f2.f2, .int .i64 nd.f2.f3, .slice A6 nd.f3.length c6, .int .i64 nd.f4.f0, .int .i64 nd.f4.f1, .int .i64 nd.f4.f2, .int .i64 nd.f4.f3, .slice A11 nd.f5.length c11, .int .i64 nd.f6.f0, .int .i64 nd.f6.f1, .int .i64 nd.f6.f2, .int .i64 nd.f6.f3] 36)); rw [← hq] at HB8; clear hFK hb hq) | (go_at_call 58; refine (HO.out _).mono ?_; rintro e w5 ⟨rfl, hb5⟩; have E3 := blk_below E2'.out hb5; have r2 := wr50_blk E3 (cs := #[.string (⟨#[]⟩ : ByteArray), .bool false, .int .i64 0, .int .i64 0, .int .i64 0, .int .i64 0, .slice none 0 0, .int .i64 0, .int .i64 0, .int .i64 0, .int .i64 0, .slice none 0 0, .int .i64 0, .int .i64 0, .int .i64 0, .int .i64 0]) rfl rfl (by simp [Value.oneCell']); have HE := Lib.hid (setRow_heap _ _ _ #[.string (⟨#[]⟩ : ByteArray), .bool false, .int .i64 0, .int .i64 0, .int .i64 0, .int .i64 0, .slice none 0 0, .int .i64 0, .int .i64 0, .int .i64 0, .int .i64 0, .slice none 0 0, .int .i64 0, .int .i64 0, .int .i64 0, .int .i64 0] _ _ E3); have HB9 := Lib.hid (below_setRow (below_step HB8.out hb5) (Nat.le_succ _) #[.string (⟨#[]⟩ : ByteArray), .bool false, .int .i64 0, .int .i64 0, .int .i64 0, .int .i64 0, .slice none 0 0, .int .i64 0, .int .i64 0, .int .i64 0, .int .i64 0, .slice none 0 0, .int .i64 0, .int .i64 0, .int .i64 0, .int .i64 0]); clear E3 hb5))
            refine bodyPost_ret (results_ct rfl _ _ (w.heap.size + 1) 36 _ (0, 0) _ rfl HE.out Tryz.underlying36 rfl (by kernel_rfl)) rfl ?_
            rw [HV2.out]
            exact ⟨_, rfl, z50_FK _ _, HB9.out⟩
          | true =>
            have HV2 := Lib.hid (show seeR l a [] ns = seeR l a (ns.take (i + 1)) (ns.drop (i + 1)) by rw [HV1.out, hf, hl]; rfl)
            have HO := Lib.hid fun w1 => lover_calls a nd.f2 w1
            rw [hl] at HO
            clear hl
            have hq : ∀ A6 c6 A11 c11, ((.cells #[.string nd.f0, .bool true, .int .i64 nd.f2.f0, .int .i64 nd.f2.f1, .int .i64 nd.f2.f2, .int .i64 nd.f2.f3, .slice A6 nd.f3.length c6, .int .i64 nd.f4.f0, .int .i64 nd.f4.f1, .int .i64 nd.f4.f2, .int .i64 nd.f4.f3, .slice A11 nd.f5.length c11, .int .i64 nd.f6.f0, .int .i64 nd.f6.f1, .int .i64 nd.f6.f2, .int .i64 nd.f6.f3] 36) : Obj) = (.cells #[.string nd.f0, .bool nd.f1, .int .i64 nd.f2.f0, .int .i64 nd.f2.f1, .int .i64 nd.f2.f2, .int .i64 nd.f2.f3, .slice A6 nd.f3.length c6, .int .i64 nd.f4.f0, .int .i64 nd.f4.f1, .int .i64 nd.f4.f2, .int .i64 nd.f4.f3, .slice A11 nd.f5.length c11, .int .i64 nd.f6.f0, .int .i64 nd.f6.f1, .int .i64 nd.f6.f2, .int .i64 nd.f6.f3] 36) := fun _ _ _ _ => by rw [hf]
            go_wp2_with (first | (go_at_call 57; refine HF.out.mono ?_; rintro e w4 ⟨cs, rfl, hFK, hb⟩; obtain ⟨A6, c6, A11, c11, rfl, _⟩ := k50_openF hFK; have E1' := blk_alloc (blk_below E1w.out hb) (.cells #[.string nd.f0, .bool nd.f1, .int .i64 nd.f2.f0, .int .i64 nd.f2.f1, .int .i64 nd.f2.f2, .int .i64 nd.f2.f3, .slice A6 nd.f3.length c6, .int .i64 nd.f4.f0, .int .i64 nd.f4.f1, .int .i64 nd.f4.f2, .int .i64 nd.f4.f3, .slice A11 nd.f5.length c11, .int .i64 nd.f6.f0, .int .i64 nd.f6.f1, .int .i64 nd.f6.f2, .int .i64 nd.f6.f3] 36); have a1 := (blk_cell E1' 1).trans rfl; have a2 := (blk_cell E1' 2).trans rfl; have a3 := (blk_cell E1' 3).trans rfl; have a4 := (blk_cell E1' 4).trans rfl; clear E1'; rw [← hq] at a1 a2 a3 a4; have HB8 := Lib.hid (below_alloc (below_step (Below.refl wr.heap.size wr) hb) (.cells #[.string nd.f0, .bool nd.f1, .int .i64 nd.f2.f0, .int .i64 nd.f2.f1, .int .i64 nd.f2.f2, .int .i64 nd.f2.f3, .slice A6 nd.f3.length c6, .int .i64 nd.f4.f0, .int .i64 nd.f4.f1, .int .i64 nd.f4.f2, .int .i64 nd.f4.f3, .slice A11 nd.f5.length c11, .int .i64 nd.f6.f0, .int .i64 nd.f6.f1, .int .i64 nd.f6.f2, .int .i64 nd.f6.f3] 36)); rw [← hq] at HB8; clear hFK hb hq) | (go_at_call 58; refine (HO.out _).mono ?_; rintro e w5 ⟨rfl, hb5⟩; have HB9 := Lib.hid (below_step HB8.out hb5); clear hb5) | (go_at_call 59; refine (HJ.out _).mono ?_; rintro e w6 ⟨rfl, hb6⟩; have HB10 := Lib.hid (below_step HB9.out (Drawn0.below hb6)); clear hb6))
            go_roundg (ns.length - (i + 1))
            case measure => omega
            case rel => exact ⟨i + 1, hlt, Nat.le_refl _, by rw [L.wrap_succ (by omega) (show (i : Int) < (nms.length : Int) by omega) (by have := HF9.out.2.1; omega)]; rfl, rfl, Lib.hid (below_step HW.out HB10.out), Lib.hid HV2.out⟩
    · have hin : i = ns.length := by have := HLL.out; omega
      subst hin
      have HV1 := Lib.hid (show seeR l a [] ns = if isN l (pth ns) then (nodeN l (pth ns), 0) else (z50, 2) by
        rw [HV.out, List.drop_length, seeR, List.take_length])
      have hF0 := HF.out ns.length wr HBW.out
      rw [List.take_length] at hF0
      have HF := Lib.hid hF0
      rw [List.take_length]
      clear hF0
      clear HV
      generalize nodeN l (pth ns) = nd at HF HV1
      generalize isN l (pth ns) = b at HF HV1
      have E2w := Lib.hid (blk_below E2.out HW.out)
      cases b with
      | false =>
        have HV2 := Lib.hid (show seeR l a [] ns = (z50, 2) by rw [HV1.out]; rfl)
        go_wp2_with (go_at_call 57; refine HF.out.mono ?_; rintro e w4 ⟨cs, rfl, hFK, hb⟩; obtain ⟨A6, c6, A11, c11, rfl, _⟩ := k50_openF hFK; have E2' := blk_alloc (blk_below E2w.out hb) (.cells #[.string nd.f0, .bool nd.f1, .int .i64 nd.f2.f0, .int .i64 nd.f2.f1, .int .i64 nd.f2.f2, .int .i64 nd.f2.f3, .slice A6 nd.f3.length c6, .int .i64 nd.f4.f0, .int .i64 nd.f4.f1, .int .i64 nd.f4.f2, .int .i64 nd.f4.f3, .slice A11 nd.f5.length c11, .int .i64 nd.f6.f0, .int .i64 nd.f6.f1, .int .i64 nd.f6.f2, .int .i64 nd.f6.f3] 36); have r2 := wr50_blk E2' (cs := #[.string (⟨#[]⟩ : ByteArray), .bool false, .int .i64 0, .int .i64 0, .int .i64 0, .int .i64 0, .slice none 0 0, .int .i64 0, .int .i64 0, .int .i64 0, .int .i64 0, .slice none 0 0, .int .i64 0, .int .i64 0, .int .i64 0, .int .i64 0]) rfl rfl (by simp [Value.oneCell']); have HE := Lib.hid (setRow_heap _ _ _ #[.string (⟨#[]⟩ : ByteArray), .bool false, .int .i64 0, .int .i64 0, .int .i64 0, .int .i64 0, .slice none 0 0, .int .i64 0, .int .i64 0, .int .i64 0, .int .i64 0, .slice none 0 0, .int .i64 0, .int .i64 0, .int .i64 0, .int .i64 0] _ _ E2'); have HB9 := Lib.hid (below_setRow (below_alloc (below_step HBW.out hb) (.cells #[.string nd.f0, .bool nd.f1, .int .i64 nd.f2.f0, .int .i64 nd.f2.f1, .int .i64 nd.f2.f2, .int .i64 nd.f2.f3, .slice A6 nd.f3.length c6, .int .i64 nd.f4.f0, .int .i64 nd.f4.f1, .int .i64 nd.f4.f2, .int .i64 nd.f4.f3, .slice A11 nd.f5.length c11, .int .i64 nd.f6.f0, .int .i64 nd.f6.f1, .int .i64 nd.f6.f2, .int .i64 nd.f6.f3] 36)) (Nat.le_succ _) #[.string (⟨#[]⟩ : ByteArray), .bool false, .int .i64 0, .int .i64 0, .int .i64 0, .int .i64 0, .slice none 0 0, .int .i64 0, .int .i64 0, .int .i64 0, .int .i64 0, .slice none 0 0, .int .i64 0, .int .i64 0, .int .i64 0, .int .i64 0]); clear E2' hFK hb)
        refine bodyPost_ret (results_ct rfl _ _ (w.heap.size + 1) 36 _ (0, 0) _ rfl HE.out Tryz.underlying36 rfl (by kernel_rfl)) rfl ?_
        rw [HV2.out]
        exact ⟨_, rfl, z50_FK _ _, HB9.out⟩
      | true =>
        have HV2 := Lib.hid (show seeR l a [] ns = (nd, 0) by rw [HV1.out]; rfl)
        have hg2 := Lib.hid (blk_lt E2w.out)
        have hg3 := Lib.hid (below_size HBW.out)
        go_wp2_with (go_at_call 57; refine HF.out.mono ?_; rintro e w4 ⟨cs, rfl, hFK, hb⟩; obtain ⟨A6, c6, A11, c11, rfl, _⟩ := k50_openF hFK; have E2' := blk_alloc (blk_below E2w.out hb) (.cells #[.string nd.f0, .bool nd.f1, .int .i64 nd.f2.f0, .int .i64 nd.f2.f1, .int .i64 nd.f2.f2, .int .i64 nd.f2.f3, .slice A6 nd.f3.length c6, .int .i64 nd.f4.f0, .int .i64 nd.f4.f1, .int .i64 nd.f4.f2, .int .i64 nd.f4.f3, .slice A11 nd.f5.length c11, .int .i64 nd.f6.f0, .int .i64 nd.f6.f1, .int .i64 nd.f6.f2, .int .i64 nd.f6.f3] 36); have r2 := wr50_blk E2' (cs := #[.string nd.f0, .bool nd.f1, .int .i64 nd.f2.f0, .int .i64 nd.f2.f1, .int .i64 nd.f2.f2, .int .i64 nd.f2.f3, .slice A6 nd.f3.length c6, .int .i64 nd.f4.f0, .int .i64 nd.f4.f1, .int .i64 nd.f4.f2, .int .i64 nd.f4.f3, .slice A11 nd.f5.length c11, .int .i64 nd.f6.f0, .int .i64 nd.f6.f1, .int .i64 nd.f6.f2, .int .i64 nd.f6.f3]) rfl rfl (by simp [Value.oneCell']); have HE := Lib.hid (setRow_heap _ _ _ #[.string nd.f0, .bool nd.f1, .int .i64 nd.f2.f0, .int .i64 nd.f2.f1, .int .i64 nd.f2.f2, .int .i64 nd.f2.f3, .slice A6 nd.f3.length c6, .int .i64 nd.f4.f0, .int .i64 nd.f4.f1, .int .i64 nd.f4.f2, .int .i64 nd.f4.f3, .slice A11 nd.f5.length c11, .int .i64 nd.f6.f0, .int .i64 nd.f6.f1, .int .i64 nd.f6.f2, .int .i64 nd.f6.f3] _ _ E2'); have HB9 := Lib.hid (below_setRow (below_alloc (below_step HBW.out hb) (.cells #[.string nd.f0, .bool nd.f1, .int .i64 nd.f2.f0, .int .i64 nd.f2.f1, .int .i64 nd.f2.f2, .int .i64 nd.f2.f3, .slice A6 nd.f3.length c6, .int .i64 nd.f4.f0, .int .i64 nd.f4.f1, .int .i64 nd.f4.f2, .int .i64 nd.f4.f3, .slice A11 nd.f5.length c11, .int .i64 nd.f6.f0, .int .i64 nd.f6.f1, .int .i64 nd.f6.f2, .int .i64 nd.f6.f3] 36)) (Nat.le_succ _) #[.string nd.f0, .bool nd.f1, .int .i64 nd.f2.f0, .int .i64 nd.f2.f1, .int .i64 nd.f2.f2, .int .i64 nd.f2.f3, .slice A6 nd.f3.length c6, .int .i64 nd.f4.f0, .int .i64 nd.f4.f1, .int .i64 nd.f4.f2, .int .i64 nd.f4.f3, .slice A11 nd.f5.length c11, .int .i64 nd.f6.f0, .int .i64 nd.f6.f1, .int .i64 nd.f6.f2, .int .i64 nd.f6.f3]); have HFK := Lib.hid (Kd.FK_step (Kd.FK_below hFK (below_alloc (Below.refl _ _) (.cells #[.string nd.f0, .bool nd.f1, .int .i64 nd.f2.f0, .int .i64 nd.f2.f1, .int .i64 nd.f2.f2, .int .i64 nd.f2.f3, .slice A6 nd.f3.length c6, .int .i64 nd.f4.f0, .int .i64 nd.f4.f1, .int .i64 nd.f4.f2, .int .i64 nd.f4.f3, .slice A11 nd.f5.length c11, .int .i64 nd.f6.f0, .int .i64 nd.f6.f1, .int .i64 nd.f6.f2, .int .i64 nd.f6.f3] 36))) (W1 := (w4.alloc (.cells #[.string nd.f0, .bool nd.f1, .int .i64 nd.f2.f0, .int .i64 nd.f2.f1, .int .i64 nd.f2.f2, .int .i64 nd.f2.f3, .slice A6 nd.f3.length c6, .int .i64 nd.f4.f0, .int .i64 nd.f4.f1, .int .i64 nd.f4.f2, .int .i64 nd.f4.f3, .slice A11 nd.f5.length c11, .int .i64 nd.f6.f0, .int .i64 nd.f6.f1, .int .i64 nd.f6.f2, .int .i64 nd.f6.f3] 36)).setRow (w.heap.size + 1) #[.string nd.f0, .bool nd.f1, .int .i64 nd.f2.f0, .int .i64 nd.f2.f1, .int .i64 nd.f2.f2, .int .i64 nd.f2.f3, .slice A6 nd.f3.length c6, .int .i64 nd.f4.f0, .int .i64 nd.f4.f1, .int .i64 nd.f4.f2, .int .i64 nd.f4.f3, .slice A11 nd.f5.length c11, .int .i64 nd.f6.f0, .int .i64 nd.f6.f1, .int .i64 nd.f6.f2, .int .i64 nd.f6.f3]) fun k hk _ => setRow_other _ _ _ _ (by have := hg2.out; omega)); clear E2' hFK hb)
        refine bodyPost_ret (results_ct rfl _ _ (w.heap.size + 1) 36 _ (0, 0) _ rfl HE.out Tryz.underlying36 rfl (by kernel_rfl)) rfl ?_
        rw [HV2.out]
        exact ⟨_, rfl, Kd.FK_mono HFK.out (fun k hk => by have := hg3.out; omega), HB9.out⟩
end Go.Proofs.YteilkbookcmndaaGreatDoor.C
namespace Go.Proofs.YteilkbookcmndaaGreatDoor.C
open Go.RowKit Go.Proofs.YteilkbookcmndaaGreatDoor.Q Go.Proofs.YteilkbookcmndaaGreatDoorW.PrintWords Go.Proofs.YteilkbookcmndaaGreatDoorW.PrintLast Go.Proofs.YteilkbookcmndaaGreatDoorW.PrintMore
attribute [local go_sem ↓] rd_at50 wr_at50 al_at50
attribute [local go_sem] rd50_new wr50_new al50
def mayN (a : S41) (u : ByteArray) (mode : Int) (n : S50) (e : Int) : S50 × Int :=
  if e = 0 then (if fitsB a n mode then (if bits .andNot .i64 mode (amodes n.f3 u) = 0 then (n, 0) else (z50, 16)) else (z50, 15)) else (z50, e)
def mayR (l : List S50) (a : S41) (u : ByteArray) (ns : List (List UInt8)) (mode : Int) : S50 × Int :=
  if 1 ≤ mode ∧ mode ≤ 7 then mayN a u mode (seeR l a [] ns).1 (seeR l a [] ns).2 else (z50, 1)
def Acls (n : S50) : Prop := n.f3.length < 1000000 ∧ ∀ u, RisingG n.f3 u
theorem acls_z : Acls z50 := ⟨by decide, fun u a b hab hb => absurd hb (Nat.not_lt_zero _)⟩
theorem nodeN_mem {l : List S50} {p : ByteArray} (h : isN l p = true) : nodeN l p ∈ l := by
  unfold nodeN
  rw [if_pos h]
  have := isN_lt h
  rw [List.getD_eq_getElem?_getD, List.getElem?_eq_getElem this]
  exact List.getElem_mem this
theorem see_acls {l : List S50} (hA : ∀ n ∈ l, Acls n) (a : S41) : ∀ (ns pre : List (List UInt8)), Acls (seeR l a pre ns).1
  | [], pre => by
    unfold seeR
    split
    · exact hA _ (nodeN_mem ‹_›)
    · exact acls_z
  | n :: rest, pre => by
    unfold seeR
    split
    · split
      · split
        · exact see_acls hA a rest _
        · exact acls_z
      · exact acls_z
    · exact acls_z
set_option maxHeartbeats 1000000 in
set_option maxRecDepth 100000 in
theorem may_c (l : List S50) (u : ByteArray) (a : S41) (ns : List (List UInt8)) (mode : Int) (A : Option Addr) (c : Nat) (w : World) (hC : Kd.C k50 w A l.length l) (hc : l.length ≤ c) (hS : Srch l) (hA : ∀ n ∈ l, Acls n) (hN : ∀ x ∈ ns, L.Nm x) (h0 : L.checkL (L.render ns) = 0) :
    Calls Tryz.prog 19 #[.slice A l.length c, .agg #[.string u, .int .i64 a.f0, .int .i64 a.f1, .int .i64 a.f2, .int .i64 a.f3], .string (pth ns), .int .i64 mode] w (NodeE (mayR l a u ns mode).1 (mayR l a u ns mode).2 w) := by
  have HF := Lib.hid fun w1 (hb : Below w.heap.size w w1) => see_c l u a ns A c w1 (Kd.C_below hC hb) hc hS hN h0
  have HA := Lib.hid (see_acls hA a ns [])
  have HV0 : mayR l a u ns mode = if 1 ≤ mode ∧ mode ≤ 7 then mayN a u mode (seeR l a [] ns).1 (seeR l a [] ns).2 else (z50, 1) := rfl
  have HV1 := Lib.hid HV0
  clear HV0 hC hS hA hN h0
  generalize mayR l a u ns mode = res at HV1 ⊢
  generalize seeR l a [] ns = sr at HF HA HV1
  obtain ⟨nd, e0⟩ := sr
  generalize pth ns = p at HF ⊢
  have E1 := Lib.hid (blk_alloc (blk_new w (.cells #[.string u, .int .i64 a.f0, .int .i64 a.f1, .int .i64 a.f2, .int .i64 a.f3] 52)) (.cells #[.string (⟨#[]⟩ : ByteArray), .bool false, .int .i64 0, .int .i64 0, .int .i64 0, .int .i64 0, .slice none 0 0, .int .i64 0, .int .i64 0, .int .i64 0, .int .i64 0, .slice none 0 0, .int .i64 0, .int .i64 0, .int .i64 0, .int .i64 0] 36))
  have E2 := Lib.hid (show ((w.alloc (.cells #[.string u, .int .i64 a.f0, .int .i64 a.f1, .int .i64 a.f2, .int .i64 a.f3] 52)).alloc (.cells #[.string (⟨#[]⟩ : ByteArray), .bool false, .int .i64 0, .int .i64 0, .int .i64 0, .int .i64 0, .slice none 0 0, .int .i64 0, .int .i64 0, .int .i64 0, .int .i64 0, .slice none 0 0, .int .i64 0, .int .i64 0, .int .i64 0, .int .i64 0] 36)).heap[w.heap.size + 1]? = some (.cells #[.string (⟨#[]⟩ : ByteArray), .bool false, .int .i64 0, .int .i64 0, .int .i64 0, .int .i64 0, .slice none 0 0, .int .i64 0, .int .i64 0, .int .i64 0, .int .i64 0, .slice none 0 0, .int .i64 0, .int .i64 0, .int .i64 0, .int .i64 0] 36) by have := blk_new (w.alloc (.cells #[.string u, .int .i64 a.f0, .int .i64 a.f1, .int .i64 a.f2, .int .i64 a.f3] 52)) (.cells #[.string (⟨#[]⟩ : ByteArray), .bool false, .int .i64 0, .int .i64 0, .int .i64 0, .int .i64 0, .slice none 0 0, .int .i64 0, .int .i64 0, .int .i64 0, .int .i64 0, .slice none 0 0, .int .i64 0, .int .i64 0, .int .i64 0, .int .i64 0] 36); rwa [World.size_alloc] at this)
  have HB0 := Lib.hid (below_alloc (below_alloc (Below.refl w.heap.size w) (.cells #[.string u, .int .i64 a.f0, .int .i64 a.f1, .int .i64 a.f2, .int .i64 a.f3] 52)) (.cells #[.string (⟨#[]⟩ : ByteArray), .bool false, .int .i64 0, .int .i64 0, .int .i64 0, .int .i64 0, .slice none 0 0, .int .i64 0, .int .i64 0, .int .i64 0, .int .i64 0, .slice none 0 0, .int .i64 0, .int .i64 0, .int .i64 0, .int .i64 0] 36))
  by_cases hm : 1 ≤ mode ∧ mode ≤ 7
  · obtain ⟨hm1, hm7⟩ := hm
    have HV2 := Lib.hid (show res = mayN a u mode nd e0 by rw [HV1.out, if_pos ⟨hm1, hm7⟩])
    have hm1' : ¬ mode < 1 := by omega
    have hm7' : ¬ 7 < mode := by omega
    clear HV1
    by_cases he : e0 = 0
    · subst he
      cases hf : fitsB a nd mode with
      | false =>
        have HV := Lib.hid (show res = (z50, 15) by rw [HV2.out, mayN, if_pos rfl, hf]; rfl)
        have HG := Lib.hid fun cs w1 (h : k50.K w1 nd cs) => fits_c u a nd cs mode w1 h
        rw [hf] at HG
        clear hf
        go_enter Tryz.func19, Tryz.ntmps19
        go_wp2_with (first | (go_at_call 35; refine (HF.out _ HB0.out).mono ?_; rintro e w4 ⟨cs, rfl, hFK, hb⟩; obtain ⟨A6, c6, A11, c11, rfl, hx⟩ := k50_openF hFK; have E2' := Lib.hid (blk_alloc (blk_below E2.out hb) (.cells #[.string nd.f0, .bool nd.f1, .int .i64 nd.f2.f0, .int .i64 nd.f2.f1, .int .i64 nd.f2.f2, .int .i64 nd.f2.f3, .slice A6 nd.f3.length c6, .int .i64 nd.f4.f0, .int .i64 nd.f4.f1, .int .i64 nd.f4.f2, .int .i64 nd.f4.f3, .slice A11 nd.f5.length c11, .int .i64 nd.f6.f0, .int .i64 nd.f6.f1, .int .i64 nd.f6.f2, .int .i64 nd.f6.f3] 36)); have HB4 := Lib.hid (below_alloc (below_step HB0.out hb) (.cells #[.string nd.f0, .bool nd.f1, .int .i64 nd.f2.f0, .int .i64 nd.f2.f1, .int .i64 nd.f2.f2, .int .i64 nd.f2.f3, .slice A6 nd.f3.length c6, .int .i64 nd.f4.f0, .int .i64 nd.f4.f1, .int .i64 nd.f4.f2, .int .i64 nd.f4.f3, .slice A11 nd.f5.length c11, .int .i64 nd.f6.f0, .int .i64 nd.f6.f1, .int .i64 nd.f6.f2, .int .i64 nd.f6.f3] 36)); have HKn := Lib.hid (k50.K_below (below_alloc (Below.refl _ _) (.cells #[.string nd.f0, .bool nd.f1, .int .i64 nd.f2.f0, .int .i64 nd.f2.f1, .int .i64 nd.f2.f2, .int .i64 nd.f2.f3, .slice A6 nd.f3.length c6, .int .i64 nd.f4.f0, .int .i64 nd.f4.f1, .int .i64 nd.f4.f2, .int .i64 nd.f4.f3, .slice A11 nd.f5.length c11, .int .i64 nd.f6.f0, .int .i64 nd.f6.f1, .int .i64 nd.f6.f2, .int .i64 nd.f6.f3] 36)) (Kd.FK_now hFK)); have E1' := blk_alloc (blk_below E1.out hb) (.cells #[.string nd.f0, .bool nd.f1, .int .i64 nd.f2.f0, .int .i64 nd.f2.f1, .int .i64 nd.f2.f2, .int .i64 nd.f2.f3, .slice A6 nd.f3.length c6, .int .i64 nd.f4.f0, .int .i64 nd.f4.f1, .int .i64 nd.f4.f2, .int .i64 nd.f4.f3, .slice A11 nd.f5.length c11, .int .i64 nd.f6.f0, .int .i64 nd.f6.f1, .int .i64 nd.f6.f2, .int .i64 nd.f6.f3] 36); have a0 := (blk_cell E1' 0).trans rfl; have a1 := (blk_cell E1' 1).trans rfl; have a2 := (blk_cell E1' 2).trans rfl; have a3 := (blk_cell E1' 3).trans rfl; have a4 := (blk_cell E1' 4).trans rfl; clear E1' hFK hb hx) | (go_at_call 36; refine (HG.out _ _ HKn.out).mono ?_; rintro e w5 ⟨rfl, hb5⟩; have E3 := blk_below E2'.out hb5; have r2 := wr50_blk E3 (cs := #[.string (⟨#[]⟩ : ByteArray), .bool false, .int .i64 0, .int .i64 0, .int .i64 0, .int .i64 0, .slice none 0 0, .int .i64 0, .int .i64 0, .int .i64 0, .int .i64 0, .slice none 0 0, .int .i64 0, .int .i64 0, .int .i64 0, .int .i64 0]) rfl rfl (by simp [Value.oneCell']); have HE := Lib.hid (setRow_heap _ _ _ #[.string (⟨#[]⟩ : ByteArray), .bool false, .int .i64 0, .int .i64 0, .int .i64 0, .int .i64 0, .slice none 0 0, .int .i64 0, .int .i64 0, .int .i64 0, .int .i64 0, .slice none 0 0, .int .i64 0, .int .i64 0, .int .i64 0, .int .i64 0] _ _ E3); have HB9 := Lib.hid (below_setRow (below_step HB4.out hb5) (Nat.le_succ _) #[.string (⟨#[]⟩ : ByteArray), .bool false, .int .i64 0, .int .i64 0, .int .i64 0, .int .i64 0, .slice none 0 0, .int .i64 0, .int .i64 0, .int .i64 0, .int .i64 0, .slice none 0 0, .int .i64 0, .int .i64 0, .int .i64 0, .int .i64 0]); clear E3 hb5))
        refine bodyPost_ret (results_ct rfl _ _ (w.heap.size + 1) 36 _ (0, 0) _ rfl HE.out Tryz.underlying36 rfl (by kernel_rfl)) rfl ?_
        rw [HV.out]
        exact ⟨_, rfl, z50_FK _ _, HB9.out⟩
      | true =>
        have HG := Lib.hid fun cs w1 (h : k50.K w1 nd cs) => fits_c u a nd cs mode w1 h
        rw [hf] at HG
        have HM := Lib.hid fun w1 A6 c6 (h : Kd.C k96 w1 A6 nd.f3.length nd.f3) (hl : nd.f3.length ≤ c6) => modes_c nd.f3 u A6 c6 w1 h hl HA.out.1 (HA.out.2 u) (HA.out.2 star)
        have HV3 := Lib.hid (show res = if bits .andNot .i64 mode (amodes nd.f3 u) = 0 then (nd, 0) else (z50, 16) by rw [HV2.out, mayN, if_pos rfl, hf]; rfl)
        clear hf
        generalize amodes nd.f3 u = am at HM HV3
        by_cases hz : bits .andNot .i64 mode am = 0
        · have HV := Lib.hid (show res = (nd, 0) by rw [HV3.out, if_pos hz])
          have hg1 := Lib.hid (blk_lt E2.out)
          have hg0 := Lib.hid (below_size HB0.out)
          go_enter Tryz.func19, Tryz.ntmps19
          go_wp2_with (first | (go_at_call 35; refine (HF.out _ HB0.out).mono ?_; rintro e w4 ⟨cs, rfl, hFK, hb⟩; obtain ⟨A6, c6, A11, c11, rfl, hx⟩ := k50_openF hFK; have E2' := Lib.hid (blk_alloc (blk_below E2.out hb) (.cells #[.string nd.f0, .bool nd.f1, .int .i64 nd.f2.f0, .int .i64 nd.f2.f1, .int .i64 nd.f2.f2, .int .i64 nd.f2.f3, .slice A6 nd.f3.length c6, .int .i64 nd.f4.f0, .int .i64 nd.f4.f1, .int .i64 nd.f4.f2, .int .i64 nd.f4.f3, .slice A11 nd.f5.length c11, .int .i64 nd.f6.f0, .int .i64 nd.f6.f1, .int .i64 nd.f6.f2, .int .i64 nd.f6.f3] 36)); have HB4 := Lib.hid (below_alloc (below_step HB0.out hb) (.cells #[.string nd.f0, .bool nd.f1, .int .i64 nd.f2.f0, .int .i64 nd.f2.f1, .int .i64 nd.f2.f2, .int .i64 nd.f2.f3, .slice A6 nd.f3.length c6, .int .i64 nd.f4.f0, .int .i64 nd.f4.f1, .int .i64 nd.f4.f2, .int .i64 nd.f4.f3, .slice A11 nd.f5.length c11, .int .i64 nd.f6.f0, .int .i64 nd.f6.f1, .int .i64 nd.f6.f2, .int .i64 nd.f6.f3] 36)); have HKn := Lib.hid (k50.K_below (below_alloc (Below.refl _ _) (.cells #[.string nd.f0, .bool nd.f1, .int .i64 nd.f2.f0, .int .i64 nd.f2.f1, .int .i64 nd.f2.f2, .int .i64 nd.f2.f3, .slice A6 nd.f3.length c6, .int .i64 nd.f4.f0, .int .i64 nd.f4.f1, .int .i64 nd.f4.f2, .int .i64 nd.f4.f3, .slice A11 nd.f5.length c11, .int .i64 nd.f6.f0, .int .i64 nd.f6.f1, .int .i64 nd.f6.f2, .int .i64 nd.f6.f3] 36)) (Kd.FK_now hFK)); have E1' := blk_alloc (blk_below E1.out hb) (.cells #[.string nd.f0, .bool nd.f1, .int .i64 nd.f2.f0, .int .i64 nd.f2.f1, .int .i64 nd.f2.f2, .int .i64 nd.f2.f3, .slice A6 nd.f3.length c6, .int .i64 nd.f4.f0, .int .i64 nd.f4.f1, .int .i64 nd.f4.f2, .int .i64 nd.f4.f3, .slice A11 nd.f5.length c11, .int .i64 nd.f6.f0, .int .i64 nd.f6.f1, .int .i64 nd.f6.f2, .int .i64 nd.f6.f3] 36); have a0 := (blk_cell E1' 0).trans rfl; have a1 := (blk_cell E1' 1).trans rfl; have a2 := (blk_cell E1' 2).trans rfl; have a3 := (blk_cell E1' 3).trans rfl; have a4 := (blk_cell E1' 4).trans rfl; have HE1 := Lib.hid E1'; have HEn := Lib.hid (blk_new w4 (.cells #[.string nd.f0, .bool nd.f1, .int .i64 nd.f2.f0, .int .i64 nd.f2.f1, .int .i64 nd.f2.f2, .int .i64 nd.f2.f3, .slice A6 nd.f3.length c6, .int .i64 nd.f4.f0, .int .i64 nd.f4.f1, .int .i64 nd.f4.f2, .int .i64 nd.f4.f3, .slice A11 nd.f5.length c11, .int .i64 nd.f6.f0, .int .i64 nd.f6.f1, .int .i64 nd.f6.f2, .int .i64 nd.f6.f3] 36)); have HCx := Lib.hid hx; have HFa := Lib.hid (Kd.FK_below hFK (below_alloc (Below.refl _ _) (.cells #[.string nd.f0, .bool nd.f1, .int .i64 nd.f2.f0, .int .i64 nd.f2.f1, .int .i64 nd.f2.f2, .int .i64 nd.f2.f3, .slice A6 nd.f3.length c6, .int .i64 nd.f4.f0, .int .i64 nd.f4.f1, .int .i64 nd.f4.f2, .int .i64 nd.f4.f3, .slice A11 nd.f5.length c11, .int .i64 nd.f6.f0, .int .i64 nd.f6.f1, .int .i64 nd.f6.f2, .int .i64 nd.f6.f3] 36))); clear E1' hFK hb hx) | (go_at_call 36; refine (HG.out _ _ HKn.out).mono ?_; rintro e w5 ⟨rfl, hb5⟩; have E3 := Lib.hid (blk_below E2'.out hb5); have HB5 := Lib.hid (below_step HB4.out hb5); have a0' := (blk_cell (blk_below HE1.out hb5) 0).trans rfl; have HEn5 := Lib.hid (blk_below HEn.out hb5); have n6 := (blk_cell HEn5.out 6).trans rfl; have HCy := Lib.hid (Kd.C_below (Kd.C_below (Kd.F_now HCx.out.2.1) (below_alloc (Below.refl _ _) (.cells #[.string nd.f0, .bool nd.f1, .int .i64 nd.f2.f0, .int .i64 nd.f2.f1, .int .i64 nd.f2.f2, .int .i64 nd.f2.f3, .slice A6 nd.f3.length c6, .int .i64 nd.f4.f0, .int .i64 nd.f4.f1, .int .i64 nd.f4.f2, .int .i64 nd.f4.f3, .slice A11 nd.f5.length c11, .int .i64 nd.f6.f0, .int .i64 nd.f6.f1, .int .i64 nd.f6.f2, .int .i64 nd.f6.f3] 36))) hb5); have HFb := Lib.hid (Kd.FK_below HFa.out hb5); clear hb5) | (go_at_call 37; refine (HM.out _ _ _ HCy.out HCx.out.1).mono ?_; rintro e w6 ⟨rfl, hb6⟩; have E4 := blk_below E3.out hb6; have r1 := rd50_blk (blk_below HEn5.out hb6) rfl; have r2 := wr50_blk E4 (cs := #[.string nd.f0, .bool nd.f1, .int .i64 nd.f2.f0, .int .i64 nd.f2.f1, .int .i64 nd.f2.f2, .int .i64 nd.f2.f3, .slice A6 nd.f3.length c6, .int .i64 nd.f4.f0, .int .i64 nd.f4.f1, .int .i64 nd.f4.f2, .int .i64 nd.f4.f3, .slice A11 nd.f5.length c11, .int .i64 nd.f6.f0, .int .i64 nd.f6.f1, .int .i64 nd.f6.f2, .int .i64 nd.f6.f3]) rfl rfl (by simp [Value.oneCell']); have HE := Lib.hid (setRow_heap _ _ _ #[.string nd.f0, .bool nd.f1, .int .i64 nd.f2.f0, .int .i64 nd.f2.f1, .int .i64 nd.f2.f2, .int .i64 nd.f2.f3, .slice A6 nd.f3.length c6, .int .i64 nd.f4.f0, .int .i64 nd.f4.f1, .int .i64 nd.f4.f2, .int .i64 nd.f4.f3, .slice A11 nd.f5.length c11, .int .i64 nd.f6.f0, .int .i64 nd.f6.f1, .int .i64 nd.f6.f2, .int .i64 nd.f6.f3] _ _ E4); have HB9 := Lib.hid (below_setRow (below_step HB5.out hb6) (Nat.le_succ _) #[.string nd.f0, .bool nd.f1, .int .i64 nd.f2.f0, .int .i64 nd.f2.f1, .int .i64 nd.f2.f2, .int .i64 nd.f2.f3, .slice A6 nd.f3.length c6, .int .i64 nd.f4.f0, .int .i64 nd.f4.f1, .int .i64 nd.f4.f2, .int .i64 nd.f4.f3, .slice A11 nd.f5.length c11, .int .i64 nd.f6.f0, .int .i64 nd.f6.f1, .int .i64 nd.f6.f2, .int .i64 nd.f6.f3]); have HFc := Lib.hid (Kd.FK_step (Kd.FK_below HFb.out hb6) (W1 := w6.setRow (w.heap.size + 1) #[.string nd.f0, .bool nd.f1, .int .i64 nd.f2.f0, .int .i64 nd.f2.f1, .int .i64 nd.f2.f2, .int .i64 nd.f2.f3, .slice A6 nd.f3.length c6, .int .i64 nd.f4.f0, .int .i64 nd.f4.f1, .int .i64 nd.f4.f2, .int .i64 nd.f4.f3, .slice A11 nd.f5.length c11, .int .i64 nd.f6.f0, .int .i64 nd.f6.f1, .int .i64 nd.f6.f2, .int .i64 nd.f6.f3]) fun k hk _ => setRow_other _ _ _ _ (by have := hg1.out; omega)); clear E4 hb6))
          refine bodyPost_ret (results_ct rfl _ _ (w.heap.size + 1) 36 _ (0, 0) _ rfl HE.out Tryz.underlying36 rfl (by kernel_rfl)) rfl ?_
          rw [HV.out]
          exact ⟨_, rfl, Kd.FK_mono HFc.out (fun k hk => by have := hg0.out; omega), HB9.out⟩
        · have HV := Lib.hid (show res = (z50, 16) by rw [HV3.out, if_neg hz])
          go_enter Tryz.func19, Tryz.ntmps19
          go_wp2_with (first | (go_at_call 35; refine (HF.out _ HB0.out).mono ?_; rintro e w4 ⟨cs, rfl, hFK, hb⟩; obtain ⟨A6, c6, A11, c11, rfl, hx⟩ := k50_openF hFK; have E2' := Lib.hid (blk_alloc (blk_below E2.out hb) (.cells #[.string nd.f0, .bool nd.f1, .int .i64 nd.f2.f0, .int .i64 nd.f2.f1, .int .i64 nd.f2.f2, .int .i64 nd.f2.f3, .slice A6 nd.f3.length c6, .int .i64 nd.f4.f0, .int .i64 nd.f4.f1, .int .i64 nd.f4.f2, .int .i64 nd.f4.f3, .slice A11 nd.f5.length c11, .int .i64 nd.f6.f0, .int .i64 nd.f6.f1, .int .i64 nd.f6.f2, .int .i64 nd.f6.f3] 36)); have HB4 := Lib.hid (below_alloc (below_step HB0.out hb) (.cells #[.string nd.f0, .bool nd.f1, .int .i64 nd.f2.f0, .int .i64 nd.f2.f1, .int .i64 nd.f2.f2, .int .i64 nd.f2.f3, .slice A6 nd.f3.length c6, .int .i64 nd.f4.f0, .int .i64 nd.f4.f1, .int .i64 nd.f4.f2, .int .i64 nd.f4.f3, .slice A11 nd.f5.length c11, .int .i64 nd.f6.f0, .int .i64 nd.f6.f1, .int .i64 nd.f6.f2, .int .i64 nd.f6.f3] 36)); have HKn := Lib.hid (k50.K_below (below_alloc (Below.refl _ _) (.cells #[.string nd.f0, .bool nd.f1, .int .i64 nd.f2.f0, .int .i64 nd.f2.f1, .int .i64 nd.f2.f2, .int .i64 nd.f2.f3, .slice A6 nd.f3.length c6, .int .i64 nd.f4.f0, .int .i64 nd.f4.f1, .int .i64 nd.f4.f2, .int .i64 nd.f4.f3, .slice A11 nd.f5.length c11, .int .i64 nd.f6.f0, .int .i64 nd.f6.f1, .int .i64 nd.f6.f2, .int .i64 nd.f6.f3] 36)) (Kd.FK_now hFK)); have E1' := blk_alloc (blk_below E1.out hb) (.cells #[.string nd.f0, .bool nd.f1, .int .i64 nd.f2.f0, .int .i64 nd.f2.f1, .int .i64 nd.f2.f2, .int .i64 nd.f2.f3, .slice A6 nd.f3.length c6, .int .i64 nd.f4.f0, .int .i64 nd.f4.f1, .int .i64 nd.f4.f2, .int .i64 nd.f4.f3, .slice A11 nd.f5.length c11, .int .i64 nd.f6.f0, .int .i64 nd.f6.f1, .int .i64 nd.f6.f2, .int .i64 nd.f6.f3] 36); have a0 := (blk_cell E1' 0).trans rfl; have a1 := (blk_cell E1' 1).trans rfl; have a2 := (blk_cell E1' 2).trans rfl; have a3 := (blk_cell E1' 3).trans rfl; have a4 := (blk_cell E1' 4).trans rfl; have HE1 := Lib.hid E1'; have HEn := Lib.hid (blk_new w4 (.cells #[.string nd.f0, .bool nd.f1, .int .i64 nd.f2.f0, .int .i64 nd.f2.f1, .int .i64 nd.f2.f2, .int .i64 nd.f2.f3, .slice A6 nd.f3.length c6, .int .i64 nd.f4.f0, .int .i64 nd.f4.f1, .int .i64 nd.f4.f2, .int .i64 nd.f4.f3, .slice A11 nd.f5.length c11, .int .i64 nd.f6.f0, .int .i64 nd.f6.f1, .int .i64 nd.f6.f2, .int .i64 nd.f6.f3] 36)); have HCx := Lib.hid hx; clear E1' hFK hb hx) | (go_at_call 36; refine (HG.out _ _ HKn.out).mono ?_; rintro e w5 ⟨rfl, hb5⟩; have E3 := Lib.hid (blk_below E2'.out hb5); have HB5 := Lib.hid (below_step HB4.out hb5); have a0' := (blk_cell (blk_below HE1.out hb5) 0).trans rfl; have n6 := (blk_cell (blk_below HEn.out hb5) 6).trans rfl; have HCy := Lib.hid (Kd.C_below (Kd.C_below (Kd.F_now HCx.out.2.1) (below_alloc (Below.refl _ _) (.cells #[.string nd.f0, .bool nd.f1, .int .i64 nd.f2.f0, .int .i64 nd.f2.f1, .int .i64 nd.f2.f2, .int .i64 nd.f2.f3, .slice A6 nd.f3.length c6, .int .i64 nd.f4.f0, .int .i64 nd.f4.f1, .int .i64 nd.f4.f2, .int .i64 nd.f4.f3, .slice A11 nd.f5.length c11, .int .i64 nd.f6.f0, .int .i64 nd.f6.f1, .int .i64 nd.f6.f2, .int .i64 nd.f6.f3] 36))) hb5); clear hb5) | (go_at_call 37; refine (HM.out _ _ _ HCy.out HCx.out.1).mono ?_; rintro e w6 ⟨rfl, hb6⟩; have E4 := blk_below E3.out hb6; have r2 := wr50_blk E4 (cs := #[.string (⟨#[]⟩ : ByteArray), .bool false, .int .i64 0, .int .i64 0, .int .i64 0, .int .i64 0, .slice none 0 0, .int .i64 0, .int .i64 0, .int .i64 0, .int .i64 0, .slice none 0 0, .int .i64 0, .int .i64 0, .int .i64 0, .int .i64 0]) rfl rfl (by simp [Value.oneCell']); have HE := Lib.hid (setRow_heap _ _ _ #[.string (⟨#[]⟩ : ByteArray), .bool false, .int .i64 0, .int .i64 0, .int .i64 0, .int .i64 0, .slice none 0 0, .int .i64 0, .int .i64 0, .int .i64 0, .int .i64 0, .slice none 0 0, .int .i64 0, .int .i64 0, .int .i64 0, .int .i64 0] _ _ E4); have HB9 := Lib.hid (below_setRow (below_step HB5.out hb6) (Nat.le_succ _) #[.string (⟨#[]⟩ : ByteArray), .bool false, .int .i64 0, .int .i64 0, .int .i64 0, .int .i64 0, .slice none 0 0, .int .i64 0, .int .i64 0, .int .i64 0, .int .i64 0, .slice none 0 0, .int .i64 0, .int .i64 0, .int .i64 0, .int .i64 0]); clear E4 hb6))
          refine bodyPost_ret (results_ct rfl _ _ (w.heap.size + 1) 36 _ (0, 0) _ rfl HE.out Tryz.underlying36 rfl (by kernel_rfl)) rfl ?_
          rw [HV.out]
          exact ⟨_, rfl, z50_FK _ _, HB9.out⟩
    · have HV := Lib.hid (show res = (z50, e0) by rw [HV2.out, mayN, if_neg he])
      go_enter Tryz.func19, Tryz.ntmps19
      go_wp2_with (go_at_call 35; refine (HF.out _ HB0.out).mono ?_; rintro e w4 ⟨cs, rfl, hFK, hb⟩; obtain ⟨A6, c6, A11, c11, rfl, hx⟩ := k50_openF hFK; have E2' := Lib.hid (blk_alloc (blk_below E2.out hb) (.cells #[.string nd.f0, .bool nd.f1, .int .i64 nd.f2.f0, .int .i64 nd.f2.f1, .int .i64 nd.f2.f2, .int .i64 nd.f2.f3, .slice A6 nd.f3.length c6, .int .i64 nd.f4.f0, .int .i64 nd.f4.f1, .int .i64 nd.f4.f2, .int .i64 nd.f4.f3, .slice A11 nd.f5.length c11, .int .i64 nd.f6.f0, .int .i64 nd.f6.f1, .int .i64 nd.f6.f2, .int .i64 nd.f6.f3] 36)); have HB4 := Lib.hid (below_alloc (below_step HB0.out hb) (.cells #[.string nd.f0, .bool nd.f1, .int .i64 nd.f2.f0, .int .i64 nd.f2.f1, .int .i64 nd.f2.f2, .int .i64 nd.f2.f3, .slice A6 nd.f3.length c6, .int .i64 nd.f4.f0, .int .i64 nd.f4.f1, .int .i64 nd.f4.f2, .int .i64 nd.f4.f3, .slice A11 nd.f5.length c11, .int .i64 nd.f6.f0, .int .i64 nd.f6.f1, .int .i64 nd.f6.f2, .int .i64 nd.f6.f3] 36)); have r2 := wr50_blk E2'.out (cs := #[.string (⟨#[]⟩ : ByteArray), .bool false, .int .i64 0, .int .i64 0, .int .i64 0, .int .i64 0, .slice none 0 0, .int .i64 0, .int .i64 0, .int .i64 0, .int .i64 0, .slice none 0 0, .int .i64 0, .int .i64 0, .int .i64 0, .int .i64 0]) rfl rfl (by simp [Value.oneCell']); have HE := Lib.hid (setRow_heap _ _ _ #[.string (⟨#[]⟩ : ByteArray), .bool false, .int .i64 0, .int .i64 0, .int .i64 0, .int .i64 0, .slice none 0 0, .int .i64 0, .int .i64 0, .int .i64 0, .int .i64 0, .slice none 0 0, .int .i64 0, .int .i64 0, .int .i64 0, .int .i64 0] _ _ E2'.out); have HB9 := Lib.hid (below_setRow (HB4.out) (Nat.le_succ _) #[.string (⟨#[]⟩ : ByteArray), .bool false, .int .i64 0, .int .i64 0, .int .i64 0, .int .i64 0, .slice none 0 0, .int .i64 0, .int .i64 0, .int .i64 0, .int .i64 0, .slice none 0 0, .int .i64 0, .int .i64 0, .int .i64 0, .int .i64 0]); clear hFK hb hx)
      refine bodyPost_ret (results_ct rfl _ _ (w.heap.size + 1) 36 _ (0, 0) _ rfl HE.out Tryz.underlying36 rfl (by kernel_rfl)) rfl ?_
      rw [HV.out]
      exact ⟨_, rfl, z50_FK _ _, HB9.out⟩
  · have HV := Lib.hid (show res = (z50, 1) by rw [HV1.out, if_neg hm])
    clear HV1
    have r2 := wr50_blk E2.out (cs := #[.string (⟨#[]⟩ : ByteArray), .bool false, .int .i64 0, .int .i64 0, .int .i64 0, .int .i64 0, .slice none 0 0, .int .i64 0, .int .i64 0, .int .i64 0, .int .i64 0, .slice none 0 0, .int .i64 0, .int .i64 0, .int .i64 0, .int .i64 0]) rfl rfl (by simp [Value.oneCell'])
    have HE := Lib.hid (setRow_heap _ _ _ #[.string (⟨#[]⟩ : ByteArray), .bool false, .int .i64 0, .int .i64 0, .int .i64 0, .int .i64 0, .slice none 0 0, .int .i64 0, .int .i64 0, .int .i64 0, .int .i64 0, .slice none 0 0, .int .i64 0, .int .i64 0, .int .i64 0, .int .i64 0] _ _ E2.out)
    have HB9 := Lib.hid (below_setRow HB0.out (Nat.le_succ _) #[.string (⟨#[]⟩ : ByteArray), .bool false, .int .i64 0, .int .i64 0, .int .i64 0, .int .i64 0, .slice none 0 0, .int .i64 0, .int .i64 0, .int .i64 0, .int .i64 0, .slice none 0 0, .int .i64 0, .int .i64 0, .int .i64 0, .int .i64 0])
    by_cases hm1 : mode < 1
    · go_enter Tryz.func19, Tryz.ntmps19
      go_wp2
      refine bodyPost_ret (results_ct rfl _ _ (w.heap.size + 1) 36 _ (0, 0) _ rfl HE.out Tryz.underlying36 rfl (by kernel_rfl)) rfl ?_
      rw [HV.out]
      exact ⟨_, rfl, z50_FK _ _, HB9.out⟩
    · have hm7 : 7 < mode := by omega
      go_enter Tryz.func19, Tryz.ntmps19
      go_wp2
      refine bodyPost_ret (results_ct rfl _ _ (w.heap.size + 1) 36 _ (0, 0) _ rfl HE.out Tryz.underlying36 rfl (by kernel_rfl)) rfl ?_
      rw [HV.out]
      exact ⟨_, rfl, z50_FK _ _, HB9.out⟩
end Go.Proofs.YteilkbookcmndaaGreatDoor.C
namespace Go.Proofs.YteilkbookcmndaaGreatDoor.C
open Go.RowKit Go.Proofs.YteilkbookcmndaaGreatDoor.Q Go.Proofs.YteilkbookcmndaaGreatDoorW.PrintWords Go.Proofs.YteilkbookcmndaaGreatDoorW.PrintLast Go.Proofs.YteilkbookcmndaaGreatDoorW.PrintMore
theorem win_calls (a n : Int) (w : World) (h0 : 0 < n) (hn : n ≤ 4611686018427387904) : Calls Tryz.prog 62 #[.int .i64 a, .int .i64 n] w fun e w' => ∃ t : Int, 0 ≤ t ∧ t < n ∧ e = .returned (.int .i64 t) ∧ Drawn0 w w' := by
  obtain ⟨t, ht, h1, h2⟩ := P.within_f a n h0 hn
  exact (donjonlaw6_within.calls a n t w ht).mono fun _ _ ⟨he, hd⟩ => ⟨t, h1, h2, he, hd⟩
theorem wrap64_ok {x : Int} (h : -1000 ≤ x ∧ x ≤ 1000) : wrap64 x = x := by
  unfold wrap64; omega
theorem rd_at47 (x : Value) : Instr.loadAt 33 x = rdS 33 x := rd_at 33 x
theorem wr_at47 (x v : Value) : Instr.storeAt 33 x v = wrS 33 x v := wr_at 33 x v
attribute [local go_sem ↓] rd_at47 wr_at47
def ring_T : Bool × List (List Nat × List Nat) := (true, [([], []), ([0], [0]), ([], []), ([2], [2]), ([], []), ([4], [4]), ([5], [5]), ([3, 6], [3, 6]), ([1, 7], [1, 7]), ([0, 1, 2, 3, 4, 5, 6, 7, 8], []), ([9, 8, 7, 0, 1, 2, 3, 4, 5, 6, 7, 8], [8, 9])])
def ring_B : List Nat := [0, 1, 0, 4, 0, 16, 48, 124, 255, 511, 1023]
theorem ring_tab2 : rtab .any (opsOf Tryz.f40 2) = ring_T := by kernel_rfl
theorem ring_tab3 : rtab .any (opsOf Tryz.f40 3) = ring_T := by kernel_rfl
theorem ring_bits : waitsOk ring_T.2 ring_B = true := by kernel_rfl
set_option maxHeartbeats 1000000 in
set_option maxRecDepth 100000 in
theorem ring_c (b0 b1 b2 b3 : Int) (w : World) :
    Calls Tryz.prog 40 #[.agg #[.int .i64 b0, .int .i64 b1, .int .i64 b2, .int .i64 b3]] w fun e w' => ∃ r0 r1 r2 r3 : Int, e = .returned (.agg #[.int .i64 r0, .int .i64 r1, .int .i64 r2, .int .i64 r3]) ∧ (0 ≤ r0 ∧ r0 ≤ r1 ∧ r1 ≤ r2 ∧ r2 < 8 ∧ 0 ≤ r3 ∧ r3 < 17) ∧ Below w.heap.size w w' := by
  go_enter Tryz.func40, Tryz.ntmps40
  go_wp2_with (go_at_call 62; refine (win_calls _ _ _ (by omega) (by omega)).mono ?_; rintro e w1 ⟨t0, h0t0, hnt0, rfl, hd⟩; have E := Lib.hid (blk_below (blk_alloc (blk_new w _) _) hd.below); have Ez := Lib.hid (blk_below (blk_new (w.alloc _) _) hd.below); have HB := Lib.hid (below_step (below_alloc (below_alloc (Below.refl w.heap.size w) _) _) hd.below); clear hd; have hs := (blk_cell E.out 0).trans rfl; have hf := blk_frozen E.out 0)
  generalize hV : w1.setCell ⟨w.heap.size, 0, none⟩ (.int .i64 t0) = V1
  have E1 : V1.heap[w.heap.size]? = some (.cells #[.int .i64 t0, .int .i64 b1, .int .i64 b2, .int .i64 b3] 33 (0, 0)) := by rw [← hV]; exact blk_put E.out 0 _ rfl
  have E2 : V1.heap[w.heap.size + 1]? = some (.cells #[.int .i64 0, .int .i64 0, .int .i64 0, .int .i64 0] 33 (0, 0)) := by rw [← hV]; have := Ez.out; rw [World.size_alloc] at this; exact blk_far this (by simp) _
  have HG := Lib.hid (show Below w.heap.size w V1 by rw [← hV]; exact below_set HB.out (Nat.le_refl _))
  clear hV hs hf E Ez HB
  refine start_ (n := 11) (S := fun w' => w'.heap[w.heap.size]? = some (.cells #[.int .i64 t0, .int .i64 b1, .int .i64 b2, .int .i64 b3] 33 (0, 0))) (ds := [10]) #[false, false, false, false, false, false, false, false, false, false, false] (by kernel_rfl) rfl rfl E1 (fun hHeld => ?_); refine with_tabW ring_tab2 ring_bits (fun HT_ HW_ => ?_)
  generalize hV : V1.drew = V2 at hHeld ⊢
  have E2 : V2.heap[w.heap.size + 1]? = some (.cells #[.int .i64 0, .int .i64 0, .int .i64 0, .int .i64 0] 33 (0, 0)) := by rw [← hV]; exact E2
  have HG := Lib.hid (show Below w.heap.size w V2 by rw [← hV]; exact below_drew1 HG.out)
  clear hV E1
  refine pure_ (i := 0) (N := some 7) (v := ?_) (a' := ?_) #[true, false, false, false, false, false, false, false, false, false, false] rfl rfl (any_of HT_.out (by kernel_rfl)) (fun _ _ _ h => h) (Or.inl ⟨by rfl, ?_⟩) ?_ ?_
  rotate_left
  · intro w'
    go_simp
    with_reducible rfl
  rotate_left
  · simp only [Act.put, List.setIfInBounds_toArray, List.set_cons_zero, List.set_cons_succ, i64_w, i32_w]
    rfl
  refine pure_ (i := 2) (N := some 9) (v := ?_) (a' := ?_) #[true, false, true, false, false, false, false, false, false, false, false] rfl rfl (any_of HT_.out (by kernel_rfl)) (fun _ _ _ h => h) (Or.inl ⟨by rfl, ?_⟩) ?_ ?_
  rotate_left
  · intro w'
    go_simp
    with_reducible rfl
  rotate_left
  · simp only [Act.put, List.setIfInBounds_toArray, List.set_cons_zero, List.set_cons_succ, i64_w, i32_w]
    rfl
  refine pure_ (i := 4) (N := some 11) (v := ?_) (a' := ?_) #[true, false, true, false, true, false, false, false, false, false, false] rfl rfl (any_of HT_.out (by kernel_rfl)) (fun _ _ _ h => h) (Or.inl ⟨by rfl, ?_⟩) ?_ ?_
  rotate_left
  · intro w'
    go_simp
    with_reducible rfl
  rotate_left
  · simp only [Act.put, List.setIfInBounds_toArray, List.set_cons_zero, List.set_cons_succ, i64_w, i32_w]
    rfl
  refine take_ (i := 1) (N := some 8) (v := ?_) (a' := ?_) #[true, true, true, false, true, false, false, false, false, false, false] rfl rfl (take_ofW HT_.out HW_.out (by kernel_rfl)) (fun _ _ _ h => h) (Or.inl ⟨by rfl, ?_⟩) hHeld ?_ ?_
  rotate_left
  · intro w' hS
    have hc := (blk_cell hS 0).trans rfl
    go_simp
    with_reducible rfl
  rotate_left
  · simp only [Act.put, List.setIfInBounds_toArray, List.set_cons_zero, List.set_cons_succ, i64_w, i32_w]
    rfl
  refine take_ (i := 3) (N := some 10) (v := ?_) (a' := ?_) #[true, true, true, true, true, false, false, false, false, false, false] rfl rfl (take_ofW HT_.out HW_.out (by kernel_rfl)) (fun _ _ _ h => h) (Or.inl ⟨by rfl, ?_⟩) hHeld ?_ ?_
  rotate_left
  · intro w' hS
    have hc := (blk_cell hS 1).trans rfl
    go_simp
    with_reducible rfl
  rotate_left
  · simp only [Act.put, List.setIfInBounds_toArray, List.set_cons_zero, List.set_cons_succ, i64_w, i32_w]
    rfl
  refine take_ (i := 5) (N := some 12) (v := ?_) (a' := ?_) #[true, true, true, true, true, true, false, false, false, false, false] rfl rfl (take_ofW HT_.out HW_.out (by kernel_rfl)) (fun _ _ _ h => h) (Or.inl ⟨by rfl, ?_⟩) hHeld ?_ ?_
  rotate_left
  · intro w' hS
    have hc := (blk_cell hS 0).trans rfl
    go_simp
    with_reducible rfl
  rotate_left
  · simp only [Act.put, List.setIfInBounds_toArray, List.set_cons_zero, List.set_cons_succ, i64_w, i32_w]
    rfl
  have hw8 : wrap64 (8 - t0) = 8 - t0 := wrap64_ok (by omega)
  refine pure_ (i := 6) (N := some 13) (v := ?_) (a' := ?_) #[true, true, true, true, true, true, true, false, false, false, false] rfl rfl (any_of HT_.out (by kernel_rfl)) (fun _ _ _ h => h) (Or.inl ⟨by rfl, ?_⟩) ?_ ?_
  rotate_left
  · intro w'
    go_simp
    with_reducible rfl
  rotate_left
  · simp only [Act.put, List.setIfInBounds_toArray, List.set_cons_zero, List.set_cons_succ, i64_w, i32_w]
    rfl
  refine one_ (i := 7) (N := some 14) #[true, true, true, true, true, true, true, true, false, false, false] rfl rfl (one_of HT_.out (by kernel_rfl)) (by decide) (fun K hK => ?_)
  refine goes_ Tryz.func62 (by kernel_rfl) rfl #[.int .i64 b1, .int .i64 (8 - t0)] (by rfl) rfl rfl (by (try simp only [List.map_toArray, List.map_cons, List.map_nil]); first | done | rfl | (simp only [Act.eval, hw8]; rfl) | (go_simp; rfl)) ?_
  refine (win_calls _ _ _ (by omega) (by omega)).mono ?_
  rintro e V3 ⟨t1, h0t1, hnt1, rfl, hd⟩
  have hb := hd.below
  clear hd
  refine ⟨_, rfl, ?_⟩
  replace hHeld := blk_below hHeld hb
  replace E2 := blk_below E2 hb
  have HG := Lib.hid (below_step HG.out hb)
  refine hK.out _ _ hHeld ?_
  clear hK K hb
  intro _
  refine norm_ (a' := ?_) ?_ ?_
  rotate_left
  · show Act.put _ (some 14) _ = _
    simp only [Act.put, List.setIfInBounds_toArray, List.set_cons_zero, List.set_cons_succ, i64_w, i32_w]
    rfl
  have hwa : wrap64 (t0 + t1) = t0 + t1 := wrap64_ok (by omega)
  refine pure_ (i := 8) (N := some 15) (v := ?_) (a' := ?_) #[true, true, true, true, true, true, true, true, true, false, false] rfl rfl (any_of HT_.out (by kernel_rfl)) (fun _ _ _ h => h) (Or.inl ⟨by rfl, ?_⟩) ?_ ?_
  rotate_left
  · intro w'
    go_simp
    with_reducible rfl
  rotate_left
  · simp only [Act.put, List.setIfInBounds_toArray, List.set_cons_zero, List.set_cons_succ, i64_w, i32_w]
    rfl
  refine pure_ (i := 9) (N := some 16) (v := ?_) (a' := ?_) #[true, true, true, true, true, true, true, true, true, true, false] rfl rfl (any_of HT_.out (by kernel_rfl)) (fun _ _ _ h => h) (Or.inl ⟨by rfl, ?_⟩) ?_ ?_
  rotate_left
  · intro w'
    go_simp
    with_reducible rfl
  rotate_left
  · simp only [Act.put, List.setIfInBounds_toArray, List.set_cons_zero, List.set_cons_succ, i64_w, i32_w]
    rfl
  refine last_ (i := 10) (N := none) #[true, true, true, true, true, true, true, true, true, true, true] rfl rfl (one_of HT_.out (by kernel_rfl)) (by decide) (fun K hK => ?_)
  have hs := (blk_cell hHeld 1).trans rfl
  have hf := blk_frozen hHeld 1
  refine skip_ (w1 := ?_) (by rfl) rfl ?_ ?_
  rotate_left
  · go_simp
    rfl
  clear hs hf
  refine hK.out _ _ ?_
  clear hK K
  refine done_ (done_of HT_.out (by kernel_rfl)) ?_
  clear HT_ HW_
  generalize hV : V3.setCell ⟨w.heap.size, 1, none⟩ (.int .i64 (t0 + t1)) = V4
  replace E1 : V4.heap[w.heap.size]? = some (.cells #[.int .i64 t0, .int .i64 (t0 + t1), .int .i64 b2, .int .i64 b3] 33 (0, 0)) := by rw [← hV]; exact blk_put hHeld 1 _ rfl
  replace E2 : V4.heap[w.heap.size + 1]? = some (.cells #[.int .i64 0, .int .i64 0, .int .i64 0, .int .i64 0] 33 (0, 0)) := by rw [← hV]; exact blk_far E2 (by simp) _
  have HG := Lib.hid (show Below w.heap.size w V4 by rw [← hV]; exact below_set HG.out (Nat.le_refl _))
  clear hV hHeld hw8 hwa
  go_wp2
  refine start_ (n := 11) (S := fun w' => w'.heap[w.heap.size]? = some (.cells #[.int .i64 t0, .int .i64 (t0 + t1), .int .i64 b2, .int .i64 b3] 33 (0, 0))) (ds := [10]) #[false, false, false, false, false, false, false, false, false, false, false] (by kernel_rfl) rfl rfl E1 (fun hHeld => ?_); refine with_tabW ring_tab3 ring_bits (fun HT_ HW_ => ?_)
  generalize hV : V4.drew = V5 at hHeld ⊢
  have E2 : V5.heap[w.heap.size + 1]? = some (.cells #[.int .i64 0, .int .i64 0, .int .i64 0, .int .i64 0] 33 (0, 0)) := by rw [← hV]; exact E2
  have HG := Lib.hid (show Below w.heap.size w V5 by rw [← hV]; exact below_drew1 HG.out)
  clear hV E1
  refine pure_ (i := 0) (N := some 17) (v := ?_) (a' := ?_) #[true, false, false, false, false, false, false, false, false, false, false] rfl rfl (any_of HT_.out (by kernel_rfl)) (fun _ _ _ h => h) (Or.inl ⟨by rfl, ?_⟩) ?_ ?_
  rotate_left
  · intro w'
    go_simp
    with_reducible rfl
  rotate_left
  · simp only [Act.put, List.setIfInBounds_toArray, List.set_cons_zero, List.set_cons_succ, i64_w, i32_w]
    rfl
  refine pure_ (i := 2) (N := some 19) (v := ?_) (a' := ?_) #[true, false, true, false, false, false, false, false, false, false, false] rfl rfl (any_of HT_.out (by kernel_rfl)) (fun _ _ _ h => h) (Or.inl ⟨by rfl, ?_⟩) ?_ ?_
  rotate_left
  · intro w'
    go_simp
    with_reducible rfl
  rotate_left
  · simp only [Act.put, List.setIfInBounds_toArray, List.set_cons_zero, List.set_cons_succ, i64_w, i32_w]
    rfl
  refine pure_ (i := 4) (N := some 21) (v := ?_) (a' := ?_) #[true, false, true, false, true, false, false, false, false, false, false] rfl rfl (any_of HT_.out (by kernel_rfl)) (fun _ _ _ h => h) (Or.inl ⟨by rfl, ?_⟩) ?_ ?_
  rotate_left
  · intro w'
    go_simp
    with_reducible rfl
  rotate_left
  · simp only [Act.put, List.setIfInBounds_toArray, List.set_cons_zero, List.set_cons_succ, i64_w, i32_w]
    rfl
  refine take_ (i := 1) (N := some 18) (v := ?_) (a' := ?_) #[true, true, true, false, true, false, false, false, false, false, false] rfl rfl (take_ofW HT_.out HW_.out (by kernel_rfl)) (fun _ _ _ h => h) (Or.inl ⟨by rfl, ?_⟩) hHeld ?_ ?_
  rotate_left
  · intro w' hS
    have hc := (blk_cell hS 1).trans rfl
    go_simp
    with_reducible rfl
  rotate_left
  · simp only [Act.put, List.setIfInBounds_toArray, List.set_cons_zero, List.set_cons_succ, i64_w, i32_w]
    rfl
  refine take_ (i := 3) (N := some 20) (v := ?_) (a' := ?_) #[true, true, true, true, true, false, false, false, false, false, false] rfl rfl (take_ofW HT_.out HW_.out (by kernel_rfl)) (fun _ _ _ h => h) (Or.inl ⟨by rfl, ?_⟩) hHeld ?_ ?_
  rotate_left
  · intro w' hS
    have hc := (blk_cell hS 2).trans rfl
    go_simp
    with_reducible rfl
  rotate_left
  · simp only [Act.put, List.setIfInBounds_toArray, List.set_cons_zero, List.set_cons_succ, i64_w, i32_w]
    rfl
  refine take_ (i := 5) (N := some 22) (v := ?_) (a' := ?_) #[true, true, true, true, true, true, false, false, false, false, false] rfl rfl (take_ofW HT_.out HW_.out (by kernel_rfl)) (fun _ _ _ h => h) (Or.inl ⟨by rfl, ?_⟩) hHeld ?_ ?_
  rotate_left
  · intro w' hS
    have hc := (blk_cell hS 1).trans rfl
    go_simp
    with_reducible rfl
  rotate_left
  · simp only [Act.put, List.setIfInBounds_toArray, List.set_cons_zero, List.set_cons_succ, i64_w, i32_w]
    rfl
  have hw8 : wrap64 (8 - (t0 + t1)) = 8 - (t0 + t1) := wrap64_ok (by omega)
  refine pure_ (i := 6) (N := some 23) (v := ?_) (a' := ?_) #[true, true, true, true, true, true, true, false, false, false, false] rfl rfl (any_of HT_.out (by kernel_rfl)) (fun _ _ _ h => h) (Or.inl ⟨by rfl, ?_⟩) ?_ ?_
  rotate_left
  · intro w'
    go_simp
    with_reducible rfl
  rotate_left
  · simp only [Act.put, List.setIfInBounds_toArray, List.set_cons_zero, List.set_cons_succ, i64_w, i32_w]
    rfl
  refine one_ (i := 7) (N := some 24) #[true, true, true, true, true, true, true, true, false, false, false] rfl rfl (one_of HT_.out (by kernel_rfl)) (by decide) (fun K hK => ?_)
  refine goes_ Tryz.func62 (by kernel_rfl) rfl #[.int .i64 b2, .int .i64 (8 - (t0 + t1))] (by rfl) rfl rfl (by (try simp only [List.map_toArray, List.map_cons, List.map_nil]); first | done | rfl | (simp only [Act.eval, hw8]; rfl) | (go_simp; rfl)) ?_
  refine (win_calls _ _ _ (by omega) (by omega)).mono ?_
  rintro e V6 ⟨t2, h0t2, hnt2, rfl, hd⟩
  have hb := hd.below
  clear hd
  refine ⟨_, rfl, ?_⟩
  replace hHeld := blk_below hHeld hb
  replace E2 := blk_below E2 hb
  have HG := Lib.hid (below_step HG.out hb)
  refine hK.out _ _ hHeld ?_
  clear hK K hb
  intro _
  refine norm_ (a' := ?_) ?_ ?_
  rotate_left
  · show Act.put _ (some 24) _ = _
    simp only [Act.put, List.setIfInBounds_toArray, List.set_cons_zero, List.set_cons_succ, i64_w, i32_w]
    rfl
  have hwa : wrap64 ((t0 + t1) + t2) = (t0 + t1) + t2 := wrap64_ok (by omega)
  refine pure_ (i := 8) (N := some 25) (v := ?_) (a' := ?_) #[true, true, true, true, true, true, true, true, true, false, false] rfl rfl (any_of HT_.out (by kernel_rfl)) (fun _ _ _ h => h) (Or.inl ⟨by rfl, ?_⟩) ?_ ?_
  rotate_left
  · intro w'
    go_simp
    with_reducible rfl
  rotate_left
  · simp only [Act.put, List.setIfInBounds_toArray, List.set_cons_zero, List.set_cons_succ, i64_w, i32_w]
    rfl
  refine pure_ (i := 9) (N := some 26) (v := ?_) (a' := ?_) #[true, true, true, true, true, true, true, true, true, true, false] rfl rfl (any_of HT_.out (by kernel_rfl)) (fun _ _ _ h => h) (Or.inl ⟨by rfl, ?_⟩) ?_ ?_
  rotate_left
  · intro w'
    go_simp
    with_reducible rfl
  rotate_left
  · simp only [Act.put, List.setIfInBounds_toArray, List.set_cons_zero, List.set_cons_succ, i64_w, i32_w]
    rfl
  refine last_ (i := 10) (N := none) #[true, true, true, true, true, true, true, true, true, true, true] rfl rfl (one_of HT_.out (by kernel_rfl)) (by decide) (fun K hK => ?_)
  have hs := (blk_cell hHeld 2).trans rfl
  have hf := blk_frozen hHeld 2
  refine skip_ (w1 := ?_) (by rfl) rfl ?_ ?_
  rotate_left
  · go_simp
    rfl
  clear hs hf
  refine hK.out _ _ ?_
  clear hK K
  refine done_ (done_of HT_.out (by kernel_rfl)) ?_
  clear HT_ HW_
  generalize hV : V6.setCell ⟨w.heap.size, 2, none⟩ (.int .i64 (t0 + t1 + t2)) = V7
  have E1 : V7.heap[w.heap.size]? = some (.cells #[.int .i64 t0, .int .i64 (t0 + t1), .int .i64 (t0 + t1 + t2), .int .i64 b3] 33 (0, 0)) := by rw [← hV]; exact blk_put hHeld 2 _ rfl
  replace E2 : V7.heap[w.heap.size + 1]? = some (.cells #[.int .i64 0, .int .i64 0, .int .i64 0, .int .i64 0] 33 (0, 0)) := by rw [← hV]; exact blk_far E2 (by simp) _
  have HG := Lib.hid (show Below w.heap.size w V7 by rw [← hV]; exact below_set HG.out (Nat.le_refl _))
  have HE1 := Lib.hid E1
  have HE2 := Lib.hid E2
  have hc3 := (blk_cell E1 3).trans rfl
  clear hV hHeld hw8 hwa E1 E2
  go_wp2_with (go_at_call 62; refine (win_calls _ _ _ (by omega) (by omega)).mono ?_; rintro e V8 ⟨t3, h0t3, hnt3, rfl, hd⟩; have E := blk_below HE1.out hd.below; have hs := (blk_cell E 3).trans rfl; have hf := blk_frozen E 3; have E' := Lib.hid (blk_put E 3 (.int .i64 t3) rfl); have Ez := blk_far (blk_below HE2.out hd.below) (p := ⟨w.heap.size, 3, none⟩) (by simp) (.int .i64 t3); have HB := Lib.hid (show Below w.heap.size w (V8.setCell ⟨w.heap.size, 3, none⟩ (.int .i64 t3)) from below_set (below_step HG.out hd.below) (Nat.le_refl _)); have r1 := rd_row _ E'.out rfl Tryz.underlying33 (by kernel_rfl); have r2 := wr_row (t := 33) (cs := #[.int .i64 t0, .int .i64 (t0 + t1), .int .i64 (t0 + t1 + t2), .int .i64 t3]) Ez (by kernel_rfl) rfl (by simp [Value.oneCell']); have HE := Lib.hid (setRow_heap _ _ _ #[.int .i64 t0, .int .i64 (t0 + t1), .int .i64 (t0 + t1 + t2), .int .i64 t3] _ _ Ez); clear E Ez hd)
  refine bodyPost_ret (results_cell_row rfl _ _ (w.heap.size + 1) 33 _ (0, 0) _ rfl HE.out Tryz.underlying33 rfl (by kernel_rfl)) rfl ?_
  exact ⟨_, _, _, _, rfl, ⟨h0t0, by omega, by omega, by omega, h0t3, hnt3⟩, below_setRow HB.out (Nat.le_succ _) _⟩
end Go.Proofs.YteilkbookcmndaaGreatDoor.C
namespace Go.Proofs.YteilkbookcmndaaGreatDoor.C
open Go.RowKit Go.Proofs.YteilkbookcmndaaGreatDoor.Q Go.Proofs.YteilkbookcmndaaGreatDoorW.PrintWords Go.Proofs.YteilkbookcmndaaGreatDoorW.PrintLast Go.Proofs.YteilkbookcmndaaGreatDoorW.PrintMore
attribute [local go_sem ↓] rd_at50 wr_at50 al_at50
attribute [local go_sem] rd50_new wr50_new al50
def OwnN (w0 : World) (base : Nat) (w : World) (v : Value) (xs : List S50) : Prop := OwnRow (k50.K w0) 36 16 w base v xs
def keepN (p : ByteArray) (n : S50) : Bool := !(n.f0.toList == p.toList)
theorem inf50 : (Tryz.prog.info? 36).map (fun i => (i.zero, i.size, i.bytes)) = some (some (.agg #[.string (⟨#[]⟩ : ByteArray), .bool false, .int .i64 0, .int .i64 0, .int .i64 0, .int .i64 0, .slice none 0 0, .int .i64 0, .int .i64 0, .int .i64 0, .int .i64 0, .slice none 0 0, .int .i64 0, .int .i64 0, .int .i64 0, .int .i64 0]), 16, 168) := by kernel_rfl
set_option maxHeartbeats 1000000 in
set_option maxRecDepth 100000 in
theorem drop_c (l : List S50) (p : ByteArray) (A : Option Addr) (c : Nat) (w0 w : World) (hC : Kd.C k50 w0 A l.length l) (hb0 : Below w0.heap.size w0 w) (hc : l.length ≤ c) (hn : l.length ≤ 1000) :
    Calls Tryz.prog 23 #[.slice A l.length c, .string p] w fun e w' => ∃ v, e = .returned v ∧ OwnN w0 w.heap.size w' v (l.filter (keepN p)) ∧ Below w.heap.size w w' := by
  have HC := Lib.hid hC
  have HB0 := Lib.hid hb0
  clear hC hb0
  go_enter Tryz.func23, Tryz.ntmps23
  go_wp2
  go_loopg [5, 6] l.length (fun k s3 s4 wr => ∃ i, i ≤ l.length ∧ l.length - i ≤ k ∧ s4 = .int .i64 i ∧ Hid (OwnN w0 w.heap.size wr s3 ((l.take i).filter (keepN p))) ∧ Hid (Below w.heap.size w wr))
  case atStart => exact ⟨0, Nat.zero_le _, Nat.le_refl _, rfl, Lib.hid (OwnRow.none_ _ _ _ _ _), Lib.hid (Below.refl _ _)⟩
  case round =>
    obtain ⟨i, hi, hik, rfl, HO, HB⟩ := hrel
    by_cases hlt : i < l.length
    · obtain ⟨ad, A6, c6, A11, c11, rfl, hcs, HK⟩ := at50 HC.out (below_step HB0.out HB.out) i hlt
      have hld := rd50_of (loadC50 (P := Tryz.prog) hcs)
      obtain ⟨h0, _⟩ := hcs
      by_cases he : (l[i]'hlt).f0.toList = p.toList
      · have hb : ((l[i]'hlt).f0.toList == p.toList) = true := by simpa using he
        have HF := Lib.hid (show (l.take (i + 1)).filter (keepN p) = (l.take i).filter (keepN p) by rw [List.take_succ_eq_append_getElem hlt, List.filter_append]; simp [keepN, hb])
        clear he
        go_wp2
        go_roundg (l.length - (i + 1))
        case measure => omega
        case rel => exact ⟨i + 1, hlt, Nat.le_refl _, by go_num, Lib.hid (by rw [HF.out]; exact HO.out), HB⟩
      · have hb : ((l[i]'hlt).f0.toList == p.toList) = false := by simpa using he
        have HF := Lib.hid (show (l.take (i + 1)).filter (keepN p) = (l.take i).filter (keepN p) ++ [l[i]'hlt] by rw [List.take_succ_eq_append_getElem hlt, List.filter_append]; simp [keepN, hb])
        have HL := Lib.hid (show ((l.take i).filter (keepN p)).length ≤ 1000 from Nat.le_trans (List.length_filter_le _ _) (by rw [List.length_take]; omega))
        clear he
        go_wp2_with (at_builtin; refine OwnRow.append w.heap.size rfl _ _ 27 36 (.agg #[.string (⟨#[]⟩ : ByteArray), .bool false, .int .i64 0, .int .i64 0, .int .i64 0, .int .i64 0, .slice none 0 0, .int .i64 0, .int .i64 0, .int .i64 0, .int .i64 0, .slice none 0 0, .int .i64 0, .int .i64 0, .int .i64 0, .int .i64 0]) 16 168 rfl Tryz.underlying27 inf50 rfl (by decide) (by decide) u5 ((l.take i).filter (keepN p)) (l[i]'hlt) [.string (l[i]'hlt).f0, .bool (l[i]'hlt).f1, .int .i64 (l[i]'hlt).f2.f0, .int .i64 (l[i]'hlt).f2.f1, .int .i64 (l[i]'hlt).f2.f2, .int .i64 (l[i]'hlt).f2.f3, .slice A6 (l[i]'hlt).f3.length c6, .int .i64 (l[i]'hlt).f4.f0, .int .i64 (l[i]'hlt).f4.f1, .int .i64 (l[i]'hlt).f4.f2, .int .i64 (l[i]'hlt).f4.f3, .slice A11 (l[i]'hlt).f5.length c11, .int .i64 (l[i]'hlt).f6.f0, .int .i64 (l[i]'hlt).f6.f1, .int .i64 (l[i]'hlt).f6.f2, .int .i64 (l[i]'hlt).f6.f3] rfl rfl HK.out rfl (by simp [Value.oneCell']) HO.out HB.out (below_size HB.out) (by have := HL.out; omega) ?_; intro v1 w1 hO hB hg hat; have HO1 := Lib.hid hO; have HB1 := Lib.hid hB; clear hO hB hg hat)
        go_roundg (l.length - (i + 1))
        case measure => omega
        case rel => exact ⟨i + 1, hlt, Nat.le_refl _, by go_num, Lib.hid (by rw [HF.out]; exact HO1.out), HB1⟩
    · go_wp2
      go_ret
      have hin : i = l.length := by omega
      subst hin
      refine ⟨_, rfl, ?_, HB.out⟩
      have := HO.out
      rwa [List.take_length] at this
end Go.Proofs.YteilkbookcmndaaGreatDoor.C
namespace Go.Proofs.YteilkbookcmndaaGreatDoor.C
open Go.RowKit Go.Proofs.YteilkbookcmndaaGreatDoor.Q Go.Proofs.YteilkbookcmndaaGreatDoorW.PrintWords Go.Proofs.YteilkbookcmndaaGreatDoorW.PrintLast Go.Proofs.YteilkbookcmndaaGreatDoorW.PrintMore
attribute [local go_sem ↓] rd_at50 wr_at50 al_at50
attribute [local go_sem] rd50_new wr50_new al50
theorem add_add (a : Addr) (m n : Nat) : (a.add m).add n = a.add (m + n) := by
  unfold Addr.add
  by_cases hm : m = 0
  · simp [hm]
  · by_cases hn : n = 0
    · simp [hm, hn]
    · rw [if_neg hn, if_neg hm, if_neg (by omega)]
      simp [Nat.add_assoc]
theorem reads_take {α : Type} {R : α → List Value → Prop} {size : Nat} {w : World} {A : Option Addr} {ps : List α} (h : ReadsRow R size w A ps.length ps) (k : Nat) : ReadsRow R size w A (ps.take k).length (ps.take k) := by
  have hle : (ps.take k).length ≤ ps.length := by rw [List.length_take]; omega
  refine ⟨rfl, Nat.le_trans hle h.2.1, fun hp => ?_⟩
  obtain ⟨ad, e, hc⟩ := h.2.2 (by omega)
  refine ⟨ad, e, fun j p hj => hc j p ?_⟩
  rw [List.getElem?_take] at hj
  split at hj
  · exact hj
  · cases hj
theorem reads_drop {α : Type} {R : α → List Value → Prop} {size : Nat} {w : World} {A : Option Addr} {ps : List α} (h : ReadsRow R size w A ps.length ps) (k c : Nat) (hk : k ≤ ps.length) (hc : ps.length ≤ c) : ReadsRow R size w (if c = k then A else A.map (·.add (k * size))) (ps.drop k).length (ps.drop k) := by
  have hle : (ps.drop k).length ≤ ps.length := by rw [List.length_drop]; omega
  refine ⟨rfl, Nat.le_trans hle h.2.1, fun hp => ?_⟩
  rw [List.length_drop] at hp
  obtain ⟨ad, e, hcc⟩ := h.2.2 (by omega)
  subst e
  rw [if_neg (by omega)]
  refine ⟨ad.add (k * size), rfl, fun j p hj => ?_⟩
  rw [List.getElem?_drop] at hj
  obtain ⟨cs, h1, h2, h3⟩ := hcc (k + j) p hj
  refine ⟨cs, h1, h2, fun i u hu => ?_⟩
  rw [add_add, show k * size + (j * size + i) = (k + j) * size + i by rw [Nat.add_mul]; omega]
  exact h3 i u hu
theorem own_f0 {w0 w : World} {A : Option Addr} {xs : List S50} (h : ReadsRow (k50.K w0) 16 w A xs.length xs) (i : Nat) (hi : i < xs.length) : ∃ ad, A = some ad ∧ w.cell? (ad.add (i * 16)) = some (.string (xs.getD i z50).f0) := by
  obtain ⟨ad, c, e, _, hK, hc⟩ := ReadsRow.get_ h z50 (i : Int) (by omega) (by omega)
  simp only [Int.toNat_natCast] at hK hc
  obtain ⟨A6, c6, A11, c11, rfl, _⟩ := k50_open hK
  exact ⟨ad, e, hc 0 _ rfl⟩
theorem cell_below' {w w1 : World} {a : Addr} {v : Value} (h : w.cell? a = some v) (hb : Below w.heap.size w w1) : w1.cell? a = some v := pw_cell_below hb h
theorem tw_cut (d : List S50) (p : ByteArray) (i : Nat) (hi : i ≤ d.length) (hJ : ∀ j, j < i → less (d.getD j z50).f0 p = true) (h : i = d.length ∨ less (d.getD i z50).f0 p = false) : d.takeWhile (fun m => less m.f0 p) = d.take i ∧ d.dropWhile (fun m => less m.f0 p) = d.drop i := by
  induction i generalizing d with
  | zero =>
    cases d with
    | nil => simp
    | cons x t =>
      have hx : less x.f0 p = false := by
        rcases h with h | h
        · simp at h
        · simpa using h
      simp [List.takeWhile_cons, List.dropWhile_cons, hx]
  | succ i ih =>
    cases d with
    | nil => simp at hi
    | cons x t =>
      have hx : less x.f0 p = true := by simpa using hJ 0 (by omega)
      have := ih t (by simpa using hi) (fun j hj => by simpa using hJ (j + 1) (by omega)) (by simpa using h)
      simp [List.takeWhile_cons, List.dropWhile_cons, hx, this.1, this.2]
theorem reps_append {α : Type} {R : α → List Value → Prop} {size : Nat} {ps qs : List α} {cs ds : List Value} (h1 : Reps R size ps cs) (h2 : Reps R size qs ds) : Reps R size (ps ++ qs) (cs ++ ds) := by
  refine ⟨by rw [List.length_append, List.length_append, h1.1, h2.1, Nat.add_mul], fun j p hj => ?_⟩
  rcases Nat.lt_or_ge j ps.length with hlt | hge
  · rw [List.getElem?_append_left hlt] at hj
    have hb : j * size + size ≤ cs.length := by rw [h1.1, ← Nat.succ_mul]; exact Nat.mul_le_mul_right _ hlt
    rw [List.drop_append_of_le_length (by omega), List.take_append_of_le_length (by rw [List.length_drop]; omega)]
    exact h1.2 j p hj
  · rw [List.getElem?_append_right hge] at hj
    have := h2.2 _ p hj
    have he : j * size = cs.length + (j - ps.length) * size := by rw [h1.1, ← Nat.add_mul]; congr 1; omega
    rw [he, ← List.drop_drop, List.drop_left]
    exact this
theorem own_part {ops : Array Oper} {rest : List Oper} {o : Oper} {a : Act} {Q : Exit → Act → World → Prop} {w0 wb W : World} (base : Nat) (hgd : o.guard = none) (s x : Operand) (ho : o.op = .call { callee := .builtin .append, args := #[s, x], argTypes := #[27, 27] }) (v : Value) (ps qs : List S50) (hs : a.eval s = v) (ad : Addr) (m c : Nat) (hx : a.eval x = .slice (some ad) m c) (hm : m = qs.length)
    (HO : OwnRow (k50.K w0) 36 16 W base v ps) (HR : ReadsRow (k50.K w0) 16 W (some ad) qs.length qs) (HB : Below base wb W) (hbase : base ≤ W.heap.size) (hl : ps.length + qs.length ≤ 100000)
    (h : ∀ v1 w1, OwnRow (k50.K w0) 36 16 w1 base v1 (ps ++ qs) → Below base wb w1 → wpList Tryz.prog ops Q rest (a.put o.dst v1) w1) : wpList Tryz.prog ops Q (o :: rest) a W := by
  subst hm
  obtain ⟨inner, hown, hrep⟩ := HO
  obtain ⟨news, hr2, hc⟩ := ReadsRow.inner_ HR
  obtain ⟨i0, hi0, hv⟩ := Option.map_eq_some_iff.1 inf50
  obtain ⟨hz0, hz1, hz2⟩ : i0.zero = some (.agg #[.string (⟨#[]⟩ : ByteArray), .bool false, .int .i64 0, .int .i64 0, .int .i64 0, .int .i64 0, .slice none 0 0, .int .i64 0, .int .i64 0, .int .i64 0, .int .i64 0, .slice none 0 0, .int .i64 0, .int .i64 0, .int .i64 0, .int .i64 0]) ∧ i0.size = 16 ∧ i0.bytes = 168 := by simpa using hv
  refine wpList_append_own W hgd s x 27 ho base 36 i0 (.agg #[.string (⟨#[]⟩ : ByteArray), .bool false, .int .i64 0, .int .i64 0, .int .i64 0, .int .i64 0, .slice none 0 0, .int .i64 0, .int .i64 0, .int .i64 0, .int .i64 0, .slice none 0 0, .int .i64 0, .int .i64 0, .int .i64 0, .int .i64 0]) 16 168 Tryz.underlying27 hi0 hz0 hz1 hz2 rfl (by decide) v ps.length inner hs hown ad qs.length c news hx hr2.1 hc (fun u hu => Reps_one (d := k50) hr2 u hu) (by show _ ≤ 9223372036854775807; omega) (by omega) hbase ?_
  intro v' w' h2 h3 _
  refine h v' w' ⟨inner ++ news, by rw [List.length_append]; exact h2, reps_append hrep hr2⟩ (HB.grown h3 hbase (own_base hown))
theorem reads_below {α : Type} {R : α → List Value → Prop} {size : Nat} {w w1 : World} {A : Option Addr} {n : Nat} {ps : List α} (h : ReadsRow R size w A n ps) (hb : Below w.heap.size w w1) : ReadsRow R size w1 A n ps := ReadsRow.imp_ h hb (fun _ _ h => h)
theorem own_form {w0 w : World} {base : Nat} {v : Value} {xs : List S50} (h : OwnRow (k50.K w0) 36 16 w base v xs) (hn : 0 < xs.length) : ∃ g cap, v = .slice (some ⟨g, 0, none⟩) xs.length cap ∧ xs.length ≤ cap := by
  obtain ⟨inner, ho, _⟩ := h
  rcases ho.2 with ⟨_, h⟩ | ⟨g, cap, cur, hv, _, _, hcap, _⟩
  · omega
  · exact ⟨g, cap, hv, hcap⟩
def putN (l : List S50) (n : S50) : List S50 := (l.filter (keepN n.f0)).takeWhile (fun m => less m.f0 n.f0) ++ n :: (l.filter (keepN n.f0)).dropWhile (fun m => less m.f0 n.f0)
set_option maxHeartbeats 1000000 in
set_option maxRecDepth 100000 in
theorem put_c (l : List S50) (n : S50) (cs : List Value) (A : Option Addr) (c : Nat) (w0 w : World) (hC : Kd.C k50 w0 A l.length l) (hb0 : Below w0.heap.size w0 w) (hc : l.length ≤ c) (hn : l.length ≤ 1000) (hK : k50.K w0 n cs) :
    Calls Tryz.prog 24 #[.slice A l.length c, .agg cs.toArray] w fun e w' => ∃ v, e = .returned v ∧ OwnN w0 w.heap.size w' v (putN l n) ∧ Below w.heap.size w w' := by
  have HKn := Lib.hid hK
  obtain ⟨A6, c6, A11, c11, rfl, _⟩ := k50_open hK
  clear hK
  have HD := Lib.hid fun w1 (hb : Below w.heap.size w w1) => drop_c l n.f0 A c w0 w1 hC (below_step hb0 hb) hc hn
  have hll : (l.filter (keepN n.f0)).length ≤ 1000 := Nat.le_trans (List.length_filter_le _ _) hn
  have HP0 : putN l n = (l.filter (keepN n.f0)).takeWhile (fun m => less m.f0 n.f0) ++ n :: (l.filter (keepN n.f0)).dropWhile (fun m => less m.f0 n.f0) := rfl
  have HP := Lib.hid HP0
  clear hC hn HP0
  generalize putN l n = res at HP ⊢
  generalize l.filter (keepN n.f0) = d at HD HP hll
  have HB0 := Lib.hid (below_alloc (Below.refl w.heap.size w) (.cells #[.string n.f0, .bool n.f1, .int .i64 n.f2.f0, .int .i64 n.f2.f1, .int .i64 n.f2.f2, .int .i64 n.f2.f3, .slice A6 n.f3.length c6, .int .i64 n.f4.f0, .int .i64 n.f4.f1, .int .i64 n.f4.f2, .int .i64 n.f4.f3, .slice A11 n.f5.length c11, .int .i64 n.f6.f0, .int .i64 n.f6.f1, .int .i64 n.f6.f2, .int .i64 n.f6.f3] 36))
  have EN := Lib.hid (blk_new w (.cells #[.string n.f0, .bool n.f1, .int .i64 n.f2.f0, .int .i64 n.f2.f1, .int .i64 n.f2.f2, .int .i64 n.f2.f3, .slice A6 n.f3.length c6, .int .i64 n.f4.f0, .int .i64 n.f4.f1, .int .i64 n.f4.f2, .int .i64 n.f4.f3, .slice A11 n.f5.length c11, .int .i64 n.f6.f0, .int .i64 n.f6.f1, .int .i64 n.f6.f2, .int .i64 n.f6.f3] 36))
  go_enter Tryz.func24, Tryz.ntmps24
  go_wp2_with (go_at_call 23; refine (HD.out _ HB0.out).mono ?_; rintro e w1 ⟨v1, rfl, hO, hb⟩; obtain ⟨A1, c1, rfl, hl1, hR1⟩ := OwnRow.reads hO; have HR1 := Lib.hid hR1; have HB1 := Lib.hid (below_step HB0.out hb); have EN1 := Lib.hid (blk_below EN.out hb); clear hR1 hb hO)
  have mixed : Tryz.prog.follows .mixedOrders = true := by kernel_rfl
  go_loopg [5] d.length (fun k s5 wr => ∃ i, i ≤ d.length ∧ d.length - i ≤ k ∧ s5 = .int .i64 i ∧ Hid (∀ j, j < i → less (d.getD j z50).f0 n.f0 = true) ∧ Hid (Below w1.heap.size w1 wr))
  case atStart => exact ⟨0, Nat.zero_le _, Nat.le_refl _, rfl, Lib.hid (fun j h => absurd h (Nat.not_lt_zero _)), Lib.hid (Below.refl _ _)⟩
  case round =>
    obtain ⟨i, hi, hik, rfl, HJ, HW⟩ := hrel
    have hn0 : wr.cell? ⟨w.heap.size, 0, none⟩ = some (.string n.f0) := (blk_cell (blk_below EN1.out HW.out) 0).trans rfl
    by_cases hlt : i < d.length
    · obtain ⟨ad, hA, h0⟩ := own_f0 HR1.out i hlt
      subst hA
      have h0 := cell_below' h0 HW.out
      cases hb : less (d.getD i z50).f0 n.f0 with
      | true =>
        have HJ2 := Lib.hid (show ∀ j, j < i + 1 → less (d.getD j z50).f0 n.f0 = true from fun j hj => by
          by_cases hji : j = i
          · rw [hji]; exact hb
          · exact HJ.out j (by omega))
        have hb' : Op.bytesLess (d.getD i z50).f0.toList n.f0.toList = true := hb
        clear hb HJ
        generalize (d.getD i z50).f0 = y at h0 hb'
        go_wp2
        go_region_o
        go_wp2
        go_roundg (d.length - (i + 1))
        case measure => omega
        case rel => exact ⟨i + 1, hlt, Nat.le_refl _, by go_num, HJ2, Lib.hid (below_drew1 HW.out)⟩
      | false =>
        have HT := Lib.hid (tw_cut d n.f0 i hi HJ.out (Or.inr hb))
        have hb' : Op.bytesLess (d.getD i z50).f0.toList n.f0.toList = false := hb
        clear hb HJ
        generalize (d.getD i z50).f0 = y at h0 hb'
        have HR2 := Lib.hid (reads_take HR1.out i)
        have HR3 := Lib.hid (show ReadsRow (k50.K w0) 16 w1 (some (ad.add (i * 16))) (d.drop i).length (d.drop i) by have := reads_drop HR1.out i c1 hi hl1; rw [if_neg (by omega)] at this; exact this)
        have hli : (d.take i).length = i := by rw [List.length_take]; omega
        have hld : (d.drop i).length = d.length - i := by rw [List.length_drop]
        have HL := Lib.hid hli
        have HLD := Lib.hid hld
        have HSZ := Lib.hid (below_size HB1.out)
        clear hli hld
        go_wp2
        go_region_o
        go_wp2_with (first | (at_builtin; refine own_part w1.heap.size rfl _ _ rfl v3 (d.take i ++ [n]) (d.drop i) rfl (ad.add (i * 16)) (d.length - i) (c1 - i) rfl HLD.out.symm HO3.out (reads_below HR3.out HB3.out) HB3.out (below_size HB3.out) (by have := HL.out; have := HLD.out; simp only [List.length_append, List.length_singleton]; omega) ?_; intro v4 w4 hO4 hB4; have HO4 := Lib.hid hO4; have HB4 := Lib.hid hB4; clear hO4 hB4) | (at_builtin; refine OwnRow.append w1.heap.size rfl _ _ 27 36 (.agg #[.string (⟨#[]⟩ : ByteArray), .bool false, .int .i64 0, .int .i64 0, .int .i64 0, .int .i64 0, .slice none 0 0, .int .i64 0, .int .i64 0, .int .i64 0, .int .i64 0, .slice none 0 0, .int .i64 0, .int .i64 0, .int .i64 0, .int .i64 0]) 16 168 rfl Tryz.underlying27 inf50 rfl (by decide) (by decide) v2 (d.take i) n [.string n.f0, .bool n.f1, .int .i64 n.f2.f0, .int .i64 n.f2.f1, .int .i64 n.f2.f2, .int .i64 n.f2.f3, .slice A6 n.f3.length c6, .int .i64 n.f4.f0, .int .i64 n.f4.f1, .int .i64 n.f4.f2, .int .i64 n.f4.f3, .slice A11 n.f5.length c11, .int .i64 n.f6.f0, .int .i64 n.f6.f1, .int .i64 n.f6.f2, .int .i64 n.f6.f3] rfl rfl HKn.out rfl (by simp [Value.oneCell']) HO2.out HB2.out (below_size HB2.out) (by have := HL.out; omega) ?_; intro v3 w3 hO3 hB3 _ _; have HO3 := Lib.hid hO3; have HB3 := Lib.hid hB3; clear hO3 hB3) | (at_builtin; refine own_part w1.heap.size rfl _ _ rfl (.slice none 0 0) [] (d.take i) rfl ad i c1 rfl HL.out.symm (OwnRow.none_ _ _ _ _ _) (reads_below HR2.out (below_drew1 HW.out)) (below_drew1 HW.out) (below_size (below_drew1 HW.out)) (by have := HL.out; simp only [List.length_nil]; omega) ?_; intro v2 w2 hO2 hB2; have HO2 := Lib.hid hO2; have HB2 := Lib.hid hB2; have r1 := rd50_blk (blk_below EN1.out hB2) rfl; clear hO2 hB2))
        go_ret
        refine ⟨v4, rfl, ?_, below_step HB1.out HB4.out⟩
        have hO := OwnRow.lower HO4.out HSZ.out
        rw [HP.out, HT.out.1, HT.out.2]
        simpa [OwnN] using hO
    · have hid' : i = d.length := by omega
      subst hid'
      have HT := tw_cut d n.f0 d.length hi HJ.out (Or.inl rfl)
      rw [List.take_length, List.drop_length] at HT
      have HR := Lib.hid (show res = d ++ [n] by rw [HP.out, HT.1, HT.2])
      have HSZ := Lib.hid (below_size HB1.out)
      clear HJ HT
      cases A1 with
      | none =>
        have hd : d = [] := by
          cases d with
          | nil => rfl
          | cons x t => obtain ⟨ad, h, _⟩ := HR1.out.2.2 (Nat.succ_pos _); cases h
        subst hd
        simp only [List.length_nil] at hl1
        have E5 := blk_drew (blk_below EN1.out HW.out)
        have hB5 := below_drew1 HW.out
        go_wp2
        go_region_o
        generalize wr.drew = W5 at E5 hB5 ⊢
        have r1 := rd50_blk E5 rfl
        have HB5 := Lib.hid hB5
        clear E5 hB5
        go_wp2_with (at_builtin; refine OwnRow.append w1.heap.size rfl _ _ 27 36 (.agg #[.string (⟨#[]⟩ : ByteArray), .bool false, .int .i64 0, .int .i64 0, .int .i64 0, .int .i64 0, .slice none 0 0, .int .i64 0, .int .i64 0, .int .i64 0, .int .i64 0, .slice none 0 0, .int .i64 0, .int .i64 0, .int .i64 0, .int .i64 0]) 16 168 rfl Tryz.underlying27 inf50 rfl (by decide) (by decide) (.slice none 0 0) [] n [.string n.f0, .bool n.f1, .int .i64 n.f2.f0, .int .i64 n.f2.f1, .int .i64 n.f2.f2, .int .i64 n.f2.f3, .slice A6 n.f3.length c6, .int .i64 n.f4.f0, .int .i64 n.f4.f1, .int .i64 n.f4.f2, .int .i64 n.f4.f3, .slice A11 n.f5.length c11, .int .i64 n.f6.f0, .int .i64 n.f6.f1, .int .i64 n.f6.f2, .int .i64 n.f6.f3] rfl rfl HKn.out rfl (by simp [Value.oneCell']) (OwnRow.none_ _ _ _ _ _) HB5.out (below_size HB5.out) (by decide) ?_; intro v3 w3 hO3 hB3 _ _; obtain ⟨g3, c3, rfl, hc3⟩ := own_form hO3 (Nat.succ_pos 0); have hc3' : 1 ≤ c3 := hc3; have HO4 := Lib.hid hO3; have HB4 := Lib.hid hB3; clear hO3 hB3)
        go_ret
        refine ⟨_, rfl, ?_, below_step HB1.out HB4.out⟩
        have hO := OwnRow.lower HO4.out HSZ.out
        rw [HR.out]
        exact hO
      | some ad =>
        by_cases hcc : c1 = d.length
        · subst hcc
          go_wp2
          go_region_o
          go_wp2_with (first | (at_builtin; refine own_part w1.heap.size rfl _ _ rfl v3 (d ++ [n]) [] rfl ad 0 0 rfl rfl HO3.out ⟨rfl, by decide, fun h => by simp at h⟩ HB3.out (below_size HB3.out) (by simp only [List.length_append, List.length_singleton, List.length_nil]; omega) ?_; intro v4 w4 hO4 hB4; have HO4 := Lib.hid hO4; have HB4 := Lib.hid hB4; clear hO4 hB4) | (at_builtin; refine OwnRow.append w1.heap.size rfl _ _ 27 36 (.agg #[.string (⟨#[]⟩ : ByteArray), .bool false, .int .i64 0, .int .i64 0, .int .i64 0, .int .i64 0, .slice none 0 0, .int .i64 0, .int .i64 0, .int .i64 0, .int .i64 0, .slice none 0 0, .int .i64 0, .int .i64 0, .int .i64 0, .int .i64 0]) 16 168 rfl Tryz.underlying27 inf50 rfl (by decide) (by decide) v2 d n [.string n.f0, .bool n.f1, .int .i64 n.f2.f0, .int .i64 n.f2.f1, .int .i64 n.f2.f2, .int .i64 n.f2.f3, .slice A6 n.f3.length c6, .int .i64 n.f4.f0, .int .i64 n.f4.f1, .int .i64 n.f4.f2, .int .i64 n.f4.f3, .slice A11 n.f5.length c11, .int .i64 n.f6.f0, .int .i64 n.f6.f1, .int .i64 n.f6.f2, .int .i64 n.f6.f3] rfl rfl HKn.out rfl (by simp [Value.oneCell']) HO2.out HB2.out (below_size HB2.out) (by omega) ?_; intro v3 w3 hO3 hB3 _ _; have HO3 := Lib.hid hO3; have HB3 := Lib.hid hB3; clear hO3 hB3) | (at_builtin; refine own_part w1.heap.size rfl _ _ rfl (.slice none 0 0) [] d rfl ad d.length d.length rfl rfl (OwnRow.none_ _ _ _ _ _) (reads_below HR1.out (below_drew1 HW.out)) (below_drew1 HW.out) (below_size (below_drew1 HW.out)) (by simp only [List.length_nil]; omega) ?_; intro v2 w2 hO2 hB2; have HO2 := Lib.hid hO2; have HB2 := Lib.hid hB2; have r1 := rd50_blk (blk_below EN1.out hB2) rfl; clear hO2 hB2))
          go_ret
          refine ⟨v4, rfl, ?_, below_step HB1.out HB4.out⟩
          have hO := OwnRow.lower HO4.out HSZ.out
          rw [HR.out]
          simpa [OwnN] using hO
        · go_wp2
          go_region_o
          go_wp2_with (first | (at_builtin; refine own_part w1.heap.size rfl _ _ rfl v3 (d ++ [n]) [] rfl (ad.add (d.length * 16)) 0 (c1 - d.length) rfl rfl HO3.out ⟨rfl, by decide, fun h => by simp at h⟩ HB3.out (below_size HB3.out) (by simp only [List.length_append, List.length_singleton, List.length_nil]; omega) ?_; intro v4 w4 hO4 hB4; have HO4 := Lib.hid hO4; have HB4 := Lib.hid hB4; clear hO4 hB4) | (at_builtin; refine OwnRow.append w1.heap.size rfl _ _ 27 36 (.agg #[.string (⟨#[]⟩ : ByteArray), .bool false, .int .i64 0, .int .i64 0, .int .i64 0, .int .i64 0, .slice none 0 0, .int .i64 0, .int .i64 0, .int .i64 0, .int .i64 0, .slice none 0 0, .int .i64 0, .int .i64 0, .int .i64 0, .int .i64 0]) 16 168 rfl Tryz.underlying27 inf50 rfl (by decide) (by decide) v2 d n [.string n.f0, .bool n.f1, .int .i64 n.f2.f0, .int .i64 n.f2.f1, .int .i64 n.f2.f2, .int .i64 n.f2.f3, .slice A6 n.f3.length c6, .int .i64 n.f4.f0, .int .i64 n.f4.f1, .int .i64 n.f4.f2, .int .i64 n.f4.f3, .slice A11 n.f5.length c11, .int .i64 n.f6.f0, .int .i64 n.f6.f1, .int .i64 n.f6.f2, .int .i64 n.f6.f3] rfl rfl HKn.out rfl (by simp [Value.oneCell']) HO2.out HB2.out (below_size HB2.out) (by omega) ?_; intro v3 w3 hO3 hB3 _ _; have HO3 := Lib.hid hO3; have HB3 := Lib.hid hB3; clear hO3 hB3) | (at_builtin; refine own_part w1.heap.size rfl _ _ rfl (.slice none 0 0) [] d rfl ad d.length c1 rfl rfl (OwnRow.none_ _ _ _ _ _) (reads_below HR1.out (below_drew1 HW.out)) (below_drew1 HW.out) (below_size (below_drew1 HW.out)) (by simp only [List.length_nil]; omega) ?_; intro v2 w2 hO2 hB2; have HO2 := Lib.hid hO2; have HB2 := Lib.hid hB2; have r1 := rd50_blk (blk_below EN1.out hB2) rfl; clear hO2 hB2))
          go_ret
          refine ⟨v4, rfl, ?_, below_step HB1.out HB4.out⟩
          have hO := OwnRow.lower HO4.out HSZ.out
          rw [HR.out]
          simpa [OwnN] using hO
end Go.Proofs.YteilkbookcmndaaGreatDoor.C
namespace Go.Proofs.YteilkbookcmndaaGreatDoor.C
open Go.RowKit Go.Proofs.YteilkbookcmndaaGreatDoor.Q Go.Proofs.YteilkbookcmndaaGreatDoorW.PrintWords Go.Proofs.YteilkbookcmndaaGreatDoorW.PrintLast Go.Proofs.YteilkbookcmndaaGreatDoorW.PrintMore
attribute [local go_sem ↓] rd_at50 wr_at50 al_at50
attribute [local go_sem] rd50_new wr50_new al50
set_option maxHeartbeats 1000000 in
set_option maxRecDepth 100000 in
theorem find_c (l : List S50) (p : ByteArray) (A : Option Addr) (c : Nat) (w : World) (hC : Kd.C k50 w A l.length l) (hc : l.length ≤ c) :
    Calls Tryz.prog 16 #[.slice A l.length c, .string p] w (Found w l p) := by
  have hlen : l.length ≤ 9223372036854775807 := hC.2.1
  go_enter Tryz.func16, Tryz.ntmps16
  go_wp2
  go_loop [6] (fun t => ∃ i : Nat, i ≤ l.length ∧ t = .int .i64 i ∧ Hid (∀ j (h : j < l.length), j < i → (l[j]'h).f0 ≠ p)) (fun t => l.length - (intOf t).toNat)
  case atStart => exact ⟨0, Nat.zero_le _, rfl, Lib.hid fun j _ h => absurd h (Nat.not_lt_zero _)⟩
  case round =>
    obtain ⟨i, hi, rfl, HJ⟩ := hrel
    by_cases hlt : i < l.length
    · obtain ⟨ad, A6, c6, A11, c11, rfl, ⟨h0, h1, h2, h3, h4, h5, h6, h7, h8, h9, h10, h11, h12, h13, h14, h15⟩, HK⟩ := at50 hC (below_alloc (Below.refl _ _) (.cells #[.string (⟨#[]⟩ : ByteArray), .bool false, .int .i64 0, .int .i64 0, .int .i64 0, .int .i64 0, .slice none 0 0, .int .i64 0, .int .i64 0, .int .i64 0, .int .i64 0, .slice none 0 0, .int .i64 0, .int .i64 0, .int .i64 0, .int .i64 0] 36)) i hlt
      by_cases he : (l[i]'hlt).f0.toList = p.toList
      · have hb : ((l[i]'hlt).f0.toList == p.toList) = true := by simpa using he
        have HF := Lib.hid (find_some l p i hlt HJ.out (bytes_of_toList he))
        clear he
        have hld := rd50_of (loadC50 (P := Tryz.prog) ⟨h0, h1, h2, h3, h4, h5, h6, h7, h8, h9, h10, h11, h12, h13, h14, h15⟩)
        clear h1 h2 h3 h4 h5 h6 h7 h8 h9 h10 h11 h12 h13 h14 h15
        go_wp2
        refine bodyPost_ret (results_ct rfl _ _ w.heap.size 36 _ (0, 0) _ rfl (heap_alloc_new w _) Tryz.underlying36 rfl (by kernel_rfl)) rfl ?_
        refine ⟨_, by rw [HF.out]; rfl, ?_, below_alloc (Below.refl _ _) _⟩
        rw [HF.out]
        exact k50.K_below (below_alloc (Below.refl _ _) _) HK.out
      · have hb : ((l[i]'hlt).f0.toList == p.toList) = false := by simpa using he
        have HN := Lib.hid he
        clear he h1 h2 h3 h4 h5 h6 h7 h8 h9 h10 h11 h12 h13 h14 h15 HK
        go_wp2
        go_round
        case rel =>
          refine ⟨i + 1, hlt, by go_num, Lib.hid fun j hj hji => ?_⟩
          by_cases h : j = i
          · subst h
            intro e
            exact HN.out (by rw [e])
          · exact HJ.out j hj (by omega)
        case measure => simp [intOf]; omega
    · have HF := Lib.hid (find_none l p fun j hj => HJ.out j hj (by omega))
      clear HJ
      go_wp2
      refine bodyPost_ret (results_ct rfl _ _ w.heap.size 36 _ (0, 0) _ rfl (heap_alloc_new w _) Tryz.underlying36 rfl (by kernel_rfl)) rfl ?_
      refine ⟨_, by rw [HF.out]; rfl, ?_, below_alloc (Below.refl _ _) _⟩
      rw [HF.out]
      exact z50_K _
end Go.Proofs.YteilkbookcmndaaGreatDoor.C
namespace Go.Proofs.YteilkbookcmndaaGreatDoor.C
open Go.RowKit Go.Proofs.YteilkbookcmndaaGreatDoor.Q
def nmA (k : Nat) : ByteArray := if k = 0 then ⟨#[42]⟩ else ⟨#[UInt8.ofNat (96 + k)]⟩
def GoodAcl (j : Nat) (xs : List S96) : Prop := ∃ ks : List Nat, ks.Pairwise (· < ·) ∧ (∀ k ∈ ks, k < j) ∧ xs.map (·.f0) = ks.map nmA ∧ (∀ x ∈ xs, 1 ≤ x.f1 ∧ x.f1 ≤ 7) ∧ xs.length ≤ 4
end Go.Proofs.YteilkbookcmndaaGreatDoor.C
namespace Go.Proofs.YteilkbookcmndaaGreatDoor.C
open Go.RowKit Go.Proofs.YteilkbookcmndaaGreatDoor.Q Go.Proofs.YteilkbookcmndaaGreatDoorW.PrintWords Go.Proofs.YteilkbookcmndaaGreatDoorW.PrintLast Go.Proofs.YteilkbookcmndaaGreatDoorW.PrintMore
theorem bl_irr : ∀ x : List UInt8, Op.bytesLess x x = false
  | [] => rfl
  | a :: x => by simp [Op.bytesLess, bl_irr x]
theorem bl_trans : ∀ x y z : List UInt8, Op.bytesLess x y = true → Op.bytesLess y z = true → Op.bytesLess x z = true
  | _, y, [], _, h => by cases y <;> simp [Op.bytesLess] at h
  | x, [], _ :: _, h, _ => by cases x <;> simp [Op.bytesLess] at h
  | [], _ :: _, _ :: _, _, _ => rfl
  | a :: x, b :: y, c :: z, h1, h2 => by
    have ih := bl_trans x y z
    simp only [Op.bytesLess, Bool.or_eq_true, Bool.and_eq_true, decide_eq_true_eq, beq_iff_eq, UInt8.lt_iff_toNat_lt] at h1 h2 ⊢
    rcases h1 with h1 | ⟨rfl, h1⟩
    · rcases h2 with h2 | ⟨rfl, h2⟩
      · exact Or.inl (by omega)
      · exact Or.inl h1
    · rcases h2 with h2 | ⟨rfl, h2⟩
      · exact Or.inl h2
      · exact Or.inr ⟨rfl, ih h1 h2⟩
theorem bl_tri : ∀ x y : List UInt8, Op.bytesLess x y = false → Op.bytesLess y x = false → x = y
  | [], [], _, _ => rfl
  | [], _ :: _, h, _ => by simp [Op.bytesLess] at h
  | _ :: _, [], _, h => by simp [Op.bytesLess] at h
  | a :: x, b :: y, h1, h2 => by
    have ih := bl_tri x y
    simp only [Op.bytesLess, Bool.or_eq_false_iff, decide_eq_false_iff_not, UInt8.lt_iff_toNat_lt] at h1 h2
    have hab : a = b := UInt8.toNat_inj.1 (by omega)
    subst hab
    have e1 := h1.2
    have e2 := h2.2
    simp only [beq_self_eq_true, Bool.true_and] at e1 e2
    rw [ih e1 e2]
theorem less_irr (a : ByteArray) : less a a = false := bl_irr _
theorem less_trans {a b c : ByteArray} (h1 : less a b = true) (h2 : less b c = true) : less a c = true := bl_trans _ _ _ h1 h2
theorem less_tri {a b : ByteArray} (h1 : less a b = false) (h2 : less b a = false) : a = b := bytes_of_toList (bl_tri _ _ h1 h2)
theorem less_ne {a b : ByteArray} (h : less a b = true) : a ≠ b := by
  rintro rfl; rw [less_irr] at h; cases h
theorem less_asym {a b : ByteArray} (h : less a b = true) : less b a = false := by
  cases hb : less b a with
  | false => rfl
  | true => have := less_trans h hb; rw [less_irr] at this; cases this
theorem count_lt : ∀ n i : Nat, i ≤ n → (List.range n).countP (fun j => decide (j < i)) = i
  | 0, i, h => by have : i = 0 := by omega
                  subst this; rfl
  | n + 1, i, h => by
    rw [List.range_succ, List.countP_append]
    by_cases hi : i ≤ n
    · rw [count_lt n i hi]
      simp [List.countP_cons, show ¬ n < i by omega]
    · have : i = n + 1 := by omega
      subst this
      have h2 : (List.range n).countP (fun j => decide (j < n + 1)) = (List.range n).length := by
        rw [List.countP_eq_length]
        intro a ha
        have := List.mem_range.1 ha
        exact decide_eq_true (by omega)
      rw [h2]
      simp [List.countP_cons]
theorem cnt_at (f : Nat → ByteArray) (n : Nat) (h : ∀ i j, i < j → j < n → less (f i) (f j) = true) (p : ByteArray) (i : Nat) (hi : i < n) (he : f i = p) : (List.range n).countP (fun j => less (f j) p) = i := by
  rw [← count_lt n i (Nat.le_of_lt hi)]
  refine List.countP_congr ?_
  · intro j hj
    have hj := List.mem_range.1 hj
    subst he
    rw [decide_eq_true_eq]
    constructor
    · intro hl
      rcases Nat.lt_trichotomy j i with h1 | h1 | h1
      · exact h1
      · subst h1; rw [less_irr] at hl; cases hl
      · have := less_asym (h i j h1 hj); rw [this] at hl; cases hl
    · intro hl; exact h j i hl hi
def Asc (l : List S50) : Prop := l.Pairwise fun a b => less a.f0 b.f0 = true
def AscG (l : List S96) : Prop := l.Pairwise fun a b => less a.f0 b.f0 = true
theorem asc_get {l : List S50} (h : Asc l) (i j : Nat) (hij : i < j) (hj : j < l.length) : less (l.getD i z50).f0 (l.getD j z50).f0 = true := by
  have := (List.pairwise_iff_getElem.1 h) i j (by omega) hj hij
  rw [List.getD_eq_getElem?_getD, List.getD_eq_getElem?_getD, List.getElem?_eq_getElem hj, List.getElem?_eq_getElem (show i < l.length by omega)]
  exact this
theorem ascG_get {l : List S96} (h : AscG l) (i j : Nat) (hij : i < j) (hj : j < l.length) : less (l.getD i z96).f0 (l.getD j z96).f0 = true := by
  have := (List.pairwise_iff_getElem.1 h) i j (by omega) hj hij
  rw [List.getD_eq_getElem?_getD, List.getD_eq_getElem?_getD, List.getElem?_eq_getElem hj, List.getElem?_eq_getElem (show i < l.length by omega)]
  exact this
theorem asc_rising {l : List S50} (h : Asc l) (p : ByteArray) : RisingN l p := by
  intro a b hab hb hl
  rcases Nat.lt_or_eq_of_le hab with h1 | h1
  · exact less_trans (asc_get h a b h1 hb) hl
  · subst h1; exact hl
theorem ascG_rising {l : List S96} (h : AscG l) (p : ByteArray) : RisingG l p := by
  intro a b hab hb hl
  rcases Nat.lt_or_eq_of_le hab with h1 | h1
  · exact less_trans (ascG_get h a b h1 hb) hl
  · subst h1; exact hl
theorem is_at {l : List S50} (h : Asc l) {n : S50} (hn : n ∈ l) : isN l n.f0 = true ∧ nodeN l n.f0 = n := by
  obtain ⟨i, hi, he⟩ := List.getElem_of_mem hn
  have hg : l.getD i z50 = n := by rw [List.getD_eq_getElem?_getD, List.getElem?_eq_getElem hi]; exact he
  have ha : atN l n.f0 = i := cnt_at (fun i => (l.getD i z50).f0) l.length (fun i j => asc_get h i j) n.f0 i hi (by rw [hg])
  have hi2 : isN l n.f0 = true := by unfold isN; rw [ha, hg]; simp [hi]
  refine ⟨hi2, ?_⟩
  unfold nodeN
  rw [if_pos hi2, ha, hg]
theorem is_atG {l : List S96} (h : AscG l) {n : S96} (hn : n ∈ l) : isG l n.f0 = true ∧ l.getD (atG l n.f0) z96 = n := by
  obtain ⟨i, hi, he⟩ := List.getElem_of_mem hn
  have hg : l.getD i z96 = n := by rw [List.getD_eq_getElem?_getD, List.getElem?_eq_getElem hi]; exact he
  have ha : atG l n.f0 = i := cnt_at (fun i => (l.getD i z96).f0) l.length (fun i j => ascG_get h i j) n.f0 i hi (by rw [hg])
  exact ⟨by unfold isG; rw [ha, hg]; simp [hi], by rw [ha, hg]⟩
theorem is_mem {l : List S50} {p : ByteArray} (h : isN l p = true) : nodeN l p ∈ l ∧ (nodeN l p).f0 = p := by
  refine ⟨nodeN_mem h, ?_⟩
  have h' := h
  unfold isN at h'
  simp only [Bool.and_eq_true, beq_iff_eq] at h'
  unfold nodeN
  rw [if_pos h]
  exact bytes_of_toList h'.2
theorem is_memG {l : List S96} {p : ByteArray} (h : isG l p = true) : l.getD (atG l p) z96 ∈ l ∧ (l.getD (atG l p) z96).f0 = p := by
  unfold isG at h
  simp only [Bool.and_eq_true, beq_iff_eq, decide_eq_true_eq] at h
  refine ⟨?_, bytes_of_toList h.2⟩
  rw [List.getD_eq_getElem?_getD, List.getElem?_eq_getElem h.1]
  exact List.getElem_mem h.1
theorem find_is {l : List S50} (h : Asc l) (p : ByteArray) : (findL l p).isSome = isN l p ∧ (findL l p).getD z50 = nodeN l p := by
  cases hf : findL l p with
  | none =>
    have hno : isN l p = false := by
      cases hb : isN l p with
      | false => rfl
      | true =>
        obtain ⟨h1, h2⟩ := is_mem hb
        unfold findL at hf
        rw [List.find?_eq_none] at hf
        exact absurd (decide_eq_true h2) (hf _ h1)
    refine ⟨by rw [hno]; rfl, ?_⟩
    unfold nodeN
    rw [hno]; rfl
  | some n =>
    unfold findL at hf
    have h1 := List.mem_of_find?_eq_some hf
    have h2 : n.f0 = p := by simpa using List.find?_some hf
    obtain ⟨h3, h4⟩ := is_at h h1
    rw [h2] at h3 h4
    exact ⟨by rw [h3]; rfl, by rw [h4]; rfl⟩
theorem keep_iff (p : ByteArray) (m : S50) : keepN p m = true ↔ m.f0 ≠ p := by
  unfold keepN
  simp only [Bool.not_eq_true', beq_eq_false_iff_ne, ne_eq]
  exact ⟨fun h e => h (by rw [e]), fun h e => h (bytes_of_toList e)⟩
theorem mem_put {l : List S50} {n x : S50} : x ∈ putN l n ↔ x = n ∨ (x ∈ l ∧ x.f0 ≠ n.f0) := by
  unfold putN
  have e := List.takeWhile_append_dropWhile (p := fun m : S50 => less m.f0 n.f0) (l := l.filter (keepN n.f0))
  have hm : x ∈ l.filter (keepN n.f0) ↔ (x ∈ l ∧ x.f0 ≠ n.f0) := by rw [List.mem_filter, keep_iff]
  rw [← e, List.mem_append] at hm
  rw [List.mem_append, List.mem_cons]
  constructor
  · rintro (h | h | h)
    · exact Or.inr (hm.1 (Or.inl h))
    · exact Or.inl h
    · exact Or.inr (hm.1 (Or.inr h))
  · rintro (h | h)
    · exact Or.inr (Or.inl h)
    · rcases hm.2 h with h | h
      · exact Or.inl h
      · exact Or.inr (Or.inr h)
theorem put_len (l : List S50) (n : S50) : (putN l n).length ≤ l.length + 1 := by
  unfold putN
  have e := congrArg List.length (List.takeWhile_append_dropWhile (p := fun m : S50 => less m.f0 n.f0) (l := l.filter (keepN n.f0)))
  have h := List.length_filter_le (keepN n.f0) l
  rw [List.length_append] at e ⊢
  rw [List.length_cons]
  omega
theorem drop_ge {l : List S50} (h : Asc l) (p : ByteArray) : ∀ x ∈ l.dropWhile (fun m => less m.f0 p), less x.f0 p = false := by
  induction l with
  | nil => intro x hx; simp at hx
  | cons y t ih =>
    intro x hx
    rw [List.dropWhile_cons] at hx
    split at hx
    · exact ih (List.pairwise_cons.1 h).2 x hx
    · rename_i hy
      rcases List.mem_cons.1 hx with rfl | hx
      · simpa using hy
      · have := (List.pairwise_cons.1 h).1 x hx
        cases hb : less x.f0 p with
        | false => rfl
        | true => exact absurd (less_trans this hb) hy
theorem take_lt (l : List S50) (p : ByteArray) : ∀ x ∈ l.takeWhile (fun m => less m.f0 p), less x.f0 p = true := by
  induction l with
  | nil => intro x hx; simp at hx
  | cons y t ih =>
    intro x hx
    rw [List.takeWhile_cons] at hx
    split at hx
    · rename_i hy
      rcases List.mem_cons.1 hx with rfl | hx
      · exact hy
      · exact ih x hx
    · simp at hx
theorem asc_put {l : List S50} (h : Asc l) (n : S50) : Asc (putN l n) := by
  have hf : Asc (l.filter (keepN n.f0)) := List.Pairwise.filter _ h
  have e := List.takeWhile_append_dropWhile (p := fun m : S50 => less m.f0 n.f0) (l := l.filter (keepN n.f0))
  have hd := drop_ge hf n.f0
  have ht := take_lt (l.filter (keepN n.f0)) n.f0
  have hk : ∀ x ∈ (l.filter (keepN n.f0)).dropWhile (fun m => less m.f0 n.f0), less n.f0 x.f0 = true := by
    intro x hx
    have h1 := hd x hx
    have h2 : x ∈ l.filter (keepN n.f0) := by rw [← e]; exact List.mem_append_right _ hx
    rw [List.mem_filter, keep_iff] at h2
    cases hb : less n.f0 x.f0 with
    | true => rfl
    | false => exact absurd (less_tri h1 hb) h2.2
  have hp : ((l.filter (keepN n.f0)).takeWhile (fun m => less m.f0 n.f0) ++ (l.filter (keepN n.f0)).dropWhile (fun m => less m.f0 n.f0)).Pairwise fun a b => less a.f0 b.f0 = true := by rw [e]; exact hf
  obtain ⟨p1, p2, p3⟩ := List.pairwise_append.1 hp
  unfold putN Asc
  rw [List.pairwise_append]
  refine ⟨p1, List.pairwise_cons.2 ⟨hk, p2⟩, ?_⟩
  intro a ha b hb
  rcases List.mem_cons.1 hb with rfl | hb
  · exact ht a ha
  · exact p3 a ha b hb
def Lab (a : S41) : Prop := (0 ≤ a.f0 ∧ a.f0 ≤ 3) ∧ (0 ≤ a.f1 ∧ a.f1 ≤ 255) ∧ (0 ≤ a.f2 ∧ a.f2 ≤ 3) ∧ (0 ≤ a.f3 ∧ a.f3 ≤ 255)
theorem bits_or (x y : Nat) (hx : x < 65536) (hy : y < 65536) : bits .or .i64 (x : Int) (y : Int) = ((x ||| y : Nat) : Int) := by
  show IntKind.i64.wrap ((BitVec.ofInt 64 (x : Int) ||| BitVec.ofInt 64 (y : Int)).toNat : Int) = _
  rw [BitVec.toNat_or, ofInt_u64 x (by omega), ofInt_u64 y (by omega)]
  have := Nat.or_lt_two_pow (n := 16) hx hy
  exact Lib.wrap_i64_small _ (by omega)
theorem bits_and (x y : Nat) (hx : x < 65536) (hy : y < 65536) : bits .and .i64 (x : Int) (y : Int) = ((x &&& y : Nat) : Int) := by
  show IntKind.i64.wrap ((BitVec.ofInt 64 (x : Int) &&& BitVec.ofInt 64 (y : Int)).toNat : Int) = _
  rw [BitVec.toNat_and, ofInt_u64 x (by omega), ofInt_u64 y (by omega)]
  have := Nat.and_lt_two_pow (n := 16) x hy
  exact Lib.wrap_i64_small _ (by omega)
theorem and_or_iff (x y : Nat) : (x ||| y = x) ↔ (x &&& y = y) := by
  constructor
  · intro h
    rw [← h]
    apply Nat.eq_of_testBit_eq
    intro i
    simp only [Nat.testBit_and, Nat.testBit_or]
    cases x.testBit i <;> cases y.testBit i <;> rfl
  · intro h
    rw [← h]
    apply Nat.eq_of_testBit_eq
    intro i
    simp only [Nat.testBit_and, Nat.testBit_or]
    cases x.testBit i <;> cases y.testBit i <;> rfl
def OverP (a b : S41) : Prop := b.f0 ≤ a.f0 ∧ a.f1.toNat ||| b.f1.toNat = a.f1.toNat ∧ a.f2 ≤ b.f2 ∧ a.f3.toNat &&& b.f3.toNat = a.f3.toNat
theorem lover_iff {a b : S41} (ha : Lab a) (hb : Lab b) : lover a b = true ↔ OverP a b := by
  obtain ⟨a0, a1, a2, a3⟩ := a
  obtain ⟨b0, b1, b2, b3⟩ := b
  obtain ⟨ha0, ha1, ha2, ha3⟩ := ha
  obtain ⟨hb0, hb1, hb2, hb3⟩ := hb
  simp only at ha0 ha1 ha2 ha3 hb0 hb1 hb2 hb3
  obtain ⟨x1, rfl⟩ := Int.eq_ofNat_of_zero_le ha1.1
  obtain ⟨y1, rfl⟩ := Int.eq_ofNat_of_zero_le hb1.1
  obtain ⟨x3, rfl⟩ := Int.eq_ofNat_of_zero_le ha3.1
  obtain ⟨y3, rfl⟩ := Int.eq_ofNat_of_zero_le hb3.1
  unfold lover label_Over.f label_Join.f OverP
  simp only [Option.bind_some, Option.getD_some, Bool.and_eq_true, beq_iff_eq, Int.toNat_natCast]
  rw [bits_or x1 y1 (by omega) (by omega), bits_and x3 y3 (by omega) (by omega), Int.ofNat_inj, Int.ofNat_inj]
  have h0 : mx a0 b0 = a0 ↔ b0 ≤ a0 := by unfold mx; split <;> omega
  have h2 : mn a2 b2 = a2 ↔ a2 ≤ b2 := by unfold mn; split <;> omega
  rw [h0, h2]
theorem over_refl (a : S41) : OverP a a := ⟨Int.le_refl _, Nat.or_self _, Int.le_refl _, Nat.and_self _⟩
theorem lover_refl {a : S41} (ha : Lab a) : lover a a = true := (lover_iff ha ha).2 (over_refl a)
def joinS (a b : S41) : S41 := ⟨mx a.f0 b.f0, bits .or .i64 a.f1 b.f1, mn a.f2 b.f2, bits .and .i64 a.f3 b.f3⟩
theorem join_lab {a b : S41} (ha : Lab a) (hb : Lab b) : Lab (joinS a b) ∧ OverP (joinS a b) a ∧ OverP (joinS a b) b := by
  obtain ⟨a0, a1, a2, a3⟩ := a
  obtain ⟨b0, b1, b2, b3⟩ := b
  obtain ⟨ha0, ha1, ha2, ha3⟩ := ha
  obtain ⟨hb0, hb1, hb2, hb3⟩ := hb
  simp only at ha0 ha1 ha2 ha3 hb0 hb1 hb2 hb3
  obtain ⟨x1, rfl⟩ := Int.eq_ofNat_of_zero_le ha1.1
  obtain ⟨y1, rfl⟩ := Int.eq_ofNat_of_zero_le hb1.1
  obtain ⟨x3, rfl⟩ := Int.eq_ofNat_of_zero_le ha3.1
  obtain ⟨y3, rfl⟩ := Int.eq_ofNat_of_zero_le hb3.1
  have l1 := Nat.or_lt_two_pow (n := 8) (x := x1) (y := y1) (by omega) (by omega)
  have l3 := Nat.and_lt_two_pow (n := 8) x3 (y := y3) (by omega)
  unfold joinS OverP Lab
  simp only
  rw [bits_or x1 y1 (by omega) (by omega), bits_and x3 y3 (by omega) (by omega)]
  simp only [Int.toNat_natCast]
  refine ⟨⟨?_, ⟨by omega, by omega⟩, ?_, ⟨by omega, by omega⟩⟩, ⟨?_, ?_, ?_, ?_⟩, ⟨?_, ?_, ?_, ?_⟩⟩
  · unfold mx; split <;> omega
  · unfold mn; split <;> omega
  · unfold mx; split <;> omega
  · rw [Nat.or_assoc, Nat.or_comm y1 x1, ← Nat.or_assoc, Nat.or_self]
  · unfold mn; split <;> omega
  · rw [Nat.and_assoc, Nat.and_comm y3 x3, ← Nat.and_assoc, Nat.and_self]
  · unfold mx; split <;> omega
  · rw [Nat.or_assoc, Nat.or_self]
  · unfold mn; split <;> omega
  · rw [Nat.and_assoc, Nat.and_self]
theorem rover_iff {a b : S41} (ha : Lab a) (hb : Lab b) : donjonref4_Over.f a.f0 a.f1 a.f2 a.f3 b.f0 b.f1 b.f2 b.f3 = some (lover a b) := by
  have h := lover_iff ha hb
  obtain ⟨a0, a1, a2, a3⟩ := a
  obtain ⟨b0, b1, b2, b3⟩ := b
  obtain ⟨ha0, ha1, ha2, ha3⟩ := ha
  obtain ⟨hb0, hb1, hb2, hb3⟩ := hb
  simp only at ha0 ha1 ha2 ha3 hb0 hb1 hb2 hb3
  obtain ⟨x1, rfl⟩ := Int.eq_ofNat_of_zero_le ha1.1
  obtain ⟨y1, rfl⟩ := Int.eq_ofNat_of_zero_le hb1.1
  obtain ⟨x3, rfl⟩ := Int.eq_ofNat_of_zero_le ha3.1
  obtain ⟨y3, rfl⟩ := Int.eq_ofNat_of_zero_le hb3.1
  unfold OverP at h
  simp only [Int.toNat_natCast] at h
  rw [and_or_iff] at h
  unfold donjonref4_Over.f
  simp only
  rw [bits_and x1 y1 (by omega) (by omega), bits_and x3 y3 (by omega) (by omega)]
  generalize lover _ _ = r at h ⊢
  by_cases h0 : b0 ≤ a0
  · rw [if_pos h0]
    by_cases h1 : x1 &&& y1 = y1
    · rw [if_pos (by exact_mod_cast h1)]
      by_cases h2 : a2 ≤ b2
      · rw [if_pos h2]
        by_cases h3 : x3 &&& y3 = x3
        · rw [h.2 ⟨h0, h1, h2, h3⟩, h3]; simp
        · have hr : r = false := by cases r with
            | false => rfl
            | true => exact absurd (h.1 rfl).2.2.2 h3
          rw [hr]
          have : ¬ ((x3 &&& y3 : Nat) : Int) = (x3 : Int) := fun e => h3 (by exact_mod_cast e)
          simp [this]
      · rw [if_neg h2]
        have hr : r = false := by cases r with
          | false => rfl
          | true => exact absurd (h.1 rfl).2.2.1 h2
        rw [hr]
    · rw [if_neg (fun e => h1 (by exact_mod_cast e))]
      have hr : r = false := by cases r with
        | false => rfl
        | true => exact absurd (h.1 rfl).2.1 h1
      rw [hr]
  · rw [if_neg h0]
    have hr : r = false := by cases r with
      | false => rfl
      | true => exact absurd (h.1 rfl).1 h0
    rw [hr]
def Okp (ns : List (List UInt8)) : Prop := (∀ x ∈ ns, L.Nm x) ∧ L.checkL (L.render ns) = 0
def AclOk (xs : List S96) : Prop := GoodAcl 5 xs
theorem nmA_less : ∀ a b : Fin 5, a < b → less (nmA a) (nmA b) = true := by decide +kernel
theorem map_pair : ∀ (xs : List S96) (ks : List Nat), xs.map (·.f0) = ks.map nmA → ks.Pairwise (· < ·) → (∀ k ∈ ks, k < 5) → AscG xs
  | [], _, _, _, _ => List.Pairwise.nil
  | x :: xs, [], h, _, _ => by simp at h
  | x :: xs, k :: ks, h, hp, hk => by
    simp only [List.map_cons, List.cons.injEq] at h
    obtain ⟨h1, h2⟩ := h
    obtain ⟨p1, p2⟩ := List.pairwise_cons.1 hp
    refine List.pairwise_cons.2 ⟨?_, map_pair xs ks h2 p2 (fun z hz => hk z (List.mem_cons_of_mem _ hz))⟩
    intro y hy
    have hy2 : y.f0 ∈ ks.map nmA := by rw [← h2]; exact List.mem_map_of_mem (f := fun s : S96 => s.f0) hy
    obtain ⟨z, hz, hze⟩ := List.mem_map.1 hy2
    rw [h1, ← hze]
    exact nmA_less ⟨k, hk k List.mem_cons_self⟩ ⟨z, hk z (List.mem_cons_of_mem _ hz)⟩ (p1 z hz)
theorem acl_asc {xs : List S96} (h : AclOk xs) : AscG xs := by
  obtain ⟨ks, h1, h2, h3, _⟩ := h
  exact map_pair xs ks h3 h1 h2
theorem acl_len {xs : List S96} (h : AclOk xs) : xs.length ≤ 4 := by
  obtain ⟨_, _, _, _, _, h⟩ := h
  exact h
theorem modes_range {xs : List S96} (h : AclOk xs) (u : ByteArray) : 0 ≤ amodes xs u ∧ amodes xs u ≤ 7 := by
  obtain ⟨ks, _, _, _, hm, _⟩ := h
  unfold amodes
  split
  · have := hm _ (is_memG ‹_›).1; omega
  · split
    · have := hm _ (is_memG ‹_›).1; omega
    · omega
def NodeOk (n : S50) : Prop := Lab n.f2 ∧ Lab n.f6 ∧ AclOk n.f3 ∧ n.f5.length ≤ 16 ∧ (n.f1 = true → n.f5 = [] ∧ n.f4 = z47) ∧ (0 ≤ n.f4.f0 ∧ n.f4.f0 ≤ n.f4.f1 ∧ n.f4.f1 ≤ n.f4.f2 ∧ n.f4.f2 < 8 ∧ 0 ≤ n.f4.f3 ∧ n.f4.f3 < 17)
def botS : S41 := ⟨0, 0, 3, 255⟩
structure Tree (t : List S50) : Prop where
  asc : Asc t
  len : t.length ≤ 1000
  root : ∃ n ∈ t, n.f0 = pth [] ∧ n.f1 = true ∧ n.f2 = botS
  ok : ∀ n ∈ t, NodeOk n
  up : ∀ n ∈ t, ∃ ns, Okp ns ∧ n.f0 = pth ns ∧ (ns ≠ [] → ∃ d ∈ t, d.f0 = pth ns.dropLast ∧ d.f1 = true ∧ lover n.f2 d.f2 = true ∧ (n.f1 = false → n.f2 = d.f2))
theorem node_fits {n : S50} (h : NodeOk n) : Fits n := by
  have := acl_len h.2.2.1
  exact ⟨by omega, by have := h.2.2.2.1; omega⟩
theorem node_acls {n : S50} (h : NodeOk n) : Acls n := by
  have := acl_len h.2.2.1
  exact ⟨by omega, fun u => ascG_rising (acl_asc h.2.2.1) u⟩
theorem tree_srch {t : List S50} (T : Tree t) : Srch t := ⟨by have := T.len; omega, fun p => asc_rising T.asc p, fun n hn => node_fits (T.ok n hn)⟩
theorem tree_acls {t : List S50} (T : Tree t) : ∀ n ∈ t, Acls n := fun n hn => node_acls (T.ok n hn)
theorem tree_ne {t : List S50} (T : Tree t) : 0 < t.length := by
  obtain ⟨n, hn, _⟩ := T.root
  exact List.length_pos_of_mem hn
theorem see_zero (t : List S50) (a : S41) : ∀ (rest pre : List (List UInt8)), (seeR t a pre rest).2 = 0 → (seeR t a pre rest).1 = nodeN t (pth (pre ++ rest)) ∧ isN t (pth (pre ++ rest)) = true ∧ ∀ i, i < rest.length → isN t (pth (pre ++ rest.take i)) = true ∧ (nodeN t (pth (pre ++ rest.take i))).f1 = true ∧ lover a (nodeN t (pth (pre ++ rest.take i))).f2 = true
  | [], pre, h => by
    unfold seeR at h ⊢
    rw [List.append_nil]
    split at h
    · rename_i hi
      rw [if_pos hi]
      exact ⟨rfl, hi, fun i h => absurd h (Nat.not_lt_zero _)⟩
    · cases h
  | n :: rest, pre, h => by
    unfold seeR at h ⊢
    split at h
    · rename_i h1
      rw [if_pos h1]
      split at h
      · rename_i h2
        rw [if_pos h2]
        split at h
        · rename_i h3
          rw [if_pos h3]
          obtain ⟨e1, e2, e3⟩ := see_zero t a rest (pre ++ [n]) h
          rw [List.append_assoc, List.singleton_append] at e1 e2
          refine ⟨e1, e2, fun i hi => ?_⟩
          cases i with
          | zero => rw [List.take_zero, List.append_nil]; exact ⟨h1, h2, h3⟩
          | succ i =>
            have := e3 i (by simpa using hi)
            rw [List.append_assoc, List.singleton_append] at this
            exact this
        · cases h
      · cases h
    · cases h
theorem tree_put {t : List S50} (T : Tree t) (hlen : t.length < 900) (n : S50) (hn : NodeOk n) (ns : List (List UInt8)) (hk : Okp ns) (he : n.f0 = pth ns) (hne : ns ≠ []) (hno : isN t (pth ns) = false) (d : S50) (hd : d ∈ t) (hd0 : d.f0 = pth ns.dropLast) (hd1 : d.f1 = true) (hl : lover n.f2 d.f2 = true) (hs : n.f1 = false → n.f2 = d.f2) : Tree (putN t n) := by
  have hfar : ∀ x ∈ t, x.f0 ≠ n.f0 := by
    intro x hx e
    have := (is_at T.asc hx).1
    rw [e, he, hno] at this
    cases this
  refine ⟨asc_put T.asc n, by have := put_len t n; omega, ?_, ?_, ?_⟩
  · obtain ⟨r, h1, h2⟩ := T.root
    exact ⟨r, mem_put.2 (Or.inr ⟨h1, hfar r h1⟩), h2⟩
  · intro x hx
    rcases mem_put.1 hx with rfl | ⟨hx, _⟩
    · exact hn
    · exact T.ok x hx
  · intro x hx
    rcases mem_put.1 hx with rfl | ⟨hx, _⟩
    · exact ⟨ns, hk, he, fun _ => ⟨d, mem_put.2 (Or.inr ⟨hd, hfar d hd⟩), hd0, hd1, hl, hs⟩⟩
    · obtain ⟨ms, h1, h2, h3⟩ := T.up x hx
      refine ⟨ms, h1, h2, fun hm => ?_⟩
      obtain ⟨e, e1, e2⟩ := h3 hm
      exact ⟨e, mem_put.2 (Or.inr ⟨e1, hfar e e1⟩), e2⟩
end Go.Proofs.YteilkbookcmndaaGreatDoor.C
namespace Go.Proofs.YteilkbookcmndaaGreatDoor.C
open Go.RowKit Go.Proofs.YteilkbookcmndaaGreatDoor.Q Go.Proofs.YteilkbookcmndaaGreatDoorW.PrintWords Go.Proofs.YteilkbookcmndaaGreatDoorW.PrintLast Go.Proofs.YteilkbookcmndaaGreatDoorW.PrintMore
def mrec (u : ByteArray) : List S96 → Int → Int
  | [], ev => ev
  | x :: t, ev => if x.f0 = star then mrec u t x.f1 else if x.f0 = u then x.f1 else mrec u t ev
theorem toList_iff {a b : ByteArray} : a.toList = b.toList ↔ a = b := ⟨bytes_of_toList, fun h => by rw [h]⟩
theorem star_toList : star.toList = ([42] : List UInt8) := by rw [Lib.toList_data]; rfl
theorem ref_modes_l (l : List S96) (hl : l.length ≤ 1000) (u : ByteArray) : ∀ (d k i : Nat) (ev : Int), i ≤ l.length → l.length - i = d → d < k → donjonref5_Modes.l0 k l u ev (i : Int) = some (mrec u (l.drop i) ev)
  | d, 0, _, _, _, _, h => absurd h (Nat.not_lt_zero _)
  | 0, k + 1, i, ev, hi, hd, _ => by
    have : i = l.length := by omega
    subst this
    unfold donjonref5_Modes.l0
    rw [if_neg (Int.lt_irrefl _), List.drop_length]
    rfl
  | d + 1, k + 1, i, ev, hi, hd, hk => by
    have hlt : i < l.length := by omega
    have hr : rd_T96 l (i : Int) = l[i]'hlt := by unfold rd_T96; rw [Int.toNat_natCast, List.getD_eq_getElem?_getD, List.getElem?_eq_getElem hlt]; rfl
    have hw : wrap64 ((i : Int) + 1) = ((i + 1 : Nat) : Int) := by unfold wrap64; omega
    have ih := fun ev => ref_modes_l l hl u d k (i + 1) ev (by omega) (by omega) (by omega)
    unfold donjonref5_Modes.l0
    rw [if_pos (by omega), if_pos (by omega), hr, hw, ih, ih, List.drop_eq_getElem_cons hlt]
    have h42 : (l[i]'hlt).f0.toList = ([42] : List UInt8) ↔ (l[i]'hlt).f0 = star := by rw [← star_toList]; exact toList_iff
    have hm : mrec u (l[i]'hlt :: l.drop (i + 1)) ev = if (l[i]'hlt).f0 = star then mrec u (l.drop (i + 1)) (l[i]'hlt).f1 else if (l[i]'hlt).f0 = u then (l[i]'hlt).f1 else mrec u (l.drop (i + 1)) ev := rfl
    rw [hm]
    by_cases h1 : (l[i]'hlt).f0 = star
    · rw [if_pos (h42.2 h1), if_pos h1]
    · rw [if_neg (fun e => h1 (h42.1 e)), if_neg h1]
      by_cases h2 : (l[i]'hlt).f0 = u
      · rw [if_pos (toList_iff.2 h2), if_pos h2]
      · rw [if_neg (fun e => h2 (toList_iff.1 e)), if_neg h2]
theorem mrec_no (u : ByteArray) (hu : u ≠ star) : ∀ (l : List S96) (ev : Int), AscG l → (∀ x ∈ l, x.f0 ≠ u) → (∀ x ∈ l, x.f0 = star → mrec u l ev = x.f1) ∧ ((∀ x ∈ l, x.f0 ≠ star) → mrec u l ev = ev)
  | [], ev, _, _ => ⟨fun x hx => by simp at hx, fun _ => rfl⟩
  | y :: t, ev, ha, hn => by
    obtain ⟨p1, p2⟩ := List.pairwise_cons.1 ha
    have ih := fun ev => mrec_no u hu t ev p2 (fun x hx => hn x (List.mem_cons_of_mem _ hx))
    unfold mrec
    rw [if_neg (hn y List.mem_cons_self)]
    by_cases h1 : y.f0 = star
    · rw [if_pos h1]
      have hno : ∀ x ∈ t, x.f0 ≠ star := fun x hx e => by have := p1 x hx; rw [h1, e, less_irr] at this; cases this
      refine ⟨fun x hx hs => ?_, fun h => absurd h1 (h y List.mem_cons_self)⟩
      rcases List.mem_cons.1 hx with rfl | hx
      · exact (ih _).2 hno
      · exact absurd hs (hno x hx)
    · rw [if_neg h1]
      refine ⟨fun x hx hs => ?_, fun h => (ih ev).2 (fun x hx => h x (List.mem_cons_of_mem _ hx))⟩
      rcases List.mem_cons.1 hx with rfl | hx
      · exact absurd hs h1
      · exact (ih ev).1 x hx hs
theorem mrec_is (u : ByteArray) (hu : u ≠ star) : ∀ (l : List S96) (ev : Int), AscG l → ∀ x ∈ l, x.f0 = u → mrec u l ev = x.f1
  | [], _, _, x, hx, _ => by simp at hx
  | y :: t, ev, ha, x, hx, he => by
    obtain ⟨p1, p2⟩ := List.pairwise_cons.1 ha
    unfold mrec
    rcases List.mem_cons.1 hx with rfl | hx
    · rw [if_neg (by rw [he]; exact hu), if_pos he]
    · have hne : y.f0 ≠ u := by rw [← he]; exact less_ne (p1 x hx)
      split
      · exact mrec_is u hu t _ p2 x hx he
      · exact mrec_is u hu t _ p2 x hx he
theorem ref_modes {l : List S96} (ha : AscG l) (hl : l.length ≤ 1000) (u : ByteArray) (hu : u ≠ star) (k : Nat) (hk : l.length < k) : donjonref5_Modes.f k l u = some (amodes l u) := by
  unfold donjonref5_Modes.f
  have := ref_modes_l l hl u l.length k 0 0 (Nat.zero_le _) (by omega) hk
  rw [Int.ofNat_zero] at this
  rw [this, List.drop_zero]
  congr 1
  unfold amodes
  split
  · rename_i h
    exact mrec_is u hu l 0 ha _ (is_memG h).1 (is_memG h).2
  · rename_i h
    have hno : ∀ x ∈ l, x.f0 ≠ u := fun x hx e => by have := (is_atG ha hx).1; rw [e] at this; exact h this
    obtain ⟨h1, h2⟩ := mrec_no u hu l 0 ha hno
    split
    · rename_i h3
      exact h1 _ (is_memG h3).1 (is_memG h3).2
    · rename_i h3
      exact h2 (fun x hx e => by have := (is_atG ha hx).1; rw [e] at this; exact h3 this)
end Go.Proofs.YteilkbookcmndaaGreatDoor.C
end
