/- Texts that the claim's law stands on, cut down to what it reaches. -/
import Derived.Test.YtmndeoncbocplaaDoorJC
import Derived.Test.YtmndeoncbocplaaDoorJD
import Derived.Test.YtmndeoncbocplaaDoorJP
import Derived.Deep.RegionHeldLaw
import Derived.Deep.RegionHeld3
set_option linter.unusedVariables false
set_option linter.unusedSimpArgs false
section
set_option linter.unusedVariables false
set_option linter.unusedSimpArgs false
namespace Go.Proofs.YtmndeoncbocplaaDoor.P
open Go.RowKit Go.Proofs.YtmndeoncbocplaaDoorW.PrintWords Go.Proofs.YtmndeoncbocplaaDoorW.PrintLast Go.Proofs.YtmndeoncbocplaaDoor.L
theorem letter_fine (c : Int) (h0 : 0 ≤ c) (h : c < 5) : 97 ≤ (letter c).toNat ∧ (letter c).toNat ≤ 101 := by
  obtain ⟨n, rfl⟩ := Int.eq_ofNat_of_zero_le h0
  have hn : n < 5 := by omega
  unfold letter
  rw [show ((97 + (n : Int)) % 256).toNat = 97 + n from by omega]
  have e : (UInt8.ofNat (97 + n)).toNat = 97 + n := by rw [UInt8.toNat_ofNat']; omega
  rw [e]
  omega
theorem of_rest2 (x0 : List Int) (hlen : x0.length ≤ 9223372036854775807) (m : Nat) : ∀ (ns : List (List UInt8)) (s : ByteArray), s.data.toList = flat ns → s.size ≤ 4 * ns.length → min x0.length 6 = ns.length + m →
    (∀ x ∈ ns, nameL x = true ∧ x.length ≤ 3 ∧ ∀ b ∈ x, 97 ≤ b.toNat ∧ b.toNat ≤ 101) →
    ∃ rest : List (List UInt8), rest.length = m ∧ (∀ x ∈ rest, nameL x = true ∧ x.length ≤ 3 ∧ ∀ b ∈ x, 97 ≤ b.toNat ∧ b.toNat ≤ 101) ∧ ∀ k, 10 * m + 10 ≤ k → donjonlaw7_Of.l0 k x0 s (ns.length : Int) = some ⟨(render (ns ++ rest)).toArray⟩ := by
  induction m with
  | zero =>
    intro ns s hs hz hm hns
    refine ⟨[], rfl, by simp, fun k hk => ?_⟩
    obtain ⟨k, rfl⟩ : ∃ q, k = q + 2 := ⟨k - 2, by omega⟩
    rw [List.append_nil]
    have hend : donjonlaw7_Of.j1 (k + 1) x0 s (ns.length : Int) false = some ⟨(render ns).toArray⟩ := by
      simp only [donjonlaw7_Of.j1]
      rw [if_neg (by decide), Lib.toList_data, hs]
      by_cases h : flat ns = []
      · rw [if_pos h, flat_eq_nil h]
        rfl
      · rw [if_neg h, render_flat ns (fun e => h (by rw [e]; rfl)), ← hs]
    simp only [donjonlaw7_Of.l0]
    by_cases h : (ns.length : Int) < (x0.length : Int)
    · rw [if_pos h, show decide ((ns.length : Int) < 6) = false from by rw [decide_eq_false_iff_not]; omega]
      exact hend
    · rw [if_neg h]
      exact hend
  | succ m ih =>
    intro ns s hs hz hm hns
    have hlt : ns.length < x0.length := by omega
    obtain ⟨t, ht, ht0, ht3⟩ := within_f (rd x0 (ns.length : Int)) 3 (by decide) (by decide)
    obtain ⟨c, hc, hc0, hc5⟩ := within_f (wrap64 (Int.tdiv (rd x0 (ns.length : Int)) 3)) 5 (by decide) (by decide)
    have hd : t + 1 - 0 = ((t + 1).toNat : Int) := by omega
    have hl : (List.replicate (t + 1).toNat (letter c)).length = (t + 1).toNat := List.length_replicate
    have hgood : nameL (List.replicate (t + 1).toNat (letter c)) = true := by
      unfold nameL
      rw [hl]
      simp only [Bool.and_eq_true, decide_eq_true_eq]
      refine ⟨?_, by omega, by omega⟩
      rw [List.all_eq_true]
      intro b hb
      rw [(List.mem_replicate.1 hb).2]
      exact letter_name c hc0 (by omega)
    have hfin : ∀ b ∈ List.replicate (t + 1).toNat (letter c), 97 ≤ b.toNat ∧ b.toNat ≤ 101 := by
      intro b hb
      rw [(List.mem_replicate.1 hb).2]
      exact letter_fine c hc0 hc5
    have hs1 : (s ++ (⟨#[47]⟩ : ByteArray)).data.toList ++ List.replicate (t + 1).toNat (letter c) = flat (ns ++ [List.replicate (t + 1).toNat (letter c)]) := by
      rw [append_data, hs, flat_snoc]
      simp
    have hz1 : (s ++ (⟨#[47]⟩ : ByteArray)).size = s.size + 1 := append_size _ _
    obtain ⟨rest, hr1, hr2, hr3⟩ := ih (ns ++ [List.replicate (t + 1).toNat (letter c)]) ⟨(flat (ns ++ [List.replicate (t + 1).toNat (letter c)])).toArray⟩ rfl
      (by rw [Lib.size_eq, ← hs1]; simp only [List.length_append, hl, List.length_cons, List.length_nil]; rw [← Lib.size_eq, hz1]; omega) (by rw [List.length_append]; simp; omega) (by
      intro x hx
      rcases List.mem_append.1 hx with hx | hx
      · exact hns x hx
      · rw [List.mem_singleton.1 hx]
        exact ⟨hgood, by rw [hl]; omega, hfin⟩)
    refine ⟨List.replicate (t + 1).toNat (letter c) :: rest, by simp [hr1], ?_, ?_⟩
    · intro x hx
      rcases List.mem_cons.1 hx with rfl | hx
      · exact ⟨hgood, by rw [hl]; omega, hfin⟩
      · exact hr2 x hx
    · intro k hk
      obtain ⟨k, rfl⟩ : ∃ q, k = q + 1 + (t + 1).toNat + 2 := ⟨k - (3 + (t + 1).toNat), by omega⟩
      simp only [donjonlaw7_Of.l0]
      rw [if_pos (by omega), show decide ((ns.length : Int) < 6) = true from by rw [decide_eq_true_eq]; omega]
      simp only [donjonlaw7_Of.j1]
      rw [if_pos trivial, if_pos (by omega), of_letters x0 ns.length hlt hlen t c ht ht3 hc hc0 hc5 (t + 1).toNat k 0 _ (by decide) hd (by omega), hs1]
      have h := hr3 k (by omega)
      rw [List.length_append, List.length_singleton] at h
      rw [h]
      simp
theorem of_f2 (x0 : List Int) (hlen : x0.length ≤ 9223372036854775807) : ∃ ns : List (List UInt8), ns.length ≤ 6 ∧ (∀ x ∈ ns, nameL x = true ∧ x.length ≤ 3 ∧ ∀ b ∈ x, 97 ≤ b.toNat ∧ b.toNat ≤ 101) ∧ ∀ k, 80 ≤ k → donjonlaw7_Of.f k x0 = some ⟨(render ns).toArray⟩ := by
  obtain ⟨rest, h1, h2, h3⟩ := of_rest2 x0 hlen (min x0.length 6) [] ⟨#[]⟩ rfl (by decide) (by simp) (by simp)
  refine ⟨rest, by omega, h2, fun k hk => ?_⟩
  have h := h3 k (by omega)
  rw [List.nil_append] at h
  unfold donjonlaw7_Of.f
  exact h
end Go.Proofs.YtmndeoncbocplaaDoor.P
namespace Go.Proofs.YtmndeoncbocplaaDoor.C
open Go.RowKit Go.Proofs.YtmndeoncbocplaaDoor.Q Go.Proofs.YtmndeoncbocplaaDoorW.PrintWords Go.Proofs.YtmndeoncbocplaaDoorW.PrintLast Go.Proofs.YtmndeoncbocplaaDoorW.PrintMore
attribute [local go_sem ↓] rd_at50 wr_at50 al_at50 rd_at80 wr_at80 al_at80
attribute [local go_sem] rd50_new wr50_new al50 al80 wr80_new
/-- A byte such as Grow's paths have. -/
def FineB (b : UInt8) : Prop := b = 47 ∨ b = 108 ∨ (48 ≤ b.toNat ∧ b.toNat ≤ 57) ∨ (97 ≤ b.toNat ∧ b.toNat ≤ 101)
def FineP (p : ByteArray) : Prop := ∀ b ∈ p.toList, FineB b
/-- Nodes whose paths have such bytes alone. -/
def Fine (t : List S50) : Prop := ∀ n ∈ t, FineP n.f0
theorem fine_flat : ∀ (ns : List (List UInt8)), (∀ x ∈ ns, ∀ b ∈ x, FineB b) → ∀ b ∈ L.flat ns, FineB b
  | [], _, b, hb => by cases hb
  | x :: s, h, b, hb => by
    have e : L.flat (x :: s) = 47 :: (x ++ L.flat s) := rfl
    rw [e] at hb
    rcases List.mem_cons.1 hb with rfl | hb
    · exact Or.inl rfl
    · rcases List.mem_append.1 hb with hb | hb
      · exact h x List.mem_cons_self b hb
      · exact fine_flat s (fun y hy => h y (List.mem_cons_of_mem _ hy)) b hb
theorem fine_pth (ns : List (List UInt8)) (h : ∀ x ∈ ns, ∀ b ∈ x, FineB b) : FineP (pth ns) := by
  intro b hb
  rw [Lib.toList_data, pth_data] at hb
  by_cases hne : ns = []
  · subst hne
    obtain rfl : b = 47 := by simpa [L.render] using hb
    exact Or.inl rfl
  · rw [L.render_flat ns hne] at hb
    exact fine_flat ns h b hb
theorem fine_put {t : List S50} {n : S50} (h : Fine t) (hn : FineP n.f0) : Fine (putN t n) := by
  intro x hx
  rcases mem_put.1 hx with rfl | ⟨hx, _⟩
  · exact hn
  · exact h x hx
theorem fine_first (ls : List S41) (hl : ls.length ≤ 9) : Fine (firstT ls) := by
  intro n hn
  rcases mem_first hn with rfl | ⟨k, hk, rfl⟩
  · intro b hb
    obtain rfl : b = 47 := by
      have h2 : (⟨#[47]⟩ : ByteArray).toList = [47] := by rw [Lib.toList_data]
      have h3 : b ∈ (⟨#[47]⟩ : ByteArray).toList := hb
      rw [h2] at h3
      simpa using h3
    exact Or.inl rfl
  · have h := l0_pth ⟨k, by omega⟩
    have h1 : l0 k = pth [[108, UInt8.ofNat (48 + k)]] := h
    show FineP (l0 k)
    rw [h1]
    refine fine_pth _ fun x hx b hb => ?_
    rw [List.mem_singleton.1 hx] at hb
    rcases List.mem_cons.1 hb with rfl | hb
    · exact Or.inr (Or.inl rfl)
    · rw [List.mem_singleton.1 hb]
      refine Or.inr (Or.inr (Or.inl ?_))
      have e : (UInt8.ofNat (48 + k)).toNat = 48 + k := by rw [UInt8.toNat_ofNat']; omega
      rw [e]
      omega
theorem of_c2 (l : List Int) (hl : l.length ≤ 9223372036854775807) : ∃ ns : List (List UInt8), Okp ns ∧ FineP (pth ns) ∧ ∀ (A : Option Addr) (c : Nat) (w : World), Kd.C (Kd.int .i64) w A l.length l → l.length ≤ c → Calls Tryd.prog 25 #[.slice A l.length c] w fun e w' => e = .returned (.string (pth ns)) ∧ Below w.heap.size w w' := by
  obtain ⟨ns, h1, h2, h3⟩ := P.of_f2 l hl
  exact ⟨ns, ⟨fun x hx => L.name_nm (h2 x hx).1, P.of_check h1 (fun x hx => ⟨(h2 x hx).1, (h2 x hx).2.1⟩)⟩, fine_pth ns (fun x hx b hb => Or.inr (Or.inr (Or.inr ((h2 x hx).2.2 b hb)))), fun A c w hC hc => P.donjonlaw7_Of.calls 80 A c l _ w hC hc (h3 80 (Nat.le_refl _))⟩
end Go.Proofs.YtmndeoncbocplaaDoor.C
end
section
set_option linter.unusedVariables false
set_option linter.unusedSimpArgs false
namespace Go.Proofs.YtmndeoncbocplaaDoor.C
open Go.RowKit Go.Proofs.YtmndeoncbocplaaDoor.Q Go.Proofs.YtmndeoncbocplaaDoorW.PrintWords Go.Proofs.YtmndeoncbocplaaDoorW.PrintLast Go.Proofs.YtmndeoncbocplaaDoorW.PrintMore
attribute [local go_sem ↓] rd_at50 wr_at50 al_at50 rd_at80 wr_at80 al_at80
attribute [local go_sem] rd50_new wr50_new al50 al80 wr80_new
set_option maxHeartbeats 8000000 in
set_option maxRecDepth 100000 in
theorem grow_c3 (terms : List S41) (makes : List S80) (A B : Option Addr) (c d : Nat) (w : World) (hC : Kd.C k41 w A terms.length terms) (hc : terms.length ≤ c) (hD : Kd.C k80 w B makes.length makes) (hd : makes.length ≤ d) :
    Calls Tryd.prog 32 #[.slice A terms.length c, .slice B makes.length d] w fun e w' => ∃ Ag t cg, e = .returned (.slice Ag t.length cg) ∧ Tree t ∧ Fine t ∧ t.length ≤ 19 ∧ t.length ≤ cg ∧ Kd.C k50 w' Ag t.length t ∧ Below w.heap.size w w' := by
  have HC := Lib.hid hC
  have HD := Lib.hid hD
  clear hC hD
  go_enter Tryd.func32, Tryd.ntmps32
  go_wp2
  go_loopg [6] 4 (fun k s6 wr => ∃ (i : Nat) (v : Value) (xs : List S41), i ≤ 4 ∧ 4 - i ≤ k ∧ s6 = .int .i64 i ∧ xs.length ≤ i ∧ Hid (wr.heap[w.heap.size]? = some (.cells #[v, .slice none 0 0, .slice none 0 0] 91 (0, 0))) ∧ Hid (∀ a ∈ xs, Lab a) ∧ Hid (OwnRow (k41.K w) 41 4 wr (w.heap.size + 1) v xs) ∧ Hid (Below w.heap.size w wr))
  case atStart => exact ⟨0, .slice none 0 0, [], Nat.zero_le _, Nat.le_refl _, rfl, Nat.le_refl _, Lib.hid (blk_new _ _), Lib.hid (by simp), Lib.hid (OwnRow.none_ _ _ _ _ _), Lib.hid (below_alloc (Below.refl _ _) _)⟩
  case round =>
    obtain ⟨i, v, xs, hi, hik, rfl, hxl, HE, HL, HO, HB⟩ := hrel
    obtain ⟨V0, hV⟩ : ∃ V, V = wr := ⟨_, rfl⟩
    subst hV
    obtain ⟨Ao, co, hs, hco, _⟩ := OwnRow.reads HO.out
    subst hs
    have hbx : V0.cell? ⟨w.heap.size, 0, none⟩ = some (.slice Ao xs.length co) := (blk_cell HE.out 0).trans rfl
    by_cases hcond : i < terms.length ∧ i < 4
    · obtain ⟨hlt, h4⟩ := hcond
      obtain ⟨ad, hA, i0, i1, i2, i3⟩ := at_T41 HC.out (i : Int) (by omega) (by omega)
      subst hA
      simp only [Int.toNat_natCast] at i0 i1 i2 i3
      generalize rd_T41 terms (i : Int) = a at i0 i1 i2 i3
      have HLT := Lib.hid (World.block_lt_of_cell? w _ i0)
      have i0 := pw_cell_below HB.out i0
      have i1 := pw_cell_below HB.out i1
      have i2 := pw_cell_below HB.out i2
      have i3 := pw_cell_below HB.out i3
      go_wp2
      go_region_law
        (first | (refine goes_ Tryd.func33 (by kernel_rfl) rfl #[.agg #[.int .i64 a.f0, .int .i64 a.f1, .int .i64 a.f2, .int .i64 a.f3]] (by rfl) rfl rfl (by (try simp only [List.map_toArray, List.map_cons, List.map_nil]); first | done | rfl | (go_simp; rfl)) ?_; (refine (good_c a _).mono ?_; rintro e w5 ⟨g, rfl, hg, hd⟩; refine ⟨_, rfl, ?_⟩; have HB5 := Lib.hid (below_step (show Below V0.heap.size V0 _ by repeat (first | exact Below.refl _ _ | apply below_alloc | apply below_drew1)) hd); have HG := Lib.hid hg; have k0 := pw_cell_below HB5.out hbx; have k0a := pw_cell_below (below_alloc (Below.refl w5.heap.size w5) (.cells #[.int .i64 g.f0, .int .i64 g.f1, .int .i64 g.f2, .int .i64 g.f3] 41)) k0; have k1 := pw_cell_below HB5.out i0; have k2 := pw_cell_below HB5.out i1; have k3 := pw_cell_below HB5.out i2; have k4 := pw_cell_below HB5.out i3; clear hd hg)) | ((refine OwnRow.append_step (w0 := w5) (w.heap.size + 1) (by rfl) _ _ 38 41 (.agg #[.int .i64 0, .int .i64 0, .int .i64 0, .int .i64 0]) 4 32 (by rfl) Tryd.underlying38 inf41 rfl (by decide) (by decide) (.slice Ao xs.length co) xs g [.int .i64 g.f0, .int .i64 g.f1, .int .i64 g.f2, .int .i64 g.f3] (by rfl) (by first | rfl | (simp only [World.size_alloc]; rfl)) (k41_mk w g) rfl (by simp [Value.oneCell']) (OwnRow.below HO.out (by repeat (first | exact HB5.out | exact Below.refl _ _ | apply below_alloc | apply below_drew1))) (by repeat (first | exact Below.refl _ _ | apply below_alloc | apply below_drew1)) (Nat.le_trans (blk_lt HE.out) (below_size (below_step HB5.out (by repeat (first | exact Below.refl _ _ | apply below_alloc | apply below_drew1))))) (by omega) ?_; intro v4 w4 hO4 hB4 _ _; obtain ⟨A4, c4, rfl, hc4, _⟩ := OwnRow.reads hO4; have q0 := (hB4.cell (show w.heap.size < w.heap.size + 1 by omega)).trans k0; have q1 := (hB4.cell (p := ad.add (i * 4)) (by have := HLT.out; omega)).trans k1; have q2 := (hB4.cell (p := ⟨(ad.add (i * 4)).block, (ad.add (i * 4)).off + 1, none⟩) (by have := HLT.out; show (ad.add (i * 4)).block < _; omega)).trans k2; have q3 := (hB4.cell (p := ⟨(ad.add (i * 4)).block, (ad.add (i * 4)).off + 2, none⟩) (by have := HLT.out; show (ad.add (i * 4)).block < _; omega)).trans k3; have q4 := (hB4.cell (p := ⟨(ad.add (i * 4)).block, (ad.add (i * 4)).off + 3, none⟩) (by have := HLT.out; show (ad.add (i * 4)).block < _; omega)).trans k4; have HJ := Lib.hid (below_join (below_step HB.out HB5.out) hB4 (by omega)); have hbk := (hB4.block w.heap.size (by omega)).trans (blk_below HE.out HB5.out); have hs := (blk_cell hbk 0).trans rfl; have hf := blk_frozen hbk 0; have HBK := Lib.hid hbk; clear hbk; have HO4 := Lib.hid hO4; have HB4 := Lib.hid hB4; clear hO4 hB4)))
      all_goals go_wp2
      all_goals go_roundg (4 - (i + 1))
      all_goals first
        | omega
        | exact ⟨i + 1, _, xs ++ [g], h4, Nat.le_refl _, by go_num, by rw [List.length_append, List.length_singleton]; omega, Lib.hid (blk_put HBK.out 0 _ rfl), Lib.hid (fun b hb => by rcases List.mem_append.1 hb with hb | hb; exact HL.out b hb; rw [List.mem_singleton.1 hb]; exact HG.out), Lib.hid (own_far_set (by have := HO4.out; rw [List.length_append, List.length_singleton] at this; exact this) w.heap.size 0 _ (by omega)), Lib.hid (below_set HJ.out (Nat.le_refl _))⟩
    · have hbx1 : V0.cell? ⟨w.heap.size, 1, none⟩ = some (.slice none 0 0) := (blk_cell HE.out 1).trans rfl
      have hbx2 : V0.cell? ⟨w.heap.size, 2, none⟩ = some (.slice none 0 0) := (blk_cell HE.out 2).trans rfl
      obtain ⟨A', c', he', _, hRo⟩ := OwnRow.reads HO.out
      injection he' with hA' _ hc'
      subst hA' hc'
      have HR := Lib.hid (C41_of hRo)
      have hn4 : xs.length ≤ 4 := by omega
      clear hRo
      have hor : ¬ i < terms.length ∨ (i < terms.length ∧ ¬ i < 4) := by omega
      rcases hor with hor | ⟨hor1, hor2⟩
      all_goals
        go_wp2_with (go_at_call 65; refine (first_c xs Ao co (.slice none 0 0) (.slice none 0 0) _ HR.out hco hn4).mono ?_; rintro e w1 ⟨v, rfl, ls, hls, hl4, w2, hb1, hb2, hO⟩; obtain ⟨A1, c1, rfl, hc1, hR1⟩ := OwnRow.reads hO; have HC1 := Lib.hid (C50_of hR1 hb2); have HB1 := Lib.hid (below_step HB.out (below_step hb1 hb2)); have HT1 := Lib.hid (tree_first ls (by omega) (fun a ha => HL.out a (hls.1 a ha))); have hfl := firstT_len ls; have HFi1 := Lib.hid (fine_first ls (by omega)); generalize firstT ls = t0 at HC1 HT1 hc1 hfl HFi1; clear hb1 hb2 hO hR1 hls)
        go_loopg [7, 8] 14 (fun k s7 s8 wr => ∃ (i : Nat) (t : List S50) (Ag : Option Addr) (cg : Nat), i ≤ 14 ∧ 14 - i ≤ k ∧ s8 = .int .i64 i ∧ s7 = .slice Ag t.length cg ∧ t.length ≤ cg ∧ t.length ≤ 5 + i ∧ Hid (Tree t) ∧ Hid (Fine t) ∧ Hid (Kd.C k50 wr Ag t.length t) ∧ Hid (Below w.heap.size w wr))
        case atStart => exact ⟨0, t0, A1, c1, Nat.zero_le _, Nat.le_refl _, rfl, by rw [hfl], hc1, by omega, HT1, HFi1, HC1, HB1⟩
        case round =>
          obtain ⟨i, t, Ag, cg, hi, hik, rfl, rfl, hcg, htl, HT, HFi, HCt, HB⟩ := hrel
          obtain ⟨V1, hV⟩ : ∃ V, V = wr := ⟨_, rfl⟩
          subst hV
          by_cases hcond : i < makes.length ∧ i < 14
          · obtain ⟨hlt, h14⟩ := hcond
            obtain ⟨ad, cs, hA, hK, hld⟩ := row_load z80 HD.out HB.out i hlt
            subst hA
            obtain ⟨A0, c0, A6, c6, A11, c11, rfl, l0, g0, l6, g6, l11, g11⟩ := k80_open hK
            have r80 := rd80_of (show (loadCellsFrom (ad.add (i * 16)) 0 16 #[]).run Tryd.prog V1 = .ok _ V1 from hld)
            clear hK hld
            generalize makes[i]'hlt = m at l0 g0 l6 g6 l11 g11 r80
            obtain ⟨ns, hok, hfn, hof⟩ := of_c2 m.f0 g0.2.1
            have HFN := Lib.hid hfn
            clear hfn
            have HG0 := Lib.hid g0
            have HG6 := Lib.hid g6
            have HG11 := Lib.hid g11
            have HOF := Lib.hid hof
            have HOK := Lib.hid hok
            clear g0 g6 g11 hof hok
            have EM0 := Lib.hid (blk_new V1 (.cells #[.slice A0 m.f0.length c0, .bool m.f1, .int .i64 m.f2.f0, .int .i64 m.f2.f1, .int .i64 m.f2.f2, .int .i64 m.f2.f3, .slice A6 m.f3.length c6, .int .i64 m.f4.f0, .int .i64 m.f4.f1, .int .i64 m.f4.f2, .int .i64 m.f4.f3, .slice A11 m.f5.length c11, .int .i64 m.f6.f0, .int .i64 m.f6.f1, .int .i64 m.f6.f2, .int .i64 m.f6.f3] 80))
            have HV0 := Lib.hid (below_alloc (Below.refl V1.heap.size V1) (.cells #[.slice A0 m.f0.length c0, .bool m.f1, .int .i64 m.f2.f0, .int .i64 m.f2.f1, .int .i64 m.f2.f2, .int .i64 m.f2.f3, .slice A6 m.f3.length c6, .int .i64 m.f4.f0, .int .i64 m.f4.f1, .int .i64 m.f4.f2, .int .i64 m.f4.f3, .slice A11 m.f5.length c11, .int .i64 m.f6.f0, .int .i64 m.f6.f1, .int .i64 m.f6.f2, .int .i64 m.f6.f3] 80))
            by_cases hroot : ns = []
            · subst hroot
              have hp := root_eq
              generalize pth [] = p at HOF hp
              go_wp2_with (go_at_call 25; refine (HOF.out A0 c0 _ (Kd.C_below HG0.out HV0.out) l0).mono ?_; rintro e w1 ⟨rfl, hb⟩; have HV1 := Lib.hid (below_step HV0.out hb); clear hb)
              go_roundg (14 - (i + 1))
              case measure => omega
              case rel => exact ⟨i + 1, t, Ag, cg, h14, Nat.le_refl _, by go_num, rfl, hcg, by omega, HT, HFi, Lib.hid (Kd.C_below HCt.out HV1.out), Lib.hid (below_step HB.out HV1.out)⟩
            · have hp := eq_root ns HOK.out.1 hroot
              have HPar := Lib.hid (rparent_f ns HOK.out.1 hroot HOK.out.2 1100 (by omega))
              have HF1 := Lib.hid fun w1 (hb : Below V1.heap.size V1 w1) n b hn hb2 => find_t HT.out (pth ns.dropLast) Ag cg w1 (Kd.C_below HCt.out hb) hcg n b hn hb2
              have HF2 := Lib.hid fun w1 (hb : Below V1.heap.size V1 w1) n b hn hb2 => find_t HT.out (pth ns) Ag cg w1 (Kd.C_below HCt.out hb) hcg n b hn hb2
              obtain ⟨dn, hdn0⟩ : ∃ n, nodeN t (pth ns.dropLast) = n := ⟨_, rfl⟩
              obtain ⟨b1, hb10⟩ : ∃ b, isN t (pth ns.dropLast) = b := ⟨_, rfl⟩
              obtain ⟨hn, hhn0⟩ : ∃ n, nodeN t (pth ns) = n := ⟨_, rfl⟩
              obtain ⟨b3, hb30⟩ : ∃ b, isN t (pth ns) = b := ⟨_, rfl⟩
              have Hdn := Lib.hid hdn0
              have Hb1 := Lib.hid hb10
              have Hhn := Lib.hid hhn0
              have Hb3 := Lib.hid hb30
              clear hdn0 hb10 hhn0 hb30
              generalize hpp0 : pth ns = p at HOF hp HPar HF2 Hhn Hb3 HFN
              generalize hpq0 : pth ns.dropLast = par at HPar HF1 Hdn Hb1
              have HPP := Lib.hid hpp0
              have HPQ := Lib.hid hpq0
              clear hpp0 hpq0
              obtain ⟨b2, hb20⟩ : ∃ b, dn.f1 = b := ⟨_, rfl⟩
              by_cases hmain : b1 = true ∧ b2 = true ∧ b3 = false
              · obtain ⟨rfl, rfl, rfl⟩ := hmain
                go_wp2_with (first | (go_at_call 25; refine (HOF.out A0 c0 _ (Kd.C_below HG0.out HV0.out) l0).mono ?_; rintro e w1 ⟨rfl, hb⟩; have HV1 := Lib.hid (below_step HV0.out hb); have EM1 := Lib.hid (blk_below EM0.out hb); clear hb) | (go_at_call 39; refine (donjonref7_Parent.calls 1100 p par _ HPar.out).mono ?_; rintro e w2 ⟨rfl, hb⟩; have HV2 := Lib.hid (below_step HV1.out hb.below); have EM2 := Lib.hid (blk_below EM1.out hb.below); clear hb) | (go_at_call 40; have hg := HV3.out; clear hg; refine (HF2.out _ (below_alloc HV3.out _) hn _ Hhn.out Hb3.out).mono ?_; rintro e w4 ⟨X6, x6, X11, x11, rfl, hb⟩; have ED := blk_below (blk_new w3 _) hb; have e1 := pw_cell_below (below_alloc (Below.refl w4.heap.size w4) (.cells #[.string hn.f0, .bool hn.f1, .int .i64 hn.f2.f0, .int .i64 hn.f2.f1, .int .i64 hn.f2.f2, .int .i64 hn.f2.f3, .slice X6 hn.f3.length x6, .int .i64 hn.f4.f0, .int .i64 hn.f4.f1, .int .i64 hn.f4.f2, .int .i64 hn.f4.f3, .slice X11 hn.f5.length x11, .int .i64 hn.f6.f0, .int .i64 hn.f6.f1, .int .i64 hn.f6.f2, .int .i64 hn.f6.f3] 50)) ((blk_cell ED 1).trans rfl); have HV5 := Lib.hid (below_alloc (below_step (below_alloc HV3.out _) hb) (.cells #[.string hn.f0, .bool hn.f1, .int .i64 hn.f2.f0, .int .i64 hn.f2.f1, .int .i64 hn.f2.f2, .int .i64 hn.f2.f3, .slice X6 hn.f3.length x6, .int .i64 hn.f4.f0, .int .i64 hn.f4.f1, .int .i64 hn.f4.f2, .int .i64 hn.f4.f3, .slice X11 hn.f5.length x11, .int .i64 hn.f6.f0, .int .i64 hn.f6.f1, .int .i64 hn.f6.f2, .int .i64 hn.f6.f3] 50)); have EM5 := Lib.hid (blk_alloc (blk_below (blk_alloc EM3.out _) hb) (.cells #[.string hn.f0, .bool hn.f1, .int .i64 hn.f2.f0, .int .i64 hn.f2.f1, .int .i64 hn.f2.f2, .int .i64 hn.f2.f3, .slice X6 hn.f3.length x6, .int .i64 hn.f4.f0, .int .i64 hn.f4.f1, .int .i64 hn.f4.f2, .int .i64 hn.f4.f3, .slice X11 hn.f5.length x11, .int .i64 hn.f6.f0, .int .i64 hn.f6.f1, .int .i64 hn.f6.f2, .int .i64 hn.f6.f3] 50)); have ED5 := Lib.hid (blk_alloc ED (.cells #[.string hn.f0, .bool hn.f1, .int .i64 hn.f2.f0, .int .i64 hn.f2.f1, .int .i64 hn.f2.f2, .int .i64 hn.f2.f3, .slice X6 hn.f3.length x6, .int .i64 hn.f4.f0, .int .i64 hn.f4.f1, .int .i64 hn.f4.f2, .int .i64 hn.f4.f3, .slice X11 hn.f5.length x11, .int .i64 hn.f6.f0, .int .i64 hn.f6.f1, .int .i64 hn.f6.f2, .int .i64 hn.f6.f3] 50)); clear hb ED) | (go_at_call 40; refine (HF1.out _ HV2.out dn _ Hdn.out Hb1.out).mono ?_; rintro e w3 ⟨D6, d6, D11, d11, rfl, hb⟩; have HV3 := Lib.hid (below_step HV2.out hb); have EM3 := Lib.hid (blk_below EM2.out hb); clear hb))
                refine r16 m dn p V1.heap.size w3.heap.size A0 A6 A11 D6 D11 c0 c6 c11 d6 d11 _ _ _ _ _ _ _ _ _ _ _ _ _ _ _ _ _ _ _ _ _ _ _ _ _ _ _ _ _ _ _ _ _ _ _ _ _ _ _ _ _ _ _ _ _ _ _ _ _ _ _ _ _ _ _ _ _ _ _ _ _ _ _ _ _ _ _ _ _ _ _ _ _ _ _ _ _ _ _ _ _ _ _ _ _ _ _ _ _ _ _ _ _ _ _ _ _ _ _ _ _ _ _ _ _ _ _ _ _ _ _ _ _ _ _ _ _ _ _ _ _ _ _ _ _ _ _ _ _ _ EM5.out (by have h := ED5.out; rw [hb20]; exact h) (Kd.C_below HG6.out HV5.out) l6 ?_
                generalize w4.alloc (.cells #[.string hn.f0, .bool hn.f1, .int .i64 hn.f2.f0, .int .i64 hn.f2.f1, .int .i64 hn.f2.f2, .int .i64 hn.f2.f3, .slice X6 hn.f3.length x6, .int .i64 hn.f4.f0, .int .i64 hn.f4.f1, .int .i64 hn.f4.f2, .int .i64 hn.f4.f3, .slice X11 hn.f5.length x11, .int .i64 hn.f6.f0, .int .i64 hn.f6.f1, .int .i64 hn.f6.f2, .int .i64 hn.f6.f3] 50) = W5 at HV5 EM5 ED5 ⊢
                intro g w6 xs A8 c8 b t81 t82 t83 t84 t85 t86 t87 t88 t89 t90 t91 t92 hEN hgs hGA hxl hOx hLb hB
                have EN6 := Lib.hid hEN
                have EM6 := Lib.hid (blk_below EM5.out hB)
                have ED6 := Lib.hid (blk_below ED5.out hB)
                have HV6 := Lib.hid (below_step HV5.out hB)
                have HGA := Lib.hid hGA
                have HOx := Lib.hid hOx
                have HLb := Lib.hid hLb
                have hgm := blk_lt EM5.out
                have hgd := blk_lt ED5.out
                have hm1 := (blk_cell EM6.out 1).trans rfl
                clear hEN hGA hOx hLb hB e1
                obtain ⟨bm, hbm⟩ : ∃ b, m.f1 = b := ⟨_, rfl⟩
                cases bm
                · have hgV : V1.heap.size ≤ g := Nat.le_trans (Nat.le_of_lt hgm) hgs
                  have kr0 := (blk_cell EM6.out 7).trans rfl
                  have kr1 := (blk_cell EM6.out 8).trans rfl
                  have kr2 := (blk_cell EM6.out 9).trans rfl
                  have kr3 := (blk_cell EM6.out 10).trans rfl
                  go_wp2_with (go_at_call 67; refine (ring_c m.f4.f0 m.f4.f1 m.f4.f2 m.f4.f3 _).mono ?_; rintro e w7 ⟨r0, r1, r2, r3, rfl, hr, hd⟩; have HRr := Lib.hid hr; have HV7 := Lib.hid (below_step HV6.out hd); have EN7 := Lib.hid (blk_below EN6.out hd); have EM7 := Lib.hid (blk_below EM6.out hd); have HOx7 := Lib.hid (OwnRow.below HOx.out hd); have hs0 := (blk_cell EN7.out 7).trans rfl; have hf0 := blk_frozen EN7.out 7; have hs1 := (blk_cell EN7.out 8).trans rfl; have hf1 := blk_frozen EN7.out 8; have hs2 := (blk_cell EN7.out 9).trans rfl; have hf2 := blk_frozen EN7.out 9; have hs3 := (blk_cell EN7.out 10).trans rfl; have hf3 := blk_frozen EN7.out 10; clear hr hd)
                  have EN8 : ((((w7.setCell ⟨g, 7, none⟩ (.int .i64 r0)).setCell ⟨g, 8, none⟩ (.int .i64 r1)).setCell ⟨g, 9, none⟩ (.int .i64 r2)).setCell ⟨g, 10, none⟩ (.int .i64 r3)).heap[g]? = some (.cells #[.string p, .bool false, .int .i64 dn.f2.f0, .int .i64 dn.f2.f1, .int .i64 dn.f2.f2, .int .i64 dn.f2.f3, .slice A8 xs.length c8, .int .i64 r0, .int .i64 r1, .int .i64 r2, .int .i64 r3, .slice none 0 0, .int .i64 b.f0, .int .i64 b.f1, .int .i64 b.f2, .int .i64 b.f3] 50 (0, 0)) := by
                    refine blk_put (blk_put (blk_put (blk_put EN7.out 7 _ rfl) 8 _ rfl) 9 _ rfl) 10 _ ?_
                    rw [hbm]
                    rfl
                  have B1 := blk_put EN7.out 7 (.int .i64 r0) rfl
                  have B2 := blk_put B1 8 (.int .i64 r1) rfl
                  have B3 := blk_put B2 9 (.int .i64 r2) rfl
                  have HOx8 := Lib.hid (OwnRow.set_ (OwnRow.set_ (OwnRow.set_ (OwnRow.set_ HOx7.out EN7.out (by decide) 7 (.int .i64 r0)) B1 (by decide) 8 (.int .i64 r1)) B2 (by decide) 9 (.int .i64 r2)) B3 (by decide) 10 (.int .i64 r3))
                  have HV8 := Lib.hid (show Below V1.heap.size V1 ((((w7.setCell ⟨g, 7, none⟩ (.int .i64 r0)).setCell ⟨g, 8, none⟩ (.int .i64 r1)).setCell ⟨g, 9, none⟩ (.int .i64 r2)).setCell ⟨g, 10, none⟩ (.int .i64 r3)) from below_set (below_set (below_set (below_set HV7.out hgV) hgV) hgV) hgV)
                  have hneM : V1.heap.size ≠ g := by omega
                  have EM8 := Lib.hid (show ((((w7.setCell ⟨g, 7, none⟩ (.int .i64 r0)).setCell ⟨g, 8, none⟩ (.int .i64 r1)).setCell ⟨g, 9, none⟩ (.int .i64 r2)).setCell ⟨g, 10, none⟩ (.int .i64 r3)).heap[V1.heap.size]? = _ from blk_far (blk_far (blk_far (blk_far EM7.out (p := ⟨g, 7, none⟩) hneM _) (p := ⟨g, 8, none⟩) hneM _) (p := ⟨g, 9, none⟩) hneM _) (p := ⟨g, 10, none⟩) hneM _)
                  clear B1 B2 B3 hs0 hs1 hs2 hs3 hf0 hf1 hf2 hf3
                  generalize ((((w7.setCell ⟨g, 7, none⟩ (.int .i64 r0)).setCell ⟨g, 8, none⟩ (.int .i64 r1)).setCell ⟨g, 9, none⟩ (.int .i64 r2)).setCell ⟨g, 10, none⟩ (.int .i64 r3)) = W8 at EN8 HOx8 HV8 EM8 ⊢
                  have hgW := blk_lt EN8
                  have HEN8 := Lib.hid EN8
                  clear EN8
                  go_loopg [16] 16 (fun k s16 wr => ∃ (kk : Nat) (ws : List Int) (v : Value), kk ≤ 16 ∧ 16 - kk ≤ k ∧ s16 = .int .i64 kk ∧ ws.length ≤ kk ∧ Hid (wr.heap[g]? = some (.cells #[.string p, .bool false, .int .i64 dn.f2.f0, .int .i64 dn.f2.f1, .int .i64 dn.f2.f2, .int .i64 dn.f2.f3, .slice A8 xs.length c8, .int .i64 r0, .int .i64 r1, .int .i64 r2, .int .i64 r3, v, .int .i64 b.f0, .int .i64 b.f1, .int .i64 b.f2, .int .i64 b.f3] 50 (0, 0))) ∧ Hid (OwnRow ((Kd.int .i64).K w) 2 1 wr W8.heap.size v ws) ∧ Hid (Below g W8 wr) ∧ Hid (∀ k, k < W8.heap.size → k ≠ g → wr.heap[k]? = W8.heap[k]?))
                  case atStart => exact ⟨0, [], .slice none 0 0, Nat.zero_le _, Nat.le_refl _, rfl, Nat.le_refl _, HEN8, Lib.hid (OwnRow.none_ _ _ _ _ _), Lib.hid (Below.refl _ _), Lib.hid (fun _ _ _ => rfl)⟩
                  case round =>
                    obtain ⟨kk, ws, v, hkk, hkk2, rfl, hwl, HEN, HOw, HBg, HKp⟩ := hrel
                    obtain ⟨Aw, cw, hs, hcw, _⟩ := OwnRow.reads HOw.out
                    subst hs
                    have EMr := (HBg.out.block V1.heap.size (by omega)).trans EM8.out
                    have hm11 := (blk_cell EMr 11).trans rfl
                    have hn11 := (blk_cell HEN.out 11).trans rfl
                    clear EMr
                    by_cases hcond : kk < m.f5.length ∧ kk < 16
                    · obtain ⟨hkl, hk16⟩ := hcond
                      obtain ⟨aw, cs1, hA1, _, hK1, hc1x⟩ := ReadsRow.get_ (Kd.C_below HG11.out (below_join HV8.out HBg.out hgV)) (0 : Int) (kk : Int) (by omega) (by omega)
                      subst hA1
                      have hcs1 : cs1 = [.int .i64 (m.f5.getD (kk : Int).toNat 0)] := hK1
                      subst hcs1
                      have he1 := hc1x 0 _ rfl
                      rw [Int.toNat_natCast, Nat.add_zero, show kk * (Kd.int .i64).sz = kk from Nat.mul_one kk] at he1
                      clear hK1 hc1x
                      generalize m.f5.getD kk 0 = ev at he1
                      have hn11a := pw_cell_below (below_alloc (Below.refl wr.heap.size wr) (.cells #[.int .i64 ev] 2)) hn11
                      go_wp2
                      refine wp_region_noPanic ?_
                      go_region_law
                        ((refine OwnRow.append_step (w0 := wr) (W := wr.drew) W8.heap.size (by rfl) _ _ 48 2 (.int .i64 0) 1 8 (by rfl) Tryd.underlying48 info2 rfl (by decide) (by decide) (.slice Aw ws.length cw) ws ev [.int .i64 ev] (by rfl) (by first | rfl | (simp only [World.size_alloc]; rfl)) rfl rfl (by simp [Value.oneCell']) (OwnRow.below HOw.out (by repeat (first | exact Below.refl _ _ | apply below_alloc | apply below_drew1))) (by repeat (first | exact Below.refl _ _ | apply below_alloc | apply below_drew1)) (Nat.le_trans HBg.out.size (below_size (show Below wr.heap.size wr _ by repeat (first | exact Below.refl _ _ | apply below_alloc | apply below_drew1)))) (by omega) ?_; intro v4 w4 hO4 hB4 _ _; obtain ⟨A4, c4, rfl, hc4, _⟩ := OwnRow.reads hO4; have hbk := (hB4.block g hgW).trans HEN.out; have hs := (blk_cell hbk 11).trans rfl; have hf := blk_frozen hbk 11; have HBK := Lib.hid hbk; have HO4 := Lib.hid hO4; have HB4 := Lib.hid hB4; clear hbk hO4 hB4))
                      all_goals refine NoPanic.normal ?_
                      all_goals go_wp2
                      all_goals go_roundg (16 - (kk + 1))
                      all_goals first
                        | omega
                        | exact ⟨kk + 1, ws ++ [ev], _, hk16, Nat.le_refl _, by go_num, by rw [List.length_append, List.length_singleton]; omega, Lib.hid (blk_put HBK.out 11 _ rfl), Lib.hid (own_far_set (by have := HO4.out; rw [List.length_append, List.length_singleton] at this; exact this) g 11 _ hgW), Lib.hid (below_put (below_join HBg.out HB4.out (Nat.le_of_lt hgW)) (Nat.le_refl _)), Lib.hid (fun k hk hkg => (Below.heap_setCell w4 ⟨g, 11, none⟩ _ k hkg).trans ((HB4.out.block k hk).trans (HKp.out k hk hkg)))⟩
                    · have hor : ¬ kk < m.f5.length ∨ (kk < m.f5.length ∧ ¬ kk < 16) := by omega
                      have HVr := Lib.hid (below_join HV8.out HBg.out hgV)
                      have HOxr := Lib.hid (own_keep HOx8.out HEN8.out HKp.out)
                      obtain ⟨Aw', cw', ew', _, hRw⟩ := OwnRow.reads HOw.out
                      injection ew' with ew1 _ ew3
                      subst ew1 ew3
                      have HRw := Lib.hid (show (Kd.int .i64).C wr Aw ws.length ws from hRw)
                      clear hRw
                      have r9 := rd50_blk HEN.out rfl
                      have HPT := Lib.hid (seg_put HT.out (by omega) HOK.out hroot HPP.out HPQ.out Hdn.out Hb1.out hb20 Hb3.out HLb.out HGA.out (r := ⟨r0, r1, r2, r3⟩) HRr.out (ws := ws) (by omega))
                      have HPUT := Lib.hid (put_c t ⟨p, false, dn.f2, xs, ⟨r0, r1, r2, r3⟩, ws, b⟩ [.string p, .bool false, .int .i64 dn.f2.f0, .int .i64 dn.f2.f1, .int .i64 dn.f2.f2, .int .i64 dn.f2.f3, .slice A8 xs.length c8, .int .i64 r0, .int .i64 r1, .int .i64 r2, .int .i64 r3, .slice Aw ws.length cw, .int .i64 b.f0, .int .i64 b.f1, .int .i64 b.f2, .int .i64 b.f3] Ag cg wr wr (Kd.C_below HCt.out HVr.out) (Below.refl _ _) hcg (by omega) (k50_mk wr ⟨p, false, dn.f2, xs, ⟨r0, r1, r2, r3⟩, ws, b⟩ hxl (C96_own HOxr.out) hcw HRw.out))
                      have HFi2 := Lib.hid (fine_put (n := ⟨p, false, dn.f2, xs, ⟨r0, r1, r2, r3⟩, ws, b⟩) HFi.out HFN.out)
                      generalize putN t ⟨p, false, dn.f2, xs, ⟨r0, r1, r2, r3⟩, ws, b⟩ = t2 at HPT HPUT HFi2
                      rcases hor with hor | ⟨hor1, hor2⟩
                      all_goals
                        go_wp2_with (go_at_call 47; refine HPUT.out.mono ?_; rintro e w10 ⟨v, rfl, hO, hb⟩; obtain ⟨A2, c2, rfl, hc2, hR2⟩ := OwnRow.reads hO; have HC2 := Lib.hid (C50_of hR2 hb); have HV10 := Lib.hid (below_step HVr.out hb); clear hO hb hR2)
                        go_roundg (14 - (i + 1))
                        case measure => omega
                        case rel => exact ⟨i + 1, t2, A2, c2, h14, Nat.le_refl _, by go_num, rfl, hc2, by have := HPT.out.2; omega, Lib.hid HPT.out.1, HFi2, HC2, Lib.hid (below_step HB.out HV10.out)⟩
                · have hneM : V1.heap.size ≠ g := by omega
                  have hneD : w3.heap.size ≠ g := by omega
                  have kgm2 := (blk_cell EM6.out 2).trans rfl
                  have kgm3 := (blk_cell EM6.out 3).trans rfl
                  have kgm4 := (blk_cell EM6.out 4).trans rfl
                  have kgm5 := (blk_cell EM6.out 5).trans rfl
                  have kgd2 := (blk_cell ED6.out 2).trans rfl
                  have kgd3 := (blk_cell ED6.out 3).trans rfl
                  have kgd4 := (blk_cell ED6.out 4).trans rfl
                  have kgd5 := (blk_cell ED6.out 5).trans rfl
                  go_wp2
                  refine wp_region_noPanic ?_
                  go_region_held_law (fun W1 => W1.cell? ⟨V1.heap.size, 2, none⟩ = some (.int .i64 m.f2.f0) ∧ W1.cell? ⟨V1.heap.size, 3, none⟩ = some (.int .i64 m.f2.f1) ∧ W1.cell? ⟨V1.heap.size, 4, none⟩ = some (.int .i64 m.f2.f2) ∧ W1.cell? ⟨V1.heap.size, 5, none⟩ = some (.int .i64 m.f2.f3) ∧ W1.cell? ⟨w3.heap.size, 2, none⟩ = some (.int .i64 dn.f2.f0) ∧ W1.cell? ⟨w3.heap.size, 3, none⟩ = some (.int .i64 dn.f2.f1) ∧ W1.cell? ⟨w3.heap.size, 4, none⟩ = some (.int .i64 dn.f2.f2) ∧ W1.cell? ⟨w3.heap.size, 5, none⟩ = some (.int .i64 dn.f2.f3)) (first | go_keep | (exact ⟨(blk_cell (blk_far (blk_far (blk_far (blk_far EM8.out (p := ⟨g, 2, none⟩) hneM _) (p := ⟨g, 3, none⟩) hneM _) (p := ⟨g, 4, none⟩) hneM _) (p := ⟨g, 5, none⟩) hneM _) 2).trans rfl, (blk_cell (blk_far (blk_far (blk_far (blk_far EM8.out (p := ⟨g, 2, none⟩) hneM _) (p := ⟨g, 3, none⟩) hneM _) (p := ⟨g, 4, none⟩) hneM _) (p := ⟨g, 5, none⟩) hneM _) 3).trans rfl, (blk_cell (blk_far (blk_far (blk_far (blk_far EM8.out (p := ⟨g, 2, none⟩) hneM _) (p := ⟨g, 3, none⟩) hneM _) (p := ⟨g, 4, none⟩) hneM _) (p := ⟨g, 5, none⟩) hneM _) 4).trans rfl, (blk_cell (blk_far (blk_far (blk_far (blk_far EM8.out (p := ⟨g, 2, none⟩) hneM _) (p := ⟨g, 3, none⟩) hneM _) (p := ⟨g, 4, none⟩) hneM _) (p := ⟨g, 5, none⟩) hneM _) 5).trans rfl, (blk_cell (blk_far (blk_far (blk_far (blk_far ED8.out (p := ⟨g, 2, none⟩) hneD _) (p := ⟨g, 3, none⟩) hneD _) (p := ⟨g, 4, none⟩) hneD _) (p := ⟨g, 5, none⟩) hneD _) 2).trans rfl, (blk_cell (blk_far (blk_far (blk_far (blk_far ED8.out (p := ⟨g, 2, none⟩) hneD _) (p := ⟨g, 3, none⟩) hneD _) (p := ⟨g, 4, none⟩) hneD _) (p := ⟨g, 5, none⟩) hneD _) 3).trans rfl, (blk_cell (blk_far (blk_far (blk_far (blk_far ED8.out (p := ⟨g, 2, none⟩) hneD _) (p := ⟨g, 3, none⟩) hneD _) (p := ⟨g, 4, none⟩) hneD _) (p := ⟨g, 5, none⟩) hneD _) 4).trans rfl, (blk_cell (blk_far (blk_far (blk_far (blk_far ED8.out (p := ⟨g, 2, none⟩) hneD _) (p := ⟨g, 3, none⟩) hneD _) (p := ⟨g, 4, none⟩) hneD _) (p := ⟨g, 5, none⟩) hneD _) 5).trans rfl⟩))
                    (first | (go_at_call 41; (have hgate := HV7.out; clear hgate; refine (join_c dn.f2 q _).mono ?_; rintro e w8 ⟨rfl, hd⟩; have HV8 := Lib.hid (below_step HV7.out hd); have EN8 := Lib.hid (blk_below EN7.out hd); have EM8 := Lib.hid (blk_below EM7.out hd); have ED8 := Lib.hid (blk_below ED7.out hd); have HOx8 := Lib.hid (OwnRow.below HOx7.out hd); have kgm2 := (blk_cell EM8.out 2).trans rfl; have kgm3 := (blk_cell EM8.out 3).trans rfl; have kgm4 := (blk_cell EM8.out 4).trans rfl; have kgm5 := (blk_cell EM8.out 5).trans rfl; have kgd2 := (blk_cell ED8.out 2).trans rfl; have kgd3 := (blk_cell ED8.out 3).trans rfl; have kgd4 := (blk_cell ED8.out 4).trans rfl; have kgd5 := (blk_cell ED8.out 5).trans rfl; have hs0 := (blk_cell EN8.out 2).trans rfl; have hf0 := blk_frozen EN8.out 2; have hs1 := (blk_cell EN8.out 3).trans rfl; have hf1 := blk_frozen EN8.out 3; have hs2 := (blk_cell EN8.out 4).trans rfl; have hf2 := blk_frozen EN8.out 4; have hs3 := (blk_cell EN8.out 5).trans rfl; have hf3 := blk_frozen EN8.out 5; clear hd)) | (go_at_call 33; (refine (good_c m.f2 _).mono ?_; rintro e w7 ⟨q, rfl, hq, hd⟩; have HLq := Lib.hid hq; have HV7 := Lib.hid (below_step (below_drew1 HV6.out) hd); have EN7 := Lib.hid (blk_below (blk_drew EN6.out) hd); have EM7 := Lib.hid (blk_below (blk_drew EM6.out) hd); have ED7 := Lib.hid (blk_below (blk_drew ED6.out) hd); have HOx7 := Lib.hid (OwnRow.below (OwnRow.below HOx.out (below_drew1 (Below.refl _ _))) hd); have kgm2 := (blk_cell EM7.out 2).trans rfl; have kgm3 := (blk_cell EM7.out 3).trans rfl; have kgm4 := (blk_cell EM7.out 4).trans rfl; have kgm5 := (blk_cell EM7.out 5).trans rfl; have kgd2 := (blk_cell ED7.out 2).trans rfl; have kgd3 := (blk_cell ED7.out 3).trans rfl; have kgd4 := (blk_cell ED7.out 4).trans rfl; have kgd5 := (blk_cell ED7.out 5).trans rfl; clear hq hd)))
                  refine NoPanic.normal ?_
                  have EN9 : ((((w8.setCell ⟨g, 2, none⟩ (.int .i64 (joinS dn.f2 q).f0)).setCell ⟨g, 3, none⟩ (.int .i64 (joinS dn.f2 q).f1)).setCell ⟨g, 4, none⟩ (.int .i64 (joinS dn.f2 q).f2)).setCell ⟨g, 5, none⟩ (.int .i64 (joinS dn.f2 q).f3)).heap[g]? = some (.cells #[.string p, .bool true, .int .i64 (joinS dn.f2 q).f0, .int .i64 (joinS dn.f2 q).f1, .int .i64 (joinS dn.f2 q).f2, .int .i64 (joinS dn.f2 q).f3, .slice A8 xs.length c8, .int .i64 0, .int .i64 0, .int .i64 0, .int .i64 0, .slice none 0 0, .int .i64 b.f0, .int .i64 b.f1, .int .i64 b.f2, .int .i64 b.f3] 50 (0, 0)) := by
                    refine blk_put (blk_put (blk_put (blk_put EN8.out 2 _ rfl) 3 _ rfl) 4 _ rfl) 5 _ ?_
                    rw [hbm]
                    rfl
                  have B1 := blk_put EN8.out 2 (.int .i64 (joinS dn.f2 q).f0) rfl
                  have B2 := blk_put B1 3 (.int .i64 (joinS dn.f2 q).f1) rfl
                  have B3 := blk_put B2 4 (.int .i64 (joinS dn.f2 q).f2) rfl
                  have HOx9 := Lib.hid (OwnRow.set_ (OwnRow.set_ (OwnRow.set_ (OwnRow.set_ HOx8.out EN8.out (by decide) 2 (.int .i64 (joinS dn.f2 q).f0)) B1 (by decide) 3 (.int .i64 (joinS dn.f2 q).f1)) B2 (by decide) 4 (.int .i64 (joinS dn.f2 q).f2)) B3 (by decide) 5 (.int .i64 (joinS dn.f2 q).f3))
                  have hgV : V1.heap.size ≤ g := Nat.le_trans (Nat.le_of_lt hgm) hgs
                  have HV9 := Lib.hid (show Below V1.heap.size V1 ((((w8.setCell ⟨g, 2, none⟩ (.int .i64 (joinS dn.f2 q).f0)).setCell ⟨g, 3, none⟩ (.int .i64 (joinS dn.f2 q).f1)).setCell ⟨g, 4, none⟩ (.int .i64 (joinS dn.f2 q).f2)).setCell ⟨g, 5, none⟩ (.int .i64 (joinS dn.f2 q).f3)) from below_set (below_set (below_set (below_set HV8.out hgV) hgV) hgV) hgV)
                  clear B1 B2 B3
                  generalize ((((w8.setCell ⟨g, 2, none⟩ (.int .i64 (joinS dn.f2 q).f0)).setCell ⟨g, 3, none⟩ (.int .i64 (joinS dn.f2 q).f1)).setCell ⟨g, 4, none⟩ (.int .i64 (joinS dn.f2 q).f2)).setCell ⟨g, 5, none⟩ (.int .i64 (joinS dn.f2 q).f3)) = W9 at EN9 HOx9 HV9 ⊢
                  have r9 := rd50_blk EN9 rfl
                  have HPT := Lib.hid (dir_put HT.out (by omega) HOK.out hroot HPP.out HPQ.out Hdn.out Hb1.out hb20 Hb3.out HLq.out HLb.out HGA.out)
                  have HPUT := Lib.hid (put_c t ⟨p, true, joinS dn.f2 q, xs, z47, [], b⟩ [.string p, .bool true, .int .i64 (joinS dn.f2 q).f0, .int .i64 (joinS dn.f2 q).f1, .int .i64 (joinS dn.f2 q).f2, .int .i64 (joinS dn.f2 q).f3, .slice A8 xs.length c8, .int .i64 0, .int .i64 0, .int .i64 0, .int .i64 0, .slice none 0 0, .int .i64 b.f0, .int .i64 b.f1, .int .i64 b.f2, .int .i64 b.f3] Ag cg W9 W9 (Kd.C_below HCt.out HV9.out) (Below.refl _ _) hcg (by omega) (k50_mk W9 ⟨p, true, joinS dn.f2 q, xs, z47, [], b⟩ hxl (C96_own HOx9.out) (A11 := none) (c11 := 0) (Nat.le_refl _) (C_nil _ _ _)))
                  have HFi2 := Lib.hid (fine_put (n := ⟨p, true, joinS dn.f2 q, xs, z47, [], b⟩) HFi.out HFN.out)
                  generalize putN t ⟨p, true, joinS dn.f2 q, xs, z47, [], b⟩ = t2 at HPT HPUT HFi2
                  clear EN9
                  generalize joinS dn.f2 q = jq at HPUT r9 ⊢
                  go_wp2_with (go_at_call 47; refine HPUT.out.mono ?_; rintro e w10 ⟨v, rfl, hO, hb⟩; obtain ⟨A2, c2, rfl, hc2, hR2⟩ := OwnRow.reads hO; have HC2 := Lib.hid (C50_of hR2 hb); have HV10 := Lib.hid (below_step HV9.out hb); clear hO hb hR2)
                  go_roundg (14 - (i + 1))
                  case measure => omega
                  case rel => exact ⟨i + 1, t2, A2, c2, h14, Nat.le_refl _, by go_num, rfl, hc2, by have := HPT.out.2; omega, Lib.hid HPT.out.1, HFi2, HC2, Lib.hid (below_step HB.out HV10.out)⟩
              · have hor := three_way b1 b2 b3 hmain
                clear hmain
                rcases hor with rfl | ⟨rfl, rfl⟩ | ⟨rfl, rfl, rfl⟩
                all_goals
                  go_wp2_with (first | (go_at_call 25; refine (HOF.out A0 c0 _ (Kd.C_below HG0.out HV0.out) l0).mono ?_; rintro e w1 ⟨rfl, hb⟩; have HV1 := Lib.hid (below_step HV0.out hb); clear hb) | (go_at_call 39; refine (donjonref7_Parent.calls 1100 p par _ HPar.out).mono ?_; rintro e w2 ⟨rfl, hb⟩; have HV2 := Lib.hid (below_step HV1.out hb.below); clear hb) | (go_at_call 40; have hg := HV3.out; clear hg; refine (HF2.out _ (below_alloc HV3.out _) hn _ Hhn.out Hb3.out).mono ?_; rintro e w4 ⟨X6, x6, X11, x11, rfl, hb⟩; have ED := blk_below (blk_new w3 _) hb; have e1 := pw_cell_below (below_alloc (Below.refl w4.heap.size w4) (.cells #[.string hn.f0, .bool hn.f1, .int .i64 hn.f2.f0, .int .i64 hn.f2.f1, .int .i64 hn.f2.f2, .int .i64 hn.f2.f3, .slice X6 hn.f3.length x6, .int .i64 hn.f4.f0, .int .i64 hn.f4.f1, .int .i64 hn.f4.f2, .int .i64 hn.f4.f3, .slice X11 hn.f5.length x11, .int .i64 hn.f6.f0, .int .i64 hn.f6.f1, .int .i64 hn.f6.f2, .int .i64 hn.f6.f3] 50)) ((blk_cell ED 1).trans rfl); have HV4 := Lib.hid (below_step (below_alloc HV3.out _) hb); clear hb ED) | (go_at_call 40; refine (HF1.out _ HV2.out dn _ Hdn.out Hb1.out).mono ?_; rintro e w3 ⟨D6, d6, D11, d11, rfl, hb⟩; have HV3 := Lib.hid (below_step HV2.out hb); clear hb))
                  go_roundg (14 - (i + 1))
                  case measure => omega
                  case rel => exact ⟨i + 1, t, Ag, cg, h14, Nat.le_refl _, by go_num, rfl, hcg, by omega, HT, HFi, Lib.hid (Kd.C_below HCt.out (below_alloc HV4.out _)), Lib.hid (below_step HB.out (below_alloc HV4.out _))⟩
          · have hor : ¬ i < makes.length ∨ (i < makes.length ∧ ¬ i < 14) := by omega
            rcases hor with hor | ⟨hor1, hor2⟩
            all_goals go_wp2
            all_goals go_ret
            all_goals exact ⟨Ag, t, cg, rfl, HT.out, HFi.out, by omega, hcg, HCt.out, HB.out⟩
end Go.Proofs.YtmndeoncbocplaaDoor.C
end
