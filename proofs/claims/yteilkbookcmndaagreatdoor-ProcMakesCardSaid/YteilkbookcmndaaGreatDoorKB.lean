/- Texts that the claim's law stands on, cut down to what it reaches. -/
import Derived.Test.YteilkbookcmndaaGreatDoorKA2
import Derived.Deep.LoopGhost
import Derived.Test.YteilkbookcmndaaGreatDoorKQ
import Derived.Deep.RegionHeldLaw
set_option linter.unusedVariables false
set_option linter.unusedSimpArgs false
section
namespace Go.Proofs.YteilkbookcmndaaGreatDoor.C
open Go.RowKit Go.Proofs.YteilkbookcmndaaGreatDoor.Q Go.Proofs.YteilkbookcmndaaGreatDoorW.PrintWords Go.Proofs.YteilkbookcmndaaGreatDoorW.PrintLast Go.Proofs.YteilkbookcmndaaGreatDoorW.PrintMore
theorem wit_calls (a n : Int) (w : World) (h0 : 0 < n) (hn : n ≤ 4611686018427387904) : Calls Tryz.prog 66 #[.int .i64 a, .int .i64 n] w fun e w' => ∃ t : Int, 0 ≤ t ∧ t < n ∧ e = .returned (.int .i64 t) ∧ Drawn0 w w' := by
  obtain ⟨t, ht, h1, h2⟩ := P.within_f a n h0 hn
  exact (donjonlaw11_within.calls a n t w ht).mono fun _ _ ⟨he, hd⟩ => ⟨t, h1, h2, he, hd⟩
def Has (h : Int) : Prop := 0 ≤ h ∧ h ≤ 7
def HasAt (g : Nat) (W : World) : Prop := ∃ hs : List Int, hs.length = 5 ∧ (∀ h ∈ hs, Has h) ∧ W.heap[g]? = some (.cells (hs.map (Value.int .i64)).toArray 145 (0, 0))
theorem has_below {g : Nat} {W W1 : World} (h : HasAt g W) (hb : Below W.heap.size W W1) : HasAt g W1 := by
  obtain ⟨hs, h1, h2, h3⟩ := h
  exact ⟨hs, h1, h2, blk_below h3 hb⟩
theorem has_set {g : Nat} {W : World} (h : HasAt g W) (n : Nat) (t : Int) (hn : n < 5) (h0 : 0 ≤ t) (h7 : t < 7) : (∃ v : Int, W.cell? ⟨g, n, none⟩ = some (.int .i64 v)) ∧ W.frozen? ⟨g, n, none⟩ = false ∧ Hid (HasAt g (W.setCell ⟨g, n, none⟩ (.int .i64 (1 + t)))) := by
  obtain ⟨hs, h1, h2, h3⟩ := h
  refine ⟨⟨hs[n]'(by omega), ?_⟩, blk_frozen h3 n, Lib.hid ⟨hs.set n (1 + t), by rw [List.length_set]; exact h1, ?_, ?_⟩⟩
  · rw [blk_cell h3]
    simp [List.getElem?_eq_getElem (show n < hs.length by omega)]
  · intro x hx
    rcases List.mem_or_eq_of_mem_set hx with h | h
    · exact h2 x h
    · subst h; unfold Has; omega
  · refine blk_put h3 n _ ?_
    simp [List.map_set]
theorem has_get {g : Nat} {W : World} (h : HasAt g W) (n : Nat) (hn : n < 5) : ∃ v : Int, W.cell? ⟨g, n, none⟩ = some (.int .i64 v) ∧ 0 ≤ v ∧ v ≤ 7 := by
  obtain ⟨hs, h1, h2, h3⟩ := h
  refine ⟨hs[n]'(by omega), ?_, h2 _ (List.getElem_mem _)⟩
  rw [blk_cell h3]
  simp [List.getElem?_eq_getElem (show n < hs.length by omega)]
theorem good_nil : GoodAcl 0 [] := ⟨[], List.Pairwise.nil, by simp, rfl, by simp, by decide⟩
theorem good_skip {j : Nat} {xs : List S96} (h : GoodAcl j xs) : GoodAcl (j + 1) xs := by
  obtain ⟨ks, h1, h2, h3, h4, h5⟩ := h
  exact ⟨ks, h1, fun k hk => by have := h2 k hk; omega, h3, h4, h5⟩
theorem good_mono {j : Nat} {xs : List S96} (h : GoodAcl j xs) (hj : j ≤ 5) : GoodAcl 5 xs := by
  obtain ⟨ks, h1, h2, h3, h4, h5⟩ := h
  exact ⟨ks, h1, fun k hk => by have := h2 k hk; omega, h3, h4, h5⟩
theorem good_add {j : Nat} {xs : List S96} (h : GoodAcl j xs) (v : Int) (hv : 0 < v) (h7 : v ≤ 7) (hl : xs.length < 4) (p : ByteArray) (hp : p = nmA j) : GoodAcl (j + 1) (xs ++ [⟨p, v⟩]) := by
  obtain ⟨ks, h1, h2, h3, h4, h5⟩ := h
  subst hp
  refine ⟨ks ++ [j], ?_, ?_, ?_, ?_, ?_⟩
  · rw [List.pairwise_append]
    exact ⟨h1, List.pairwise_singleton _ _, fun a ha b hb => by rw [List.mem_singleton.1 hb]; exact h2 a ha⟩
  · intro k hk
    rcases List.mem_append.1 hk with hk | hk
    · have := h2 k hk; omega
    · rw [List.mem_singleton.1 hk]; omega
  · rw [List.map_append, List.map_append, h3]; rfl
  · intro x hx
    rcases List.mem_append.1 hx with hx | hx
    · exact h4 x hx
    · rw [List.mem_singleton.1 hx]; exact ⟨by show 1 ≤ v; omega, h7⟩
  · rw [List.length_append, List.length_singleton]; omega
theorem conv_one (W : World) (x : Int) (p : ByteArray) (hp : strOfNums [x] = p) : (convert 38 9 (.slice (some ⟨W.heap.size, 0, none⟩) 1 1)).run Tryz.prog (W.alloc (.cells #[.int .u8 x] 5)) = .ok (.string p) (W.alloc (.cells #[.int .u8 x] 5)) := by
  rw [← hp]
  refine run_convert_bytes_arg _ 38 5 Tryz.underlying38 Tryz.underlying5 W.heap.size 0 1 1 [x] rfl (fun i hi => ?_) 9 Tryz.underlying9
  have hi0 : i = 0 := by omega
  subst hi0
  exact (blk_cell (blk_new W (.cells #[.int .u8 x] 5)) 0).trans rfl
theorem nmA_num (j : Nat) (hj : ¬ j = 0) : strOfNums [97 + (j : Int) - 1] = nmA j := by
  unfold nmA
  rw [if_neg hj]
  have : (97 + (j : Int) - 1).toNat = 96 + j := by omega
  simp [strOfNums, this]
theorem inf96 : (Tryz.prog.info? 85).map (fun i => (i.zero, i.size, i.bytes)) = some (some (.agg #[.string (⟨#[]⟩ : ByteArray), .int .i64 0]), 2, 24) := by kernel_rfl
set_option maxHeartbeats 1000000 in
set_option maxRecDepth 100000 in
theorem acl_c (l : List S96) (A : Option Addr) (c : Nat) (w : World) (hC : Kd.C k96 w A l.length l) (hc : l.length ≤ c) :
    Calls Tryz.prog 44 #[.slice A l.length c] w fun e w' => ∃ v, e = .returned v ∧ ∃ xs, GoodAcl 5 xs ∧ OwnRow (k96.K w) 85 2 w' w.heap.size v xs ∧ Below w.heap.size w w' := by
  have HC := Lib.hid hC
  clear hC
  go_enter Tryz.func44, Tryz.ntmps44
  go_wp2
  go_loopg [4] 8 (fun k s4 wr => ∃ i : Nat, i ≤ 8 ∧ 8 - i ≤ k ∧ s4 = .int .i64 i ∧ Hid (HasAt w.heap.size wr) ∧ Hid (Below w.heap.size w wr))
  case atStart => exact ⟨0, Nat.zero_le _, Nat.le_refl _, rfl, Lib.hid ⟨[0, 0, 0, 0, 0], rfl, by simp [Has], blk_new _ _⟩, Lib.hid (below_alloc (Below.refl _ _) _)⟩
  case round =>
    obtain ⟨i, hi, hik, rfl, HH, HB⟩ := hrel
    by_cases hcond : i < l.length ∧ i < 8
    · obtain ⟨hlt, h8⟩ := hcond
      obtain ⟨ad, hA, _, h1⟩ := at_T96 (Kd.C_below HC.out HB.out) (i : Int) (by omega) (by omega)
      subst hA
      simp only [Int.toNat_natCast] at h1
      have HC1 := Lib.hid h1
      generalize (rd_T96 l (i : Int)).f1 = y at h1 HC1
      go_wp2_with (first | (go_at_call 66; have hgate := HH1.out; clear hgate; refine (wit_calls _ 7 _ (by omega) (by omega)).mono ?_; rintro e w2 ⟨t2, ht20, ht27, rfl, hd⟩; have HH2 := Lib.hid (has_below HH1.out hd.below); have HB2 := Lib.hid (below_step HB1.out hd.below); obtain ⟨tn, rfl⟩ := Int.eq_ofNat_of_zero_le ht0; obtain ⟨⟨v0, hv0⟩, hf, HS⟩ := has_set HH2.out tn t2 (by omega) ht20 ht27; clear hd) | (go_at_call 66; refine (wit_calls _ 5 _ (by omega) (by omega)).mono ?_; rintro e w1 ⟨t, ht0, ht5, rfl, hd⟩; have h1 := pw_cell_below hd.below HC1.out; have HH1 := Lib.hid (has_below HH.out hd.below); have HB1 := Lib.hid (below_step HB.out hd.below); clear hd))
      go_roundg (8 - (i + 1))
      case measure => omega
      case rel => exact ⟨i + 1, h8, Nat.le_refl _, by go_num, HS, Lib.hid (below_set HB2.out (Nat.le_refl _))⟩
    · obtain ⟨V0, hV⟩ : ∃ V, V = wr := ⟨_, rfl⟩
      subst hV
      have hor : ¬ i < l.length ∨ (i < l.length ∧ ¬ i < 8) := by omega
      rcases hor with hor | ⟨hor1, hor2⟩
      all_goals
        go_wp2
        go_loopg [6, 7] 5 (fun k s6 s7 w2 => ∃ (j : Nat) (xs : List S96), j ≤ 5 ∧ 5 - j ≤ k ∧ s7 = .int .i64 j ∧ Hid (OwnRow (k96.K w) 85 2 w2 V0.heap.size s6 xs) ∧ Hid (GoodAcl j xs) ∧ Hid (Below V0.heap.size V0 w2))
        case atStart => exact ⟨0, [], Nat.zero_le _, Nat.le_refl _, rfl, Lib.hid (OwnRow.none_ _ _ _ _ _), Lib.hid good_nil, Lib.hid (Below.refl _ _)⟩
        case round =>
          obtain ⟨j, xs, hj, hjk, rfl, HO, HG, HV⟩ := hrel
          by_cases h5 : j < 5
          · by_cases h4 : xs.length < 4
            · obtain ⟨v, hv, hv0, hv7⟩ := has_get (has_below HH.out HV.out) j h5
              obtain ⟨Ao, co, hs, hco, _⟩ := OwnRow.reads HO.out
              subst hs
              by_cases hp : 0 < v
              · by_cases hj0 : j = 0
                · subst hj0
                  have HG2 := Lib.hid (good_add HG.out v hp hv7 h4 ⟨#[42]⟩ rfl)
                  go_wp2_with (at_builtin; refine OwnRow.append V0.heap.size rfl _ _ 31 85 (.agg #[.string (⟨#[]⟩ : ByteArray), .int .i64 0]) 2 24 rfl Tryz.underlying31 inf96 rfl (by decide) (by decide) (.slice Ao xs.length co) xs ⟨⟨#[42]⟩, v⟩ [.string ⟨#[42]⟩, .int .i64 v] rfl rfl (k96_mk w ⟨⟨#[42]⟩, v⟩) rfl (by simp [Value.oneCell']) HO.out HV.out (below_size HV.out) (by omega) ?_; intro v1 w1 hO hB hg hat; have HO1 := Lib.hid hO; have HB1 := Lib.hid hB; clear hO hB hg hat)
                  go_roundg (5 - (0 + 1))
                  case measure => omega
                  case rel => exact ⟨0 + 1, _, by omega, Nat.le_refl _, by go_num, HO1, HG2, HB1⟩
                · have hj1 : 0 < j := by omega
                  have HG2 := Lib.hid (good_add HG.out v hp hv7 h4 (nmA j) rfl)
                  have hcv := conv_one wr (97 + (j : Int) - 1) (nmA j) (nmA_num j hj0)
                  have HO0 := Lib.hid (OwnRow.below HO.out (below_alloc (Below.refl wr.heap.size wr) (.cells #[.int .u8 (97 + (j : Int) - 1)] 5)))
                  have HV0 := Lib.hid (below_alloc HV.out (.cells #[.int .u8 (97 + (j : Int) - 1)] 5))
                  have hv' := pw_cell_below (below_alloc (Below.refl wr.heap.size wr) (.cells #[.int .u8 (97 + (j : Int) - 1)] 5)) hv
                  generalize nmA j = u at HG2 hcv
                  go_wp2_with (at_builtin; refine OwnRow.append V0.heap.size rfl _ _ 31 85 (.agg #[.string (⟨#[]⟩ : ByteArray), .int .i64 0]) 2 24 rfl Tryz.underlying31 inf96 rfl (by decide) (by decide) (.slice Ao xs.length co) xs ⟨u, v⟩ [.string u, .int .i64 v] rfl (by rw [World.size_alloc]; rfl) (k96_mk w ⟨u, v⟩) rfl (by simp [Value.oneCell']) HO0.out HV0.out (below_size HV0.out) (by omega) ?_; intro v1 w1 hO hB hg hat; have HO1 := Lib.hid hO; have HB1 := Lib.hid hB; clear hO hB hg hat)
                  go_roundg (5 - (j + 1))
                  case measure => omega
                  case rel => exact ⟨j + 1, _, by omega, Nat.le_refl _, by go_num, HO1, HG2, HB1⟩
              · have HG2 := Lib.hid (good_skip HG.out)
                go_wp2
                go_roundg (5 - (j + 1))
                case measure => omega
                case rel => exact ⟨j + 1, _, by omega, Nat.le_refl _, by go_num, HO, HG2, HV⟩
            · obtain ⟨Ao, co, hs, hco, _⟩ := OwnRow.reads HO.out
              subst hs
              go_wp2
              go_ret
              exact ⟨_, rfl, _, good_mono HG.out hj, OwnRow.lower HO.out (below_size HB.out), below_step HB.out HV.out⟩
          · obtain ⟨Ao, co, hs, hco, _⟩ := OwnRow.reads HO.out
            subst hs
            go_wp2
            go_ret
            exact ⟨_, rfl, _, good_mono HG.out hj, OwnRow.lower HO.out (below_size HB.out), below_step HB.out HV.out⟩
end Go.Proofs.YteilkbookcmndaaGreatDoor.C
namespace Go.Proofs.YteilkbookcmndaaGreatDoor.C
open Go.RowKit Go.Proofs.YteilkbookcmndaaGreatDoor.Q Go.Proofs.YteilkbookcmndaaGreatDoorW.PrintWords Go.Proofs.YteilkbookcmndaaGreatDoorW.PrintLast Go.Proofs.YteilkbookcmndaaGreatDoorW.PrintMore
attribute [local go_sem ↓] rd_at50 wr_at50 al_at50
attribute [local go_sem] rd50_new wr50_new al50
attribute [local go_sem high] eqA41
def allG : List S96 := [⟨⟨#[42]⟩, 7⟩]
def dirN (p : ByteArray) (a : S41) : S50 := ⟨p, true, a, allG, z47, [], botS⟩
def l0 (k : Nat) : ByteArray := ⟨#[47, 108, UInt8.ofNat (48 + k)]⟩
def firstT (ls : List S41) : List S50 := dirN ⟨#[47]⟩ botS :: (List.range ls.length).map fun k => dirN (l0 k) (ls.getD k z41)
theorem reps_single {α : Type} {R : α → List Value → Prop} {size : Nat} {p : α} {cs : List Value} (h : R p cs) (hl : cs.length = size) : Reps R size [p] cs := by
  refine ⟨by simp [hl], fun j q hj => ?_⟩
  have hj0 : j = 0 := by
    have := (List.getElem?_eq_some_iff.1 hj).1
    simp at this
    exact this
  subst hj0
  have : q = p := by simpa using hj.symm
  subst this
  rw [Nat.zero_mul, List.drop_zero, ← hl, List.take_length]
  exact h
theorem dir_K {W : World} {g : Nat} (h : W.heap[g]? = some (.cells #[.string (⟨#[42]⟩ : ByteArray), .int .i64 7] 85 (0, 0))) (p : ByteArray) (a : S41) : k50.K W (dirN p a) [.string p, .bool true, .int .i64 a.f0, .int .i64 a.f1, .int .i64 a.f2, .int .i64 a.f3, .slice (some ⟨g, 0, none⟩) 1 1, .int .i64 0, .int .i64 0, .int .i64 0, .int .i64 0, .slice none 0 0, .int .i64 0, .int .i64 0, .int .i64 3, .int .i64 255] := by
  have hC : k96.C W (some ⟨g, 0, none⟩) 1 allG := by
    refine ⟨rfl, by decide, fun _ => ⟨_, rfl, fun j q hj => ?_⟩⟩
    have hj0 : j = 0 := by
      have := (List.getElem?_eq_some_iff.1 hj).1
      simp [allG] at this
      exact this
    subst hj0
    have hq : q = ⟨⟨#[42]⟩, 7⟩ := by simpa [allG] using hj.symm
    subst hq
    refine ⟨_, rfl, k96_mk W _, fun i u hu => ?_⟩
    rcases i with _ | _ | i
    · have hu' : Value.string (⟨#[42]⟩ : ByteArray) = u := by simpa using hu
      rw [← hu']
      exact (blk_cell h 0).trans rfl
    · have hu' : Value.int .i64 7 = u := by simpa using hu
      rw [← hu']
      exact (blk_cell h 1).trans rfl
    · simp at hu
  exact k50_mk W (dirN p a) (A6 := some ⟨g, 0, none⟩) (c6 := 1) (Nat.le_refl _) hC (A11 := none) (c11 := 0) (Nat.le_refl _) (C_nil _ _ _)
theorem conv_blk {W : World} {g : Nat} {x : Int} (h : W.heap[g]? = some (.cells #[.int .u8 x] 5 (0, 0))) : (convert 38 9 (.slice (some ⟨g, 0, none⟩) 1 1)).run Tryz.prog W = .ok (.string (strOfNums [x])) W := by
  refine run_convert_bytes_arg _ 38 5 Tryz.underlying38 Tryz.underlying5 g 0 1 1 [x] rfl (fun i hi => ?_) 9 Tryz.underlying9
  have hi0 : i = 0 := by omega
  subst hi0
  exact (blk_cell h 0).trans rfl
theorem wk1 (k : Nat) (h : k ≤ 100) : IntKind.i64.wrap (48 + (k : Int)) = 48 + (k : Int) := by rw [i64_w]; unfold wrap64; omega
theorem wk2 (k : Nat) (h : k ≤ 100) : IntKind.u8.wrap (48 + (k : Int)) = 48 + (k : Int) := by simp [IntKind.wrap, IntKind.bits, IntKind.signed]; omega
theorem take_one {ls xs : List S41} {i : Nat} {a : S41} (h : ls = xs.take i) (hi : i = 0) (_hl : i < xs.length) (ha : xs[i]? = some a) : ls ++ [a] = xs.take (i + 1) := by
  subst hi
  rw [h, List.take_succ_eq_append_getElem _hl]
  rw [List.getElem?_eq_getElem _hl] at ha
  rw [Option.some.inj ha]
theorem firstT_len (ls : List S41) : (firstT ls).length = ls.length + 1 := by simp [firstT]
theorem firstT_snoc (ls : List S41) (a : S41) : firstT (ls ++ [a]) = firstT ls ++ [dirN (l0 ls.length) a] := by
  unfold firstT
  rw [List.length_append, List.length_singleton, List.range_succ, List.map_append, List.cons_append]
  congr 1
  congr 1
  · refine List.map_congr_left fun k hk => ?_
    have := List.mem_range.1 hk
    rw [List.getD_eq_getElem?_getD, List.getD_eq_getElem?_getD, List.getElem?_append_left this]
  · simp
theorem l0_cat (k : Nat) : (⟨#[47, 108]⟩ : ByteArray) ++ strOfNums [48 + (k : Int)] = l0 k := by
  refine L.bytes_ext ?_
  rw [P.append_data]
  have : (48 + (k : Int)).toNat = 48 + k := by omega
  simp [l0, strOfNums, this]
set_option maxHeartbeats 1000000 in
set_option maxRecDepth 100000 in
theorem first_c (xs : List S41) (A : Option Addr) (c : Nat) (v1 v2 : Value) (w : World) (hC : Kd.C k41 w A xs.length xs) (hc : xs.length ≤ c) (hn : xs.length ≤ 4) :
    Calls Tryz.prog 26 #[.agg #[.slice A xs.length c, v1, v2]] w fun e w' => ∃ v, e = .returned v ∧ ∃ ls, ((∀ a ∈ ls, a ∈ xs) ∧ (xs.length = 1 → ls = xs)) ∧ ls.length ≤ 4 ∧ ∃ w1, Below w.heap.size w w1 ∧ Below w1.heap.size w1 w' ∧ OwnRow (k50.K w1) 36 16 w' w1.heap.size v (firstT ls) := by
  have HC := Lib.hid hC
  clear hC
  go_enter Tryz.func26, Tryz.ntmps26
  have E0 := Lib.hid (blk_alloc (blk_new w (.cells #[.slice A xs.length c, v1, v2] 92)) (.cells #[.string (⟨#[42]⟩ : ByteArray), .int .i64 7] 85))
  have E1 := Lib.hid (show ((w.alloc (.cells #[.slice A xs.length c, v1, v2] 92)).alloc (.cells #[.string (⟨#[42]⟩ : ByteArray), .int .i64 7] 85)).heap[w.heap.size + 1]? = some (.cells #[.string (⟨#[42]⟩ : ByteArray), .int .i64 7] 85) by have := blk_new (w.alloc (.cells #[.slice A xs.length c, v1, v2] 92)) (.cells #[.string (⟨#[42]⟩ : ByteArray), .int .i64 7] 85); rwa [World.size_alloc] at this)
  have HB0 := Lib.hid (below_alloc (below_alloc (Below.refl w.heap.size w) (.cells #[.slice A xs.length c, v1, v2] 92)) (.cells #[.string (⟨#[42]⟩ : ByteArray), .int .i64 7] 85))
  go_wp2_with (first | (go_at_call 22; have g := HB1.out; clear g; refine (donjonref4_Bottom.calls 0 0 3 255 _ rfl).mono ?_; rintro e w2 ⟨rfl, hd⟩; have HB2 := Lib.hid (below_step HB1.out hd); have F0 := Lib.hid (blk_below G0.out hd); have F1 := Lib.hid (blk_below G1.out hd); clear hd) | (go_at_call 22; refine (donjonref4_Bottom.calls 0 0 3 255 _ rfl).mono ?_; rintro e w1 ⟨rfl, hd⟩; have HB1 := Lib.hid (below_step HB0.out hd); have G0 := Lib.hid (blk_below E0.out hd); have G1 := Lib.hid (blk_below E1.out hd); clear hd))
  have hu41 := Tryz.underlying30
  go_loopg [4, 5, 6] xs.length (fun k s4 s5 s6 wr => ∃ (i : Nat) (ls : List S41), i ≤ xs.length ∧ xs.length - i ≤ k ∧ s6 = .int .i64 i ∧ s5 = .int .i64 ls.length ∧ ls.length ≤ i ∧ Hid ((∀ a ∈ ls, a ∈ xs) ∧ (i ≤ 1 → ls = xs.take i)) ∧ Hid (OwnRow (k50.K w2) 36 16 wr w2.heap.size s4 (firstT ls)) ∧ Hid (Below w2.heap.size w2 wr))
  case atStart => exact ⟨0, [], Nat.zero_le _, Nat.le_refl _, rfl, rfl, Nat.le_refl _, Lib.hid ⟨by simp, fun _ => rfl⟩, Lib.hid (by
    exact OwnRow.lit w2 w2.heap.size (reps_single (dir_K F1.out ⟨#[47]⟩ botS) rfl) (Nat.le_refl _) (by decide)), Lib.hid (below_alloc (Below.refl _ _) _)⟩
  case round =>
    obtain ⟨i, ls, hi, hik, rfl, rfl, hls, HM, HO, HB⟩ := hrel
    obtain ⟨V0, hV⟩ : ∃ V, V = wr := ⟨_, rfl⟩
    subst hV
    have HNl := Lib.hid (firstT_len ls)
    have HNs := Lib.hid (fun a => firstT_snoc ls a)
    generalize hnd0 : firstT ls = nodes at HO HNl HNs
    have HND := Lib.hid hnd0
    clear hnd0
    obtain ⟨Ao, co, hs, hco, _⟩ := OwnRow.reads HO.out
    subst hs
    have hc0 : V0.cell? ⟨w.heap.size, 0, none⟩ = some (.slice A xs.length c) := (blk_cell (blk_below F0.out HB.out) 0).trans rfl
    by_cases hlt : i < xs.length
    · go_wp2
      have mixed : Tryz.prog.follows .mixedOrders = true := by kernel_rfl
      obtain ⟨ad, hA, g0, g1, g2, g3⟩ := at_T41 (Kd.C_below HC.out HB2.out) (i : Int) (by omega) (by omega)
      subst hA
      simp only [Int.toNat_natCast] at g0 g1 g2 g3
      have hmem : rd_T41 xs (i : Int) ∈ xs ∧ xs[i]? = some (rd_T41 xs (i : Int)) := by unfold rd_T41; rw [Int.toNat_natCast, List.getD_eq_getElem?_getD, List.getElem?_eq_getElem hlt]; exact ⟨List.getElem_mem hlt, rfl⟩
      have HMem := Lib.hid hmem
      clear hmem
      generalize rd_T41 xs (i : Int) = a at g0 g1 g2 g3 HMem
      have HI := Lib.hid (And.intro g0 (And.intro g1 (And.intro g2 g3)))
      have i0 := pw_cell_below HB.out g0
      have i1 := pw_cell_below HB.out g1
      have i2 := pw_cell_below HB.out g2
      have i3 := pw_cell_below HB.out g3
      clear g0 g1 g2 g3
      go_loopg [7, 8] i (fun k s7 s8 w2 => ∃ (j : Nat) (b : Bool), j ≤ i ∧ i - j ≤ k ∧ s8 = .int .i64 j ∧ s7 = .bool b ∧ Hid (Below V0.heap.size V0 w2) ∧ Hid (j = 0 → b = false))
      case atStart => exact ⟨0, false, Nat.zero_le _, Nat.le_refl _, rfl, rfl, Lib.hid (Below.refl _ _), Lib.hid fun _ => rfl⟩
      case round =>
        obtain ⟨j, b, hj, hjk, rfl, rfl, HV, HJB⟩ := hrel
        have hc1 := pw_cell_below HV.out hc0
        have i0' := pw_cell_below HV.out i0
        have i1' := pw_cell_below HV.out i1
        have i2' := pw_cell_below HV.out i2
        have i3' := pw_cell_below HV.out i3
        by_cases hjl : j < i
        · obtain ⟨ad2, hA, j0, j1, j2, j3⟩ := at_T41 (Kd.C_below HC.out (below_step (below_step HB2.out HB.out) HV.out)) (j : Int) (by omega) (by omega)
          obtain rfl := Option.some.inj hA
          simp only [Int.toNat_natCast] at j0 j1 j2 j3
          generalize rd_T41 xs (j : Int) = a2 at j0 j1 j2 j3
          cases b
          all_goals go_wp2
          all_goals go_region_o
          all_goals go_wp2
          all_goals go_roundg (i - (j + 1))
          case measure => omega
          case measure => omega
          case rel => exact ⟨j + 1, _, hjl, Nat.le_refl _, by go_num, rfl, Lib.hid (below_drew1 HV.out), Lib.hid fun h => absurd h (Nat.succ_ne_zero _)⟩
          case rel => exact ⟨j + 1, _, hjl, Nat.le_refl _, by go_num, rfl, Lib.hid (below_drew1 HV.out), Lib.hid fun h => absurd h (Nat.succ_ne_zero _)⟩
        · have hji : j = i := by omega
          subst hji
          cases b
          · have HBB := Lib.hid (below_step HB.out HV.out)
            have HO1 := Lib.hid (OwnRow.below HO.out HV.out)
            have HK := Lib.hid (dir_K F1.out (l0 ls.length) a)
            go_wp2
            have hwk1 := wk1 ls.length (by omega)
            have hwk2 := wk2 ls.length (by omega)
            have hcv := conv_blk (blk_drew (blk_new wr (.cells #[.int .u8 (48 + (ls.length : Int))] 5)))
            have hcat : (⟨#[47, 108]⟩ : ByteArray) ++ strOfNums [48 + (ls.length : Int)] = l0 ls.length := l0_cat _
            have hnz : (strOfNums [48 + (ls.length : Int)]).size = 1 := rfl
            generalize hnm0 : strOfNums [48 + (ls.length : Int)] = nm at hcv hcat hnz
            have HNM := Lib.hid hnm0
            clear hnm0
            have HNs := Lib.hid (HNs.out a)
            generalize l0 ls.length = pk at hcat HK HNs
            generalize hn20 : firstT (ls ++ [a]) = nodes2 at HNs
            have HN2 := Lib.hid hn20
            clear hn20
            have HLn := Lib.hid (show ls.length ≤ 4 by omega)
            go_region_held_law (fun W => W.cell? ⟨w.heap.size, 0, none⟩ = some (.slice (some ad) xs.length c) ∧ W.cell? (ad.add (j * 4)) = some (.int .i64 a.f0) ∧ W.cell? ⟨(ad.add (j * 4)).block, (ad.add (j * 4)).off + 1, none⟩ = some (.int .i64 a.f1) ∧ W.cell? ⟨(ad.add (j * 4)).block, (ad.add (j * 4)).off + 2, none⟩ = some (.int .i64 a.f2) ∧ W.cell? ⟨(ad.add (j * 4)).block, (ad.add (j * 4)).off + 3, none⟩ = some (.int .i64 a.f3)) (go_keep)
              (first | (go_at_call 22; (refine (donjonref4_Bottom.calls 0 0 3 255 _ rfl).mono ?_; rintro e w5 ⟨rfl, hd⟩; have HB5 := Lib.hid (below_step (show Below wr.heap.size wr _ by repeat (first | exact Below.refl _ _ | apply below_alloc | apply below_drew1)) hd); have k0 := pw_cell_below HB5.out hc1; have k1 := pw_cell_below HB5.out i0'; have k2 := pw_cell_below HB5.out i1'; have k3 := pw_cell_below HB5.out i2'; have k4 := pw_cell_below HB5.out i3'; (first | (have hcv2 := conv_blk (blk_below (blk_drew (blk_new wr (.cells #[.int .u8 (48 + (ls.length : Int))] 5))) hd); rw [HNM.out] at hcv2) | (have hcv2 := conv_blk (blk_below (blk_new wr (.cells #[.int .u8 (48 + (ls.length : Int))] 5)) hd); rw [HNM.out] at hcv2) | have hcv2 := True.intro); have hcv3 := conv_one w5 (48 + (ls.length : Int)) _ HNM.out; clear hd)) | ((refine OwnRow.append_step w2.heap.size (by rfl) _ _ 27 36 (.agg #[.string (⟨#[]⟩ : ByteArray), .bool false, .int .i64 0, .int .i64 0, .int .i64 0, .int .i64 0, .slice none 0 0, .int .i64 0, .int .i64 0, .int .i64 0, .int .i64 0, .slice none 0 0, .int .i64 0, .int .i64 0, .int .i64 0, .int .i64 0]) 16 168 (by rfl) Tryz.underlying27 inf50 rfl (by decide) (by decide) (.slice Ao nodes.length co) nodes (dirN pk a) [.string pk, .bool true, .int .i64 a.f0, .int .i64 a.f1, .int .i64 a.f2, .int .i64 a.f3, .slice (some ⟨w.heap.size + 1, 0, none⟩) 1 1, .int .i64 0, .int .i64 0, .int .i64 0, .int .i64 0, .slice none 0 0, .int .i64 0, .int .i64 0, .int .i64 3, .int .i64 255] (by rfl) (by first | rfl | (simp only [World.size_alloc]; rfl)) HK.out rfl (by simp [Value.oneCell']) (OwnRow.below HO1.out (by repeat (first | exact HB5.out | exact Below.refl _ _ | apply below_alloc | apply below_drew1))) (below_step HBB.out (by repeat (first | exact HB5.out | exact Below.refl _ _ | apply below_alloc | apply below_drew1))) (below_size (below_step HBB.out (by repeat (first | exact HB5.out | exact Below.refl _ _ | apply below_alloc | apply below_drew1)))) (by have := HLn.out; have := HNl.out; omega) ?_; intro v4 w4 hO4 hB4 _ _; have HO4 := Lib.hid hO4; have HB4 := Lib.hid hB4; have q0 := (blk_cell (blk_below F0.out hB4) 0).trans rfl; have q1 := pw_cell_below hB4 HI.out.1; have q2 := pw_cell_below hB4 HI.out.2.1; have q3 := pw_cell_below hB4 HI.out.2.2.1; have q4 := pw_cell_below hB4 HI.out.2.2.2; clear hO4 hB4)))
            all_goals go_wp2
            all_goals go_roundg (xs.length - (j + 1))
            all_goals first
              | omega
              | exact ⟨j + 1, ls ++ [a], hlt, Nat.le_refl _, by go_num, by rw [List.length_append, List.length_singleton]; go_num, by rw [List.length_append, List.length_singleton]; omega, Lib.hid ⟨fun b hb => by rcases List.mem_append.1 hb with hb | hb; exact HM.out.1 b hb; rw [List.mem_singleton.1 hb]; exact HMem.out.1, fun h => take_one (HM.out.2 (by omega)) (by omega) hlt HMem.out.2⟩, Lib.hid (by rw [HN2.out, HNs.out]; exact HO4.out), HB4⟩
          · go_wp2
            go_roundg (xs.length - (j + 1))
            case measure => omega
            case rel => exact ⟨j + 1, ls, hlt, Nat.le_refl _, by go_num, rfl, by omega, Lib.hid ⟨HM.out.1, fun h => by have h0 := HJB.out (by omega); cases h0⟩, Lib.hid (by rw [HND.out]; exact OwnRow.below HO.out HV.out), Lib.hid (below_step HB.out HV.out)⟩
    · go_wp2
      go_ret
      exact ⟨_, rfl, ls, ⟨HM.out.1, fun h => by have := HM.out.2 (by omega); rw [this]; exact List.take_of_length_le (by omega)⟩, by omega, w2, HB2.out, HB.out, by rw [HND.out]; exact HO.out⟩
end Go.Proofs.YteilkbookcmndaaGreatDoor.C
namespace Go.Proofs.YteilkbookcmndaaGreatDoor.C
open Go.RowKit Go.Proofs.YteilkbookcmndaaGreatDoor.Q Go.Proofs.YteilkbookcmndaaGreatDoorW.PrintWords Go.Proofs.YteilkbookcmndaaGreatDoorW.PrintLast Go.Proofs.YteilkbookcmndaaGreatDoorW.PrintMore
theorem slash_none (s : ByteArray) (hs : s.size ≤ 1000) : ∀ (d k i : Nat) (x : Int), i ≤ s.size → s.size - i = d → d < k → (∀ j (h : j < s.data.toList.length), i ≤ j → s.data.toList[j]'h ≠ 47) → donjonref7_slash.l0 k s x (i : Int) = some x
  | _, 0, _, _, _, _, h, _ => absurd h (Nat.not_lt_zero _)
  | 0, k + 1, i, x, hi, hd, _, _ => by
    unfold donjonref7_slash.l0
    rw [if_neg (by omega)]
  | d + 1, k + 1, i, x, hi, hd, hk, hn => by
    have hlt : i < s.data.toList.length := by rw [← Lib.size_eq]; omega
    unfold donjonref7_slash.l0
    rw [if_pos (by omega), if_pos (by omega), L.bt_nat s i hlt, if_neg (fun e => by
      apply hn i hlt (Nat.le_refl _)
      apply UInt8.toNat_inj.1
      have : ((s.data.toList[i]'hlt).toNat : Int) = ((47 : UInt8).toNat : Int) := e
      exact_mod_cast this)]
    have hw : wrap64 ((i : Int) + 1) = ((i + 1 : Nat) : Int) := by unfold wrap64; omega
    rw [hw]
    exact slash_none s hs d k (i + 1) x (by omega) (by omega) (by omega) (fun j h hj => hn j h (by omega))
theorem slash_at (s : ByteArray) (hs : s.size ≤ 1000) (pre n : List UInt8) (h : s.data.toList = pre ++ 47 :: n) (hn : L.Free n) : ∀ (d k i : Nat) (x : Int), i ≤ pre.length → s.size - i = d → d < k → donjonref7_slash.l0 k s x (i : Int) = some (pre.length : Int)
  | _, 0, _, _, _, _, h => absurd h (Nat.not_lt_zero _)
  | 0, k + 1, i, x, hi, hd, _ => by
    have := Lib.size_eq s
    rw [h, List.length_append, List.length_cons] at this
    omega
  | d + 1, k + 1, i, x, hi, hd, hk => by
    have hz := Lib.size_eq s
    have hl : s.data.toList.length = pre.length + (n.length + 1) := by rw [h, List.length_append, List.length_cons]
    have hlt : i < s.data.toList.length := by omega
    have hw : wrap64 ((i : Int) + 1) = ((i + 1 : Nat) : Int) := by unfold wrap64; omega
    unfold donjonref7_slash.l0
    rw [if_pos (by omega), if_pos (by omega), L.bt_nat s i hlt, hw]
    by_cases hip : i = pre.length
    · subst hip
      have hc : s.data.toList[pre.length]'hlt = 47 := by simp [h]
      rw [hc, if_pos (by decide)]
      refine slash_none s hs d k (pre.length + 1) _ (by omega) (by omega) (by omega) (fun j hj hij => ?_)
      have : s.data.toList[j]'hj = n[j - pre.length - 1]'(by omega) := by
        simp only [h]
        rw [List.getElem_append_right (by omega)]
        rw [List.getElem_cons]
        rw [dif_neg (by omega)]
      rw [this]
      exact hn _ (List.getElem_mem _)
    · have ih := fun x => slash_at s hs pre n h hn d k (i + 1) x (by omega) (by omega) (by omega)
      split
      · exact ih _
      · exact ih _
theorem rparent_f (ns : List (List UInt8)) (hn : ∀ x ∈ ns, L.Nm x) (hne : ns ≠ []) (h0 : L.checkL (L.render ns) = 0) (k : Nat) (hk : 1001 < k) : donjonref7_Parent.f k (pth ns) = some (pth ns.dropLast) := by
  have hlen := check_len h0
  have hsz : (pth ns).size ≤ 78 := by rw [pth_size]; exact hlen
  rcases List.eq_nil_or_concat ns with rfl | ⟨a, n, rfl⟩
  · exact absurd rfl hne
  · rw [List.concat_eq_append] at *
    have hd := pth_data (a ++ [n])
    rw [L.render_snoc] at hd
    have hnn := hn n (by simp)
    have hz := Lib.size_eq (pth (a ++ [n]))
    rw [hd, List.length_append, List.length_cons] at hz
    have hs := slash_at (pth (a ++ [n])) (by omega) (L.flat a) n hd hnn.1 _ k 0 0 (Nat.zero_le _) rfl (by omega)
    rw [Int.ofNat_zero] at hs
    have h1 := hnn.2
    unfold donjonref7_Parent.f donjonref7_slash.f
    rw [if_neg (by omega), hs]
    simp only [Option.bind_some]
    rw [List.dropLast_concat]
    by_cases ha : a = []
    · subst ha
      rfl
    · have hfl : L.flat a ≠ [] := fun e => ha (L.flat_eq_nil e)
      have hpos : 0 < (L.flat a).length := List.length_pos_iff.2 hfl
      rw [if_neg (by omega), if_pos (by omega), if_pos (by omega), Int.toNat_natCast]
      congr 1
      refine L.bytes_ext ?_
      rw [pth_data, L.render_flat _ ha]
      have := P.extract_pieces (pth (a ++ [n])) 0 (L.flat a).length (L.flat a) (by rw [List.drop_zero, hd]; simp)
      rw [this]
theorem good_f (a : S41) : ∃ g : S41, donjonlaw4_Good.f a.f0 a.f1 a.f2 a.f3 = some (g.f0, g.f1, g.f2, g.f3) ∧ Lab g := by
  obtain ⟨t0, h0, l0, u0⟩ := P.within_f a.f0 4 (by omega) (by omega)
  obtain ⟨t1, h1, l1, u1⟩ := P.within_f a.f1 256 (by omega) (by omega)
  obtain ⟨t2, h2, l2, u2⟩ := P.within_f a.f2 4 (by omega) (by omega)
  obtain ⟨t3, h3, l3, u3⟩ := P.within_f a.f3 256 (by omega) (by omega)
  have e0 : donjonlaw4_within.f a.f0 4 = some t0 := h0
  have e1 : donjonlaw4_within.f a.f1 256 = some t1 := h1
  have e2 : donjonlaw4_within.f a.f2 4 = some t2 := h2
  have e3 : donjonlaw4_within.f a.f3 256 = some t3 := h3
  refine ⟨⟨t0, t1, t2, t3⟩, ?_, ⟨l0, by show t0 ≤ 3; omega⟩, ⟨l1, by show t1 ≤ 255; omega⟩, ⟨l2, by show t2 ≤ 3; omega⟩, ⟨l3, by show t3 ≤ 255; omega⟩⟩
  unfold donjonlaw4_Good.f
  rw [e0, e1, e2, e3]
  rfl
theorem good_c (a : S41) (w : World) : Calls Tryz.prog 41 #[.agg #[.int .i64 a.f0, .int .i64 a.f1, .int .i64 a.f2, .int .i64 a.f3]] w fun e w' => ∃ g : S41, e = .returned (.agg #[.int .i64 g.f0, .int .i64 g.f1, .int .i64 g.f2, .int .i64 g.f3]) ∧ Lab g ∧ Below w.heap.size w w' := by
  obtain ⟨g, h, hl⟩ := good_f a
  exact (donjonlaw4_Good.calls _ _ _ _ _ _ _ _ w h).mono fun _ _ ⟨he, hb⟩ => ⟨g, he, hl, hb⟩
theorem all_ok : AclOk allG := ⟨[0], List.pairwise_singleton _ _, by simp, rfl, by simp [allG], by decide⟩
theorem bot_lab : Lab botS := by unfold Lab botS; decide
theorem dir_ok (p : ByteArray) (a : S41) (h : Lab a) : NodeOk (dirN p a) := ⟨h, bot_lab, all_ok, Nat.zero_le _, fun _ => ⟨rfl, rfl⟩, ⟨Int.le_refl 0, Int.le_refl 0, Int.le_refl 0, (by decide : (0 : Int) < 8), Int.le_refl 0, (by decide : (0 : Int) < 17)⟩⟩
theorem l0_less : ∀ a b : Fin 10, a < b → less (l0 a) (l0 b) = true := by decide +kernel
theorem root_less : ∀ a : Fin 10, less ⟨#[47]⟩ (l0 a) = true := by decide +kernel
theorem l0_pth : ∀ k : Fin 10, l0 k = pth [[108, UInt8.ofNat (48 + k)]] := fun k => L.bytes_ext rfl
theorem l0_okp (k : Nat) (hk : k < 10) : Okp [[108, UInt8.ofNat (48 + k)]] := by
  have key : ∀ k : Fin 10, L.nameL [108, UInt8.ofNat (48 + k.val)] = true := by decide +kernel
  have h2 : ∀ k : Fin 10, L.checkL (L.render [[108, UInt8.ofNat (48 + k.val)]]) = 0 := by decide +kernel
  refine ⟨fun x hx => ?_, h2 ⟨k, hk⟩⟩
  rw [List.mem_singleton.1 hx]
  exact L.name_nm (key ⟨k, hk⟩)
theorem over_bot {a : S41} (h : Lab a) : lover a botS = true := by
  rw [lover_iff h bot_lab]
  obtain ⟨h0, h1, h2, h3⟩ := h
  refine ⟨h0.1, Nat.or_zero _, h2.2, ?_⟩
  obtain ⟨x, hx⟩ := Int.eq_ofNat_of_zero_le h3.1
  have : a.f3.toNat = x := by omega
  rw [this]
  have hx2 : x < 256 := by omega
  have e : (botS.f3.toNat : Nat) = 2 ^ 8 - 1 := rfl
  rw [e, Nat.and_two_pow_sub_one_eq_mod]
  exact Nat.mod_eq_of_lt hx2
theorem root_okp : Okp [] := ⟨by simp, by decide +kernel⟩
theorem mem_first {ls : List S41} {n : S50} (h : n ∈ firstT ls) : n = dirN ⟨#[47]⟩ botS ∨ ∃ k, k < ls.length ∧ n = dirN (l0 k) (ls.getD k z41) := by
  unfold firstT at h
  rcases List.mem_cons.1 h with h | h
  · exact Or.inl h
  · obtain ⟨k, hk, he⟩ := List.mem_map.1 h
    exact Or.inr ⟨k, List.mem_range.1 hk, he.symm⟩
theorem tree_first (ls : List S41) (hl : ls.length ≤ 9) (hL : ∀ a ∈ ls, Lab a) : Tree (firstT ls) := by
  have hget : ∀ k, k < ls.length → Lab (ls.getD k z41) := fun k hk => by
    rw [List.getD_eq_getElem?_getD, List.getElem?_eq_getElem hk]
    exact hL _ (List.getElem_mem hk)
  have hroot : dirN ⟨#[47]⟩ botS ∈ firstT ls := List.mem_cons_self
  refine ⟨?_, by rw [firstT_len]; omega, ⟨_, hroot, rfl, rfl, rfl⟩, ?_, ?_⟩
  · unfold firstT Asc
    refine List.pairwise_cons.2 ⟨?_, ?_⟩
    · intro n hn
      obtain ⟨k, hk, rfl⟩ := List.mem_map.1 hn
      have := List.mem_range.1 hk
      exact root_less ⟨k, by omega⟩
    · rw [List.pairwise_map]
      refine List.Pairwise.imp_of_mem ?_ (List.pairwise_lt_range (n := ls.length))
      intro a b ha hb hab
      have h1 := List.mem_range.1 ha
      have h2 := List.mem_range.1 hb
      exact l0_less ⟨a, by omega⟩ ⟨b, by omega⟩ hab
  · intro n hn
    rcases mem_first hn with rfl | ⟨k, hk, rfl⟩
    · exact dir_ok _ _ bot_lab
    · exact dir_ok _ _ (hget k hk)
  · intro n hn
    rcases mem_first hn with rfl | ⟨k, hk, rfl⟩
    · exact ⟨[], root_okp, rfl, fun h => absurd rfl h⟩
    · exact ⟨[[108, UInt8.ofNat (48 + k)]], l0_okp k (by omega), l0_pth ⟨k, by omega⟩, fun _ => ⟨_, hroot, rfl, rfl, over_bot (hget k hk), fun h => by cases h⟩⟩
end Go.Proofs.YteilkbookcmndaaGreatDoor.C
namespace Go.Proofs.YteilkbookcmndaaGreatDoor.C
open Go.RowKit Go.Proofs.YteilkbookcmndaaGreatDoor.Q Go.Proofs.YteilkbookcmndaaGreatDoorW.PrintWords Go.Proofs.YteilkbookcmndaaGreatDoorW.PrintLast Go.Proofs.YteilkbookcmndaaGreatDoorW.PrintMore
theorem row_load {α : Type} {d : Kd α} {w W : World} {A : Option Addr} {xs : List α} (z : α) (hC : Kd.C d w A xs.length xs) (hb : Below w.heap.size w W) (i : Nat) (hi : i < xs.length) : ∃ ad cs, A = some ad ∧ d.K W (xs[i]'hi) cs ∧ (loadCellsFrom (ad.add (i * d.sz)) 0 d.sz #[]).run Tryz.prog W = .ok cs.toArray W := by
  obtain ⟨ad, c, e, hl, hK, hc⟩ := ReadsRow.get_ (Kd.C_below hC hb) z (i : Int) (by omega) (by omega)
  have hr : xs.getD (i : Int).toNat z = xs[i]'hi := by rw [Int.toNat_natCast, List.getD_eq_getElem?_getD, List.getElem?_eq_getElem hi]; rfl
  rw [hr] at hK
  rw [Int.toNat_natCast] at hc
  exact ⟨ad, c, e, hK, load50 (by simpa using hl) (fun j v hj => by rw [add_add]; exact hc j v (by simpa using hj))⟩
theorem rd_at80 (x : Value) : Instr.loadAt 118 x = rdS 118 x := rd_at 118 x
theorem wr_at80 (x v : Value) : Instr.storeAt 118 x v = wrS 118 x v := wr_at 118 x v
theorem al_at80 (b : Bool) (v : Value) : Instr.alloc 118 b v = alS 118 b v := al_at 118 b v
theorem rd80_of {W : World} {a : Addr} {cs : Array Value} (h : (loadCellsFrom a 0 16 #[]).run Tryz.prog W = .ok cs W) : (rdS 118 (.pointer (some a))).run Tryz.prog W = .ok (.agg cs) W := by
  rw [← rd_at]
  have hag := Tryz.isAgg118 W
  have hsz := Tryz.sizeOf118 W
  simp only [Instr.loadAt, Instr.sureAddr, Sem.run_bind, Sem.run_pure, Result.andThen, loadVar, hag, hsz, if_true, loadCells, h]
theorem al80 (w : World) : (alS 118 true (.tuple #[])).run Tryz.prog w = .ok (.pointer (some ⟨w.heap.size, 0, none⟩)) (w.alloc (.cells #[.slice none 0 0, .bool false, .int .i64 0, .int .i64 0, .int .i64 0, .int .i64 0, .slice none 0 0, .int .i64 0, .int .i64 0, .int .i64 0, .int .i64 0, .slice none 0 0, .int .i64 0, .int .i64 0, .int .i64 0, .int .i64 0] 118)) := by
  rw [← al_at]
  have hz := Tryz.zeroValue118
  go_simp
theorem wr80_new (w : World) (pA0 : Option Addr) (pn0 pc0 : Nat) (pb : Bool) (p2 p3 p4 p5 : Int) (pA : Option Addr) (pn pc : Nat) (p7 p8 p9 p10 : Int) (pB : Option Addr) (pm pd : Nat) (p12 p13 p14 p15 : Int) (qA0 : Option Addr) (qn0 qc0 : Nat) (qb : Bool) (q2 q3 q4 q5 : Int) (qA : Option Addr) (qn qc : Nat) (q7 q8 q9 q10 : Int) (qB : Option Addr) (qm qd : Nat) (q12 q13 q14 q15 : Int) : (wrS 118 (.pointer (some ⟨w.heap.size, 0, none⟩)) (.agg #[.slice qA0 qn0 qc0, .bool qb, .int .i64 q2, .int .i64 q3, .int .i64 q4, .int .i64 q5, .slice qA qn qc, .int .i64 q7, .int .i64 q8, .int .i64 q9, .int .i64 q10, .slice qB qm qd, .int .i64 q12, .int .i64 q13, .int .i64 q14, .int .i64 q15])).run Tryz.prog (w.alloc (.cells #[.slice pA0 pn0 pc0, .bool pb, .int .i64 p2, .int .i64 p3, .int .i64 p4, .int .i64 p5, .slice pA pn pc, .int .i64 p7, .int .i64 p8, .int .i64 p9, .int .i64 p10, .slice pB pm pd, .int .i64 p12, .int .i64 p13, .int .i64 p14, .int .i64 p15] 118)) = .ok () (w.alloc (.cells #[.slice qA0 qn0 qc0, .bool qb, .int .i64 q2, .int .i64 q3, .int .i64 q4, .int .i64 q5, .slice qA qn qc, .int .i64 q7, .int .i64 q8, .int .i64 q9, .int .i64 q10, .slice qB qm qd, .int .i64 q12, .int .i64 q13, .int .i64 q14, .int .i64 q15] 118)) := by
  rw [← wr_at]
  exact run_storeAt_new w 118 #[.slice pA0 pn0 pc0, .bool pb, .int .i64 p2, .int .i64 p3, .int .i64 p4, .int .i64 p5, .slice pA pn pc, .int .i64 p7, .int .i64 p8, .int .i64 p9, .int .i64 p10, .slice pB pm pd, .int .i64 p12, .int .i64 p13, .int .i64 p14, .int .i64 p15] #[.slice qA0 qn0 qc0, .bool qb, .int .i64 q2, .int .i64 q3, .int .i64 q4, .int .i64 q5, .slice qA qn qc, .int .i64 q7, .int .i64 q8, .int .i64 q9, .int .i64 q10, .slice qB qm qd, .int .i64 q12, .int .i64 q13, .int .i64 q14, .int .i64 q15] (by kernel_rfl) rfl (by simp [Value.oneCell'])
end Go.Proofs.YteilkbookcmndaaGreatDoor.C
end
