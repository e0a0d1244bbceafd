/- Texts that the claim's law stands on, cut down to what it reaches. -/
import Derived.Test.YtmndeoncbocplaaDoorMD
import Derived.Deep.LoopGhost
set_option linter.unusedVariables false
set_option linter.unusedSimpArgs false
section
set_option linter.unusedVariables false
set_option linter.unusedSimpArgs false
namespace Go.Proofs.YtmndeoncbocplaaDoor.C
open Go.RowKit Go.Proofs.YtmndeoncbocplaaDoor.Q Go.Proofs.YtmndeoncbocplaaDoorW.PrintWords Go.Proofs.YtmndeoncbocplaaDoorW.PrintLast Go.Proofs.YtmndeoncbocplaaDoorW.PrintMore
attribute [local go_sem ↓] rd_at50 wr_at50 al_at50
attribute [local go_sem] rd50_new wr50_new al50
theorem cell_agree {W W' : World} (h : ∀ k, k < W.heap.size → W'.heap[k]? = W.heap[k]?) {a : Addr} {v : Value} (hv : W.cell? a = some v) : W'.cell? a = some v := by
  have hb := World.block_lt_of_cell? W a hv
  unfold World.cell? at hv ⊢
  rw [h a.block hb]
  exact hv
theorem ints_agree {W W' : World} (h : ∀ k, k < W.heap.size → W'.heap[k]? = W.heap[k]?) {A : Option Addr} {n : Nat} {xs : List Int} (hC : Kd.C (Kd.int .i64) W A n xs) : Kd.C (Kd.int .i64) W' A n xs := by
  obtain ⟨h1, h2, h3⟩ := hC
  refine ⟨h1, h2, fun hn => ?_⟩
  obtain ⟨ad, e, hc⟩ := h3 hn
  refine ⟨ad, e, fun j p hj => ?_⟩
  obtain ⟨c, k1, k2, k3⟩ := hc j p hj
  exact ⟨c, k1, k2, fun i u hi => cell_agree h (k3 i u hi)⟩
theorem grants_agree {W W' : World} (h : ∀ k, k < W.heap.size → W'.heap[k]? = W.heap[k]?) {A : Option Addr} {n : Nat} {xs : List S96} (hC : Kd.C k96 W A n xs) : Kd.C k96 W' A n xs := by
  obtain ⟨h1, h2, h3⟩ := hC
  refine ⟨h1, h2, fun hn => ?_⟩
  obtain ⟨ad, e, hc⟩ := h3 hn
  refine ⟨ad, e, fun j p hj => ?_⟩
  obtain ⟨c, k1, k2, k3⟩ := hc j p hj
  exact ⟨c, k1, by rw [k96_open k2]; exact k96_mk W' p, fun i u hi => cell_agree h (k3 i u hi)⟩
theorem K_foot {W : World} {x : S50} {cs : List Value} (hK : k50.K W x cs) : k50.FK W (fun k => k < W.heap.size) x cs := by
  intro W' hW
  have h : ∀ k, k < W.heap.size → W'.heap[k]? = W.heap[k]? := fun k hk => hW k hk hk
  obtain ⟨A6, c6, A11, c11, rfl, l6, g6, l11, g11⟩ := k50_open hK
  exact k50_mk W' x l6 (grants_agree h g6) l11 (ints_agree h g11)
theorem split_join : ∀ (t n : List UInt8) (ns : List (List UInt8)), L.splitL t = n :: ns → t = n ++ L.flat ns
  | [], n, ns, h => by
    unfold L.splitL at h
    injection h with h1 h2
    subst h1 h2
    rfl
  | c :: t, n, ns, h => by
    unfold L.splitL at h
    split at h
    · rename_i hc
      injection h with h1 h2
      subst h1 hc
      cases hs : L.splitL t with
      | nil => exact absurd hs (L.splitL_ne t)
      | cons m ms =>
        have := split_join t m ms hs
        rw [hs] at h2
        rw [← h2, L.flat_cons, ← this]
        rfl
    · cases hs : L.splitL t with
      | nil => exact absurd hs (L.splitL_ne t)
      | cons m ms =>
        have := split_join t m ms hs
        rw [hs] at h
        injection h with h1 h2
        rw [← h1, ← h2, List.cons_append, ← this]
theorem path_ok {s : ByteArray} (h : L.checkL s.data.toList = 0) : ∃ ns, Okp ns ∧ s = pth ns := by
  have key : ∃ ns, (∀ x ∈ ns, L.Nm x) ∧ s.data.toList = L.render ns := by
    have h0 := h
    unfold L.checkL at h
    split at h
    · cases h
    · split at h
      · rename_i h1
        exact ⟨[], by simp, h1⟩
      · split at h
        · cases h
        · rename_i c t he
          split at h
          · cases h
          · rename_i hc
            split at h
            · cases h
            · split at h
              · rename_i ha
                cases hs : L.splitL t with
                | nil => exact absurd hs (L.splitL_ne t)
                | cons n ns =>
                  have hj := split_join t n ns hs
                  rw [hs] at ha
                  have hall := List.all_eq_true.1 ha
                  have hc' : c = 47 := Classical.not_not.1 hc
                  refine ⟨n :: ns, fun x hx => L.name_nm (hall x hx), ?_⟩
                  rw [L.render_cons, ← hj, ← hc']
                  exact he
              · cases h
  obtain ⟨ns, h1, h2⟩ := key
  refine ⟨ns, ⟨h1, by rw [← h2]; exact h⟩, L.bytes_ext ?_⟩
  rw [pth_data]; exact h2
theorem rjoin_f (ns : List (List UInt8)) (n : List UInt8) (hn : ∀ x ∈ ns, L.Nm x) (h1 : (L.render ns).length ≤ 1000) (h2 : n.length ≤ 1000) : donjonref7_Join.f (pth ns) ⟨n.toArray⟩ = some (pth (ns ++ [n])) := join_f ns n hn h1 h2
theorem rparts_f {ns : List (List UInt8)} (hok : Okp ns) (k : Nat) (hk : 200 < k) : P.donjonref7_Parts.f k (pth ns) = some (ns.map fun l => ⟨l.toArray⟩) := by
  have hz := pth_size ns
  have hl := check_len hok.2
  rw [P.ref_parts (pth ns) (by omega) k (by omega)]
  congr 1
  cases ns with
  | nil => rfl
  | cons n ns =>
    have h1 : 1 ≤ n.length := (hok.1 n List.mem_cons_self).2
    rw [L.render_cons] at hz
    simp only [List.length_cons, List.length_append] at hz
    rw [if_pos (by omega), pth_data, L.render_cons, List.drop_one, List.tail_cons, L.split_flat ns n (hok.1 n List.mem_cons_self).1 (fun x hx => (hok.1 x (List.mem_cons_of_mem _ hx)).1)]
set_option maxHeartbeats 1000000 in
set_option maxRecDepth 100000 in
theorem see_bad (p : ByteArray) (x : Int) (hx : L.checkL p.data.toList = x) (hne : x ≠ 0) (u : ByteArray) (a : S41) (A : Option Addr) (n c : Nat) (w : World) :
    Calls Tryd.prog 43 #[.slice A n c, .agg #[.string u, .int .i64 a.f0, .int .i64 a.f1, .int .i64 a.f2, .int .i64 a.f3], .string p] w (NodeE z50 x w) := by
  have HK := Lib.hid fun w1 => P.path_Check.calls 100 p x w1 (by rw [P.path_check _ _ (by omega), hx])
  have hxe : (x != 0) = true := by simpa using hne
  have hxf : (x == 0) = false := by simpa using hne
  clear hx
  go_enter Tryd.func43, Tryd.ntmps43
  go_wp2_with (go_at_call 23; refine (HK.out _).mono ?_; rintro e w1 ⟨rfl, hb⟩; have E2 := (show w1.heap[w.heap.size + 1]? = some (.cells #[.string (⟨#[]⟩ : ByteArray), .bool false, .int .i64 0, .int .i64 0, .int .i64 0, .int .i64 0, .slice none 0 0, .int .i64 0, .int .i64 0, .int .i64 0, .int .i64 0, .slice none 0 0, .int .i64 0, .int .i64 0, .int .i64 0, .int .i64 0] 50) from by have h := blk_below (blk_new (w.alloc (.cells #[.string u, .int .i64 a.f0, .int .i64 a.f1, .int .i64 a.f2, .int .i64 a.f3] 55)) (.cells #[.string (⟨#[]⟩ : ByteArray), .bool false, .int .i64 0, .int .i64 0, .int .i64 0, .int .i64 0, .slice none 0 0, .int .i64 0, .int .i64 0, .int .i64 0, .int .i64 0, .slice none 0 0, .int .i64 0, .int .i64 0, .int .i64 0, .int .i64 0] 50)) hb; rwa [World.size_alloc] at h); have r2 := wr50_blk E2 (cs := #[.string (⟨#[]⟩ : ByteArray), .bool false, .int .i64 0, .int .i64 0, .int .i64 0, .int .i64 0, .slice none 0 0, .int .i64 0, .int .i64 0, .int .i64 0, .int .i64 0, .slice none 0 0, .int .i64 0, .int .i64 0, .int .i64 0, .int .i64 0]) rfl rfl (by simp [Value.oneCell']); have HE := Lib.hid (setRow_heap _ _ _ #[.string (⟨#[]⟩ : ByteArray), .bool false, .int .i64 0, .int .i64 0, .int .i64 0, .int .i64 0, .slice none 0 0, .int .i64 0, .int .i64 0, .int .i64 0, .int .i64 0, .slice none 0 0, .int .i64 0, .int .i64 0, .int .i64 0, .int .i64 0] _ _ E2); have HB9 := Lib.hid (below_setRow (below_step (below_alloc (below_alloc (Below.refl w.heap.size w) (.cells #[.string u, .int .i64 a.f0, .int .i64 a.f1, .int .i64 a.f2, .int .i64 a.f3] 55)) (.cells #[.string (⟨#[]⟩ : ByteArray), .bool false, .int .i64 0, .int .i64 0, .int .i64 0, .int .i64 0, .slice none 0 0, .int .i64 0, .int .i64 0, .int .i64 0, .int .i64 0, .slice none 0 0, .int .i64 0, .int .i64 0, .int .i64 0, .int .i64 0] 50)) hb) (Nat.le_succ _) #[.string (⟨#[]⟩ : ByteArray), .bool false, .int .i64 0, .int .i64 0, .int .i64 0, .int .i64 0, .slice none 0 0, .int .i64 0, .int .i64 0, .int .i64 0, .int .i64 0, .slice none 0 0, .int .i64 0, .int .i64 0, .int .i64 0, .int .i64 0]); clear E2 hb)
  refine bodyPost_ret (results_ct rfl _ _ (w.heap.size + 1) 50 _ (0, 0) _ rfl HE.out Tryd.underlying50 rfl (by kernel_rfl)) rfl ?_
  exact ⟨_, rfl, z50_FK _ _, HB9.out⟩
set_option maxHeartbeats 1000000 in
set_option maxRecDepth 100000 in
theorem may_out (p : ByteArray) (mode : Int) (hm : mode < 1 ∨ 7 < mode) (u : ByteArray) (a : S41) (A : Option Addr) (n c : Nat) (w : World) :
    Calls Tryd.prog 35 #[.slice A n c, .agg #[.string u, .int .i64 a.f0, .int .i64 a.f1, .int .i64 a.f2, .int .i64 a.f3], .string p, .int .i64 mode] w (NodeE z50 1 w) := by
  have E2 := Lib.hid (show ((w.alloc (.cells #[.string u, .int .i64 a.f0, .int .i64 a.f1, .int .i64 a.f2, .int .i64 a.f3] 55)).alloc (.cells #[.string (⟨#[]⟩ : ByteArray), .bool false, .int .i64 0, .int .i64 0, .int .i64 0, .int .i64 0, .slice none 0 0, .int .i64 0, .int .i64 0, .int .i64 0, .int .i64 0, .slice none 0 0, .int .i64 0, .int .i64 0, .int .i64 0, .int .i64 0] 50)).heap[w.heap.size + 1]? = some (.cells #[.string (⟨#[]⟩ : ByteArray), .bool false, .int .i64 0, .int .i64 0, .int .i64 0, .int .i64 0, .slice none 0 0, .int .i64 0, .int .i64 0, .int .i64 0, .int .i64 0, .slice none 0 0, .int .i64 0, .int .i64 0, .int .i64 0, .int .i64 0] 50) by have := blk_new (w.alloc (.cells #[.string u, .int .i64 a.f0, .int .i64 a.f1, .int .i64 a.f2, .int .i64 a.f3] 55)) (.cells #[.string (⟨#[]⟩ : ByteArray), .bool false, .int .i64 0, .int .i64 0, .int .i64 0, .int .i64 0, .slice none 0 0, .int .i64 0, .int .i64 0, .int .i64 0, .int .i64 0, .slice none 0 0, .int .i64 0, .int .i64 0, .int .i64 0, .int .i64 0] 50); rwa [World.size_alloc] at this)
  have HB0 := Lib.hid (below_alloc (below_alloc (Below.refl w.heap.size w) (.cells #[.string u, .int .i64 a.f0, .int .i64 a.f1, .int .i64 a.f2, .int .i64 a.f3] 55)) (.cells #[.string (⟨#[]⟩ : ByteArray), .bool false, .int .i64 0, .int .i64 0, .int .i64 0, .int .i64 0, .slice none 0 0, .int .i64 0, .int .i64 0, .int .i64 0, .int .i64 0, .slice none 0 0, .int .i64 0, .int .i64 0, .int .i64 0, .int .i64 0] 50))
  have r2 := wr50_blk E2.out (cs := #[.string (⟨#[]⟩ : ByteArray), .bool false, .int .i64 0, .int .i64 0, .int .i64 0, .int .i64 0, .slice none 0 0, .int .i64 0, .int .i64 0, .int .i64 0, .int .i64 0, .slice none 0 0, .int .i64 0, .int .i64 0, .int .i64 0, .int .i64 0]) rfl rfl (by simp [Value.oneCell'])
  have HE := Lib.hid (setRow_heap _ _ _ #[.string (⟨#[]⟩ : ByteArray), .bool false, .int .i64 0, .int .i64 0, .int .i64 0, .int .i64 0, .slice none 0 0, .int .i64 0, .int .i64 0, .int .i64 0, .int .i64 0, .slice none 0 0, .int .i64 0, .int .i64 0, .int .i64 0, .int .i64 0] _ _ E2.out)
  have HB9 := Lib.hid (below_setRow HB0.out (Nat.le_succ _) #[.string (⟨#[]⟩ : ByteArray), .bool false, .int .i64 0, .int .i64 0, .int .i64 0, .int .i64 0, .slice none 0 0, .int .i64 0, .int .i64 0, .int .i64 0, .int .i64 0, .slice none 0 0, .int .i64 0, .int .i64 0, .int .i64 0, .int .i64 0])
  rcases hm with hm1 | hm7
  · go_enter Tryd.func35, Tryd.ntmps35
    go_wp2
    refine bodyPost_ret (results_ct rfl _ _ (w.heap.size + 1) 50 _ (0, 0) _ rfl HE.out Tryd.underlying50 rfl (by kernel_rfl)) rfl ?_
    exact ⟨_, rfl, z50_FK _ _, HB9.out⟩
  · go_enter Tryd.func35, Tryd.ntmps35
    go_wp2
    refine bodyPost_ret (results_ct rfl _ _ (w.heap.size + 1) 50 _ (0, 0) _ rfl HE.out Tryd.underlying50 rfl (by kernel_rfl)) rfl ?_
    exact ⟨_, rfl, z50_FK _ _, HB9.out⟩
set_option maxHeartbeats 1000000 in
set_option maxRecDepth 100000 in
theorem may_err (p : ByteArray) (mode : Int) (h1 : 1 ≤ mode) (h7 : mode ≤ 7) (x : Int) (hne : x ≠ 0) (nd : S50) (u : ByteArray) (a : S41) (A : Option Addr) (n c : Nat) (w : World)
    (hS : ∀ w1, Below w.heap.size w w1 → Calls Tryd.prog 43 #[.slice A n c, .agg #[.string u, .int .i64 a.f0, .int .i64 a.f1, .int .i64 a.f2, .int .i64 a.f3], .string p] w1 (NodeE nd x w1)) :
    Calls Tryd.prog 35 #[.slice A n c, .agg #[.string u, .int .i64 a.f0, .int .i64 a.f1, .int .i64 a.f2, .int .i64 a.f3], .string p, .int .i64 mode] w (NodeE z50 x w) := by
  have E1 := Lib.hid (blk_alloc (blk_new w (.cells #[.string u, .int .i64 a.f0, .int .i64 a.f1, .int .i64 a.f2, .int .i64 a.f3] 55)) (.cells #[.string (⟨#[]⟩ : ByteArray), .bool false, .int .i64 0, .int .i64 0, .int .i64 0, .int .i64 0, .slice none 0 0, .int .i64 0, .int .i64 0, .int .i64 0, .int .i64 0, .slice none 0 0, .int .i64 0, .int .i64 0, .int .i64 0, .int .i64 0] 50))
  have E2 := Lib.hid (show ((w.alloc (.cells #[.string u, .int .i64 a.f0, .int .i64 a.f1, .int .i64 a.f2, .int .i64 a.f3] 55)).alloc (.cells #[.string (⟨#[]⟩ : ByteArray), .bool false, .int .i64 0, .int .i64 0, .int .i64 0, .int .i64 0, .slice none 0 0, .int .i64 0, .int .i64 0, .int .i64 0, .int .i64 0, .slice none 0 0, .int .i64 0, .int .i64 0, .int .i64 0, .int .i64 0] 50)).heap[w.heap.size + 1]? = some (.cells #[.string (⟨#[]⟩ : ByteArray), .bool false, .int .i64 0, .int .i64 0, .int .i64 0, .int .i64 0, .slice none 0 0, .int .i64 0, .int .i64 0, .int .i64 0, .int .i64 0, .slice none 0 0, .int .i64 0, .int .i64 0, .int .i64 0, .int .i64 0] 50) by have := blk_new (w.alloc (.cells #[.string u, .int .i64 a.f0, .int .i64 a.f1, .int .i64 a.f2, .int .i64 a.f3] 55)) (.cells #[.string (⟨#[]⟩ : ByteArray), .bool false, .int .i64 0, .int .i64 0, .int .i64 0, .int .i64 0, .slice none 0 0, .int .i64 0, .int .i64 0, .int .i64 0, .int .i64 0, .slice none 0 0, .int .i64 0, .int .i64 0, .int .i64 0, .int .i64 0] 50); rwa [World.size_alloc] at this)
  have HB0 := Lib.hid (below_alloc (below_alloc (Below.refl w.heap.size w) (.cells #[.string u, .int .i64 a.f0, .int .i64 a.f1, .int .i64 a.f2, .int .i64 a.f3] 55)) (.cells #[.string (⟨#[]⟩ : ByteArray), .bool false, .int .i64 0, .int .i64 0, .int .i64 0, .int .i64 0, .slice none 0 0, .int .i64 0, .int .i64 0, .int .i64 0, .int .i64 0, .slice none 0 0, .int .i64 0, .int .i64 0, .int .i64 0, .int .i64 0] 50))
  have HS := Lib.hid hS
  have hxe : (x != 0) = true := by simpa using hne
  have hxf : (x == 0) = false := by simpa using hne
  have hm1' : ¬ mode < 1 := by omega
  have hm7' : ¬ 7 < mode := by omega
  clear hS
  go_enter Tryd.func35, Tryd.ntmps35
  go_wp2_with (go_at_call 43; refine (HS.out _ HB0.out).mono ?_; rintro e w4 ⟨cs, rfl, hFK, hb⟩; obtain ⟨A6, c6, A11, c11, rfl, hx⟩ := k50_openF hFK; have E2' := Lib.hid (blk_alloc (blk_below E2.out hb) (.cells #[.string nd.f0, .bool nd.f1, .int .i64 nd.f2.f0, .int .i64 nd.f2.f1, .int .i64 nd.f2.f2, .int .i64 nd.f2.f3, .slice A6 nd.f3.length c6, .int .i64 nd.f4.f0, .int .i64 nd.f4.f1, .int .i64 nd.f4.f2, .int .i64 nd.f4.f3, .slice A11 nd.f5.length c11, .int .i64 nd.f6.f0, .int .i64 nd.f6.f1, .int .i64 nd.f6.f2, .int .i64 nd.f6.f3] 50)); have HB4 := Lib.hid (below_alloc (below_step HB0.out hb) (.cells #[.string nd.f0, .bool nd.f1, .int .i64 nd.f2.f0, .int .i64 nd.f2.f1, .int .i64 nd.f2.f2, .int .i64 nd.f2.f3, .slice A6 nd.f3.length c6, .int .i64 nd.f4.f0, .int .i64 nd.f4.f1, .int .i64 nd.f4.f2, .int .i64 nd.f4.f3, .slice A11 nd.f5.length c11, .int .i64 nd.f6.f0, .int .i64 nd.f6.f1, .int .i64 nd.f6.f2, .int .i64 nd.f6.f3] 50)); have r2 := wr50_blk E2'.out (cs := #[.string (⟨#[]⟩ : ByteArray), .bool false, .int .i64 0, .int .i64 0, .int .i64 0, .int .i64 0, .slice none 0 0, .int .i64 0, .int .i64 0, .int .i64 0, .int .i64 0, .slice none 0 0, .int .i64 0, .int .i64 0, .int .i64 0, .int .i64 0]) rfl rfl (by simp [Value.oneCell']); have HE := Lib.hid (setRow_heap _ _ _ #[.string (⟨#[]⟩ : ByteArray), .bool false, .int .i64 0, .int .i64 0, .int .i64 0, .int .i64 0, .slice none 0 0, .int .i64 0, .int .i64 0, .int .i64 0, .int .i64 0, .slice none 0 0, .int .i64 0, .int .i64 0, .int .i64 0, .int .i64 0] _ _ E2'.out); have HB9 := Lib.hid (below_setRow HB4.out (Nat.le_succ _) #[.string (⟨#[]⟩ : ByteArray), .bool false, .int .i64 0, .int .i64 0, .int .i64 0, .int .i64 0, .slice none 0 0, .int .i64 0, .int .i64 0, .int .i64 0, .int .i64 0, .slice none 0 0, .int .i64 0, .int .i64 0, .int .i64 0, .int .i64 0]); clear hFK hb hx)
  refine bodyPost_ret (results_ct rfl _ _ (w.heap.size + 1) 50 _ (0, 0) _ rfl HE.out Tryd.underlying50 rfl (by kernel_rfl)) rfl ?_
  exact ⟨_, rfl, z50_FK _ _, HB9.out⟩
end Go.Proofs.YtmndeoncbocplaaDoor.C
end
section
set_option linter.unusedVariables false
set_option linter.unusedSimpArgs false
namespace Go.Proofs.YtmndeoncbocplaaDoor.C
open Go.RowKit Go.Proofs.YtmndeoncbocplaaDoor.Q Go.Proofs.YtmndeoncbocplaaDoorW.PrintWords Go.Proofs.YtmndeoncbocplaaDoorW.PrintLast Go.Proofs.YtmndeoncbocplaaDoorW.PrintMore
attribute [local go_sem ↓] rd_at50 wr_at50 al_at50
attribute [local go_sem] rd50_new wr50_new al50
theorem rfind_c (l : List S50) (p : ByteArray) (A : Option Addr) (c : Nat) (w0 w : World) (hC : Kd.C k50 w0 A l.length l) (hb0 : Below w0.heap.size w0 w) (hc : l.length ≤ c) (hA : Asc l) :
    Calls Tryd.prog 40 #[.slice A l.length c, .string p] w (FoundF (fun k => k < w0.heap.size) (nodeN l p) (isN l p) w) := by
  have hlen : l.length ≤ 9223372036854775807 := hC.2.1
  have HX := Lib.hid (find_is hA p)
  go_enter Tryd.func40, Tryd.ntmps40
  go_wp2
  go_loop [6] (fun t => ∃ i : Nat, i ≤ l.length ∧ t = .int .i64 i ∧ Hid (∀ j (h : j < l.length), j < i → (l[j]'h).f0 ≠ p)) (fun t => l.length - (intOf t).toNat)
  case atStart => exact ⟨0, Nat.zero_le _, rfl, Lib.hid fun j _ h => absurd h (Nat.not_lt_zero _)⟩
  case round =>
    obtain ⟨i, hi, rfl, HJ⟩ := hrel
    by_cases hlt : i < l.length
    · obtain ⟨ad, A6, c6, A11, c11, rfl, ⟨h0, h1, h2, h3, h4, h5, h6, h7, h8, h9, h10, h11, h12, h13, h14, h15⟩, HK⟩ := at50 hC (below_alloc hb0 (.cells #[.string (⟨#[]⟩ : ByteArray), .bool false, .int .i64 0, .int .i64 0, .int .i64 0, .int .i64 0, .slice none 0 0, .int .i64 0, .int .i64 0, .int .i64 0, .int .i64 0, .slice none 0 0, .int .i64 0, .int .i64 0, .int .i64 0, .int .i64 0] 50)) i hlt
      by_cases he : (l[i]'hlt).f0.toList = p.toList
      · have hb : ((l[i]'hlt).f0.toList == p.toList) = true := by simpa using he
        have HF := Lib.hid (find_some l p i hlt HJ.out (bytes_of_toList he))
        clear he
        have hld := rd50_of (loadC50 (P := Tryd.prog) ⟨h0, h1, h2, h3, h4, h5, h6, h7, h8, h9, h10, h11, h12, h13, h14, h15⟩)
        clear h1 h2 h3 h4 h5 h6 h7 h8 h9 h10 h11 h12 h13 h14 h15
        go_wp2
        refine bodyPost_ret (results_ct rfl _ _ w.heap.size 50 _ (0, 0) _ rfl (heap_alloc_new w _) Tryd.underlying50 rfl (by kernel_rfl)) rfl ?_
        refine ⟨_, by rw [← HX.out.1, HF.out]; rfl, ?_, below_alloc (Below.refl _ _) _⟩
        rw [← HX.out.2, HF.out]
        exact Kd.FK_below (K_foot HK.out) (below_alloc hb0 _)
      · have hb : ((l[i]'hlt).f0.toList == p.toList) = false := by simpa using he
        have HN := Lib.hid he
        clear he h1 h2 h3 h4 h5 h6 h7 h8 h9 h10 h11 h12 h13 h14 h15 HK
        go_wp2
        go_round
        case rel =>
          refine ⟨i + 1, hlt, by go_num, Lib.hid fun j hj hji => ?_⟩
          by_cases h : j = i
          · subst h
            intro e
            exact HN.out (by rw [e])
          · exact HJ.out j hj (by omega)
        case measure => simp [intOf]; omega
    · have HF := Lib.hid (find_none l p fun j hj => HJ.out j hj (by omega))
      clear HJ
      go_wp2
      refine bodyPost_ret (results_ct rfl _ _ w.heap.size 50 _ (0, 0) _ rfl (heap_alloc_new w _) Tryd.underlying50 rfl (by kernel_rfl)) rfl ?_
      refine ⟨_, by rw [← HX.out.1, HF.out]; rfl, ?_, below_alloc (Below.refl _ _) _⟩
      rw [← HX.out.2, HF.out]
      exact z50_FK _ _
/-- A node and a number; the node lies where it lay. -/
def NodeR (w0 : World) (n : S50) (k : Int) (w : World) (e : Ending) (w' : World) : Prop := ∃ cs : List Value, e = .returned (.tuple #[.agg cs.toArray, .int .i64 k]) ∧ k50.FK w' (fun k => k < w0.heap.size) n cs ∧ Below w.heap.size w w'
set_option maxHeartbeats 1000000 in
set_option maxRecDepth 100000 in
theorem rsee_bad (p : ByteArray) (x : Int) (hx : L.checkL p.data.toList = x) (hne : x ≠ 0) (u : ByteArray) (a : S41) (A : Option Addr) (n c : Nat) (w0 w : World) :
    Calls Tryd.prog 74 #[.slice A n c, .agg #[.string u, .int .i64 a.f0, .int .i64 a.f1, .int .i64 a.f2, .int .i64 a.f3], .string p] w (NodeR w0 z50 x w) := by
  have HK := Lib.hid fun w1 => P.donjonref7_Check.calls 2000 p x w1 (by rw [P.ref_check _ _ (by omega), hx])
  have hxe : (x != 0) = true := by simpa using hne
  have hxf : (x == 0) = false := by simpa using hne
  clear hx
  go_enter Tryd.func74, Tryd.ntmps74
  go_wp2_with (go_at_call 24; refine (HK.out _).mono ?_; rintro e w1 ⟨rfl, hb⟩; have E2 := (show w1.heap[w.heap.size + 1]? = some (.cells #[.string (⟨#[]⟩ : ByteArray), .bool false, .int .i64 0, .int .i64 0, .int .i64 0, .int .i64 0, .slice none 0 0, .int .i64 0, .int .i64 0, .int .i64 0, .int .i64 0, .slice none 0 0, .int .i64 0, .int .i64 0, .int .i64 0, .int .i64 0] 50) from by have h := blk_below (blk_new (w.alloc (.cells #[.string u, .int .i64 a.f0, .int .i64 a.f1, .int .i64 a.f2, .int .i64 a.f3] 97)) (.cells #[.string (⟨#[]⟩ : ByteArray), .bool false, .int .i64 0, .int .i64 0, .int .i64 0, .int .i64 0, .slice none 0 0, .int .i64 0, .int .i64 0, .int .i64 0, .int .i64 0, .slice none 0 0, .int .i64 0, .int .i64 0, .int .i64 0, .int .i64 0] 50)) hb; rwa [World.size_alloc] at h); have r2 := wr50_blk E2 (cs := #[.string (⟨#[]⟩ : ByteArray), .bool false, .int .i64 0, .int .i64 0, .int .i64 0, .int .i64 0, .slice none 0 0, .int .i64 0, .int .i64 0, .int .i64 0, .int .i64 0, .slice none 0 0, .int .i64 0, .int .i64 0, .int .i64 0, .int .i64 0]) rfl rfl (by simp [Value.oneCell']); have HE := Lib.hid (setRow_heap _ _ _ #[.string (⟨#[]⟩ : ByteArray), .bool false, .int .i64 0, .int .i64 0, .int .i64 0, .int .i64 0, .slice none 0 0, .int .i64 0, .int .i64 0, .int .i64 0, .int .i64 0, .slice none 0 0, .int .i64 0, .int .i64 0, .int .i64 0, .int .i64 0] _ _ E2); have HB9 := Lib.hid (below_setRow (below_step (below_alloc (below_alloc (Below.refl w.heap.size w) (.cells #[.string u, .int .i64 a.f0, .int .i64 a.f1, .int .i64 a.f2, .int .i64 a.f3] 97)) (.cells #[.string (⟨#[]⟩ : ByteArray), .bool false, .int .i64 0, .int .i64 0, .int .i64 0, .int .i64 0, .slice none 0 0, .int .i64 0, .int .i64 0, .int .i64 0, .int .i64 0, .slice none 0 0, .int .i64 0, .int .i64 0, .int .i64 0, .int .i64 0] 50)) hb) (Nat.le_succ _) #[.string (⟨#[]⟩ : ByteArray), .bool false, .int .i64 0, .int .i64 0, .int .i64 0, .int .i64 0, .slice none 0 0, .int .i64 0, .int .i64 0, .int .i64 0, .int .i64 0, .slice none 0 0, .int .i64 0, .int .i64 0, .int .i64 0, .int .i64 0]); clear E2 hb)
  refine bodyPost_ret (results_ct rfl _ _ (w.heap.size + 1) 50 _ (0, 0) _ rfl HE.out Tryd.underlying50 rfl (by kernel_rfl)) rfl ?_
  exact ⟨_, rfl, z50_FK _ _, HB9.out⟩
set_option maxHeartbeats 2000000 in
set_option maxRecDepth 100000 in
theorem rsee_c {l : List S50} (T : Tree l) (u : ByteArray) (a : S41) (hL : Lab a) (ns : List (List UInt8)) (hok : Okp ns) (p : ByteArray) (hp : pth ns = p) (A : Option Addr) (c : Nat) (w0 w : World) (hC : Kd.C k50 w0 A l.length l) (hb0 : Below w0.heap.size w0 w) (hc : l.length ≤ c) :
    Calls Tryd.prog 74 #[.slice A l.length c, .agg #[.string u, .int .i64 a.f0, .int .i64 a.f1, .int .i64 a.f2, .int .i64 a.f3], .string p] w (NodeR w0 (seeR l a [] ns).1 (seeR l a [] ns).2 w) := by
  have HK := Lib.hid fun w1 => P.donjonref7_Check.calls 2000 p 0 w1 (by rw [P.ref_check _ _ (by omega), ← hp, pth_data, hok.2])
  have HP := Lib.hid fun w1 => P.donjonref7_Parts.calls 300 p _ w1 (by rw [← hp]; exact rparts_f hok 300 (by omega))
  have hpl : ∀ i, (L.render (ns.take i)).length ≤ 1000 := fun i => by
    have h1 := render_le (ns.take i); have h2 := flat_take ns i; have h3 := flat_le ns; have h4 := check_len hok.2
    omega
  have hnl : ∀ i (h : i < ns.length), (ns[i]'h).length ≤ 1000 := fun i h => by
    have h2 := flat_take ns (i + 1); have h3 := flat_le ns; have h4 := check_len hok.2
    rw [List.take_succ_eq_append_getElem h, L.flat_snoc, List.length_append, List.length_cons] at h2
    omega
  have HJ := Lib.hid fun i (h : i < ns.length) w1 => donjonref7_Join.calls (pth (ns.take i)) ⟨(ns[i]'h).toArray⟩ (pth (ns.take (i + 1))) w1 (by rw [List.take_succ_eq_append_getElem h]; exact rjoin_f _ _ (fun x hx => hok.1 x (List.mem_of_mem_take hx)) (hpl i) (hnl i h))
  clear hpl hnl
  have HFD := Lib.hid fun q wr (hb : Below w.heap.size w wr) => rfind_c l q A c w0 wr hC (below_step hb0 hb) hc T.asc
  have HT := Lib.hid T
  have HLA := Lib.hid hL
  have HEND := Lib.hid (show seeR l a ns [] = if isN l p then (nodeN l p, 0) else (z50, 2) by unfold seeR; rw [hp])
  have hz0 := below_size hb0
  obtain ⟨nms, hnms⟩ : ∃ nms : List ByteArray, nms = ns.map fun l => ⟨l.toArray⟩ := ⟨_, rfl⟩
  have HNM := Lib.hid hnms
  rw [← hnms] at HP
  clear hnms hC hok hp hL
  go_enter Tryd.func74, Tryd.ntmps74
  go_wp2_with (first | (go_at_call 24; refine (HK.out _).mono ?_; rintro e w1 ⟨rfl, hb⟩; have E1 := Lib.hid (blk_below (blk_alloc (blk_new w (.cells #[.string u, .int .i64 a.f0, .int .i64 a.f1, .int .i64 a.f2, .int .i64 a.f3] 97)) (.cells #[.string (⟨#[]⟩ : ByteArray), .bool false, .int .i64 0, .int .i64 0, .int .i64 0, .int .i64 0, .slice none 0 0, .int .i64 0, .int .i64 0, .int .i64 0, .int .i64 0, .slice none 0 0, .int .i64 0, .int .i64 0, .int .i64 0, .int .i64 0] 50)) hb); have E2 := Lib.hid (show w1.heap[w.heap.size + 1]? = some (.cells #[.string (⟨#[]⟩ : ByteArray), .bool false, .int .i64 0, .int .i64 0, .int .i64 0, .int .i64 0, .slice none 0 0, .int .i64 0, .int .i64 0, .int .i64 0, .int .i64 0, .slice none 0 0, .int .i64 0, .int .i64 0, .int .i64 0, .int .i64 0] 50) from by have h := blk_below (blk_new (w.alloc (.cells #[.string u, .int .i64 a.f0, .int .i64 a.f1, .int .i64 a.f2, .int .i64 a.f3] 97)) (.cells #[.string (⟨#[]⟩ : ByteArray), .bool false, .int .i64 0, .int .i64 0, .int .i64 0, .int .i64 0, .slice none 0 0, .int .i64 0, .int .i64 0, .int .i64 0, .int .i64 0, .slice none 0 0, .int .i64 0, .int .i64 0, .int .i64 0, .int .i64 0] 50)) hb; rwa [World.size_alloc] at h); have HB := Lib.hid (below_step (below_alloc (below_alloc (Below.refl w.heap.size w) (.cells #[.string u, .int .i64 a.f0, .int .i64 a.f1, .int .i64 a.f2, .int .i64 a.f3] 97)) (.cells #[.string (⟨#[]⟩ : ByteArray), .bool false, .int .i64 0, .int .i64 0, .int .i64 0, .int .i64 0, .slice none 0 0, .int .i64 0, .int .i64 0, .int .i64 0, .int .i64 0, .slice none 0 0, .int .i64 0, .int .i64 0, .int .i64 0, .int .i64 0] 50)) hb); clear hb) | (go_at_call 62; refine (HP.out _).mono ?_; rintro e w2 ⟨v9, rfl, hR, hb⟩; obtain ⟨A9, c9, rfl, hl9, hC9⟩ := Kd.R_reads hR; have HF9 := Lib.hid hC9; have E1 := Lib.hid (blk_below E1.out hb); have E2 := Lib.hid (blk_below E2.out hb); have HB := Lib.hid (below_step HB.out hb); clear hb hR hC9))
  have HLL := Lib.hid (show nms.length = ns.length by rw [HNM.out]; simp)
  go_loopg [10, 11] ns.length (fun k s10 s11 wr => ∃ i, i ≤ ns.length ∧ ns.length - i ≤ k ∧ s11 = .int .i64 i ∧ s10 = .string (pth (ns.take i)) ∧ Hid (Below w2.heap.size w2 wr) ∧ Hid (seeR l a [] ns = seeR l a (ns.take i) (ns.drop i)))
  case atStart => exact ⟨0, Nat.zero_le _, Nat.le_refl _, rfl, rfl, Lib.hid (Below.refl _ _), Lib.hid rfl⟩
  case round =>
    obtain ⟨i, hi, hik, rfl, rfl, HW, HV⟩ := hrel
    have HBW := Lib.hid (below_step HB.out HW.out)
    have E1w := Lib.hid (blk_below E1.out HW.out)
    have E2w := Lib.hid (blk_below E2.out HW.out)
    by_cases hlt' : i < nms.length
    · have hlt : i < ns.length := by have := HLL.out; omega
      obtain ⟨ad9, c, hA9, _, hK9, hc9⟩ := Kd.C_get (Kd.C_below HF9.out HW.out) (⟨#[]⟩ : ByteArray) (i : Int) (by omega) (by omega)
      obtain rfl : c = [.string ⟨(ns[i]'hlt).toArray⟩] := by
        have h9 : c = [.string (nms.getD (i : Int).toNat ⟨#[]⟩)] := hK9
        rw [h9, Int.toNat_natCast, HNM.out]
        simp [List.getD_eq_getElem?_getD, List.getElem?_eq_getElem hlt]
      have h9 := hc9 0 _ rfl
      subst hA9
      simp only [Int.toNat_natCast, show Kd.string.sz = 1 from rfl, Nat.mul_one, Nat.add_zero] at h9
      clear hc9 hK9
      have H9 := Lib.hid h9
      clear h9
      have HV1 := Lib.hid (show seeR l a [] ns = if isN l (pth (ns.take i)) then (if (nodeN l (pth (ns.take i))).f1 then (if lover a (nodeN l (pth (ns.take i))).f2 then seeR l a (ns.take (i + 1)) (ns.drop (i + 1)) else (z50, 15)) else (z50, 3)) else (z50, 2) by
        rw [HV.out, List.drop_eq_getElem_cons hlt, seeR, List.take_succ_eq_append_getElem hlt])
      have HF := Lib.hid (HFD.out (pth (ns.take i)) wr HBW.out)
      have HJ := Lib.hid (HJ.out i hlt)
      have HMM := Lib.hid (fun h => (HT.out.ok _ (nodeN_mem (l := l) (p := pth (ns.take i)) h)).1)
      clear HV
      generalize nodeN l (pth (ns.take i)) = nd at HF HV1 HMM
      generalize isN l (pth (ns.take i)) = b at HF HV1 HMM
      cases b with
      | false =>
        go_wp2_with (go_at_call 40; refine HF.out.mono ?_; rintro e w4 ⟨cs, rfl, hFK, hb⟩; obtain ⟨A6, c6, A11, c11, rfl, _⟩ := k50_openF hFK; have E1' := Lib.hid (blk_alloc (blk_below E1w.out hb) (.cells #[.string nd.f0, .bool nd.f1, .int .i64 nd.f2.f0, .int .i64 nd.f2.f1, .int .i64 nd.f2.f2, .int .i64 nd.f2.f3, .slice A6 nd.f3.length c6, .int .i64 nd.f4.f0, .int .i64 nd.f4.f1, .int .i64 nd.f4.f2, .int .i64 nd.f4.f3, .slice A11 nd.f5.length c11, .int .i64 nd.f6.f0, .int .i64 nd.f6.f1, .int .i64 nd.f6.f2, .int .i64 nd.f6.f3] 50)); have E2' := Lib.hid (blk_alloc (blk_below E2w.out hb) (.cells #[.string nd.f0, .bool nd.f1, .int .i64 nd.f2.f0, .int .i64 nd.f2.f1, .int .i64 nd.f2.f2, .int .i64 nd.f2.f3, .slice A6 nd.f3.length c6, .int .i64 nd.f4.f0, .int .i64 nd.f4.f1, .int .i64 nd.f4.f2, .int .i64 nd.f4.f3, .slice A11 nd.f5.length c11, .int .i64 nd.f6.f0, .int .i64 nd.f6.f1, .int .i64 nd.f6.f2, .int .i64 nd.f6.f3] 50)); have HB4 := Lib.hid (below_alloc (below_step HBW.out hb) (.cells #[.string nd.f0, .bool nd.f1, .int .i64 nd.f2.f0, .int .i64 nd.f2.f1, .int .i64 nd.f2.f2, .int .i64 nd.f2.f3, .slice A6 nd.f3.length c6, .int .i64 nd.f4.f0, .int .i64 nd.f4.f1, .int .i64 nd.f4.f2, .int .i64 nd.f4.f3, .slice A11 nd.f5.length c11, .int .i64 nd.f6.f0, .int .i64 nd.f6.f1, .int .i64 nd.f6.f2, .int .i64 nd.f6.f3] 50)); have HW4 := Lib.hid (below_alloc (below_step HW.out hb) (.cells #[.string nd.f0, .bool nd.f1, .int .i64 nd.f2.f0, .int .i64 nd.f2.f1, .int .i64 nd.f2.f2, .int .i64 nd.f2.f3, .slice A6 nd.f3.length c6, .int .i64 nd.f4.f0, .int .i64 nd.f4.f1, .int .i64 nd.f4.f2, .int .i64 nd.f4.f3, .slice A11 nd.f5.length c11, .int .i64 nd.f6.f0, .int .i64 nd.f6.f1, .int .i64 nd.f6.f2, .int .i64 nd.f6.f3] 50)); have EN := Lib.hid (blk_new w4 (.cells #[.string nd.f0, .bool nd.f1, .int .i64 nd.f2.f0, .int .i64 nd.f2.f1, .int .i64 nd.f2.f2, .int .i64 nd.f2.f3, .slice A6 nd.f3.length c6, .int .i64 nd.f4.f0, .int .i64 nd.f4.f1, .int .i64 nd.f4.f2, .int .i64 nd.f4.f3, .slice A11 nd.f5.length c11, .int .i64 nd.f6.f0, .int .i64 nd.f6.f1, .int .i64 nd.f6.f2, .int .i64 nd.f6.f3] 50)); have r2 := wr50_blk E2'.out (cs := #[.string (⟨#[]⟩ : ByteArray), .bool false, .int .i64 0, .int .i64 0, .int .i64 0, .int .i64 0, .slice none 0 0, .int .i64 0, .int .i64 0, .int .i64 0, .int .i64 0, .slice none 0 0, .int .i64 0, .int .i64 0, .int .i64 0, .int .i64 0]) rfl rfl (by simp [Value.oneCell']); have HE := Lib.hid (setRow_heap _ _ _ #[.string (⟨#[]⟩ : ByteArray), .bool false, .int .i64 0, .int .i64 0, .int .i64 0, .int .i64 0, .slice none 0 0, .int .i64 0, .int .i64 0, .int .i64 0, .int .i64 0, .slice none 0 0, .int .i64 0, .int .i64 0, .int .i64 0, .int .i64 0] _ _ E2'.out); have HB9 := Lib.hid (below_setRow (HB4.out) (Nat.le_succ _) #[.string (⟨#[]⟩ : ByteArray), .bool false, .int .i64 0, .int .i64 0, .int .i64 0, .int .i64 0, .slice none 0 0, .int .i64 0, .int .i64 0, .int .i64 0, .int .i64 0, .slice none 0 0, .int .i64 0, .int .i64 0, .int .i64 0, .int .i64 0]); clear hb hFK)
        refine bodyPost_ret (results_ct rfl _ _ (w.heap.size + 1) 50 _ (0, 0) _ rfl HE.out Tryd.underlying50 rfl (by kernel_rfl)) rfl ?_
        rw [HV1.out]
        exact ⟨_, rfl, z50_FK _ _, HB9.out⟩
      | true =>
        cases hf : nd.f1 with
        | false =>
          have HV2 := Lib.hid (show seeR l a [] ns = (z50, 3) by rw [HV1.out, hf]; rfl)
          have HF1 := Lib.hid hf
          clear hf
          go_wp2_with (go_at_call 40; refine HF.out.mono ?_; rintro e w4 ⟨cs, rfl, hFK, hb⟩; obtain ⟨A6, c6, A11, c11, rfl, _⟩ := k50_openF hFK; have E1' := Lib.hid (blk_alloc (blk_below E1w.out hb) (.cells #[.string nd.f0, .bool nd.f1, .int .i64 nd.f2.f0, .int .i64 nd.f2.f1, .int .i64 nd.f2.f2, .int .i64 nd.f2.f3, .slice A6 nd.f3.length c6, .int .i64 nd.f4.f0, .int .i64 nd.f4.f1, .int .i64 nd.f4.f2, .int .i64 nd.f4.f3, .slice A11 nd.f5.length c11, .int .i64 nd.f6.f0, .int .i64 nd.f6.f1, .int .i64 nd.f6.f2, .int .i64 nd.f6.f3] 50)); have E2' := Lib.hid (blk_alloc (blk_below E2w.out hb) (.cells #[.string nd.f0, .bool nd.f1, .int .i64 nd.f2.f0, .int .i64 nd.f2.f1, .int .i64 nd.f2.f2, .int .i64 nd.f2.f3, .slice A6 nd.f3.length c6, .int .i64 nd.f4.f0, .int .i64 nd.f4.f1, .int .i64 nd.f4.f2, .int .i64 nd.f4.f3, .slice A11 nd.f5.length c11, .int .i64 nd.f6.f0, .int .i64 nd.f6.f1, .int .i64 nd.f6.f2, .int .i64 nd.f6.f3] 50)); have HB4 := Lib.hid (below_alloc (below_step HBW.out hb) (.cells #[.string nd.f0, .bool nd.f1, .int .i64 nd.f2.f0, .int .i64 nd.f2.f1, .int .i64 nd.f2.f2, .int .i64 nd.f2.f3, .slice A6 nd.f3.length c6, .int .i64 nd.f4.f0, .int .i64 nd.f4.f1, .int .i64 nd.f4.f2, .int .i64 nd.f4.f3, .slice A11 nd.f5.length c11, .int .i64 nd.f6.f0, .int .i64 nd.f6.f1, .int .i64 nd.f6.f2, .int .i64 nd.f6.f3] 50)); have HW4 := Lib.hid (below_alloc (below_step HW.out hb) (.cells #[.string nd.f0, .bool nd.f1, .int .i64 nd.f2.f0, .int .i64 nd.f2.f1, .int .i64 nd.f2.f2, .int .i64 nd.f2.f3, .slice A6 nd.f3.length c6, .int .i64 nd.f4.f0, .int .i64 nd.f4.f1, .int .i64 nd.f4.f2, .int .i64 nd.f4.f3, .slice A11 nd.f5.length c11, .int .i64 nd.f6.f0, .int .i64 nd.f6.f1, .int .i64 nd.f6.f2, .int .i64 nd.f6.f3] 50)); have EN := Lib.hid (blk_new w4 (.cells #[.string nd.f0, .bool nd.f1, .int .i64 nd.f2.f0, .int .i64 nd.f2.f1, .int .i64 nd.f2.f2, .int .i64 nd.f2.f3, .slice A6 nd.f3.length c6, .int .i64 nd.f4.f0, .int .i64 nd.f4.f1, .int .i64 nd.f4.f2, .int .i64 nd.f4.f3, .slice A11 nd.f5.length c11, .int .i64 nd.f6.f0, .int .i64 nd.f6.f1, .int .i64 nd.f6.f2, .int .i64 nd.f6.f3] 50)); have d1 : (w4.alloc (.cells #[.string nd.f0, .bool nd.f1, .int .i64 nd.f2.f0, .int .i64 nd.f2.f1, .int .i64 nd.f2.f2, .int .i64 nd.f2.f3, .slice A6 nd.f3.length c6, .int .i64 nd.f4.f0, .int .i64 nd.f4.f1, .int .i64 nd.f4.f2, .int .i64 nd.f4.f3, .slice A11 nd.f5.length c11, .int .i64 nd.f6.f0, .int .i64 nd.f6.f1, .int .i64 nd.f6.f2, .int .i64 nd.f6.f3] 50)).cell? ⟨w4.heap.size, 1, none⟩ = some (.bool false) := (blk_cell EN.out 1).trans (by rw [HF1.out]; rfl); have r2 := wr50_blk E2'.out (cs := #[.string (⟨#[]⟩ : ByteArray), .bool false, .int .i64 0, .int .i64 0, .int .i64 0, .int .i64 0, .slice none 0 0, .int .i64 0, .int .i64 0, .int .i64 0, .int .i64 0, .slice none 0 0, .int .i64 0, .int .i64 0, .int .i64 0, .int .i64 0]) rfl rfl (by simp [Value.oneCell']); have HE := Lib.hid (setRow_heap _ _ _ #[.string (⟨#[]⟩ : ByteArray), .bool false, .int .i64 0, .int .i64 0, .int .i64 0, .int .i64 0, .slice none 0 0, .int .i64 0, .int .i64 0, .int .i64 0, .int .i64 0, .slice none 0 0, .int .i64 0, .int .i64 0, .int .i64 0, .int .i64 0] _ _ E2'.out); have HB9 := Lib.hid (below_setRow (HB4.out) (Nat.le_succ _) #[.string (⟨#[]⟩ : ByteArray), .bool false, .int .i64 0, .int .i64 0, .int .i64 0, .int .i64 0, .slice none 0 0, .int .i64 0, .int .i64 0, .int .i64 0, .int .i64 0, .slice none 0 0, .int .i64 0, .int .i64 0, .int .i64 0, .int .i64 0]); clear hb hFK)
          refine bodyPost_ret (results_ct rfl _ _ (w.heap.size + 1) 50 _ (0, 0) _ rfl HE.out Tryd.underlying50 rfl (by kernel_rfl)) rfl ?_
          rw [HV2.out]
          exact ⟨_, rfl, z50_FK _ _, HB9.out⟩
        | true =>
          have HF1 := Lib.hid hf
          cases hl : lover a nd.f2 with
          | false =>
            have HV2 := Lib.hid (show seeR l a [] ns = (z50, 15) by rw [HV1.out, hf, hl]; rfl)
            have HO := Lib.hid fun w1 => donjonref4_Over.calls a.f0 a.f1 a.f2 a.f3 nd.f2.f0 nd.f2.f1 nd.f2.f2 nd.f2.f3 false w1 (by rw [rover_iff HLA.out (HMM.out rfl), hl])
            clear hl hf
            go_wp2_with (first | (go_at_call 37; refine (HO.out _).mono ?_; rintro e w5 ⟨rfl, hb5⟩; have HW5 := Lib.hid (below_step HW4.out hb5); have E3 := Lib.hid (blk_below E2'.out hb5); have r2 := wr50_blk E3.out (cs := #[.string (⟨#[]⟩ : ByteArray), .bool false, .int .i64 0, .int .i64 0, .int .i64 0, .int .i64 0, .slice none 0 0, .int .i64 0, .int .i64 0, .int .i64 0, .int .i64 0, .slice none 0 0, .int .i64 0, .int .i64 0, .int .i64 0, .int .i64 0]) rfl rfl (by simp [Value.oneCell']); have HE := Lib.hid (setRow_heap _ _ _ #[.string (⟨#[]⟩ : ByteArray), .bool false, .int .i64 0, .int .i64 0, .int .i64 0, .int .i64 0, .slice none 0 0, .int .i64 0, .int .i64 0, .int .i64 0, .int .i64 0, .slice none 0 0, .int .i64 0, .int .i64 0, .int .i64 0, .int .i64 0] _ _ E3.out); have HB9 := Lib.hid (below_setRow (below_step HB4.out hb5) (Nat.le_succ _) #[.string (⟨#[]⟩ : ByteArray), .bool false, .int .i64 0, .int .i64 0, .int .i64 0, .int .i64 0, .slice none 0 0, .int .i64 0, .int .i64 0, .int .i64 0, .int .i64 0, .slice none 0 0, .int .i64 0, .int .i64 0, .int .i64 0, .int .i64 0]); clear hb5) | (go_at_call 40; refine HF.out.mono ?_; rintro e w4 ⟨cs, rfl, hFK, hb⟩; obtain ⟨A6, c6, A11, c11, rfl, _⟩ := k50_openF hFK; have E1' := Lib.hid (blk_alloc (blk_below E1w.out hb) (.cells #[.string nd.f0, .bool nd.f1, .int .i64 nd.f2.f0, .int .i64 nd.f2.f1, .int .i64 nd.f2.f2, .int .i64 nd.f2.f3, .slice A6 nd.f3.length c6, .int .i64 nd.f4.f0, .int .i64 nd.f4.f1, .int .i64 nd.f4.f2, .int .i64 nd.f4.f3, .slice A11 nd.f5.length c11, .int .i64 nd.f6.f0, .int .i64 nd.f6.f1, .int .i64 nd.f6.f2, .int .i64 nd.f6.f3] 50)); have E2' := Lib.hid (blk_alloc (blk_below E2w.out hb) (.cells #[.string nd.f0, .bool nd.f1, .int .i64 nd.f2.f0, .int .i64 nd.f2.f1, .int .i64 nd.f2.f2, .int .i64 nd.f2.f3, .slice A6 nd.f3.length c6, .int .i64 nd.f4.f0, .int .i64 nd.f4.f1, .int .i64 nd.f4.f2, .int .i64 nd.f4.f3, .slice A11 nd.f5.length c11, .int .i64 nd.f6.f0, .int .i64 nd.f6.f1, .int .i64 nd.f6.f2, .int .i64 nd.f6.f3] 50)); have HB4 := Lib.hid (below_alloc (below_step HBW.out hb) (.cells #[.string nd.f0, .bool nd.f1, .int .i64 nd.f2.f0, .int .i64 nd.f2.f1, .int .i64 nd.f2.f2, .int .i64 nd.f2.f3, .slice A6 nd.f3.length c6, .int .i64 nd.f4.f0, .int .i64 nd.f4.f1, .int .i64 nd.f4.f2, .int .i64 nd.f4.f3, .slice A11 nd.f5.length c11, .int .i64 nd.f6.f0, .int .i64 nd.f6.f1, .int .i64 nd.f6.f2, .int .i64 nd.f6.f3] 50)); have HW4 := Lib.hid (below_alloc (below_step HW.out hb) (.cells #[.string nd.f0, .bool nd.f1, .int .i64 nd.f2.f0, .int .i64 nd.f2.f1, .int .i64 nd.f2.f2, .int .i64 nd.f2.f3, .slice A6 nd.f3.length c6, .int .i64 nd.f4.f0, .int .i64 nd.f4.f1, .int .i64 nd.f4.f2, .int .i64 nd.f4.f3, .slice A11 nd.f5.length c11, .int .i64 nd.f6.f0, .int .i64 nd.f6.f1, .int .i64 nd.f6.f2, .int .i64 nd.f6.f3] 50)); have EN := Lib.hid (blk_new w4 (.cells #[.string nd.f0, .bool nd.f1, .int .i64 nd.f2.f0, .int .i64 nd.f2.f1, .int .i64 nd.f2.f2, .int .i64 nd.f2.f3, .slice A6 nd.f3.length c6, .int .i64 nd.f4.f0, .int .i64 nd.f4.f1, .int .i64 nd.f4.f2, .int .i64 nd.f4.f3, .slice A11 nd.f5.length c11, .int .i64 nd.f6.f0, .int .i64 nd.f6.f1, .int .i64 nd.f6.f2, .int .i64 nd.f6.f3] 50)); have d1 : (w4.alloc (.cells #[.string nd.f0, .bool nd.f1, .int .i64 nd.f2.f0, .int .i64 nd.f2.f1, .int .i64 nd.f2.f2, .int .i64 nd.f2.f3, .slice A6 nd.f3.length c6, .int .i64 nd.f4.f0, .int .i64 nd.f4.f1, .int .i64 nd.f4.f2, .int .i64 nd.f4.f3, .slice A11 nd.f5.length c11, .int .i64 nd.f6.f0, .int .i64 nd.f6.f1, .int .i64 nd.f6.f2, .int .i64 nd.f6.f3] 50)).cell? ⟨w4.heap.size, 1, none⟩ = some (.bool true) := (blk_cell EN.out 1).trans (by rw [HF1.out]; rfl); have d2 := (blk_cell EN.out 2).trans rfl; have d3 := (blk_cell EN.out 3).trans rfl; have d4 := (blk_cell EN.out 4).trans rfl; have d5 := (blk_cell EN.out 5).trans rfl; have a1 := (blk_cell E1'.out 1).trans rfl; have a2 := (blk_cell E1'.out 2).trans rfl; have a3 := (blk_cell E1'.out 3).trans rfl; have a4 := (blk_cell E1'.out 4).trans rfl; clear hb hFK))
            refine bodyPost_ret (results_ct rfl _ _ (w.heap.size + 1) 50 _ (0, 0) _ rfl HE.out Tryd.underlying50 rfl (by kernel_rfl)) rfl ?_
            rw [HV2.out]
            exact ⟨_, rfl, z50_FK _ _, HB9.out⟩
          | true =>
            have HV2 := Lib.hid (show seeR l a [] ns = seeR l a (ns.take (i + 1)) (ns.drop (i + 1)) by rw [HV1.out, hf, hl]; rfl)
            have HO := Lib.hid fun w1 => donjonref4_Over.calls a.f0 a.f1 a.f2 a.f3 nd.f2.f0 nd.f2.f1 nd.f2.f2 nd.f2.f3 true w1 (by rw [rover_iff HLA.out (HMM.out rfl), hl])
            clear hl hf
            go_wp2_with (first | (go_at_call 45; refine (HJ.out _).mono ?_; rintro e w6 ⟨rfl, hb6⟩; have HW6 := Lib.hid (below_step HW5.out (Drawn0.below hb6)); clear hb6) | (go_at_call 37; refine (HO.out _).mono ?_; rintro e w5 ⟨rfl, hb5⟩; have HW5 := Lib.hid (below_step HW4.out hb5); have h9 := pw_cell_below (below_step (below_alloc (below_step (Below.refl wr.heap.size wr) HWR4.out) _) hb5) H9.out; clear hb5) | (go_at_call 40; refine HF.out.mono ?_; rintro e w4 ⟨cs, rfl, hFK, hb⟩; obtain ⟨A6, c6, A11, c11, rfl, _⟩ := k50_openF hFK; have E1' := Lib.hid (blk_alloc (blk_below E1w.out hb) (.cells #[.string nd.f0, .bool nd.f1, .int .i64 nd.f2.f0, .int .i64 nd.f2.f1, .int .i64 nd.f2.f2, .int .i64 nd.f2.f3, .slice A6 nd.f3.length c6, .int .i64 nd.f4.f0, .int .i64 nd.f4.f1, .int .i64 nd.f4.f2, .int .i64 nd.f4.f3, .slice A11 nd.f5.length c11, .int .i64 nd.f6.f0, .int .i64 nd.f6.f1, .int .i64 nd.f6.f2, .int .i64 nd.f6.f3] 50)); have E2' := Lib.hid (blk_alloc (blk_below E2w.out hb) (.cells #[.string nd.f0, .bool nd.f1, .int .i64 nd.f2.f0, .int .i64 nd.f2.f1, .int .i64 nd.f2.f2, .int .i64 nd.f2.f3, .slice A6 nd.f3.length c6, .int .i64 nd.f4.f0, .int .i64 nd.f4.f1, .int .i64 nd.f4.f2, .int .i64 nd.f4.f3, .slice A11 nd.f5.length c11, .int .i64 nd.f6.f0, .int .i64 nd.f6.f1, .int .i64 nd.f6.f2, .int .i64 nd.f6.f3] 50)); have HB4 := Lib.hid (below_alloc (below_step HBW.out hb) (.cells #[.string nd.f0, .bool nd.f1, .int .i64 nd.f2.f0, .int .i64 nd.f2.f1, .int .i64 nd.f2.f2, .int .i64 nd.f2.f3, .slice A6 nd.f3.length c6, .int .i64 nd.f4.f0, .int .i64 nd.f4.f1, .int .i64 nd.f4.f2, .int .i64 nd.f4.f3, .slice A11 nd.f5.length c11, .int .i64 nd.f6.f0, .int .i64 nd.f6.f1, .int .i64 nd.f6.f2, .int .i64 nd.f6.f3] 50)); have HW4 := Lib.hid (below_alloc (below_step HW.out hb) (.cells #[.string nd.f0, .bool nd.f1, .int .i64 nd.f2.f0, .int .i64 nd.f2.f1, .int .i64 nd.f2.f2, .int .i64 nd.f2.f3, .slice A6 nd.f3.length c6, .int .i64 nd.f4.f0, .int .i64 nd.f4.f1, .int .i64 nd.f4.f2, .int .i64 nd.f4.f3, .slice A11 nd.f5.length c11, .int .i64 nd.f6.f0, .int .i64 nd.f6.f1, .int .i64 nd.f6.f2, .int .i64 nd.f6.f3] 50)); have EN := Lib.hid (blk_new w4 (.cells #[.string nd.f0, .bool nd.f1, .int .i64 nd.f2.f0, .int .i64 nd.f2.f1, .int .i64 nd.f2.f2, .int .i64 nd.f2.f3, .slice A6 nd.f3.length c6, .int .i64 nd.f4.f0, .int .i64 nd.f4.f1, .int .i64 nd.f4.f2, .int .i64 nd.f4.f3, .slice A11 nd.f5.length c11, .int .i64 nd.f6.f0, .int .i64 nd.f6.f1, .int .i64 nd.f6.f2, .int .i64 nd.f6.f3] 50)); have d1 : (w4.alloc (.cells #[.string nd.f0, .bool nd.f1, .int .i64 nd.f2.f0, .int .i64 nd.f2.f1, .int .i64 nd.f2.f2, .int .i64 nd.f2.f3, .slice A6 nd.f3.length c6, .int .i64 nd.f4.f0, .int .i64 nd.f4.f1, .int .i64 nd.f4.f2, .int .i64 nd.f4.f3, .slice A11 nd.f5.length c11, .int .i64 nd.f6.f0, .int .i64 nd.f6.f1, .int .i64 nd.f6.f2, .int .i64 nd.f6.f3] 50)).cell? ⟨w4.heap.size, 1, none⟩ = some (.bool true) := (blk_cell EN.out 1).trans (by rw [HF1.out]; rfl); have d2 := (blk_cell EN.out 2).trans rfl; have d3 := (blk_cell EN.out 3).trans rfl; have d4 := (blk_cell EN.out 4).trans rfl; have d5 := (blk_cell EN.out 5).trans rfl; have a1 := (blk_cell E1'.out 1).trans rfl; have a2 := (blk_cell E1'.out 2).trans rfl; have a3 := (blk_cell E1'.out 3).trans rfl; have a4 := (blk_cell E1'.out 4).trans rfl; have HWR4 := Lib.hid hb; clear hb hFK))
            go_roundg (ns.length - (i + 1))
            case measure => omega
            case rel => exact ⟨i + 1, hlt, Nat.le_refl _, by rw [L.wrap_succ (by omega) (show (i : Int) < (nms.length : Int) by omega) (by have := HF9.out.2.1; omega)]; rfl, rfl, Lib.hid HW6.out, Lib.hid HV2.out⟩
    · have hin : i = ns.length := by have := HLL.out; omega
      subst hin
      have HV1 := Lib.hid (show seeR l a [] ns = if isN l p then (nodeN l p, 0) else (z50, 2) by
        rw [HV.out, List.drop_length, List.take_length, HEND.out])
      have HF := Lib.hid (HFD.out p wr HBW.out)
      clear HV
      generalize nodeN l p = nd at HF HV1
      generalize isN l p = b at HF HV1
      cases b with
      | false =>
        have HV2 := Lib.hid (show seeR l a [] ns = (z50, 2) by rw [HV1.out]; rfl)
        go_wp2_with (go_at_call 40; refine HF.out.mono ?_; rintro e w4 ⟨cs, rfl, hFK, hb⟩; obtain ⟨A6, c6, A11, c11, rfl, _⟩ := k50_openF hFK; have E1' := Lib.hid (blk_alloc (blk_below E1w.out hb) (.cells #[.string nd.f0, .bool nd.f1, .int .i64 nd.f2.f0, .int .i64 nd.f2.f1, .int .i64 nd.f2.f2, .int .i64 nd.f2.f3, .slice A6 nd.f3.length c6, .int .i64 nd.f4.f0, .int .i64 nd.f4.f1, .int .i64 nd.f4.f2, .int .i64 nd.f4.f3, .slice A11 nd.f5.length c11, .int .i64 nd.f6.f0, .int .i64 nd.f6.f1, .int .i64 nd.f6.f2, .int .i64 nd.f6.f3] 50)); have E2' := Lib.hid (blk_alloc (blk_below E2w.out hb) (.cells #[.string nd.f0, .bool nd.f1, .int .i64 nd.f2.f0, .int .i64 nd.f2.f1, .int .i64 nd.f2.f2, .int .i64 nd.f2.f3, .slice A6 nd.f3.length c6, .int .i64 nd.f4.f0, .int .i64 nd.f4.f1, .int .i64 nd.f4.f2, .int .i64 nd.f4.f3, .slice A11 nd.f5.length c11, .int .i64 nd.f6.f0, .int .i64 nd.f6.f1, .int .i64 nd.f6.f2, .int .i64 nd.f6.f3] 50)); have HB4 := Lib.hid (below_alloc (below_step HBW.out hb) (.cells #[.string nd.f0, .bool nd.f1, .int .i64 nd.f2.f0, .int .i64 nd.f2.f1, .int .i64 nd.f2.f2, .int .i64 nd.f2.f3, .slice A6 nd.f3.length c6, .int .i64 nd.f4.f0, .int .i64 nd.f4.f1, .int .i64 nd.f4.f2, .int .i64 nd.f4.f3, .slice A11 nd.f5.length c11, .int .i64 nd.f6.f0, .int .i64 nd.f6.f1, .int .i64 nd.f6.f2, .int .i64 nd.f6.f3] 50)); have HW4 := Lib.hid (below_alloc (below_step HW.out hb) (.cells #[.string nd.f0, .bool nd.f1, .int .i64 nd.f2.f0, .int .i64 nd.f2.f1, .int .i64 nd.f2.f2, .int .i64 nd.f2.f3, .slice A6 nd.f3.length c6, .int .i64 nd.f4.f0, .int .i64 nd.f4.f1, .int .i64 nd.f4.f2, .int .i64 nd.f4.f3, .slice A11 nd.f5.length c11, .int .i64 nd.f6.f0, .int .i64 nd.f6.f1, .int .i64 nd.f6.f2, .int .i64 nd.f6.f3] 50)); have EN := Lib.hid (blk_new w4 (.cells #[.string nd.f0, .bool nd.f1, .int .i64 nd.f2.f0, .int .i64 nd.f2.f1, .int .i64 nd.f2.f2, .int .i64 nd.f2.f3, .slice A6 nd.f3.length c6, .int .i64 nd.f4.f0, .int .i64 nd.f4.f1, .int .i64 nd.f4.f2, .int .i64 nd.f4.f3, .slice A11 nd.f5.length c11, .int .i64 nd.f6.f0, .int .i64 nd.f6.f1, .int .i64 nd.f6.f2, .int .i64 nd.f6.f3] 50)); have r2 := wr50_blk E2'.out (cs := #[.string (⟨#[]⟩ : ByteArray), .bool false, .int .i64 0, .int .i64 0, .int .i64 0, .int .i64 0, .slice none 0 0, .int .i64 0, .int .i64 0, .int .i64 0, .int .i64 0, .slice none 0 0, .int .i64 0, .int .i64 0, .int .i64 0, .int .i64 0]) rfl rfl (by simp [Value.oneCell']); have HE := Lib.hid (setRow_heap _ _ _ #[.string (⟨#[]⟩ : ByteArray), .bool false, .int .i64 0, .int .i64 0, .int .i64 0, .int .i64 0, .slice none 0 0, .int .i64 0, .int .i64 0, .int .i64 0, .int .i64 0, .slice none 0 0, .int .i64 0, .int .i64 0, .int .i64 0, .int .i64 0] _ _ E2'.out); have HB9 := Lib.hid (below_setRow (HB4.out) (Nat.le_succ _) #[.string (⟨#[]⟩ : ByteArray), .bool false, .int .i64 0, .int .i64 0, .int .i64 0, .int .i64 0, .slice none 0 0, .int .i64 0, .int .i64 0, .int .i64 0, .int .i64 0, .slice none 0 0, .int .i64 0, .int .i64 0, .int .i64 0, .int .i64 0]); clear hb hFK)
        refine bodyPost_ret (results_ct rfl _ _ (w.heap.size + 1) 50 _ (0, 0) _ rfl HE.out Tryd.underlying50 rfl (by kernel_rfl)) rfl ?_
        rw [HV2.out]
        exact ⟨_, rfl, z50_FK _ _, HB9.out⟩
      | true =>
        have HV2 := Lib.hid (show seeR l a [] ns = (nd, 0) by rw [HV1.out]; rfl)
        go_wp2_with (go_at_call 40; refine HF.out.mono ?_; rintro e w4 ⟨cs, rfl, hFK, hb⟩; obtain ⟨A6, c6, A11, c11, rfl, _⟩ := k50_openF hFK; have E1' := Lib.hid (blk_alloc (blk_below E1w.out hb) (.cells #[.string nd.f0, .bool nd.f1, .int .i64 nd.f2.f0, .int .i64 nd.f2.f1, .int .i64 nd.f2.f2, .int .i64 nd.f2.f3, .slice A6 nd.f3.length c6, .int .i64 nd.f4.f0, .int .i64 nd.f4.f1, .int .i64 nd.f4.f2, .int .i64 nd.f4.f3, .slice A11 nd.f5.length c11, .int .i64 nd.f6.f0, .int .i64 nd.f6.f1, .int .i64 nd.f6.f2, .int .i64 nd.f6.f3] 50)); have E2' := Lib.hid (blk_alloc (blk_below E2w.out hb) (.cells #[.string nd.f0, .bool nd.f1, .int .i64 nd.f2.f0, .int .i64 nd.f2.f1, .int .i64 nd.f2.f2, .int .i64 nd.f2.f3, .slice A6 nd.f3.length c6, .int .i64 nd.f4.f0, .int .i64 nd.f4.f1, .int .i64 nd.f4.f2, .int .i64 nd.f4.f3, .slice A11 nd.f5.length c11, .int .i64 nd.f6.f0, .int .i64 nd.f6.f1, .int .i64 nd.f6.f2, .int .i64 nd.f6.f3] 50)); have HB4 := Lib.hid (below_alloc (below_step HBW.out hb) (.cells #[.string nd.f0, .bool nd.f1, .int .i64 nd.f2.f0, .int .i64 nd.f2.f1, .int .i64 nd.f2.f2, .int .i64 nd.f2.f3, .slice A6 nd.f3.length c6, .int .i64 nd.f4.f0, .int .i64 nd.f4.f1, .int .i64 nd.f4.f2, .int .i64 nd.f4.f3, .slice A11 nd.f5.length c11, .int .i64 nd.f6.f0, .int .i64 nd.f6.f1, .int .i64 nd.f6.f2, .int .i64 nd.f6.f3] 50)); have HW4 := Lib.hid (below_alloc (below_step HW.out hb) (.cells #[.string nd.f0, .bool nd.f1, .int .i64 nd.f2.f0, .int .i64 nd.f2.f1, .int .i64 nd.f2.f2, .int .i64 nd.f2.f3, .slice A6 nd.f3.length c6, .int .i64 nd.f4.f0, .int .i64 nd.f4.f1, .int .i64 nd.f4.f2, .int .i64 nd.f4.f3, .slice A11 nd.f5.length c11, .int .i64 nd.f6.f0, .int .i64 nd.f6.f1, .int .i64 nd.f6.f2, .int .i64 nd.f6.f3] 50)); have EN := Lib.hid (blk_new w4 (.cells #[.string nd.f0, .bool nd.f1, .int .i64 nd.f2.f0, .int .i64 nd.f2.f1, .int .i64 nd.f2.f2, .int .i64 nd.f2.f3, .slice A6 nd.f3.length c6, .int .i64 nd.f4.f0, .int .i64 nd.f4.f1, .int .i64 nd.f4.f2, .int .i64 nd.f4.f3, .slice A11 nd.f5.length c11, .int .i64 nd.f6.f0, .int .i64 nd.f6.f1, .int .i64 nd.f6.f2, .int .i64 nd.f6.f3] 50)); have r1 := rd50_blk EN.out rfl; have r2 := wr50_blk E2'.out (cs := #[.string nd.f0, .bool nd.f1, .int .i64 nd.f2.f0, .int .i64 nd.f2.f1, .int .i64 nd.f2.f2, .int .i64 nd.f2.f3, .slice A6 nd.f3.length c6, .int .i64 nd.f4.f0, .int .i64 nd.f4.f1, .int .i64 nd.f4.f2, .int .i64 nd.f4.f3, .slice A11 nd.f5.length c11, .int .i64 nd.f6.f0, .int .i64 nd.f6.f1, .int .i64 nd.f6.f2, .int .i64 nd.f6.f3]) rfl rfl (by simp [Value.oneCell']); have HE := Lib.hid (setRow_heap _ _ _ #[.string nd.f0, .bool nd.f1, .int .i64 nd.f2.f0, .int .i64 nd.f2.f1, .int .i64 nd.f2.f2, .int .i64 nd.f2.f3, .slice A6 nd.f3.length c6, .int .i64 nd.f4.f0, .int .i64 nd.f4.f1, .int .i64 nd.f4.f2, .int .i64 nd.f4.f3, .slice A11 nd.f5.length c11, .int .i64 nd.f6.f0, .int .i64 nd.f6.f1, .int .i64 nd.f6.f2, .int .i64 nd.f6.f3] _ _ E2'.out); have HB9 := Lib.hid (below_setRow (HB4.out) (Nat.le_succ _) #[.string nd.f0, .bool nd.f1, .int .i64 nd.f2.f0, .int .i64 nd.f2.f1, .int .i64 nd.f2.f2, .int .i64 nd.f2.f3, .slice A6 nd.f3.length c6, .int .i64 nd.f4.f0, .int .i64 nd.f4.f1, .int .i64 nd.f4.f2, .int .i64 nd.f4.f3, .slice A11 nd.f5.length c11, .int .i64 nd.f6.f0, .int .i64 nd.f6.f1, .int .i64 nd.f6.f2, .int .i64 nd.f6.f3]); have HFK := Lib.hid (Kd.FK_step (Kd.FK_below hFK (below_alloc (Below.refl _ _) (.cells #[.string nd.f0, .bool nd.f1, .int .i64 nd.f2.f0, .int .i64 nd.f2.f1, .int .i64 nd.f2.f2, .int .i64 nd.f2.f3, .slice A6 nd.f3.length c6, .int .i64 nd.f4.f0, .int .i64 nd.f4.f1, .int .i64 nd.f4.f2, .int .i64 nd.f4.f3, .slice A11 nd.f5.length c11, .int .i64 nd.f6.f0, .int .i64 nd.f6.f1, .int .i64 nd.f6.f2, .int .i64 nd.f6.f3] 50))) (W1 := (w4.alloc (.cells #[.string nd.f0, .bool nd.f1, .int .i64 nd.f2.f0, .int .i64 nd.f2.f1, .int .i64 nd.f2.f2, .int .i64 nd.f2.f3, .slice A6 nd.f3.length c6, .int .i64 nd.f4.f0, .int .i64 nd.f4.f1, .int .i64 nd.f4.f2, .int .i64 nd.f4.f3, .slice A11 nd.f5.length c11, .int .i64 nd.f6.f0, .int .i64 nd.f6.f1, .int .i64 nd.f6.f2, .int .i64 nd.f6.f3] 50)).setRow (w.heap.size + 1) #[.string nd.f0, .bool nd.f1, .int .i64 nd.f2.f0, .int .i64 nd.f2.f1, .int .i64 nd.f2.f2, .int .i64 nd.f2.f3, .slice A6 nd.f3.length c6, .int .i64 nd.f4.f0, .int .i64 nd.f4.f1, .int .i64 nd.f4.f2, .int .i64 nd.f4.f3, .slice A11 nd.f5.length c11, .int .i64 nd.f6.f0, .int .i64 nd.f6.f1, .int .i64 nd.f6.f2, .int .i64 nd.f6.f3]) fun k hk _ => setRow_other _ _ _ _ (by omega)); clear hb hFK)
        refine bodyPost_ret (results_ct rfl _ _ (w.heap.size + 1) 50 _ (0, 0) _ rfl HE.out Tryd.underlying50 rfl (by kernel_rfl)) rfl ?_
        rw [HV2.out]
        exact ⟨_, rfl, HFK.out, HB9.out⟩
end Go.Proofs.YtmndeoncbocplaaDoor.C
end
