/- Texts that the claim's law stands on, cut down to what it reaches. -/
import Derived.Test.YtmndeoncbocplaaDoorJD
import Derived.Deep.RegionHeldLaw
import Derived.Deep.RegionHeld3
import Derived.Deep.LoopGhost
set_option linter.unusedVariables false
set_option linter.unusedSimpArgs false
section
set_option linter.unusedVariables false
set_option linter.unusedSimpArgs false
namespace Go.Proofs.YtmndeoncbocplaaDoor.C
open Go.RowKit Go.Proofs.YtmndeoncbocplaaDoor.Q Go.Proofs.YtmndeoncbocplaaDoorW.PrintWords Go.Proofs.YtmndeoncbocplaaDoorW.PrintLast Go.Proofs.YtmndeoncbocplaaDoorW.PrintMore
attribute [local go_sem ↓] rd_at50 wr_at50 al_at50
attribute [local go_sem] rd50_new wr50_new al50
theorem cell_agree {W W' : World} (h : ∀ k, k < W.heap.size → W'.heap[k]? = W.heap[k]?) {a : Addr} {v : Value} (hv : W.cell? a = some v) : W'.cell? a = some v := by
  have hb := World.block_lt_of_cell? W a hv
  unfold World.cell? at hv ⊢
  rw [h a.block hb]
  exact hv
theorem ints_agree {W W' : World} (h : ∀ k, k < W.heap.size → W'.heap[k]? = W.heap[k]?) {A : Option Addr} {n : Nat} {xs : List Int} (hC : Kd.C (Kd.int .i64) W A n xs) : Kd.C (Kd.int .i64) W' A n xs := by
  obtain ⟨h1, h2, h3⟩ := hC
  refine ⟨h1, h2, fun hn => ?_⟩
  obtain ⟨ad, e, hc⟩ := h3 hn
  refine ⟨ad, e, fun j p hj => ?_⟩
  obtain ⟨c, k1, k2, k3⟩ := hc j p hj
  exact ⟨c, k1, k2, fun i u hi => cell_agree h (k3 i u hi)⟩
theorem grants_agree {W W' : World} (h : ∀ k, k < W.heap.size → W'.heap[k]? = W.heap[k]?) {A : Option Addr} {n : Nat} {xs : List S96} (hC : Kd.C k96 W A n xs) : Kd.C k96 W' A n xs := by
  obtain ⟨h1, h2, h3⟩ := hC
  refine ⟨h1, h2, fun hn => ?_⟩
  obtain ⟨ad, e, hc⟩ := h3 hn
  refine ⟨ad, e, fun j p hj => ?_⟩
  obtain ⟨c, k1, k2, k3⟩ := hc j p hj
  exact ⟨c, k1, by rw [k96_open k2]; exact k96_mk W' p, fun i u hi => cell_agree h (k3 i u hi)⟩
theorem K_foot {W : World} {x : S50} {cs : List Value} (hK : k50.K W x cs) : k50.FK W (fun k => k < W.heap.size) x cs := by
  intro W' hW
  have h : ∀ k, k < W.heap.size → W'.heap[k]? = W.heap[k]? := fun k hk => hW k hk hk
  obtain ⟨A6, c6, A11, c11, rfl, l6, g6, l11, g11⟩ := k50_open hK
  exact k50_mk W' x l6 (grants_agree h g6) l11 (ints_agree h g11)
theorem split_join : ∀ (t n : List UInt8) (ns : List (List UInt8)), L.splitL t = n :: ns → t = n ++ L.flat ns
  | [], n, ns, h => by
    unfold L.splitL at h
    injection h with h1 h2
    subst h1 h2
    rfl
  | c :: t, n, ns, h => by
    unfold L.splitL at h
    split at h
    · rename_i hc
      injection h with h1 h2
      subst h1 hc
      cases hs : L.splitL t with
      | nil => exact absurd hs (L.splitL_ne t)
      | cons m ms =>
        have := split_join t m ms hs
        rw [hs] at h2
        rw [← h2, L.flat_cons, ← this]
        rfl
    · cases hs : L.splitL t with
      | nil => exact absurd hs (L.splitL_ne t)
      | cons m ms =>
        have := split_join t m ms hs
        rw [hs] at h
        injection h with h1 h2
        rw [← h1, ← h2, List.cons_append, ← this]
theorem path_ok {s : ByteArray} (h : L.checkL s.data.toList = 0) : ∃ ns, Okp ns ∧ s = pth ns := by
  have key : ∃ ns, (∀ x ∈ ns, L.Nm x) ∧ s.data.toList = L.render ns := by
    have h0 := h
    unfold L.checkL at h
    split at h
    · cases h
    · split at h
      · rename_i h1
        exact ⟨[], by simp, h1⟩
      · split at h
        · cases h
        · rename_i c t he
          split at h
          · cases h
          · rename_i hc
            split at h
            · cases h
            · split at h
              · rename_i ha
                cases hs : L.splitL t with
                | nil => exact absurd hs (L.splitL_ne t)
                | cons n ns =>
                  have hj := split_join t n ns hs
                  rw [hs] at ha
                  have hall := List.all_eq_true.1 ha
                  have hc' : c = 47 := Classical.not_not.1 hc
                  refine ⟨n :: ns, fun x hx => L.name_nm (hall x hx), ?_⟩
                  rw [L.render_cons, ← hj, ← hc']
                  exact he
              · cases h
  obtain ⟨ns, h1, h2⟩ := key
  refine ⟨ns, ⟨h1, by rw [← h2]; exact h⟩, L.bytes_ext ?_⟩
  rw [pth_data]; exact h2
end Go.Proofs.YtmndeoncbocplaaDoor.C
end
