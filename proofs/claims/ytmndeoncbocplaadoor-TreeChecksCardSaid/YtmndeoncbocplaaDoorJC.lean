/- Texts that the claim's law stands on, cut down to what it reaches. -/
import Derived.Test.YtmndeoncbocplaaDoorJB
import Derived.Test.YtmndeoncbocplaaDoorJA2
import Derived.Test.YtmndeoncbocplaaDoorJB2
import Derived.Deep.RegionHeldLaw
import Derived.Deep.RegionHeld3
set_option linter.unusedVariables false
set_option linter.unusedSimpArgs false
section
set_option linter.unusedVariables false
set_option linter.unusedSimpArgs false
namespace Go.Proofs.YtmndeoncbocplaaDoor.C
open Go.RowKit Go.Proofs.YtmndeoncbocplaaDoor.Q Go.Proofs.YtmndeoncbocplaaDoorW.PrintWords Go.Proofs.YtmndeoncbocplaaDoorW.PrintLast Go.Proofs.YtmndeoncbocplaaDoorW.PrintMore
attribute [local go_sem ↓] rd_at50 wr_at50 al_at50 rd_at80 wr_at80 al_at80
attribute [local go_sem] rd50_new wr50_new al50 al80 wr80_new
theorem inf41 : (Tryd.prog.info? 41).map (fun i => (i.zero, i.size, i.bytes)) = some (some (.agg #[.int .i64 0, .int .i64 0, .int .i64 0, .int .i64 0]), 4, 32) := by kernel_rfl
theorem own_far_set {α : Type} {R : α → List Value → Prop} {e : TypeId} {size base : Nat} {w : World} {v : Value} {xs : List α} (h : OwnRow R e size w base v xs) (g j : Nat) (u : Value) (hg : g < base) : OwnRow R e size (w.setCell ⟨g, j, none⟩ u) base v xs := by
  obtain ⟨inner, ho, hr⟩ := h
  refine ⟨inner, own_move ho (fun k hk => Below.heap_setCell w ⟨g, j, none⟩ u k ?_), hr⟩
  have := own_base ho k hk
  show k ≠ g
  omega
theorem below_join {B B2 : Nat} {w w1 w2 : World} (h : Below B w w1) (h2 : Below B2 w1 w2) (hB : B ≤ B2) : Below B w w2 :=
  ⟨h2.os.trans h.os, h2.tape.trans h.tape, h2.output.trans h.output, Nat.le_trans h.size h2.size, fun k hk => (h2.block k (by omega)).trans (h.block k hk)⟩
theorem below_put {B g j : Nat} {w W : World} {v : Value} (h : Below B w W) (hg : B ≤ g) : Below B w (W.setCell ⟨g, j, none⟩ v) :=
  h.setCell hg _
theorem C41_of {w W : World} {A : Option Addr} {xs : List S41} (h : ReadsRow (k41.K w) 4 W A xs.length xs) : Kd.C k41 W A xs.length xs :=
  ReadsRow.imp_ h (Below.refl _ _) (fun p c h => by rw [k41_open h]; exact k41_mk W p)
theorem C50_of {w W : World} {A : Option Addr} {xs : List S50} (h : ReadsRow (k50.K w) 16 W A xs.length xs) (hb : Below w.heap.size w W) : Kd.C k50 W A xs.length xs :=
  ReadsRow.imp_ h (Below.refl _ _) (fun _ _ h => k50.K_below hb h)
theorem find_t {t : List S50} (T : Tree t) (p : ByteArray) (A : Option Addr) (c : Nat) (w : World) (hC : Kd.C k50 w A t.length t) (hc : t.length ≤ c) (n : S50) (b : Bool) (hn : nodeN t p = n) (hb : isN t p = b) :
    Calls Tryd.prog 40 #[.slice A t.length c, .string p] w fun e w' => ∃ A6 c6 A11 c11, e = .returned (.tuple #[.agg #[.string n.f0, .bool n.f1, .int .i64 n.f2.f0, .int .i64 n.f2.f1, .int .i64 n.f2.f2, .int .i64 n.f2.f3, .slice A6 n.f3.length c6, .int .i64 n.f4.f0, .int .i64 n.f4.f1, .int .i64 n.f4.f2, .int .i64 n.f4.f3, .slice A11 n.f5.length c11, .int .i64 n.f6.f0, .int .i64 n.f6.f1, .int .i64 n.f6.f2, .int .i64 n.f6.f3], .bool b]) ∧ Below w.heap.size w w' := by
  refine (find_c t p A c w hC hc).mono ?_
  rintro e w' ⟨cs, rfl, hK, hB⟩
  obtain ⟨h1, h2⟩ := find_is T.asc p
  rw [h2, hn] at hK
  obtain ⟨A6, c6, A11, c11, rfl, _⟩ := k50_open hK
  exact ⟨A6, c6, A11, c11, by rw [h1, hb], hB⟩
/-- A node is put: a tree again. -/
theorem put_tree {t : List S50} (T : Tree t) (hlen : t.length < 900) (ns : List (List UInt8)) (hok : Okp ns) (hne : ns ≠ []) (dn : S50) (hd : nodeN t (pth ns.dropLast) = dn) (h1 : isN t (pth ns.dropLast) = true) (h2 : dn.f1 = true) (h3 : isN t (pth ns) = false) (n : S50) (h0 : n.f0 = pth ns) (hl : Lab n.f2) (hb : Lab n.f6) (ha : GoodAcl 5 n.f3) (hw : n.f5.length ≤ 16) (hdir : n.f1 = true → n.f5 = [] ∧ n.f4 = z47) (hr : 0 ≤ n.f4.f0 ∧ n.f4.f0 ≤ n.f4.f1 ∧ n.f4.f1 ≤ n.f4.f2 ∧ n.f4.f2 < 8 ∧ 0 ≤ n.f4.f3 ∧ n.f4.f3 < 17) (ho : lover n.f2 dn.f2 = true) (hs : n.f1 = false → n.f2 = dn.f2) : Tree (putN t n) ∧ (putN t n).length ≤ t.length + 1 := by
  obtain ⟨m1, m2⟩ := is_mem h1
  rw [hd] at m1 m2
  exact ⟨tree_put T hlen n ⟨hl, hb, ha, hw, hdir, hr⟩ ns hok h0 hne h3 dn m1 m2 h2 ho hs, put_len t n⟩
theorem dir_put {t : List S50} (T : Tree t) (hlen : t.length ≤ 100) {ns : List (List UInt8)} (hok : Okp ns) (hne : ns ≠ []) {p par : ByteArray} (hp : pth ns = p) (hq : pth ns.dropLast = par) {dn : S50} (hd : nodeN t par = dn) (h1 : isN t par = true) (h2 : dn.f1 = true) (h3 : isN t p = false) {q b : S41} (hLq : Lab q) (hLb : Lab b) {xs : List S96} (ha : GoodAcl 5 xs) : Tree (putN t ⟨p, true, joinS dn.f2 q, xs, z47, [], b⟩) ∧ (putN t ⟨p, true, joinS dn.f2 q, xs, z47, [], b⟩).length ≤ t.length + 1 := by
  subst hp hq
  have hm := is_mem h1
  rw [hd] at hm
  have hLd := (T.ok dn hm.1).1
  obtain ⟨j1, j2, _⟩ := join_lab hLd hLq
  exact put_tree T (by omega) ns hok hne dn hd h1 h2 h3 _ rfl j1 hLb ha (Nat.zero_le _) (fun _ => ⟨rfl, rfl⟩) ⟨Int.le_refl 0, Int.le_refl 0, Int.le_refl 0, (by decide : (0 : Int) < 8), Int.le_refl 0, (by decide : (0 : Int) < 17)⟩ ((lover_iff j1 hLd).2 j2) (fun h => by cases h)
theorem seg_put {t : List S50} (T : Tree t) (hlen : t.length ≤ 100) {ns : List (List UInt8)} (hok : Okp ns) (hne : ns ≠ []) {p par : ByteArray} (hp : pth ns = p) (hq : pth ns.dropLast = par) {dn : S50} (hd : nodeN t par = dn) (h1 : isN t par = true) (h2 : dn.f1 = true) (h3 : isN t p = false) {b : S41} (hLb : Lab b) {xs : List S96} (ha : GoodAcl 5 xs) {r : S47} (hr : 0 ≤ r.f0 ∧ r.f0 ≤ r.f1 ∧ r.f1 ≤ r.f2 ∧ r.f2 < 8 ∧ 0 ≤ r.f3 ∧ r.f3 < 17) {ws : List Int} (hw : ws.length ≤ 16) : Tree (putN t ⟨p, false, dn.f2, xs, r, ws, b⟩) ∧ (putN t ⟨p, false, dn.f2, xs, r, ws, b⟩).length ≤ t.length + 1 := by
  subst hp hq
  have hm := is_mem h1
  rw [hd] at hm
  have hLd := (T.ok dn hm.1).1
  exact put_tree T (by omega) ns hok hne dn hd h1 h2 h3 _ rfl hLd hLb ha hw (fun h => by cases h) hr (lover_refl hLd) (fun _ => rfl)
theorem own_keep {W W8 wr : World} {g base c : Nat} {A : Option Addr} {xs : List S96} {cells : Array Value} (h : OwnRow (k96.K W) 96 2 W8 base (.slice A xs.length c) xs) (hb : W8.heap[g]? = some (.cells cells 50 (0, 0))) (hk : ∀ k, k < W8.heap.size → k ≠ g → wr.heap[k]? = W8.heap[k]?) : OwnRow (k96.K W) 96 2 wr base (.slice A xs.length c) xs := by
  have hne := OwnRow.ne_block h hb (by decide)
  obtain ⟨inner, ho, hr⟩ := h
  exact ⟨inner, own_move ho (fun k hkk => hk k (own_lt ho k hkk) (fun e => hne (by rw [hkk, e]))), hr⟩
theorem C96_own {W w' : World} {base : Nat} {A : Option Addr} {c : Nat} {xs : List S96} (h : OwnRow (k96.K W) 96 2 w' base (.slice A xs.length c) xs) : Kd.C k96 w' A xs.length xs := by
  obtain ⟨A', c', e, _, hR⟩ := OwnRow.reads h
  injection e with e1 _ _
  subst e1
  exact C96_of hR
theorem join_c (a b : S41) (w : World) : Calls Tryd.prog 41 #[.agg #[.int .i64 a.f0, .int .i64 a.f1, .int .i64 a.f2, .int .i64 a.f3], .agg #[.int .i64 b.f0, .int .i64 b.f1, .int .i64 b.f2, .int .i64 b.f3]] w fun e w' => e = .returned (.agg #[.int .i64 (joinS a b).f0, .int .i64 (joinS a b).f1, .int .i64 (joinS a b).f2, .int .i64 (joinS a b).f3]) ∧ Below w.heap.size w w' :=
  donjonref4_Join.calls _ _ _ _ _ _ _ _ _ _ _ _ w rfl
theorem root_eq : ((pth []).toList == ([47] : List UInt8)) = true := by rw [Lib.toList_data]; rfl
theorem three_way : ∀ b1 b2 b3 : Bool, ¬ (b1 = true ∧ b2 = true ∧ b3 = false) → b1 = false ∨ (b1 = true ∧ b2 = false) ∨ (b1 = true ∧ b2 = true ∧ b3 = true) := by decide
theorem eq_root (ns : List (List UInt8)) (h : ∀ x ∈ ns, L.Nm x) (hne : ns ≠ []) : ((pth ns).toList == ([47] : List UInt8)) = false := by
  rw [Lib.toList_data, pth_data]
  cases hb : (L.render ns == ([47] : List UInt8)) with
  | false => rfl
  | true => exact absurd ((L.render_one h).1 (by simpa using hb)) hne
end Go.Proofs.YtmndeoncbocplaaDoor.C
end
