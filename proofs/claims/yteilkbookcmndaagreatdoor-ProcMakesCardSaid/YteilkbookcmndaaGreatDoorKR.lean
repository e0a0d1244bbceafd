/- Texts that the claim's law stands on, cut down to what it reaches. -/
import Derived.Test.YteilkbookcmndaaGreatDoorKB2
import Derived.Laws.CopyOwn
import Derived.Laws.MakeOwn
import Derived.Lib.AppendZerosOnto
import Derived.Lib.AppendZeros
import Derived.Shelf.Spec.SlicesInsert
import Derived.Deep.LoopGhost
import Derived.Test.YteilkbookcmndaaGreatDoorKP
import Derived.Deep.RegionHeldLaw
import Derived.Deep.RegionHeld3
import Derived.Laws.NewBlocks
set_option linter.unusedVariables false
set_option linter.unusedSimpArgs false
section
namespace Go.Proofs.YteilkbookcmndaaGreatDoor.C
open Go.RowKit Go.Proofs.YteilkbookcmndaaGreatDoor.Q Go.Proofs.YteilkbookcmndaaGreatDoorW.PrintWords Go.Proofs.YteilkbookcmndaaGreatDoorW.PrintLast Go.Proofs.YteilkbookcmndaaGreatDoorW.PrintMore
def zero50 : Array Value := #[.string (⟨#[]⟩ : ByteArray), .bool false, .int .i64 0, .int .i64 0, .int .i64 0, .int .i64 0, .slice none 0 0, .int .i64 0, .int .i64 0, .int .i64 0, .int .i64 0, .slice none 0 0, .int .i64 0, .int .i64 0, .int .i64 0, .int .i64 0]
theorem info50 : ∃ i, Tryz.prog.info? 36 = some i ∧ i.zero = some (.agg zero50) ∧ i.size = 16 ∧ i.bytes = 168 := by
 have h := inf50
 cases hq : Tryz.prog.info? 36 with
 | none => rw [hq] at h; cases h
 | some i =>
  rw [hq] at h
  simp only [Option.map_some, Option.some.injEq, Prod.mk.injEq] at h
  exact ⟨i, rfl, h.1, h.2.1, h.2.2⟩
theorem wr50_in {W : World} {g o : Nat} {cur : List Value} {cs : Array Value} {ty : TypeId} (hg : W.heap[g]? = some (.cells cur.toArray ty (0, 0))) (ho : o + 16 ≤ cur.length) (hi : cs.size = 16) (h1 : cs.all (·.oneCell') = true) : (wrS 36 (.pointer (some ⟨g, o, none⟩)) (.agg cs)).run Tryz.prog W = .ok () (W.setRow g (splice cur o cs.toList).toArray) := by
 have hs := run_storeCells_at Tryz.prog g o ty cs.toList 0 cur.toArray W hg (by simp [hi]; omega) (fun v hv => (Array.all_eq_true_iff_forall_mem.1 h1) v (by simpa using hv))
 obtain ⟨i, hq, hz, hsz, _⟩ := info50
 rw [← wr_at]
 simp only [Instr.storeAt, Instr.sureAddr, Sem.run_bind, Sem.run_pure, Result.andThen]
 have hs2 : cs.size = i.size := by omega
 simp only [Nat.add_zero] at hs
 simp [storeVar, sizeOf, typeInfo, hq, Value.cells, hs2, hs, splice, hi]
theorem rd50_in {W : World} {g o : Nat} {cur : List Value} {ty : TypeId} {fr : Nat × Nat} (hg : W.heap[g]? = some (.cells cur.toArray ty fr)) (ho : o + 16 ≤ cur.length) : (rdS 36 (.pointer (some ⟨g, o, none⟩))).run Tryz.prog W = .ok (.agg ((cur.drop o).take 16).toArray) W := by
 refine rd50_of (load50 (by simp; omega) fun j v hj => ?_)
 have hj' : ((cur.drop o).take 16)[j]? = some v := hj
 rw [List.getElem?_take] at hj'
 split at hj'
 ·rw [List.getElem?_drop] at hj'
  have ha : (⟨g, o, none⟩ : Addr).add j = ⟨g, o + j, none⟩ := by unfold Addr.add; split <;> simp_all
  rw [ha]
  simp only [World.cell?, hg, Option.isSome_none, Bool.false_eq_true, if_false]
  rw [← Array.getElem?_toList]
  exact hj'
 ·cases hj'
theorem copy50 {W : World} {g o dLen dCap sLen sCap : Nat} {a : Addr} {cur : List Value} {cs : List Value} {t : TypeId} (hg : W.heap[g]? = some (.cells cur.toArray t (0, 0))) (hn : cs.length = Nat.min sLen dLen * 16)
  (hsrc : ∀ j v, cs[j]? = some v → W.cell? (a.add j) = some v) (hfit : o + cs.length ≤ cur.length) (h1 : ∀ v ∈ cs, v.oneCell' = true) (ty : TypeId) :
  (Builtin.copy_ #[27, 27] ty #[.slice (some ⟨g, o, none⟩) dLen dCap, .slice (some a) sLen sCap]).run Tryz.prog W = .ok (goInt (Nat.min sLen dLen)) (W.setRow g (splice cur o cs).toArray) := by
 have hl := run_firstCells_some (P := Tryz.prog) W 16 (Nat.min sLen dLen) a sLen sCap cs hn hsrc
 have hst := run_storeCells_at Tryz.prog g o t cs 0 cur.toArray W hg (by simpa using hfit) h1
 obtain ⟨i, hq, hz, hsz, _⟩ := info50
 simp only [Nat.add_zero] at hst
 simp [Builtin.copy_, run_underlying Tryz.underlying27, Builtin.lenOf, sizeOf, typeInfo, hq, hsz, hl, hst, splice]
theorem copy50_none {W : World} {g o dLen dCap sLen sCap : Nat} {sp : Option Addr} (hn : Nat.min sLen dLen = 0) (ty : TypeId) :
  (Builtin.copy_ #[27, 27] ty #[.slice (some ⟨g, o, none⟩) dLen dCap, .slice sp sLen sCap]).run Tryz.prog W = .ok (goInt 0) W := by
 obtain ⟨i, hq, hz, hsz, _⟩ := info50
 cases sp <;> simp [Builtin.copy_, run_underlying Tryz.underlying27, Builtin.lenOf, Builtin.firstCells, sizeOf, typeInfo, hq, hn, storeCells, loadCells, loadCellsFrom]
def NRow (W : World) (g : Nat) (l : List S50) (cur : List Value) : Prop :=
 W.heap[g]? = some (.cells cur.toArray 36 (0, 0)) ∧ l.length * 16 ≤ cur.length ∧ ∀ (j : Nat) (x : S50), l[j]? = some x → k50.FK W (fun k => k ≠ g) x ((cur.drop (j * 16)).take 16)
theorem fk_len {W : World} {ok : Nat → Prop} {x : S50} {cs : List Value} (h : k50.FK W ok x cs) : cs.length = 16 := by
 obtain ⟨A6, c6, A11, c11, rfl, _⟩ := k50_open (Kd.FK_now h)
 rfl
theorem fk_one {W : World} {ok : Nat → Prop} {x : S50} {cs : List Value} (h : k50.FK W ok x cs) : ∀ u ∈ cs, u.oneCell' = true := k50.K_one (Kd.FK_now h)
theorem nrow_C {W : World} {g : Nat} {l : List S50} {cur : List Value} (h : NRow W g l cur) (hn : l.length < 1000000) : Kd.C k50 W (some ⟨g, 0, none⟩) l.length l := by
 obtain ⟨h1, h2, h3⟩ := h
 refine ⟨rfl, by omega, fun _ => ⟨_, rfl, fun j q hj => ?_⟩⟩
 have hk := h3 j q hj
 have hlt := (List.getElem?_eq_some_iff.1 hj).1
 refine ⟨(cur.drop (j * 16)).take 16, fk_len hk, Kd.FK_now hk, fun i u hu => ?_⟩
 rw [List.getElem?_take] at hu
 split at hu
 ·rename_i hi
  rw [List.getElem?_drop] at hu
  show W.cell? ((⟨g, 0, none⟩ : Addr).add (j * 16 + i)) = some u
  have ha : (⟨g, 0, none⟩ : Addr).add (j * 16 + i) = ⟨g, j * 16 + i, none⟩ := by unfold Addr.add; split <;> simp_all
  rw [ha]
  simp only [World.cell?, h1, Option.isSome_none, Bool.false_eq_true, if_false]
  rw [← Array.getElem?_toList]
  exact hu
 ·cases hu
theorem nrow_step {W W' : World} {g : Nat} {l : List S50} {cur : List Value} (h : NRow W g l cur) (hb : ∀ k, k < W.heap.size → W'.heap[k]? = W.heap[k]?) : NRow W' g l cur :=
 ⟨(hb g (blk_lt h.1)).trans h.1, h.2.1, fun j x hj => (h.2.2 j x hj).step fun k _ hk => hb k hk⟩
theorem nrow_below {W W' : World} {g : Nat} {l : List S50} {cur : List Value} (h : NRow W g l cur) (hb : Below W.heap.size W W') : NRow W' g l cur := nrow_step h fun k hk => hb.block k hk
theorem splice_in {α : Type} (L cs : List α) (o : Nat) (h : o + cs.length ≤ L.length) : ((splice L o cs).drop o).take cs.length = cs := by
 unfold splice
 have e : (L.take o).length = o := by rw [List.length_take]; omega
 rw [List.drop_append_of_le_length (by omega), List.drop_of_length_le (by omega), List.nil_append]
 simp
theorem splice_ahead {α : Type} (L cs : List α) (o a n : Nat) (h : a + n ≤ o) (ho : o + cs.length ≤ L.length) : ((splice L o cs).drop a).take n = (L.drop a).take n := by
 apply List.ext_getElem?
 intro j
 by_cases hj : j < n
 ·rw [List.getElem?_take_of_lt hj, List.getElem?_take_of_lt hj, List.getElem?_drop, List.getElem?_drop]
  unfold splice
  rw [List.getElem?_append_left (by rw [List.length_take]; omega), List.getElem?_take_of_lt (by omega)]
 ·rw [List.getElem?_take_eq_none (by omega), List.getElem?_take_eq_none (by omega)]
theorem splice_behind {α : Type} (L cs : List α) (o a n : Nat) (h : o + cs.length ≤ a) (ho : o + cs.length ≤ L.length) : ((splice L o cs).drop a).take n = (L.drop a).take n := by
 have e : (splice L o cs).drop a = L.drop a := by
  unfold splice
  have e0 : (L.take o).length = o := by rw [List.length_take]; omega
  rw [List.drop_append, e0, List.drop_of_length_le (by omega), List.nil_append, List.drop_append, List.drop_of_length_le (by omega), List.nil_append, List.drop_drop]
  congr 1
  omega
 rw [e]
theorem nrow_set {W : World} {g i : Nat} {l : List S50} {cur : List Value} {x : S50} {cs : List Value} (h : NRow W g l cur) (hi : i < l.length) (hx : k50.FK W (fun k => k ≠ g) x cs) : NRow (W.setRow g (splice cur (i * 16) cs).toArray) g (l.set i x) (splice cur (i * 16) cs) := by
 obtain ⟨h1, h2, h3⟩ := h
 have hl := fk_len hx
 have hm : ∀ {y : S50} {c : List Value}, k50.FK W (fun k => k ≠ g) y c → k50.FK (W.setRow g (splice cur (i * 16) cs).toArray) (fun k => k ≠ g) y c := fun hy => hy.step fun k hk _ => setRow_other W g k _ hk
 have hfit : i * 16 + cs.length ≤ cur.length := by omega
 refine ⟨setRow_heap _ _ _ _ _ _ h1, by rw [List.length_set, length_splice _ _ _ hfit]; exact h2, fun j y hj => ?_⟩
 rw [List.getElem?_set] at hj
 split at hj
 ·rename_i hij
  subst hij
  obtain rfl := Option.some.inj hj
  have := splice_in cur cs (i * 16) hfit
  rw [hl] at this
  rw [this]
  exact hm hx
 ·rename_i hij
  have hy := hm (h3 j y hj)
  rcases Nat.lt_or_gt_of_ne hij with hlt | hgt
  ·rw [splice_behind cur cs (i * 16) (j * 16) 16 (by omega) hfit]; exact hy
  ·rw [splice_ahead cur cs (i * 16) (j * 16) 16 (by omega) hfit]; exact hy
end Go.Proofs.YteilkbookcmndaaGreatDoor.C
end
section
namespace Go.Proofs.YteilkbookcmndaaGreatDoor.C
open Go.RowKit Go.Proofs.YteilkbookcmndaaGreatDoor.Q Go.Proofs.YteilkbookcmndaaGreatDoorW.PrintWords Go.Proofs.YteilkbookcmndaaGreatDoorW.PrintLast Go.Proofs.YteilkbookcmndaaGreatDoorW.PrintMore
attribute [local go_sem ↓] rd_at50 wr_at50 al_at50
attribute [local go_sem] rd50_new wr50_new al50
theorem cell_agree {W W' : World} (h : ∀ k, k < W.heap.size → W'.heap[k]? = W.heap[k]?) {a : Addr} {v : Value} (hv : W.cell? a = some v) : W'.cell? a = some v := by
 have hb := World.block_lt_of_cell? W a hv
 unfold World.cell? at hv ⊢
 rw [h a.block hb]
 exact hv
theorem ints_agree {W W' : World} (h : ∀ k, k < W.heap.size → W'.heap[k]? = W.heap[k]?) {A : Option Addr} {n : Nat} {xs : List Int} (hC : Kd.C (Kd.int .i64) W A n xs) : Kd.C (Kd.int .i64) W' A n xs := by
 obtain ⟨h1, h2, h3⟩ := hC
 refine ⟨h1, h2, fun hn => ?_⟩
 obtain ⟨ad, e, hc⟩ := h3 hn
 refine ⟨ad, e, fun j p hj => ?_⟩
 obtain ⟨c, k1, k2, k3⟩ := hc j p hj
 exact ⟨c, k1, k2, fun i u hi => cell_agree h (k3 i u hi)⟩
theorem grants_agree {W W' : World} (h : ∀ k, k < W.heap.size → W'.heap[k]? = W.heap[k]?) {A : Option Addr} {n : Nat} {xs : List S96} (hC : Kd.C k96 W A n xs) : Kd.C k96 W' A n xs := by
 obtain ⟨h1, h2, h3⟩ := hC
 refine ⟨h1, h2, fun hn => ?_⟩
 obtain ⟨ad, e, hc⟩ := h3 hn
 refine ⟨ad, e, fun j p hj => ?_⟩
 obtain ⟨c, k1, k2, k3⟩ := hc j p hj
 exact ⟨c, k1, by rw [k96_open k2]; exact k96_mk W' p, fun i u hi => cell_agree h (k3 i u hi)⟩
theorem K_foot {W : World} {x : S50} {cs : List Value} (hK : k50.K W x cs) : k50.FK W (fun k => k < W.heap.size) x cs := by
 intro W' hW
 have h : ∀ k, k < W.heap.size → W'.heap[k]? = W.heap[k]? := fun k hk => hW k hk hk
 obtain ⟨A6, c6, A11, c11, rfl, l6, g6, l11, g11⟩ := k50_open hK
 exact k50_mk W' x l6 (grants_agree h g6) l11 (ints_agree h g11)
theorem split_join : ∀ (t n : List UInt8) (ns : List (List UInt8)), L.splitL t = n :: ns → t = n ++ L.flat ns
 | [], n, ns, h => by
  unfold L.splitL at h
  injection h with h1 h2
  subst h1 h2
  rfl
 | c :: t, n, ns, h => by
  unfold L.splitL at h
  split at h
  ·rename_i hc
   injection h with h1 h2
   subst h1 hc
   cases hs : L.splitL t with
   | nil => exact absurd hs (L.splitL_ne t)
   | cons m ms =>
    have := split_join t m ms hs
    rw [hs] at h2
    rw [← h2, L.flat_cons, ← this]
    rfl
  ·cases hs : L.splitL t with
   | nil => exact absurd hs (L.splitL_ne t)
   | cons m ms =>
    have := split_join t m ms hs
    rw [hs] at h
    injection h with h1 h2
    rw [← h1, ← h2, List.cons_append, ← this]
theorem path_ok {s : ByteArray} (h : L.checkL s.data.toList = 0) : ∃ ns, Okp ns ∧ s = pth ns := by
 have key : ∃ ns, (∀ x ∈ ns, L.Nm x) ∧ s.data.toList = L.render ns := by
  have h0 := h
  unfold L.checkL at h
  split at h
  ·cases h
  ·split at h
   ·rename_i h1
    exact ⟨[], by simp, h1⟩
   ·split at h
    ·cases h
    ·rename_i c t he
     split at h
     ·cases h
     ·rename_i hc
      split at h
      ·cases h
      ·split at h
       ·rename_i ha
        cases hs : L.splitL t with
        | nil => exact absurd hs (L.splitL_ne t)
        | cons n ns =>
         have hj := split_join t n ns hs
         rw [hs] at ha
         have hall := List.all_eq_true.1 ha
         have hc' : c = 47 := Classical.not_not.1 hc
         refine ⟨n :: ns, fun x hx => L.name_nm (hall x hx), ?_⟩
         rw [L.render_cons, ← hj, ← hc']
         exact he
       ·cases h
 obtain ⟨ns, h1, h2⟩ := key
 refine ⟨ns, ⟨h1, by rw [← h2]; exact h⟩, L.bytes_ext ?_⟩
 rw [pth_data]; exact h2
theorem rjoin_f (ns : List (List UInt8)) (n : List UInt8) (hn : ∀ x ∈ ns, L.Nm x) (h1 : (L.render ns).length ≤ 1000) (h2 : n.length ≤ 1000) : donjonref7_Join.f (pth ns) ⟨n.toArray⟩ = some (pth (ns ++ [n])) := join_f ns n hn h1 h2
theorem rparts_f {ns : List (List UInt8)} (hok : Okp ns) (k : Nat) (hk : 200 < k) : P.donjonref7_Parts.f k (pth ns) = some (ns.map fun l => ⟨l.toArray⟩) := by
 have hz := pth_size ns
 have hl := check_len hok.2
 rw [P.ref_parts (pth ns) (by omega) k (by omega)]
 congr 1
 cases ns with
 | nil => rfl
 | cons n ns =>
  have h1 : 1 ≤ n.length := (hok.1 n List.mem_cons_self).2
  rw [L.render_cons] at hz
  simp only [List.length_cons, List.length_append] at hz
  rw [if_pos (by omega), pth_data, L.render_cons, List.drop_one, List.tail_cons, L.split_flat ns n (hok.1 n List.mem_cons_self).1 (fun x hx => (hok.1 x (List.mem_cons_of_mem _ hx)).1)]
set_option maxHeartbeats 1000000 in
set_option maxRecDepth 100000 in
theorem see_bad (p : ByteArray) (x : Int) (hx : L.checkL p.data.toList = x) (hne : x ≠ 0) (u : ByteArray) (a : S41) (A : Option Addr) (n c : Nat) (w : World) :
  Calls Tryz.prog 35 #[.slice A n c, .agg #[.string u, .int .i64 a.f0, .int .i64 a.f1, .int .i64 a.f2, .int .i64 a.f3], .string p] w (NodeE z50 x w) := by
 have HK := Lib.hid fun w1 => P.path_Check.calls 100 p x w1 (by rw [P.path_check _ _ (by omega), hx])
 have hxe : (x != 0) = true := by simpa using hne
 have hxf : (x == 0) = false := by simpa using hne
 clear hx
 go_enter Tryz.func35, Tryz.ntmps35
 go_wp2_with (go_at_call 55; refine (HK.out _).mono ?_; rintro e w1 ⟨rfl, hb⟩; have E2 := (show w1.heap[w.heap.size + 1]? = some (.cells #[.string (⟨#[]⟩ : ByteArray), .bool false, .int .i64 0, .int .i64 0, .int .i64 0, .int .i64 0, .slice none 0 0, .int .i64 0, .int .i64 0, .int .i64 0, .int .i64 0, .slice none 0 0, .int .i64 0, .int .i64 0, .int .i64 0, .int .i64 0] 36) from by have h := blk_below (blk_new (w.alloc (.cells #[.string u, .int .i64 a.f0, .int .i64 a.f1, .int .i64 a.f2, .int .i64 a.f3] 52)) (.cells #[.string (⟨#[]⟩ : ByteArray), .bool false, .int .i64 0, .int .i64 0, .int .i64 0, .int .i64 0, .slice none 0 0, .int .i64 0, .int .i64 0, .int .i64 0, .int .i64 0, .slice none 0 0, .int .i64 0, .int .i64 0, .int .i64 0, .int .i64 0] 36)) hb; rwa [World.size_alloc] at h); have r2 := wr50_blk E2 (cs := #[.string (⟨#[]⟩ : ByteArray), .bool false, .int .i64 0, .int .i64 0, .int .i64 0, .int .i64 0, .slice none 0 0, .int .i64 0, .int .i64 0, .int .i64 0, .int .i64 0, .slice none 0 0, .int .i64 0, .int .i64 0, .int .i64 0, .int .i64 0]) rfl rfl (by simp [Value.oneCell']); have HE := Lib.hid (setRow_heap _ _ _ #[.string (⟨#[]⟩ : ByteArray), .bool false, .int .i64 0, .int .i64 0, .int .i64 0, .int .i64 0, .slice none 0 0, .int .i64 0, .int .i64 0, .int .i64 0, .int .i64 0, .slice none 0 0, .int .i64 0, .int .i64 0, .int .i64 0, .int .i64 0] _ _ E2); have HB9 := Lib.hid (below_setRow (below_step (below_alloc (below_alloc (Below.refl w.heap.size w) (.cells #[.string u, .int .i64 a.f0, .int .i64 a.f1, .int .i64 a.f2, .int .i64 a.f3] 52)) (.cells #[.string (⟨#[]⟩ : ByteArray), .bool false, .int .i64 0, .int .i64 0, .int .i64 0, .int .i64 0, .slice none 0 0, .int .i64 0, .int .i64 0, .int .i64 0, .int .i64 0, .slice none 0 0, .int .i64 0, .int .i64 0, .int .i64 0, .int .i64 0] 36)) hb) (Nat.le_succ _) #[.string (⟨#[]⟩ : ByteArray), .bool false, .int .i64 0, .int .i64 0, .int .i64 0, .int .i64 0, .slice none 0 0, .int .i64 0, .int .i64 0, .int .i64 0, .int .i64 0, .slice none 0 0, .int .i64 0, .int .i64 0, .int .i64 0, .int .i64 0]); clear E2 hb)
 refine bodyPost_ret (results_ct rfl _ _ (w.heap.size + 1) 36 _ (0, 0) _ rfl HE.out Tryz.underlying36 rfl (by kernel_rfl)) rfl ?_
 exact ⟨_, rfl, z50_FK _ _, HB9.out⟩
set_option maxHeartbeats 1000000 in
set_option maxRecDepth 100000 in
theorem may_err (p : ByteArray) (mode : Int) (h1 : 1 ≤ mode) (h7 : mode ≤ 7) (x : Int) (hne : x ≠ 0) (nd : S50) (u : ByteArray) (a : S41) (A : Option Addr) (n c : Nat) (w : World)
  (hS : ∀ w1, Below w.heap.size w w1 → Calls Tryz.prog 35 #[.slice A n c, .agg #[.string u, .int .i64 a.f0, .int .i64 a.f1, .int .i64 a.f2, .int .i64 a.f3], .string p] w1 (NodeE nd x w1)) :
  Calls Tryz.prog 19 #[.slice A n c, .agg #[.string u, .int .i64 a.f0, .int .i64 a.f1, .int .i64 a.f2, .int .i64 a.f3], .string p, .int .i64 mode] w (NodeE z50 x w) := by
 have E1 := Lib.hid (blk_alloc (blk_new w (.cells #[.string u, .int .i64 a.f0, .int .i64 a.f1, .int .i64 a.f2, .int .i64 a.f3] 52)) (.cells #[.string (⟨#[]⟩ : ByteArray), .bool false, .int .i64 0, .int .i64 0, .int .i64 0, .int .i64 0, .slice none 0 0, .int .i64 0, .int .i64 0, .int .i64 0, .int .i64 0, .slice none 0 0, .int .i64 0, .int .i64 0, .int .i64 0, .int .i64 0] 36))
 have E2 := Lib.hid (show ((w.alloc (.cells #[.string u, .int .i64 a.f0, .int .i64 a.f1, .int .i64 a.f2, .int .i64 a.f3] 52)).alloc (.cells #[.string (⟨#[]⟩ : ByteArray), .bool false, .int .i64 0, .int .i64 0, .int .i64 0, .int .i64 0, .slice none 0 0, .int .i64 0, .int .i64 0, .int .i64 0, .int .i64 0, .slice none 0 0, .int .i64 0, .int .i64 0, .int .i64 0, .int .i64 0] 36)).heap[w.heap.size + 1]? = some (.cells #[.string (⟨#[]⟩ : ByteArray), .bool false, .int .i64 0, .int .i64 0, .int .i64 0, .int .i64 0, .slice none 0 0, .int .i64 0, .int .i64 0, .int .i64 0, .int .i64 0, .slice none 0 0, .int .i64 0, .int .i64 0, .int .i64 0, .int .i64 0] 36) by have := blk_new (w.alloc (.cells #[.string u, .int .i64 a.f0, .int .i64 a.f1, .int .i64 a.f2, .int .i64 a.f3] 52)) (.cells #[.string (⟨#[]⟩ : ByteArray), .bool false, .int .i64 0, .int .i64 0, .int .i64 0, .int .i64 0, .slice none 0 0, .int .i64 0, .int .i64 0, .int .i64 0, .int .i64 0, .slice none 0 0, .int .i64 0, .int .i64 0, .int .i64 0, .int .i64 0] 36); rwa [World.size_alloc] at this)
 have HB0 := Lib.hid (below_alloc (below_alloc (Below.refl w.heap.size w) (.cells #[.string u, .int .i64 a.f0, .int .i64 a.f1, .int .i64 a.f2, .int .i64 a.f3] 52)) (.cells #[.string (⟨#[]⟩ : ByteArray), .bool false, .int .i64 0, .int .i64 0, .int .i64 0, .int .i64 0, .slice none 0 0, .int .i64 0, .int .i64 0, .int .i64 0, .int .i64 0, .slice none 0 0, .int .i64 0, .int .i64 0, .int .i64 0, .int .i64 0] 36))
 have HS := Lib.hid hS
 have hxe : (x != 0) = true := by simpa using hne
 have hxf : (x == 0) = false := by simpa using hne
 have hm1' : ¬ mode < 1 := by omega
 have hm7' : ¬ 7 < mode := by omega
 clear hS
 go_enter Tryz.func19, Tryz.ntmps19
 go_wp2_with (go_at_call 35; refine (HS.out _ HB0.out).mono ?_; rintro e w4 ⟨cs, rfl, hFK, hb⟩; obtain ⟨A6, c6, A11, c11, rfl, hx⟩ := k50_openF hFK; have E2' := Lib.hid (blk_alloc (blk_below E2.out hb) (.cells #[.string nd.f0, .bool nd.f1, .int .i64 nd.f2.f0, .int .i64 nd.f2.f1, .int .i64 nd.f2.f2, .int .i64 nd.f2.f3, .slice A6 nd.f3.length c6, .int .i64 nd.f4.f0, .int .i64 nd.f4.f1, .int .i64 nd.f4.f2, .int .i64 nd.f4.f3, .slice A11 nd.f5.length c11, .int .i64 nd.f6.f0, .int .i64 nd.f6.f1, .int .i64 nd.f6.f2, .int .i64 nd.f6.f3] 36)); have HB4 := Lib.hid (below_alloc (below_step HB0.out hb) (.cells #[.string nd.f0, .bool nd.f1, .int .i64 nd.f2.f0, .int .i64 nd.f2.f1, .int .i64 nd.f2.f2, .int .i64 nd.f2.f3, .slice A6 nd.f3.length c6, .int .i64 nd.f4.f0, .int .i64 nd.f4.f1, .int .i64 nd.f4.f2, .int .i64 nd.f4.f3, .slice A11 nd.f5.length c11, .int .i64 nd.f6.f0, .int .i64 nd.f6.f1, .int .i64 nd.f6.f2, .int .i64 nd.f6.f3] 36)); have r2 := wr50_blk E2'.out (cs := #[.string (⟨#[]⟩ : ByteArray), .bool false, .int .i64 0, .int .i64 0, .int .i64 0, .int .i64 0, .slice none 0 0, .int .i64 0, .int .i64 0, .int .i64 0, .int .i64 0, .slice none 0 0, .int .i64 0, .int .i64 0, .int .i64 0, .int .i64 0]) rfl rfl (by simp [Value.oneCell']); have HE := Lib.hid (setRow_heap _ _ _ #[.string (⟨#[]⟩ : ByteArray), .bool false, .int .i64 0, .int .i64 0, .int .i64 0, .int .i64 0, .slice none 0 0, .int .i64 0, .int .i64 0, .int .i64 0, .int .i64 0, .slice none 0 0, .int .i64 0, .int .i64 0, .int .i64 0, .int .i64 0] _ _ E2'.out); have HB9 := Lib.hid (below_setRow HB4.out (Nat.le_succ _) #[.string (⟨#[]⟩ : ByteArray), .bool false, .int .i64 0, .int .i64 0, .int .i64 0, .int .i64 0, .slice none 0 0, .int .i64 0, .int .i64 0, .int .i64 0, .int .i64 0, .slice none 0 0, .int .i64 0, .int .i64 0, .int .i64 0, .int .i64 0]); clear hFK hb hx)
 refine bodyPost_ret (results_ct rfl _ _ (w.heap.size + 1) 36 _ (0, 0) _ rfl HE.out Tryz.underlying36 rfl (by kernel_rfl)) rfl ?_
 exact ⟨_, rfl, z50_FK _ _, HB9.out⟩
theorem rfind_c (l : List S50) (p : ByteArray) (A : Option Addr) (c : Nat) (w0 w : World) (hC : Kd.C k50 w0 A l.length l) (hb0 : Below w0.heap.size w0 w) (hc : l.length ≤ c) (hA : Asc l) :
  Calls Tryz.prog 16 #[.slice A l.length c, .string p] w (FoundF (fun k => k < w0.heap.size) (nodeN l p) (isN l p) w) := by
 have hlen : l.length ≤ 9223372036854775807 := hC.2.1
 have HX := Lib.hid (find_is hA p)
 go_enter Tryz.func16, Tryz.ntmps16
 go_wp2
 go_loop [6] (fun t => ∃ i : Nat, i ≤ l.length ∧ t = .int .i64 i ∧ Hid (∀ j (h : j < l.length), j < i → (l[j]'h).f0 ≠ p)) (fun t => l.length - (intOf t).toNat)
 case atStart => exact ⟨0, Nat.zero_le _, rfl, Lib.hid fun j _ h => absurd h (Nat.not_lt_zero _)⟩
 case round =>
  obtain ⟨i, hi, rfl, HJ⟩ := hrel
  by_cases hlt : i < l.length
  ·obtain ⟨ad, A6, c6, A11, c11, rfl, ⟨h0, h1, h2, h3, h4, h5, h6, h7, h8, h9, h10, h11, h12, h13, h14, h15⟩, HK⟩ := at50 hC (below_alloc hb0 (.cells #[.string (⟨#[]⟩ : ByteArray), .bool false, .int .i64 0, .int .i64 0, .int .i64 0, .int .i64 0, .slice none 0 0, .int .i64 0, .int .i64 0, .int .i64 0, .int .i64 0, .slice none 0 0, .int .i64 0, .int .i64 0, .int .i64 0, .int .i64 0] 36)) i hlt
   by_cases he : (l[i]'hlt).f0.toList = p.toList
   ·have hb : ((l[i]'hlt).f0.toList == p.toList) = true := by simpa using he
    have HF := Lib.hid (find_some l p i hlt HJ.out (bytes_of_toList he))
    clear he
    have hld := rd50_of (loadC50 (P := Tryz.prog) ⟨h0, h1, h2, h3, h4, h5, h6, h7, h8, h9, h10, h11, h12, h13, h14, h15⟩)
    clear h1 h2 h3 h4 h5 h6 h7 h8 h9 h10 h11 h12 h13 h14 h15
    go_wp2
    refine bodyPost_ret (results_ct rfl _ _ w.heap.size 36 _ (0, 0) _ rfl (heap_alloc_new w _) Tryz.underlying36 rfl (by kernel_rfl)) rfl ?_
    refine ⟨_, by rw [← HX.out.1, HF.out]; rfl, ?_, below_alloc (Below.refl _ _) _⟩
    rw [← HX.out.2, HF.out]
    exact Kd.FK_below (K_foot HK.out) (below_alloc hb0 _)
   ·have hb : ((l[i]'hlt).f0.toList == p.toList) = false := by simpa using he
    have HN := Lib.hid he
    clear he h1 h2 h3 h4 h5 h6 h7 h8 h9 h10 h11 h12 h13 h14 h15 HK
    go_wp2
    go_round
    case rel =>
     refine ⟨i + 1, hlt, by go_num, Lib.hid fun j hj hji => ?_⟩
     by_cases h : j = i
     ·subst h
      intro e
      exact HN.out (by rw [e])
     ·exact HJ.out j hj (by omega)
    case measure => simp [intOf]; omega
  ·have HF := Lib.hid (find_none l p fun j hj => HJ.out j hj (by omega))
   clear HJ
   go_wp2
   refine bodyPost_ret (results_ct rfl _ _ w.heap.size 36 _ (0, 0) _ rfl (heap_alloc_new w _) Tryz.underlying36 rfl (by kernel_rfl)) rfl ?_
   refine ⟨_, by rw [← HX.out.1, HF.out]; rfl, ?_, below_alloc (Below.refl _ _) _⟩
   rw [← HX.out.2, HF.out]
   exact z50_FK _ _
def NodeR (w0 : World) (n : S50) (k : Int) (w : World) (e : Ending) (w' : World) : Prop := ∃ cs : List Value, e = .returned (.tuple #[.agg cs.toArray, .int .i64 k]) ∧ k50.FK w' (fun k => k < w0.heap.size) n cs ∧ Below w.heap.size w w'
set_option maxHeartbeats 1000000 in
set_option maxRecDepth 100000 in
theorem rsee_bad (p : ByteArray) (x : Int) (hx : L.checkL p.data.toList = x) (hne : x ≠ 0) (u : ByteArray) (a : S41) (A : Option Addr) (n c : Nat) (w0 w : World) :
  Calls Tryz.prog 46 #[.slice A n c, .agg #[.string u, .int .i64 a.f0, .int .i64 a.f1, .int .i64 a.f2, .int .i64 a.f3], .string p] w (NodeR w0 z50 x w) := by
 have HK := Lib.hid fun w1 => P.donjonref7_Check.calls 2000 p x w1 (by rw [P.ref_check _ _ (by omega), hx])
 have hxe : (x != 0) = true := by simpa using hne
 have hxf : (x == 0) = false := by simpa using hne
 clear hx
 go_enter Tryz.func46, Tryz.ntmps46
 go_wp2_with (go_at_call 67; refine (HK.out _).mono ?_; rintro e w1 ⟨rfl, hb⟩; have E2 := (show w1.heap[w.heap.size + 1]? = some (.cells #[.string (⟨#[]⟩ : ByteArray), .bool false, .int .i64 0, .int .i64 0, .int .i64 0, .int .i64 0, .slice none 0 0, .int .i64 0, .int .i64 0, .int .i64 0, .int .i64 0, .slice none 0 0, .int .i64 0, .int .i64 0, .int .i64 0, .int .i64 0] 36) from by have h := blk_below (blk_new (w.alloc (.cells #[.string u, .int .i64 a.f0, .int .i64 a.f1, .int .i64 a.f2, .int .i64 a.f3] 60)) (.cells #[.string (⟨#[]⟩ : ByteArray), .bool false, .int .i64 0, .int .i64 0, .int .i64 0, .int .i64 0, .slice none 0 0, .int .i64 0, .int .i64 0, .int .i64 0, .int .i64 0, .slice none 0 0, .int .i64 0, .int .i64 0, .int .i64 0, .int .i64 0] 36)) hb; rwa [World.size_alloc] at h); have r2 := wr50_blk E2 (cs := #[.string (⟨#[]⟩ : ByteArray), .bool false, .int .i64 0, .int .i64 0, .int .i64 0, .int .i64 0, .slice none 0 0, .int .i64 0, .int .i64 0, .int .i64 0, .int .i64 0, .slice none 0 0, .int .i64 0, .int .i64 0, .int .i64 0, .int .i64 0]) rfl rfl (by simp [Value.oneCell']); have HE := Lib.hid (setRow_heap _ _ _ #[.string (⟨#[]⟩ : ByteArray), .bool false, .int .i64 0, .int .i64 0, .int .i64 0, .int .i64 0, .slice none 0 0, .int .i64 0, .int .i64 0, .int .i64 0, .int .i64 0, .slice none 0 0, .int .i64 0, .int .i64 0, .int .i64 0, .int .i64 0] _ _ E2); have HB9 := Lib.hid (below_setRow (below_step (below_alloc (below_alloc (Below.refl w.heap.size w) (.cells #[.string u, .int .i64 a.f0, .int .i64 a.f1, .int .i64 a.f2, .int .i64 a.f3] 60)) (.cells #[.string (⟨#[]⟩ : ByteArray), .bool false, .int .i64 0, .int .i64 0, .int .i64 0, .int .i64 0, .slice none 0 0, .int .i64 0, .int .i64 0, .int .i64 0, .int .i64 0, .slice none 0 0, .int .i64 0, .int .i64 0, .int .i64 0, .int .i64 0] 36)) hb) (Nat.le_succ _) #[.string (⟨#[]⟩ : ByteArray), .bool false, .int .i64 0, .int .i64 0, .int .i64 0, .int .i64 0, .slice none 0 0, .int .i64 0, .int .i64 0, .int .i64 0, .int .i64 0, .slice none 0 0, .int .i64 0, .int .i64 0, .int .i64 0, .int .i64 0]); clear E2 hb)
 refine bodyPost_ret (results_ct rfl _ _ (w.heap.size + 1) 36 _ (0, 0) _ rfl HE.out Tryz.underlying36 rfl (by kernel_rfl)) rfl ?_
 exact ⟨_, rfl, z50_FK _ _, HB9.out⟩
set_option maxHeartbeats 2000000 in
set_option maxRecDepth 100000 in
theorem rsee_c {l : List S50} (T : Tree l) (u : ByteArray) (a : S41) (hL : Lab a) (ns : List (List UInt8)) (hok : Okp ns) (p : ByteArray) (hp : pth ns = p) (A : Option Addr) (c : Nat) (w0 w : World) (hC : Kd.C k50 w0 A l.length l) (hb0 : Below w0.heap.size w0 w) (hc : l.length ≤ c) :
  Calls Tryz.prog 46 #[.slice A l.length c, .agg #[.string u, .int .i64 a.f0, .int .i64 a.f1, .int .i64 a.f2, .int .i64 a.f3], .string p] w (NodeR w0 (seeR l a [] ns).1 (seeR l a [] ns).2 w) := by
 have HK := Lib.hid fun w1 => P.donjonref7_Check.calls 2000 p 0 w1 (by rw [P.ref_check _ _ (by omega), ← hp, pth_data, hok.2])
 have HP := Lib.hid fun w1 => P.donjonref7_Parts.calls 300 p _ w1 (by rw [← hp]; exact rparts_f hok 300 (by omega))
 have hpl : ∀ i, (L.render (ns.take i)).length ≤ 1000 := fun i => by
  have h1 := render_le (ns.take i); have h2 := flat_take ns i; have h3 := flat_le ns; have h4 := check_len hok.2
  omega
 have hnl : ∀ i (h : i < ns.length), (ns[i]'h).length ≤ 1000 := fun i h => by
  have h2 := flat_take ns (i + 1); have h3 := flat_le ns; have h4 := check_len hok.2
  rw [List.take_succ_eq_append_getElem h, L.flat_snoc, List.length_append, List.length_cons] at h2
  omega
 have HJ := Lib.hid fun i (h : i < ns.length) w1 => donjonref7_Join.calls (pth (ns.take i)) ⟨(ns[i]'h).toArray⟩ (pth (ns.take (i + 1))) w1 (by rw [List.take_succ_eq_append_getElem h]; exact rjoin_f _ _ (fun x hx => hok.1 x (List.mem_of_mem_take hx)) (hpl i) (hnl i h))
 clear hpl hnl
 have HFD := Lib.hid fun q wr (hb : Below w.heap.size w wr) => rfind_c l q A c w0 wr hC (below_step hb0 hb) hc T.asc
 have HT := Lib.hid T
 have HLA := Lib.hid hL
 have HEND := Lib.hid (show seeR l a ns [] = if isN l p then (nodeN l p, 0) else (z50, 2) by unfold seeR; rw [hp])
 have hz0 := below_size hb0
 obtain ⟨nms, hnms⟩ : ∃ nms : List ByteArray, nms = ns.map fun l => ⟨l.toArray⟩ := ⟨_, rfl⟩
 have HNM := Lib.hid hnms
 rw [← hnms] at HP
 clear hnms hC hok hp hL
 go_enter Tryz.func46, Tryz.ntmps46
 go_wp2_with (first | (go_at_call 67; refine (HK.out _).mono ?_; rintro e w1 ⟨rfl, hb⟩; have E1 := Lib.hid (blk_below (blk_alloc (blk_new w (.cells #[.string u, .int .i64 a.f0, .int .i64 a.f1, .int .i64 a.f2, .int .i64 a.f3] 60)) (.cells #[.string (⟨#[]⟩ : ByteArray), .bool false, .int .i64 0, .int .i64 0, .int .i64 0, .int .i64 0, .slice none 0 0, .int .i64 0, .int .i64 0, .int .i64 0, .int .i64 0, .slice none 0 0, .int .i64 0, .int .i64 0, .int .i64 0, .int .i64 0] 36)) hb); have E2 := Lib.hid (show w1.heap[w.heap.size + 1]? = some (.cells #[.string (⟨#[]⟩ : ByteArray), .bool false, .int .i64 0, .int .i64 0, .int .i64 0, .int .i64 0, .slice none 0 0, .int .i64 0, .int .i64 0, .int .i64 0, .int .i64 0, .slice none 0 0, .int .i64 0, .int .i64 0, .int .i64 0, .int .i64 0] 36) from by have h := blk_below (blk_new (w.alloc (.cells #[.string u, .int .i64 a.f0, .int .i64 a.f1, .int .i64 a.f2, .int .i64 a.f3] 60)) (.cells #[.string (⟨#[]⟩ : ByteArray), .bool false, .int .i64 0, .int .i64 0, .int .i64 0, .int .i64 0, .slice none 0 0, .int .i64 0, .int .i64 0, .int .i64 0, .int .i64 0, .slice none 0 0, .int .i64 0, .int .i64 0, .int .i64 0, .int .i64 0] 36)) hb; rwa [World.size_alloc] at h); have HB := Lib.hid (below_step (below_alloc (below_alloc (Below.refl w.heap.size w) (.cells #[.string u, .int .i64 a.f0, .int .i64 a.f1, .int .i64 a.f2, .int .i64 a.f3] 60)) (.cells #[.string (⟨#[]⟩ : ByteArray), .bool false, .int .i64 0, .int .i64 0, .int .i64 0, .int .i64 0, .slice none 0 0, .int .i64 0, .int .i64 0, .int .i64 0, .int .i64 0, .slice none 0 0, .int .i64 0, .int .i64 0, .int .i64 0, .int .i64 0] 36)) hb); clear hb) | (go_at_call 68; refine (HP.out _).mono ?_; rintro e w2 ⟨v9, rfl, hR, hb⟩; obtain ⟨A9, c9, rfl, hl9, hC9⟩ := Kd.R_reads hR; have HF9 := Lib.hid hC9; have E1 := Lib.hid (blk_below E1.out hb); have E2 := Lib.hid (blk_below E2.out hb); have HB := Lib.hid (below_step HB.out hb); clear hb hR hC9))
 have HLL := Lib.hid (show nms.length = ns.length by rw [HNM.out]; simp)
 go_loopg [10, 11] ns.length (fun k s10 s11 wr => ∃ i, i ≤ ns.length ∧ ns.length - i ≤ k ∧ s11 = .int .i64 i ∧ s10 = .string (pth (ns.take i)) ∧ Hid (Below w2.heap.size w2 wr) ∧ Hid (seeR l a [] ns = seeR l a (ns.take i) (ns.drop i)))
 case atStart => exact ⟨0, Nat.zero_le _, Nat.le_refl _, rfl, rfl, Lib.hid (Below.refl _ _), Lib.hid rfl⟩
 case round =>
  obtain ⟨i, hi, hik, rfl, rfl, HW, HV⟩ := hrel
  have HBW := Lib.hid (below_step HB.out HW.out)
  have E1w := Lib.hid (blk_below E1.out HW.out)
  have E2w := Lib.hid (blk_below E2.out HW.out)
  by_cases hlt' : i < nms.length
  ·have hlt : i < ns.length := by have := HLL.out; omega
   obtain ⟨ad9, c, hA9, _, hK9, hc9⟩ := Kd.C_get (Kd.C_below HF9.out HW.out) (⟨#[]⟩ : ByteArray) (i : Int) (by omega) (by omega)
   obtain rfl : c = [.string ⟨(ns[i]'hlt).toArray⟩] := by
    have h9 : c = [.string (nms.getD (i : Int).toNat ⟨#[]⟩)] := hK9
    rw [h9, Int.toNat_natCast, HNM.out]
    simp [List.getD_eq_getElem?_getD, List.getElem?_eq_getElem hlt]
   have h9 := hc9 0 _ rfl
   subst hA9
   simp only [Int.toNat_natCast, show Kd.string.sz = 1 from rfl, Nat.mul_one, Nat.add_zero] at h9
   clear hc9 hK9
   have H9 := Lib.hid h9
   clear h9
   have HV1 := Lib.hid (show seeR l a [] ns = if isN l (pth (ns.take i)) then (if (nodeN l (pth (ns.take i))).f1 then (if lover a (nodeN l (pth (ns.take i))).f2 then seeR l a (ns.take (i + 1)) (ns.drop (i + 1)) else (z50, 15)) else (z50, 3)) else (z50, 2) by
    rw [HV.out, List.drop_eq_getElem_cons hlt, seeR, List.take_succ_eq_append_getElem hlt])
   have HF := Lib.hid (HFD.out (pth (ns.take i)) wr HBW.out)
   have HJ := Lib.hid (HJ.out i hlt)
   have HMM := Lib.hid (fun h => (HT.out.ok _ (nodeN_mem (l := l) (p := pth (ns.take i)) h)).1)
   clear HV
   generalize nodeN l (pth (ns.take i)) = nd at HF HV1 HMM
   generalize isN l (pth (ns.take i)) = b at HF HV1 HMM
   cases b with
   | false =>
    go_wp2_with (go_at_call 16; refine HF.out.mono ?_; rintro e w4 ⟨cs, rfl, hFK, hb⟩; obtain ⟨A6, c6, A11, c11, rfl, _⟩ := k50_openF hFK; have E1' := Lib.hid (blk_alloc (blk_below E1w.out hb) (.cells #[.string nd.f0, .bool nd.f1, .int .i64 nd.f2.f0, .int .i64 nd.f2.f1, .int .i64 nd.f2.f2, .int .i64 nd.f2.f3, .slice A6 nd.f3.length c6, .int .i64 nd.f4.f0, .int .i64 nd.f4.f1, .int .i64 nd.f4.f2, .int .i64 nd.f4.f3, .slice A11 nd.f5.length c11, .int .i64 nd.f6.f0, .int .i64 nd.f6.f1, .int .i64 nd.f6.f2, .int .i64 nd.f6.f3] 36)); have E2' := Lib.hid (blk_alloc (blk_below E2w.out hb) (.cells #[.string nd.f0, .bool nd.f1, .int .i64 nd.f2.f0, .int .i64 nd.f2.f1, .int .i64 nd.f2.f2, .int .i64 nd.f2.f3, .slice A6 nd.f3.length c6, .int .i64 nd.f4.f0, .int .i64 nd.f4.f1, .int .i64 nd.f4.f2, .int .i64 nd.f4.f3, .slice A11 nd.f5.length c11, .int .i64 nd.f6.f0, .int .i64 nd.f6.f1, .int .i64 nd.f6.f2, .int .i64 nd.f6.f3] 36)); have HB4 := Lib.hid (below_alloc (below_step HBW.out hb) (.cells #[.string nd.f0, .bool nd.f1, .int .i64 nd.f2.f0, .int .i64 nd.f2.f1, .int .i64 nd.f2.f2, .int .i64 nd.f2.f3, .slice A6 nd.f3.length c6, .int .i64 nd.f4.f0, .int .i64 nd.f4.f1, .int .i64 nd.f4.f2, .int .i64 nd.f4.f3, .slice A11 nd.f5.length c11, .int .i64 nd.f6.f0, .int .i64 nd.f6.f1, .int .i64 nd.f6.f2, .int .i64 nd.f6.f3] 36)); have HW4 := Lib.hid (below_alloc (below_step HW.out hb) (.cells #[.string nd.f0, .bool nd.f1, .int .i64 nd.f2.f0, .int .i64 nd.f2.f1, .int .i64 nd.f2.f2, .int .i64 nd.f2.f3, .slice A6 nd.f3.length c6, .int .i64 nd.f4.f0, .int .i64 nd.f4.f1, .int .i64 nd.f4.f2, .int .i64 nd.f4.f3, .slice A11 nd.f5.length c11, .int .i64 nd.f6.f0, .int .i64 nd.f6.f1, .int .i64 nd.f6.f2, .int .i64 nd.f6.f3] 36)); have EN := Lib.hid (blk_new w4 (.cells #[.string nd.f0, .bool nd.f1, .int .i64 nd.f2.f0, .int .i64 nd.f2.f1, .int .i64 nd.f2.f2, .int .i64 nd.f2.f3, .slice A6 nd.f3.length c6, .int .i64 nd.f4.f0, .int .i64 nd.f4.f1, .int .i64 nd.f4.f2, .int .i64 nd.f4.f3, .slice A11 nd.f5.length c11, .int .i64 nd.f6.f0, .int .i64 nd.f6.f1, .int .i64 nd.f6.f2, .int .i64 nd.f6.f3] 36)); have r2 := wr50_blk E2'.out (cs := #[.string (⟨#[]⟩ : ByteArray), .bool false, .int .i64 0, .int .i64 0, .int .i64 0, .int .i64 0, .slice none 0 0, .int .i64 0, .int .i64 0, .int .i64 0, .int .i64 0, .slice none 0 0, .int .i64 0, .int .i64 0, .int .i64 0, .int .i64 0]) rfl rfl (by simp [Value.oneCell']); have HE := Lib.hid (setRow_heap _ _ _ #[.string (⟨#[]⟩ : ByteArray), .bool false, .int .i64 0, .int .i64 0, .int .i64 0, .int .i64 0, .slice none 0 0, .int .i64 0, .int .i64 0, .int .i64 0, .int .i64 0, .slice none 0 0, .int .i64 0, .int .i64 0, .int .i64 0, .int .i64 0] _ _ E2'.out); have HB9 := Lib.hid (below_setRow (HB4.out) (Nat.le_succ _) #[.string (⟨#[]⟩ : ByteArray), .bool false, .int .i64 0, .int .i64 0, .int .i64 0, .int .i64 0, .slice none 0 0, .int .i64 0, .int .i64 0, .int .i64 0, .int .i64 0, .slice none 0 0, .int .i64 0, .int .i64 0, .int .i64 0, .int .i64 0]); clear hb hFK)
    refine bodyPost_ret (results_ct rfl _ _ (w.heap.size + 1) 36 _ (0, 0) _ rfl HE.out Tryz.underlying36 rfl (by kernel_rfl)) rfl ?_
    rw [HV1.out]
    exact ⟨_, rfl, z50_FK _ _, HB9.out⟩
   | true =>
    cases hf : nd.f1 with
    | false =>
     have HV2 := Lib.hid (show seeR l a [] ns = (z50, 3) by rw [HV1.out, hf]; rfl)
     have HF1 := Lib.hid hf
     clear hf
     go_wp2_with (go_at_call 16; refine HF.out.mono ?_; rintro e w4 ⟨cs, rfl, hFK, hb⟩; obtain ⟨A6, c6, A11, c11, rfl, _⟩ := k50_openF hFK; have E1' := Lib.hid (blk_alloc (blk_below E1w.out hb) (.cells #[.string nd.f0, .bool nd.f1, .int .i64 nd.f2.f0, .int .i64 nd.f2.f1, .int .i64 nd.f2.f2, .int .i64 nd.f2.f3, .slice A6 nd.f3.length c6, .int .i64 nd.f4.f0, .int .i64 nd.f4.f1, .int .i64 nd.f4.f2, .int .i64 nd.f4.f3, .slice A11 nd.f5.length c11, .int .i64 nd.f6.f0, .int .i64 nd.f6.f1, .int .i64 nd.f6.f2, .int .i64 nd.f6.f3] 36)); have E2' := Lib.hid (blk_alloc (blk_below E2w.out hb) (.cells #[.string nd.f0, .bool nd.f1, .int .i64 nd.f2.f0, .int .i64 nd.f2.f1, .int .i64 nd.f2.f2, .int .i64 nd.f2.f3, .slice A6 nd.f3.length c6, .int .i64 nd.f4.f0, .int .i64 nd.f4.f1, .int .i64 nd.f4.f2, .int .i64 nd.f4.f3, .slice A11 nd.f5.length c11, .int .i64 nd.f6.f0, .int .i64 nd.f6.f1, .int .i64 nd.f6.f2, .int .i64 nd.f6.f3] 36)); have HB4 := Lib.hid (below_alloc (below_step HBW.out hb) (.cells #[.string nd.f0, .bool nd.f1, .int .i64 nd.f2.f0, .int .i64 nd.f2.f1, .int .i64 nd.f2.f2, .int .i64 nd.f2.f3, .slice A6 nd.f3.length c6, .int .i64 nd.f4.f0, .int .i64 nd.f4.f1, .int .i64 nd.f4.f2, .int .i64 nd.f4.f3, .slice A11 nd.f5.length c11, .int .i64 nd.f6.f0, .int .i64 nd.f6.f1, .int .i64 nd.f6.f2, .int .i64 nd.f6.f3] 36)); have HW4 := Lib.hid (below_alloc (below_step HW.out hb) (.cells #[.string nd.f0, .bool nd.f1, .int .i64 nd.f2.f0, .int .i64 nd.f2.f1, .int .i64 nd.f2.f2, .int .i64 nd.f2.f3, .slice A6 nd.f3.length c6, .int .i64 nd.f4.f0, .int .i64 nd.f4.f1, .int .i64 nd.f4.f2, .int .i64 nd.f4.f3, .slice A11 nd.f5.length c11, .int .i64 nd.f6.f0, .int .i64 nd.f6.f1, .int .i64 nd.f6.f2, .int .i64 nd.f6.f3] 36)); have EN := Lib.hid (blk_new w4 (.cells #[.string nd.f0, .bool nd.f1, .int .i64 nd.f2.f0, .int .i64 nd.f2.f1, .int .i64 nd.f2.f2, .int .i64 nd.f2.f3, .slice A6 nd.f3.length c6, .int .i64 nd.f4.f0, .int .i64 nd.f4.f1, .int .i64 nd.f4.f2, .int .i64 nd.f4.f3, .slice A11 nd.f5.length c11, .int .i64 nd.f6.f0, .int .i64 nd.f6.f1, .int .i64 nd.f6.f2, .int .i64 nd.f6.f3] 36)); have d1 : (w4.alloc (.cells #[.string nd.f0, .bool nd.f1, .int .i64 nd.f2.f0, .int .i64 nd.f2.f1, .int .i64 nd.f2.f2, .int .i64 nd.f2.f3, .slice A6 nd.f3.length c6, .int .i64 nd.f4.f0, .int .i64 nd.f4.f1, .int .i64 nd.f4.f2, .int .i64 nd.f4.f3, .slice A11 nd.f5.length c11, .int .i64 nd.f6.f0, .int .i64 nd.f6.f1, .int .i64 nd.f6.f2, .int .i64 nd.f6.f3] 36)).cell? ⟨w4.heap.size, 1, none⟩ = some (.bool false) := (blk_cell EN.out 1).trans (by rw [HF1.out]; rfl); have r2 := wr50_blk E2'.out (cs := #[.string (⟨#[]⟩ : ByteArray), .bool false, .int .i64 0, .int .i64 0, .int .i64 0, .int .i64 0, .slice none 0 0, .int .i64 0, .int .i64 0, .int .i64 0, .int .i64 0, .slice none 0 0, .int .i64 0, .int .i64 0, .int .i64 0, .int .i64 0]) rfl rfl (by simp [Value.oneCell']); have HE := Lib.hid (setRow_heap _ _ _ #[.string (⟨#[]⟩ : ByteArray), .bool false, .int .i64 0, .int .i64 0, .int .i64 0, .int .i64 0, .slice none 0 0, .int .i64 0, .int .i64 0, .int .i64 0, .int .i64 0, .slice none 0 0, .int .i64 0, .int .i64 0, .int .i64 0, .int .i64 0] _ _ E2'.out); have HB9 := Lib.hid (below_setRow (HB4.out) (Nat.le_succ _) #[.string (⟨#[]⟩ : ByteArray), .bool false, .int .i64 0, .int .i64 0, .int .i64 0, .int .i64 0, .slice none 0 0, .int .i64 0, .int .i64 0, .int .i64 0, .int .i64 0, .slice none 0 0, .int .i64 0, .int .i64 0, .int .i64 0, .int .i64 0]); clear hb hFK)
     refine bodyPost_ret (results_ct rfl _ _ (w.heap.size + 1) 36 _ (0, 0) _ rfl HE.out Tryz.underlying36 rfl (by kernel_rfl)) rfl ?_
     rw [HV2.out]
     exact ⟨_, rfl, z50_FK _ _, HB9.out⟩
    | true =>
     have HF1 := Lib.hid hf
     cases hl : lover a nd.f2 with
     | false =>
      have HV2 := Lib.hid (show seeR l a [] ns = (z50, 15) by rw [HV1.out, hf, hl]; rfl)
      have HO := Lib.hid fun w1 => donjonref4_Over.calls a.f0 a.f1 a.f2 a.f3 nd.f2.f0 nd.f2.f1 nd.f2.f2 nd.f2.f3 false w1 (by rw [rover_iff HLA.out (HMM.out rfl), hl])
      clear hl hf
      go_wp2_with (first | (go_at_call 47; refine (HO.out _).mono ?_; rintro e w5 ⟨rfl, hb5⟩; have HW5 := Lib.hid (below_step HW4.out hb5); have E3 := Lib.hid (blk_below E2'.out hb5); have r2 := wr50_blk E3.out (cs := #[.string (⟨#[]⟩ : ByteArray), .bool false, .int .i64 0, .int .i64 0, .int .i64 0, .int .i64 0, .slice none 0 0, .int .i64 0, .int .i64 0, .int .i64 0, .int .i64 0, .slice none 0 0, .int .i64 0, .int .i64 0, .int .i64 0, .int .i64 0]) rfl rfl (by simp [Value.oneCell']); have HE := Lib.hid (setRow_heap _ _ _ #[.string (⟨#[]⟩ : ByteArray), .bool false, .int .i64 0, .int .i64 0, .int .i64 0, .int .i64 0, .slice none 0 0, .int .i64 0, .int .i64 0, .int .i64 0, .int .i64 0, .slice none 0 0, .int .i64 0, .int .i64 0, .int .i64 0, .int .i64 0] _ _ E3.out); have HB9 := Lib.hid (below_setRow (below_step HB4.out hb5) (Nat.le_succ _) #[.string (⟨#[]⟩ : ByteArray), .bool false, .int .i64 0, .int .i64 0, .int .i64 0, .int .i64 0, .slice none 0 0, .int .i64 0, .int .i64 0, .int .i64 0, .int .i64 0, .slice none 0 0, .int .i64 0, .int .i64 0, .int .i64 0, .int .i64 0]); clear hb5) | (go_at_call 16; refine HF.out.mono ?_; rintro e w4 ⟨cs, rfl, hFK, hb⟩; obtain ⟨A6, c6, A11, c11, rfl, _⟩ := k50_openF hFK; have E1' := Lib.hid (blk_alloc (blk_below E1w.out hb) (.cells #[.string nd.f0, .bool nd.f1, .int .i64 nd.f2.f0, .int .i64 nd.f2.f1, .int .i64 nd.f2.f2, .int .i64 nd.f2.f3, .slice A6 nd.f3.length c6, .int .i64 nd.f4.f0, .int .i64 nd.f4.f1, .int .i64 nd.f4.f2, .int .i64 nd.f4.f3, .slice A11 nd.f5.length c11, .int .i64 nd.f6.f0, .int .i64 nd.f6.f1, .int .i64 nd.f6.f2, .int .i64 nd.f6.f3] 36)); have E2' := Lib.hid (blk_alloc (blk_below E2w.out hb) (.cells #[.string nd.f0, .bool nd.f1, .int .i64 nd.f2.f0, .int .i64 nd.f2.f1, .int .i64 nd.f2.f2, .int .i64 nd.f2.f3, .slice A6 nd.f3.length c6, .int .i64 nd.f4.f0, .int .i64 nd.f4.f1, .int .i64 nd.f4.f2, .int .i64 nd.f4.f3, .slice A11 nd.f5.length c11, .int .i64 nd.f6.f0, .int .i64 nd.f6.f1, .int .i64 nd.f6.f2, .int .i64 nd.f6.f3] 36)); have HB4 := Lib.hid (below_alloc (below_step HBW.out hb) (.cells #[.string nd.f0, .bool nd.f1, .int .i64 nd.f2.f0, .int .i64 nd.f2.f1, .int .i64 nd.f2.f2, .int .i64 nd.f2.f3, .slice A6 nd.f3.length c6, .int .i64 nd.f4.f0, .int .i64 nd.f4.f1, .int .i64 nd.f4.f2, .int .i64 nd.f4.f3, .slice A11 nd.f5.length c11, .int .i64 nd.f6.f0, .int .i64 nd.f6.f1, .int .i64 nd.f6.f2, .int .i64 nd.f6.f3] 36)); have HW4 := Lib.hid (below_alloc (below_step HW.out hb) (.cells #[.string nd.f0, .bool nd.f1, .int .i64 nd.f2.f0, .int .i64 nd.f2.f1, .int .i64 nd.f2.f2, .int .i64 nd.f2.f3, .slice A6 nd.f3.length c6, .int .i64 nd.f4.f0, .int .i64 nd.f4.f1, .int .i64 nd.f4.f2, .int .i64 nd.f4.f3, .slice A11 nd.f5.length c11, .int .i64 nd.f6.f0, .int .i64 nd.f6.f1, .int .i64 nd.f6.f2, .int .i64 nd.f6.f3] 36)); have EN := Lib.hid (blk_new w4 (.cells #[.string nd.f0, .bool nd.f1, .int .i64 nd.f2.f0, .int .i64 nd.f2.f1, .int .i64 nd.f2.f2, .int .i64 nd.f2.f3, .slice A6 nd.f3.length c6, .int .i64 nd.f4.f0, .int .i64 nd.f4.f1, .int .i64 nd.f4.f2, .int .i64 nd.f4.f3, .slice A11 nd.f5.length c11, .int .i64 nd.f6.f0, .int .i64 nd.f6.f1, .int .i64 nd.f6.f2, .int .i64 nd.f6.f3] 36)); have d1 : (w4.alloc (.cells #[.string nd.f0, .bool nd.f1, .int .i64 nd.f2.f0, .int .i64 nd.f2.f1, .int .i64 nd.f2.f2, .int .i64 nd.f2.f3, .slice A6 nd.f3.length c6, .int .i64 nd.f4.f0, .int .i64 nd.f4.f1, .int .i64 nd.f4.f2, .int .i64 nd.f4.f3, .slice A11 nd.f5.length c11, .int .i64 nd.f6.f0, .int .i64 nd.f6.f1, .int .i64 nd.f6.f2, .int .i64 nd.f6.f3] 36)).cell? ⟨w4.heap.size, 1, none⟩ = some (.bool true) := (blk_cell EN.out 1).trans (by rw [HF1.out]; rfl); have d2 := (blk_cell EN.out 2).trans rfl; have d3 := (blk_cell EN.out 3).trans rfl; have d4 := (blk_cell EN.out 4).trans rfl; have d5 := (blk_cell EN.out 5).trans rfl; have a1 := (blk_cell E1'.out 1).trans rfl; have a2 := (blk_cell E1'.out 2).trans rfl; have a3 := (blk_cell E1'.out 3).trans rfl; have a4 := (blk_cell E1'.out 4).trans rfl; clear hb hFK))
      refine bodyPost_ret (results_ct rfl _ _ (w.heap.size + 1) 36 _ (0, 0) _ rfl HE.out Tryz.underlying36 rfl (by kernel_rfl)) rfl ?_
      rw [HV2.out]
      exact ⟨_, rfl, z50_FK _ _, HB9.out⟩
     | true =>
      have HV2 := Lib.hid (show seeR l a [] ns = seeR l a (ns.take (i + 1)) (ns.drop (i + 1)) by rw [HV1.out, hf, hl]; rfl)
      have HO := Lib.hid fun w1 => donjonref4_Over.calls a.f0 a.f1 a.f2 a.f3 nd.f2.f0 nd.f2.f1 nd.f2.f2 nd.f2.f3 true w1 (by rw [rover_iff HLA.out (HMM.out rfl), hl])
      clear hl hf
      go_wp2_with (first | (go_at_call 69; refine (HJ.out _).mono ?_; rintro e w6 ⟨rfl, hb6⟩; have HW6 := Lib.hid (below_step HW5.out (Drawn0.below hb6)); clear hb6) | (go_at_call 47; refine (HO.out _).mono ?_; rintro e w5 ⟨rfl, hb5⟩; have HW5 := Lib.hid (below_step HW4.out hb5); have h9 := pw_cell_below (below_step (below_alloc (below_step (Below.refl wr.heap.size wr) HWR4.out) _) hb5) H9.out; clear hb5) | (go_at_call 16; refine HF.out.mono ?_; rintro e w4 ⟨cs, rfl, hFK, hb⟩; obtain ⟨A6, c6, A11, c11, rfl, _⟩ := k50_openF hFK; have E1' := Lib.hid (blk_alloc (blk_below E1w.out hb) (.cells #[.string nd.f0, .bool nd.f1, .int .i64 nd.f2.f0, .int .i64 nd.f2.f1, .int .i64 nd.f2.f2, .int .i64 nd.f2.f3, .slice A6 nd.f3.length c6, .int .i64 nd.f4.f0, .int .i64 nd.f4.f1, .int .i64 nd.f4.f2, .int .i64 nd.f4.f3, .slice A11 nd.f5.length c11, .int .i64 nd.f6.f0, .int .i64 nd.f6.f1, .int .i64 nd.f6.f2, .int .i64 nd.f6.f3] 36)); have E2' := Lib.hid (blk_alloc (blk_below E2w.out hb) (.cells #[.string nd.f0, .bool nd.f1, .int .i64 nd.f2.f0, .int .i64 nd.f2.f1, .int .i64 nd.f2.f2, .int .i64 nd.f2.f3, .slice A6 nd.f3.length c6, .int .i64 nd.f4.f0, .int .i64 nd.f4.f1, .int .i64 nd.f4.f2, .int .i64 nd.f4.f3, .slice A11 nd.f5.length c11, .int .i64 nd.f6.f0, .int .i64 nd.f6.f1, .int .i64 nd.f6.f2, .int .i64 nd.f6.f3] 36)); have HB4 := Lib.hid (below_alloc (below_step HBW.out hb) (.cells #[.string nd.f0, .bool nd.f1, .int .i64 nd.f2.f0, .int .i64 nd.f2.f1, .int .i64 nd.f2.f2, .int .i64 nd.f2.f3, .slice A6 nd.f3.length c6, .int .i64 nd.f4.f0, .int .i64 nd.f4.f1, .int .i64 nd.f4.f2, .int .i64 nd.f4.f3, .slice A11 nd.f5.length c11, .int .i64 nd.f6.f0, .int .i64 nd.f6.f1, .int .i64 nd.f6.f2, .int .i64 nd.f6.f3] 36)); have HW4 := Lib.hid (below_alloc (below_step HW.out hb) (.cells #[.string nd.f0, .bool nd.f1, .int .i64 nd.f2.f0, .int .i64 nd.f2.f1, .int .i64 nd.f2.f2, .int .i64 nd.f2.f3, .slice A6 nd.f3.length c6, .int .i64 nd.f4.f0, .int .i64 nd.f4.f1, .int .i64 nd.f4.f2, .int .i64 nd.f4.f3, .slice A11 nd.f5.length c11, .int .i64 nd.f6.f0, .int .i64 nd.f6.f1, .int .i64 nd.f6.f2, .int .i64 nd.f6.f3] 36)); have EN := Lib.hid (blk_new w4 (.cells #[.string nd.f0, .bool nd.f1, .int .i64 nd.f2.f0, .int .i64 nd.f2.f1, .int .i64 nd.f2.f2, .int .i64 nd.f2.f3, .slice A6 nd.f3.length c6, .int .i64 nd.f4.f0, .int .i64 nd.f4.f1, .int .i64 nd.f4.f2, .int .i64 nd.f4.f3, .slice A11 nd.f5.length c11, .int .i64 nd.f6.f0, .int .i64 nd.f6.f1, .int .i64 nd.f6.f2, .int .i64 nd.f6.f3] 36)); have d1 : (w4.alloc (.cells #[.string nd.f0, .bool nd.f1, .int .i64 nd.f2.f0, .int .i64 nd.f2.f1, .int .i64 nd.f2.f2, .int .i64 nd.f2.f3, .slice A6 nd.f3.length c6, .int .i64 nd.f4.f0, .int .i64 nd.f4.f1, .int .i64 nd.f4.f2, .int .i64 nd.f4.f3, .slice A11 nd.f5.length c11, .int .i64 nd.f6.f0, .int .i64 nd.f6.f1, .int .i64 nd.f6.f2, .int .i64 nd.f6.f3] 36)).cell? ⟨w4.heap.size, 1, none⟩ = some (.bool true) := (blk_cell EN.out 1).trans (by rw [HF1.out]; rfl); have d2 := (blk_cell EN.out 2).trans rfl; have d3 := (blk_cell EN.out 3).trans rfl; have d4 := (blk_cell EN.out 4).trans rfl; have d5 := (blk_cell EN.out 5).trans rfl; have a1 := (blk_cell E1'.out 1).trans rfl; have a2 := (blk_cell E1'.out 2).trans rfl; have a3 := (blk_cell E1'.out 3).trans rfl; have a4 := (blk_cell E1'.out 4).trans rfl; have HWR4 := Lib.hid hb; clear hb hFK))
      go_roundg (ns.length - (i + 1))
      case measure => omega
      case rel => exact ⟨i + 1, hlt, Nat.le_refl _, by rw [L.wrap_succ (by omega) (show (i : Int) < (nms.length : Int) by omega) (by have := HF9.out.2.1; omega)]; rfl, rfl, Lib.hid HW6.out, Lib.hid HV2.out⟩
  ·have hin : i = ns.length := by have := HLL.out; omega
   subst hin
   have HV1 := Lib.hid (show seeR l a [] ns = if isN l p then (nodeN l p, 0) else (z50, 2) by
    rw [HV.out, List.drop_length, List.take_length, HEND.out])
   have HF := Lib.hid (HFD.out p wr HBW.out)
   clear HV
   generalize nodeN l p = nd at HF HV1
   generalize isN l p = b at HF HV1
   cases b with
   | false =>
    have HV2 := Lib.hid (show seeR l a [] ns = (z50, 2) by rw [HV1.out]; rfl)
    go_wp2_with (go_at_call 16; refine HF.out.mono ?_; rintro e w4 ⟨cs, rfl, hFK, hb⟩; obtain ⟨A6, c6, A11, c11, rfl, _⟩ := k50_openF hFK; have E1' := Lib.hid (blk_alloc (blk_below E1w.out hb) (.cells #[.string nd.f0, .bool nd.f1, .int .i64 nd.f2.f0, .int .i64 nd.f2.f1, .int .i64 nd.f2.f2, .int .i64 nd.f2.f3, .slice A6 nd.f3.length c6, .int .i64 nd.f4.f0, .int .i64 nd.f4.f1, .int .i64 nd.f4.f2, .int .i64 nd.f4.f3, .slice A11 nd.f5.length c11, .int .i64 nd.f6.f0, .int .i64 nd.f6.f1, .int .i64 nd.f6.f2, .int .i64 nd.f6.f3] 36)); have E2' := Lib.hid (blk_alloc (blk_below E2w.out hb) (.cells #[.string nd.f0, .bool nd.f1, .int .i64 nd.f2.f0, .int .i64 nd.f2.f1, .int .i64 nd.f2.f2, .int .i64 nd.f2.f3, .slice A6 nd.f3.length c6, .int .i64 nd.f4.f0, .int .i64 nd.f4.f1, .int .i64 nd.f4.f2, .int .i64 nd.f4.f3, .slice A11 nd.f5.length c11, .int .i64 nd.f6.f0, .int .i64 nd.f6.f1, .int .i64 nd.f6.f2, .int .i64 nd.f6.f3] 36)); have HB4 := Lib.hid (below_alloc (below_step HBW.out hb) (.cells #[.string nd.f0, .bool nd.f1, .int .i64 nd.f2.f0, .int .i64 nd.f2.f1, .int .i64 nd.f2.f2, .int .i64 nd.f2.f3, .slice A6 nd.f3.length c6, .int .i64 nd.f4.f0, .int .i64 nd.f4.f1, .int .i64 nd.f4.f2, .int .i64 nd.f4.f3, .slice A11 nd.f5.length c11, .int .i64 nd.f6.f0, .int .i64 nd.f6.f1, .int .i64 nd.f6.f2, .int .i64 nd.f6.f3] 36)); have HW4 := Lib.hid (below_alloc (below_step HW.out hb) (.cells #[.string nd.f0, .bool nd.f1, .int .i64 nd.f2.f0, .int .i64 nd.f2.f1, .int .i64 nd.f2.f2, .int .i64 nd.f2.f3, .slice A6 nd.f3.length c6, .int .i64 nd.f4.f0, .int .i64 nd.f4.f1, .int .i64 nd.f4.f2, .int .i64 nd.f4.f3, .slice A11 nd.f5.length c11, .int .i64 nd.f6.f0, .int .i64 nd.f6.f1, .int .i64 nd.f6.f2, .int .i64 nd.f6.f3] 36)); have EN := Lib.hid (blk_new w4 (.cells #[.string nd.f0, .bool nd.f1, .int .i64 nd.f2.f0, .int .i64 nd.f2.f1, .int .i64 nd.f2.f2, .int .i64 nd.f2.f3, .slice A6 nd.f3.length c6, .int .i64 nd.f4.f0, .int .i64 nd.f4.f1, .int .i64 nd.f4.f2, .int .i64 nd.f4.f3, .slice A11 nd.f5.length c11, .int .i64 nd.f6.f0, .int .i64 nd.f6.f1, .int .i64 nd.f6.f2, .int .i64 nd.f6.f3] 36)); have r2 := wr50_blk E2'.out (cs := #[.string (⟨#[]⟩ : ByteArray), .bool false, .int .i64 0, .int .i64 0, .int .i64 0, .int .i64 0, .slice none 0 0, .int .i64 0, .int .i64 0, .int .i64 0, .int .i64 0, .slice none 0 0, .int .i64 0, .int .i64 0, .int .i64 0, .int .i64 0]) rfl rfl (by simp [Value.oneCell']); have HE := Lib.hid (setRow_heap _ _ _ #[.string (⟨#[]⟩ : ByteArray), .bool false, .int .i64 0, .int .i64 0, .int .i64 0, .int .i64 0, .slice none 0 0, .int .i64 0, .int .i64 0, .int .i64 0, .int .i64 0, .slice none 0 0, .int .i64 0, .int .i64 0, .int .i64 0, .int .i64 0] _ _ E2'.out); have HB9 := Lib.hid (below_setRow (HB4.out) (Nat.le_succ _) #[.string (⟨#[]⟩ : ByteArray), .bool false, .int .i64 0, .int .i64 0, .int .i64 0, .int .i64 0, .slice none 0 0, .int .i64 0, .int .i64 0, .int .i64 0, .int .i64 0, .slice none 0 0, .int .i64 0, .int .i64 0, .int .i64 0, .int .i64 0]); clear hb hFK)
    refine bodyPost_ret (results_ct rfl _ _ (w.heap.size + 1) 36 _ (0, 0) _ rfl HE.out Tryz.underlying36 rfl (by kernel_rfl)) rfl ?_
    rw [HV2.out]
    exact ⟨_, rfl, z50_FK _ _, HB9.out⟩
   | true =>
    have HV2 := Lib.hid (show seeR l a [] ns = (nd, 0) by rw [HV1.out]; rfl)
    go_wp2_with (go_at_call 16; refine HF.out.mono ?_; rintro e w4 ⟨cs, rfl, hFK, hb⟩; obtain ⟨A6, c6, A11, c11, rfl, _⟩ := k50_openF hFK; have E1' := Lib.hid (blk_alloc (blk_below E1w.out hb) (.cells #[.string nd.f0, .bool nd.f1, .int .i64 nd.f2.f0, .int .i64 nd.f2.f1, .int .i64 nd.f2.f2, .int .i64 nd.f2.f3, .slice A6 nd.f3.length c6, .int .i64 nd.f4.f0, .int .i64 nd.f4.f1, .int .i64 nd.f4.f2, .int .i64 nd.f4.f3, .slice A11 nd.f5.length c11, .int .i64 nd.f6.f0, .int .i64 nd.f6.f1, .int .i64 nd.f6.f2, .int .i64 nd.f6.f3] 36)); have E2' := Lib.hid (blk_alloc (blk_below E2w.out hb) (.cells #[.string nd.f0, .bool nd.f1, .int .i64 nd.f2.f0, .int .i64 nd.f2.f1, .int .i64 nd.f2.f2, .int .i64 nd.f2.f3, .slice A6 nd.f3.length c6, .int .i64 nd.f4.f0, .int .i64 nd.f4.f1, .int .i64 nd.f4.f2, .int .i64 nd.f4.f3, .slice A11 nd.f5.length c11, .int .i64 nd.f6.f0, .int .i64 nd.f6.f1, .int .i64 nd.f6.f2, .int .i64 nd.f6.f3] 36)); have HB4 := Lib.hid (below_alloc (below_step HBW.out hb) (.cells #[.string nd.f0, .bool nd.f1, .int .i64 nd.f2.f0, .int .i64 nd.f2.f1, .int .i64 nd.f2.f2, .int .i64 nd.f2.f3, .slice A6 nd.f3.length c6, .int .i64 nd.f4.f0, .int .i64 nd.f4.f1, .int .i64 nd.f4.f2, .int .i64 nd.f4.f3, .slice A11 nd.f5.length c11, .int .i64 nd.f6.f0, .int .i64 nd.f6.f1, .int .i64 nd.f6.f2, .int .i64 nd.f6.f3] 36)); have HW4 := Lib.hid (below_alloc (below_step HW.out hb) (.cells #[.string nd.f0, .bool nd.f1, .int .i64 nd.f2.f0, .int .i64 nd.f2.f1, .int .i64 nd.f2.f2, .int .i64 nd.f2.f3, .slice A6 nd.f3.length c6, .int .i64 nd.f4.f0, .int .i64 nd.f4.f1, .int .i64 nd.f4.f2, .int .i64 nd.f4.f3, .slice A11 nd.f5.length c11, .int .i64 nd.f6.f0, .int .i64 nd.f6.f1, .int .i64 nd.f6.f2, .int .i64 nd.f6.f3] 36)); have EN := Lib.hid (blk_new w4 (.cells #[.string nd.f0, .bool nd.f1, .int .i64 nd.f2.f0, .int .i64 nd.f2.f1, .int .i64 nd.f2.f2, .int .i64 nd.f2.f3, .slice A6 nd.f3.length c6, .int .i64 nd.f4.f0, .int .i64 nd.f4.f1, .int .i64 nd.f4.f2, .int .i64 nd.f4.f3, .slice A11 nd.f5.length c11, .int .i64 nd.f6.f0, .int .i64 nd.f6.f1, .int .i64 nd.f6.f2, .int .i64 nd.f6.f3] 36)); have r1 := rd50_blk EN.out rfl; have r2 := wr50_blk E2'.out (cs := #[.string nd.f0, .bool nd.f1, .int .i64 nd.f2.f0, .int .i64 nd.f2.f1, .int .i64 nd.f2.f2, .int .i64 nd.f2.f3, .slice A6 nd.f3.length c6, .int .i64 nd.f4.f0, .int .i64 nd.f4.f1, .int .i64 nd.f4.f2, .int .i64 nd.f4.f3, .slice A11 nd.f5.length c11, .int .i64 nd.f6.f0, .int .i64 nd.f6.f1, .int .i64 nd.f6.f2, .int .i64 nd.f6.f3]) rfl rfl (by simp [Value.oneCell']); have HE := Lib.hid (setRow_heap _ _ _ #[.string nd.f0, .bool nd.f1, .int .i64 nd.f2.f0, .int .i64 nd.f2.f1, .int .i64 nd.f2.f2, .int .i64 nd.f2.f3, .slice A6 nd.f3.length c6, .int .i64 nd.f4.f0, .int .i64 nd.f4.f1, .int .i64 nd.f4.f2, .int .i64 nd.f4.f3, .slice A11 nd.f5.length c11, .int .i64 nd.f6.f0, .int .i64 nd.f6.f1, .int .i64 nd.f6.f2, .int .i64 nd.f6.f3] _ _ E2'.out); have HB9 := Lib.hid (below_setRow (HB4.out) (Nat.le_succ _) #[.string nd.f0, .bool nd.f1, .int .i64 nd.f2.f0, .int .i64 nd.f2.f1, .int .i64 nd.f2.f2, .int .i64 nd.f2.f3, .slice A6 nd.f3.length c6, .int .i64 nd.f4.f0, .int .i64 nd.f4.f1, .int .i64 nd.f4.f2, .int .i64 nd.f4.f3, .slice A11 nd.f5.length c11, .int .i64 nd.f6.f0, .int .i64 nd.f6.f1, .int .i64 nd.f6.f2, .int .i64 nd.f6.f3]); have HFK := Lib.hid (Kd.FK_step (Kd.FK_below hFK (below_alloc (Below.refl _ _) (.cells #[.string nd.f0, .bool nd.f1, .int .i64 nd.f2.f0, .int .i64 nd.f2.f1, .int .i64 nd.f2.f2, .int .i64 nd.f2.f3, .slice A6 nd.f3.length c6, .int .i64 nd.f4.f0, .int .i64 nd.f4.f1, .int .i64 nd.f4.f2, .int .i64 nd.f4.f3, .slice A11 nd.f5.length c11, .int .i64 nd.f6.f0, .int .i64 nd.f6.f1, .int .i64 nd.f6.f2, .int .i64 nd.f6.f3] 36))) (W1 := (w4.alloc (.cells #[.string nd.f0, .bool nd.f1, .int .i64 nd.f2.f0, .int .i64 nd.f2.f1, .int .i64 nd.f2.f2, .int .i64 nd.f2.f3, .slice A6 nd.f3.length c6, .int .i64 nd.f4.f0, .int .i64 nd.f4.f1, .int .i64 nd.f4.f2, .int .i64 nd.f4.f3, .slice A11 nd.f5.length c11, .int .i64 nd.f6.f0, .int .i64 nd.f6.f1, .int .i64 nd.f6.f2, .int .i64 nd.f6.f3] 36)).setRow (w.heap.size + 1) #[.string nd.f0, .bool nd.f1, .int .i64 nd.f2.f0, .int .i64 nd.f2.f1, .int .i64 nd.f2.f2, .int .i64 nd.f2.f3, .slice A6 nd.f3.length c6, .int .i64 nd.f4.f0, .int .i64 nd.f4.f1, .int .i64 nd.f4.f2, .int .i64 nd.f4.f3, .slice A11 nd.f5.length c11, .int .i64 nd.f6.f0, .int .i64 nd.f6.f1, .int .i64 nd.f6.f2, .int .i64 nd.f6.f3]) fun k hk _ => setRow_other _ _ _ _ (by omega)); clear hb hFK)
    refine bodyPost_ret (results_ct rfl _ _ (w.heap.size + 1) 36 _ (0, 0) _ rfl HE.out Tryz.underlying36 rfl (by kernel_rfl)) rfl ?_
    rw [HV2.out]
    exact ⟨_, rfl, HFK.out, HB9.out⟩
end Go.Proofs.YteilkbookcmndaaGreatDoor.C
end
section
namespace Go.Proofs.YteilkbookcmndaaGreatDoor.C
open Go.RowKit Go.Proofs.YteilkbookcmndaaGreatDoor.Q Go.Proofs.YteilkbookcmndaaGreatDoorW.PrintWords Go.Proofs.YteilkbookcmndaaGreatDoorW.PrintLast Go.Proofs.YteilkbookcmndaaGreatDoorW.PrintMore
attribute [local go_sem high] eqA41
attribute [local go_sem ↓] rd_at50 wr_at50 al_at50
attribute [local go_sem] rd50_new wr50_new al50
theorem and_not_bits : ∀ (m mode : Fin 8), 1 ≤ mode → ((bits .andNot .i64 (mode.val : Int) (m.val : Int) = 0) ↔ (bits .and .i64 (m.val : Int) (mode.val : Int) != (mode.val : Int)) = false) := by decide +kernel
theorem and_not_iff {m mode : Int} (h0 : 0 ≤ m) (h7 : m ≤ 7) (k1 : 1 ≤ mode) (k7 : mode ≤ 7) : (bits .andNot .i64 mode m = 0) ↔ (bits .and .i64 m mode != mode) = false := by
 obtain ⟨x, rfl⟩ := Int.eq_ofNat_of_zero_le h0
 obtain ⟨y, rfl⟩ := Int.eq_ofNat_of_zero_le (show 0 ≤ mode by omega)
 exact and_not_bits ⟨x, by omega⟩ ⟨y, by omega⟩ (by rw [Fin.le_def]; show 1 ≤ y; omega)
set_option maxHeartbeats 1000000 in
set_option maxRecDepth 100000 in
theorem rmay_err (p : ByteArray) (mode : Int) (h1 : 1 ≤ mode) (h7 : mode ≤ 7) (x : Int) (hne : x ≠ 0) (nd : S50) (u : ByteArray) (a : S41) (A : Option Addr) (n c : Nat) (w0 w : World)
  (hS : ∀ w1, Below w.heap.size w w1 → Calls Tryz.prog 46 #[.slice A n c, .agg #[.string u, .int .i64 a.f0, .int .i64 a.f1, .int .i64 a.f2, .int .i64 a.f3], .string p] w1 (NodeR w0 nd x w1)) :
  Calls Tryz.prog 30 #[.slice A n c, .agg #[.string u, .int .i64 a.f0, .int .i64 a.f1, .int .i64 a.f2, .int .i64 a.f3], .string p, .int .i64 mode] w (NodeR w0 z50 x w) := by
 have E1 := Lib.hid (blk_alloc (blk_new w (.cells #[.string u, .int .i64 a.f0, .int .i64 a.f1, .int .i64 a.f2, .int .i64 a.f3] 60)) (.cells #[.string (⟨#[]⟩ : ByteArray), .bool false, .int .i64 0, .int .i64 0, .int .i64 0, .int .i64 0, .slice none 0 0, .int .i64 0, .int .i64 0, .int .i64 0, .int .i64 0, .slice none 0 0, .int .i64 0, .int .i64 0, .int .i64 0, .int .i64 0] 36))
 have E2 := Lib.hid (show ((w.alloc (.cells #[.string u, .int .i64 a.f0, .int .i64 a.f1, .int .i64 a.f2, .int .i64 a.f3] 60)).alloc (.cells #[.string (⟨#[]⟩ : ByteArray), .bool false, .int .i64 0, .int .i64 0, .int .i64 0, .int .i64 0, .slice none 0 0, .int .i64 0, .int .i64 0, .int .i64 0, .int .i64 0, .slice none 0 0, .int .i64 0, .int .i64 0, .int .i64 0, .int .i64 0] 36)).heap[w.heap.size + 1]? = some (.cells #[.string (⟨#[]⟩ : ByteArray), .bool false, .int .i64 0, .int .i64 0, .int .i64 0, .int .i64 0, .slice none 0 0, .int .i64 0, .int .i64 0, .int .i64 0, .int .i64 0, .slice none 0 0, .int .i64 0, .int .i64 0, .int .i64 0, .int .i64 0] 36) by have := blk_new (w.alloc (.cells #[.string u, .int .i64 a.f0, .int .i64 a.f1, .int .i64 a.f2, .int .i64 a.f3] 60)) (.cells #[.string (⟨#[]⟩ : ByteArray), .bool false, .int .i64 0, .int .i64 0, .int .i64 0, .int .i64 0, .slice none 0 0, .int .i64 0, .int .i64 0, .int .i64 0, .int .i64 0, .slice none 0 0, .int .i64 0, .int .i64 0, .int .i64 0, .int .i64 0] 36); rwa [World.size_alloc] at this)
 have HB0 := Lib.hid (below_alloc (below_alloc (Below.refl w.heap.size w) (.cells #[.string u, .int .i64 a.f0, .int .i64 a.f1, .int .i64 a.f2, .int .i64 a.f3] 60)) (.cells #[.string (⟨#[]⟩ : ByteArray), .bool false, .int .i64 0, .int .i64 0, .int .i64 0, .int .i64 0, .slice none 0 0, .int .i64 0, .int .i64 0, .int .i64 0, .int .i64 0, .slice none 0 0, .int .i64 0, .int .i64 0, .int .i64 0, .int .i64 0] 36))
 have HF := Lib.hid hS
 have hxe : (x != 0) = true := by simpa using hne
 have hxf : (x == 0) = false := by simpa using hne
 have hm1' : ¬ mode < 1 := by omega
 have hm7' : ¬ 7 < mode := by omega
 clear hS
 go_enter Tryz.func30, Tryz.ntmps30
 go_wp2_with (first | (go_at_call 46; refine (HF.out _ HB0.out).mono ?_; rintro e w4 ⟨cs, rfl, hFK, hb⟩; obtain ⟨A6, c6, A11, c11, rfl, hx⟩ := k50_openF hFK; have HX := Lib.hid hx; have E1' := Lib.hid (blk_alloc (blk_below E1.out hb) (.cells #[.string nd.f0, .bool nd.f1, .int .i64 nd.f2.f0, .int .i64 nd.f2.f1, .int .i64 nd.f2.f2, .int .i64 nd.f2.f3, .slice A6 nd.f3.length c6, .int .i64 nd.f4.f0, .int .i64 nd.f4.f1, .int .i64 nd.f4.f2, .int .i64 nd.f4.f3, .slice A11 nd.f5.length c11, .int .i64 nd.f6.f0, .int .i64 nd.f6.f1, .int .i64 nd.f6.f2, .int .i64 nd.f6.f3] 36)); have E2' := Lib.hid (blk_alloc (blk_below E2.out hb) (.cells #[.string nd.f0, .bool nd.f1, .int .i64 nd.f2.f0, .int .i64 nd.f2.f1, .int .i64 nd.f2.f2, .int .i64 nd.f2.f3, .slice A6 nd.f3.length c6, .int .i64 nd.f4.f0, .int .i64 nd.f4.f1, .int .i64 nd.f4.f2, .int .i64 nd.f4.f3, .slice A11 nd.f5.length c11, .int .i64 nd.f6.f0, .int .i64 nd.f6.f1, .int .i64 nd.f6.f2, .int .i64 nd.f6.f3] 36)); have EN := Lib.hid (blk_new w4 (.cells #[.string nd.f0, .bool nd.f1, .int .i64 nd.f2.f0, .int .i64 nd.f2.f1, .int .i64 nd.f2.f2, .int .i64 nd.f2.f3, .slice A6 nd.f3.length c6, .int .i64 nd.f4.f0, .int .i64 nd.f4.f1, .int .i64 nd.f4.f2, .int .i64 nd.f4.f3, .slice A11 nd.f5.length c11, .int .i64 nd.f6.f0, .int .i64 nd.f6.f1, .int .i64 nd.f6.f2, .int .i64 nd.f6.f3] 36)); have HB4 := Lib.hid (below_alloc (below_step HB0.out hb) (.cells #[.string nd.f0, .bool nd.f1, .int .i64 nd.f2.f0, .int .i64 nd.f2.f1, .int .i64 nd.f2.f2, .int .i64 nd.f2.f3, .slice A6 nd.f3.length c6, .int .i64 nd.f4.f0, .int .i64 nd.f4.f1, .int .i64 nd.f4.f2, .int .i64 nd.f4.f3, .slice A11 nd.f5.length c11, .int .i64 nd.f6.f0, .int .i64 nd.f6.f1, .int .i64 nd.f6.f2, .int .i64 nd.f6.f3] 36)); have HW4 := Lib.hid (below_alloc (Below.refl w4.heap.size w4) (.cells #[.string nd.f0, .bool nd.f1, .int .i64 nd.f2.f0, .int .i64 nd.f2.f1, .int .i64 nd.f2.f2, .int .i64 nd.f2.f3, .slice A6 nd.f3.length c6, .int .i64 nd.f4.f0, .int .i64 nd.f4.f1, .int .i64 nd.f4.f2, .int .i64 nd.f4.f3, .slice A11 nd.f5.length c11, .int .i64 nd.f6.f0, .int .i64 nd.f6.f1, .int .i64 nd.f6.f2, .int .i64 nd.f6.f3] 36)); have HFK := Lib.hid (Kd.FK_below hFK (below_alloc (Below.refl w4.heap.size w4) (.cells #[.string nd.f0, .bool nd.f1, .int .i64 nd.f2.f0, .int .i64 nd.f2.f1, .int .i64 nd.f2.f2, .int .i64 nd.f2.f3, .slice A6 nd.f3.length c6, .int .i64 nd.f4.f0, .int .i64 nd.f4.f1, .int .i64 nd.f4.f2, .int .i64 nd.f4.f3, .slice A11 nd.f5.length c11, .int .i64 nd.f6.f0, .int .i64 nd.f6.f1, .int .i64 nd.f6.f2, .int .i64 nd.f6.f3] 36))); have a0 := (blk_cell E1'.out 0).trans rfl; have a1 := (blk_cell E1'.out 1).trans rfl; have a2 := (blk_cell E1'.out 2).trans rfl; have a3 := (blk_cell E1'.out 3).trans rfl; have a4 := (blk_cell E1'.out 4).trans rfl; have d2 := (blk_cell EN.out 2).trans rfl; have d3 := (blk_cell EN.out 3).trans rfl; have d4 := (blk_cell EN.out 4).trans rfl; have d5 := (blk_cell EN.out 5).trans rfl; have d6 := (blk_cell EN.out 6).trans rfl; have r2 := wr50_blk E2'.out (cs := #[.string (⟨#[]⟩ : ByteArray), .bool false, .int .i64 0, .int .i64 0, .int .i64 0, .int .i64 0, .slice none 0 0, .int .i64 0, .int .i64 0, .int .i64 0, .int .i64 0, .slice none 0 0, .int .i64 0, .int .i64 0, .int .i64 0, .int .i64 0]) rfl rfl (by simp [Value.oneCell']); have HE := Lib.hid (setRow_heap _ _ _ #[.string (⟨#[]⟩ : ByteArray), .bool false, .int .i64 0, .int .i64 0, .int .i64 0, .int .i64 0, .slice none 0 0, .int .i64 0, .int .i64 0, .int .i64 0, .int .i64 0, .slice none 0 0, .int .i64 0, .int .i64 0, .int .i64 0, .int .i64 0] _ _ E2'.out); have HB9 := Lib.hid (below_setRow (HB4.out) (Nat.le_succ _) #[.string (⟨#[]⟩ : ByteArray), .bool false, .int .i64 0, .int .i64 0, .int .i64 0, .int .i64 0, .slice none 0 0, .int .i64 0, .int .i64 0, .int .i64 0, .int .i64 0, .slice none 0 0, .int .i64 0, .int .i64 0, .int .i64 0, .int .i64 0]); clear hb hFK hx))
 refine bodyPost_ret (results_ct rfl _ _ (w.heap.size + 1) 36 _ (0, 0) _ rfl HE.out Tryz.underlying36 rfl (by kernel_rfl)) rfl ?_
 exact ⟨_, rfl, z50_FK _ _, HB9.out⟩
set_option maxHeartbeats 4000000 in
set_option maxRecDepth 100000 in
theorem rmay_n (p : ByteArray) (mode : Int) (h1 : 1 ≤ mode) (h7 : mode ≤ 7) (nd : S50) (u : ByteArray) (hu : u ≠ star) (a : S41) (hLa : Lab a) (hLn : Lab nd.f2) (hAc : AclOk nd.f3) (A : Option Addr) (n c : Nat) (w0 w : World) (hb0 : Below w0.heap.size w0 w)
  (hS : ∀ w1, Below w.heap.size w w1 → Calls Tryz.prog 46 #[.slice A n c, .agg #[.string u, .int .i64 a.f0, .int .i64 a.f1, .int .i64 a.f2, .int .i64 a.f3], .string p] w1 (NodeR w0 nd 0 w1)) :
  Calls Tryz.prog 30 #[.slice A n c, .agg #[.string u, .int .i64 a.f0, .int .i64 a.f1, .int .i64 a.f2, .int .i64 a.f3], .string p, .int .i64 mode] w (NodeR w0 (mayN a u mode nd 0).1 (mayN a u mode nd 0).2 w) := by
 have E1 := Lib.hid (blk_alloc (blk_new w (.cells #[.string u, .int .i64 a.f0, .int .i64 a.f1, .int .i64 a.f2, .int .i64 a.f3] 60)) (.cells #[.string (⟨#[]⟩ : ByteArray), .bool false, .int .i64 0, .int .i64 0, .int .i64 0, .int .i64 0, .slice none 0 0, .int .i64 0, .int .i64 0, .int .i64 0, .int .i64 0, .slice none 0 0, .int .i64 0, .int .i64 0, .int .i64 0, .int .i64 0] 36))
 have E2 := Lib.hid (show ((w.alloc (.cells #[.string u, .int .i64 a.f0, .int .i64 a.f1, .int .i64 a.f2, .int .i64 a.f3] 60)).alloc (.cells #[.string (⟨#[]⟩ : ByteArray), .bool false, .int .i64 0, .int .i64 0, .int .i64 0, .int .i64 0, .slice none 0 0, .int .i64 0, .int .i64 0, .int .i64 0, .int .i64 0, .slice none 0 0, .int .i64 0, .int .i64 0, .int .i64 0, .int .i64 0] 36)).heap[w.heap.size + 1]? = some (.cells #[.string (⟨#[]⟩ : ByteArray), .bool false, .int .i64 0, .int .i64 0, .int .i64 0, .int .i64 0, .slice none 0 0, .int .i64 0, .int .i64 0, .int .i64 0, .int .i64 0, .slice none 0 0, .int .i64 0, .int .i64 0, .int .i64 0, .int .i64 0] 36) by have := blk_new (w.alloc (.cells #[.string u, .int .i64 a.f0, .int .i64 a.f1, .int .i64 a.f2, .int .i64 a.f3] 60)) (.cells #[.string (⟨#[]⟩ : ByteArray), .bool false, .int .i64 0, .int .i64 0, .int .i64 0, .int .i64 0, .slice none 0 0, .int .i64 0, .int .i64 0, .int .i64 0, .int .i64 0, .slice none 0 0, .int .i64 0, .int .i64 0, .int .i64 0, .int .i64 0] 36); rwa [World.size_alloc] at this)
 have HB0 := Lib.hid (below_alloc (below_alloc (Below.refl w.heap.size w) (.cells #[.string u, .int .i64 a.f0, .int .i64 a.f1, .int .i64 a.f2, .int .i64 a.f3] 60)) (.cells #[.string (⟨#[]⟩ : ByteArray), .bool false, .int .i64 0, .int .i64 0, .int .i64 0, .int .i64 0, .slice none 0 0, .int .i64 0, .int .i64 0, .int .i64 0, .int .i64 0, .slice none 0 0, .int .i64 0, .int .i64 0, .int .i64 0, .int .i64 0] 36))
 have HF := Lib.hid hS
 have hm1' : ¬ mode < 1 := by omega
 have hm7x : ¬ 7 < mode := by omega
 have hz0 := below_size hb0
 obtain ⟨hm0, hm7'⟩ := modes_range hAc u
 have HM0 := fun w1 A6 c6 (h : Kd.C k96 w1 A6 nd.f3.length nd.f3) (hl : nd.f3.length ≤ c6) => (show Calls Tryz.prog 48 #[.slice A6 nd.f3.length c6, .string u] w1 fun e w' => e = .returned (.int .i64 (amodes nd.f3 u)) ∧ Below w1.heap.size w1 w' from by
  refine (donjonref5_Modes.calls 1100 A6 c6 nd.f3 u _ w1 h hl (ref_modes (acl_asc hAc) (by have := acl_len hAc; omega) u hu 1100 (by have := acl_len hAc; omega))).mono ?_
  rintro e w' ⟨he, hd⟩
  exact ⟨he, hd.below⟩)
 have HM := Lib.hid HM0
 clear HM0 hS
 obtain ⟨am, hame⟩ : ∃ m, amodes nd.f3 u = m := ⟨_, rfl⟩
 rw [hame] at HM hm0 hm7'
 have hOv := fun w1 => donjonref4_Over.calls a.f0 a.f1 a.f2 a.f3 nd.f2.f0 nd.f2.f1 nd.f2.f2 nd.f2.f3 (lover a nd.f2) w1 (rover_iff hLa hLn)
 cases h5 : (bits .and .i64 mode 5 != 0)
 rotate_left
 focus
  cases hl : lover a nd.f2
  rotate_left
  focus
   rw [hl] at hOv
   have HO := Lib.hid hOv
   clear hOv
   cases h2 : (bits .and .i64 mode 2 != 0)
   rotate_left
   focus
    cases hE : (a.f0 == nd.f2.f0 && (a.f1 == nd.f2.f1 && (a.f2 == nd.f2.f2 && a.f3 == nd.f2.f3)))
    rotate_left
    focus
     have hfit : fitsB a nd mode = true := by rw [fitsB, hE, Bool.or_true, Bool.and_true]; rw [hl, Bool.or_true]
     simp only [Bool.and_eq_true] at hE
     obtain ⟨q0, q1, q2, q3⟩ := hE
     cases h3 : (bits .and .i64 am mode != mode)
     rotate_left
     focus
      have HV := Lib.hid (show mayN a u mode nd 0 = (z50, 16) by rw [mayN, if_pos rfl, hfit, if_pos rfl, hame, if_neg (fun h => by rw [(and_not_iff hm0 hm7' h1 h7).1 h] at h3; cases h3)])
      clear hfit hame
     rotate_left 1
     focus
      have HV := Lib.hid (show mayN a u mode nd 0 = (nd, 0) by rw [mayN, if_pos rfl, hfit, if_pos rfl, hame, if_pos ((and_not_iff hm0 hm7' h1 h7).2 h3)])
      clear hfit hame
    rotate_left 2
    focus
     have hfit : fitsB a nd mode = false := by rw [fitsB, hE, Bool.or_false, (show (bits .and .i64 mode 2 == 0) = false by simpa [bne] using h2), Bool.and_false]
     have HV := Lib.hid (show mayN a u mode nd 0 = (z50, 15) by rw [mayN, if_pos rfl, hfit]; rfl)
     clear hfit hame
   rotate_left 3
   focus
    have hfit : fitsB a nd mode = true := by rw [fitsB, (show (bits .and .i64 mode 2 == 0) = true by simpa [bne] using h2), Bool.true_or, Bool.and_true]; rw [hl, Bool.or_true]
    cases h3 : (bits .and .i64 am mode != mode)
    rotate_left
    focus
     have HV := Lib.hid (show mayN a u mode nd 0 = (z50, 16) by rw [mayN, if_pos rfl, hfit, if_pos rfl, hame, if_neg (fun h => by rw [(and_not_iff hm0 hm7' h1 h7).1 h] at h3; cases h3)])
     clear hfit hame
    rotate_left 1
    focus
     have HV := Lib.hid (show mayN a u mode nd 0 = (nd, 0) by rw [mayN, if_pos rfl, hfit, if_pos rfl, hame, if_pos ((and_not_iff hm0 hm7' h1 h7).2 h3)])
     clear hfit hame
  rotate_left 5
  focus
   rw [hl] at hOv
   have HO := Lib.hid hOv
   clear hOv
   have HV := Lib.hid (show mayN a u mode nd 0 = (z50, 15) by rw [mayN, if_pos rfl, fitsB, hl, Bool.or_false, (show (bits .and .i64 mode 5 == 0) = false by simpa [bne] using h5)]; rfl)
   clear hame hl
 rotate_left 6
 focus
  clear hOv
  cases h2 : (bits .and .i64 mode 2 != 0)
  rotate_left
  focus
   cases hE : (a.f0 == nd.f2.f0 && (a.f1 == nd.f2.f1 && (a.f2 == nd.f2.f2 && a.f3 == nd.f2.f3)))
   rotate_left
   focus
    have hfit : fitsB a nd mode = true := by rw [fitsB, hE, Bool.or_true, Bool.and_true]; rw [(show (bits .and .i64 mode 5 == 0) = true by simpa [bne] using h5), Bool.true_or]
    simp only [Bool.and_eq_true] at hE
    obtain ⟨q0, q1, q2, q3⟩ := hE
    cases h3 : (bits .and .i64 am mode != mode)
    rotate_left
    focus
     have HV := Lib.hid (show mayN a u mode nd 0 = (z50, 16) by rw [mayN, if_pos rfl, hfit, if_pos rfl, hame, if_neg (fun h => by rw [(and_not_iff hm0 hm7' h1 h7).1 h] at h3; cases h3)])
     clear hfit hame
    rotate_left 1
    focus
     have HV := Lib.hid (show mayN a u mode nd 0 = (nd, 0) by rw [mayN, if_pos rfl, hfit, if_pos rfl, hame, if_pos ((and_not_iff hm0 hm7' h1 h7).2 h3)])
     clear hfit hame
   rotate_left 2
   focus
    have hfit : fitsB a nd mode = false := by rw [fitsB, hE, Bool.or_false, (show (bits .and .i64 mode 2 == 0) = false by simpa [bne] using h2), Bool.and_false]
    have HV := Lib.hid (show mayN a u mode nd 0 = (z50, 15) by rw [mayN, if_pos rfl, hfit]; rfl)
    clear hfit hame
  rotate_left 3
  focus
   have hfit : fitsB a nd mode = true := by rw [fitsB, (show (bits .and .i64 mode 2 == 0) = true by simpa [bne] using h2), Bool.true_or, Bool.and_true]; rw [(show (bits .and .i64 mode 5 == 0) = true by simpa [bne] using h5), Bool.true_or]
   cases h3 : (bits .and .i64 am mode != mode)
   rotate_left
   focus
    have HV := Lib.hid (show mayN a u mode nd 0 = (z50, 16) by rw [mayN, if_pos rfl, hfit, if_pos rfl, hame, if_neg (fun h => by rw [(and_not_iff hm0 hm7' h1 h7).1 h] at h3; cases h3)])
    clear hfit hame
   rotate_left 1
   focus
    have HV := Lib.hid (show mayN a u mode nd 0 = (nd, 0) by rw [mayN, if_pos rfl, hfit, if_pos rfl, hame, if_pos ((and_not_iff hm0 hm7' h1 h7).2 h3)])
    clear hfit hame
 all_goals go_enter Tryz.func30, Tryz.ntmps30
 all_goals go_wp2_with (first | (go_at_call 48; refine (HM.out _ _ _ (Kd.C_below (Kd.F_now HX.out.2.1) HW4.out) HX.out.1).mono ?_; rintro e w6 ⟨rfl, hb⟩; have E1' := Lib.hid (blk_below E1'.out hb); have E2' := Lib.hid (blk_below E2'.out hb); have EN := Lib.hid (blk_below EN.out hb); have HB4 := Lib.hid (below_step HB4.out hb); have HW4 := Lib.hid (below_step HW4.out hb); have HFK := Lib.hid (Kd.FK_below HFK.out hb); have a0 := (blk_cell E1'.out 0).trans rfl; have a1 := (blk_cell E1'.out 1).trans rfl; have a2 := (blk_cell E1'.out 2).trans rfl; have a3 := (blk_cell E1'.out 3).trans rfl; have a4 := (blk_cell E1'.out 4).trans rfl; have d2 := (blk_cell EN.out 2).trans rfl; have d3 := (blk_cell EN.out 3).trans rfl; have d4 := (blk_cell EN.out 4).trans rfl; have d5 := (blk_cell EN.out 5).trans rfl; have d6 := (blk_cell EN.out 6).trans rfl; (first | (have hg : (bits .and .i64 am mode != mode) = true := h3; have r2 := wr50_blk E2'.out (cs := #[.string (⟨#[]⟩ : ByteArray), .bool false, .int .i64 0, .int .i64 0, .int .i64 0, .int .i64 0, .slice none 0 0, .int .i64 0, .int .i64 0, .int .i64 0, .int .i64 0, .slice none 0 0, .int .i64 0, .int .i64 0, .int .i64 0, .int .i64 0]) rfl rfl (by simp [Value.oneCell']); have HE := Lib.hid (setRow_heap _ _ _ #[.string (⟨#[]⟩ : ByteArray), .bool false, .int .i64 0, .int .i64 0, .int .i64 0, .int .i64 0, .slice none 0 0, .int .i64 0, .int .i64 0, .int .i64 0, .int .i64 0, .slice none 0 0, .int .i64 0, .int .i64 0, .int .i64 0, .int .i64 0] _ _ E2'.out); have HB9 := Lib.hid (below_setRow (HB4.out) (Nat.le_succ _) #[.string (⟨#[]⟩ : ByteArray), .bool false, .int .i64 0, .int .i64 0, .int .i64 0, .int .i64 0, .slice none 0 0, .int .i64 0, .int .i64 0, .int .i64 0, .int .i64 0, .slice none 0 0, .int .i64 0, .int .i64 0, .int .i64 0, .int .i64 0])) | (have r1 := rd50_blk EN.out rfl; have r2 := wr50_blk E2'.out (cs := #[.string nd.f0, .bool nd.f1, .int .i64 nd.f2.f0, .int .i64 nd.f2.f1, .int .i64 nd.f2.f2, .int .i64 nd.f2.f3, .slice A6 nd.f3.length c6, .int .i64 nd.f4.f0, .int .i64 nd.f4.f1, .int .i64 nd.f4.f2, .int .i64 nd.f4.f3, .slice A11 nd.f5.length c11, .int .i64 nd.f6.f0, .int .i64 nd.f6.f1, .int .i64 nd.f6.f2, .int .i64 nd.f6.f3]) rfl rfl (by simp [Value.oneCell']); have HE := Lib.hid (setRow_heap _ _ _ #[.string nd.f0, .bool nd.f1, .int .i64 nd.f2.f0, .int .i64 nd.f2.f1, .int .i64 nd.f2.f2, .int .i64 nd.f2.f3, .slice A6 nd.f3.length c6, .int .i64 nd.f4.f0, .int .i64 nd.f4.f1, .int .i64 nd.f4.f2, .int .i64 nd.f4.f3, .slice A11 nd.f5.length c11, .int .i64 nd.f6.f0, .int .i64 nd.f6.f1, .int .i64 nd.f6.f2, .int .i64 nd.f6.f3] _ _ E2'.out); have HB9 := Lib.hid (below_setRow (HB4.out) (Nat.le_succ _) #[.string nd.f0, .bool nd.f1, .int .i64 nd.f2.f0, .int .i64 nd.f2.f1, .int .i64 nd.f2.f2, .int .i64 nd.f2.f3, .slice A6 nd.f3.length c6, .int .i64 nd.f4.f0, .int .i64 nd.f4.f1, .int .i64 nd.f4.f2, .int .i64 nd.f4.f3, .slice A11 nd.f5.length c11, .int .i64 nd.f6.f0, .int .i64 nd.f6.f1, .int .i64 nd.f6.f2, .int .i64 nd.f6.f3]); have HFZ := Lib.hid (Kd.FK_step HFK.out (W1 := w6.setRow (w.heap.size + 1) #[.string nd.f0, .bool nd.f1, .int .i64 nd.f2.f0, .int .i64 nd.f2.f1, .int .i64 nd.f2.f2, .int .i64 nd.f2.f3, .slice A6 nd.f3.length c6, .int .i64 nd.f4.f0, .int .i64 nd.f4.f1, .int .i64 nd.f4.f2, .int .i64 nd.f4.f3, .slice A11 nd.f5.length c11, .int .i64 nd.f6.f0, .int .i64 nd.f6.f1, .int .i64 nd.f6.f2, .int .i64 nd.f6.f3]) fun k hk _ => setRow_other _ _ _ _ (by omega)))); clear hb) | (go_at_call 47; refine (HO.out _).mono ?_; rintro e w5 ⟨rfl, hb⟩; have E1' := Lib.hid (blk_below E1'.out hb); have E2' := Lib.hid (blk_below E2'.out hb); have EN := Lib.hid (blk_below EN.out hb); have HB4 := Lib.hid (below_step HB4.out hb); have HW4 := Lib.hid (below_step HW4.out hb); have HFK := Lib.hid (Kd.FK_below HFK.out hb); have a0 := (blk_cell E1'.out 0).trans rfl; have a1 := (blk_cell E1'.out 1).trans rfl; have a2 := (blk_cell E1'.out 2).trans rfl; have a3 := (blk_cell E1'.out 3).trans rfl; have a4 := (blk_cell E1'.out 4).trans rfl; have d2 := (blk_cell EN.out 2).trans rfl; have d3 := (blk_cell EN.out 3).trans rfl; have d4 := (blk_cell EN.out 4).trans rfl; have d5 := (blk_cell EN.out 5).trans rfl; have d6 := (blk_cell EN.out 6).trans rfl; have r2 := wr50_blk E2'.out (cs := #[.string (⟨#[]⟩ : ByteArray), .bool false, .int .i64 0, .int .i64 0, .int .i64 0, .int .i64 0, .slice none 0 0, .int .i64 0, .int .i64 0, .int .i64 0, .int .i64 0, .slice none 0 0, .int .i64 0, .int .i64 0, .int .i64 0, .int .i64 0]) rfl rfl (by simp [Value.oneCell']); have HE := Lib.hid (setRow_heap _ _ _ #[.string (⟨#[]⟩ : ByteArray), .bool false, .int .i64 0, .int .i64 0, .int .i64 0, .int .i64 0, .slice none 0 0, .int .i64 0, .int .i64 0, .int .i64 0, .int .i64 0, .slice none 0 0, .int .i64 0, .int .i64 0, .int .i64 0, .int .i64 0] _ _ E2'.out); have HB9 := Lib.hid (below_setRow (HB4.out) (Nat.le_succ _) #[.string (⟨#[]⟩ : ByteArray), .bool false, .int .i64 0, .int .i64 0, .int .i64 0, .int .i64 0, .slice none 0 0, .int .i64 0, .int .i64 0, .int .i64 0, .int .i64 0, .slice none 0 0, .int .i64 0, .int .i64 0, .int .i64 0, .int .i64 0]); clear hb) | (go_at_call 46; refine (HF.out _ HB0.out).mono ?_; rintro e w4 ⟨cs, rfl, hFK, hb⟩; obtain ⟨A6, c6, A11, c11, rfl, hx⟩ := k50_openF hFK; have HX := Lib.hid hx; have E1' := Lib.hid (blk_alloc (blk_below E1.out hb) (.cells #[.string nd.f0, .bool nd.f1, .int .i64 nd.f2.f0, .int .i64 nd.f2.f1, .int .i64 nd.f2.f2, .int .i64 nd.f2.f3, .slice A6 nd.f3.length c6, .int .i64 nd.f4.f0, .int .i64 nd.f4.f1, .int .i64 nd.f4.f2, .int .i64 nd.f4.f3, .slice A11 nd.f5.length c11, .int .i64 nd.f6.f0, .int .i64 nd.f6.f1, .int .i64 nd.f6.f2, .int .i64 nd.f6.f3] 36)); have E2' := Lib.hid (blk_alloc (blk_below E2.out hb) (.cells #[.string nd.f0, .bool nd.f1, .int .i64 nd.f2.f0, .int .i64 nd.f2.f1, .int .i64 nd.f2.f2, .int .i64 nd.f2.f3, .slice A6 nd.f3.length c6, .int .i64 nd.f4.f0, .int .i64 nd.f4.f1, .int .i64 nd.f4.f2, .int .i64 nd.f4.f3, .slice A11 nd.f5.length c11, .int .i64 nd.f6.f0, .int .i64 nd.f6.f1, .int .i64 nd.f6.f2, .int .i64 nd.f6.f3] 36)); have EN := Lib.hid (blk_new w4 (.cells #[.string nd.f0, .bool nd.f1, .int .i64 nd.f2.f0, .int .i64 nd.f2.f1, .int .i64 nd.f2.f2, .int .i64 nd.f2.f3, .slice A6 nd.f3.length c6, .int .i64 nd.f4.f0, .int .i64 nd.f4.f1, .int .i64 nd.f4.f2, .int .i64 nd.f4.f3, .slice A11 nd.f5.length c11, .int .i64 nd.f6.f0, .int .i64 nd.f6.f1, .int .i64 nd.f6.f2, .int .i64 nd.f6.f3] 36)); have HB4 := Lib.hid (below_alloc (below_step HB0.out hb) (.cells #[.string nd.f0, .bool nd.f1, .int .i64 nd.f2.f0, .int .i64 nd.f2.f1, .int .i64 nd.f2.f2, .int .i64 nd.f2.f3, .slice A6 nd.f3.length c6, .int .i64 nd.f4.f0, .int .i64 nd.f4.f1, .int .i64 nd.f4.f2, .int .i64 nd.f4.f3, .slice A11 nd.f5.length c11, .int .i64 nd.f6.f0, .int .i64 nd.f6.f1, .int .i64 nd.f6.f2, .int .i64 nd.f6.f3] 36)); have HW4 := Lib.hid (below_alloc (Below.refl w4.heap.size w4) (.cells #[.string nd.f0, .bool nd.f1, .int .i64 nd.f2.f0, .int .i64 nd.f2.f1, .int .i64 nd.f2.f2, .int .i64 nd.f2.f3, .slice A6 nd.f3.length c6, .int .i64 nd.f4.f0, .int .i64 nd.f4.f1, .int .i64 nd.f4.f2, .int .i64 nd.f4.f3, .slice A11 nd.f5.length c11, .int .i64 nd.f6.f0, .int .i64 nd.f6.f1, .int .i64 nd.f6.f2, .int .i64 nd.f6.f3] 36)); have HFK := Lib.hid (Kd.FK_below hFK (below_alloc (Below.refl w4.heap.size w4) (.cells #[.string nd.f0, .bool nd.f1, .int .i64 nd.f2.f0, .int .i64 nd.f2.f1, .int .i64 nd.f2.f2, .int .i64 nd.f2.f3, .slice A6 nd.f3.length c6, .int .i64 nd.f4.f0, .int .i64 nd.f4.f1, .int .i64 nd.f4.f2, .int .i64 nd.f4.f3, .slice A11 nd.f5.length c11, .int .i64 nd.f6.f0, .int .i64 nd.f6.f1, .int .i64 nd.f6.f2, .int .i64 nd.f6.f3] 36))); have a0 := (blk_cell E1'.out 0).trans rfl; have a1 := (blk_cell E1'.out 1).trans rfl; have a2 := (blk_cell E1'.out 2).trans rfl; have a3 := (blk_cell E1'.out 3).trans rfl; have a4 := (blk_cell E1'.out 4).trans rfl; have d2 := (blk_cell EN.out 2).trans rfl; have d3 := (blk_cell EN.out 3).trans rfl; have d4 := (blk_cell EN.out 4).trans rfl; have d5 := (blk_cell EN.out 5).trans rfl; have d6 := (blk_cell EN.out 6).trans rfl; have r2 := wr50_blk E2'.out (cs := #[.string (⟨#[]⟩ : ByteArray), .bool false, .int .i64 0, .int .i64 0, .int .i64 0, .int .i64 0, .slice none 0 0, .int .i64 0, .int .i64 0, .int .i64 0, .int .i64 0, .slice none 0 0, .int .i64 0, .int .i64 0, .int .i64 0, .int .i64 0]) rfl rfl (by simp [Value.oneCell']); have HE := Lib.hid (setRow_heap _ _ _ #[.string (⟨#[]⟩ : ByteArray), .bool false, .int .i64 0, .int .i64 0, .int .i64 0, .int .i64 0, .slice none 0 0, .int .i64 0, .int .i64 0, .int .i64 0, .int .i64 0, .slice none 0 0, .int .i64 0, .int .i64 0, .int .i64 0, .int .i64 0] _ _ E2'.out); have HB9 := Lib.hid (below_setRow (HB4.out) (Nat.le_succ _) #[.string (⟨#[]⟩ : ByteArray), .bool false, .int .i64 0, .int .i64 0, .int .i64 0, .int .i64 0, .slice none 0 0, .int .i64 0, .int .i64 0, .int .i64 0, .int .i64 0, .slice none 0 0, .int .i64 0, .int .i64 0, .int .i64 0, .int .i64 0]); clear hb hFK hx))
 all_goals refine bodyPost_ret (results_ct rfl _ _ (w.heap.size + 1) 36 _ (0, 0) _ rfl HE.out Tryz.underlying36 rfl (by kernel_rfl)) rfl ?_
 all_goals rw [HV.out]
 all_goals first | exact ⟨_, rfl, z50_FK _ _, HB9.out⟩ | exact ⟨_, rfl, HFZ.out, HB9.out⟩
end Go.Proofs.YteilkbookcmndaaGreatDoor.C
end
section
namespace Go.Proofs.YteilkbookcmndaaGreatDoor.P
open Go.RowKit Go.Proofs.YteilkbookcmndaaGreatDoorW.PrintWords Go.Proofs.YteilkbookcmndaaGreatDoorW.PrintLast Go.Proofs.YteilkbookcmndaaGreatDoor.L
theorem letter_fine (c : Int) (h0 : 0 ≤ c) (h : c < 5) : 97 ≤ (letter c).toNat ∧ (letter c).toNat ≤ 101 := by
 obtain ⟨n, rfl⟩ := Int.eq_ofNat_of_zero_le h0
 have hn : n < 5 := by omega
 unfold letter
 rw [show ((97 + (n : Int)) % 256).toNat = 97 + n from by omega]
 have e : (UInt8.ofNat (97 + n)).toNat = 97 + n := by rw [UInt8.toNat_ofNat']; omega
 rw [e]
 omega
theorem of_rest2 (x0 : List Int) (hlen : x0.length ≤ 9223372036854775807) (m : Nat) : ∀ (ns : List (List UInt8)) (s : ByteArray), s.data.toList = flat ns → s.size ≤ 4 * ns.length → min x0.length 6 = ns.length + m →
  (∀ x ∈ ns, nameL x = true ∧ x.length ≤ 3 ∧ ∀ b ∈ x, 97 ≤ b.toNat ∧ b.toNat ≤ 101) →
  ∃ rest : List (List UInt8), rest.length = m ∧ (∀ x ∈ rest, nameL x = true ∧ x.length ≤ 3 ∧ ∀ b ∈ x, 97 ≤ b.toNat ∧ b.toNat ≤ 101) ∧ ∀ k, 10 * m + 10 ≤ k → donjonlaw7_Of.l0 k x0 s (ns.length : Int) = some ⟨(render (ns ++ rest)).toArray⟩ := by
 induction m with
 | zero =>
  intro ns s hs hz hm hns
  refine ⟨[], rfl, by simp, fun k hk => ?_⟩
  obtain ⟨k, rfl⟩ : ∃ q, k = q + 2 := ⟨k - 2, by omega⟩
  rw [List.append_nil]
  have hend : donjonlaw7_Of.j1 (k + 1) x0 s (ns.length : Int) false = some ⟨(render ns).toArray⟩ := by
   simp only [donjonlaw7_Of.j1]
   rw [if_neg (by decide), Lib.toList_data, hs]
   by_cases h : flat ns = []
   ·rw [if_pos h, flat_eq_nil h]
    rfl
   ·rw [if_neg h, render_flat ns (fun e => h (by rw [e]; rfl)), ← hs]
  simp only [donjonlaw7_Of.l0]
  by_cases h : (ns.length : Int) < (x0.length : Int)
  ·rw [if_pos h, show decide ((ns.length : Int) < 6) = false from by rw [decide_eq_false_iff_not]; omega]
   exact hend
  ·rw [if_neg h]
   exact hend
 | succ m ih =>
  intro ns s hs hz hm hns
  have hlt : ns.length < x0.length := by omega
  obtain ⟨t, ht, ht0, ht3⟩ := within_f (rd x0 (ns.length : Int)) 3 (by decide) (by decide)
  obtain ⟨c, hc, hc0, hc5⟩ := within_f (wrap64 (Int.tdiv (rd x0 (ns.length : Int)) 3)) 5 (by decide) (by decide)
  have hd : t + 1 - 0 = ((t + 1).toNat : Int) := by omega
  have hl : (List.replicate (t + 1).toNat (letter c)).length = (t + 1).toNat := List.length_replicate
  have hgood : nameL (List.replicate (t + 1).toNat (letter c)) = true := by
   unfold nameL
   rw [hl]
   simp only [Bool.and_eq_true, decide_eq_true_eq]
   refine ⟨?_, by omega, by omega⟩
   rw [List.all_eq_true]
   intro b hb
   rw [(List.mem_replicate.1 hb).2]
   exact letter_name c hc0 (by omega)
  have hfin : ∀ b ∈ List.replicate (t + 1).toNat (letter c), 97 ≤ b.toNat ∧ b.toNat ≤ 101 := by
   intro b hb
   rw [(List.mem_replicate.1 hb).2]
   exact letter_fine c hc0 hc5
  have hs1 : (s ++ (⟨#[47]⟩ : ByteArray)).data.toList ++ List.replicate (t + 1).toNat (letter c) = flat (ns ++ [List.replicate (t + 1).toNat (letter c)]) := by
   rw [append_data, hs, flat_snoc]
   simp
  have hz1 : (s ++ (⟨#[47]⟩ : ByteArray)).size = s.size + 1 := append_size _ _
  obtain ⟨rest, hr1, hr2, hr3⟩ := ih (ns ++ [List.replicate (t + 1).toNat (letter c)]) ⟨(flat (ns ++ [List.replicate (t + 1).toNat (letter c)])).toArray⟩ rfl
   (by rw [Lib.size_eq, ← hs1]; simp only [List.length_append, hl, List.length_cons, List.length_nil]; rw [← Lib.size_eq, hz1]; omega) (by rw [List.length_append]; simp; omega) (by
   intro x hx
   rcases List.mem_append.1 hx with hx | hx
   ·exact hns x hx
   ·rw [List.mem_singleton.1 hx]
    exact ⟨hgood, by rw [hl]; omega, hfin⟩)
  refine ⟨List.replicate (t + 1).toNat (letter c) :: rest, by simp [hr1], ?_, ?_⟩
  ·intro x hx
   rcases List.mem_cons.1 hx with rfl | hx
   ·exact ⟨hgood, by rw [hl]; omega, hfin⟩
   ·exact hr2 x hx
  ·intro k hk
   obtain ⟨k, rfl⟩ : ∃ q, k = q + 1 + (t + 1).toNat + 2 := ⟨k - (3 + (t + 1).toNat), by omega⟩
   simp only [donjonlaw7_Of.l0]
   rw [if_pos (by omega), show decide ((ns.length : Int) < 6) = true from by rw [decide_eq_true_eq]; omega]
   simp only [donjonlaw7_Of.j1]
   rw [if_pos trivial, if_pos (by omega), of_letters x0 ns.length hlt hlen t c ht ht3 hc hc0 hc5 (t + 1).toNat k 0 _ (by decide) hd (by omega), hs1]
   have h := hr3 k (by omega)
   rw [List.length_append, List.length_singleton] at h
   rw [h]
   simp
theorem of_f2 (x0 : List Int) (hlen : x0.length ≤ 9223372036854775807) : ∃ ns : List (List UInt8), ns.length ≤ 6 ∧ (∀ x ∈ ns, nameL x = true ∧ x.length ≤ 3 ∧ ∀ b ∈ x, 97 ≤ b.toNat ∧ b.toNat ≤ 101) ∧ ∀ k, 80 ≤ k → donjonlaw7_Of.f k x0 = some ⟨(render ns).toArray⟩ := by
 obtain ⟨rest, h1, h2, h3⟩ := of_rest2 x0 hlen (min x0.length 6) [] ⟨#[]⟩ rfl (by decide) (by simp) (by simp)
 refine ⟨rest, by omega, h2, fun k hk => ?_⟩
 have h := h3 k (by omega)
 rw [List.nil_append] at h
 unfold donjonlaw7_Of.f
 exact h
end Go.Proofs.YteilkbookcmndaaGreatDoor.P
namespace Go.Proofs.YteilkbookcmndaaGreatDoor.C
open Go.RowKit Go.Proofs.YteilkbookcmndaaGreatDoor.Q Go.Proofs.YteilkbookcmndaaGreatDoorW.PrintWords Go.Proofs.YteilkbookcmndaaGreatDoorW.PrintLast Go.Proofs.YteilkbookcmndaaGreatDoorW.PrintMore
attribute [local go_sem ↓] rd_at50 wr_at50 al_at50 rd_at80 wr_at80 al_at80
attribute [local go_sem] rd50_new wr50_new al50 al80 wr80_new
def FineB (b : UInt8) : Prop := b = 47 ∨ b = 108 ∨ (48 ≤ b.toNat ∧ b.toNat ≤ 57) ∨ (97 ≤ b.toNat ∧ b.toNat ≤ 101)
def FineP (p : ByteArray) : Prop := ∀ b ∈ p.toList, FineB b
def Fine (t : List S50) : Prop := ∀ n ∈ t, FineP n.f0
theorem fine_flat : ∀ (ns : List (List UInt8)), (∀ x ∈ ns, ∀ b ∈ x, FineB b) → ∀ b ∈ L.flat ns, FineB b
 | [], _, b, hb => by cases hb
 | x :: s, h, b, hb => by
  have e : L.flat (x :: s) = 47 :: (x ++ L.flat s) := rfl
  rw [e] at hb
  rcases List.mem_cons.1 hb with rfl | hb
  ·exact Or.inl rfl
  ·rcases List.mem_append.1 hb with hb | hb
   ·exact h x List.mem_cons_self b hb
   ·exact fine_flat s (fun y hy => h y (List.mem_cons_of_mem _ hy)) b hb
theorem fine_pth (ns : List (List UInt8)) (h : ∀ x ∈ ns, ∀ b ∈ x, FineB b) : FineP (pth ns) := by
 intro b hb
 rw [Lib.toList_data, pth_data] at hb
 by_cases hne : ns = []
 ·subst hne
  obtain rfl : b = 47 := by simpa [L.render] using hb
  exact Or.inl rfl
 ·rw [L.render_flat ns hne] at hb
  exact fine_flat ns h b hb
theorem fine_put {t : List S50} {n : S50} (h : Fine t) (hn : FineP n.f0) : Fine (putN t n) := by
 intro x hx
 rcases mem_put.1 hx with rfl | ⟨hx, _⟩
 ·exact hn
 ·exact h x hx
theorem fine_first (ls : List S41) (hl : ls.length ≤ 9) : Fine (firstT ls) := by
 intro n hn
 rcases mem_first hn with rfl | ⟨k, hk, rfl⟩
 ·intro b hb
  obtain rfl : b = 47 := by
   have h2 : (⟨#[47]⟩ : ByteArray).toList = [47] := by rw [Lib.toList_data]
   have h3 : b ∈ (⟨#[47]⟩ : ByteArray).toList := hb
   rw [h2] at h3
   simpa using h3
  exact Or.inl rfl
 ·have h := l0_pth ⟨k, by omega⟩
  have h1 : l0 k = pth [[108, UInt8.ofNat (48 + k)]] := h
  show FineP (l0 k)
  rw [h1]
  refine fine_pth _ fun x hx b hb => ?_
  rw [List.mem_singleton.1 hx] at hb
  rcases List.mem_cons.1 hb with rfl | hb
  ·exact Or.inr (Or.inl rfl)
  ·rw [List.mem_singleton.1 hb]
   refine Or.inr (Or.inr (Or.inl ?_))
   have e : (UInt8.ofNat (48 + k)).toNat = 48 + k := by rw [UInt8.toNat_ofNat']; omega
   rw [e]
   omega
theorem of_c2 (l : List Int) (hl : l.length ≤ 9223372036854775807) : ∃ ns : List (List UInt8), Okp ns ∧ FineP (pth ns) ∧ ∀ (A : Option Addr) (c : Nat) (w : World), Kd.C (Kd.int .i64) w A l.length l → l.length ≤ c → Calls Tryz.prog 42 #[.slice A l.length c] w fun e w' => e = .returned (.string (pth ns)) ∧ Below w.heap.size w w' := by
 obtain ⟨ns, h1, h2, h3⟩ := P.of_f2 l hl
 exact ⟨ns, ⟨fun x hx => L.name_nm (h2 x hx).1, P.of_check h1 (fun x hx => ⟨(h2 x hx).1, (h2 x hx).2.1⟩)⟩, fine_pth ns (fun x hx b hb => Or.inr (Or.inr (Or.inr ((h2 x hx).2.2 b hb)))), fun A c w hC hc => P.donjonlaw7_Of.calls 80 A c l _ w hC hc (h3 80 (Nat.le_refl _))⟩
end Go.Proofs.YteilkbookcmndaaGreatDoor.C
end
section
namespace Go.Proofs.YteilkbookcmndaaGreatDoor.C
open Go.RowKit Go.Proofs.YteilkbookcmndaaGreatDoor.Q Go.Proofs.YteilkbookcmndaaGreatDoorW.PrintWords Go.Proofs.YteilkbookcmndaaGreatDoorW.PrintLast Go.Proofs.YteilkbookcmndaaGreatDoorW.PrintMore
attribute [local go_sem ↓] rd_at50 wr_at50 al_at50 rd_at80 wr_at80 al_at80
attribute [local go_sem] rd50_new wr50_new al50 al80 wr80_new
set_option maxHeartbeats 8000000 in
set_option maxRecDepth 100000 in
theorem grow_c3 (terms : List S41) (makes : List S80) (A B : Option Addr) (c d : Nat) (w : World) (hC : Kd.C k41 w A terms.length terms) (hc : terms.length ≤ c) (hD : Kd.C k80 w B makes.length makes) (hd : makes.length ≤ d) :
  Calls Tryz.prog 27 #[.slice A terms.length c, .slice B makes.length d] w fun e w' => ∃ Ag t cg, e = .returned (.slice Ag t.length cg) ∧ Tree t ∧ Fine t ∧ t.length ≤ 19 ∧ t.length ≤ cg ∧ Kd.C k50 w' Ag t.length t ∧ Below w.heap.size w w' := by
 have HC := Lib.hid hC
 have HD := Lib.hid hD
 clear hC hD
 go_enter Tryz.func27, Tryz.ntmps27
 go_wp2
 go_loopg [6] 4 (fun k s6 wr => ∃ (i : Nat) (v : Value) (xs : List S41), i ≤ 4 ∧ 4 - i ≤ k ∧ s6 = .int .i64 i ∧ xs.length ≤ i ∧ Hid (wr.heap[w.heap.size]? = some (.cells #[v, .slice none 0 0, .slice none 0 0] 92 (0, 0))) ∧ Hid (∀ a ∈ xs, Lab a) ∧ Hid (OwnRow (k41.K w) 30 4 wr (w.heap.size + 1) v xs) ∧ Hid (Below w.heap.size w wr))
 case atStart => exact ⟨0, .slice none 0 0, [], Nat.zero_le _, Nat.le_refl _, rfl, Nat.le_refl _, Lib.hid (blk_new _ _), Lib.hid (by simp), Lib.hid (OwnRow.none_ _ _ _ _ _), Lib.hid (below_alloc (Below.refl _ _) _)⟩
 case round =>
  obtain ⟨i, v, xs, hi, hik, rfl, hxl, HE, HL, HO, HB⟩ := hrel
  obtain ⟨V0, hV⟩ : ∃ V, V = wr := ⟨_, rfl⟩
  subst hV
  obtain ⟨Ao, co, hs, hco, _⟩ := OwnRow.reads HO.out
  subst hs
  have hbx : V0.cell? ⟨w.heap.size, 0, none⟩ = some (.slice Ao xs.length co) := (blk_cell HE.out 0).trans rfl
  by_cases hcond : i < terms.length ∧ i < 4
  ·obtain ⟨hlt, h4⟩ := hcond
   obtain ⟨ad, hA, i0, i1, i2, i3⟩ := at_T41 HC.out (i : Int) (by omega) (by omega)
   subst hA
   simp only [Int.toNat_natCast] at i0 i1 i2 i3
   generalize rd_T41 terms (i : Int) = a at i0 i1 i2 i3
   have HLT := Lib.hid (World.block_lt_of_cell? w _ i0)
   have i0 := pw_cell_below HB.out i0
   have i1 := pw_cell_below HB.out i1
   have i2 := pw_cell_below HB.out i2
   have i3 := pw_cell_below HB.out i3
   go_wp2
   go_region_law
    (first | (refine goes_ Tryz.func41 (by kernel_rfl) rfl #[.agg #[.int .i64 a.f0, .int .i64 a.f1, .int .i64 a.f2, .int .i64 a.f3]] (by rfl) rfl rfl (by (try simp only [List.map_toArray, List.map_cons, List.map_nil]); first | done | rfl | (go_simp; rfl)) ?_; (refine (good_c a _).mono ?_; rintro e w5 ⟨g, rfl, hg, hd⟩; refine ⟨_, rfl, ?_⟩; have HB5 := Lib.hid (below_step (show Below V0.heap.size V0 _ by repeat (first | exact Below.refl _ _ | apply below_alloc | apply below_drew1)) hd); have HG := Lib.hid hg; have k0 := pw_cell_below HB5.out hbx; have k0a := pw_cell_below (below_alloc (Below.refl w5.heap.size w5) (.cells #[.int .i64 g.f0, .int .i64 g.f1, .int .i64 g.f2, .int .i64 g.f3] 30)) k0; have k1 := pw_cell_below HB5.out i0; have k2 := pw_cell_below HB5.out i1; have k3 := pw_cell_below HB5.out i2; have k4 := pw_cell_below HB5.out i3; clear hd hg)) | ((refine OwnRow.append_step (w0 := w5) (w.heap.size + 1) (by rfl) _ _ 22 30 (.agg #[.int .i64 0, .int .i64 0, .int .i64 0, .int .i64 0]) 4 32 (by rfl) Tryz.underlying22 inf41 rfl (by decide) (by decide) (.slice Ao xs.length co) xs g [.int .i64 g.f0, .int .i64 g.f1, .int .i64 g.f2, .int .i64 g.f3] (by rfl) (by first | rfl | (simp only [World.size_alloc]; rfl)) (k41_mk w g) rfl (by simp [Value.oneCell']) (OwnRow.below HO.out (by repeat (first | exact HB5.out | exact Below.refl _ _ | apply below_alloc | apply below_drew1))) (by repeat (first | exact Below.refl _ _ | apply below_alloc | apply below_drew1)) (Nat.le_trans (blk_lt HE.out) (below_size (below_step HB5.out (by repeat (first | exact Below.refl _ _ | apply below_alloc | apply below_drew1))))) (by omega) ?_; intro v4 w4 hO4 hB4 _ _; obtain ⟨A4, c4, rfl, hc4, _⟩ := OwnRow.reads hO4; have q0 := (hB4.cell (show w.heap.size < w.heap.size + 1 by omega)).trans k0; have q1 := (hB4.cell (p := ad.add (i * 4)) (by have := HLT.out; omega)).trans k1; have q2 := (hB4.cell (p := ⟨(ad.add (i * 4)).block, (ad.add (i * 4)).off + 1, none⟩) (by have := HLT.out; show (ad.add (i * 4)).block < _; omega)).trans k2; have q3 := (hB4.cell (p := ⟨(ad.add (i * 4)).block, (ad.add (i * 4)).off + 2, none⟩) (by have := HLT.out; show (ad.add (i * 4)).block < _; omega)).trans k3; have q4 := (hB4.cell (p := ⟨(ad.add (i * 4)).block, (ad.add (i * 4)).off + 3, none⟩) (by have := HLT.out; show (ad.add (i * 4)).block < _; omega)).trans k4; have HJ := Lib.hid (below_join (below_step HB.out HB5.out) hB4 (by omega)); have hbk := (hB4.block w.heap.size (by omega)).trans (blk_below HE.out HB5.out); have hs := (blk_cell hbk 0).trans rfl; have hf := blk_frozen hbk 0; have HBK := Lib.hid hbk; clear hbk; have HO4 := Lib.hid hO4; have HB4 := Lib.hid hB4; clear hO4 hB4)))
   all_goals go_wp2
   all_goals go_roundg (4 - (i + 1))
   all_goals first
    | omega
    | exact ⟨i + 1, _, xs ++ [g], h4, Nat.le_refl _, by go_num, by rw [List.length_append, List.length_singleton]; omega, Lib.hid (blk_put HBK.out 0 _ rfl), Lib.hid (fun b hb => by rcases List.mem_append.1 hb with hb | hb; exact HL.out b hb; rw [List.mem_singleton.1 hb]; exact HG.out), Lib.hid (own_far_set (by have := HO4.out; rw [List.length_append, List.length_singleton] at this; exact this) w.heap.size 0 _ (by omega)), Lib.hid (below_set HJ.out (Nat.le_refl _))⟩
  ·have hbx1 : V0.cell? ⟨w.heap.size, 1, none⟩ = some (.slice none 0 0) := (blk_cell HE.out 1).trans rfl
   have hbx2 : V0.cell? ⟨w.heap.size, 2, none⟩ = some (.slice none 0 0) := (blk_cell HE.out 2).trans rfl
   obtain ⟨A', c', he', _, hRo⟩ := OwnRow.reads HO.out
   injection he' with hA' _ hc'
   subst hA' hc'
   have HR := Lib.hid (C41_of hRo)
   have hn4 : xs.length ≤ 4 := by omega
   clear hRo
   have hor : ¬ i < terms.length ∨ (i < terms.length ∧ ¬ i < 4) := by omega
   rcases hor with hor | ⟨hor1, hor2⟩
   all_goals
    go_wp2_with (go_at_call 26; refine (first_c xs Ao co (.slice none 0 0) (.slice none 0 0) _ HR.out hco hn4).mono ?_; rintro e w1 ⟨v, rfl, ls, hls, hl4, w2, hb1, hb2, hO⟩; obtain ⟨A1, c1, rfl, hc1, hR1⟩ := OwnRow.reads hO; have HC1 := Lib.hid (C50_of hR1 hb2); have HB1 := Lib.hid (below_step HB.out (below_step hb1 hb2)); have HT1 := Lib.hid (tree_first ls (by omega) (fun a ha => HL.out a (hls.1 a ha))); have hfl := firstT_len ls; have HFi1 := Lib.hid (fine_first ls (by omega)); generalize firstT ls = t0 at HC1 HT1 hc1 hfl HFi1; clear hb1 hb2 hO hR1 hls)
    go_loopg [7, 8] 14 (fun k s7 s8 wr => ∃ (i : Nat) (t : List S50) (Ag : Option Addr) (cg : Nat), i ≤ 14 ∧ 14 - i ≤ k ∧ s8 = .int .i64 i ∧ s7 = .slice Ag t.length cg ∧ t.length ≤ cg ∧ t.length ≤ 5 + i ∧ Hid (Tree t) ∧ Hid (Fine t) ∧ Hid (Kd.C k50 wr Ag t.length t) ∧ Hid (Below w.heap.size w wr))
    case atStart => exact ⟨0, t0, A1, c1, Nat.zero_le _, Nat.le_refl _, rfl, by rw [hfl], hc1, by omega, HT1, HFi1, HC1, HB1⟩
    case round =>
     obtain ⟨i, t, Ag, cg, hi, hik, rfl, rfl, hcg, htl, HT, HFi, HCt, HB⟩ := hrel
     obtain ⟨V1, hV⟩ : ∃ V, V = wr := ⟨_, rfl⟩
     subst hV
     by_cases hcond : i < makes.length ∧ i < 14
     ·obtain ⟨hlt, h14⟩ := hcond
      obtain ⟨ad, cs, hA, hK, hld⟩ := row_load z80 HD.out HB.out i hlt
      subst hA
      obtain ⟨A0, c0, A6, c6, A11, c11, rfl, l0, g0, l6, g6, l11, g11⟩ := k80_open hK
      have r80 := rd80_of (show (loadCellsFrom (ad.add (i * 16)) 0 16 #[]).run Tryz.prog V1 = .ok _ V1 from hld)
      clear hK hld
      generalize makes[i]'hlt = m at l0 g0 l6 g6 l11 g11 r80
      obtain ⟨ns, hok, hfn, hof⟩ := of_c2 m.f0 g0.2.1
      have HFN := Lib.hid hfn
      clear hfn
      have HG0 := Lib.hid g0
      have HG6 := Lib.hid g6
      have HG11 := Lib.hid g11
      have HOF := Lib.hid hof
      have HOK := Lib.hid hok
      clear g0 g6 g11 hof hok
      have EM0 := Lib.hid (blk_new V1 (.cells #[.slice A0 m.f0.length c0, .bool m.f1, .int .i64 m.f2.f0, .int .i64 m.f2.f1, .int .i64 m.f2.f2, .int .i64 m.f2.f3, .slice A6 m.f3.length c6, .int .i64 m.f4.f0, .int .i64 m.f4.f1, .int .i64 m.f4.f2, .int .i64 m.f4.f3, .slice A11 m.f5.length c11, .int .i64 m.f6.f0, .int .i64 m.f6.f1, .int .i64 m.f6.f2, .int .i64 m.f6.f3] 118))
      have HV0 := Lib.hid (below_alloc (Below.refl V1.heap.size V1) (.cells #[.slice A0 m.f0.length c0, .bool m.f1, .int .i64 m.f2.f0, .int .i64 m.f2.f1, .int .i64 m.f2.f2, .int .i64 m.f2.f3, .slice A6 m.f3.length c6, .int .i64 m.f4.f0, .int .i64 m.f4.f1, .int .i64 m.f4.f2, .int .i64 m.f4.f3, .slice A11 m.f5.length c11, .int .i64 m.f6.f0, .int .i64 m.f6.f1, .int .i64 m.f6.f2, .int .i64 m.f6.f3] 118))
      by_cases hroot : ns = []
      ·subst hroot
       have hp := root_eq
       generalize pth [] = p at HOF hp
       go_wp2_with (go_at_call 42; refine (HOF.out A0 c0 _ (Kd.C_below HG0.out HV0.out) l0).mono ?_; rintro e w1 ⟨rfl, hb⟩; have HV1 := Lib.hid (below_step HV0.out hb); clear hb)
       go_roundg (14 - (i + 1))
       case measure => omega
       case rel => exact ⟨i + 1, t, Ag, cg, h14, Nat.le_refl _, by go_num, rfl, hcg, by omega, HT, HFi, Lib.hid (Kd.C_below HCt.out HV1.out), Lib.hid (below_step HB.out HV1.out)⟩
      ·have hp := eq_root ns HOK.out.1 hroot
       have HPar := Lib.hid (rparent_f ns HOK.out.1 hroot HOK.out.2 1100 (by omega))
       have HF1 := Lib.hid fun w1 (hb : Below V1.heap.size V1 w1) n b hn hb2 => find_t HT.out (pth ns.dropLast) Ag cg w1 (Kd.C_below HCt.out hb) hcg n b hn hb2
       have HF2 := Lib.hid fun w1 (hb : Below V1.heap.size V1 w1) n b hn hb2 => find_t HT.out (pth ns) Ag cg w1 (Kd.C_below HCt.out hb) hcg n b hn hb2
       obtain ⟨dn, hdn0⟩ : ∃ n, nodeN t (pth ns.dropLast) = n := ⟨_, rfl⟩
       obtain ⟨b1, hb10⟩ : ∃ b, isN t (pth ns.dropLast) = b := ⟨_, rfl⟩
       obtain ⟨hn, hhn0⟩ : ∃ n, nodeN t (pth ns) = n := ⟨_, rfl⟩
       obtain ⟨b3, hb30⟩ : ∃ b, isN t (pth ns) = b := ⟨_, rfl⟩
       have Hdn := Lib.hid hdn0
       have Hb1 := Lib.hid hb10
       have Hhn := Lib.hid hhn0
       have Hb3 := Lib.hid hb30
       clear hdn0 hb10 hhn0 hb30
       generalize hpp0 : pth ns = p at HOF hp HPar HF2 Hhn Hb3 HFN
       generalize hpq0 : pth ns.dropLast = par at HPar HF1 Hdn Hb1
       have HPP := Lib.hid hpp0
       have HPQ := Lib.hid hpq0
       clear hpp0 hpq0
       obtain ⟨b2, hb20⟩ : ∃ b, dn.f1 = b := ⟨_, rfl⟩
       by_cases hmain : b1 = true ∧ b2 = true ∧ b3 = false
       ·obtain ⟨rfl, rfl, rfl⟩ := hmain
        go_wp2_with (first | (go_at_call 42; refine (HOF.out A0 c0 _ (Kd.C_below HG0.out HV0.out) l0).mono ?_; rintro e w1 ⟨rfl, hb⟩; have HV1 := Lib.hid (below_step HV0.out hb); have EM1 := Lib.hid (blk_below EM0.out hb); clear hb) | (go_at_call 43; refine (donjonref7_Parent.calls 1100 p par _ HPar.out).mono ?_; rintro e w2 ⟨rfl, hb⟩; have HV2 := Lib.hid (below_step HV1.out hb.below); have EM2 := Lib.hid (blk_below EM1.out hb.below); clear hb) | (go_at_call 16; have hg := HV3.out; clear hg; refine (HF2.out _ (below_alloc HV3.out _) hn _ Hhn.out Hb3.out).mono ?_; rintro e w4 ⟨X6, x6, X11, x11, rfl, hb⟩; have ED := blk_below (blk_new w3 _) hb; have e1 := pw_cell_below (below_alloc (Below.refl w4.heap.size w4) (.cells #[.string hn.f0, .bool hn.f1, .int .i64 hn.f2.f0, .int .i64 hn.f2.f1, .int .i64 hn.f2.f2, .int .i64 hn.f2.f3, .slice X6 hn.f3.length x6, .int .i64 hn.f4.f0, .int .i64 hn.f4.f1, .int .i64 hn.f4.f2, .int .i64 hn.f4.f3, .slice X11 hn.f5.length x11, .int .i64 hn.f6.f0, .int .i64 hn.f6.f1, .int .i64 hn.f6.f2, .int .i64 hn.f6.f3] 36)) ((blk_cell ED 1).trans rfl); have HV5 := Lib.hid (below_alloc (below_step (below_alloc HV3.out _) hb) (.cells #[.string hn.f0, .bool hn.f1, .int .i64 hn.f2.f0, .int .i64 hn.f2.f1, .int .i64 hn.f2.f2, .int .i64 hn.f2.f3, .slice X6 hn.f3.length x6, .int .i64 hn.f4.f0, .int .i64 hn.f4.f1, .int .i64 hn.f4.f2, .int .i64 hn.f4.f3, .slice X11 hn.f5.length x11, .int .i64 hn.f6.f0, .int .i64 hn.f6.f1, .int .i64 hn.f6.f2, .int .i64 hn.f6.f3] 36)); have EM5 := Lib.hid (blk_alloc (blk_below (blk_alloc EM3.out _) hb) (.cells #[.string hn.f0, .bool hn.f1, .int .i64 hn.f2.f0, .int .i64 hn.f2.f1, .int .i64 hn.f2.f2, .int .i64 hn.f2.f3, .slice X6 hn.f3.length x6, .int .i64 hn.f4.f0, .int .i64 hn.f4.f1, .int .i64 hn.f4.f2, .int .i64 hn.f4.f3, .slice X11 hn.f5.length x11, .int .i64 hn.f6.f0, .int .i64 hn.f6.f1, .int .i64 hn.f6.f2, .int .i64 hn.f6.f3] 36)); have ED5 := Lib.hid (blk_alloc ED (.cells #[.string hn.f0, .bool hn.f1, .int .i64 hn.f2.f0, .int .i64 hn.f2.f1, .int .i64 hn.f2.f2, .int .i64 hn.f2.f3, .slice X6 hn.f3.length x6, .int .i64 hn.f4.f0, .int .i64 hn.f4.f1, .int .i64 hn.f4.f2, .int .i64 hn.f4.f3, .slice X11 hn.f5.length x11, .int .i64 hn.f6.f0, .int .i64 hn.f6.f1, .int .i64 hn.f6.f2, .int .i64 hn.f6.f3] 36)); clear hb ED) | (go_at_call 16; refine (HF1.out _ HV2.out dn _ Hdn.out Hb1.out).mono ?_; rintro e w3 ⟨D6, d6, D11, d11, rfl, hb⟩; have HV3 := Lib.hid (below_step HV2.out hb); have EM3 := Lib.hid (blk_below EM2.out hb); clear hb))
        refine r16 m dn p V1.heap.size w3.heap.size A0 A6 A11 D6 D11 c0 c6 c11 d6 d11 _ _ _ _ _ _ _ _ _ _ _ _ _ _ _ _ _ _ _ _ _ _ _ _ _ _ _ _ _ _ _ _ _ _ _ _ _ _ _ _ _ _ _ _ _ _ _ _ _ _ _ _ _ _ _ _ _ _ _ _ _ _ _ _ _ _ _ _ _ _ _ _ _ _ _ _ _ _ _ _ _ _ _ _ _ _ _ _ _ _ _ _ _ _ _ _ _ _ _ _ _ _ _ _ _ _ _ _ _ _ _ _ _ _ _ _ _ _ _ _ _ _ _ _ _ _ _ _ _ _ EM5.out (by have h := ED5.out; rw [hb20]; exact h) (Kd.C_below HG6.out HV5.out) l6 ?_
        generalize w4.alloc (.cells #[.string hn.f0, .bool hn.f1, .int .i64 hn.f2.f0, .int .i64 hn.f2.f1, .int .i64 hn.f2.f2, .int .i64 hn.f2.f3, .slice X6 hn.f3.length x6, .int .i64 hn.f4.f0, .int .i64 hn.f4.f1, .int .i64 hn.f4.f2, .int .i64 hn.f4.f3, .slice X11 hn.f5.length x11, .int .i64 hn.f6.f0, .int .i64 hn.f6.f1, .int .i64 hn.f6.f2, .int .i64 hn.f6.f3] 36) = W5 at HV5 EM5 ED5 ⊢
        intro g w6 xs A8 c8 b t81 t82 t83 t84 t85 t86 t87 t88 t89 t90 t91 t92 hEN hgs hGA hxl hOx hLb hB
        have EN6 := Lib.hid hEN
        have EM6 := Lib.hid (blk_below EM5.out hB)
        have ED6 := Lib.hid (blk_below ED5.out hB)
        have HV6 := Lib.hid (below_step HV5.out hB)
        have HGA := Lib.hid hGA
        have HOx := Lib.hid hOx
        have HLb := Lib.hid hLb
        have hgm := blk_lt EM5.out
        have hgd := blk_lt ED5.out
        have hm1 := (blk_cell EM6.out 1).trans rfl
        clear hEN hGA hOx hLb hB e1
        obtain ⟨bm, hbm⟩ : ∃ b, m.f1 = b := ⟨_, rfl⟩
        cases bm
        ·have hgV : V1.heap.size ≤ g := Nat.le_trans (Nat.le_of_lt hgm) hgs
         have kr0 := (blk_cell EM6.out 7).trans rfl
         have kr1 := (blk_cell EM6.out 8).trans rfl
         have kr2 := (blk_cell EM6.out 9).trans rfl
         have kr3 := (blk_cell EM6.out 10).trans rfl
         go_wp2_with (go_at_call 40; refine (ring_c m.f4.f0 m.f4.f1 m.f4.f2 m.f4.f3 _).mono ?_; rintro e w7 ⟨r0, r1, r2, r3, rfl, hr, hd⟩; have HRr := Lib.hid hr; have HV7 := Lib.hid (below_step HV6.out hd); have EN7 := Lib.hid (blk_below EN6.out hd); have EM7 := Lib.hid (blk_below EM6.out hd); have HOx7 := Lib.hid (OwnRow.below HOx.out hd); have hs0 := (blk_cell EN7.out 7).trans rfl; have hf0 := blk_frozen EN7.out 7; have hs1 := (blk_cell EN7.out 8).trans rfl; have hf1 := blk_frozen EN7.out 8; have hs2 := (blk_cell EN7.out 9).trans rfl; have hf2 := blk_frozen EN7.out 9; have hs3 := (blk_cell EN7.out 10).trans rfl; have hf3 := blk_frozen EN7.out 10; clear hr hd)
         have EN8 : ((((w7.setCell ⟨g, 7, none⟩ (.int .i64 r0)).setCell ⟨g, 8, none⟩ (.int .i64 r1)).setCell ⟨g, 9, none⟩ (.int .i64 r2)).setCell ⟨g, 10, none⟩ (.int .i64 r3)).heap[g]? = some (.cells #[.string p, .bool false, .int .i64 dn.f2.f0, .int .i64 dn.f2.f1, .int .i64 dn.f2.f2, .int .i64 dn.f2.f3, .slice A8 xs.length c8, .int .i64 r0, .int .i64 r1, .int .i64 r2, .int .i64 r3, .slice none 0 0, .int .i64 b.f0, .int .i64 b.f1, .int .i64 b.f2, .int .i64 b.f3] 36 (0, 0)) := by
          refine blk_put (blk_put (blk_put (blk_put EN7.out 7 _ rfl) 8 _ rfl) 9 _ rfl) 10 _ ?_
          rw [hbm]
          rfl
         have B1 := blk_put EN7.out 7 (.int .i64 r0) rfl
         have B2 := blk_put B1 8 (.int .i64 r1) rfl
         have B3 := blk_put B2 9 (.int .i64 r2) rfl
         have HOx8 := Lib.hid (OwnRow.set_ (OwnRow.set_ (OwnRow.set_ (OwnRow.set_ HOx7.out EN7.out (by decide) 7 (.int .i64 r0)) B1 (by decide) 8 (.int .i64 r1)) B2 (by decide) 9 (.int .i64 r2)) B3 (by decide) 10 (.int .i64 r3))
         have HV8 := Lib.hid (show Below V1.heap.size V1 ((((w7.setCell ⟨g, 7, none⟩ (.int .i64 r0)).setCell ⟨g, 8, none⟩ (.int .i64 r1)).setCell ⟨g, 9, none⟩ (.int .i64 r2)).setCell ⟨g, 10, none⟩ (.int .i64 r3)) from below_set (below_set (below_set (below_set HV7.out hgV) hgV) hgV) hgV)
         have hneM : V1.heap.size ≠ g := by omega
         have EM8 := Lib.hid (show ((((w7.setCell ⟨g, 7, none⟩ (.int .i64 r0)).setCell ⟨g, 8, none⟩ (.int .i64 r1)).setCell ⟨g, 9, none⟩ (.int .i64 r2)).setCell ⟨g, 10, none⟩ (.int .i64 r3)).heap[V1.heap.size]? = _ from blk_far (blk_far (blk_far (blk_far EM7.out (p := ⟨g, 7, none⟩) hneM _) (p := ⟨g, 8, none⟩) hneM _) (p := ⟨g, 9, none⟩) hneM _) (p := ⟨g, 10, none⟩) hneM _)
         clear B1 B2 B3 hs0 hs1 hs2 hs3 hf0 hf1 hf2 hf3
         generalize ((((w7.setCell ⟨g, 7, none⟩ (.int .i64 r0)).setCell ⟨g, 8, none⟩ (.int .i64 r1)).setCell ⟨g, 9, none⟩ (.int .i64 r2)).setCell ⟨g, 10, none⟩ (.int .i64 r3)) = W8 at EN8 HOx8 HV8 EM8 ⊢
         have hgW := blk_lt EN8
         have HEN8 := Lib.hid EN8
         clear EN8
         go_loopg [16] 16 (fun k s16 wr => ∃ (kk : Nat) (ws : List Int) (v : Value), kk ≤ 16 ∧ 16 - kk ≤ k ∧ s16 = .int .i64 kk ∧ ws.length ≤ kk ∧ Hid (wr.heap[g]? = some (.cells #[.string p, .bool false, .int .i64 dn.f2.f0, .int .i64 dn.f2.f1, .int .i64 dn.f2.f2, .int .i64 dn.f2.f3, .slice A8 xs.length c8, .int .i64 r0, .int .i64 r1, .int .i64 r2, .int .i64 r3, v, .int .i64 b.f0, .int .i64 b.f1, .int .i64 b.f2, .int .i64 b.f3] 36 (0, 0))) ∧ Hid (OwnRow ((Kd.int .i64).K w) 2 1 wr W8.heap.size v ws) ∧ Hid (Below g W8 wr) ∧ Hid (∀ k, k < W8.heap.size → k ≠ g → wr.heap[k]? = W8.heap[k]?))
         case atStart => exact ⟨0, [], .slice none 0 0, Nat.zero_le _, Nat.le_refl _, rfl, Nat.le_refl _, HEN8, Lib.hid (OwnRow.none_ _ _ _ _ _), Lib.hid (Below.refl _ _), Lib.hid (fun _ _ _ => rfl)⟩
         case round =>
          obtain ⟨kk, ws, v, hkk, hkk2, rfl, hwl, HEN, HOw, HBg, HKp⟩ := hrel
          obtain ⟨Aw, cw, hs, hcw, _⟩ := OwnRow.reads HOw.out
          subst hs
          have EMr := (HBg.out.block V1.heap.size (by omega)).trans EM8.out
          have hm11 := (blk_cell EMr 11).trans rfl
          have hn11 := (blk_cell HEN.out 11).trans rfl
          clear EMr
          by_cases hcond : kk < m.f5.length ∧ kk < 16
          ·obtain ⟨hkl, hk16⟩ := hcond
           obtain ⟨aw, cs1, hA1, _, hK1, hc1x⟩ := ReadsRow.get_ (Kd.C_below HG11.out (below_join HV8.out HBg.out hgV)) (0 : Int) (kk : Int) (by omega) (by omega)
           subst hA1
           have hcs1 : cs1 = [.int .i64 (m.f5.getD (kk : Int).toNat 0)] := hK1
           subst hcs1
           have he1 := hc1x 0 _ rfl
           rw [Int.toNat_natCast, Nat.add_zero, show kk * (Kd.int .i64).sz = kk from Nat.mul_one kk] at he1
           clear hK1 hc1x
           generalize m.f5.getD kk 0 = ev at he1
           have hn11a := pw_cell_below (below_alloc (Below.refl wr.heap.size wr) (.cells #[.int .i64 ev] 2)) hn11
           go_wp2
           refine wp_region_noPanic ?_
           go_region_law
            ((refine OwnRow.append_step (w0 := wr) (W := wr.drew) W8.heap.size (by rfl) _ _ 34 2 (.int .i64 0) 1 8 (by rfl) Tryz.underlying34 info2 rfl (by decide) (by decide) (.slice Aw ws.length cw) ws ev [.int .i64 ev] (by rfl) (by first | rfl | (simp only [World.size_alloc]; rfl)) rfl rfl (by simp [Value.oneCell']) (OwnRow.below HOw.out (by repeat (first | exact Below.refl _ _ | apply below_alloc | apply below_drew1))) (by repeat (first | exact Below.refl _ _ | apply below_alloc | apply below_drew1)) (Nat.le_trans HBg.out.size (below_size (show Below wr.heap.size wr _ by repeat (first | exact Below.refl _ _ | apply below_alloc | apply below_drew1)))) (by omega) ?_; intro v4 w4 hO4 hB4 _ _; obtain ⟨A4, c4, rfl, hc4, _⟩ := OwnRow.reads hO4; have hbk := (hB4.block g hgW).trans HEN.out; have hs := (blk_cell hbk 11).trans rfl; have hf := blk_frozen hbk 11; have HBK := Lib.hid hbk; have HO4 := Lib.hid hO4; have HB4 := Lib.hid hB4; clear hbk hO4 hB4))
           all_goals refine NoPanic.normal ?_
           all_goals go_wp2
           all_goals go_roundg (16 - (kk + 1))
           all_goals first
            | omega
            | exact ⟨kk + 1, ws ++ [ev], _, hk16, Nat.le_refl _, by go_num, by rw [List.length_append, List.length_singleton]; omega, Lib.hid (blk_put HBK.out 11 _ rfl), Lib.hid (own_far_set (by have := HO4.out; rw [List.length_append, List.length_singleton] at this; exact this) g 11 _ hgW), Lib.hid (below_put (below_join HBg.out HB4.out (Nat.le_of_lt hgW)) (Nat.le_refl _)), Lib.hid (fun k hk hkg => (Below.heap_setCell w4 ⟨g, 11, none⟩ _ k hkg).trans ((HB4.out.block k hk).trans (HKp.out k hk hkg)))⟩
          ·have hor : ¬ kk < m.f5.length ∨ (kk < m.f5.length ∧ ¬ kk < 16) := by omega
           have HVr := Lib.hid (below_join HV8.out HBg.out hgV)
           have HOxr := Lib.hid (own_keep HOx8.out HEN8.out HKp.out)
           obtain ⟨Aw', cw', ew', _, hRw⟩ := OwnRow.reads HOw.out
           injection ew' with ew1 _ ew3
           subst ew1 ew3
           have HRw := Lib.hid (show (Kd.int .i64).C wr Aw ws.length ws from hRw)
           clear hRw
           have r9 := rd50_blk HEN.out rfl
           have HPT := Lib.hid (seg_put HT.out (by omega) HOK.out hroot HPP.out HPQ.out Hdn.out Hb1.out hb20 Hb3.out HLb.out HGA.out (r := ⟨r0, r1, r2, r3⟩) HRr.out (ws := ws) (by omega))
           have HPUT := Lib.hid (put_c t ⟨p, false, dn.f2, xs, ⟨r0, r1, r2, r3⟩, ws, b⟩ [.string p, .bool false, .int .i64 dn.f2.f0, .int .i64 dn.f2.f1, .int .i64 dn.f2.f2, .int .i64 dn.f2.f3, .slice A8 xs.length c8, .int .i64 r0, .int .i64 r1, .int .i64 r2, .int .i64 r3, .slice Aw ws.length cw, .int .i64 b.f0, .int .i64 b.f1, .int .i64 b.f2, .int .i64 b.f3] Ag cg wr wr (Kd.C_below HCt.out HVr.out) (Below.refl _ _) hcg (by omega) (k50_mk wr ⟨p, false, dn.f2, xs, ⟨r0, r1, r2, r3⟩, ws, b⟩ hxl (C96_own HOxr.out) hcw HRw.out))
           have HFi2 := Lib.hid (fine_put (n := ⟨p, false, dn.f2, xs, ⟨r0, r1, r2, r3⟩, ws, b⟩) HFi.out HFN.out)
           generalize putN t ⟨p, false, dn.f2, xs, ⟨r0, r1, r2, r3⟩, ws, b⟩ = t2 at HPT HPUT HFi2
           rcases hor with hor | ⟨hor1, hor2⟩
           all_goals
            go_wp2_with (go_at_call 24; refine HPUT.out.mono ?_; rintro e w10 ⟨v, rfl, hO, hb⟩; obtain ⟨A2, c2, rfl, hc2, hR2⟩ := OwnRow.reads hO; have HC2 := Lib.hid (C50_of hR2 hb); have HV10 := Lib.hid (below_step HVr.out hb); clear hO hb hR2)
            go_roundg (14 - (i + 1))
            case measure => omega
            case rel => exact ⟨i + 1, t2, A2, c2, h14, Nat.le_refl _, by go_num, rfl, hc2, by have := HPT.out.2; omega, Lib.hid HPT.out.1, HFi2, HC2, Lib.hid (below_step HB.out HV10.out)⟩
        ·have hneM : V1.heap.size ≠ g := by omega
         have hneD : w3.heap.size ≠ g := by omega
         have kgm2 := (blk_cell EM6.out 2).trans rfl
         have kgm3 := (blk_cell EM6.out 3).trans rfl
         have kgm4 := (blk_cell EM6.out 4).trans rfl
         have kgm5 := (blk_cell EM6.out 5).trans rfl
         have kgd2 := (blk_cell ED6.out 2).trans rfl
         have kgd3 := (blk_cell ED6.out 3).trans rfl
         have kgd4 := (blk_cell ED6.out 4).trans rfl
         have kgd5 := (blk_cell ED6.out 5).trans rfl
         go_wp2
         refine wp_region_noPanic ?_
         go_region_held_law (fun W1 => W1.cell? ⟨V1.heap.size, 2, none⟩ = some (.int .i64 m.f2.f0) ∧ W1.cell? ⟨V1.heap.size, 3, none⟩ = some (.int .i64 m.f2.f1) ∧ W1.cell? ⟨V1.heap.size, 4, none⟩ = some (.int .i64 m.f2.f2) ∧ W1.cell? ⟨V1.heap.size, 5, none⟩ = some (.int .i64 m.f2.f3) ∧ W1.cell? ⟨w3.heap.size, 2, none⟩ = some (.int .i64 dn.f2.f0) ∧ W1.cell? ⟨w3.heap.size, 3, none⟩ = some (.int .i64 dn.f2.f1) ∧ W1.cell? ⟨w3.heap.size, 4, none⟩ = some (.int .i64 dn.f2.f2) ∧ W1.cell? ⟨w3.heap.size, 5, none⟩ = some (.int .i64 dn.f2.f3)) (first | go_keep | (exact ⟨(blk_cell (blk_far (blk_far (blk_far (blk_far EM8.out (p := ⟨g, 2, none⟩) hneM _) (p := ⟨g, 3, none⟩) hneM _) (p := ⟨g, 4, none⟩) hneM _) (p := ⟨g, 5, none⟩) hneM _) 2).trans rfl, (blk_cell (blk_far (blk_far (blk_far (blk_far EM8.out (p := ⟨g, 2, none⟩) hneM _) (p := ⟨g, 3, none⟩) hneM _) (p := ⟨g, 4, none⟩) hneM _) (p := ⟨g, 5, none⟩) hneM _) 3).trans rfl, (blk_cell (blk_far (blk_far (blk_far (blk_far EM8.out (p := ⟨g, 2, none⟩) hneM _) (p := ⟨g, 3, none⟩) hneM _) (p := ⟨g, 4, none⟩) hneM _) (p := ⟨g, 5, none⟩) hneM _) 4).trans rfl, (blk_cell (blk_far (blk_far (blk_far (blk_far EM8.out (p := ⟨g, 2, none⟩) hneM _) (p := ⟨g, 3, none⟩) hneM _) (p := ⟨g, 4, none⟩) hneM _) (p := ⟨g, 5, none⟩) hneM _) 5).trans rfl, (blk_cell (blk_far (blk_far (blk_far (blk_far ED8.out (p := ⟨g, 2, none⟩) hneD _) (p := ⟨g, 3, none⟩) hneD _) (p := ⟨g, 4, none⟩) hneD _) (p := ⟨g, 5, none⟩) hneD _) 2).trans rfl, (blk_cell (blk_far (blk_far (blk_far (blk_far ED8.out (p := ⟨g, 2, none⟩) hneD _) (p := ⟨g, 3, none⟩) hneD _) (p := ⟨g, 4, none⟩) hneD _) (p := ⟨g, 5, none⟩) hneD _) 3).trans rfl, (blk_cell (blk_far (blk_far (blk_far (blk_far ED8.out (p := ⟨g, 2, none⟩) hneD _) (p := ⟨g, 3, none⟩) hneD _) (p := ⟨g, 4, none⟩) hneD _) (p := ⟨g, 5, none⟩) hneD _) 4).trans rfl, (blk_cell (blk_far (blk_far (blk_far (blk_far ED8.out (p := ⟨g, 2, none⟩) hneD _) (p := ⟨g, 3, none⟩) hneD _) (p := ⟨g, 4, none⟩) hneD _) (p := ⟨g, 5, none⟩) hneD _) 5).trans rfl⟩))
          (first | (go_at_call 45; (have hgate := HV7.out; clear hgate; refine (join_c dn.f2 q _).mono ?_; rintro e w8 ⟨rfl, hd⟩; have HV8 := Lib.hid (below_step HV7.out hd); have EN8 := Lib.hid (blk_below EN7.out hd); have EM8 := Lib.hid (blk_below EM7.out hd); have ED8 := Lib.hid (blk_below ED7.out hd); have HOx8 := Lib.hid (OwnRow.below HOx7.out hd); have kgm2 := (blk_cell EM8.out 2).trans rfl; have kgm3 := (blk_cell EM8.out 3).trans rfl; have kgm4 := (blk_cell EM8.out 4).trans rfl; have kgm5 := (blk_cell EM8.out 5).trans rfl; have kgd2 := (blk_cell ED8.out 2).trans rfl; have kgd3 := (blk_cell ED8.out 3).trans rfl; have kgd4 := (blk_cell ED8.out 4).trans rfl; have kgd5 := (blk_cell ED8.out 5).trans rfl; have hs0 := (blk_cell EN8.out 2).trans rfl; have hf0 := blk_frozen EN8.out 2; have hs1 := (blk_cell EN8.out 3).trans rfl; have hf1 := blk_frozen EN8.out 3; have hs2 := (blk_cell EN8.out 4).trans rfl; have hf2 := blk_frozen EN8.out 4; have hs3 := (blk_cell EN8.out 5).trans rfl; have hf3 := blk_frozen EN8.out 5; clear hd)) | (go_at_call 41; (refine (good_c m.f2 _).mono ?_; rintro e w7 ⟨q, rfl, hq, hd⟩; have HLq := Lib.hid hq; have HV7 := Lib.hid (below_step (below_drew1 HV6.out) hd); have EN7 := Lib.hid (blk_below (blk_drew EN6.out) hd); have EM7 := Lib.hid (blk_below (blk_drew EM6.out) hd); have ED7 := Lib.hid (blk_below (blk_drew ED6.out) hd); have HOx7 := Lib.hid (OwnRow.below (OwnRow.below HOx.out (below_drew1 (Below.refl _ _))) hd); have kgm2 := (blk_cell EM7.out 2).trans rfl; have kgm3 := (blk_cell EM7.out 3).trans rfl; have kgm4 := (blk_cell EM7.out 4).trans rfl; have kgm5 := (blk_cell EM7.out 5).trans rfl; have kgd2 := (blk_cell ED7.out 2).trans rfl; have kgd3 := (blk_cell ED7.out 3).trans rfl; have kgd4 := (blk_cell ED7.out 4).trans rfl; have kgd5 := (blk_cell ED7.out 5).trans rfl; clear hq hd)))
         refine NoPanic.normal ?_
         have EN9 : ((((w8.setCell ⟨g, 2, none⟩ (.int .i64 (joinS dn.f2 q).f0)).setCell ⟨g, 3, none⟩ (.int .i64 (joinS dn.f2 q).f1)).setCell ⟨g, 4, none⟩ (.int .i64 (joinS dn.f2 q).f2)).setCell ⟨g, 5, none⟩ (.int .i64 (joinS dn.f2 q).f3)).heap[g]? = some (.cells #[.string p, .bool true, .int .i64 (joinS dn.f2 q).f0, .int .i64 (joinS dn.f2 q).f1, .int .i64 (joinS dn.f2 q).f2, .int .i64 (joinS dn.f2 q).f3, .slice A8 xs.length c8, .int .i64 0, .int .i64 0, .int .i64 0, .int .i64 0, .slice none 0 0, .int .i64 b.f0, .int .i64 b.f1, .int .i64 b.f2, .int .i64 b.f3] 36 (0, 0)) := by
          refine blk_put (blk_put (blk_put (blk_put EN8.out 2 _ rfl) 3 _ rfl) 4 _ rfl) 5 _ ?_
          rw [hbm]
          rfl
         have B1 := blk_put EN8.out 2 (.int .i64 (joinS dn.f2 q).f0) rfl
         have B2 := blk_put B1 3 (.int .i64 (joinS dn.f2 q).f1) rfl
         have B3 := blk_put B2 4 (.int .i64 (joinS dn.f2 q).f2) rfl
         have HOx9 := Lib.hid (OwnRow.set_ (OwnRow.set_ (OwnRow.set_ (OwnRow.set_ HOx8.out EN8.out (by decide) 2 (.int .i64 (joinS dn.f2 q).f0)) B1 (by decide) 3 (.int .i64 (joinS dn.f2 q).f1)) B2 (by decide) 4 (.int .i64 (joinS dn.f2 q).f2)) B3 (by decide) 5 (.int .i64 (joinS dn.f2 q).f3))
         have hgV : V1.heap.size ≤ g := Nat.le_trans (Nat.le_of_lt hgm) hgs
         have HV9 := Lib.hid (show Below V1.heap.size V1 ((((w8.setCell ⟨g, 2, none⟩ (.int .i64 (joinS dn.f2 q).f0)).setCell ⟨g, 3, none⟩ (.int .i64 (joinS dn.f2 q).f1)).setCell ⟨g, 4, none⟩ (.int .i64 (joinS dn.f2 q).f2)).setCell ⟨g, 5, none⟩ (.int .i64 (joinS dn.f2 q).f3)) from below_set (below_set (below_set (below_set HV8.out hgV) hgV) hgV) hgV)
         clear B1 B2 B3
         generalize ((((w8.setCell ⟨g, 2, none⟩ (.int .i64 (joinS dn.f2 q).f0)).setCell ⟨g, 3, none⟩ (.int .i64 (joinS dn.f2 q).f1)).setCell ⟨g, 4, none⟩ (.int .i64 (joinS dn.f2 q).f2)).setCell ⟨g, 5, none⟩ (.int .i64 (joinS dn.f2 q).f3)) = W9 at EN9 HOx9 HV9 ⊢
         have r9 := rd50_blk EN9 rfl
         have HPT := Lib.hid (dir_put HT.out (by omega) HOK.out hroot HPP.out HPQ.out Hdn.out Hb1.out hb20 Hb3.out HLq.out HLb.out HGA.out)
         have HPUT := Lib.hid (put_c t ⟨p, true, joinS dn.f2 q, xs, z47, [], b⟩ [.string p, .bool true, .int .i64 (joinS dn.f2 q).f0, .int .i64 (joinS dn.f2 q).f1, .int .i64 (joinS dn.f2 q).f2, .int .i64 (joinS dn.f2 q).f3, .slice A8 xs.length c8, .int .i64 0, .int .i64 0, .int .i64 0, .int .i64 0, .slice none 0 0, .int .i64 b.f0, .int .i64 b.f1, .int .i64 b.f2, .int .i64 b.f3] Ag cg W9 W9 (Kd.C_below HCt.out HV9.out) (Below.refl _ _) hcg (by omega) (k50_mk W9 ⟨p, true, joinS dn.f2 q, xs, z47, [], b⟩ hxl (C96_own HOx9.out) (A11 := none) (c11 := 0) (Nat.le_refl _) (C_nil _ _ _)))
         have HFi2 := Lib.hid (fine_put (n := ⟨p, true, joinS dn.f2 q, xs, z47, [], b⟩) HFi.out HFN.out)
         generalize putN t ⟨p, true, joinS dn.f2 q, xs, z47, [], b⟩ = t2 at HPT HPUT HFi2
         clear EN9
         generalize joinS dn.f2 q = jq at HPUT r9 ⊢
         go_wp2_with (go_at_call 24; refine HPUT.out.mono ?_; rintro e w10 ⟨v, rfl, hO, hb⟩; obtain ⟨A2, c2, rfl, hc2, hR2⟩ := OwnRow.reads hO; have HC2 := Lib.hid (C50_of hR2 hb); have HV10 := Lib.hid (below_step HV9.out hb); clear hO hb hR2)
         go_roundg (14 - (i + 1))
         case measure => omega
         case rel => exact ⟨i + 1, t2, A2, c2, h14, Nat.le_refl _, by go_num, rfl, hc2, by have := HPT.out.2; omega, Lib.hid HPT.out.1, HFi2, HC2, Lib.hid (below_step HB.out HV10.out)⟩
       ·have hor := three_way b1 b2 b3 hmain
        clear hmain
        rcases hor with rfl | ⟨rfl, rfl⟩ | ⟨rfl, rfl, rfl⟩
        all_goals
         go_wp2_with (first | (go_at_call 42; refine (HOF.out A0 c0 _ (Kd.C_below HG0.out HV0.out) l0).mono ?_; rintro e w1 ⟨rfl, hb⟩; have HV1 := Lib.hid (below_step HV0.out hb); clear hb) | (go_at_call 43; refine (donjonref7_Parent.calls 1100 p par _ HPar.out).mono ?_; rintro e w2 ⟨rfl, hb⟩; have HV2 := Lib.hid (below_step HV1.out hb.below); clear hb) | (go_at_call 16; have hg := HV3.out; clear hg; refine (HF2.out _ (below_alloc HV3.out _) hn _ Hhn.out Hb3.out).mono ?_; rintro e w4 ⟨X6, x6, X11, x11, rfl, hb⟩; have ED := blk_below (blk_new w3 _) hb; have e1 := pw_cell_below (below_alloc (Below.refl w4.heap.size w4) (.cells #[.string hn.f0, .bool hn.f1, .int .i64 hn.f2.f0, .int .i64 hn.f2.f1, .int .i64 hn.f2.f2, .int .i64 hn.f2.f3, .slice X6 hn.f3.length x6, .int .i64 hn.f4.f0, .int .i64 hn.f4.f1, .int .i64 hn.f4.f2, .int .i64 hn.f4.f3, .slice X11 hn.f5.length x11, .int .i64 hn.f6.f0, .int .i64 hn.f6.f1, .int .i64 hn.f6.f2, .int .i64 hn.f6.f3] 36)) ((blk_cell ED 1).trans rfl); have HV4 := Lib.hid (below_step (below_alloc HV3.out _) hb); clear hb ED) | (go_at_call 16; refine (HF1.out _ HV2.out dn _ Hdn.out Hb1.out).mono ?_; rintro e w3 ⟨D6, d6, D11, d11, rfl, hb⟩; have HV3 := Lib.hid (below_step HV2.out hb); clear hb))
         go_roundg (14 - (i + 1))
         case measure => omega
         case rel => exact ⟨i + 1, t, Ag, cg, h14, Nat.le_refl _, by go_num, rfl, hcg, by omega, HT, HFi, Lib.hid (Kd.C_below HCt.out (below_alloc HV4.out _)), Lib.hid (below_step HB.out (below_alloc HV4.out _))⟩
     ·have hor : ¬ i < makes.length ∨ (i < makes.length ∧ ¬ i < 14) := by omega
      rcases hor with hor | ⟨hor1, hor2⟩
      all_goals go_wp2
      all_goals go_ret
      all_goals exact ⟨Ag, t, cg, rfl, HT.out, HFi.out, by omega, hcg, HCt.out, HB.out⟩
end Go.Proofs.YteilkbookcmndaaGreatDoor.C
end
section
namespace Go.Proofs.YteilkbookcmndaaGreatDoor.C
open Go.RowKit Go.Proofs.YteilkbookcmndaaGreatDoor.Q Go.Proofs.YteilkbookcmndaaGreatDoorW.PrintWords Go.Proofs.YteilkbookcmndaaGreatDoorW.PrintLast Go.Proofs.YteilkbookcmndaaGreatDoorW.PrintMore
attribute [local go_sem ↓] rd_at50 wr_at50 al_at50
attribute [local go_sem] rd50_new wr50_new al50
theorem make50 (w : World) (n : Nat) (hn : n < 1000000) : (Instr.makeSlice 27 (.int .i64 (n : Int)) (.int .i64 (n : Int))).run Tryz.prog w = .ok (.slice (some ⟨w.heap.size, 0, none⟩) n n) (w.alloc (.cells (madeCells zero50 (n * 16)) 36)) := by
 obtain ⟨i, hq, hz, hsz, hby⟩ := info50
 have h := run_make (P := Tryz.prog) w 27 36 i (.agg zero50) Tryz.underlying27 hq hz .i64 .i64 (n : Int) (n : Int) (by omega) (Int.le_refl _) (by rw [hby]; omega) (by omega)
 rw [hsz, Int.toNat_natCast] at h
 exact h
theorem nrow_copied {w W : World} {g : Nat} {l : List S50} {inner : List Value} (hr : Reps (k50.K w) 16 l inner) (hb : Below w.heap.size w W) (hg : w.heap.size ≤ g) (hh : W.heap[g]? = some (.cells inner.toArray 36 (0, 0))) : NRow W g l inner := by
 refine ⟨hh, by rw [hr.1]; exact Nat.le_refl _, fun j x hj => ?_⟩
 have hK := hr.2 j x hj
 exact ((K_foot hK).step fun k hk _ => hb.block k hk).mono fun k hk => by omega
theorem splice_all {α : Type} (L cs : List α) (h : L.length = cs.length) : splice L 0 cs = cs := by
 unfold splice
 rw [List.take_zero, List.nil_append, Nat.zero_add, List.drop_of_length_le (by omega), List.append_nil]
def NRowF (W : World) (g B i : Nat) (l : List S50) (cur : List Value) : Prop :=
 NRow W g l cur ∧ ∀ j, j < i → ∀ x, l[j]? = some x → k50.FK W (fun k => B ≤ k ∧ k ≠ g) x ((cur.drop (j * 16)).take 16)
theorem nrowF_set {W : World} {g B i : Nat} {l : List S50} {cur : List Value} {x : S50} {cs : List Value} (h : NRowF W g B i l cur) (hi : i < l.length) (hx : k50.FK W (fun k => B ≤ k ∧ k ≠ g) x cs) : NRowF (W.setRow g (splice cur (i * 16) cs).toArray) g B (i + 1) (l.set i x) (splice cur (i * 16) cs) := by
 obtain ⟨h0, h4⟩ := h
 refine ⟨nrow_set h0 hi (hx.mono fun k hk => hk.2), fun j hj y hy => ?_⟩
 have hl := fk_len hx
 have hm : ∀ {y : S50} {c : List Value}, k50.FK W (fun k => B ≤ k ∧ k ≠ g) y c → k50.FK (W.setRow g (splice cur (i * 16) cs).toArray) (fun k => B ≤ k ∧ k ≠ g) y c := fun hy => hy.step fun k hk _ => setRow_other W g k _ hk.2
 have h2 := h0.2.1
 have hfit : i * 16 + cs.length ≤ cur.length := by omega
 rw [List.getElem?_set] at hy
 by_cases hij : i = j
 ·subst hij
  rw [if_pos rfl, if_pos hi] at hy
  obtain rfl := Option.some.inj hy
  have := splice_in cur cs (i * 16) hfit
  rw [hl] at this
  rw [this]
  exact hm hx
 ·rw [if_neg hij] at hy
  have hji : j < i := by omega
  rw [splice_ahead cur cs (i * 16) (j * 16) 16 (by omega) hfit]
  exact hm (h4 j hji y hy)
theorem nrowF_C {W : World} {g B : Nat} {l : List S50} {cur : List Value} (h : NRowF W g B l.length l cur) (hg : B ≤ g) (hn : l.length < 1000000) : Kd.F k50 W (fun k => B ≤ k) (some ⟨g, 0, none⟩) l.length l := by
 intro W' hW
 refine nrow_C (cur := cur) ⟨?_, h.1.2.1, fun j x hj => ?_⟩ hn
 ·rw [hW g hg (blk_lt h.1.1)]; exact h.1.1
 ·have hjl : j < l.length := (List.getElem?_eq_some_iff.1 hj).1
  exact (Kd.FK_step (h.2 j hjl x hj) (fun k hk hlt => hW k hk.1 hlt)).mono fun k hk => hk.2
theorem nrowF_below {W W' : World} {g B i : Nat} {l : List S50} {cur : List Value} (h : NRowF W g B i l cur) (hb : Below W.heap.size W W') : NRowF W' g B i l cur := ⟨nrow_below h.1 hb, fun j hj x hx => Kd.FK_below (h.2 j hj x hx) hb⟩
set_option maxHeartbeats 4000000 in
set_option maxRecDepth 100000 in
theorem twins_cF (l : List S50) (A : Option Addr) (c : Nat) (w : World) (hC : Kd.C k50 w A l.length l) (hc : l.length ≤ c) (hn : l.length < 1000000) (hF : ∀ n ∈ l, Fits n) :
  Calls Tryz.prog 49 #[.slice A l.length c] w fun e w' => ∃ g cs, e = .returned (.slice (some ⟨g, 0, none⟩) l.length l.length) ∧ w.heap.size ≤ g ∧ cs.length = l.length * 16 ∧ NRowF w' g w.heap.size l.length l cs ∧ Below w.heap.size w w' := by
 have HF := Lib.hid hF
 have hmk := make50 w l.length hn
 by_cases h0 : l.length = 0
 ·have hl0 : l = [] := List.eq_nil_of_length_eq_zero h0
  subst hl0
  have hmk0 : (Instr.makeSlice 27 (.int .i64 0) (.int .i64 0)).run Tryz.prog w = .ok (.slice (some ⟨w.heap.size, 0, none⟩) 0 0) (w.alloc (.cells #[] 36)) := by
   have e : madeCells zero50 0 = #[] := by first | rfl | (apply Array.eq_empty_of_size_eq_zero; exact size_madeCells _ _)
   have h := make50 w 0 (by omega)
   rw [Nat.zero_mul, e] at h
   exact h
  have hcp : ∀ (ty : TypeId), (Builtin.copy_ #[27, 27] ty #[.slice (some ⟨w.heap.size, 0, none⟩) 0 0, .slice A 0 c]).run Tryz.prog (w.alloc (.cells #[] 36)) = .ok (goInt 0) (w.alloc (.cells #[] 36)) := fun ty => copy50_none (by rfl) ty
  clear hmk
  go_enter Tryz.func49, Tryz.ntmps49
  go_wp2_with (at_builtin; refine wpList_copy_runI _ rfl _ _ 42 42 rfl _ _ rfl rfl (hcp _) ?_)
  go_loopg [14] 0 (fun k s14 wr => s14 = .int .i64 0 ∧ wr = w.alloc (.cells #[] 36))
  case atStart => exact ⟨rfl, rfl⟩
  case round =>
   obtain ⟨rfl, rfl⟩ := hrel
   go_wp2
   go_ret
   exact ⟨_, [], rfl, Nat.le_refl _, rfl, ⟨⟨blk_new _ _, Nat.le_refl _, fun j x hj => by simp at hj⟩, fun j hj => absurd hj (Nat.not_lt_zero _)⟩, below_alloc (Below.refl _ _) _⟩
 ·obtain ⟨ad, hA, _⟩ := hC.2.2 (by omega)
  subst hA
  obtain ⟨inner, hr, hcell⟩ := ReadsRow.inner_ hC
  have hil : inner.length = l.length * 16 := hr.1
  have HR := Lib.hid hr
  have hmm : Nat.min l.length l.length = l.length := Nat.min_self _
  have hml : (madeCells zero50 (l.length * 16)).toList.length = l.length * 16 := by rw [Array.length_toList, size_madeCells]
  have HB0 := Lib.hid (below_alloc (Below.refl w.heap.size w) (.cells (madeCells zero50 (l.length * 16)) 36))
  have HG0 := Lib.hid (blk_new w (.cells (madeCells zero50 (l.length * 16)) 36))
  have hcp : ∀ ty : TypeId, (Builtin.copy_ #[27, 27] ty #[.slice (some ⟨w.heap.size, 0, none⟩) l.length l.length, .slice (some ad) l.length c]).run Tryz.prog (w.alloc (.cells (madeCells zero50 (l.length * 16)) 36)) = .ok (goInt l.length) ((w.alloc (.cells (madeCells zero50 (l.length * 16)) 36)).setRow w.heap.size inner.toArray) := fun ty => by
   have h := copy50 (o := 0) (cur := (madeCells zero50 (l.length * 16)).toList) (cs := inner) (dLen := l.length) (dCap := l.length) (sLen := l.length) (sCap := c) (a := ad) (by rw [Array.toArray_toList]; exact HG0.out) (by rw [hil, hmm]) (fun j v hj => pw_cell_below HB0.out (hcell j v hj)) (by omega) (fun u hu => by
    obtain ⟨j, hj⟩ := List.getElem?_of_mem hu
    exact Reps_one hr u hu) ty
   rw [hmm, splice_all _ _ (by omega)] at h
   exact h
  have HB1 := Lib.hid (below_setRow HB0.out (Nat.le_refl w.heap.size) inner.toArray)
  have HG1 := Lib.hid (setRow_heap _ _ _ inner.toArray _ _ HG0.out)
  go_enter Tryz.func49, Tryz.ntmps49
  go_wp2_with (at_builtin; refine wpList_copy_runI _ rfl _ _ 42 42 rfl _ _ rfl rfl (hcp _) ?_)
  have HN1 := Lib.hid (nrow_copied HR.out HB1.out (Nat.le_refl _) HG1.out)
  generalize ((w.alloc (.cells (madeCells zero50 (l.length * 16)) 36)).setRow w.heap.size inner.toArray) = V at HB1 HN1 ⊢
  clear hcp hmk HG1 HG0 HB0 hcell HR hr
  go_loopg [14] l.length (fun k s14 wr => ∃ (i : Nat) (cur : List Value), i ≤ l.length ∧ l.length - i ≤ k ∧ s14 = .int .i64 i ∧ cur.length = l.length * 16 ∧ Hid (NRowF wr w.heap.size w.heap.size i l cur) ∧ Hid (Below w.heap.size w wr))
  case atStart => exact ⟨0, inner, Nat.zero_le _, Nat.le_refl _, rfl, hil, Lib.hid ⟨HN1.out, fun j hj => absurd hj (Nat.not_lt_zero _)⟩, HB1⟩
  case round =>
   clear HN1 HB1
   obtain ⟨i, cur, hi, hik, rfl, hcl, HNF, HB⟩ := hrel
   have HN := Lib.hid HNF.out.1
   have HP := Lib.hid HNF.out.2
   obtain ⟨W0, hW⟩ : ∃ W, W = wr := ⟨_, rfl⟩
   subst hW
   by_cases hlt : i < l.length
   ·have hx : l[i]? = some (l[i]'hlt) := List.getElem?_eq_getElem hlt
    have hfk := HN.out.2.2 i _ hx
    have hfit := HF.out _ (List.getElem_mem (l := l) (n := i) hlt)
    have hset : l.set i (l[i]'hlt) = l := List.set_getElem_self hlt
    generalize (l[i]'hlt) = n at hx hfk hfit hset
    obtain ⟨B6, e6, B11, e11, hseg, _⟩ := k50_open (Kd.FK_now hfk)
    have hld := rd50_in (o := i * 16) HN.out.1 (by omega)
    rw [hseg] at hld hfk
    have HFK := Lib.hid hfk
    have HFI := Lib.hid hfit
    have HSET := Lib.hid hset
    have hgl := blk_lt HN.out.1
    clear hseg hfk hfit hset hx
    go_wp2_with (go_at_call 70; go_loud (refine (twin_c n _ _ (Kd.FK_now (HFK.out.step (W1 := W0.alloc (.cells #[.string n.f0, .bool n.f1, .int .i64 n.f2.f0, .int .i64 n.f2.f1, .int .i64 n.f2.f2, .int .i64 n.f2.f3, .slice B6 n.f3.length e6, .int .i64 n.f4.f0, .int .i64 n.f4.f1, .int .i64 n.f4.f2, .int .i64 n.f4.f3, .slice B11 n.f5.length e11, .int .i64 n.f6.f0, .int .i64 n.f6.f1, .int .i64 n.f6.f2, .int .i64 n.f6.f3] 36)) fun k _ hk => heap_alloc_old W0 _ hk)) HFI.out).mono ?_; rintro e w2 ⟨cs2, rfl, hfk2, hb2⟩; have HP2 := Lib.hid (fun j hj x hx => Kd.FK_below (HP.out j hj x hx) (below_step (below_alloc (Below.refl W0.heap.size W0) (.cells #[.string n.f0, .bool n.f1, .int .i64 n.f2.f0, .int .i64 n.f2.f1, .int .i64 n.f2.f2, .int .i64 n.f2.f3, .slice B6 n.f3.length e6, .int .i64 n.f4.f0, .int .i64 n.f4.f1, .int .i64 n.f4.f2, .int .i64 n.f4.f3, .slice B11 n.f5.length e11, .int .i64 n.f6.f0, .int .i64 n.f6.f1, .int .i64 n.f6.f2, .int .i64 n.f6.f3] 36)) hb2)); have HB2 := Lib.hid (below_step HB.out (below_step (below_alloc (Below.refl W0.heap.size W0) (.cells #[.string n.f0, .bool n.f1, .int .i64 n.f2.f0, .int .i64 n.f2.f1, .int .i64 n.f2.f2, .int .i64 n.f2.f3, .slice B6 n.f3.length e6, .int .i64 n.f4.f0, .int .i64 n.f4.f1, .int .i64 n.f4.f2, .int .i64 n.f4.f3, .slice B11 n.f5.length e11, .int .i64 n.f6.f0, .int .i64 n.f6.f1, .int .i64 n.f6.f2, .int .i64 n.f6.f3] 36)) hb2)); have HN2 := Lib.hid (nrow_below HN.out (below_step (below_alloc (Below.refl W0.heap.size W0) (.cells #[.string n.f0, .bool n.f1, .int .i64 n.f2.f0, .int .i64 n.f2.f1, .int .i64 n.f2.f2, .int .i64 n.f2.f3, .slice B6 n.f3.length e6, .int .i64 n.f4.f0, .int .i64 n.f4.f1, .int .i64 n.f4.f2, .int .i64 n.f4.f3, .slice B11 n.f5.length e11, .int .i64 n.f6.f0, .int .i64 n.f6.f1, .int .i64 n.f6.f2, .int .i64 n.f6.f3] 36)) hb2)); have HFK2 := Lib.hid hfk2; have hst := wr50_in (o := i * 16) (cs := cs2.toArray) HN2.out.1 (by omega) (by rw [List.size_toArray]; exact fk_len HFK2.out) (Array.all_eq_true_iff_forall_mem.2 fun v hv => fk_one HFK2.out v (by simpa using hv)); clear hfk2 hb2))
    have hsz : W0.heap.size ≤ (W0.alloc (.cells #[.string n.f0, .bool n.f1, .int .i64 n.f2.f0, .int .i64 n.f2.f1, .int .i64 n.f2.f2, .int .i64 n.f2.f3, .slice B6 n.f3.length e6, .int .i64 n.f4.f0, .int .i64 n.f4.f1, .int .i64 n.f4.f2, .int .i64 n.f4.f3, .slice B11 n.f5.length e11, .int .i64 n.f6.f0, .int .i64 n.f6.f1, .int .i64 n.f6.f2, .int .i64 n.f6.f3] 36)).heap.size := (below_size (below_alloc (Below.refl W0.heap.size W0) (.cells #[.string n.f0, .bool n.f1, .int .i64 n.f2.f0, .int .i64 n.f2.f1, .int .i64 n.f2.f2, .int .i64 n.f2.f3, .slice B6 n.f3.length e6, .int .i64 n.f4.f0, .int .i64 n.f4.f1, .int .i64 n.f4.f2, .int .i64 n.f4.f3, .slice B11 n.f5.length e11, .int .i64 n.f6.f0, .int .i64 n.f6.f1, .int .i64 n.f6.f2, .int .i64 n.f6.f3] 36)))
    have hwz : w.heap.size ≤ W0.heap.size := HB.out.size
    have HN3 := nrowF_set (i := i) (x := n) ⟨HN2.out, HP2.out⟩ hlt (HFK2.out.mono fun k hk => by omega)
    rw [HSET.out] at HN3
    go_roundg (l.length - (i + 1))
    case measure => omega
    case rel => exact ⟨i + 1, _, hlt, Nat.le_refl _, by go_num, by rw [length_splice _ _ _ (by rw [fk_len HFK2.out]; omega)]; exact hcl, Lib.hid HN3, Lib.hid (below_setRow HB2.out (Nat.le_refl _) _)⟩
   ·obtain rfl : i = l.length := by omega
    go_wp2
    go_ret
    exact ⟨_, cur, rfl, Nat.le_refl _, hcl, HNF.out, HB.out⟩
set_option maxHeartbeats 4000000 in
set_option maxRecDepth 100000 in
theorem tdrop0_cF (l : List S50) (p : ByteArray) (A : Option Addr) (c : Nat) (w : World) (hC : Kd.C k50 w A l.length l) (hc : l.length ≤ c) (hn : l.length < 100000) (hR : RisingN l p) (hF : ∀ m ∈ l, Fits m) (h0 : isN l p = false) :
  Calls Tryz.prog 32 #[.slice A l.length c, .string p] w fun e w' => ∃ A' c', e = .returned (.slice A' l.length c') ∧ l.length ≤ c' ∧ Kd.F k50 w' (fun k => w.heap.size ≤ k) A' l.length l ∧ Below w.heap.size w w' := by
 have HTW := Lib.hid fun w1 (hb : Below w.heap.size w w1) => twins_cF l A c w1 (Kd.C_below hC hb) hc (by omega) hF
 have HPL := Lib.hid fun (g : Nat) (w1 : World) (h : Kd.C k50 w1 (some ⟨g, 0, none⟩) l.length l) => placeN l p (some ⟨g, 0, none⟩) l.length w1 h (Nat.le_refl _) (by omega) hR
 clear hC hR hF
 generalize atN l p = i at HPL
 rw [h0] at HPL
 clear h0
 go_enter Tryz.func32, Tryz.ntmps32
 go_wp2_with (first | (go_at_call 49; go_loud (refine (HTW.out _ (Below.refl _ _)).mono ?_; rintro e w1 ⟨g, cur, rfl, hg, hcl, hN, hb⟩; have HN1 := Lib.hid hN; have HG := Lib.hid hg; have HB1 := Lib.hid hb; clear hb hN hg)) | (go_at_call 50; go_loud (refine (HPL.out g _ (nrow_C HN1.out.1 (by omega))).mono ?_; rintro e w2 ⟨rfl, hb⟩; have HN2 := Lib.hid (nrowF_below HN1.out hb); have HB2 := Lib.hid (below_step HB1.out hb); clear hb)))
 go_ret
 exact ⟨some ⟨g, 0, none⟩, _, rfl, Nat.le_refl _, nrowF_C HN2.out HG.out (by omega), HB2.out⟩
end Go.Proofs.YteilkbookcmndaaGreatDoor.C
end
