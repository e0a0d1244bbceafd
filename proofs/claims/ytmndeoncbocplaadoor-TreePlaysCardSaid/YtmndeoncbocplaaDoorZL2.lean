/- Texts that the claim's law stands on, cut down to what it reaches. -/
import Derived.Test.YtmndeoncbocplaaDoorZL
import Derived.Test.YtmndeoncbocplaaDoorZR
import Derived.Test.YtmndeoncbocplaaDoorZF
import Derived.Deep.RegionHeldLaw
import Derived.Deep.RegionHeld3
import Derived.Deep.LoopGhost
set_option linter.unusedVariables false
set_option linter.unusedSimpArgs false
section
set_option linter.unusedVariables false
set_option linter.unusedSimpArgs false
namespace Go.Proofs.YtmndeoncbocplaaDoor.C
open Go.RowKit Go.Proofs.YtmndeoncbocplaaDoor.Q Go.Proofs.YtmndeoncbocplaaDoorW.PrintWords Go.Proofs.YtmndeoncbocplaaDoorW.PrintLast Go.Proofs.YtmndeoncbocplaaDoorW.PrintMore
attribute [local go_sem ↓] rd_at50 wr_at50 al_at50
attribute [local go_sem] rd50_new wr50_new al50
set_option maxHeartbeats 8000000 in
set_option maxRecDepth 1000000 in
theorem rp25 (ad : Addr) (tl cg k : Nat) (p : ByteArray) (ks : List ByteArray) (u0 u1 u2 u3 u4 u5 u6 u7 u8 u10 u11 u12 u13 u14 u15 u17 u18 u19 u20 u21 u22 u23 u24 u25 u26 u27 u28 u29 u30 u31 u32 u33 u34 u35 u36 u37 u38 u39 u40 u41 u42 u43 u44 u45 u46 u47 u48 u49 u50 u51 u52 u53 u54 u55 u56 u57 u58 u59 u60 u61 u62 u63 u64 u65 u66 u67 u68 u69 u70 u71 u72 u73 u74 u75 u76 u77 u78 u79 u80 u81 u82 u83 u84 u85 u86 u87 u88 u89 u90 u91 u92 u93 u94 u95 u96 u97 u98 u99 u100 u101 u102 u103 u104 u105 u106 u107 u108 u109 u110 u111 u112 u113 u114 u115 u116 u117 u118 u119 u120 u121 u122 u123 u124 u125 u126 u127 u128 u129 u130 u131 u132 u133 u134 u135 u136 u137 u138 u139 u140 u141 u142 u143 u144 u145 u146 u147 u148 u149 u150 u151 u152 u153 u154 u155 u156 u157 u158 u159 u160 u161 u162 u163 u164 u165 u166 u167 u168 u169 u170 u171 u172 u173 u174 u175 u176 u177 u178 u179 u180 u181 u182 u183 u184 u185 u186 u187 u188 u189 u190 : Value) (W : World) (Q : Exit → Act → World → Prop)
    (hk : k < tl) (hp : W.cell? (ad.add (k * 16)) = some (.string p))
    (hU : ∀ w1 : World, Below W.heap.size W w1 → Calls Tryd.prog 52 #[.slice (some ad) tl cg, .string p] w1 fun e w' => ∃ U cu, e = .returned (.slice U ks.length cu) ∧ ks.length ≤ cu ∧ Kd.C Kd.string w' U ks.length ks ∧ Below w1.heap.size w1 w')
    (hV : ∀ w1 : World, Below W.heap.size W w1 → Calls Tryd.prog 60 #[.slice (some ad) tl cg, .string p] w1 fun e w' => ∃ U cu, e = .returned (.slice U ks.length cu) ∧ ks.length ≤ cu ∧ Kd.C Kd.string w' U ks.length ks ∧ Below w1.heap.size w1 w')
    (hpost : ∀ (w' : World) (U : Option Addr) (cu : Nat) (V : Option Addr) (cv : Nat) (t132 t133 t134 t135 t136 t137 t138 t139 t140 t141 t142 t143 t144 t145 : Value), ks.length ≤ cu → ks.length ≤ cv → Kd.C Kd.string w' U ks.length ks → Kd.C Kd.string w' V ks.length ks → Below W.heap.size W w' → Q .normal ⟨#[u0, u1, u2, u3, u4, u5, u6, u7, u8, .slice (some ad) tl cg, u10, u11, u12, u13, u14, u15, .int .i64 (k : Int), u17, u18, .slice U ks.length cu, .slice V ks.length cv, u21, u22, u23, u24, u25, u26, u27, u28, u29, u30, u31, u32, u33, u34, u35, u36, u37, u38, u39, u40, u41, u42, u43, u44, u45, u46, u47, u48, u49, u50, u51, u52, u53, u54, u55, u56, u57, u58, u59, u60, u61, u62, u63, u64, u65, u66, u67, u68, u69, u70, u71, u72, u73, u74, u75, u76, u77, u78, u79, u80, u81, u82, u83, u84, u85, u86, u87, u88, u89, u90, u91, u92, u93, u94, u95, u96, u97, u98, u99, u100, u101, u102, u103, u104, u105, u106, u107, u108, u109, u110, u111, u112, u113, u114, u115, u116, u117, u118, u119, u120, u121, u122, u123, u124, u125, u126, u127, u128, u129, u130, u131, t132, t133, t134, t135, t136, t137, t138, t139, t140, t141, t142, t143, t144, t145, u146, u147, u148, u149, u150, u151, u152, u153, u154, u155, u156, u157, u158, u159, u160, u161, u162, u163, u164, u165, u166, u167, u168, u169, u170, u171, u172, u173, u174, u175, u176, u177, u178, u179, u180, u181, u182, u183, u184, u185, u186, u187, u188, u189, u190], []⟩ w') :
    Code.wp Tryd.prog (cReg Tryd.f19 25) Q ⟨#[u0, u1, u2, u3, u4, u5, u6, u7, u8, .slice (some ad) tl cg, u10, u11, u12, u13, u14, u15, .int .i64 (k : Int), u17, u18, u19, u20, u21, u22, u23, u24, u25, u26, u27, u28, u29, u30, u31, u32, u33, u34, u35, u36, u37, u38, u39, u40, u41, u42, u43, u44, u45, u46, u47, u48, u49, u50, u51, u52, u53, u54, u55, u56, u57, u58, u59, u60, u61, u62, u63, u64, u65, u66, u67, u68, u69, u70, u71, u72, u73, u74, u75, u76, u77, u78, u79, u80, u81, u82, u83, u84, u85, u86, u87, u88, u89, u90, u91, u92, u93, u94, u95, u96, u97, u98, u99, u100, u101, u102, u103, u104, u105, u106, u107, u108, u109, u110, u111, u112, u113, u114, u115, u116, u117, u118, u119, u120, u121, u122, u123, u124, u125, u126, u127, u128, u129, u130, u131, u132, u133, u134, u135, u136, u137, u138, u139, u140, u141, u142, u143, u144, u145, u146, u147, u148, u149, u150, u151, u152, u153, u154, u155, u156, u157, u158, u159, u160, u161, u162, u163, u164, u165, u166, u167, u168, u169, u170, u171, u172, u173, u174, u175, u176, u177, u178, u179, u180, u181, u182, u183, u184, u185, u186, u187, u188, u189, u190], []⟩ W := by
  have EP := Lib.hid hp
  have HU := Lib.hid hU
  have HV := Lib.hid hV
  have HPO := Lib.hid hpost
  clear hp hU hV hpost
  have HB := Lib.hid (below_drew1 (Below.refl W.heap.size W))
  conv => arg 2; whnf
  refine wp_region_noPanic ?_
  refine wp_region_held_drew (S := fun W1 => W1.cell? (ad.add (k * 16)) = some (.string p)) (by kernel_rfl) ?_ (fun hHeld => ?_)
  focus ((try dsimp only); exact pw_cell_below HB.out EP.out)
  first
    | (refine take_at 0 132 (v := ?_) rfl rfl (by kernel_rfl) (by kernel_rfl) (by kernel_rfl) (fun _ _ _ h => h) (Or.inl ⟨by rfl, ?_⟩) (by assumption) ?_; rotate_left; focus (intro w hSw; (try dsimp only at hSw); go_simp; try with_reducible rfl))
    | (refine take_at 0 132 (v := undef) rfl rfl (by kernel_rfl) (by kernel_rfl) (by kernel_rfl) (fun _ _ _ h => h) (Or.inr ⟨by rfl, rfl⟩) (by assumption) ?_)
  try simp only [Act.put, List.setIfInBounds_toArray, List.set_cons_zero, List.set_cons_succ]
  first
    | (refine take_at 1 133 (v := ?_) rfl rfl (by kernel_rfl) (by kernel_rfl) (by kernel_rfl) (fun _ _ _ h => h) (Or.inl ⟨by rfl, ?_⟩) (by assumption) ?_; rotate_left; focus (intro w hSw; (try dsimp only at hSw); go_simp; try with_reducible rfl))
    | (refine take_at 1 133 (v := undef) rfl rfl (by kernel_rfl) (by kernel_rfl) (by kernel_rfl) (fun _ _ _ h => h) (Or.inr ⟨by rfl, rfl⟩) (by assumption) ?_)
  try simp only [Act.put, List.setIfInBounds_toArray, List.set_cons_zero, List.set_cons_succ]
  first
    | (refine take_at 2 134 (v := ?_) rfl rfl (by kernel_rfl) (by kernel_rfl) (by kernel_rfl) (fun _ _ _ h => h) (Or.inl ⟨by rfl, ?_⟩) (by assumption) ?_; rotate_left; focus (intro w hSw; (try dsimp only at hSw); go_simp; try with_reducible rfl))
    | (refine take_at 2 134 (v := undef) rfl rfl (by kernel_rfl) (by kernel_rfl) (by kernel_rfl) (fun _ _ _ h => h) (Or.inr ⟨by rfl, rfl⟩) (by assumption) ?_)
  try simp only [Act.put, List.setIfInBounds_toArray, List.set_cons_zero, List.set_cons_succ]
  first
    | (refine take_at 3 135 (v := ?_) rfl rfl (by kernel_rfl) (by kernel_rfl) (by kernel_rfl) (fun _ _ _ h => h) (Or.inl ⟨by rfl, ?_⟩) (by assumption) ?_; rotate_left; focus (intro w hSw; (try dsimp only at hSw); go_simp; try with_reducible rfl))
    | (refine take_at 3 135 (v := undef) rfl rfl (by kernel_rfl) (by kernel_rfl) (by kernel_rfl) (fun _ _ _ h => h) (Or.inr ⟨by rfl, rfl⟩) (by assumption) ?_)
  try simp only [Act.put, List.setIfInBounds_toArray, List.set_cons_zero, List.set_cons_succ]
  first
    | (refine take_at 4 136 (v := ?_) rfl rfl (by kernel_rfl) (by kernel_rfl) (by kernel_rfl) (fun _ _ _ h => h) (Or.inl ⟨by rfl, ?_⟩) (by assumption) ?_; rotate_left; focus (intro w hSw; (try dsimp only at hSw); go_simp; try with_reducible rfl))
    | (refine take_at 4 136 (v := undef) rfl rfl (by kernel_rfl) (by kernel_rfl) (by kernel_rfl) (fun _ _ _ h => h) (Or.inr ⟨by rfl, rfl⟩) (by assumption) ?_)
  try simp only [Act.put, List.setIfInBounds_toArray, List.set_cons_zero, List.set_cons_succ]
  first
    | (refine take_at 5 137 (v := ?_) rfl rfl (by kernel_rfl) (by kernel_rfl) (by kernel_rfl) (fun _ _ _ h => h) (Or.inl ⟨by rfl, ?_⟩) (by assumption) ?_; rotate_left; focus (intro w hSw; (try dsimp only at hSw); go_simp; try with_reducible rfl))
    | (refine take_at 5 137 (v := undef) rfl rfl (by kernel_rfl) (by kernel_rfl) (by kernel_rfl) (fun _ _ _ h => h) (Or.inr ⟨by rfl, rfl⟩) (by assumption) ?_)
  try simp only [Act.put, List.setIfInBounds_toArray, List.set_cons_zero, List.set_cons_succ]
  first
    | (refine take_at 7 139 (v := ?_) rfl rfl (by kernel_rfl) (by kernel_rfl) (by kernel_rfl) (fun _ _ _ h => h) (Or.inl ⟨by rfl, ?_⟩) (by assumption) ?_; rotate_left; focus (intro w hSw; (try dsimp only at hSw); go_simp; try with_reducible rfl))
    | (refine take_at 7 139 (v := undef) rfl rfl (by kernel_rfl) (by kernel_rfl) (by kernel_rfl) (fun _ _ _ h => h) (Or.inr ⟨by rfl, rfl⟩) (by assumption) ?_)
  try simp only [Act.put, List.setIfInBounds_toArray, List.set_cons_zero, List.set_cons_succ]
  first
    | (refine take_at 8 140 (v := ?_) rfl rfl (by kernel_rfl) (by kernel_rfl) (by kernel_rfl) (fun _ _ _ h => h) (Or.inl ⟨by rfl, ?_⟩) (by assumption) ?_; rotate_left; focus (intro w hSw; (try dsimp only at hSw); go_simp; try with_reducible rfl))
    | (refine take_at 8 140 (v := undef) rfl rfl (by kernel_rfl) (by kernel_rfl) (by kernel_rfl) (fun _ _ _ h => h) (Or.inr ⟨by rfl, rfl⟩) (by assumption) ?_)
  try simp only [Act.put, List.setIfInBounds_toArray, List.set_cons_zero, List.set_cons_succ]
  first
    | (refine take_at 9 141 (v := ?_) rfl rfl (by kernel_rfl) (by kernel_rfl) (by kernel_rfl) (fun _ _ _ h => h) (Or.inl ⟨by rfl, ?_⟩) (by assumption) ?_; rotate_left; focus (intro w hSw; (try dsimp only at hSw); go_simp; try with_reducible rfl))
    | (refine take_at 9 141 (v := undef) rfl rfl (by kernel_rfl) (by kernel_rfl) (by kernel_rfl) (fun _ _ _ h => h) (Or.inr ⟨by rfl, rfl⟩) (by assumption) ?_)
  try simp only [Act.put, List.setIfInBounds_toArray, List.set_cons_zero, List.set_cons_succ]
  first
    | (refine take_at 10 142 (v := ?_) rfl rfl (by kernel_rfl) (by kernel_rfl) (by kernel_rfl) (fun _ _ _ h => h) (Or.inl ⟨by rfl, ?_⟩) (by assumption) ?_; rotate_left; focus (intro w hSw; (try dsimp only at hSw); go_simp; try with_reducible rfl))
    | (refine take_at 10 142 (v := undef) rfl rfl (by kernel_rfl) (by kernel_rfl) (by kernel_rfl) (fun _ _ _ h => h) (Or.inr ⟨by rfl, rfl⟩) (by assumption) ?_)
  try simp only [Act.put, List.setIfInBounds_toArray, List.set_cons_zero, List.set_cons_succ]
  first
    | (refine take_at 11 143 (v := ?_) rfl rfl (by kernel_rfl) (by kernel_rfl) (by kernel_rfl) (fun _ _ _ h => h) (Or.inl ⟨by rfl, ?_⟩) (by assumption) ?_; rotate_left; focus (intro w hSw; (try dsimp only at hSw); go_simp; try with_reducible rfl))
    | (refine take_at 11 143 (v := undef) rfl rfl (by kernel_rfl) (by kernel_rfl) (by kernel_rfl) (fun _ _ _ h => h) (Or.inr ⟨by rfl, rfl⟩) (by assumption) ?_)
  try simp only [Act.put, List.setIfInBounds_toArray, List.set_cons_zero, List.set_cons_succ]
  first
    | (refine take_at 12 144 (v := ?_) rfl rfl (by kernel_rfl) (by kernel_rfl) (by kernel_rfl) (fun _ _ _ h => h) (Or.inl ⟨by rfl, ?_⟩) (by assumption) ?_; rotate_left; focus (intro w hSw; (try dsimp only at hSw); go_simp; try with_reducible rfl))
    | (refine take_at 12 144 (v := undef) rfl rfl (by kernel_rfl) (by kernel_rfl) (by kernel_rfl) (fun _ _ _ h => h) (Or.inr ⟨by rfl, rfl⟩) (by assumption) ?_)
  try simp only [Act.put, List.setIfInBounds_toArray, List.set_cons_zero, List.set_cons_succ]
  refine wpAnyH_ready (rs := [6]) (by kernel_rfl) (by simp) ?_
  refine AllReadyH.cons rfl (fun K hK => ?_) ?_
  · go_simp
    go_wp2_with (go_at_call 52; go_loud (refine (HU.out _ HB.out).mono ?_; rintro e wa ⟨U, cu, rfl, hcu, hC, hb⟩; have HCU := Lib.hid hC; have HB := Lib.hid (below_step HB.out hb); clear hb hC))
    refine hK.out _ _ ?_ (fun hHeld => ?_)
    focus ((try dsimp only); exact pw_cell_below HB.out EP.out)
    clear hK K
    refine wpAnyH_ready (rs := [13]) (by kernel_rfl) (by simp) ?_
    refine AllReadyH.cons rfl (fun K hK => ?_) ?_
    · go_simp
      go_wp2_with (go_at_call 60; go_loud (refine (HV.out _ HB.out).mono ?_; rintro e wb ⟨V, cv, rfl, hcv, hC, hb⟩; have HCV := Lib.hid hC; have HCU := Lib.hid (Kd.C_below HCU.out hb); have HB := Lib.hid (below_step HB.out hb); clear hb hC))
      refine hK.out _ _ ?_ (fun hHeld => ?_)
      focus ((try dsimp only); exact pw_cell_below HB.out EP.out)
      clear hK K
      first
        | (refine take_at 14 19 (v := ?_) rfl rfl (by kernel_rfl) (by kernel_rfl) (by kernel_rfl) (fun _ _ _ h => h) (Or.inl ⟨by rfl, ?_⟩) (by assumption) ?_; rotate_left; focus (intro w hSw; (try dsimp only at hSw); go_simp; try with_reducible rfl))
        | (refine take_at 14 19 (v := undef) rfl rfl (by kernel_rfl) (by kernel_rfl) (by kernel_rfl) (fun _ _ _ h => h) (Or.inr ⟨by rfl, rfl⟩) (by assumption) ?_)
      try simp only [Act.put, List.setIfInBounds_toArray, List.set_cons_zero, List.set_cons_succ]
      first
        | (refine take_at 15 20 (v := ?_) rfl rfl (by kernel_rfl) (by kernel_rfl) (by kernel_rfl) (fun _ _ _ h => h) (Or.inl ⟨by rfl, ?_⟩) (by assumption) ?_; rotate_left; focus (intro w hSw; (try dsimp only at hSw); go_simp; try with_reducible rfl))
        | (refine take_at 15 20 (v := undef) rfl rfl (by kernel_rfl) (by kernel_rfl) (by kernel_rfl) (fun _ _ _ h => h) (Or.inr ⟨by rfl, rfl⟩) (by assumption) ?_)
      try simp only [Act.put, List.setIfInBounds_toArray, List.set_cons_zero, List.set_cons_succ]
      refine wpAnyH_done (by kernel_rfl) ?_ _
      refine NoPanic.normal ?_
      exact HPO.out _ U cu V cv _ _ _ _ _ _ _ _ _ _ _ _ _ _ hcu hcv HCU.out HCV.out HB.out
    exact AllReadyH.nil
  exact AllReadyH.nil
set_option maxHeartbeats 8000000 in
set_option maxRecDepth 1000000 in
theorem rp26 (ad : Addr) (U V : Option Addr) (tl cg k g ul cu cv : Nat) (ca cb : List Value) (u0 u1 u2 u3 u4 u5 u6 u7 u8 u10 u11 u12 u13 u14 u15 u21 u22 u23 u24 u25 u26 u27 u28 u29 u30 u31 u32 u33 u34 u35 u36 u37 u38 u39 u40 u41 u42 u43 u44 u45 u46 u47 u48 u49 u50 u51 u52 u53 u54 u55 u56 u57 u58 u59 u60 u61 u62 u63 u64 u65 u66 u67 u68 u69 u70 u71 u72 u73 u74 u75 u76 u77 u78 u79 u80 u81 u82 u83 u84 u85 u86 u87 u88 u89 u90 u91 u92 u93 u94 u95 u96 u97 u98 u99 u100 u101 u102 u103 u104 u105 u106 u107 u108 u109 u110 u111 u112 u113 u114 u115 u116 u117 u118 u119 u120 u121 u122 u123 u124 u125 u126 u127 u128 u129 u130 u131 u132 u133 u134 u135 u136 u137 u138 u139 u140 u141 u142 u143 u144 u145 u146 u147 u148 u149 u150 u151 u152 u153 u154 u155 u156 u157 u158 u159 u160 u161 u162 u163 u164 u165 u166 u167 u168 u169 u170 u171 u172 u173 u174 u175 u176 u177 u178 u179 u180 u181 u182 u183 u184 u185 u186 u187 u188 u189 u190 : Value) (W : World) (Q : Exit → Act → World → Prop)
    (hk : k < tl) (hra : ∀ W1, Below W.heap.size W W1 → (rdS 50 (.pointer (some ⟨g, 0, none⟩))).run Tryd.prog W1 = .ok (.agg ca.toArray) W1) (hrb : ∀ W1, Below W.heap.size W W1 → (rdS 50 (.pointer (some (ad.add (k * 16))))).run Tryd.prog W1 = .ok (.agg cb.toArray) W1)
    (hs : ∀ w1, Below W.heap.size W w1 → Calls Tryd.prog 42 #[.agg ca.toArray, .agg cb.toArray] w1 fun e w' => e = .returned (.bool true) ∧ Below w1.heap.size w1 w')
    (hpost : ∀ (w' : World) (t146 t147 t148 t149 t150 t151 t152 t153 t154 t155 t156 t157 t158 t159 t160 t161 t162 : Value), Below W.heap.size W w' → Q .normal ⟨#[u0, u1, u2, u3, u4, u5, u6, u7, u8, .slice (some ad) tl cg, u10, u11, u12, u13, u14, u15, .int .i64 (k : Int), .pointer (some ⟨g, 0, none⟩), .bool true, .slice U ul cu, .slice V ul cv, u21, u22, u23, u24, u25, u26, u27, u28, u29, u30, u31, u32, u33, u34, u35, u36, u37, u38, u39, u40, u41, u42, u43, u44, u45, u46, u47, u48, u49, u50, u51, u52, u53, u54, u55, u56, u57, u58, u59, u60, u61, u62, u63, u64, u65, u66, u67, u68, u69, u70, u71, u72, u73, u74, u75, u76, u77, u78, u79, u80, u81, u82, u83, u84, u85, u86, u87, u88, u89, u90, u91, u92, u93, u94, u95, u96, u97, u98, u99, u100, u101, u102, u103, u104, u105, u106, u107, u108, u109, u110, u111, u112, u113, u114, u115, u116, u117, u118, u119, u120, u121, u122, u123, u124, u125, u126, u127, u128, u129, u130, u131, u132, u133, u134, u135, u136, u137, u138, u139, u140, u141, u142, u143, u144, u145, t146, t147, t148, t149, t150, t151, t152, t153, t154, t155, t156, t157, t158, t159, t160, t161, t162, .bool false, u164, u165, u166, u167, u168, u169, u170, u171, u172, u173, u174, u175, u176, u177, u178, u179, u180, u181, u182, u183, u184, u185, u186, u187, u188, u189, u190], []⟩ w') :
    Code.wp Tryd.prog (cReg Tryd.f19 26) Q ⟨#[u0, u1, u2, u3, u4, u5, u6, u7, u8, .slice (some ad) tl cg, u10, u11, u12, u13, u14, u15, .int .i64 (k : Int), .pointer (some ⟨g, 0, none⟩), .bool true, .slice U ul cu, .slice V ul cv, u21, u22, u23, u24, u25, u26, u27, u28, u29, u30, u31, u32, u33, u34, u35, u36, u37, u38, u39, u40, u41, u42, u43, u44, u45, u46, u47, u48, u49, u50, u51, u52, u53, u54, u55, u56, u57, u58, u59, u60, u61, u62, u63, u64, u65, u66, u67, u68, u69, u70, u71, u72, u73, u74, u75, u76, u77, u78, u79, u80, u81, u82, u83, u84, u85, u86, u87, u88, u89, u90, u91, u92, u93, u94, u95, u96, u97, u98, u99, u100, u101, u102, u103, u104, u105, u106, u107, u108, u109, u110, u111, u112, u113, u114, u115, u116, u117, u118, u119, u120, u121, u122, u123, u124, u125, u126, u127, u128, u129, u130, u131, u132, u133, u134, u135, u136, u137, u138, u139, u140, u141, u142, u143, u144, u145, u146, u147, u148, u149, u150, u151, u152, u153, u154, u155, u156, u157, u158, u159, u160, u161, u162, u163, u164, u165, u166, u167, u168, u169, u170, u171, u172, u173, u174, u175, u176, u177, u178, u179, u180, u181, u182, u183, u184, u185, u186, u187, u188, u189, u190], []⟩ W := by
  have HRA := Lib.hid hra
  have HRB := Lib.hid hrb
  have HS := Lib.hid hs
  have HPO := Lib.hid hpost
  clear hra hrb hs hpost
  have HB := Lib.hid (below_drew1 (Below.refl W.heap.size W))
  conv => arg 2; whnf
  refine wp_region_noPanic ?_
  refine wp_region_held_drew (S := fun W1 => (rdS 50 (.pointer (some ⟨g, 0, none⟩))).run Tryd.prog W1 = .ok (.agg ca.toArray) W1 ∧ (rdS 50 (.pointer (some (ad.add (k * 16))))).run Tryd.prog W1 = .ok (.agg cb.toArray) W1) (by kernel_rfl) ?_ (fun hHeld => ?_)
  focus ((try dsimp only); exact ⟨HRA.out _ HB.out, HRB.out _ HB.out⟩)
  first
    | (refine take_at 0 146 (v := ?_) rfl rfl (by kernel_rfl) (by kernel_rfl) (by kernel_rfl) (fun _ _ _ h => h) (Or.inl ⟨by rfl, ?_⟩) (by assumption) ?_; rotate_left; focus (intro w hSw; (try dsimp only at hSw); go_simp; try with_reducible rfl))
    | (refine take_at 0 146 (v := undef) rfl rfl (by kernel_rfl) (by kernel_rfl) (by kernel_rfl) (fun _ _ _ h => h) (Or.inr ⟨by rfl, rfl⟩) (by assumption) ?_)
  try simp only [Act.put, List.setIfInBounds_toArray, List.set_cons_zero, List.set_cons_succ]
  first
    | (refine take_at 1 147 (v := ?_) rfl rfl (by kernel_rfl) (by kernel_rfl) (by kernel_rfl) (fun _ _ _ h => h) (Or.inl ⟨by rfl, ?_⟩) (by assumption) ?_; rotate_left; focus (intro w hSw; (try dsimp only at hSw); go_simp; try with_reducible rfl))
    | (refine take_at 1 147 (v := undef) rfl rfl (by kernel_rfl) (by kernel_rfl) (by kernel_rfl) (fun _ _ _ h => h) (Or.inr ⟨by rfl, rfl⟩) (by assumption) ?_)
  try simp only [Act.put, List.setIfInBounds_toArray, List.set_cons_zero, List.set_cons_succ]
  first
    | (refine take_at 2 148 (v := ?_) rfl rfl (by kernel_rfl) (by kernel_rfl) (by kernel_rfl) (fun _ _ _ h => h) (Or.inl ⟨by rfl, ?_⟩) (by assumption) ?_; rotate_left; focus (intro w hSw; (try dsimp only at hSw); go_simp; try with_reducible rfl))
    | (refine take_at 2 148 (v := undef) rfl rfl (by kernel_rfl) (by kernel_rfl) (by kernel_rfl) (fun _ _ _ h => h) (Or.inr ⟨by rfl, rfl⟩) (by assumption) ?_)
  try simp only [Act.put, List.setIfInBounds_toArray, List.set_cons_zero, List.set_cons_succ]
  first
    | (refine take_at 3 149 (v := ?_) rfl rfl (by kernel_rfl) (by kernel_rfl) (by kernel_rfl) (fun _ _ _ h => h) (Or.inl ⟨by rfl, ?_⟩) (by assumption) ?_; rotate_left; focus (intro w hSw; (try dsimp only at hSw); go_simp; try with_reducible rfl))
    | (refine take_at 3 149 (v := undef) rfl rfl (by kernel_rfl) (by kernel_rfl) (by kernel_rfl) (fun _ _ _ h => h) (Or.inr ⟨by rfl, rfl⟩) (by assumption) ?_)
  try simp only [Act.put, List.setIfInBounds_toArray, List.set_cons_zero, List.set_cons_succ]
  first
    | (refine take_at 4 150 (v := ?_) rfl rfl (by kernel_rfl) (by kernel_rfl) (by kernel_rfl) (fun _ _ _ h => h) (Or.inl ⟨by rfl, ?_⟩) (by assumption) ?_; rotate_left; focus (intro w hSw; (try dsimp only at hSw); go_simp; try with_reducible rfl))
    | (refine take_at 4 150 (v := undef) rfl rfl (by kernel_rfl) (by kernel_rfl) (by kernel_rfl) (fun _ _ _ h => h) (Or.inr ⟨by rfl, rfl⟩) (by assumption) ?_)
  try simp only [Act.put, List.setIfInBounds_toArray, List.set_cons_zero, List.set_cons_succ]
  first
    | (refine take_at 5 151 (v := ?_) rfl rfl (by kernel_rfl) (by kernel_rfl) (by kernel_rfl) (fun _ _ _ h => h) (Or.inl ⟨by rfl, ?_⟩) (by assumption) ?_; rotate_left; focus (intro w hSw; (try dsimp only at hSw); go_simp; try with_reducible rfl))
    | (refine take_at 5 151 (v := undef) rfl rfl (by kernel_rfl) (by kernel_rfl) (by kernel_rfl) (fun _ _ _ h => h) (Or.inr ⟨by rfl, rfl⟩) (by assumption) ?_)
  try simp only [Act.put, List.setIfInBounds_toArray, List.set_cons_zero, List.set_cons_succ]
  first
    | (refine take_at 6 152 (v := ?_) rfl rfl (by kernel_rfl) (by kernel_rfl) (by kernel_rfl) (fun _ _ _ h => h) (Or.inl ⟨by rfl, ?_⟩) (by assumption) ?_; rotate_left; focus (intro w hSw; (try dsimp only at hSw); go_simp; try with_reducible rfl))
    | (refine take_at 6 152 (v := undef) rfl rfl (by kernel_rfl) (by kernel_rfl) (by kernel_rfl) (fun _ _ _ h => h) (Or.inr ⟨by rfl, rfl⟩) (by assumption) ?_)
  try simp only [Act.put, List.setIfInBounds_toArray, List.set_cons_zero, List.set_cons_succ]
  first
    | (refine take_at 7 153 (v := ?_) rfl rfl (by kernel_rfl) (by kernel_rfl) (by kernel_rfl) (fun _ _ _ h => h) (Or.inl ⟨by rfl, ?_⟩) (by assumption) ?_; rotate_left; focus (intro w hSw; (try dsimp only at hSw); go_simp; try with_reducible rfl))
    | (refine take_at 7 153 (v := undef) rfl rfl (by kernel_rfl) (by kernel_rfl) (by kernel_rfl) (fun _ _ _ h => h) (Or.inr ⟨by rfl, rfl⟩) (by assumption) ?_)
  try simp only [Act.put, List.setIfInBounds_toArray, List.set_cons_zero, List.set_cons_succ]
  refine wpAnyH_ready (rs := [8]) (by kernel_rfl) (by simp) ?_
  refine AllReadyH.cons rfl (fun K hK => ?_) AllReadyH.nil
  go_simp
  go_wp2_with ((go_at_call 42; (refine (HS.out _ HB.out).mono ?_; rintro e w5 ⟨rfl, hb⟩; have HB := Lib.hid (below_step HB.out hb); clear hb)))
  refine hK.out _ _ ?_ (fun hHeld => ?_)
  focus ((try dsimp only); exact ⟨HRA.out _ HB.out, HRB.out _ HB.out⟩)
  clear hK K
  first
    | (refine take_at 9 155 (v := ?_) rfl rfl (by kernel_rfl) (by kernel_rfl) (by kernel_rfl) (fun _ _ _ h => h) (Or.inl ⟨by rfl, ?_⟩) (by assumption) ?_; rotate_left; focus (intro w hSw; (try dsimp only at hSw); go_simp; try with_reducible rfl))
    | (refine take_at 9 155 (v := undef) rfl rfl (by kernel_rfl) (by kernel_rfl) (by kernel_rfl) (fun _ _ _ h => h) (Or.inr ⟨by rfl, rfl⟩) (by assumption) ?_)
  try simp only [Act.put, List.setIfInBounds_toArray, List.set_cons_zero, List.set_cons_succ]
  first
    | (refine take_at 10 156 (v := ?_) rfl rfl (by kernel_rfl) (by kernel_rfl) (by kernel_rfl) (fun _ _ _ h => h) (Or.inl ⟨by rfl, ?_⟩) (by assumption) ?_; rotate_left; focus (intro w hSw; (try dsimp only at hSw); go_simp; try with_reducible rfl))
    | (refine take_at 10 156 (v := undef) rfl rfl (by kernel_rfl) (by kernel_rfl) (by kernel_rfl) (fun _ _ _ h => h) (Or.inr ⟨by rfl, rfl⟩) (by assumption) ?_)
  try simp only [Act.put, List.setIfInBounds_toArray, List.set_cons_zero, List.set_cons_succ]
  first
    | (refine take_at 11 157 (v := ?_) rfl rfl (by kernel_rfl) (by kernel_rfl) (by kernel_rfl) (fun _ _ _ h => h) (Or.inl ⟨by rfl, ?_⟩) (by assumption) ?_; rotate_left; focus (intro w hSw; (try dsimp only at hSw); go_simp; try with_reducible rfl))
    | (refine take_at 11 157 (v := undef) rfl rfl (by kernel_rfl) (by kernel_rfl) (by kernel_rfl) (fun _ _ _ h => h) (Or.inr ⟨by rfl, rfl⟩) (by assumption) ?_)
  try simp only [Act.put, List.setIfInBounds_toArray, List.set_cons_zero, List.set_cons_succ]
  first
    | (refine take_at 12 158 (v := ?_) rfl rfl (by kernel_rfl) (by kernel_rfl) (by kernel_rfl) (fun _ _ _ h => h) (Or.inl ⟨by rfl, ?_⟩) (by assumption) ?_; rotate_left; focus (intro w hSw; (try dsimp only at hSw); go_simp; try with_reducible rfl))
    | (refine take_at 12 158 (v := undef) rfl rfl (by kernel_rfl) (by kernel_rfl) (by kernel_rfl) (fun _ _ _ h => h) (Or.inr ⟨by rfl, rfl⟩) (by assumption) ?_)
  try simp only [Act.put, List.setIfInBounds_toArray, List.set_cons_zero, List.set_cons_succ]
  first
    | (refine take_at 13 159 (v := ?_) rfl rfl (by kernel_rfl) (by kernel_rfl) (by kernel_rfl) (fun _ _ _ h => h) (Or.inl ⟨by rfl, ?_⟩) (by assumption) ?_; rotate_left; focus (intro w hSw; (try dsimp only at hSw); go_simp; try with_reducible rfl))
    | (refine take_at 13 159 (v := undef) rfl rfl (by kernel_rfl) (by kernel_rfl) (by kernel_rfl) (fun _ _ _ h => h) (Or.inr ⟨by rfl, rfl⟩) (by assumption) ?_)
  try simp only [Act.put, List.setIfInBounds_toArray, List.set_cons_zero, List.set_cons_succ]
  first
    | (refine take_at 14 160 (v := ?_) rfl rfl (by kernel_rfl) (by kernel_rfl) (by kernel_rfl) (fun _ _ _ h => h) (Or.inl ⟨by rfl, ?_⟩) (by assumption) ?_; rotate_left; focus (intro w hSw; (try dsimp only at hSw); go_simp; try with_reducible rfl))
    | (refine take_at 14 160 (v := undef) rfl rfl (by kernel_rfl) (by kernel_rfl) (by kernel_rfl) (fun _ _ _ h => h) (Or.inr ⟨by rfl, rfl⟩) (by assumption) ?_)
  try simp only [Act.put, List.setIfInBounds_toArray, List.set_cons_zero, List.set_cons_succ]
  first
    | (refine take_at 15 161 (v := ?_) rfl rfl (by kernel_rfl) (by kernel_rfl) (by kernel_rfl) (fun _ _ _ h => h) (Or.inl ⟨by rfl, ?_⟩) (by assumption) ?_; rotate_left; focus (intro w hSw; (try dsimp only at hSw); go_simp; try with_reducible rfl))
    | (refine take_at 15 161 (v := undef) rfl rfl (by kernel_rfl) (by kernel_rfl) (by kernel_rfl) (fun _ _ _ h => h) (Or.inr ⟨by rfl, rfl⟩) (by assumption) ?_)
  try simp only [Act.put, List.setIfInBounds_toArray, List.set_cons_zero, List.set_cons_succ]
  first
    | (refine take_at 16 162 (v := ?_) rfl rfl (by kernel_rfl) (by kernel_rfl) (by kernel_rfl) (fun _ _ _ h => h) (Or.inl ⟨by rfl, ?_⟩) (by assumption) ?_; rotate_left; focus (intro w hSw; (try dsimp only at hSw); go_simp; try with_reducible rfl))
    | (refine take_at 16 162 (v := undef) rfl rfl (by kernel_rfl) (by kernel_rfl) (by kernel_rfl) (fun _ _ _ h => h) (Or.inr ⟨by rfl, rfl⟩) (by assumption) ?_)
  try simp only [Act.put, List.setIfInBounds_toArray, List.set_cons_zero, List.set_cons_succ]
  first
    | (refine take_at 17 163 (v := ?_) rfl rfl (by kernel_rfl) (by kernel_rfl) (by kernel_rfl) (fun _ _ _ h => h) (Or.inl ⟨by rfl, ?_⟩) (by assumption) ?_; rotate_left; focus (intro w hSw; (try dsimp only at hSw); go_simp; try with_reducible rfl))
    | (refine take_at 17 163 (v := undef) rfl rfl (by kernel_rfl) (by kernel_rfl) (by kernel_rfl) (fun _ _ _ h => h) (Or.inr ⟨by rfl, rfl⟩) (by assumption) ?_)
  try simp only [Act.put, List.setIfInBounds_toArray, List.set_cons_zero, List.set_cons_succ]
  refine wpAnyH_done (by kernel_rfl) ?_ _
  refine NoPanic.normal ?_
  exact HPO.out _ _ _ _ _ _ _ _ _ _ _ _ _ _ _ _ _ _ HB.out
set_option maxHeartbeats 8000000 in
set_option maxRecDepth 1000000 in
theorem rp31 (au av : Addr) (ul cu cv j : Nat) (s : ByteArray) (u0 u1 u2 u3 u4 u5 u6 u7 u8 u9 u10 u11 u12 u13 u14 u15 u16 u17 u18 u22 u23 u24 u25 u26 u27 u28 u29 u30 u31 u32 u33 u34 u35 u36 u37 u38 u39 u40 u41 u42 u43 u44 u45 u46 u47 u48 u49 u50 u51 u52 u53 u54 u55 u56 u57 u58 u59 u60 u61 u62 u63 u64 u65 u66 u67 u68 u69 u70 u71 u72 u73 u74 u75 u76 u77 u78 u79 u80 u81 u82 u83 u84 u85 u86 u87 u88 u89 u90 u91 u92 u93 u94 u95 u96 u97 u98 u99 u100 u101 u102 u103 u104 u105 u106 u107 u108 u109 u110 u111 u112 u113 u114 u115 u116 u117 u118 u119 u120 u121 u122 u123 u124 u125 u126 u127 u128 u129 u130 u131 u132 u133 u134 u135 u136 u137 u138 u139 u140 u141 u142 u143 u144 u145 u146 u147 u148 u149 u150 u151 u152 u153 u154 u155 u156 u157 u158 u159 u160 u161 u162 u163 u164 u165 u166 u167 u168 u169 u170 u171 u172 u173 u174 u175 u176 u177 u178 u179 u180 u181 u182 u183 u184 u185 u186 u187 u188 u189 u190 : Value) (W : World) (Q : Exit → Act → World → Prop)
    (hj : j < ul) (hu : W.cell? (au.add j) = some (.string s)) (hv : W.cell? (av.add j) = some (.string s))
    (hpost : ∀ (w' : World) (t170 t171 t172 t173 t174 t175 t176 t177 : Value), Below W.heap.size W w' → Q .normal ⟨#[u0, u1, u2, u3, u4, u5, u6, u7, u8, u9, u10, u11, u12, u13, u14, u15, u16, u17, u18, .slice (some au) ul cu, .slice (some av) ul cv, .int .i64 (j : Int), u22, u23, u24, u25, u26, u27, u28, u29, u30, u31, u32, u33, u34, u35, u36, u37, u38, u39, u40, u41, u42, u43, u44, u45, u46, u47, u48, u49, u50, u51, u52, u53, u54, u55, u56, u57, u58, u59, u60, u61, u62, u63, u64, u65, u66, u67, u68, u69, u70, u71, u72, u73, u74, u75, u76, u77, u78, u79, u80, u81, u82, u83, u84, u85, u86, u87, u88, u89, u90, u91, u92, u93, u94, u95, u96, u97, u98, u99, u100, u101, u102, u103, u104, u105, u106, u107, u108, u109, u110, u111, u112, u113, u114, u115, u116, u117, u118, u119, u120, u121, u122, u123, u124, u125, u126, u127, u128, u129, u130, u131, u132, u133, u134, u135, u136, u137, u138, u139, u140, u141, u142, u143, u144, u145, u146, u147, u148, u149, u150, u151, u152, u153, u154, u155, u156, u157, u158, u159, u160, u161, u162, u163, u164, u165, u166, u167, u168, u169, t170, t171, t172, t173, t174, t175, t176, t177, .bool false, u179, u180, u181, u182, u183, u184, u185, u186, u187, u188, u189, u190], []⟩ w') :
    Code.wp Tryd.prog (cReg Tryd.f19 31) Q ⟨#[u0, u1, u2, u3, u4, u5, u6, u7, u8, u9, u10, u11, u12, u13, u14, u15, u16, u17, u18, .slice (some au) ul cu, .slice (some av) ul cv, .int .i64 (j : Int), u22, u23, u24, u25, u26, u27, u28, u29, u30, u31, u32, u33, u34, u35, u36, u37, u38, u39, u40, u41, u42, u43, u44, u45, u46, u47, u48, u49, u50, u51, u52, u53, u54, u55, u56, u57, u58, u59, u60, u61, u62, u63, u64, u65, u66, u67, u68, u69, u70, u71, u72, u73, u74, u75, u76, u77, u78, u79, u80, u81, u82, u83, u84, u85, u86, u87, u88, u89, u90, u91, u92, u93, u94, u95, u96, u97, u98, u99, u100, u101, u102, u103, u104, u105, u106, u107, u108, u109, u110, u111, u112, u113, u114, u115, u116, u117, u118, u119, u120, u121, u122, u123, u124, u125, u126, u127, u128, u129, u130, u131, u132, u133, u134, u135, u136, u137, u138, u139, u140, u141, u142, u143, u144, u145, u146, u147, u148, u149, u150, u151, u152, u153, u154, u155, u156, u157, u158, u159, u160, u161, u162, u163, u164, u165, u166, u167, u168, u169, u170, u171, u172, u173, u174, u175, u176, u177, u178, u179, u180, u181, u182, u183, u184, u185, u186, u187, u188, u189, u190], []⟩ W := by
  have EU := Lib.hid hu
  have EV := Lib.hid hv
  have HPO := Lib.hid hpost
  clear hu hv hpost
  have HB := Lib.hid (below_drew1 (Below.refl W.heap.size W))
  have k1 := pw_cell_below HB.out EU.out
  have k2 := pw_cell_below HB.out EV.out
  conv => arg 2; whnf
  refine wp_region_noPanic ?_
  refine wp_region_held_drew (S := fun W1 => W1.cell? (au.add j) = some (.string s) ∧ W1.cell? (av.add j) = some (.string s)) (by kernel_rfl) ?_ (fun hHeld => ?_)
  focus ((try dsimp only); go_keep)
  first
    | (refine take_at 0 170 (v := ?_) rfl rfl (by kernel_rfl) (by kernel_rfl) (by kernel_rfl) (fun _ _ _ h => h) (Or.inl ⟨by rfl, ?_⟩) (by assumption) ?_; rotate_left; focus (intro w hSw; (try dsimp only at hSw); go_simp; try with_reducible rfl))
    | (refine take_at 0 170 (v := undef) rfl rfl (by kernel_rfl) (by kernel_rfl) (by kernel_rfl) (fun _ _ _ h => h) (Or.inr ⟨by rfl, rfl⟩) (by assumption) ?_)
  try simp only [Act.put, List.setIfInBounds_toArray, List.set_cons_zero, List.set_cons_succ]
  first
    | (refine take_at 1 171 (v := ?_) rfl rfl (by kernel_rfl) (by kernel_rfl) (by kernel_rfl) (fun _ _ _ h => h) (Or.inl ⟨by rfl, ?_⟩) (by assumption) ?_; rotate_left; focus (intro w hSw; (try dsimp only at hSw); go_simp; try with_reducible rfl))
    | (refine take_at 1 171 (v := undef) rfl rfl (by kernel_rfl) (by kernel_rfl) (by kernel_rfl) (fun _ _ _ h => h) (Or.inr ⟨by rfl, rfl⟩) (by assumption) ?_)
  try simp only [Act.put, List.setIfInBounds_toArray, List.set_cons_zero, List.set_cons_succ]
  first
    | (refine take_at 2 172 (v := ?_) rfl rfl (by kernel_rfl) (by kernel_rfl) (by kernel_rfl) (fun _ _ _ h => h) (Or.inl ⟨by rfl, ?_⟩) (by assumption) ?_; rotate_left; focus (intro w hSw; (try dsimp only at hSw); go_simp; try with_reducible rfl))
    | (refine take_at 2 172 (v := undef) rfl rfl (by kernel_rfl) (by kernel_rfl) (by kernel_rfl) (fun _ _ _ h => h) (Or.inr ⟨by rfl, rfl⟩) (by assumption) ?_)
  try simp only [Act.put, List.setIfInBounds_toArray, List.set_cons_zero, List.set_cons_succ]
  first
    | (refine take_at 3 173 (v := ?_) rfl rfl (by kernel_rfl) (by kernel_rfl) (by kernel_rfl) (fun _ _ _ h => h) (Or.inl ⟨by rfl, ?_⟩) (by assumption) ?_; rotate_left; focus (intro w hSw; (try dsimp only at hSw); go_simp; try with_reducible rfl))
    | (refine take_at 3 173 (v := undef) rfl rfl (by kernel_rfl) (by kernel_rfl) (by kernel_rfl) (fun _ _ _ h => h) (Or.inr ⟨by rfl, rfl⟩) (by assumption) ?_)
  try simp only [Act.put, List.setIfInBounds_toArray, List.set_cons_zero, List.set_cons_succ]
  first
    | (refine take_at 4 174 (v := ?_) rfl rfl (by kernel_rfl) (by kernel_rfl) (by kernel_rfl) (fun _ _ _ h => h) (Or.inl ⟨by rfl, ?_⟩) (by assumption) ?_; rotate_left; focus (intro w hSw; (try dsimp only at hSw); go_simp; try with_reducible rfl))
    | (refine take_at 4 174 (v := undef) rfl rfl (by kernel_rfl) (by kernel_rfl) (by kernel_rfl) (fun _ _ _ h => h) (Or.inr ⟨by rfl, rfl⟩) (by assumption) ?_)
  try simp only [Act.put, List.setIfInBounds_toArray, List.set_cons_zero, List.set_cons_succ]
  first
    | (refine take_at 5 175 (v := ?_) rfl rfl (by kernel_rfl) (by kernel_rfl) (by kernel_rfl) (fun _ _ _ h => h) (Or.inl ⟨by rfl, ?_⟩) (by assumption) ?_; rotate_left; focus (intro w hSw; (try dsimp only at hSw); go_simp; try with_reducible rfl))
    | (refine take_at 5 175 (v := undef) rfl rfl (by kernel_rfl) (by kernel_rfl) (by kernel_rfl) (fun _ _ _ h => h) (Or.inr ⟨by rfl, rfl⟩) (by assumption) ?_)
  try simp only [Act.put, List.setIfInBounds_toArray, List.set_cons_zero, List.set_cons_succ]
  first
    | (refine take_at 6 176 (v := ?_) rfl rfl (by kernel_rfl) (by kernel_rfl) (by kernel_rfl) (fun _ _ _ h => h) (Or.inl ⟨by rfl, ?_⟩) (by assumption) ?_; rotate_left; focus (intro w hSw; (try dsimp only at hSw); go_simp; try with_reducible rfl))
    | (refine take_at 6 176 (v := undef) rfl rfl (by kernel_rfl) (by kernel_rfl) (by kernel_rfl) (fun _ _ _ h => h) (Or.inr ⟨by rfl, rfl⟩) (by assumption) ?_)
  try simp only [Act.put, List.setIfInBounds_toArray, List.set_cons_zero, List.set_cons_succ]
  first
    | (refine take_at 7 177 (v := ?_) rfl rfl (by kernel_rfl) (by kernel_rfl) (by kernel_rfl) (fun _ _ _ h => h) (Or.inl ⟨by rfl, ?_⟩) (by assumption) ?_; rotate_left; focus (intro w hSw; (try dsimp only at hSw); go_simp; try with_reducible rfl))
    | (refine take_at 7 177 (v := undef) rfl rfl (by kernel_rfl) (by kernel_rfl) (by kernel_rfl) (fun _ _ _ h => h) (Or.inr ⟨by rfl, rfl⟩) (by assumption) ?_)
  try simp only [Act.put, List.setIfInBounds_toArray, List.set_cons_zero, List.set_cons_succ]
  first
    | (refine take_at 8 178 (v := ?_) rfl rfl (by kernel_rfl) (by kernel_rfl) (by kernel_rfl) (fun _ _ _ h => h) (Or.inl ⟨by rfl, ?_⟩) (by assumption) ?_; rotate_left; focus (intro w hSw; (try dsimp only at hSw); go_simp; try with_reducible rfl))
    | (refine take_at 8 178 (v := undef) rfl rfl (by kernel_rfl) (by kernel_rfl) (by kernel_rfl) (fun _ _ _ h => h) (Or.inr ⟨by rfl, rfl⟩) (by assumption) ?_)
  try simp only [Act.put, List.setIfInBounds_toArray, List.set_cons_zero, List.set_cons_succ]
  refine wpAnyH_done (by kernel_rfl) ?_ _
  refine NoPanic.normal ?_
  exact HPO.out _ _ _ _ _ _ _ _ _ HB.out
end Go.Proofs.YtmndeoncbocplaaDoor.C
end
section
set_option linter.unusedVariables false
set_option linter.unusedSimpArgs false
namespace Go.Proofs.YtmndeoncbocplaaDoor.C
open Go.RowKit Go.Proofs.YtmndeoncbocplaaDoor.Q Go.Proofs.YtmndeoncbocplaaDoorW.PrintWords Go.Proofs.YtmndeoncbocplaaDoorW.PrintLast Go.Proofs.YtmndeoncbocplaaDoorW.PrintMore
attribute [local go_sem ↓] rd_at50 wr_at50 al_at50
attribute [local go_sem] rd50_new wr50_new al50
theorem own_setRow {α : Type} {R : α → List Value → Prop} {e t : TypeId} {size base : Nat} {w : World} {v : Value} {xs : List α} {g : Nat} {old : Array Value} (h : OwnRow R e size w base v xs) (hb : w.heap[g]? = some (.cells old t (0, 0))) (ht : e ≠ t) (cs : Array Value) : OwnRow R e size (w.setRow g cs) base v xs := by
  have hne := OwnRow.ne_block h hb ht
  refine OwnRow.other h (row := some g) ⟨rfl, rfl, rfl, by simp [World.setRow], fun k _ hk => setRow_other w g k cs (fun e => hk (by rw [e]))⟩ (Or.inr fun e => hne e.symm)
set_option maxHeartbeats 16000000 in
set_option maxRecDepth 1000000 in
theorem rp9 (gm : Nat) (m : S80) (p : ByteArray) (A0 A6 A11 : Option Addr) (c0 c6 c11 : Nat) (u0 u1 u2 u3 u4 u5 u6 u7 u8 u9 u10 u11 u13 u14 u15 u16 u17 u18 u19 u20 u21 u22 u23 u24 u25 u26 u27 u28 u29 u30 u31 u32 u33 u34 u35 u36 u37 u38 u39 u40 u41 u42 u43 u44 u45 u46 u47 u48 u49 u50 u51 u52 u53 u54 u55 u56 u57 u58 u59 u60 u61 u62 u63 u64 u65 u66 u67 u68 u69 u70 u71 u72 u73 u74 u75 u76 u77 u78 u79 u80 u81 u82 u83 u84 u85 u86 u87 u88 u89 u90 u91 u92 u93 u94 u95 u96 u97 u98 u99 u100 u101 u102 u103 u104 u105 u106 u107 u108 u109 u110 u111 u112 u113 u114 u115 u116 u117 u118 u119 u120 u121 u122 u123 u124 u125 u126 u127 u128 u129 u130 u131 u132 u133 u134 u135 u136 u137 u138 u139 u140 u141 u142 u143 u144 u145 u146 u147 u148 u149 u150 u151 u152 u153 u154 u155 u156 u157 u158 u159 u160 u161 u162 u163 u164 u165 u166 u167 u168 u169 u170 u171 u172 u173 u174 u175 u176 u177 u178 u179 u180 u181 u182 u183 u184 u185 u186 u187 u188 u189 u190 : Value) (W : World) (Q : Exit → Act → World → Prop)
    (hm : W.heap[gm]? = some (.cells #[.slice A0 m.f0.length c0, .bool m.f1, .int .i64 m.f2.f0, .int .i64 m.f2.f1, .int .i64 m.f2.f2, .int .i64 m.f2.f3, .slice A6 m.f3.length c6, .int .i64 m.f4.f0, .int .i64 m.f4.f1, .int .i64 m.f4.f2, .int .i64 m.f4.f3, .slice A11 m.f5.length c11, .int .i64 m.f6.f0, .int .i64 m.f6.f1, .int .i64 m.f6.f2, .int .i64 m.f6.f3] 80 (0, 0)))
    (hOf : ∀ w1 : World, Below W.heap.size W w1 → Calls Tryd.prog 25 #[.slice A0 m.f0.length c0] w1 fun e w' => e = .returned (.string p) ∧ Below w1.heap.size w1 w')
    (hg1 : ∀ w1 : World, Calls Tryd.prog 33 #[.agg #[.int .i64 m.f2.f0, .int .i64 m.f2.f1, .int .i64 m.f2.f2, .int .i64 m.f2.f3]] w1 fun e w' => ∃ g : S41, e = .returned (.agg #[.int .i64 g.f0, .int .i64 g.f1, .int .i64 g.f2, .int .i64 g.f3]) ∧ Lab g ∧ Below w1.heap.size w1 w')
    (hA : ∀ w1 : World, Below W.heap.size W w1 → Calls Tryd.prog 56 #[.slice A6 m.f3.length c6] w1 fun e w' => ∃ v, e = .returned v ∧ ∃ xs, GoodAcl 5 xs ∧ OwnRow (k96.K w1) 96 2 w' w1.heap.size v xs ∧ Below w1.heap.size w1 w')
    (hg2 : ∀ w1 : World, Calls Tryd.prog 33 #[.agg #[.int .i64 m.f6.f0, .int .i64 m.f6.f1, .int .i64 m.f6.f2, .int .i64 m.f6.f3]] w1 fun e w' => ∃ g : S41, e = .returned (.agg #[.int .i64 g.f0, .int .i64 g.f1, .int .i64 g.f2, .int .i64 g.f3]) ∧ Lab g ∧ Below w1.heap.size w1 w')
    (hpost : ∀ (g : Nat) (w' : World) (up yb : S41) (A8 : Option Addr) (c8 : Nat) (xs : List S96) (t46 t47 t48 t49 t50 t51 t52 t53 t54 t55 t56 t57 t58 t59 t60 : Value), Lab up → Lab yb → GoodAcl 5 xs → xs.length ≤ c8 → Kd.C k96 w' A8 xs.length xs → w'.heap[g]? = some (.cells #[.string p, .bool m.f1, .int .i64 up.f0, .int .i64 up.f1, .int .i64 up.f2, .int .i64 up.f3, .slice A8 xs.length c8, .int .i64 0, .int .i64 0, .int .i64 0, .int .i64 0, .slice none 0 0, .int .i64 yb.f0, .int .i64 yb.f1, .int .i64 yb.f2, .int .i64 yb.f3] 50 (0, 0)) → W.heap.size ≤ g → Below W.heap.size W w' → Q .normal ⟨#[u0, u1, u2, u3, u4, u5, u6, u7, u8, u9, u10, u11, .pointer (some ⟨gm, 0, none⟩), .pointer (some ⟨g, 0, none⟩), u14, u15, u16, u17, u18, u19, u20, u21, u22, u23, u24, u25, u26, u27, u28, u29, u30, u31, u32, u33, u34, u35, u36, u37, u38, u39, u40, u41, u42, u43, u44, u45, t46, t47, t48, t49, t50, t51, t52, t53, t54, t55, t56, t57, t58, t59, t60, u61, u62, u63, u64, u65, u66, u67, u68, u69, u70, u71, u72, u73, u74, u75, u76, u77, u78, u79, u80, u81, u82, u83, u84, u85, u86, u87, u88, u89, u90, u91, u92, u93, u94, u95, u96, u97, u98, u99, u100, u101, u102, u103, u104, u105, u106, u107, u108, u109, u110, u111, u112, u113, u114, u115, u116, u117, u118, u119, u120, u121, u122, u123, u124, u125, u126, u127, u128, u129, u130, u131, u132, u133, u134, u135, u136, u137, u138, u139, u140, u141, u142, u143, u144, u145, u146, u147, u148, u149, u150, u151, u152, u153, u154, u155, u156, u157, u158, u159, u160, u161, u162, u163, u164, u165, u166, u167, u168, u169, u170, u171, u172, u173, u174, u175, u176, u177, u178, u179, u180, u181, u182, u183, u184, u185, u186, u187, u188, u189, u190], []⟩ w') :
    Code.wp Tryd.prog (cReg Tryd.f19 9) Q ⟨#[u0, u1, u2, u3, u4, u5, u6, u7, u8, u9, u10, u11, .pointer (some ⟨gm, 0, none⟩), u13, u14, u15, u16, u17, u18, u19, u20, u21, u22, u23, u24, u25, u26, u27, u28, u29, u30, u31, u32, u33, u34, u35, u36, u37, u38, u39, u40, u41, u42, u43, u44, u45, u46, u47, u48, u49, u50, u51, u52, u53, u54, u55, u56, u57, u58, u59, u60, u61, u62, u63, u64, u65, u66, u67, u68, u69, u70, u71, u72, u73, u74, u75, u76, u77, u78, u79, u80, u81, u82, u83, u84, u85, u86, u87, u88, u89, u90, u91, u92, u93, u94, u95, u96, u97, u98, u99, u100, u101, u102, u103, u104, u105, u106, u107, u108, u109, u110, u111, u112, u113, u114, u115, u116, u117, u118, u119, u120, u121, u122, u123, u124, u125, u126, u127, u128, u129, u130, u131, u132, u133, u134, u135, u136, u137, u138, u139, u140, u141, u142, u143, u144, u145, u146, u147, u148, u149, u150, u151, u152, u153, u154, u155, u156, u157, u158, u159, u160, u161, u162, u163, u164, u165, u166, u167, u168, u169, u170, u171, u172, u173, u174, u175, u176, u177, u178, u179, u180, u181, u182, u183, u184, u185, u186, u187, u188, u189, u190], []⟩ W := by
  have EM := Lib.hid hm
  have HOF := Lib.hid hOf
  have HG1 := Lib.hid hg1
  have HA := Lib.hid hA
  have HG2 := Lib.hid hg2
  have HPO := Lib.hid hpost
  clear hm hOf hg1 hA hg2 hpost
  have HB := Lib.hid (below_drew1 (Below.refl W.heap.size W))
  conv => arg 2; whnf
  refine wp_region_noPanic ?_
  refine wp_region_held_drew (S := fun W1 => W1.cell? ⟨gm, 0, none⟩ = some (.slice A0 m.f0.length c0) ∧ W1.cell? ⟨gm, 1, none⟩ = some (.bool m.f1) ∧ W1.cell? ⟨gm, 2, none⟩ = some (.int .i64 m.f2.f0) ∧ W1.cell? ⟨gm, 3, none⟩ = some (.int .i64 m.f2.f1) ∧ W1.cell? ⟨gm, 4, none⟩ = some (.int .i64 m.f2.f2) ∧ W1.cell? ⟨gm, 5, none⟩ = some (.int .i64 m.f2.f3) ∧ W1.cell? ⟨gm, 6, none⟩ = some (.slice A6 m.f3.length c6) ∧ W1.cell? ⟨gm, 12, none⟩ = some (.int .i64 m.f6.f0) ∧ W1.cell? ⟨gm, 13, none⟩ = some (.int .i64 m.f6.f1) ∧ W1.cell? ⟨gm, 14, none⟩ = some (.int .i64 m.f6.f2) ∧ W1.cell? ⟨gm, 15, none⟩ = some (.int .i64 m.f6.f3)) (by kernel_rfl) ?_ (fun hHeld => ?_)
  focus ((try dsimp only); exact ⟨(blk_cell (blk_below EM.out HB.out) 0).trans rfl, (blk_cell (blk_below EM.out HB.out) 1).trans rfl, (blk_cell (blk_below EM.out HB.out) 2).trans rfl, (blk_cell (blk_below EM.out HB.out) 3).trans rfl, (blk_cell (blk_below EM.out HB.out) 4).trans rfl, (blk_cell (blk_below EM.out HB.out) 5).trans rfl, (blk_cell (blk_below EM.out HB.out) 6).trans rfl, (blk_cell (blk_below EM.out HB.out) 12).trans rfl, (blk_cell (blk_below EM.out HB.out) 13).trans rfl, (blk_cell (blk_below EM.out HB.out) 14).trans rfl, (blk_cell (blk_below EM.out HB.out) 15).trans rfl⟩)
  first
    | (refine take_at 0 46 (v := ?_) rfl rfl (by kernel_rfl) (by kernel_rfl) (by kernel_rfl) (fun _ _ _ h => h) (Or.inl ⟨by rfl, ?_⟩) (by assumption) ?_; rotate_left; focus (intro w hSw; (try dsimp only at hSw); go_simp; try with_reducible rfl))
    | (refine take_at 0 46 (v := undef) rfl rfl (by kernel_rfl) (by kernel_rfl) (by kernel_rfl) (fun _ _ _ h => h) (Or.inr ⟨by rfl, rfl⟩) (by assumption) ?_)
  try simp only [Act.put, List.setIfInBounds_toArray, List.set_cons_zero, List.set_cons_succ]
  first
    | (refine take_at 1 47 (v := ?_) rfl rfl (by kernel_rfl) (by kernel_rfl) (by kernel_rfl) (fun _ _ _ h => h) (Or.inl ⟨by rfl, ?_⟩) (by assumption) ?_; rotate_left; focus (intro w hSw; (try dsimp only at hSw); go_simp; try with_reducible rfl))
    | (refine take_at 1 47 (v := undef) rfl rfl (by kernel_rfl) (by kernel_rfl) (by kernel_rfl) (fun _ _ _ h => h) (Or.inr ⟨by rfl, rfl⟩) (by assumption) ?_)
  try simp only [Act.put, List.setIfInBounds_toArray, List.set_cons_zero, List.set_cons_succ]
  first
    | (refine take_at 3 49 (v := ?_) rfl rfl (by kernel_rfl) (by kernel_rfl) (by kernel_rfl) (fun _ _ _ h => h) (Or.inl ⟨by rfl, ?_⟩) (by assumption) ?_; rotate_left; focus (intro w hSw; (try dsimp only at hSw); go_simp; try with_reducible rfl))
    | (refine take_at 3 49 (v := undef) rfl rfl (by kernel_rfl) (by kernel_rfl) (by kernel_rfl) (fun _ _ _ h => h) (Or.inr ⟨by rfl, rfl⟩) (by assumption) ?_)
  try simp only [Act.put, List.setIfInBounds_toArray, List.set_cons_zero, List.set_cons_succ]
  first
    | (refine take_at 4 50 (v := ?_) rfl rfl (by kernel_rfl) (by kernel_rfl) (by kernel_rfl) (fun _ _ _ h => h) (Or.inl ⟨by rfl, ?_⟩) (by assumption) ?_; rotate_left; focus (intro w hSw; (try dsimp only at hSw); go_simp; try with_reducible rfl))
    | (refine take_at 4 50 (v := undef) rfl rfl (by kernel_rfl) (by kernel_rfl) (by kernel_rfl) (fun _ _ _ h => h) (Or.inr ⟨by rfl, rfl⟩) (by assumption) ?_)
  try simp only [Act.put, List.setIfInBounds_toArray, List.set_cons_zero, List.set_cons_succ]
  first
    | (refine take_at 5 51 (v := ?_) rfl rfl (by kernel_rfl) (by kernel_rfl) (by kernel_rfl) (fun _ _ _ h => h) (Or.inl ⟨by rfl, ?_⟩) (by assumption) ?_; rotate_left; focus (intro w hSw; (try dsimp only at hSw); go_simp; try with_reducible rfl))
    | (refine take_at 5 51 (v := undef) rfl rfl (by kernel_rfl) (by kernel_rfl) (by kernel_rfl) (fun _ _ _ h => h) (Or.inr ⟨by rfl, rfl⟩) (by assumption) ?_)
  try simp only [Act.put, List.setIfInBounds_toArray, List.set_cons_zero, List.set_cons_succ]
  first
    | (refine take_at 6 52 (v := ?_) rfl rfl (by kernel_rfl) (by kernel_rfl) (by kernel_rfl) (fun _ _ _ h => h) (Or.inl ⟨by rfl, ?_⟩) (by assumption) ?_; rotate_left; focus (intro w hSw; (try dsimp only at hSw); go_simp; try with_reducible rfl))
    | (refine take_at 6 52 (v := undef) rfl rfl (by kernel_rfl) (by kernel_rfl) (by kernel_rfl) (fun _ _ _ h => h) (Or.inr ⟨by rfl, rfl⟩) (by assumption) ?_)
  try simp only [Act.put, List.setIfInBounds_toArray, List.set_cons_zero, List.set_cons_succ]
  first
    | (refine take_at 8 54 (v := ?_) rfl rfl (by kernel_rfl) (by kernel_rfl) (by kernel_rfl) (fun _ _ _ h => h) (Or.inl ⟨by rfl, ?_⟩) (by assumption) ?_; rotate_left; focus (intro w hSw; (try dsimp only at hSw); go_simp; try with_reducible rfl))
    | (refine take_at 8 54 (v := undef) rfl rfl (by kernel_rfl) (by kernel_rfl) (by kernel_rfl) (fun _ _ _ h => h) (Or.inr ⟨by rfl, rfl⟩) (by assumption) ?_)
  try simp only [Act.put, List.setIfInBounds_toArray, List.set_cons_zero, List.set_cons_succ]
  first
    | (refine take_at 9 55 (v := ?_) rfl rfl (by kernel_rfl) (by kernel_rfl) (by kernel_rfl) (fun _ _ _ h => h) (Or.inl ⟨by rfl, ?_⟩) (by assumption) ?_; rotate_left; focus (intro w hSw; (try dsimp only at hSw); go_simp; try with_reducible rfl))
    | (refine take_at 9 55 (v := undef) rfl rfl (by kernel_rfl) (by kernel_rfl) (by kernel_rfl) (fun _ _ _ h => h) (Or.inr ⟨by rfl, rfl⟩) (by assumption) ?_)
  try simp only [Act.put, List.setIfInBounds_toArray, List.set_cons_zero, List.set_cons_succ]
  first
    | (refine take_at 11 57 (v := ?_) rfl rfl (by kernel_rfl) (by kernel_rfl) (by kernel_rfl) (fun _ _ _ h => h) (Or.inl ⟨by rfl, ?_⟩) (by assumption) ?_; rotate_left; focus (intro w hSw; (try dsimp only at hSw); go_simp; try with_reducible rfl))
    | (refine take_at 11 57 (v := undef) rfl rfl (by kernel_rfl) (by kernel_rfl) (by kernel_rfl) (fun _ _ _ h => h) (Or.inr ⟨by rfl, rfl⟩) (by assumption) ?_)
  try simp only [Act.put, List.setIfInBounds_toArray, List.set_cons_zero, List.set_cons_succ]
  first
    | (refine take_at 12 58 (v := ?_) rfl rfl (by kernel_rfl) (by kernel_rfl) (by kernel_rfl) (fun _ _ _ h => h) (Or.inl ⟨by rfl, ?_⟩) (by assumption) ?_; rotate_left; focus (intro w hSw; (try dsimp only at hSw); go_simp; try with_reducible rfl))
    | (refine take_at 12 58 (v := undef) rfl rfl (by kernel_rfl) (by kernel_rfl) (by kernel_rfl) (fun _ _ _ h => h) (Or.inr ⟨by rfl, rfl⟩) (by assumption) ?_)
  try simp only [Act.put, List.setIfInBounds_toArray, List.set_cons_zero, List.set_cons_succ]
  refine wpAnyH_ready (rs := [2, 15]) (by kernel_rfl) (by simp) ?_
  refine AllReadyH.cons rfl (fun K hK => ?_) ?_
  · go_simp
    go_wp2_with (go_at_call 25; go_loud (refine (HOF.out _ HB.out).mono ?_; rintro e wa ⟨rfl, hb⟩; have HB := Lib.hid (below_step HB.out hb); (try have EZ := Lib.hid (blk_below EZ.out hb)); (try have HOx := Lib.hid (OwnRow.below HOx.out hb)); clear hb))
    refine hK.out _ _ ?_ (fun hHeld => ?_)
    focus ((try dsimp only); exact ⟨(blk_cell (blk_below EM.out HB.out) 0).trans rfl, (blk_cell (blk_below EM.out HB.out) 1).trans rfl, (blk_cell (blk_below EM.out HB.out) 2).trans rfl, (blk_cell (blk_below EM.out HB.out) 3).trans rfl, (blk_cell (blk_below EM.out HB.out) 4).trans rfl, (blk_cell (blk_below EM.out HB.out) 5).trans rfl, (blk_cell (blk_below EM.out HB.out) 6).trans rfl, (blk_cell (blk_below EM.out HB.out) 12).trans rfl, (blk_cell (blk_below EM.out HB.out) 13).trans rfl, (blk_cell (blk_below EM.out HB.out) 14).trans rfl, (blk_cell (blk_below EM.out HB.out) 15).trans rfl⟩)
    clear hK K
    refine wpAnyH_ready (rs := [7, 15]) (by kernel_rfl) (by simp) ?_
    refine AllReadyH.cons rfl (fun K hK => ?_) ?_
    · go_simp
      go_wp2_with (go_at_call 33; go_loud (refine (HG1.out _).mono ?_; rintro e wb ⟨up, rfl, hLg, hb⟩; have HLU := Lib.hid hLg; have HB := Lib.hid (below_step HB.out hb); (try have EZ := Lib.hid (blk_below EZ.out hb)); (try have HOx := Lib.hid (OwnRow.below HOx.out hb)); clear hb hLg))
      refine hK.out _ _ ?_ (fun hHeld => ?_)
      focus ((try dsimp only); exact ⟨(blk_cell (blk_below EM.out HB.out) 0).trans rfl, (blk_cell (blk_below EM.out HB.out) 1).trans rfl, (blk_cell (blk_below EM.out HB.out) 2).trans rfl, (blk_cell (blk_below EM.out HB.out) 3).trans rfl, (blk_cell (blk_below EM.out HB.out) 4).trans rfl, (blk_cell (blk_below EM.out HB.out) 5).trans rfl, (blk_cell (blk_below EM.out HB.out) 6).trans rfl, (blk_cell (blk_below EM.out HB.out) 12).trans rfl, (blk_cell (blk_below EM.out HB.out) 13).trans rfl, (blk_cell (blk_below EM.out HB.out) 14).trans rfl, (blk_cell (blk_below EM.out HB.out) 15).trans rfl⟩)
      clear hK K
      refine wpAnyH_ready (rs := [10, 15]) (by kernel_rfl) (by simp) ?_
      refine AllReadyH.cons rfl (fun K hK => ?_) ?_
      · go_simp
        go_wp2_with (go_at_call 56; go_loud (refine (HA.out _ HB.out).mono ?_; rintro e wc ⟨v, rfl, xs, hga, hown, hb⟩; obtain ⟨A8, c8, rfl, hc8, _⟩ := OwnRow.reads hown; have HGA := Lib.hid hga; have HOx := Lib.hid (OwnRow.lower (own96 (W := W) hown (Nat.le_refl _)) (below_size HB.out)); have HB := Lib.hid (below_step HB.out hb); (try have EZ := Lib.hid (blk_below EZ.out hb)); clear hb hown hga))
        refine hK.out _ _ ?_ (fun hHeld => ?_)
        focus ((try dsimp only); exact ⟨(blk_cell (blk_below EM.out HB.out) 0).trans rfl, (blk_cell (blk_below EM.out HB.out) 1).trans rfl, (blk_cell (blk_below EM.out HB.out) 2).trans rfl, (blk_cell (blk_below EM.out HB.out) 3).trans rfl, (blk_cell (blk_below EM.out HB.out) 4).trans rfl, (blk_cell (blk_below EM.out HB.out) 5).trans rfl, (blk_cell (blk_below EM.out HB.out) 6).trans rfl, (blk_cell (blk_below EM.out HB.out) 12).trans rfl, (blk_cell (blk_below EM.out HB.out) 13).trans rfl, (blk_cell (blk_below EM.out HB.out) 14).trans rfl, (blk_cell (blk_below EM.out HB.out) 15).trans rfl⟩)
        clear hK K
        refine wpAnyH_ready (rs := [13, 15]) (by kernel_rfl) (by simp) ?_
        refine AllReadyH.cons rfl (fun K hK => ?_) ?_
        · go_simp
          go_wp2_with (go_at_call 33; go_loud (refine (HG2.out _).mono ?_; rintro e wd ⟨yb, rfl, hLg, hb⟩; have HLB := Lib.hid hLg; have HB := Lib.hid (below_step HB.out hb); (try have EZ := Lib.hid (blk_below EZ.out hb)); (try have HOx := Lib.hid (OwnRow.below HOx.out hb)); clear hb hLg))
          refine hK.out _ _ ?_ (fun hHeld => ?_)
          focus ((try dsimp only); exact ⟨(blk_cell (blk_below EM.out HB.out) 0).trans rfl, (blk_cell (blk_below EM.out HB.out) 1).trans rfl, (blk_cell (blk_below EM.out HB.out) 2).trans rfl, (blk_cell (blk_below EM.out HB.out) 3).trans rfl, (blk_cell (blk_below EM.out HB.out) 4).trans rfl, (blk_cell (blk_below EM.out HB.out) 5).trans rfl, (blk_cell (blk_below EM.out HB.out) 6).trans rfl, (blk_cell (blk_below EM.out HB.out) 12).trans rfl, (blk_cell (blk_below EM.out HB.out) 13).trans rfl, (blk_cell (blk_below EM.out HB.out) 14).trans rfl, (blk_cell (blk_below EM.out HB.out) 15).trans rfl⟩)
          clear hK K
          first
            | (refine take_at 14 60 (v := ?_) rfl rfl (by kernel_rfl) (by kernel_rfl) (by kernel_rfl) (fun _ _ _ h => h) (Or.inl ⟨by rfl, ?_⟩) (by assumption) ?_; rotate_left; focus (intro w hSw; (try dsimp only at hSw); go_simp; try with_reducible rfl))
            | (refine take_at 14 60 (v := undef) rfl rfl (by kernel_rfl) (by kernel_rfl) (by kernel_rfl) (fun _ _ _ h => h) (Or.inr ⟨by rfl, rfl⟩) (by assumption) ?_)
          try simp only [Act.put, List.setIfInBounds_toArray, List.set_cons_zero, List.set_cons_succ]
          refine wpAnyH_ready (rs := [15]) (by kernel_rfl) (by simp) ?_
          refine AllReadyH.cons rfl (fun K hK => ?_) ?_
          · have EZ := Lib.hid (show (World.alloc wd (.cells #[.string (⟨#[]⟩ : ByteArray), .bool false, .int .i64 0, .int .i64 0, .int .i64 0, .int .i64 0, .slice none 0 0, .int .i64 0, .int .i64 0, .int .i64 0, .int .i64 0, .slice none 0 0, .int .i64 0, .int .i64 0, .int .i64 0, .int .i64 0] 50)).heap[wd.heap.size]? = some (.cells #[.string (⟨#[]⟩ : ByteArray), .bool false, .int .i64 0, .int .i64 0, .int .i64 0, .int .i64 0, .slice none 0 0, .int .i64 0, .int .i64 0, .int .i64 0, .int .i64 0, .slice none 0 0, .int .i64 0, .int .i64 0, .int .i64 0, .int .i64 0] 50) from blk_new wd (.cells #[.string (⟨#[]⟩ : ByteArray), .bool false, .int .i64 0, .int .i64 0, .int .i64 0, .int .i64 0, .slice none 0 0, .int .i64 0, .int .i64 0, .int .i64 0, .int .i64 0, .slice none 0 0, .int .i64 0, .int .i64 0, .int .i64 0, .int .i64 0] 50))
            have HZ := Lib.hid (show W.heap.size ≤ wd.heap.size from (by first | exact Nat.le_refl _ | exact below_size HB.out))
            have HB := Lib.hid (below_alloc HB.out (.cells #[.string (⟨#[]⟩ : ByteArray), .bool false, .int .i64 0, .int .i64 0, .int .i64 0, .int .i64 0, .slice none 0 0, .int .i64 0, .int .i64 0, .int .i64 0, .int .i64 0, .slice none 0 0, .int .i64 0, .int .i64 0, .int .i64 0, .int .i64 0] 50))
            (try have HOx := Lib.hid (OwnRow.below HOx.out (below_alloc (Below.refl wd.heap.size wd) (.cells #[.string (⟨#[]⟩ : ByteArray), .bool false, .int .i64 0, .int .i64 0, .int .i64 0, .int .i64 0, .slice none 0 0, .int .i64 0, .int .i64 0, .int .i64 0, .int .i64 0, .slice none 0 0, .int .i64 0, .int .i64 0, .int .i64 0, .int .i64 0] 50))))
            go_simp
            refine hK.out _ _ ?_ (fun hHeld => ?_)
            focus ((try dsimp only); exact ⟨(blk_cell (blk_below EM.out HB.out) 0).trans rfl, (blk_cell (blk_below EM.out HB.out) 1).trans rfl, (blk_cell (blk_below EM.out HB.out) 2).trans rfl, (blk_cell (blk_below EM.out HB.out) 3).trans rfl, (blk_cell (blk_below EM.out HB.out) 4).trans rfl, (blk_cell (blk_below EM.out HB.out) 5).trans rfl, (blk_cell (blk_below EM.out HB.out) 6).trans rfl, (blk_cell (blk_below EM.out HB.out) 12).trans rfl, (blk_cell (blk_below EM.out HB.out) 13).trans rfl, (blk_cell (blk_below EM.out HB.out) 14).trans rfl, (blk_cell (blk_below EM.out HB.out) 15).trans rfl⟩)
            clear hK K
            refine wpAnyH_ready (rs := [16]) (by kernel_rfl) (by simp) ?_
            refine AllReadyH.cons rfl (fun K hK => ?_) ?_
            · have hst := wr50_blk (cs := #[.string p, .bool m.f1, .int .i64 up.f0, .int .i64 up.f1, .int .i64 up.f2, .int .i64 up.f3, .slice A8 xs.length c8, .int .i64 0, .int .i64 0, .int .i64 0, .int .i64 0, .slice none 0 0, .int .i64 yb.f0, .int .i64 yb.f1, .int .i64 yb.f2, .int .i64 yb.f3]) EZ.out rfl rfl (by simp [Value.oneCell'])
              have EX := Lib.hid (setRow_heap _ _ _ (#[.string p, .bool m.f1, .int .i64 up.f0, .int .i64 up.f1, .int .i64 up.f2, .int .i64 up.f3, .slice A8 xs.length c8, .int .i64 0, .int .i64 0, .int .i64 0, .int .i64 0, .slice none 0 0, .int .i64 yb.f0, .int .i64 yb.f1, .int .i64 yb.f2, .int .i64 yb.f3] : Array Value) _ _ EZ.out)
              have HOx := Lib.hid (own_setRow HOx.out EZ.out (by decide) (#[.string p, .bool m.f1, .int .i64 up.f0, .int .i64 up.f1, .int .i64 up.f2, .int .i64 up.f3, .slice A8 xs.length c8, .int .i64 0, .int .i64 0, .int .i64 0, .int .i64 0, .slice none 0 0, .int .i64 yb.f0, .int .i64 yb.f1, .int .i64 yb.f2, .int .i64 yb.f3] : Array Value))
              have HB := Lib.hid (below_setRow HB.out HZ.out (#[.string p, .bool m.f1, .int .i64 up.f0, .int .i64 up.f1, .int .i64 up.f2, .int .i64 up.f3, .slice A8 xs.length c8, .int .i64 0, .int .i64 0, .int .i64 0, .int .i64 0, .slice none 0 0, .int .i64 yb.f0, .int .i64 yb.f1, .int .i64 yb.f2, .int .i64 yb.f3] : Array Value))
              go_simp
              refine hK.out _ _ ?_ (fun hHeld => ?_)
              focus ((try dsimp only); exact ⟨(blk_cell (blk_below EM.out HB.out) 0).trans rfl, (blk_cell (blk_below EM.out HB.out) 1).trans rfl, (blk_cell (blk_below EM.out HB.out) 2).trans rfl, (blk_cell (blk_below EM.out HB.out) 3).trans rfl, (blk_cell (blk_below EM.out HB.out) 4).trans rfl, (blk_cell (blk_below EM.out HB.out) 5).trans rfl, (blk_cell (blk_below EM.out HB.out) 6).trans rfl, (blk_cell (blk_below EM.out HB.out) 12).trans rfl, (blk_cell (blk_below EM.out HB.out) 13).trans rfl, (blk_cell (blk_below EM.out HB.out) 14).trans rfl, (blk_cell (blk_below EM.out HB.out) 15).trans rfl⟩)
              clear hK K
              refine wpAnyH_done (by kernel_rfl) ?_ _
              refine NoPanic.normal ?_
              exact HPO.out _ _ up yb A8 c8 xs _ _ _ _ _ _ _ _ _ _ _ _ _ _ _ HLU.out HLB.out HGA.out hc8 (C96_own HOx.out) EX.out HZ.out HB.out
            exact AllReadyH.nil
          exact AllReadyH.nil
        refine AllReadyH.cons rfl (fun K hK => ?_) ?_
        · have EZ := Lib.hid (show (World.alloc wc (.cells #[.string (⟨#[]⟩ : ByteArray), .bool false, .int .i64 0, .int .i64 0, .int .i64 0, .int .i64 0, .slice none 0 0, .int .i64 0, .int .i64 0, .int .i64 0, .int .i64 0, .slice none 0 0, .int .i64 0, .int .i64 0, .int .i64 0, .int .i64 0] 50)).heap[wc.heap.size]? = some (.cells #[.string (⟨#[]⟩ : ByteArray), .bool false, .int .i64 0, .int .i64 0, .int .i64 0, .int .i64 0, .slice none 0 0, .int .i64 0, .int .i64 0, .int .i64 0, .int .i64 0, .slice none 0 0, .int .i64 0, .int .i64 0, .int .i64 0, .int .i64 0] 50) from blk_new wc (.cells #[.string (⟨#[]⟩ : ByteArray), .bool false, .int .i64 0, .int .i64 0, .int .i64 0, .int .i64 0, .slice none 0 0, .int .i64 0, .int .i64 0, .int .i64 0, .int .i64 0, .slice none 0 0, .int .i64 0, .int .i64 0, .int .i64 0, .int .i64 0] 50))
          have HZ := Lib.hid (show W.heap.size ≤ wc.heap.size from (by first | exact Nat.le_refl _ | exact below_size HB.out))
          have HB := Lib.hid (below_alloc HB.out (.cells #[.string (⟨#[]⟩ : ByteArray), .bool false, .int .i64 0, .int .i64 0, .int .i64 0, .int .i64 0, .slice none 0 0, .int .i64 0, .int .i64 0, .int .i64 0, .int .i64 0, .slice none 0 0, .int .i64 0, .int .i64 0, .int .i64 0, .int .i64 0] 50))
          (try have HOx := Lib.hid (OwnRow.below HOx.out (below_alloc (Below.refl wc.heap.size wc) (.cells #[.string (⟨#[]⟩ : ByteArray), .bool false, .int .i64 0, .int .i64 0, .int .i64 0, .int .i64 0, .slice none 0 0, .int .i64 0, .int .i64 0, .int .i64 0, .int .i64 0, .slice none 0 0, .int .i64 0, .int .i64 0, .int .i64 0, .int .i64 0] 50))))
          go_simp
          refine hK.out _ _ ?_ (fun hHeld => ?_)
          focus ((try dsimp only); exact ⟨(blk_cell (blk_below EM.out HB.out) 0).trans rfl, (blk_cell (blk_below EM.out HB.out) 1).trans rfl, (blk_cell (blk_below EM.out HB.out) 2).trans rfl, (blk_cell (blk_below EM.out HB.out) 3).trans rfl, (blk_cell (blk_below EM.out HB.out) 4).trans rfl, (blk_cell (blk_below EM.out HB.out) 5).trans rfl, (blk_cell (blk_below EM.out HB.out) 6).trans rfl, (blk_cell (blk_below EM.out HB.out) 12).trans rfl, (blk_cell (blk_below EM.out HB.out) 13).trans rfl, (blk_cell (blk_below EM.out HB.out) 14).trans rfl, (blk_cell (blk_below EM.out HB.out) 15).trans rfl⟩)
          clear hK K
          refine wpAnyH_ready (rs := [13]) (by kernel_rfl) (by simp) ?_
          refine AllReadyH.cons rfl (fun K hK => ?_) ?_
          · go_simp
            go_wp2_with (go_at_call 33; go_loud (refine (HG2.out _).mono ?_; rintro e wd ⟨yb, rfl, hLg, hb⟩; have HLB := Lib.hid hLg; have HB := Lib.hid (below_step HB.out hb); (try have EZ := Lib.hid (blk_below EZ.out hb)); (try have HOx := Lib.hid (OwnRow.below HOx.out hb)); clear hb hLg))
            refine hK.out _ _ ?_ (fun hHeld => ?_)
            focus ((try dsimp only); exact ⟨(blk_cell (blk_below EM.out HB.out) 0).trans rfl, (blk_cell (blk_below EM.out HB.out) 1).trans rfl, (blk_cell (blk_below EM.out HB.out) 2).trans rfl, (blk_cell (blk_below EM.out HB.out) 3).trans rfl, (blk_cell (blk_below EM.out HB.out) 4).trans rfl, (blk_cell (blk_below EM.out HB.out) 5).trans rfl, (blk_cell (blk_below EM.out HB.out) 6).trans rfl, (blk_cell (blk_below EM.out HB.out) 12).trans rfl, (blk_cell (blk_below EM.out HB.out) 13).trans rfl, (blk_cell (blk_below EM.out HB.out) 14).trans rfl, (blk_cell (blk_below EM.out HB.out) 15).trans rfl⟩)
            clear hK K
            first
              | (refine take_at 14 60 (v := ?_) rfl rfl (by kernel_rfl) (by kernel_rfl) (by kernel_rfl) (fun _ _ _ h => h) (Or.inl ⟨by rfl, ?_⟩) (by assumption) ?_; rotate_left; focus (intro w hSw; (try dsimp only at hSw); go_simp; try with_reducible rfl))
              | (refine take_at 14 60 (v := undef) rfl rfl (by kernel_rfl) (by kernel_rfl) (by kernel_rfl) (fun _ _ _ h => h) (Or.inr ⟨by rfl, rfl⟩) (by assumption) ?_)
            try simp only [Act.put, List.setIfInBounds_toArray, List.set_cons_zero, List.set_cons_succ]
            refine wpAnyH_ready (rs := [16]) (by kernel_rfl) (by simp) ?_
            refine AllReadyH.cons rfl (fun K hK => ?_) ?_
            · have hst := wr50_blk (cs := #[.string p, .bool m.f1, .int .i64 up.f0, .int .i64 up.f1, .int .i64 up.f2, .int .i64 up.f3, .slice A8 xs.length c8, .int .i64 0, .int .i64 0, .int .i64 0, .int .i64 0, .slice none 0 0, .int .i64 yb.f0, .int .i64 yb.f1, .int .i64 yb.f2, .int .i64 yb.f3]) EZ.out rfl rfl (by simp [Value.oneCell'])
              have EX := Lib.hid (setRow_heap _ _ _ (#[.string p, .bool m.f1, .int .i64 up.f0, .int .i64 up.f1, .int .i64 up.f2, .int .i64 up.f3, .slice A8 xs.length c8, .int .i64 0, .int .i64 0, .int .i64 0, .int .i64 0, .slice none 0 0, .int .i64 yb.f0, .int .i64 yb.f1, .int .i64 yb.f2, .int .i64 yb.f3] : Array Value) _ _ EZ.out)
              have HOx := Lib.hid (own_setRow HOx.out EZ.out (by decide) (#[.string p, .bool m.f1, .int .i64 up.f0, .int .i64 up.f1, .int .i64 up.f2, .int .i64 up.f3, .slice A8 xs.length c8, .int .i64 0, .int .i64 0, .int .i64 0, .int .i64 0, .slice none 0 0, .int .i64 yb.f0, .int .i64 yb.f1, .int .i64 yb.f2, .int .i64 yb.f3] : Array Value))
              have HB := Lib.hid (below_setRow HB.out HZ.out (#[.string p, .bool m.f1, .int .i64 up.f0, .int .i64 up.f1, .int .i64 up.f2, .int .i64 up.f3, .slice A8 xs.length c8, .int .i64 0, .int .i64 0, .int .i64 0, .int .i64 0, .slice none 0 0, .int .i64 yb.f0, .int .i64 yb.f1, .int .i64 yb.f2, .int .i64 yb.f3] : Array Value))
              go_simp
              refine hK.out _ _ ?_ (fun hHeld => ?_)
              focus ((try dsimp only); exact ⟨(blk_cell (blk_below EM.out HB.out) 0).trans rfl, (blk_cell (blk_below EM.out HB.out) 1).trans rfl, (blk_cell (blk_below EM.out HB.out) 2).trans rfl, (blk_cell (blk_below EM.out HB.out) 3).trans rfl, (blk_cell (blk_below EM.out HB.out) 4).trans rfl, (blk_cell (blk_below EM.out HB.out) 5).trans rfl, (blk_cell (blk_below EM.out HB.out) 6).trans rfl, (blk_cell (blk_below EM.out HB.out) 12).trans rfl, (blk_cell (blk_below EM.out HB.out) 13).trans rfl, (blk_cell (blk_below EM.out HB.out) 14).trans rfl, (blk_cell (blk_below EM.out HB.out) 15).trans rfl⟩)
              clear hK K
              refine wpAnyH_done (by kernel_rfl) ?_ _
              refine NoPanic.normal ?_
              exact HPO.out _ _ up yb A8 c8 xs _ _ _ _ _ _ _ _ _ _ _ _ _ _ _ HLU.out HLB.out HGA.out hc8 (C96_own HOx.out) EX.out HZ.out HB.out
            exact AllReadyH.nil
          exact AllReadyH.nil
        exact AllReadyH.nil
      refine AllReadyH.cons rfl (fun K hK => ?_) ?_
      · have EZ := Lib.hid (show (World.alloc wb (.cells #[.string (⟨#[]⟩ : ByteArray), .bool false, .int .i64 0, .int .i64 0, .int .i64 0, .int .i64 0, .slice none 0 0, .int .i64 0, .int .i64 0, .int .i64 0, .int .i64 0, .slice none 0 0, .int .i64 0, .int .i64 0, .int .i64 0, .int .i64 0] 50)).heap[wb.heap.size]? = some (.cells #[.string (⟨#[]⟩ : ByteArray), .bool false, .int .i64 0, .int .i64 0, .int .i64 0, .int .i64 0, .slice none 0 0, .int .i64 0, .int .i64 0, .int .i64 0, .int .i64 0, .slice none 0 0, .int .i64 0, .int .i64 0, .int .i64 0, .int .i64 0] 50) from blk_new wb (.cells #[.string (⟨#[]⟩ : ByteArray), .bool false, .int .i64 0, .int .i64 0, .int .i64 0, .int .i64 0, .slice none 0 0, .int .i64 0, .int .i64 0, .int .i64 0, .int .i64 0, .slice none 0 0, .int .i64 0, .int .i64 0, .int .i64 0, .int .i64 0] 50))
        have HZ := Lib.hid (show W.heap.size ≤ wb.heap.size from (by first | exact Nat.le_refl _ | exact below_size HB.out))
        have HB := Lib.hid (below_alloc HB.out (.cells #[.string (⟨#[]⟩ : ByteArray), .bool false, .int .i64 0, .int .i64 0, .int .i64 0, .int .i64 0, .slice none 0 0, .int .i64 0, .int .i64 0, .int .i64 0, .int .i64 0, .slice none 0 0, .int .i64 0, .int .i64 0, .int .i64 0, .int .i64 0] 50))
        (try have HOx := Lib.hid (OwnRow.below HOx.out (below_alloc (Below.refl wb.heap.size wb) (.cells #[.string (⟨#[]⟩ : ByteArray), .bool false, .int .i64 0, .int .i64 0, .int .i64 0, .int .i64 0, .slice none 0 0, .int .i64 0, .int .i64 0, .int .i64 0, .int .i64 0, .slice none 0 0, .int .i64 0, .int .i64 0, .int .i64 0, .int .i64 0] 50))))
        go_simp
        refine hK.out _ _ ?_ (fun hHeld => ?_)
        focus ((try dsimp only); exact ⟨(blk_cell (blk_below EM.out HB.out) 0).trans rfl, (blk_cell (blk_below EM.out HB.out) 1).trans rfl, (blk_cell (blk_below EM.out HB.out) 2).trans rfl, (blk_cell (blk_below EM.out HB.out) 3).trans rfl, (blk_cell (blk_below EM.out HB.out) 4).trans rfl, (blk_cell (blk_below EM.out HB.out) 5).trans rfl, (blk_cell (blk_below EM.out HB.out) 6).trans rfl, (blk_cell (blk_below EM.out HB.out) 12).trans rfl, (blk_cell (blk_below EM.out HB.out) 13).trans rfl, (blk_cell (blk_below EM.out HB.out) 14).trans rfl, (blk_cell (blk_below EM.out HB.out) 15).trans rfl⟩)
        clear hK K
        refine wpAnyH_ready (rs := [10]) (by kernel_rfl) (by simp) ?_
        refine AllReadyH.cons rfl (fun K hK => ?_) ?_
        · go_simp
          go_wp2_with (go_at_call 56; go_loud (refine (HA.out _ HB.out).mono ?_; rintro e wc ⟨v, rfl, xs, hga, hown, hb⟩; obtain ⟨A8, c8, rfl, hc8, _⟩ := OwnRow.reads hown; have HGA := Lib.hid hga; have HOx := Lib.hid (OwnRow.lower (own96 (W := W) hown (Nat.le_refl _)) (below_size HB.out)); have HB := Lib.hid (below_step HB.out hb); (try have EZ := Lib.hid (blk_below EZ.out hb)); clear hb hown hga))
          refine hK.out _ _ ?_ (fun hHeld => ?_)
          focus ((try dsimp only); exact ⟨(blk_cell (blk_below EM.out HB.out) 0).trans rfl, (blk_cell (blk_below EM.out HB.out) 1).trans rfl, (blk_cell (blk_below EM.out HB.out) 2).trans rfl, (blk_cell (blk_below EM.out HB.out) 3).trans rfl, (blk_cell (blk_below EM.out HB.out) 4).trans rfl, (blk_cell (blk_below EM.out HB.out) 5).trans rfl, (blk_cell (blk_below EM.out HB.out) 6).trans rfl, (blk_cell (blk_below EM.out HB.out) 12).trans rfl, (blk_cell (blk_below EM.out HB.out) 13).trans rfl, (blk_cell (blk_below EM.out HB.out) 14).trans rfl, (blk_cell (blk_below EM.out HB.out) 15).trans rfl⟩)
          clear hK K
          refine wpAnyH_ready (rs := [13]) (by kernel_rfl) (by simp) ?_
          refine AllReadyH.cons rfl (fun K hK => ?_) ?_
          · go_simp
            go_wp2_with (go_at_call 33; go_loud (refine (HG2.out _).mono ?_; rintro e wd ⟨yb, rfl, hLg, hb⟩; have HLB := Lib.hid hLg; have HB := Lib.hid (below_step HB.out hb); (try have EZ := Lib.hid (blk_below EZ.out hb)); (try have HOx := Lib.hid (OwnRow.below HOx.out hb)); clear hb hLg))
            refine hK.out _ _ ?_ (fun hHeld => ?_)
            focus ((try dsimp only); exact ⟨(blk_cell (blk_below EM.out HB.out) 0).trans rfl, (blk_cell (blk_below EM.out HB.out) 1).trans rfl, (blk_cell (blk_below EM.out HB.out) 2).trans rfl, (blk_cell (blk_below EM.out HB.out) 3).trans rfl, (blk_cell (blk_below EM.out HB.out) 4).trans rfl, (blk_cell (blk_below EM.out HB.out) 5).trans rfl, (blk_cell (blk_below EM.out HB.out) 6).trans rfl, (blk_cell (blk_below EM.out HB.out) 12).trans rfl, (blk_cell (blk_below EM.out HB.out) 13).trans rfl, (blk_cell (blk_below EM.out HB.out) 14).trans rfl, (blk_cell (blk_below EM.out HB.out) 15).trans rfl⟩)
            clear hK K
            first
              | (refine take_at 14 60 (v := ?_) rfl rfl (by kernel_rfl) (by kernel_rfl) (by kernel_rfl) (fun _ _ _ h => h) (Or.inl ⟨by rfl, ?_⟩) (by assumption) ?_; rotate_left; focus (intro w hSw; (try dsimp only at hSw); go_simp; try with_reducible rfl))
              | (refine take_at 14 60 (v := undef) rfl rfl (by kernel_rfl) (by kernel_rfl) (by kernel_rfl) (fun _ _ _ h => h) (Or.inr ⟨by rfl, rfl⟩) (by assumption) ?_)
            try simp only [Act.put, List.setIfInBounds_toArray, List.set_cons_zero, List.set_cons_succ]
            refine wpAnyH_ready (rs := [16]) (by kernel_rfl) (by simp) ?_
            refine AllReadyH.cons rfl (fun K hK => ?_) ?_
            · have hst := wr50_blk (cs := #[.string p, .bool m.f1, .int .i64 up.f0, .int .i64 up.f1, .int .i64 up.f2, .int .i64 up.f3, .slice A8 xs.length c8, .int .i64 0, .int .i64 0, .int .i64 0, .int .i64 0, .slice none 0 0, .int .i64 yb.f0, .int .i64 yb.f1, .int .i64 yb.f2, .int .i64 yb.f3]) EZ.out rfl rfl (by simp [Value.oneCell'])
              have EX := Lib.hid (setRow_heap _ _ _ (#[.string p, .bool m.f1, .int .i64 up.f0, .int .i64 up.f1, .int .i64 up.f2, .int .i64 up.f3, .slice A8 xs.length c8, .int .i64 0, .int .i64 0, .int .i64 0, .int .i64 0, .slice none 0 0, .int .i64 yb.f0, .int .i64 yb.f1, .int .i64 yb.f2, .int .i64 yb.f3] : Array Value) _ _ EZ.out)
              have HOx := Lib.hid (own_setRow HOx.out EZ.out (by decide) (#[.string p, .bool m.f1, .int .i64 up.f0, .int .i64 up.f1, .int .i64 up.f2, .int .i64 up.f3, .slice A8 xs.length c8, .int .i64 0, .int .i64 0, .int .i64 0, .int .i64 0, .slice none 0 0, .int .i64 yb.f0, .int .i64 yb.f1, .int .i64 yb.f2, .int .i64 yb.f3] : Array Value))
              have HB := Lib.hid (below_setRow HB.out HZ.out (#[.string p, .bool m.f1, .int .i64 up.f0, .int .i64 up.f1, .int .i64 up.f2, .int .i64 up.f3, .slice A8 xs.length c8, .int .i64 0, .int .i64 0, .int .i64 0, .int .i64 0, .slice none 0 0, .int .i64 yb.f0, .int .i64 yb.f1, .int .i64 yb.f2, .int .i64 yb.f3] : Array Value))
              go_simp
              refine hK.out _ _ ?_ (fun hHeld => ?_)
              focus ((try dsimp only); exact ⟨(blk_cell (blk_below EM.out HB.out) 0).trans rfl, (blk_cell (blk_below EM.out HB.out) 1).trans rfl, (blk_cell (blk_below EM.out HB.out) 2).trans rfl, (blk_cell (blk_below EM.out HB.out) 3).trans rfl, (blk_cell (blk_below EM.out HB.out) 4).trans rfl, (blk_cell (blk_below EM.out HB.out) 5).trans rfl, (blk_cell (blk_below EM.out HB.out) 6).trans rfl, (blk_cell (blk_below EM.out HB.out) 12).trans rfl, (blk_cell (blk_below EM.out HB.out) 13).trans rfl, (blk_cell (blk_below EM.out HB.out) 14).trans rfl, (blk_cell (blk_below EM.out HB.out) 15).trans rfl⟩)
              clear hK K
              refine wpAnyH_done (by kernel_rfl) ?_ _
              refine NoPanic.normal ?_
              exact HPO.out _ _ up yb A8 c8 xs _ _ _ _ _ _ _ _ _ _ _ _ _ _ _ HLU.out HLB.out HGA.out hc8 (C96_own HOx.out) EX.out HZ.out HB.out
            exact AllReadyH.nil
          exact AllReadyH.nil
        exact AllReadyH.nil
      exact AllReadyH.nil
    refine AllReadyH.cons rfl (fun K hK => ?_) ?_
    · have EZ := Lib.hid (show (World.alloc wa (.cells #[.string (⟨#[]⟩ : ByteArray), .bool false, .int .i64 0, .int .i64 0, .int .i64 0, .int .i64 0, .slice none 0 0, .int .i64 0, .int .i64 0, .int .i64 0, .int .i64 0, .slice none 0 0, .int .i64 0, .int .i64 0, .int .i64 0, .int .i64 0] 50)).heap[wa.heap.size]? = some (.cells #[.string (⟨#[]⟩ : ByteArray), .bool false, .int .i64 0, .int .i64 0, .int .i64 0, .int .i64 0, .slice none 0 0, .int .i64 0, .int .i64 0, .int .i64 0, .int .i64 0, .slice none 0 0, .int .i64 0, .int .i64 0, .int .i64 0, .int .i64 0] 50) from blk_new wa (.cells #[.string (⟨#[]⟩ : ByteArray), .bool false, .int .i64 0, .int .i64 0, .int .i64 0, .int .i64 0, .slice none 0 0, .int .i64 0, .int .i64 0, .int .i64 0, .int .i64 0, .slice none 0 0, .int .i64 0, .int .i64 0, .int .i64 0, .int .i64 0] 50))
      have HZ := Lib.hid (show W.heap.size ≤ wa.heap.size from (by first | exact Nat.le_refl _ | exact below_size HB.out))
      have HB := Lib.hid (below_alloc HB.out (.cells #[.string (⟨#[]⟩ : ByteArray), .bool false, .int .i64 0, .int .i64 0, .int .i64 0, .int .i64 0, .slice none 0 0, .int .i64 0, .int .i64 0, .int .i64 0, .int .i64 0, .slice none 0 0, .int .i64 0, .int .i64 0, .int .i64 0, .int .i64 0] 50))
      (try have HOx := Lib.hid (OwnRow.below HOx.out (below_alloc (Below.refl wa.heap.size wa) (.cells #[.string (⟨#[]⟩ : ByteArray), .bool false, .int .i64 0, .int .i64 0, .int .i64 0, .int .i64 0, .slice none 0 0, .int .i64 0, .int .i64 0, .int .i64 0, .int .i64 0, .slice none 0 0, .int .i64 0, .int .i64 0, .int .i64 0, .int .i64 0] 50))))
      go_simp
      refine hK.out _ _ ?_ (fun hHeld => ?_)
      focus ((try dsimp only); exact ⟨(blk_cell (blk_below EM.out HB.out) 0).trans rfl, (blk_cell (blk_below EM.out HB.out) 1).trans rfl, (blk_cell (blk_below EM.out HB.out) 2).trans rfl, (blk_cell (blk_below EM.out HB.out) 3).trans rfl, (blk_cell (blk_below EM.out HB.out) 4).trans rfl, (blk_cell (blk_below EM.out HB.out) 5).trans rfl, (blk_cell (blk_below EM.out HB.out) 6).trans rfl, (blk_cell (blk_below EM.out HB.out) 12).trans rfl, (blk_cell (blk_below EM.out HB.out) 13).trans rfl, (blk_cell (blk_below EM.out HB.out) 14).trans rfl, (blk_cell (blk_below EM.out HB.out) 15).trans rfl⟩)
      clear hK K
      refine wpAnyH_ready (rs := [7]) (by kernel_rfl) (by simp) ?_
      refine AllReadyH.cons rfl (fun K hK => ?_) ?_
      · go_simp
        go_wp2_with (go_at_call 33; go_loud (refine (HG1.out _).mono ?_; rintro e wb ⟨up, rfl, hLg, hb⟩; have HLU := Lib.hid hLg; have HB := Lib.hid (below_step HB.out hb); (try have EZ := Lib.hid (blk_below EZ.out hb)); (try have HOx := Lib.hid (OwnRow.below HOx.out hb)); clear hb hLg))
        refine hK.out _ _ ?_ (fun hHeld => ?_)
        focus ((try dsimp only); exact ⟨(blk_cell (blk_below EM.out HB.out) 0).trans rfl, (blk_cell (blk_below EM.out HB.out) 1).trans rfl, (blk_cell (blk_below EM.out HB.out) 2).trans rfl, (blk_cell (blk_below EM.out HB.out) 3).trans rfl, (blk_cell (blk_below EM.out HB.out) 4).trans rfl, (blk_cell (blk_below EM.out HB.out) 5).trans rfl, (blk_cell (blk_below EM.out HB.out) 6).trans rfl, (blk_cell (blk_below EM.out HB.out) 12).trans rfl, (blk_cell (blk_below EM.out HB.out) 13).trans rfl, (blk_cell (blk_below EM.out HB.out) 14).trans rfl, (blk_cell (blk_below EM.out HB.out) 15).trans rfl⟩)
        clear hK K
        refine wpAnyH_ready (rs := [10]) (by kernel_rfl) (by simp) ?_
        refine AllReadyH.cons rfl (fun K hK => ?_) ?_
        · go_simp
          go_wp2_with (go_at_call 56; go_loud (refine (HA.out _ HB.out).mono ?_; rintro e wc ⟨v, rfl, xs, hga, hown, hb⟩; obtain ⟨A8, c8, rfl, hc8, _⟩ := OwnRow.reads hown; have HGA := Lib.hid hga; have HOx := Lib.hid (OwnRow.lower (own96 (W := W) hown (Nat.le_refl _)) (below_size HB.out)); have HB := Lib.hid (below_step HB.out hb); (try have EZ := Lib.hid (blk_below EZ.out hb)); clear hb hown hga))
          refine hK.out _ _ ?_ (fun hHeld => ?_)
          focus ((try dsimp only); exact ⟨(blk_cell (blk_below EM.out HB.out) 0).trans rfl, (blk_cell (blk_below EM.out HB.out) 1).trans rfl, (blk_cell (blk_below EM.out HB.out) 2).trans rfl, (blk_cell (blk_below EM.out HB.out) 3).trans rfl, (blk_cell (blk_below EM.out HB.out) 4).trans rfl, (blk_cell (blk_below EM.out HB.out) 5).trans rfl, (blk_cell (blk_below EM.out HB.out) 6).trans rfl, (blk_cell (blk_below EM.out HB.out) 12).trans rfl, (blk_cell (blk_below EM.out HB.out) 13).trans rfl, (blk_cell (blk_below EM.out HB.out) 14).trans rfl, (blk_cell (blk_below EM.out HB.out) 15).trans rfl⟩)
          clear hK K
          refine wpAnyH_ready (rs := [13]) (by kernel_rfl) (by simp) ?_
          refine AllReadyH.cons rfl (fun K hK => ?_) ?_
          · go_simp
            go_wp2_with (go_at_call 33; go_loud (refine (HG2.out _).mono ?_; rintro e wd ⟨yb, rfl, hLg, hb⟩; have HLB := Lib.hid hLg; have HB := Lib.hid (below_step HB.out hb); (try have EZ := Lib.hid (blk_below EZ.out hb)); (try have HOx := Lib.hid (OwnRow.below HOx.out hb)); clear hb hLg))
            refine hK.out _ _ ?_ (fun hHeld => ?_)
            focus ((try dsimp only); exact ⟨(blk_cell (blk_below EM.out HB.out) 0).trans rfl, (blk_cell (blk_below EM.out HB.out) 1).trans rfl, (blk_cell (blk_below EM.out HB.out) 2).trans rfl, (blk_cell (blk_below EM.out HB.out) 3).trans rfl, (blk_cell (blk_below EM.out HB.out) 4).trans rfl, (blk_cell (blk_below EM.out HB.out) 5).trans rfl, (blk_cell (blk_below EM.out HB.out) 6).trans rfl, (blk_cell (blk_below EM.out HB.out) 12).trans rfl, (blk_cell (blk_below EM.out HB.out) 13).trans rfl, (blk_cell (blk_below EM.out HB.out) 14).trans rfl, (blk_cell (blk_below EM.out HB.out) 15).trans rfl⟩)
            clear hK K
            first
              | (refine take_at 14 60 (v := ?_) rfl rfl (by kernel_rfl) (by kernel_rfl) (by kernel_rfl) (fun _ _ _ h => h) (Or.inl ⟨by rfl, ?_⟩) (by assumption) ?_; rotate_left; focus (intro w hSw; (try dsimp only at hSw); go_simp; try with_reducible rfl))
              | (refine take_at 14 60 (v := undef) rfl rfl (by kernel_rfl) (by kernel_rfl) (by kernel_rfl) (fun _ _ _ h => h) (Or.inr ⟨by rfl, rfl⟩) (by assumption) ?_)
            try simp only [Act.put, List.setIfInBounds_toArray, List.set_cons_zero, List.set_cons_succ]
            refine wpAnyH_ready (rs := [16]) (by kernel_rfl) (by simp) ?_
            refine AllReadyH.cons rfl (fun K hK => ?_) ?_
            · have hst := wr50_blk (cs := #[.string p, .bool m.f1, .int .i64 up.f0, .int .i64 up.f1, .int .i64 up.f2, .int .i64 up.f3, .slice A8 xs.length c8, .int .i64 0, .int .i64 0, .int .i64 0, .int .i64 0, .slice none 0 0, .int .i64 yb.f0, .int .i64 yb.f1, .int .i64 yb.f2, .int .i64 yb.f3]) EZ.out rfl rfl (by simp [Value.oneCell'])
              have EX := Lib.hid (setRow_heap _ _ _ (#[.string p, .bool m.f1, .int .i64 up.f0, .int .i64 up.f1, .int .i64 up.f2, .int .i64 up.f3, .slice A8 xs.length c8, .int .i64 0, .int .i64 0, .int .i64 0, .int .i64 0, .slice none 0 0, .int .i64 yb.f0, .int .i64 yb.f1, .int .i64 yb.f2, .int .i64 yb.f3] : Array Value) _ _ EZ.out)
              have HOx := Lib.hid (own_setRow HOx.out EZ.out (by decide) (#[.string p, .bool m.f1, .int .i64 up.f0, .int .i64 up.f1, .int .i64 up.f2, .int .i64 up.f3, .slice A8 xs.length c8, .int .i64 0, .int .i64 0, .int .i64 0, .int .i64 0, .slice none 0 0, .int .i64 yb.f0, .int .i64 yb.f1, .int .i64 yb.f2, .int .i64 yb.f3] : Array Value))
              have HB := Lib.hid (below_setRow HB.out HZ.out (#[.string p, .bool m.f1, .int .i64 up.f0, .int .i64 up.f1, .int .i64 up.f2, .int .i64 up.f3, .slice A8 xs.length c8, .int .i64 0, .int .i64 0, .int .i64 0, .int .i64 0, .slice none 0 0, .int .i64 yb.f0, .int .i64 yb.f1, .int .i64 yb.f2, .int .i64 yb.f3] : Array Value))
              go_simp
              refine hK.out _ _ ?_ (fun hHeld => ?_)
              focus ((try dsimp only); exact ⟨(blk_cell (blk_below EM.out HB.out) 0).trans rfl, (blk_cell (blk_below EM.out HB.out) 1).trans rfl, (blk_cell (blk_below EM.out HB.out) 2).trans rfl, (blk_cell (blk_below EM.out HB.out) 3).trans rfl, (blk_cell (blk_below EM.out HB.out) 4).trans rfl, (blk_cell (blk_below EM.out HB.out) 5).trans rfl, (blk_cell (blk_below EM.out HB.out) 6).trans rfl, (blk_cell (blk_below EM.out HB.out) 12).trans rfl, (blk_cell (blk_below EM.out HB.out) 13).trans rfl, (blk_cell (blk_below EM.out HB.out) 14).trans rfl, (blk_cell (blk_below EM.out HB.out) 15).trans rfl⟩)
              clear hK K
              refine wpAnyH_done (by kernel_rfl) ?_ _
              refine NoPanic.normal ?_
              exact HPO.out _ _ up yb A8 c8 xs _ _ _ _ _ _ _ _ _ _ _ _ _ _ _ HLU.out HLB.out HGA.out hc8 (C96_own HOx.out) EX.out HZ.out HB.out
            exact AllReadyH.nil
          exact AllReadyH.nil
        exact AllReadyH.nil
      exact AllReadyH.nil
    exact AllReadyH.nil
  refine AllReadyH.cons rfl (fun K hK => ?_) ?_
  · have EZ := Lib.hid (show (World.alloc W.drew (.cells #[.string (⟨#[]⟩ : ByteArray), .bool false, .int .i64 0, .int .i64 0, .int .i64 0, .int .i64 0, .slice none 0 0, .int .i64 0, .int .i64 0, .int .i64 0, .int .i64 0, .slice none 0 0, .int .i64 0, .int .i64 0, .int .i64 0, .int .i64 0] 50)).heap[W.heap.size]? = some (.cells #[.string (⟨#[]⟩ : ByteArray), .bool false, .int .i64 0, .int .i64 0, .int .i64 0, .int .i64 0, .slice none 0 0, .int .i64 0, .int .i64 0, .int .i64 0, .int .i64 0, .slice none 0 0, .int .i64 0, .int .i64 0, .int .i64 0, .int .i64 0] 50) from blk_new W.drew (.cells #[.string (⟨#[]⟩ : ByteArray), .bool false, .int .i64 0, .int .i64 0, .int .i64 0, .int .i64 0, .slice none 0 0, .int .i64 0, .int .i64 0, .int .i64 0, .int .i64 0, .slice none 0 0, .int .i64 0, .int .i64 0, .int .i64 0, .int .i64 0] 50))
    have HZ := Lib.hid (show W.heap.size ≤ W.heap.size from (by first | exact Nat.le_refl _ | exact below_size HB.out))
    have HB := Lib.hid (below_alloc HB.out (.cells #[.string (⟨#[]⟩ : ByteArray), .bool false, .int .i64 0, .int .i64 0, .int .i64 0, .int .i64 0, .slice none 0 0, .int .i64 0, .int .i64 0, .int .i64 0, .int .i64 0, .slice none 0 0, .int .i64 0, .int .i64 0, .int .i64 0, .int .i64 0] 50))
    (try have HOx := Lib.hid (OwnRow.below HOx.out (below_alloc (Below.refl W.drew.heap.size W.drew) (.cells #[.string (⟨#[]⟩ : ByteArray), .bool false, .int .i64 0, .int .i64 0, .int .i64 0, .int .i64 0, .slice none 0 0, .int .i64 0, .int .i64 0, .int .i64 0, .int .i64 0, .slice none 0 0, .int .i64 0, .int .i64 0, .int .i64 0, .int .i64 0] 50))))
    go_simp
    refine hK.out _ _ ?_ (fun hHeld => ?_)
    focus ((try dsimp only); exact ⟨(blk_cell (blk_below EM.out HB.out) 0).trans rfl, (blk_cell (blk_below EM.out HB.out) 1).trans rfl, (blk_cell (blk_below EM.out HB.out) 2).trans rfl, (blk_cell (blk_below EM.out HB.out) 3).trans rfl, (blk_cell (blk_below EM.out HB.out) 4).trans rfl, (blk_cell (blk_below EM.out HB.out) 5).trans rfl, (blk_cell (blk_below EM.out HB.out) 6).trans rfl, (blk_cell (blk_below EM.out HB.out) 12).trans rfl, (blk_cell (blk_below EM.out HB.out) 13).trans rfl, (blk_cell (blk_below EM.out HB.out) 14).trans rfl, (blk_cell (blk_below EM.out HB.out) 15).trans rfl⟩)
    clear hK K
    refine wpAnyH_ready (rs := [2]) (by kernel_rfl) (by simp) ?_
    refine AllReadyH.cons rfl (fun K hK => ?_) ?_
    · go_simp
      go_wp2_with (go_at_call 25; go_loud (refine (HOF.out _ HB.out).mono ?_; rintro e wa ⟨rfl, hb⟩; have HB := Lib.hid (below_step HB.out hb); (try have EZ := Lib.hid (blk_below EZ.out hb)); (try have HOx := Lib.hid (OwnRow.below HOx.out hb)); clear hb))
      refine hK.out _ _ ?_ (fun hHeld => ?_)
      focus ((try dsimp only); exact ⟨(blk_cell (blk_below EM.out HB.out) 0).trans rfl, (blk_cell (blk_below EM.out HB.out) 1).trans rfl, (blk_cell (blk_below EM.out HB.out) 2).trans rfl, (blk_cell (blk_below EM.out HB.out) 3).trans rfl, (blk_cell (blk_below EM.out HB.out) 4).trans rfl, (blk_cell (blk_below EM.out HB.out) 5).trans rfl, (blk_cell (blk_below EM.out HB.out) 6).trans rfl, (blk_cell (blk_below EM.out HB.out) 12).trans rfl, (blk_cell (blk_below EM.out HB.out) 13).trans rfl, (blk_cell (blk_below EM.out HB.out) 14).trans rfl, (blk_cell (blk_below EM.out HB.out) 15).trans rfl⟩)
      clear hK K
      refine wpAnyH_ready (rs := [7]) (by kernel_rfl) (by simp) ?_
      refine AllReadyH.cons rfl (fun K hK => ?_) ?_
      · go_simp
        go_wp2_with (go_at_call 33; go_loud (refine (HG1.out _).mono ?_; rintro e wb ⟨up, rfl, hLg, hb⟩; have HLU := Lib.hid hLg; have HB := Lib.hid (below_step HB.out hb); (try have EZ := Lib.hid (blk_below EZ.out hb)); (try have HOx := Lib.hid (OwnRow.below HOx.out hb)); clear hb hLg))
        refine hK.out _ _ ?_ (fun hHeld => ?_)
        focus ((try dsimp only); exact ⟨(blk_cell (blk_below EM.out HB.out) 0).trans rfl, (blk_cell (blk_below EM.out HB.out) 1).trans rfl, (blk_cell (blk_below EM.out HB.out) 2).trans rfl, (blk_cell (blk_below EM.out HB.out) 3).trans rfl, (blk_cell (blk_below EM.out HB.out) 4).trans rfl, (blk_cell (blk_below EM.out HB.out) 5).trans rfl, (blk_cell (blk_below EM.out HB.out) 6).trans rfl, (blk_cell (blk_below EM.out HB.out) 12).trans rfl, (blk_cell (blk_below EM.out HB.out) 13).trans rfl, (blk_cell (blk_below EM.out HB.out) 14).trans rfl, (blk_cell (blk_below EM.out HB.out) 15).trans rfl⟩)
        clear hK K
        refine wpAnyH_ready (rs := [10]) (by kernel_rfl) (by simp) ?_
        refine AllReadyH.cons rfl (fun K hK => ?_) ?_
        · go_simp
          go_wp2_with (go_at_call 56; go_loud (refine (HA.out _ HB.out).mono ?_; rintro e wc ⟨v, rfl, xs, hga, hown, hb⟩; obtain ⟨A8, c8, rfl, hc8, _⟩ := OwnRow.reads hown; have HGA := Lib.hid hga; have HOx := Lib.hid (OwnRow.lower (own96 (W := W) hown (Nat.le_refl _)) (below_size HB.out)); have HB := Lib.hid (below_step HB.out hb); (try have EZ := Lib.hid (blk_below EZ.out hb)); clear hb hown hga))
          refine hK.out _ _ ?_ (fun hHeld => ?_)
          focus ((try dsimp only); exact ⟨(blk_cell (blk_below EM.out HB.out) 0).trans rfl, (blk_cell (blk_below EM.out HB.out) 1).trans rfl, (blk_cell (blk_below EM.out HB.out) 2).trans rfl, (blk_cell (blk_below EM.out HB.out) 3).trans rfl, (blk_cell (blk_below EM.out HB.out) 4).trans rfl, (blk_cell (blk_below EM.out HB.out) 5).trans rfl, (blk_cell (blk_below EM.out HB.out) 6).trans rfl, (blk_cell (blk_below EM.out HB.out) 12).trans rfl, (blk_cell (blk_below EM.out HB.out) 13).trans rfl, (blk_cell (blk_below EM.out HB.out) 14).trans rfl, (blk_cell (blk_below EM.out HB.out) 15).trans rfl⟩)
          clear hK K
          refine wpAnyH_ready (rs := [13]) (by kernel_rfl) (by simp) ?_
          refine AllReadyH.cons rfl (fun K hK => ?_) ?_
          · go_simp
            go_wp2_with (go_at_call 33; go_loud (refine (HG2.out _).mono ?_; rintro e wd ⟨yb, rfl, hLg, hb⟩; have HLB := Lib.hid hLg; have HB := Lib.hid (below_step HB.out hb); (try have EZ := Lib.hid (blk_below EZ.out hb)); (try have HOx := Lib.hid (OwnRow.below HOx.out hb)); clear hb hLg))
            refine hK.out _ _ ?_ (fun hHeld => ?_)
            focus ((try dsimp only); exact ⟨(blk_cell (blk_below EM.out HB.out) 0).trans rfl, (blk_cell (blk_below EM.out HB.out) 1).trans rfl, (blk_cell (blk_below EM.out HB.out) 2).trans rfl, (blk_cell (blk_below EM.out HB.out) 3).trans rfl, (blk_cell (blk_below EM.out HB.out) 4).trans rfl, (blk_cell (blk_below EM.out HB.out) 5).trans rfl, (blk_cell (blk_below EM.out HB.out) 6).trans rfl, (blk_cell (blk_below EM.out HB.out) 12).trans rfl, (blk_cell (blk_below EM.out HB.out) 13).trans rfl, (blk_cell (blk_below EM.out HB.out) 14).trans rfl, (blk_cell (blk_below EM.out HB.out) 15).trans rfl⟩)
            clear hK K
            first
              | (refine take_at 14 60 (v := ?_) rfl rfl (by kernel_rfl) (by kernel_rfl) (by kernel_rfl) (fun _ _ _ h => h) (Or.inl ⟨by rfl, ?_⟩) (by assumption) ?_; rotate_left; focus (intro w hSw; (try dsimp only at hSw); go_simp; try with_reducible rfl))
              | (refine take_at 14 60 (v := undef) rfl rfl (by kernel_rfl) (by kernel_rfl) (by kernel_rfl) (fun _ _ _ h => h) (Or.inr ⟨by rfl, rfl⟩) (by assumption) ?_)
            try simp only [Act.put, List.setIfInBounds_toArray, List.set_cons_zero, List.set_cons_succ]
            refine wpAnyH_ready (rs := [16]) (by kernel_rfl) (by simp) ?_
            refine AllReadyH.cons rfl (fun K hK => ?_) ?_
            · have hst := wr50_blk (cs := #[.string p, .bool m.f1, .int .i64 up.f0, .int .i64 up.f1, .int .i64 up.f2, .int .i64 up.f3, .slice A8 xs.length c8, .int .i64 0, .int .i64 0, .int .i64 0, .int .i64 0, .slice none 0 0, .int .i64 yb.f0, .int .i64 yb.f1, .int .i64 yb.f2, .int .i64 yb.f3]) EZ.out rfl rfl (by simp [Value.oneCell'])
              have EX := Lib.hid (setRow_heap _ _ _ (#[.string p, .bool m.f1, .int .i64 up.f0, .int .i64 up.f1, .int .i64 up.f2, .int .i64 up.f3, .slice A8 xs.length c8, .int .i64 0, .int .i64 0, .int .i64 0, .int .i64 0, .slice none 0 0, .int .i64 yb.f0, .int .i64 yb.f1, .int .i64 yb.f2, .int .i64 yb.f3] : Array Value) _ _ EZ.out)
              have HOx := Lib.hid (own_setRow HOx.out EZ.out (by decide) (#[.string p, .bool m.f1, .int .i64 up.f0, .int .i64 up.f1, .int .i64 up.f2, .int .i64 up.f3, .slice A8 xs.length c8, .int .i64 0, .int .i64 0, .int .i64 0, .int .i64 0, .slice none 0 0, .int .i64 yb.f0, .int .i64 yb.f1, .int .i64 yb.f2, .int .i64 yb.f3] : Array Value))
              have HB := Lib.hid (below_setRow HB.out HZ.out (#[.string p, .bool m.f1, .int .i64 up.f0, .int .i64 up.f1, .int .i64 up.f2, .int .i64 up.f3, .slice A8 xs.length c8, .int .i64 0, .int .i64 0, .int .i64 0, .int .i64 0, .slice none 0 0, .int .i64 yb.f0, .int .i64 yb.f1, .int .i64 yb.f2, .int .i64 yb.f3] : Array Value))
              go_simp
              refine hK.out _ _ ?_ (fun hHeld => ?_)
              focus ((try dsimp only); exact ⟨(blk_cell (blk_below EM.out HB.out) 0).trans rfl, (blk_cell (blk_below EM.out HB.out) 1).trans rfl, (blk_cell (blk_below EM.out HB.out) 2).trans rfl, (blk_cell (blk_below EM.out HB.out) 3).trans rfl, (blk_cell (blk_below EM.out HB.out) 4).trans rfl, (blk_cell (blk_below EM.out HB.out) 5).trans rfl, (blk_cell (blk_below EM.out HB.out) 6).trans rfl, (blk_cell (blk_below EM.out HB.out) 12).trans rfl, (blk_cell (blk_below EM.out HB.out) 13).trans rfl, (blk_cell (blk_below EM.out HB.out) 14).trans rfl, (blk_cell (blk_below EM.out HB.out) 15).trans rfl⟩)
              clear hK K
              refine wpAnyH_done (by kernel_rfl) ?_ _
              refine NoPanic.normal ?_
              exact HPO.out _ _ up yb A8 c8 xs _ _ _ _ _ _ _ _ _ _ _ _ _ _ _ HLU.out HLB.out HGA.out hc8 (C96_own HOx.out) EX.out HZ.out HB.out
            exact AllReadyH.nil
          exact AllReadyH.nil
        exact AllReadyH.nil
      exact AllReadyH.nil
    exact AllReadyH.nil
  exact AllReadyH.nil
end Go.Proofs.YtmndeoncbocplaaDoor.C
end
