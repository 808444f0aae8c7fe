/- Layer 15 (rebuild): the reference's Nodes, and that the two Builders say the same. -/
import Derived.Test.YtknimfbagbkjfaaDoorBldr
set_option linter.unusedSimpArgs false
set_option linter.unusedVariables false
set_option linter.unusedSectionVars false
namespace Go.Xp
open Go.Proofs

def rnod (M : List Mem) (i : Nat) : Nod :=
  if (at_mem M i).kind = 3 then ⟨1, (at_mem M i).path, (at_mem M i).mode, [], (at_mem M (mfind M 1 (at_mem M i).target).toNat).dv, (at_mem M (mfind M 1 (at_mem M i).target).toNat).data, mfind M 1 (at_mem M i).target + 1⟩
  else ⟨(at_mem M i).kind, (at_mem M i).path, (at_mem M i).mode, (at_mem M i).target, (at_mem M i).dv, (at_mem M i).data, if (at_mem M i).kind = 1 then (i : Int) + 1 else 0⟩
def rnods (M : List Mem) : Nat → List Nod
  | 0 => []
  | i + 1 => rnods M i ++ [rnod M i]
@[simp] theorem rnods_len (M : List Mem) : ∀ i, (rnods M i).length = i
  | 0 => rfl
  | i + 1 => by unfold rnods; rw [List.length_append, rnods_len M i]; rfl
theorem rnod_3 {M : List Mem} {i : Nat} (h : (at_mem M i).kind = 3) : rnods M i ++ [⟨1, (at_mem M i).path, (at_mem M i).mode, [], (at_mem M (mfind M 1 (at_mem M i).target).toNat).dv, (at_mem M (mfind M 1 (at_mem M i).target).toNat).data, mfind M 1 (at_mem M i).target + 1⟩] = rnods M (i + 1) := by
  conv => rhs; unfold rnods rnod
  rw [if_pos h]
theorem rnod_1 {M : List Mem} {i : Nat} (h : (at_mem M i).kind = 1) : rnods M i ++ [⟨(at_mem M i).kind, (at_mem M i).path, (at_mem M i).mode, (at_mem M i).target, (at_mem M i).dv, (at_mem M i).data, (i : Int) + 1⟩] = rnods M (i + 1) := by
  conv => rhs; unfold rnods rnod
  rw [if_neg (by omega), if_pos h]
theorem rnod_0 {M : List Mem} {i : Nat} (h : ¬ (at_mem M i).kind = 1) (h3 : ¬ (at_mem M i).kind = 3) : rnods M i ++ [⟨(at_mem M i).kind, (at_mem M i).path, (at_mem M i).mode, (at_mem M i).target, (at_mem M i).dv, (at_mem M i).data, 0⟩] = rnods M (i + 1) := by
  conv => rhs; unfold rnods rnod
  rw [if_neg h3, if_neg h]
section
variable {M : List Mem} {P : List UInt8 → List UInt8 → Prop}
theorem rnods_mem {Q : Nod → Prop} (h : ∀ i, i < M.length → Q (rnod M i)) : ∀ i, i ≤ M.length → ∀ x ∈ rnods M i, Q x
  | 0, _, x, hx => by cases hx
  | i + 1, hi, x, hx => by
    unfold rnods at hx
    rcases List.mem_append.1 hx with q | q
    · exact rnods_mem h i (by omega) x q
    · rw [List.mem_singleton.1 q]; exact h i (by omega)
theorem rnod_ok {H : Heap} {cv : Value} (hM : Rows memS H cv M) (hk : ∀ i, i < M.length → (at_mem M i).kind = 3 → 0 ≤ mfind M 1 (at_mem M i).target) : ∀ i, i < M.length → nodS.ok H (rnod M i) := fun i hi => by
  have ho : ∀ j, j < M.length → Bytes H (at_mem M j).dv (at_mem M j).data := fun j hj => hM.2 _ (bm_mem hj)
  unfold rnod
  split
  · rename_i k3
    have h1 := hk i hi k3
    have h2 := mfind_lt (M := M) (k := 1) (q := (at_mem M i).target)
    exact ho _ (by omega)
  · exact ho i hi
theorem rnod_sz (hs : ∀ x ∈ M, x.path.length ≤ 100000000000 ∧ x.target.length ≤ 100000000000 ∧ x.data.length ≤ 100000000000) (hk : ∀ i, i < M.length → (at_mem M i).kind = 3 → 0 ≤ mfind M 1 (at_mem M i).target) : ∀ i, i < M.length → (rnod M i).path.length ≤ 100000000000 ∧ (rnod M i).target.length ≤ 100000000000 ∧ (rnod M i).data.length ≤ 100000000000 := fun i hi => by
  have ho := hs _ (bm_mem hi)
  unfold rnod
  split
  · rename_i k3
    have h1 := hk i hi k3
    have h2 := mfind_lt (M := M) (k := 1) (q := (at_mem M i).target)
    exact ⟨ho.1, by simp, (hs _ (bm_mem (show (mfind M 1 (at_mem M i).target).toNat < M.length by omega))).2.2⟩
  · exact ho
end
set_option maxRecDepth 100000 in
theorem ref15_Nodes (h : Heap) (hK : GlbK h) (hE : GlbE h) (c : Nat) (cv : Value) (M : List Mem) (hM : Rows memS h cv M) (hc : Blk h c [cv]) (hm : M.length ≤ 1000000000) (hs : ∀ x ∈ M, x.path.length ≤ 100000000000 ∧ x.target.length ≤ 100000000000 ∧ x.data.length ≤ 100000000000) (hk : ∀ i, i < M.length → (at_mem M i).kind = 3 → 0 ≤ mfind M 1 (at_mem M i).target) : Cal Tryd.prog 21 #[.pointer (some ⟨c, 0, none⟩)] h (fun v h' => ∃ s0 L0, v = s0 ∧ Rows nodS h' s0 L0 ∧ (L0.length = M.length ∧ L0.map er = cno (rnods M M.length)) ∧ Ext h h') := by
 refine Cal_enter (args := [.pointer (some ⟨c, 0, none⟩)]) Tryd.func21 rfl rfl rfl (fun σ => ?_)
 refine Wr ?_
 refine Av ?_
 refine L_nil (X_then (W_seq (W_region ?_)))
 refine Av ?_
 refine L_nil (X_then (W_seq (W_seq (W_region ?_))))
 refine Av ?_
 refine L_nil (X_then (W_block ?_))
 refine W_loop (S := Nat × Value) (fun (i, vo) => [(2, .slice none 0 0), (0, .pointer (some ⟨c, 0, none⟩)), (3, vo), (4, .int .i64 ((i : Int)))]) (fun (i, vo) h' => i ≤ M.length ∧ Ext h h' ∧ RowsO nodS h' h.size vo (rnods M i)) (fun (i, vo) => M.length - i) (0, .slice none 0 0) (tk4 2 0 3 4) ?_ ?_
 ·exact ⟨Nat.zero_le _, Ext.refl _, RowsO.nil _ _ _⟩
 rintro ⟨i, vo⟩ h1 ⟨hi, uxi, uoN⟩
 show W _ _ _ _ _ [(2, .slice none 0 0), (0, .pointer (some ⟨c, 0, none⟩)), (3, vo), (4, .int .i64 ((i : Int)))] _
 refine W_seq (W_seq (W_region ?_))
 refine Mv ?_
 refine Mv ?_
 refine Ly (Y_nilCheck rfl) ?_
 refine Ly (Y_fieldAddr (off := 0) (by kernel_rfl) rfl rfl) ?_
 refine Ly (Y_ldblk Tryd.underlying22 rfl rfl (hc.ext uxi) rfl) ?_
 refine Ly (Y_lenr Tryd.underlying22 rfl (hM.ext uxi)) ?_
 refine Ly (Y_lss rfl rfl) ?_
 refine Nx ?_
 refine W_sub _ (tk5 14 2 0 3 4) ?_
 refine W_splitd rfl (fun c9 => ?_) (fun c9 => ?_)
 ·refine Ws ?_
  refine W_sub _ (tk4 2 0 3 4) ?_
  have hk9 := hk ((i : Int)).toNat (by omega)
  refine W_seq (W_block (W_seq (W_region ?_)))
  refine Mv ?_
  refine Ly (Y_nilCheck rfl) ?_
  refine Ly (Y_fieldAddr (off := 0) (by kernel_rfl) rfl rfl) ?_
  refine Ly (Y_ldblk Tryd.underlying22 rfl rfl (hc.ext uxi) rfl) ?_
  refine Mv ?_
  refine Ly (Y_idxr Tryd.underlying22 (show _ = some 6 by kernel_rfl) rfl rfl rfl (hM.ext uxi) (by first | omega | (have := mfind_lt (M := M) (k := 1) (q := (at_mem M ((i : Int)).toNat).target); omega)) (by first | omega | (have := mfind_lt (M := M) (k := 1) (q := (at_mem M ((i : Int)).toNat).target); omega))) ?_
  refine Ly (Y_fldr (k := ((i : Int)).toNat) (off := 0) (by kernel_rfl) rfl (hM.ext uxi) (by first | omega | (have := mfind_lt (M := M) (k := 1) (q := (at_mem M ((i : Int)).toNat).target); omega))) ?_
  refine Ly (Y_ldrA (off := 0) (k := ((i : Int)).toNat) (us := [.int .i64 ((at_mem M ((i : Int)).toNat).kind), str ((at_mem M ((i : Int)).toNat).path), .int .i64 ((at_mem M ((i : Int)).toNat).mode), str ((at_mem M ((i : Int)).toNat).target), .int .i64 ((at_mem M ((i : Int)).toNat).size)]) Tryd.underlying27 rfl (show _ = some 5 by kernel_rfl) rfl rfl (hM.ext uxi) (by first | omega | (have := mfind_lt (M := M) (k := 1) (q := (at_mem M ((i : Int)).toNat).target); omega)) rfl) ?_
  refine L_mks (M_alloc (u := .agg #[.int .i64 0, str [], .int .i64 0, str [], .int .i64 0]) (by kernel_rfl)) rfl rfl rfl ?_
  rintro _ h2 ⟨rfl, hn1⟩
  have hk2 : Blk h2 h1.size [.int .i64 0, str [], .int .i64 0, str [], .int .i64 0] := hn1.blk
  refine L_dos (D_store (us := [.int .i64 ((at_mem M ((i : Int)).toNat).kind), str ((at_mem M ((i : Int)).toNat).path), .int .i64 ((at_mem M ((i : Int)).toNat).mode), str ((at_mem M ((i : Int)).toNat).target), .int .i64 ((at_mem M ((i : Int)).toNat).size)]) (show _ = some 5 by kernel_rfl) rfl rfl rfl (by simp [Value.oneCell']) hk2 (by simp)) rfl rfl ?_
  rintro h3 hp3
  have hk4 : Blk h3 h1.size [.int .i64 ((at_mem M ((i : Int)).toNat).kind), str ((at_mem M ((i : Int)).toNat).path), .int .i64 ((at_mem M ((i : Int)).toNat).mode), str ((at_mem M ((i : Int)).toNat).target), .int .i64 ((at_mem M ((i : Int)).toNat).size)] := hp3.blk
  refine Nx ?_
  refine W_sub _ (tk5 5 2 0 3 4) ?_
  refine W_seq ?_
  refine W_pers [(5, .pointer (some ⟨h1.size, 0, none⟩)), (2, .slice none 0 0), (0, .pointer (some ⟨c, 0, none⟩)), (3, vo), (4, .int .i64 ((i : Int)))] (tk5 5 2 0 3 4) (by kernel_rfl) ?_
  refine LP_op 0 (fun _ vv => .pointer (some ⟨h1.size, 0 + 0, none⟩) = vv) [] rfl rfl (by kernel_rfl) (fun _ _ _ _ p => p) ?_ ?_
  ·intro h4 hx5
   refine Needs_nil ?_
   refine Stp_yld (Y_fieldAddr (off := 0) (by kernel_rfl) rfl rfl) rfl ?_
   exact rfl
  refine LP_op 1 (fun _ vv => .int .i64 ((at_mem M ((i : Int)).toNat).kind) = vv) [(0, 25)] rfl rfl (by kernel_rfl) (fun _ _ _ _ p => p) ?_ ?_
  ·intro h5 hx6
   rintro _ rfl
   refine Needs_nil ?_
   refine Stp_yld (Y_ldblk Tryd.underlying3 rfl rfl (hk4.ext hx6) rfl) rfl ?_
   exact rfl
  refine LP_op 2 (fun _ vv => .pointer (some ⟨h1.size, 0 + 1, none⟩) = vv) [] rfl rfl (by kernel_rfl) (fun _ _ _ _ p => p) ?_ ?_
  ·intro h6 hx7
   refine Needs_nil ?_
   refine Stp_yld (Y_fieldAddr (off := 1) (by kernel_rfl) rfl rfl) rfl ?_
   exact rfl
  refine LP_op 3 (fun _ vv => str ((at_mem M ((i : Int)).toNat).path) = vv) [(2, 27)] rfl rfl (by kernel_rfl) (fun _ _ _ _ p => p) ?_ ?_
  ·intro h7 hx8
   rintro _ rfl
   refine Needs_nil ?_
   refine Stp_yld (Y_ldblk Tryd.underlying9 rfl rfl (hk4.ext hx8) rfl) rfl ?_
   exact rfl
  refine LP_op 4 (fun _ vv => .pointer (some ⟨h1.size, 0 + 2, none⟩) = vv) [] rfl rfl (by kernel_rfl) (fun _ _ _ _ p => p) ?_ ?_
  ·intro h8 hx9
   refine Needs_nil ?_
   refine Stp_yld (Y_fieldAddr (off := 2) (by kernel_rfl) rfl rfl) rfl ?_
   exact rfl
  refine LP_op 5 (fun _ vv => .int .i64 ((at_mem M ((i : Int)).toNat).mode) = vv) [(4, 29)] rfl rfl (by kernel_rfl) (fun _ _ _ _ p => p) ?_ ?_
  ·intro h9 hx10
   rintro _ rfl
   refine Needs_nil ?_
   refine Stp_yld (Y_ldblk Tryd.underlying3 rfl rfl (hk4.ext hx10) rfl) rfl ?_
   exact rfl
  refine LP_op 6 (fun _ vv => .pointer (some ⟨h1.size, 0 + 3, none⟩) = vv) [] rfl rfl (by kernel_rfl) (fun _ _ _ _ p => p) ?_ ?_
  ·intro h10 hx11
   refine Needs_nil ?_
   refine Stp_yld (Y_fieldAddr (off := 3) (by kernel_rfl) rfl rfl) rfl ?_
   exact rfl
  refine LP_op 7 (fun _ vv => str ((at_mem M ((i : Int)).toNat).target) = vv) [(6, 31)] rfl rfl (by kernel_rfl) (fun _ _ _ _ p => p) ?_ ?_
  ·intro h11 hx12
   rintro _ rfl
   refine Needs_nil ?_
   refine Stp_yld (Y_ldblk Tryd.underlying9 rfl rfl (hk4.ext hx12) rfl) rfl ?_
   exact rfl
  refine LP_op 8 (fun _ vv => .pointer (some ⟨c, 0, none⟩) = vv) [] rfl rfl (by kernel_rfl) (fun _ _ _ _ p => p) ?_ ?_
  ·intro h12 hx13
   refine Needs_nil ?_
   refine Stp_yld (Y_move rfl) rfl ?_
   exact rfl
  refine LP_op 9 (fun _ vv => .pointer (some ⟨c, 0, none⟩) = vv) [(8, 33)] rfl rfl (by kernel_rfl) (fun _ _ _ _ p => p) ?_ ?_
  ·intro h13 hx14
   rintro _ rfl
   refine Needs_nil ?_
   refine Stp_yld (Y_nilCheck rfl) rfl ?_
   exact rfl
  refine LP_op 10 (fun _ vv => .pointer (some ⟨c, 0 + 0, none⟩) = vv) [(9, 34)] rfl rfl (by kernel_rfl) (fun _ _ _ _ p => p) ?_ ?_
  ·intro h14 hx15
   rintro _ rfl
   refine Needs_nil ?_
   refine Stp_yld (Y_fieldAddr (off := 0) (by kernel_rfl) rfl rfl) rfl ?_
   exact rfl
  refine LP_op 11 (fun _ vv => cv = vv) [(10, 35)] rfl rfl (by kernel_rfl) (fun _ _ _ _ p => p) ?_ ?_
  ·intro h15 hx16
   rintro _ rfl
   refine Needs_nil ?_
   refine Stp_yld (Y_ldblk Tryd.underlying22 rfl rfl (hc.ext (((uxi.trans hn1.ext).then' hp3.only (by simp) uxi.size).trans hx16)) rfl) rfl ?_
   exact rfl
  refine LP_op 12 (fun _ vv => .int .i64 ((i : Int)) = vv) [] rfl rfl (by kernel_rfl) (fun _ _ _ _ p => p) ?_ ?_
  ·intro h16 hx17
   refine Needs_nil ?_
   refine Stp_yld (Y_move rfl) rfl ?_
   exact rfl
  refine LP_op 13 (fun _ vv => .pointer (some (elemAddr cv (((i : Int)).toNat * 6))) = vv) [(11, 36), (12, 37)] rfl rfl (by kernel_rfl) (fun _ _ _ _ p => p) ?_ ?_
  ·intro h17 hx18
   rintro _ rfl
   rintro _ rfl
   refine Needs_nil ?_
   refine Stp_yld (Y_idxr Tryd.underlying22 (show _ = some 6 by kernel_rfl) rfl rfl rfl (hM.ext (((uxi.trans hn1.ext).then' hp3.only (by simp) uxi.size).trans hx18)) (by first | omega | (have := mfind_lt (M := M) (k := 1) (q := (at_mem M ((i : Int)).toNat).target); omega)) (by first | omega | (have := mfind_lt (M := M) (k := 1) (q := (at_mem M ((i : Int)).toNat).target); omega))) rfl ?_
   exact rfl
  refine LP_op 14 (fun _ vv => .pointer (some (elemAddr cv (((i : Int)).toNat * 6 + 5))) = vv) [(13, 38)] rfl rfl (by kernel_rfl) (fun _ _ _ _ p => p) ?_ ?_
  ·intro h18 hx19
   rintro _ rfl
   refine Needs_nil ?_
   refine Stp_yld (Y_fldr (k := ((i : Int)).toNat) (off := 5) (by kernel_rfl) rfl (hM.ext (((uxi.trans hn1.ext).then' hp3.only (by simp) uxi.size).trans hx19)) (by first | omega | (have := mfind_lt (M := M) (k := 1) (q := (at_mem M ((i : Int)).toNat).target); omega))) rfl ?_
   exact rfl
  refine LP_op 15 (fun _ vv => ((at_mem M ((i : Int)).toNat).dv) = vv) [(14, 39)] rfl rfl (by kernel_rfl) (fun _ _ _ _ p => p) ?_ ?_
  ·intro h19 hx20
   rintro _ rfl
   refine Needs_nil ?_
   refine Stp_yld (Y_ldr1 (off := 5) (k := ((i : Int)).toNat) (u := ((at_mem M ((i : Int)).toNat).dv)) Tryd.underlying28 rfl rfl rfl (hM.ext (((uxi.trans hn1.ext).then' hp3.only (by simp) uxi.size).trans hx20)) (by first | omega | (have := mfind_lt (M := M) (k := 1) (q := (at_mem M ((i : Int)).toNat).target); omega)) rfl) rfl ?_
   exact rfl
  refine LP_op 16 (fun _ vv => .agg #[.int .i64 ((at_mem M ((i : Int)).toNat).kind), str ((at_mem M ((i : Int)).toNat).path), .int .i64 ((at_mem M ((i : Int)).toNat).mode), str ((at_mem M ((i : Int)).toNat).target), ((at_mem M ((i : Int)).toNat).dv), .int .i64 0] = vv) [(7, 32), (15, 40), (1, 26), (3, 28), (5, 30)] rfl rfl (by kernel_rfl) (fun _ _ _ _ p => p) ?_ ?_
  ·intro h20 hx21
   rintro _ rfl
   rintro _ rfl
   rintro _ rfl
   rintro _ rfl
   rintro _ rfl
   refine Needs_nil ?_
   refine Stp_yld (Y_build (v := .agg #[.int .i64 ((at_mem M ((i : Int)).toNat).kind), str ((at_mem M ((i : Int)).toNat).path), .int .i64 ((at_mem M ((i : Int)).toNat).mode), str ((at_mem M ((i : Int)).toNat).target), ((at_mem M ((i : Int)).toNat).dv), .int .i64 0]) (pv := [(0, .int .i64 ((at_mem M ((i : Int)).toNat).kind)), (1, str ((at_mem M ((i : Int)).toNat).path)), (2, .int .i64 ((at_mem M ((i : Int)).toNat).mode)), (3, str ((at_mem M ((i : Int)).toNat).target)), (4, ((at_mem M ((i : Int)).toNat).dv))]) (evp (is := [0, 1, 2, 3, 4]) (os := [.tmp 26, .tmp 28, .tmp 30, .tmp 32, .tmp 40]) (vs := [.int .i64 ((at_mem M ((i : Int)).toNat).kind), str ((at_mem M ((i : Int)).toNat).path), .int .i64 ((at_mem M ((i : Int)).toNat).mode), str ((at_mem M ((i : Int)).toNat).target), ((at_mem M ((i : Int)).toNat).dv)]) rfl rfl) (fun _ => by obtain ⟨_, _, _, hf4_⟩ := slice_formO (show Bytes _ ((at_mem M ((i : Int)).toNat).dv) ((at_mem M ((i : Int)).toNat).data) from (hM.ext (((uxi.trans hn1.ext).then' hp3.only (by simp) uxi.size).trans hx21)).okat (k := ((i : Int)).toNat) (by first | omega | (have := mfind_lt (M := M) (k := 1) (q := (at_mem M ((i : Int)).toNat).target); omega))); rw [hf4_]; kernel_rfl)) rfl ?_
   exact rfl
  refine LP_op 17 (fun hh vv => ∃ r6_1, vv = .pointer (some ⟨r6_1, 0, none⟩) ∧ Blk hh r6_1 [.int .i64 0, str [], .int .i64 0, str [], .slice none 0 0, .int .i64 0] ∧ h3.size ≤ r6_1) [] rfl rfl (by kernel_rfl) (fun _ _ _ x_ p_ => by obtain ⟨r6_1, rfl, q6_1, q6_1l⟩ := p_; exact ⟨_, rfl, q6_1.ext x_, q6_1l⟩) ?_ ?_
  ·intro h21 hx22
   refine Needs_nil ?_
   refine Stp_mks (M_alloc (u := .agg #[.int .i64 0, str [], .int .i64 0, str [], .slice none 0 0, .int .i64 0]) (by kernel_rfl)) rfl ?_
   rintro _ h22 ⟨rfl, hn23⟩
   have hk24 : Blk h22 h21.size [.int .i64 0, str [], .int .i64 0, str [], .slice none 0 0, .int .i64 0] := hn23.blk
   exact ⟨hn23.ext, ⟨h21.size, rfl, hk24, hx22.size⟩⟩
  refine LP_tail rfl 18 [(16, 41), (17, 6)] rfl rfl (by kernel_rfl) (by kernel_rfl) (by kernel_rfl) rfl ?_
  intro h23 hx25
  rintro _ rfl
  rintro _ ⟨r6_1, rfl, q6_1, q6_1l⟩
  refine Needs_nil ?_
  have me1 := ((uxi.trans hn1.ext).then' hp3.only (by simp) uxi.size).trans hx25
  refine L_dos (D_store (us := [.int .i64 ((at_mem M ((i : Int)).toNat).kind), str ((at_mem M ((i : Int)).toNat).path), .int .i64 ((at_mem M ((i : Int)).toNat).mode), str ((at_mem M ((i : Int)).toNat).target), ((at_mem M ((i : Int)).toNat).dv), .int .i64 0]) (show _ = some 6 by kernel_rfl) rfl rfl rfl (by intro u_ hu_; simp only [List.mem_cons, List.not_mem_nil, or_false] at hu_; rcases hu_ with rfl | rfl | rfl | rfl | rfl | rfl <;> first | rfl | exact ((show Bytes _ ((at_mem M ((i : Int)).toNat).dv) ((at_mem M ((i : Int)).toNat).data) from (hM.ext me1).okat (k := ((i : Int)).toNat) (by first | omega | (have := mfind_lt (M := M) (k := 1) (q := (at_mem M ((i : Int)).toNat).target); omega)))).cell1) q6_1 (by simp)) rfl rfl ?_
  rintro h24 hp26
  have hk27 : Blk h24 r6_1 [.int .i64 ((at_mem M ((i : Int)).toNat).kind), str ((at_mem M ((i : Int)).toNat).path), .int .i64 ((at_mem M ((i : Int)).toNat).mode), str ((at_mem M ((i : Int)).toNat).target), ((at_mem M ((i : Int)).toNat).dv), .int .i64 0] := hp26.blk
  refine Nx ?_
  refine W_sub _ (tk6 6 5 2 0 3 4) ?_
  refine W_seq (W_seq (W_region ?_))
  refine Ly (Y_fieldAddr (off := 0) (by kernel_rfl) rfl rfl) ?_
  refine Ly (Y_ldblk Tryd.underlying3 rfl rfl (hk4.ext (hx25.then' hp26.only (by simp) q6_1l)) rfl) ?_
  refine Ly (Y_eql rfl rfl) ?_
  refine Nx ?_
  refine W_sub _ (tk7 44 6 5 2 0 3 4) ?_
  refine W_splitd rfl (fun a => ?_) (fun a => ?_)
  ·refine W_region ?_
   refine Mv ?_
   refine Ly (Y_add rfl rfl (by first | omega | (have := mfind_lt (M := M) (k := 1) (q := (at_mem M ((i : Int)).toNat).target); omega)) (by first | omega | (have := mfind_lt (M := M) (k := 1) (q := (at_mem M ((i : Int)).toNat).target); omega))) ?_
   refine Ly (Y_fieldAddr (off := 5) (by kernel_rfl) rfl rfl) ?_
   refine L_dos (D_store (us := [.int .i64 ((i : Int) + 1)]) (show _ = some 1 by kernel_rfl) rfl rfl rfl (by simp [Value.oneCell']) hk27 (by simp)) rfl rfl ?_
   rintro h25 hp28
   have hk29 : Blk h25 r6_1 [.int .i64 ((at_mem M ((i : Int)).toNat).kind), str ((at_mem M ((i : Int)).toNat).path), .int .i64 ((at_mem M ((i : Int)).toNat).mode), str ((at_mem M ((i : Int)).toNat).target), ((at_mem M ((i : Int)).toNat).dv), .int .i64 ((i : Int) + 1)] := hp28.blk
   refine Nx ?_
   refine W_sub _ (tk6 6 5 2 0 3 4) ?_
   refine W_seq (W_seq (W_region ?_))
   refine Ly (Y_fieldAddr (off := 0) (by kernel_rfl) rfl rfl) ?_
   have me2 := (hx25.then' hp26.only (by simp) q6_1l).then' hp28.only (by simp) q6_1l
   refine Ly (Y_ldblk Tryd.underlying3 rfl rfl (hk4.ext me2) rfl) ?_
   refine Ly (Y_eql rfl rfl) ?_
   refine Nx ?_
   refine W_sub _ (tk7 50 6 5 2 0 3 4) ?_
   refine W_known false rfl (by exact decide_eq_false (by exact fun q => by omega)) ?_
   refine Ws ?_
   refine W_sub _ (tk5 6 2 0 3 4) ?_
   refine W_region ?_
   refine Mv ?_
   refine Ly (Y_ldbox (us := [.int .i64 ((at_mem M ((i : Int)).toNat).kind), str ((at_mem M ((i : Int)).toNat).path), .int .i64 ((at_mem M ((i : Int)).toNat).mode), str ((at_mem M ((i : Int)).toNat).target), ((at_mem M ((i : Int)).toNat).dv), .int .i64 ((i : Int) + 1)]) Tryd.underlying48 rfl (show _ = some 6 by kernel_rfl) rfl hk29 rfl) ?_
   have me3 := Nat.le_trans (Nat.le_trans uxi.size hn1.ext.size) hp3.only.size
   have me4 := (me1.then' hp26.only (by simp) (Nat.le_trans me3 q6_1l)).then' hp28.only (by simp) (Nat.le_trans me3 q6_1l)
   refine L_mks (M_litr (S := nodS) (l := ([⟨(at_mem M ((i : Int)).toNat).kind, (at_mem M ((i : Int)).toNat).path, (at_mem M ((i : Int)).toNat).mode, (at_mem M ((i : Int)).toNat).target, ((at_mem M ((i : Int)).toNat).dv), (at_mem M ((i : Int)).toNat).data, (i : Int) + 1⟩] : List Nod)) (cells := [.int .i64 ((at_mem M ((i : Int)).toNat).kind), str ((at_mem M ((i : Int)).toNat).path), .int .i64 ((at_mem M ((i : Int)).toNat).mode), str ((at_mem M ((i : Int)).toNat).target), ((at_mem M ((i : Int)).toNat).dv), .int .i64 ((i : Int) + 1)]) (pv := [(0, .agg #[.int .i64 ((at_mem M ((i : Int)).toNat).kind), str ((at_mem M ((i : Int)).toNat).path), .int .i64 ((at_mem M ((i : Int)).toNat).mode), str ((at_mem M ((i : Int)).toNat).target), ((at_mem M ((i : Int)).toNat).dv), .int .i64 ((i : Int) + 1)])]) (E := 48) (evp (is := [0]) (os := [.tmp 71]) (vs := [.agg #[.int .i64 ((at_mem M ((i : Int)).toNat).kind), str ((at_mem M ((i : Int)).toNat).path), .int .i64 ((at_mem M ((i : Int)).toNat).mode), str ((at_mem M ((i : Int)).toNat).target), ((at_mem M ((i : Int)).toNat).dv), .int .i64 ((i : Int) + 1)]]) rfl rfl) rfl rfl (fun _ => by kernel_rfl) (by simp only [List.mem_cons, List.not_mem_nil, or_false, forall_eq_or_imp, forall_eq]; exact (show Bytes _ ((at_mem M ((i : Int)).toNat).dv) ((at_mem M ((i : Int)).toNat).data) from (hM.ext me4).okat (k := ((i : Int)).toNat) (by first | omega | (have := mfind_lt (M := M) (k := 1) (q := (at_mem M ((i : Int)).toNat).target); omega))))) rfl rfl rfl ?_
   rintro v30 h26 ⟨ho31, hx32⟩
   have me5 := (hn1.ext.then' hp3.only (by simp) (Nat.le_refl _)).trans hx25
   have me6 := me5.then' hp26.only (by simp) (Nat.le_trans (Nat.le_trans hn1.ext.size hp3.only.size) q6_1l)
   have me7 := me6.then' hp28.only (by simp) (Nat.le_trans (Nat.le_trans hn1.ext.size hp3.only.size) q6_1l)
   have me8 := Nat.le_trans (Nat.le_trans (Nat.le_trans me3 hx25.size) hp26.only.size) hp28.only.size
   refine L_mks (M_apprG (z := 6) (bytes := 80) (z0 := (.agg #[.int .i64 0, str [], .int .i64 0, str [], .slice none 0 0, .int .i64 0])) Tryd.underlying32 (by unfold elemRow; kernel_rfl) rfl rfl (by decide) rfl rfl (uoN.ext (me7.trans hx32)) ho31.rows (Nat.le_trans me8 hx32.size) (by first | (simp; omega) | (simp; done) | omega) (fun h9 y9 hge x9 hx9 => (List.mem_append.1 hx9).elim (fun q => rnods_mem (rnod_ok (hM.ext (Ext.then' (me4.trans hx32) y9 hge (Nat.le_refl _))) hk) i (by omega) x9 q) (fun q => by rw [List.mem_singleton.1 q]; exact (hM.ext (Ext.then' (me4.trans hx32) y9 hge (Nat.le_refl _))).2 _ (bm_mem (k := ((i : Int)).toNat) (by omega))))) rfl rfl rfl ?_
   rintro v33 h27 ⟨ha34, ha34l⟩
   refine Av ?_
   refine L_nil (X_block (X_then ?_))
   refine W_sub _ (tk4 3 2 0 4) ?_
   refine W_region ?_
   refine Mv ?_
   refine Ly (Y_add rfl rfl (by first | omega | (have := mfind_lt (M := M) (k := 1) (q := (at_mem M ((i : Int)).toNat).target); omega)) (by first | omega | (have := mfind_lt (M := M) (k := 1) (q := (at_mem M ((i : Int)).toNat).target); omega))) ?_
   refine Av ?_
   refine L_nil ?_
   refine X_loop ((i + 1, v33)) (tk4 2 0 3 4) ?_ ?_
   ·exact ⟨by omega, ((me4.trans hx32).then' ha34.only ha34.ge (Nat.le_refl _)), rowsO_congr ha34.own (by rw [nn] at a ⊢; exact rnod_1 a)⟩
   (try dsimp only)
   omega
  refine Ws ?_
  refine W_sub _ (tk6 6 5 2 0 3 4) ?_
  refine W_seq (W_seq (W_region ?_))
  refine Ly (Y_fieldAddr (off := 0) (by kernel_rfl) rfl rfl) ?_
  refine Ly (Y_ldblk Tryd.underlying3 rfl rfl (hk4.ext (hx25.then' hp26.only (by simp) q6_1l)) rfl) ?_
  refine Ly (Y_eql rfl rfl) ?_
  refine Nx ?_
  refine W_sub _ (tk7 50 6 5 2 0 3 4) ?_
  refine W_splitd rfl (fun b => ?_) (fun b => ?_)
  ·refine Wr ?_
   refine Mv ?_
   refine Ly (Y_fieldAddr (off := 3) (by kernel_rfl) rfl rfl) ?_
   refine Ly (Y_ldblk Tryd.underlying9 rfl rfl (hk4.ext (hx25.then' hp26.only (by simp) q6_1l)) rfl) ?_
   have me9 := Nat.le_trans (Nat.le_trans uxi.size hn1.ext.size) hp3.only.size
   refine L_call (E_call (by kernel_rfl) rfl) (ref15_find _ c cv M (hM.ext (me1.then' hp26.only (by simp) (Nat.le_trans me9 q6_1l))) (hc.ext (me1.then' hp26.only (by simp) (Nat.le_trans me9 q6_1l))) (1 : Int) ((at_mem M ((i : Int)).toNat).target) (by first | first | omega | (have := mfind_lt (M := M) (k := 1) (q := (at_mem M ((i : Int)).toNat).target); omega) | rfl | (simp <;> omega))) rfl rfl rfl ?_
   rintro _ h24 ⟨rfl, rfl⟩
   refine Av ?_
   refine Nx ?_
   refine W_sub _ (tk7 7 6 5 2 0 3 4) ?_
   refine W_pers [(7, .int .i64 (mfind M (1 : Int) ((at_mem M ((i : Int)).toNat).target))), (6, .pointer (some ⟨r6_1, 0, none⟩)), (5, .pointer (some ⟨h1.size, 0, none⟩)), (2, .slice none 0 0), (0, .pointer (some ⟨c, 0, none⟩)), (3, vo), (4, .int .i64 ((i : Int)))] (tk7 7 6 5 2 0 3 4) (by kernel_rfl) ?_
   refine LP_op 0 (fun _ vv => .pointer (some ⟨h1.size, 0 + 1, none⟩) = vv) [] rfl rfl (by kernel_rfl) (fun _ _ _ _ p => p) ?_ ?_
   ·intro h28 hx35
    refine Needs_nil ?_
    refine Stp_yld (Y_fieldAddr (off := 1) (by kernel_rfl) rfl rfl) rfl ?_
    exact rfl
   refine LP_op 1 (fun _ vv => str ((at_mem M ((i : Int)).toNat).path) = vv) [(0, 55)] rfl rfl (by kernel_rfl) (fun _ _ _ _ p => p) ?_ ?_
   ·intro h29 hx36
    rintro _ rfl
    refine Needs_nil ?_
    refine Stp_yld (Y_ldblk Tryd.underlying9 rfl rfl (hk4.ext ((hx25.then' hp26.only (by simp) q6_1l).trans hx36)) rfl) rfl ?_
    exact rfl
   refine LP_op 2 (fun _ vv => .pointer (some ⟨h1.size, 0 + 2, none⟩) = vv) [] rfl rfl (by kernel_rfl) (fun _ _ _ _ p => p) ?_ ?_
   ·intro h30 hx37
    refine Needs_nil ?_
    refine Stp_yld (Y_fieldAddr (off := 2) (by kernel_rfl) rfl rfl) rfl ?_
    exact rfl
   refine LP_op 3 (fun _ vv => .int .i64 ((at_mem M ((i : Int)).toNat).mode) = vv) [(2, 57)] rfl rfl (by kernel_rfl) (fun _ _ _ _ p => p) ?_ ?_
   ·intro h31 hx38
    rintro _ rfl
    refine Needs_nil ?_
    refine Stp_yld (Y_ldblk Tryd.underlying3 rfl rfl (hk4.ext ((hx25.then' hp26.only (by simp) q6_1l).trans hx38)) rfl) rfl ?_
    exact rfl
   refine LP_op 4 (fun _ vv => .pointer (some ⟨c, 0, none⟩) = vv) [] rfl rfl (by kernel_rfl) (fun _ _ _ _ p => p) ?_ ?_
   ·intro h32 hx39
    refine Needs_nil ?_
    refine Stp_yld (Y_move rfl) rfl ?_
    exact rfl
   refine LP_op 5 (fun _ vv => .pointer (some ⟨c, 0, none⟩) = vv) [(4, 59)] rfl rfl (by kernel_rfl) (fun _ _ _ _ p => p) ?_ ?_
   ·intro h33 hx40
    rintro _ rfl
    refine Needs_nil ?_
    refine Stp_yld (Y_nilCheck rfl) rfl ?_
    exact rfl
   refine LP_op 6 (fun _ vv => .pointer (some ⟨c, 0 + 0, none⟩) = vv) [(5, 60)] rfl rfl (by kernel_rfl) (fun _ _ _ _ p => p) ?_ ?_
   ·intro h34 hx41
    rintro _ rfl
    refine Needs_nil ?_
    refine Stp_yld (Y_fieldAddr (off := 0) (by kernel_rfl) rfl rfl) rfl ?_
    exact rfl
   refine LP_op 7 (fun _ vv => cv = vv) [(6, 61)] rfl rfl (by kernel_rfl) (fun _ _ _ _ p => p) ?_ ?_
   ·intro h35 hx42
    rintro _ rfl
    refine Needs_nil ?_
    refine Stp_yld (Y_ldblk Tryd.underlying22 rfl rfl (hc.ext (((((uxi.trans hn1.ext).then' hp3.only (by simp) uxi.size).trans hx25).then' hp26.only (by simp) (Nat.le_trans (Nat.le_trans (Nat.le_trans uxi.size hn1.ext.size) hp3.only.size) q6_1l)).trans hx42)) rfl) rfl ?_
    exact rfl
   refine LP_op 8 (fun _ vv => .int .i64 (mfind M (1 : Int) ((at_mem M ((i : Int)).toNat).target)) = vv) [] rfl rfl (by kernel_rfl) (fun _ _ _ _ p => p) ?_ ?_
   ·intro h36 hx43
    refine Needs_nil ?_
    refine Stp_yld (Y_move rfl) rfl ?_
    exact rfl
   refine LP_op 9 (fun _ vv => .pointer (some (elemAddr cv ((mfind M (1 : Int) ((at_mem M ((i : Int)).toNat).target)).toNat * 6))) = vv) [(7, 62), (8, 63)] rfl rfl (by kernel_rfl) (fun _ _ _ _ p => p) ?_ ?_
   ·intro h37 hx44
    rintro _ rfl
    rintro _ rfl
    refine Needs_nil ?_
    refine Stp_yld (Y_idxr Tryd.underlying22 (show _ = some 6 by kernel_rfl) rfl rfl rfl (hM.ext (((((uxi.trans hn1.ext).then' hp3.only (by simp) uxi.size).trans hx25).then' hp26.only (by simp) (Nat.le_trans (Nat.le_trans (Nat.le_trans uxi.size hn1.ext.size) hp3.only.size) q6_1l)).trans hx44)) (by first | omega | (have := mfind_lt (M := M) (k := 1) (q := (at_mem M ((i : Int)).toNat).target); omega)) (by first | omega | (have := mfind_lt (M := M) (k := 1) (q := (at_mem M ((i : Int)).toNat).target); omega))) rfl ?_
    exact rfl
   refine LP_op 10 (fun _ vv => .pointer (some (elemAddr cv ((mfind M (1 : Int) ((at_mem M ((i : Int)).toNat).target)).toNat * 6 + 5))) = vv) [(9, 64)] rfl rfl (by kernel_rfl) (fun _ _ _ _ p => p) ?_ ?_
   ·intro h38 hx45
    rintro _ rfl
    refine Needs_nil ?_
    refine Stp_yld (Y_fldr (k := (mfind M (1 : Int) ((at_mem M ((i : Int)).toNat).target)).toNat) (off := 5) (by kernel_rfl) rfl (hM.ext (((((uxi.trans hn1.ext).then' hp3.only (by simp) uxi.size).trans hx25).then' hp26.only (by simp) (Nat.le_trans (Nat.le_trans (Nat.le_trans uxi.size hn1.ext.size) hp3.only.size) q6_1l)).trans hx45)) (by first | omega | (have := mfind_lt (M := M) (k := 1) (q := (at_mem M ((i : Int)).toNat).target); omega))) rfl ?_
    exact rfl
   refine LP_op 11 (fun _ vv => ((at_mem M (mfind M (1 : Int) ((at_mem M ((i : Int)).toNat).target)).toNat).dv) = vv) [(10, 65)] rfl rfl (by kernel_rfl) (fun _ _ _ _ p => p) ?_ ?_
   ·intro h39 hx46
    rintro _ rfl
    refine Needs_nil ?_
    refine Stp_yld (Y_ldr1 (off := 5) (k := (mfind M (1 : Int) ((at_mem M ((i : Int)).toNat).target)).toNat) (u := ((at_mem M (mfind M (1 : Int) ((at_mem M ((i : Int)).toNat).target)).toNat).dv)) Tryd.underlying28 rfl rfl rfl (hM.ext (((((uxi.trans hn1.ext).then' hp3.only (by simp) uxi.size).trans hx25).then' hp26.only (by simp) (Nat.le_trans (Nat.le_trans (Nat.le_trans uxi.size hn1.ext.size) hp3.only.size) q6_1l)).trans hx46)) (by first | omega | (have := mfind_lt (M := M) (k := 1) (q := (at_mem M ((i : Int)).toNat).target); omega)) rfl) rfl ?_
    exact rfl
   refine LP_op 12 (fun _ vv => .int .i64 (mfind M (1 : Int) ((at_mem M ((i : Int)).toNat).target)) = vv) [] rfl rfl (by kernel_rfl) (fun _ _ _ _ p => p) ?_ ?_
   ·intro h40 hx47
    refine Needs_nil ?_
    refine Stp_yld (Y_move rfl) rfl ?_
    exact rfl
   refine LP_op 13 (fun _ vv => .int .i64 ((mfind M (1 : Int) ((at_mem M ((i : Int)).toNat).target)) + 1) = vv) [(12, 67)] rfl rfl (by kernel_rfl) (fun _ _ _ _ p => p) ?_ ?_
   ·intro h41 hx48
    rintro _ rfl
    refine Needs_nil ?_
    refine Stp_yld (Y_add rfl rfl (by first | omega | (have := mfind_lt (M := M) (k := 1) (q := (at_mem M ((i : Int)).toNat).target); omega)) (by first | omega | (have := mfind_lt (M := M) (k := 1) (q := (at_mem M ((i : Int)).toNat).target); omega))) rfl ?_
    exact rfl
   refine LP_op 14 (fun _ vv => .agg #[.int .i64 1, str ((at_mem M ((i : Int)).toNat).path), .int .i64 ((at_mem M ((i : Int)).toNat).mode), str [], ((at_mem M (mfind M (1 : Int) ((at_mem M ((i : Int)).toNat).target)).toNat).dv), .int .i64 ((mfind M (1 : Int) ((at_mem M ((i : Int)).toNat).target)) + 1)] = vv) [(1, 56), (3, 58), (13, 68), (11, 66)] rfl rfl (by kernel_rfl) (fun _ _ _ _ p => p) ?_ ?_
   ·intro h42 hx49
    rintro _ rfl
    rintro _ rfl
    rintro _ rfl
    rintro _ rfl
    refine Needs_nil ?_
    refine Stp_yld (Y_build (v := .agg #[.int .i64 1, str ((at_mem M ((i : Int)).toNat).path), .int .i64 ((at_mem M ((i : Int)).toNat).mode), str [], ((at_mem M (mfind M (1 : Int) ((at_mem M ((i : Int)).toNat).target)).toNat).dv), .int .i64 ((mfind M (1 : Int) ((at_mem M ((i : Int)).toNat).target)) + 1)]) (pv := [(0, .int .i64 1), (1, str ((at_mem M ((i : Int)).toNat).path)), (2, .int .i64 ((at_mem M ((i : Int)).toNat).mode)), (4, ((at_mem M (mfind M (1 : Int) ((at_mem M ((i : Int)).toNat).target)).toNat).dv)), (5, .int .i64 ((mfind M (1 : Int) ((at_mem M ((i : Int)).toNat).target)) + 1))]) (evp (is := [0, 1, 2, 4, 5]) (os := [.const (.int .i64 1), .tmp 56, .tmp 58, .tmp 66, .tmp 68]) (vs := [.int .i64 1, str ((at_mem M ((i : Int)).toNat).path), .int .i64 ((at_mem M ((i : Int)).toNat).mode), ((at_mem M (mfind M (1 : Int) ((at_mem M ((i : Int)).toNat).target)).toNat).dv), .int .i64 ((mfind M (1 : Int) ((at_mem M ((i : Int)).toNat).target)) + 1)]) rfl rfl) (fun _ => by obtain ⟨_, _, _, hf4_⟩ := slice_formO (show Bytes _ ((at_mem M (mfind M (1 : Int) ((at_mem M ((i : Int)).toNat).target)).toNat).dv) ((at_mem M (mfind M (1 : Int) ((at_mem M ((i : Int)).toNat).target)).toNat).data) from (hM.ext (((((uxi.trans hn1.ext).then' hp3.only (by simp) uxi.size).trans hx25).then' hp26.only (by simp) (Nat.le_trans (Nat.le_trans (Nat.le_trans uxi.size hn1.ext.size) hp3.only.size) q6_1l)).trans hx49)).okat (k := (mfind M (1 : Int) ((at_mem M ((i : Int)).toNat).target)).toNat) (by first | omega | (have := mfind_lt (M := M) (k := 1) (q := (at_mem M ((i : Int)).toNat).target); omega))); rw [hf4_]; kernel_rfl)) rfl ?_
    exact rfl
   refine LP_tail rfl 15 [(14, 69)] rfl rfl (by kernel_rfl) (by kernel_rfl) (by kernel_rfl) rfl ?_
   intro h43 hx50
   rintro _ rfl
   refine Needs_nil ?_
   have me10 := (me1.then' hp26.only (by simp) (Nat.le_trans me9 q6_1l)).trans hx50
   refine L_dos (D_store (us := [.int .i64 1, str ((at_mem M ((i : Int)).toNat).path), .int .i64 ((at_mem M ((i : Int)).toNat).mode), str [], ((at_mem M (mfind M (1 : Int) ((at_mem M ((i : Int)).toNat).target)).toNat).dv), .int .i64 ((mfind M (1 : Int) ((at_mem M ((i : Int)).toNat).target)) + 1)]) (show _ = some 6 by kernel_rfl) rfl rfl rfl (by intro u_ hu_; simp only [List.mem_cons, List.not_mem_nil, or_false] at hu_; rcases hu_ with rfl | rfl | rfl | rfl | rfl | rfl <;> first | rfl | exact ((show Bytes _ ((at_mem M (mfind M (1 : Int) ((at_mem M ((i : Int)).toNat).target)).toNat).dv) ((at_mem M (mfind M (1 : Int) ((at_mem M ((i : Int)).toNat).target)).toNat).data) from (hM.ext me10).okat (k := (mfind M (1 : Int) ((at_mem M ((i : Int)).toNat).target)).toNat) (by first | omega | (have := mfind_lt (M := M) (k := 1) (q := (at_mem M ((i : Int)).toNat).target); omega)))).cell1) (hk27.ext hx50) (by simp)) rfl rfl ?_
   rintro h44 hp51
   have hk52 : Blk h44 r6_1 [.int .i64 1, str ((at_mem M ((i : Int)).toNat).path), .int .i64 ((at_mem M ((i : Int)).toNat).mode), str [], ((at_mem M (mfind M (1 : Int) ((at_mem M ((i : Int)).toNat).target)).toNat).dv), .int .i64 ((mfind M (1 : Int) ((at_mem M ((i : Int)).toNat).target)) + 1)] := hp51.blk
   refine Nx ?_
   refine W_sub _ (tk5 6 2 0 3 4) ?_
   refine W_region ?_
   refine Mv ?_
   refine Ly (Y_ldbox (us := [.int .i64 1, str ((at_mem M ((i : Int)).toNat).path), .int .i64 ((at_mem M ((i : Int)).toNat).mode), str [], ((at_mem M (mfind M (1 : Int) ((at_mem M ((i : Int)).toNat).target)).toNat).dv), .int .i64 ((mfind M (1 : Int) ((at_mem M ((i : Int)).toNat).target)) + 1)]) Tryd.underlying48 rfl (show _ = some 6 by kernel_rfl) rfl hk52 rfl) ?_
   refine L_mks (M_litr (S := nodS) (l := ([⟨(1 : Int), (at_mem M ((i : Int)).toNat).path, (at_mem M ((i : Int)).toNat).mode, [], ((at_mem M (mfind M (1 : Int) ((at_mem M ((i : Int)).toNat).target)).toNat).dv), (at_mem M (mfind M (1 : Int) ((at_mem M ((i : Int)).toNat).target)).toNat).data, (mfind M (1 : Int) ((at_mem M ((i : Int)).toNat).target)) + 1⟩] : List Nod)) (cells := [.int .i64 1, str ((at_mem M ((i : Int)).toNat).path), .int .i64 ((at_mem M ((i : Int)).toNat).mode), str [], ((at_mem M (mfind M (1 : Int) ((at_mem M ((i : Int)).toNat).target)).toNat).dv), .int .i64 ((mfind M (1 : Int) ((at_mem M ((i : Int)).toNat).target)) + 1)]) (pv := [(0, .agg #[.int .i64 1, str ((at_mem M ((i : Int)).toNat).path), .int .i64 ((at_mem M ((i : Int)).toNat).mode), str [], ((at_mem M (mfind M (1 : Int) ((at_mem M ((i : Int)).toNat).target)).toNat).dv), .int .i64 ((mfind M (1 : Int) ((at_mem M ((i : Int)).toNat).target)) + 1)])]) (E := 48) (evp (is := [0]) (os := [.tmp 71]) (vs := [.agg #[.int .i64 1, str ((at_mem M ((i : Int)).toNat).path), .int .i64 ((at_mem M ((i : Int)).toNat).mode), str [], ((at_mem M (mfind M (1 : Int) ((at_mem M ((i : Int)).toNat).target)).toNat).dv), .int .i64 ((mfind M (1 : Int) ((at_mem M ((i : Int)).toNat).target)) + 1)]]) rfl rfl) rfl rfl (fun _ => by kernel_rfl) (by simp only [List.mem_cons, List.not_mem_nil, or_false, forall_eq_or_imp, forall_eq]; exact (show Bytes _ ((at_mem M (mfind M (1 : Int) ((at_mem M ((i : Int)).toNat).target)).toNat).dv) ((at_mem M (mfind M (1 : Int) ((at_mem M ((i : Int)).toNat).target)).toNat).data) from (hM.ext (me10.then' hp51.only (by simp) (Nat.le_trans me9 q6_1l))).okat (k := (mfind M (1 : Int) ((at_mem M ((i : Int)).toNat).target)).toNat) (by first | omega | (have := mfind_lt (M := M) (k := 1) (q := (at_mem M ((i : Int)).toNat).target); omega))))) rfl rfl rfl ?_
   rintro v53 h45 ⟨ho54, hx55⟩
   have me11 := (hn1.ext.then' hp3.only (by simp) (Nat.le_refl _)).trans hx25
   have me12 := me11.then' hp26.only (by simp) (Nat.le_trans (Nat.le_trans hn1.ext.size hp3.only.size) q6_1l)
   have me13 := (me12.trans hx50).then' hp51.only (by simp) (Nat.le_trans (Nat.le_trans hn1.ext.size hp3.only.size) q6_1l)
   have me14 := (me10.then' hp51.only (by simp) (Nat.le_trans me9 q6_1l)).trans hx55
   have me15 := Nat.le_trans (Nat.le_trans (Nat.le_trans me9 hx25.size) hp26.only.size) hx50.size
   refine L_mks (M_apprG (z := 6) (bytes := 80) (z0 := (.agg #[.int .i64 0, str [], .int .i64 0, str [], .slice none 0 0, .int .i64 0])) Tryd.underlying32 (by unfold elemRow; kernel_rfl) rfl rfl (by decide) rfl rfl (uoN.ext (me13.trans hx55)) ho54.rows (Nat.le_trans (Nat.le_trans me15 hp51.only.size) hx55.size) (by first | (simp; omega) | (simp; done) | omega) (fun h9 y9 hge x9 hx9 => (List.mem_append.1 hx9).elim (fun q => rnods_mem (rnod_ok (hM.ext (Ext.then' me14 y9 hge (Nat.le_refl _))) hk) i (by omega) x9 q) (fun q => by rw [List.mem_singleton.1 q]; exact (hM.ext (Ext.then' me14 y9 hge (Nat.le_refl _))).2 _ (bm_mem (k := (mfind M 1 (at_mem M ((i : Int)).toNat).target).toNat) (by have := mfind_lt (M := M) (k := 1) (q := (at_mem M ((i : Int)).toNat).target); have := hk9 b; omega))))) rfl rfl rfl ?_
   rintro v56 h46 ⟨ha57, ha57l⟩
   refine Av ?_
   refine L_nil (X_block (X_then ?_))
   refine W_sub _ (tk4 3 2 0 4) ?_
   refine W_region ?_
   refine Mv ?_
   refine Ly (Y_add rfl rfl (by first | omega | (have := mfind_lt (M := M) (k := 1) (q := (at_mem M ((i : Int)).toNat).target); omega)) (by first | omega | (have := mfind_lt (M := M) (k := 1) (q := (at_mem M ((i : Int)).toNat).target); omega))) ?_
   refine Av ?_
   refine L_nil ?_
   refine X_loop ((i + 1, v56)) (tk4 2 0 3 4) ?_ ?_
   ·exact ⟨by omega, (me14.then' ha57.only ha57.ge (Nat.le_refl _)), rowsO_congr ha57.own (by rw [nn] at b ⊢; exact rnod_3 b)⟩
   (try dsimp only)
   omega
  refine Ws ?_
  refine W_sub _ (tk5 6 2 0 3 4) ?_
  refine W_region ?_
  refine Mv ?_
  refine Ly (Y_ldbox (us := [.int .i64 ((at_mem M ((i : Int)).toNat).kind), str ((at_mem M ((i : Int)).toNat).path), .int .i64 ((at_mem M ((i : Int)).toNat).mode), str ((at_mem M ((i : Int)).toNat).target), ((at_mem M ((i : Int)).toNat).dv), .int .i64 0]) Tryd.underlying48 rfl (show _ = some 6 by kernel_rfl) rfl hk27 rfl) ?_
  have me16 := Nat.le_trans (Nat.le_trans uxi.size hn1.ext.size) hp3.only.size
  refine L_mks (M_litr (S := nodS) (l := ([⟨(at_mem M ((i : Int)).toNat).kind, (at_mem M ((i : Int)).toNat).path, (at_mem M ((i : Int)).toNat).mode, (at_mem M ((i : Int)).toNat).target, ((at_mem M ((i : Int)).toNat).dv), (at_mem M ((i : Int)).toNat).data, (0 : Int)⟩] : List Nod)) (cells := [.int .i64 ((at_mem M ((i : Int)).toNat).kind), str ((at_mem M ((i : Int)).toNat).path), .int .i64 ((at_mem M ((i : Int)).toNat).mode), str ((at_mem M ((i : Int)).toNat).target), ((at_mem M ((i : Int)).toNat).dv), .int .i64 0]) (pv := [(0, .agg #[.int .i64 ((at_mem M ((i : Int)).toNat).kind), str ((at_mem M ((i : Int)).toNat).path), .int .i64 ((at_mem M ((i : Int)).toNat).mode), str ((at_mem M ((i : Int)).toNat).target), ((at_mem M ((i : Int)).toNat).dv), .int .i64 0])]) (E := 48) (evp (is := [0]) (os := [.tmp 71]) (vs := [.agg #[.int .i64 ((at_mem M ((i : Int)).toNat).kind), str ((at_mem M ((i : Int)).toNat).path), .int .i64 ((at_mem M ((i : Int)).toNat).mode), str ((at_mem M ((i : Int)).toNat).target), ((at_mem M ((i : Int)).toNat).dv), .int .i64 0]]) rfl rfl) rfl rfl (fun _ => by kernel_rfl) (by simp only [List.mem_cons, List.not_mem_nil, or_false, forall_eq_or_imp, forall_eq]; exact (show Bytes _ ((at_mem M ((i : Int)).toNat).dv) ((at_mem M ((i : Int)).toNat).data) from (hM.ext (me1.then' hp26.only (by simp) (Nat.le_trans me16 q6_1l))).okat (k := ((i : Int)).toNat) (by first | omega | (have := mfind_lt (M := M) (k := 1) (q := (at_mem M ((i : Int)).toNat).target); omega))))) rfl rfl rfl ?_
  rintro v58 h47 ⟨ho59, hx60⟩
  have me17 := (hn1.ext.then' hp3.only (by simp) (Nat.le_refl _)).trans hx25
  have me18 := me17.then' hp26.only (by simp) (Nat.le_trans (Nat.le_trans hn1.ext.size hp3.only.size) q6_1l)
  have me19 := (me1.then' hp26.only (by simp) (Nat.le_trans me16 q6_1l)).trans hx60
  have me20 := Nat.le_trans (Nat.le_trans (Nat.le_trans me16 hx25.size) hp26.only.size) hx60.size
  refine L_mks (M_apprG (z := 6) (bytes := 80) (z0 := (.agg #[.int .i64 0, str [], .int .i64 0, str [], .slice none 0 0, .int .i64 0])) Tryd.underlying32 (by unfold elemRow; kernel_rfl) rfl rfl (by decide) rfl rfl (uoN.ext (me18.trans hx60)) ho59.rows me20 (by first | (simp; omega) | (simp; done) | omega) (fun h9 y9 hge x9 hx9 => (List.mem_append.1 hx9).elim (fun q => rnods_mem (rnod_ok (hM.ext (Ext.then' me19 y9 hge (Nat.le_refl _))) hk) i (by omega) x9 q) (fun q => by rw [List.mem_singleton.1 q]; exact (hM.ext (Ext.then' me19 y9 hge (Nat.le_refl _))).2 _ (bm_mem (k := ((i : Int)).toNat) (by omega))))) rfl rfl rfl ?_
  rintro v61 h48 ⟨ha62, ha62l⟩
  refine Av ?_
  refine L_nil (X_block (X_then ?_))
  refine W_sub _ (tk4 3 2 0 4) ?_
  refine W_region ?_
  refine Mv ?_
  refine Ly (Y_add rfl rfl (by first | omega | (have := mfind_lt (M := M) (k := 1) (q := (at_mem M ((i : Int)).toNat).target); omega)) (by first | omega | (have := mfind_lt (M := M) (k := 1) (q := (at_mem M ((i : Int)).toNat).target); omega))) ?_
  refine Av ?_
  refine L_nil ?_
  refine X_loop ((i + 1, v61)) (tk4 2 0 3 4) ?_ ?_
  ·exact ⟨by omega, (me19.then' ha62.only ha62.ge (Nat.le_refl _)), rowsO_congr ha62.own (by rw [nn] at a b ⊢; exact rnod_0 a b)⟩
  (try dsimp only)
  omega
 refine W_exit ?_
 refine X_then_exit (X_then_exit ?_)
 refine X_block_hit ?_
 refine X_then ?_
 refine W_sub _ (tk2 2 3) ?_
 have hiM : i = M.length := by omega
 refine Wr ?_
 refine Mv ?_
 refine L_call (E_call (by kernel_rfl) rfl) (ref13_Canon _ vo (rnods M i) uoN.rows (by simp; omega) (rnods_mem (rnod_sz hs hk) i (by omega))) rfl rfl rfl ?_
 rintro s063 h49 ⟨_, L064, rfl, hr065, hq066, hx67⟩
 refine Av ?_
 refine Nx ?_
 refine W_sub _ (tk1 2) ?_
 refine W_ret ?_
 refine X_ret1 rfl rfl ?_
 exact ⟨_, _, rfl, hr065, by have e9 := hq066; rw [rnods_len, hiM] at e9; exact e9, (uxi.trans hx67)⟩
end Go.Xp
