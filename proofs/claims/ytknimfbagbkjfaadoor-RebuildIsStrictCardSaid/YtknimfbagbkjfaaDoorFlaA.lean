/- Layer 14 (flatten): Members: what the code does, step by step. -/
import Derived.Test.YtknimfbagbkjfaaDoorCanE
import Derived.Test.YtknimfbagbkjfaaDoorFlaM
import Derived.Test.YtknimfbagbkjfaaDoorFlaL
import Derived.Test.YtknimfbagbkjfaaDoorTreeP
set_option linter.unusedSimpArgs false
set_option linter.unusedVariables false
set_option linter.unusedSectionVars false
namespace Go.Xp
open Go.Proofs

/-- The members that Members answers. -/
def mbs (l : List Nod) : List Mem := if terr l = 0 then mem1 (cno l) else []
theorem at_erm (L : List Mem) (k : Nat) : at_mem (L.map erm) k = erm (at_mem L k) := by
  unfold at_mem
  rw [List.getD_eq_getElem?_getD, List.getD_eq_getElem?_getD, List.getElem?_map]
  cases L[k]? <;> rfl
theorem mmem_ok {H : Heap} {M : List (Int × List UInt8)} {x : Nod} (o : nodS.ok H x) : memS.ok H (mmem M x) := by
  unfold mmem
  split
  · exact Bytes.nil H
  · split
    · exact o
    · exact Bytes.nil H
theorem mms_ok {H : Heap} {C : List Nod} {i : Nat} (o : ∀ x ∈ mms C i, memS.ok H x) (h : nodS.ok H (at_nod C i)) : ∀ x ∈ mms C (i + 1), memS.ok H x := fun x hx => by
  unfold mms at hx
  rcases List.mem_append.1 hx with q | q
  · exact o x q
  · rw [List.mem_singleton.1 q]; exact mmem_ok h
theorem mbs_of {l C : List Nod} {n : Nat} (hz : terr l = 0) (hq : C.length = n ∧ C.map er = cno l) : (mms C C.length).map erm = mbs l := by
  have hC : Cfl C := fun x hx hc => by
    have := (tok_of hz).set.cno.cfl (er x) (by rw [← hq.2]; exact List.mem_map_of_mem hx) hc
    exact this
  rw [mms_mem1 hC, hq.2]
  unfold mbs; rw [if_pos hz]

theorem rowsO_congr {β : Type} {S : Sch β} {h : Heap} {b : Nat} {v : Value} {l l' : List β} (x : RowsO S h b v l) (e : l = l') : RowsO S h b v l' := e ▸ x
theorem mms_y {C : List Nod} {i : Nat} (h : lnk (mmk C i) (at_nod C i)) : mms C i ++ [⟨3, (at_nod C i).path, (at_nod C i).mode, (aget (mmk C i) (at_nod C i).cls).getD [], 0, .slice none 0 0, []⟩] = mms C (i + 1) ∧ mmk C i = mmk C (i + 1) := by
  conv => rhs; rhs; unfold mmk
  conv => lhs; rhs; unfold mms
  unfold mmem mmap
  rw [if_pos h, if_pos h]
  exact ⟨rfl, rfl⟩
theorem mms_f {C : List Nod} {i : Nat} (h : ¬ lnk (mmk C i) (at_nod C i)) (hk : (at_nod C i).kind = 1) : mms C i ++ [⟨(at_nod C i).kind, (at_nod C i).path, (at_nod C i).mode, (at_nod C i).target, ((at_nod C i).data.length : Int), (at_nod C i).dv, (at_nod C i).data⟩] = mms C (i + 1) ∧ aset (mmk C i) (at_nod C i).cls (at_nod C i).path = mmk C (i + 1) := by
  conv => rhs; rhs; unfold mmk
  conv => lhs; rhs; unfold mms
  unfold mmem mmap
  rw [if_neg h, if_neg h, if_pos hk, if_pos hk]
  exact ⟨rfl, rfl⟩
theorem mms_n {C : List Nod} {i : Nat} (h : ¬ lnk (mmk C i) (at_nod C i)) (hk : ¬ (at_nod C i).kind = 1) : mms C i ++ [⟨(at_nod C i).kind, (at_nod C i).path, (at_nod C i).mode, (at_nod C i).target, 0, .slice none 0 0, []⟩] = mms C (i + 1) ∧ mmk C i = mmk C (i + 1) := by
  conv => rhs; rhs; unfold mmk
  conv => lhs; rhs; unfold mms
  unfold mmem mmap
  rw [if_neg h, if_neg h, if_neg hk, if_neg hk]
  exact ⟨rfl, rfl⟩

set_option maxRecDepth 100000 in
theorem flatten_Members (h : Heap) (hK : GlbK h) (hE : GlbE h) (w : Value) (l : List Nod) (hl : Rows nodS h w l) (hm : l.length ≤ 1000000000) (hs : ∀ x ∈ l, x.path.length ≤ 100000000000 ∧ x.target.length ≤ 100000000000 ∧ x.data.length ≤ 100000000000) : Cal Tryd.prog 26 #[w] h (fun v h' => ∃ s0 L0, v = .tuple #[s0, .int .i64 (tpos l), .int .i64 (terr l)] ∧ Rows memS h' s0 L0 ∧ (L0.map erm = mbs l) ∧ Ext h h') := by
 refine Cal_enter (args := [w]) Tryd.func26 rfl rfl rfl (fun σ => ?_)
 refine Wr ?_
 refine Av ?_
 refine Av ?_
 refine Av ?_
 refine L_nil (X_then (W_seq (W_seq (W_region ?_))))
 refine Mv ?_
 refine L_call (E_call (by kernel_rfl) rfl) (tree_Check _ hK hE w l hl (by omega) (fun x hx => by have := hs x hx; omega)) rfl rfl rfl ?_
 rintro _ h1 ⟨rfl, hx1⟩
 refine Mv ?_
 refine Ly (Y_extract (v := .int .i64 (tpos l)) rfl rfl) ?_
 refine Ly (Y_extract (v := .int .i64 (terr l)) rfl rfl) ?_
 refine Av ?_
 refine Av ?_
 refine Nx ?_
 refine W_sub _ (tk6 6 5 4 3 2 0) ?_
 refine Wr ?_
 refine Mv ?_
 refine Ly (Y_neq rfl rfl) ?_
 refine Nx ?_
 refine W_sub _ (tk7 20 6 5 4 3 2 0) ?_
 refine W_splitd rfl (fun e => ?_) (fun e => ?_)
 ·refine Wr ?_
  refine Mv ?_
  refine Mv ?_
  refine Av ?_
  refine Av ?_
  refine Av ?_
  refine Nx ?_
  refine W_sub _ (tk4 4 3 2 0) ?_
  refine W_ret (X_then_ret ?_)
  refine X_ret3 rfl rfl rfl rfl ?_
  exact ⟨_, [], rfl, Rows.nil memS _, by unfold mbs; rw [if_neg e]; rfl, hx1⟩
 refine Ws ?_
 refine W_sub _ (tk4 4 3 2 0) ?_
 have hz := Classical.not_not.1 e
 refine Wr ?_
 refine L_mks (M_makeMapA (enc := (fun z : Int => .int .i64 z)) (evl := (fun l : List UInt8 => str l))) rfl rfl rfl ?_
 rintro _ h2 ⟨rfl, hx2, hb3⟩
 refine Av ?_
 refine Nx ?_
 refine W_sub _ (tk5 7 4 3 2 0) ?_
 refine Wr ?_
 refine Av ?_
 refine L_nil (X_then (W_seq (W_seq (W_region ?_))))
 refine Mv ?_
 refine L_call (E_call (by kernel_rfl) rfl) (tree_Canon _ w l (hl.ext (hx1.trans hx2)) hm hs) rfl rfl rfl ?_
 rintro s04 h3 ⟨_, L05, rfl, hr06, hq07, hx8⟩
 refine Ly (Y_lenr Tryd.underlying32 rfl hr06) ?_
 refine Mv ?_
 refine Nx ?_
 refine W_sub _ (sk1 27 rfl (tk8 26 25 8 7 4 3 2 0)) ?_
 have hrC : Rows nodS h3 s04 L05 := hr06
 have hmC : MapIS h3 h1.size [] := (hb3.ext hx8)
 refine W_block ?_
 refine W_loop (S := Nat × Value) (fun (i, vo) => [(26, .int .i64 ((L05.length : Int))), (7, .map (some h1.size)), (4, .int .i64 0), (3, .int .i64 0), (2, .slice none 0 0), (0, w), (8, vo), (25, s04), (27, .int .i64 ((i : Int)))]) (fun (i, vo) h' => i ≤ (L05).length ∧ (∀ x ∈ mms L05 i, memS.ok h3 x) ∧ Only [h1.size] h3 h' ∧ RowsO memS h' h3.size vo (mms L05 i) ∧ MapIS h' h1.size (mmk L05 i)) (fun (i, vo) => (L05).length - i) (0, .slice none 0 0) (sk1 26 rfl (tk8 7 4 3 2 0 8 25 27)) ?_ ?_
 ·exact ⟨Nat.zero_le _, (fun x hx => by cases hx), Only.refl _ _, RowsO.nil _ _ _, hmC⟩
 rintro ⟨i, vo⟩ h4 ⟨hi, hkA, hxA, hoA, hmL⟩
 show W _ _ _ _ _ [(26, .int .i64 ((L05.length : Int))), (7, .map (some h1.size)), (4, .int .i64 0), (3, .int .i64 0), (2, .slice none 0 0), (0, w), (8, vo), (25, s04), (27, .int .i64 ((i : Int)))] _
 refine Wr ?_
 refine Ly (Y_lss rfl rfl) ?_
 refine L_nil (X_then (W_seq ?_))
 refine W_splitd rfl (fun c => ?_) (fun c => ?_)
 ·refine Ws ?_
  refine W_sub _ (sk1 26 rfl (tk8 7 4 3 2 0 8 25 27)) ?_
  refine W_seq (W_block (W_seq (W_region ?_)))
  refine Ly (Y_idxr Tryd.underlying32 (show _ = some 6 by kernel_rfl) rfl rfl rfl (rowsN_onlyM hrC (Only.trans (Only.refl _ _) hxA (fun _ hb_ => .inl hb_)) hmC) (by omega) (by omega)) ?_
  refine Ly (Y_ldrA0 (k := ((i : Int)).toNat) (us := [.int .i64 ((at_nod L05 ((i : Int)).toNat).kind), str ((at_nod L05 ((i : Int)).toNat).path), .int .i64 ((at_nod L05 ((i : Int)).toNat).mode), str ((at_nod L05 ((i : Int)).toNat).target), ((at_nod L05 ((i : Int)).toNat).dv), .int .i64 ((at_nod L05 ((i : Int)).toNat).cls)]) Tryd.underlying48 rfl (show _ = some 6 by kernel_rfl) rfl rfl (rowsN_onlyM hrC (Only.trans (Only.refl _ _) hxA (fun _ hb_ => .inl hb_)) hmC) (by omega) rfl) ?_
  refine L_mks (M_alloc (u := .agg #[.int .i64 0, str [], .int .i64 0, str [], .slice none 0 0, .int .i64 0]) (by kernel_rfl)) rfl rfl rfl ?_
  rintro _ h5 ⟨rfl, hn9⟩
  have hk10 : Blk h5 h4.size [.int .i64 0, str [], .int .i64 0, str [], .slice none 0 0, .int .i64 0] := hn9.blk
  refine L_dos (D_store (us := [.int .i64 ((at_nod L05 ((i : Int)).toNat).kind), str ((at_nod L05 ((i : Int)).toNat).path), .int .i64 ((at_nod L05 ((i : Int)).toNat).mode), str ((at_nod L05 ((i : Int)).toNat).target), ((at_nod L05 ((i : Int)).toNat).dv), .int .i64 ((at_nod L05 ((i : Int)).toNat).cls)]) (show _ = some 6 by kernel_rfl) rfl rfl rfl (by intro u_ hu_; simp only [List.mem_cons, List.not_mem_nil, or_false] at hu_; rcases hu_ with rfl | rfl | rfl | rfl | rfl | rfl <;> first | rfl | exact ((show Bytes _ ((at_nod L05 ((i : Int)).toNat).dv) ((at_nod L05 ((i : Int)).toNat).data) from (rowsN_onlyM hrC (Only.trans (Only.trans (Only.refl _ _) hxA (fun _ hb_ => .inl hb_)) hn9.ext (fun _ hb_ => by cases hb_)) hmC).okat (k := ((i : Int)).toNat) (by omega))).cell1) hk10 (by simp)) rfl rfl ?_
  rintro h6 hp11
  have hk12 : Blk h6 h4.size [.int .i64 ((at_nod L05 ((i : Int)).toNat).kind), str ((at_nod L05 ((i : Int)).toNat).path), .int .i64 ((at_nod L05 ((i : Int)).toNat).mode), str ((at_nod L05 ((i : Int)).toNat).target), ((at_nod L05 ((i : Int)).toNat).dv), .int .i64 ((at_nod L05 ((i : Int)).toNat).cls)] := hp11.blk
  refine Nx ?_
  refine W_sub _ (sk2 10 26 rfl rfl (tk8 7 4 3 2 0 8 25 27)) ?_
  refine Wr ?_
  refine Ly (Y_fieldAddr (off := 0) (by kernel_rfl) rfl rfl) ?_
  refine Ly (Y_ldblk Tryd.underlying3 rfl rfl hk12 rfl) ?_
  refine Ly (Y_fieldAddr (off := 1) (by kernel_rfl) rfl rfl) ?_
  refine Ly (Y_ldblk Tryd.underlying9 rfl rfl hk12 rfl) ?_
  refine Ly (Y_fieldAddr (off := 2) (by kernel_rfl) rfl rfl) ?_
  refine Ly (Y_ldblk Tryd.underlying3 rfl rfl hk12 rfl) ?_
  refine Ly (Y_fieldAddr (off := 3) (by kernel_rfl) rfl rfl) ?_
  refine Ly (Y_ldblk Tryd.underlying9 rfl rfl hk12 rfl) ?_
  refine Ly (Y_build (v := .agg #[.int .i64 ((at_nod L05 ((i : Int)).toNat).kind), str ((at_nod L05 ((i : Int)).toNat).path), .int .i64 ((at_nod L05 ((i : Int)).toNat).mode), str ((at_nod L05 ((i : Int)).toNat).target), .int .i64 0]) (pv := [(0, .int .i64 ((at_nod L05 ((i : Int)).toNat).kind)), (1, str ((at_nod L05 ((i : Int)).toNat).path)), (2, .int .i64 ((at_nod L05 ((i : Int)).toNat).mode)), (3, str ((at_nod L05 ((i : Int)).toNat).target))]) (evp (is := [0, 1, 2, 3]) (os := [.tmp 32, .tmp 34, .tmp 36, .tmp 38]) (vs := [.int .i64 ((at_nod L05 ((i : Int)).toNat).kind), str ((at_nod L05 ((i : Int)).toNat).path), .int .i64 ((at_nod L05 ((i : Int)).toNat).mode), str ((at_nod L05 ((i : Int)).toNat).target)]) rfl rfl) (fun _ => by kernel_rfl)) ?_
  refine Ly (Y_build (v := .agg #[.int .i64 ((at_nod L05 ((i : Int)).toNat).kind), str ((at_nod L05 ((i : Int)).toNat).path), .int .i64 ((at_nod L05 ((i : Int)).toNat).mode), str ((at_nod L05 ((i : Int)).toNat).target), .int .i64 0, .slice none 0 0]) (pv := [(0, .agg #[.int .i64 ((at_nod L05 ((i : Int)).toNat).kind), str ((at_nod L05 ((i : Int)).toNat).path), .int .i64 ((at_nod L05 ((i : Int)).toNat).mode), str ((at_nod L05 ((i : Int)).toNat).target), .int .i64 0])]) (evp (is := [0]) (os := [.tmp 39]) (vs := [.agg #[.int .i64 ((at_nod L05 ((i : Int)).toNat).kind), str ((at_nod L05 ((i : Int)).toNat).path), .int .i64 ((at_nod L05 ((i : Int)).toNat).mode), str ((at_nod L05 ((i : Int)).toNat).target), .int .i64 0]]) rfl rfl) (fun _ => by kernel_rfl)) ?_
  refine L_mks (M_alloc (u := .agg #[.int .i64 0, str [], .int .i64 0, str [], .int .i64 0, .slice none 0 0]) (by kernel_rfl)) rfl rfl rfl ?_
  rintro _ h7 ⟨rfl, hn13⟩
  have hk14 : Blk h7 h6.size [.int .i64 0, str [], .int .i64 0, str [], .int .i64 0, .slice none 0 0] := hn13.blk
  refine L_dos (D_store (us := [.int .i64 ((at_nod L05 ((i : Int)).toNat).kind), str ((at_nod L05 ((i : Int)).toNat).path), .int .i64 ((at_nod L05 ((i : Int)).toNat).mode), str ((at_nod L05 ((i : Int)).toNat).target), .int .i64 0, .slice none 0 0]) (show _ = some 6 by kernel_rfl) rfl rfl rfl (by simp [Value.oneCell']) hk14 (by simp)) rfl rfl ?_
  rintro h8 hp15
  have hk16 : Blk h8 h6.size [.int .i64 ((at_nod L05 ((i : Int)).toNat).kind), str ((at_nod L05 ((i : Int)).toNat).path), .int .i64 ((at_nod L05 ((i : Int)).toNat).mode), str ((at_nod L05 ((i : Int)).toNat).target), .int .i64 0, .slice none 0 0] := hp15.blk
  refine Nx ?_
  refine W_sub _ (sk3 11 10 26 rfl rfl rfl (tk8 7 4 3 2 0 8 25 27)) ?_
  refine Wr ?_
  refine Mv ?_
  refine Ly (Y_fieldAddr (off := 5) (by kernel_rfl) rfl rfl) ?_
  refine Ly (Y_ldblk Tryd.underlying3 rfl rfl (hk12.ext (hn13.ext.then' hp15.only (by simp) (Nat.le_refl _))) rfl) ?_
  have me1 := (hn9.ext.then' hp11.only (by simp) (Nat.le_refl _)).trans hn13.ext
  have me2 := me1.then' hp15.only (by simp) (Nat.le_trans hn9.ext.size hp11.only.size)
  refine Ly (Y_look2A (evl := (fun l : List UInt8 => str l)) (k := (at_nod L05 ((i : Int)).toNat).cls) (u := ([] : List UInt8)) keyI Tryd.underlying73 Tryd.underlying3 (by kernel_rfl) rfl rfl (hmL.ext me2)) ?_
  refine Mv ?_
  refine Ly (Y_extract (v := str ((aget (mmk L05 i) ((at_nod L05 ((i : Int)).toNat).cls)).getD ([] : List UInt8))) rfl rfl) ?_
  refine Ly (Y_extract (v := .bool ((aget (mmk L05 i) ((at_nod L05 ((i : Int)).toNat).cls)).isSome)) rfl rfl) ?_
  refine Av ?_
  refine Av ?_
  refine Nx ?_
  refine W_sub _ (sk5 13 12 11 10 26 rfl rfl rfl rfl rfl (tk8 7 4 3 2 0 8 25 27)) ?_
  refine W_seq (W_block ?_)
  refine W_cut (S := Unit) (fun _ => [(48, .bool (decide (((((at_nod L05 ((i : Int)).toNat).kind) = 1) ∧ (0 < ((at_nod L05 ((i : Int)).toNat).cls))) ∧ ((aget (mmk L05 i) ((at_nod L05 ((i : Int)).toNat).cls)).isSome = true)))), (12, str ((aget (mmk L05 i) ((at_nod L05 ((i : Int)).toNat).cls)).getD ([] : List UInt8))), (11, .pointer (some ⟨h6.size, 0, none⟩)), (10, .pointer (some ⟨h4.size, 0, none⟩)), (26, .int .i64 ((L05.length : Int))), (7, .map (some h1.size)), (4, .int .i64 0), (3, .int .i64 0), (2, .slice none 0 0), (0, w), (8, vo), (25, s04), (27, .int .i64 ((i : Int)))]) (fun _ h' => h' = h8) ?_ ?_
  ·refine W_region ?_
   refine Ly (Y_fieldAddr (off := 0) (by kernel_rfl) rfl rfl) ?_
   refine Ly (Y_ldblk Tryd.underlying3 rfl rfl (hk12.ext (hn13.ext.then' hp15.only (by simp) (Nat.le_refl _))) rfl) ?_
   refine Ly (Y_eql rfl rfl) ?_
   refine Mv ?_
   refine L_splitd (d := 52) rfl (fun a0 => ?_) (fun a0 => ?_)
   ·refine Ly (Y_fieldAddr (off := 5) (by kernel_rfl) rfl rfl) ?_
    refine Ly (Y_ldblk Tryd.underlying3 rfl rfl (hk12.ext (hn13.ext.then' hp15.only (by simp) (Nat.le_refl _))) rfl) ?_
    refine Ly (Y_gtr rfl rfl) ?_
    refine Ly (Y_pick_t rfl rfl) ?_
    refine Mv ?_
    refine L_splitd (d := 57) rfl (fun a1 => ?_) (fun a1 => ?_)
    ·refine Ly (Y_move rfl) ?_
     refine Ly (Y_pick_t rfl rfl) ?_
     refine Av ?_
     refine L_nil ?_
     exact X_cut () (sk1 48 (lkb rfl (by first | (simp only [eq_true a0, eq_true a1, SB]; done) | (simp only [eq_true a0, eq_true a1, SB]; rfl))) (sk1 12 rfl (sk1 11 rfl (sk1 10 rfl (sk1 26 rfl (sk1 7 rfl (sk1 4 rfl (sk1 3 rfl (sk1 2 rfl (sk1 0 rfl (sk1 8 rfl (sk1 25 rfl (tk1 27))))))))))))) rfl
    refine Skp ?_
    refine Ly (Y_pick_f rfl rfl) ?_
    refine Av ?_
    refine L_nil ?_
    exact X_cut () (sk1 48 (lkb rfl (by first | (simp only [eq_true a0, eq_false a1, SB]; done) | (simp only [eq_true a0, eq_false a1, SB]; rfl))) (sk1 12 rfl (sk1 11 rfl (sk1 10 rfl (sk1 26 rfl (sk1 7 rfl (sk1 4 rfl (sk1 3 rfl (sk1 2 rfl (sk1 0 rfl (sk1 8 rfl (sk1 25 rfl (tk1 27))))))))))))) rfl
   refine Skp ?_
   refine Skp ?_
   refine Skp ?_
   refine Ly (Y_pick_f rfl rfl) ?_
   refine Mv ?_
   refine Skp ?_
   refine Ly (Y_pick_f rfl rfl) ?_
   refine Av ?_
   refine L_nil ?_
   exact X_cut () (sk1 48 (lkb rfl (by first | (simp only [eq_false a0, SB]; done) | (simp only [eq_false a0, SB]; rfl))) (sk1 12 rfl (sk1 11 rfl (sk1 10 rfl (sk1 26 rfl (sk1 7 rfl (sk1 4 rfl (sk1 3 rfl (sk1 2 rfl (sk1 0 rfl (sk1 8 rfl (sk1 25 rfl (tk1 27))))))))))))) rfl
  rintro _ h8 rfl
  show W _ _ _ _ _ [(48, .bool (decide (((((at_nod L05 ((i : Int)).toNat).kind) = 1) ∧ (0 < ((at_nod L05 ((i : Int)).toNat).cls))) ∧ ((aget (mmk L05 i) ((at_nod L05 ((i : Int)).toNat).cls)).isSome = true)))), (12, str ((aget (mmk L05 i) ((at_nod L05 ((i : Int)).toNat).cls)).getD ([] : List UInt8))), (11, .pointer (some ⟨h6.size, 0, none⟩)), (10, .pointer (some ⟨h4.size, 0, none⟩)), (26, .int .i64 ((L05.length : Int))), (7, .map (some h1.size)), (4, .int .i64 0), (3, .int .i64 0), (2, .slice none 0 0), (0, w), (8, vo), (25, s04), (27, .int .i64 ((i : Int)))] _
  refine W_splitd rfl (fun a => ?_) (fun a => ?_)
  ·refine W_region ?_
   refine Mv ?_
   refine Ly (Y_fieldAddr (off := 0) (by kernel_rfl) rfl rfl) ?_
   refine Ly (Y_fieldAddr (off := 0) (by kernel_rfl) rfl rfl) ?_
   refine L_dos (D_store (us := [.int .i64 3]) (show _ = some 1 by kernel_rfl) rfl rfl rfl (by simp [Value.oneCell']) hk16 (by simp)) rfl rfl ?_
   rintro h9 hp17
   have hk18 : Blk h9 h6.size [.int .i64 3, str ((at_nod L05 ((i : Int)).toNat).path), .int .i64 ((at_nod L05 ((i : Int)).toNat).mode), str ((at_nod L05 ((i : Int)).toNat).target), .int .i64 0, .slice none 0 0] := hp17.blk
   refine Ly (Y_fieldAddr (off := 0) (by kernel_rfl) rfl rfl) ?_
   refine Ly (Y_fieldAddr (off := 3) (by kernel_rfl) rfl rfl) ?_
   refine L_dos (D_store (us := [str ((aget (mmk L05 i) ((at_nod L05 ((i : Int)).toNat).cls)).getD ([] : List UInt8))]) (show _ = some 1 by kernel_rfl) rfl rfl rfl (by simp [Value.oneCell']) hk18 (by simp)) rfl rfl ?_
   rintro h10 hp19
   have hk20 : Blk h10 h6.size [.int .i64 3, str ((at_nod L05 ((i : Int)).toNat).path), .int .i64 ((at_nod L05 ((i : Int)).toNat).mode), str ((aget (mmk L05 i) ((at_nod L05 ((i : Int)).toNat).cls)).getD ([] : List UInt8)), .int .i64 0, .slice none 0 0] := hp19.blk
   refine L_nil (X_block (X_then ?_))
   refine W_sub _ (sk2 11 26 rfl rfl (tk8 7 4 3 2 0 8 25 27)) ?_
   refine W_region ?_
   refine Mv ?_
   refine Ly (Y_ldbox (us := [.int .i64 3, str ((at_nod L05 ((i : Int)).toNat).path), .int .i64 ((at_nod L05 ((i : Int)).toNat).mode), str ((aget (mmk L05 i) ((at_nod L05 ((i : Int)).toNat).cls)).getD ([] : List UInt8)), .int .i64 0, .slice none 0 0]) Tryd.underlying30 rfl (show _ = some 6 by kernel_rfl) rfl hk20 rfl) ?_
   refine L_mks (M_litr (S := memS) (l := ([⟨(3 : Int), (at_nod L05 ((i : Int)).toNat).path, (at_nod L05 ((i : Int)).toNat).mode, (aget (mmk L05 i) ((at_nod L05 ((i : Int)).toNat).cls)).getD ([] : List UInt8), (0 : Int), .slice none 0 0, ([] : List UInt8)⟩] : List Mem)) (cells := [.int .i64 3, str ((at_nod L05 ((i : Int)).toNat).path), .int .i64 ((at_nod L05 ((i : Int)).toNat).mode), str ((aget (mmk L05 i) ((at_nod L05 ((i : Int)).toNat).cls)).getD ([] : List UInt8)), .int .i64 0, .slice none 0 0]) (pv := [(0, .agg #[.int .i64 3, str ((at_nod L05 ((i : Int)).toNat).path), .int .i64 ((at_nod L05 ((i : Int)).toNat).mode), str ((aget (mmk L05 i) ((at_nod L05 ((i : Int)).toNat).cls)).getD ([] : List UInt8)), .int .i64 0, .slice none 0 0])]) (E := 30) (evp (is := [0]) (os := [.tmp 83]) (vs := [.agg #[.int .i64 3, str ((at_nod L05 ((i : Int)).toNat).path), .int .i64 ((at_nod L05 ((i : Int)).toNat).mode), str ((aget (mmk L05 i) ((at_nod L05 ((i : Int)).toNat).cls)).getD ([] : List UInt8)), .int .i64 0, .slice none 0 0]]) rfl rfl) rfl rfl (fun _ => by kernel_rfl) (by simp only [List.mem_cons, List.not_mem_nil, or_false, forall_eq_or_imp, forall_eq]; exact (Bytes.nil _))) rfl rfl rfl ?_
   rintro v21 h11 ⟨ho22, hx23⟩
   have me3 := me2.then' hp17.only (by simp) (Nat.le_trans hn9.ext.size hp11.only.size)
   have me4 := me3.then' hp19.only (by simp) (Nat.le_trans hn9.ext.size hp11.only.size)
   have me5 := Nat.le_trans (Nat.le_trans hxA.size hn9.ext.size) hp11.only.size
   have me6 := Nat.le_trans (Nat.le_trans me5 hn13.ext.size) hp15.only.size
   have me7 := Nat.le_trans (Nat.le_trans me6 hp17.only.size) hp19.only.size
   refine L_mks (M_apprG (z := 6) (bytes := 80) (z0 := (.agg #[.int .i64 0, str [], .int .i64 0, str [], .int .i64 0, .slice none 0 0])) Tryd.underlying22 (by unfold elemRow; kernel_rfl) rfl rfl (by decide) rfl rfl (hoA.ext (me4.trans hx23)) ho22.rows (Nat.le_trans me7 hx23.size) (by first | (simp; omega) | (simp; done) | omega) (fun h' y hge x hx => okM_onlyM ((List.mem_append.1 hx).elim (hkA x) (fun q => by rw [List.mem_singleton.1 q]; exact Bytes.nil _)) (only_app (Only.trans (Only.trans (Only.trans (Only.trans (Only.trans (Only.trans (Only.trans (Only.trans (Only.refl _ _) hxA (fun _ hb_ => .inl hb_)) hn9.ext (fun _ hb_ => by cases hb_)) hp11.only (fun b_ hb_ => .inr (by rw [List.mem_singleton.1 hb_]; exact hxA.size))) hn13.ext (fun _ hb_ => by cases hb_)) hp15.only (fun b_ hb_ => .inr (by rw [List.mem_singleton.1 hb_]; exact me5))) hp17.only (fun b_ hb_ => .inr (by rw [List.mem_singleton.1 hb_]; exact me5))) hp19.only (fun b_ hb_ => .inr (by rw [List.mem_singleton.1 hb_]; exact me5))) hx23 (fun _ hb_ => by cases hb_)) y hge) hmC)) rfl rfl rfl ?_
   rintro v24 h12 ⟨ha25, ha25l⟩
   refine Av ?_
   refine L_nil (X_block (X_then ?_))
   refine W_sub _ (sk1 8 rfl (tk8 26 7 4 3 2 0 25 27)) ?_
   refine W_region ?_
   refine Ly (Y_add rfl rfl (by omega) (by omega)) ?_
   refine Mv ?_
   refine L_nil ?_
   refine X_loop ((i + 1, v24)) (sk1 26 rfl (tk8 7 4 3 2 0 8 25 27)) ?_ ?_
   have hc26 := ((((((((hmL.ext hn9.ext).only hp11.only (ni_lt (Nat.lt_of_lt_of_le hb3.lt (Nat.le_trans hx8.size hxA.size)))).ext hn13.ext).only hp15.only (ni_lt (Nat.lt_of_lt_of_le hb3.lt (Nat.le_trans (Nat.le_trans (Nat.le_trans hx8.size hxA.size) hn9.ext.size) hp11.only.size)))).only hp17.only (ni_lt (Nat.lt_of_lt_of_le hb3.lt (Nat.le_trans (Nat.le_trans (Nat.le_trans hx8.size hxA.size) hn9.ext.size) hp11.only.size)))).only hp19.only (ni_lt (Nat.lt_of_lt_of_le hb3.lt (Nat.le_trans (Nat.le_trans (Nat.le_trans hx8.size hxA.size) hn9.ext.size) hp11.only.size)))).ext hx23).only ha25.only (fun hb_ => Nat.lt_irrefl _ (Nat.lt_of_lt_of_le (Nat.lt_of_lt_of_le hb3.lt hx8.size) (ha25.ge _ hb_))))
   ·exact ⟨by omega, mms_ok hkA (hrC.2 _ (can_mem (by omega))), (Only.trans (Only.trans (Only.trans (Only.trans (Only.trans (Only.trans (Only.trans (Only.trans (Only.trans (Only.refl _ _) hxA (fun _ hb_ => .inl hb_)) hn9.ext (fun _ hb_ => by cases hb_)) hp11.only (fun b_ hb_ => .inr (by rw [List.mem_singleton.1 hb_]; exact hxA.size))) hn13.ext (fun _ hb_ => by cases hb_)) hp15.only (fun b_ hb_ => .inr (by rw [List.mem_singleton.1 hb_]; exact me5))) hp17.only (fun b_ hb_ => .inr (by rw [List.mem_singleton.1 hb_]; exact me5))) hp19.only (fun b_ hb_ => .inr (by rw [List.mem_singleton.1 hb_]; exact me5))) hx23 (fun _ hb_ => by cases hb_)) ha25.only (fun b_ hb_ => .inr (Nat.le_trans (Nat.le_refl _) (ha25.ge b_ hb_)))), rowsO_congr ha25.own (mms_y a).1, MapA.congr hc26 (mms_y a).2⟩
   (try dsimp only)
   omega
  refine Wr ?_
  refine Ly (Y_fieldAddr (off := 0) (by kernel_rfl) rfl rfl) ?_
  refine Ly (Y_ldblk Tryd.underlying3 rfl rfl (hk12.ext (hn13.ext.then' hp15.only (by simp) (Nat.le_refl _))) rfl) ?_
  refine Ly (Y_eql rfl rfl) ?_
  refine Av ?_
  refine Nx ?_
  refine W_sub _ (sk4 65 11 10 26 rfl rfl rfl rfl (tk8 7 4 3 2 0 8 25 27)) ?_
  refine W_splitd rfl (fun b => ?_) (fun b => ?_)
  ·refine W_seq ?_
   refine W_held (fun _ => True) 10 rfl (by kernel_rfl) ?_
   refine LH_take (i := 0) rfl (fun h_ hI_ => Y_fieldAddr (off := 4) (by kernel_rfl) rfl rfl) rfl rfl rfl (by kernel_rfl) (by kernel_rfl) (by kernel_rfl) (fun _ _ _ => by rintro ⟨_, _, h_, _⟩; cases h_) trivial ?_
   refine LH_take (i := 3) rfl (fun h_ hI_ => Y_fieldAddr (off := 4) (by kernel_rfl) rfl rfl) rfl rfl rfl (by kernel_rfl) (by kernel_rfl) (by kernel_rfl) (fun _ _ _ => by rintro ⟨_, _, h_, _⟩; cases h_) trivial ?_
   refine LH_two (i := 1) (j := 4) (by kernel_rfl) ?_ ?_
   ·refine LO_yld (i := 1) rfl (Y_ldblk Tryd.underlying28 rfl rfl (hk12.ext (hn13.ext.then' hp15.only (by simp) (Nat.le_refl _))) rfl) rfl rfl rfl trivial ?_
    refine LH_two (i := 2) (j := 4) (by kernel_rfl) ?_ ?_
    ·have me8 := Nat.le_trans (Nat.le_trans hxA.size hn9.ext.size) hp11.only.size
     refine LO_yld (i := 2) rfl (Y_len Tryd.underlying28 rfl (show Bytes _ ((at_nod L05 ((i : Int)).toNat).dv) ((at_nod L05 ((i : Int)).toNat).data) from (rowsN_onlyM hrC (Only.trans (Only.trans (Only.trans (Only.trans (Only.trans (Only.refl _ _) hxA (fun _ hb_ => .inl hb_)) hn9.ext (fun _ hb_ => by cases hb_)) hp11.only (fun b_ hb_ => .inr (by rw [List.mem_singleton.1 hb_]; exact hxA.size))) hn13.ext (fun _ hb_ => by cases hb_)) hp15.only (fun b_ hb_ => .inr (by rw [List.mem_singleton.1 hb_]; exact me8))) hmC).okat (k := ((i : Int)).toNat) (by omega))) rfl rfl rfl trivial ?_
     refine LH_take (i := 5) rfl (fun h_ hI_ => Y_fieldAddr (off := 0) (by kernel_rfl) rfl rfl) rfl rfl rfl (by kernel_rfl) (by kernel_rfl) (by kernel_rfl) (fun _ _ _ => by rintro ⟨_, _, h_, _⟩; cases h_) trivial ?_
     refine LH_take (i := 6) rfl (fun h_ hI_ => Y_fieldAddr (off := 4) (by kernel_rfl) rfl rfl) rfl rfl rfl (by kernel_rfl) (by kernel_rfl) (by kernel_rfl) (fun _ _ _ => by rintro ⟨_, _, h_, _⟩; cases h_) trivial ?_
     refine LH_two (i := 4) (j := 7) (by kernel_rfl) ?_ ?_
     ·refine LO_yld (i := 4) rfl (Y_ldblk Tryd.underlying28 rfl rfl (hk12.ext (hn13.ext.then' hp15.only (by simp) (Nat.le_refl _))) rfl) rfl rfl rfl trivial ?_
      refine LH_one (i := 7) (by kernel_rfl) ?_
      refine LO_dos (i := 7) rfl (D_store (us := [.int .i64 ((((at_nod L05 ((i : Int)).toNat).data).length : Int))]) (show _ = some 1 by kernel_rfl) rfl rfl rfl (by simp [Value.oneCell']) hk16 (by simp)) rfl rfl ?_
      rintro h13 hp27
      refine ⟨trivial, ?_⟩
      have hk28 : Blk h13 h6.size [.int .i64 ((at_nod L05 ((i : Int)).toNat).kind), str ((at_nod L05 ((i : Int)).toNat).path), .int .i64 ((at_nod L05 ((i : Int)).toNat).mode), str ((at_nod L05 ((i : Int)).toNat).target), .int .i64 ((((at_nod L05 ((i : Int)).toNat).data).length : Int)), .slice none 0 0] := hp27.blk
      refine LH_take (i := 8) rfl (fun h_ hI_ => Y_fieldAddr (off := 5) (by kernel_rfl) rfl rfl) rfl rfl rfl (by kernel_rfl) (by kernel_rfl) (by kernel_rfl) (fun _ _ _ => by rintro ⟨_, _, h_, _⟩; cases h_) trivial ?_
      refine LH_one (i := 9) (by kernel_rfl) ?_
      refine LO_dos (i := 9) rfl (D_store (us := [((at_nod L05 ((i : Int)).toNat).dv)]) (show _ = some 1 by kernel_rfl) rfl rfl (cells_slice (show Bytes _ ((at_nod L05 ((i : Int)).toNat).dv) ((at_nod L05 ((i : Int)).toNat).data) from (rowsN_onlyM hrC (Only.trans (Only.trans (Only.trans (Only.trans (Only.trans (Only.trans (Only.refl _ _) hxA (fun _ hb_ => .inl hb_)) hn9.ext (fun _ hb_ => by cases hb_)) hp11.only (fun b_ hb_ => .inr (by rw [List.mem_singleton.1 hb_]; exact hxA.size))) hn13.ext (fun _ hb_ => by cases hb_)) hp15.only (fun b_ hb_ => .inr (by rw [List.mem_singleton.1 hb_]; exact (Nat.le_trans (Nat.le_trans hxA.size hn9.ext.size) hp11.only.size)))) hp27.only (fun b_ hb_ => .inr (by rw [List.mem_singleton.1 hb_]; exact (Nat.le_trans (Nat.le_trans hxA.size hn9.ext.size) hp11.only.size)))) hmC).okat (k := ((i : Int)).toNat) (by omega))) (by intro u_ hu_; simp only [List.mem_cons, List.not_mem_nil, or_false] at hu_; rcases hu_ with rfl <;> first | rfl | exact ((show Bytes _ ((at_nod L05 ((i : Int)).toNat).dv) ((at_nod L05 ((i : Int)).toNat).data) from (rowsN_onlyM hrC (Only.trans (Only.trans (Only.trans (Only.trans (Only.trans (Only.trans (Only.refl _ _) hxA (fun _ hb_ => .inl hb_)) hn9.ext (fun _ hb_ => by cases hb_)) hp11.only (fun b_ hb_ => .inr (by rw [List.mem_singleton.1 hb_]; exact hxA.size))) hn13.ext (fun _ hb_ => by cases hb_)) hp15.only (fun b_ hb_ => .inr (by rw [List.mem_singleton.1 hb_]; exact (Nat.le_trans (Nat.le_trans hxA.size hn9.ext.size) hp11.only.size)))) hp27.only (fun b_ hb_ => .inr (by rw [List.mem_singleton.1 hb_]; exact (Nat.le_trans (Nat.le_trans hxA.size hn9.ext.size) hp11.only.size)))) hmC).okat (k := ((i : Int)).toNat) (by omega))).cell1) hk28 (by simp)) rfl rfl ?_
      rintro h14 hp29
      refine ⟨trivial, ?_⟩
      have hk30 : Blk h14 h6.size [.int .i64 ((at_nod L05 ((i : Int)).toNat).kind), str ((at_nod L05 ((i : Int)).toNat).path), .int .i64 ((at_nod L05 ((i : Int)).toNat).mode), str ((at_nod L05 ((i : Int)).toNat).target), .int .i64 ((((at_nod L05 ((i : Int)).toNat).data).length : Int)), ((at_nod L05 ((i : Int)).toNat).dv)] := hp29.blk
      refine LH_done (by kernel_rfl) ?_
      refine X_then ?_
      refine W_sub _ (sk3 11 10 26 rfl rfl rfl (tk8 7 4 3 2 0 8 25 27)) ?_
      refine W_region ?_
      refine Mv ?_
      refine Ly (Y_fieldAddr (off := 5) (by kernel_rfl) rfl rfl) ?_
      have me9 := (hn13.ext.then' hp15.only (by simp) (Nat.le_refl _)).then' hp27.only (by simp) (Nat.le_refl _)
      refine Ly (Y_ldblk Tryd.underlying3 rfl rfl (hk12.ext (me9.then' hp29.only (by simp) (Nat.le_refl _))) rfl) ?_
      refine Ly (Y_fieldAddr (off := 1) (by kernel_rfl) rfl rfl) ?_
      refine Ly (Y_ldblk Tryd.underlying9 rfl rfl (hk12.ext (me9.then' hp29.only (by simp) (Nat.le_refl _))) rfl) ?_
      have me10 := me2.then' hp27.only (by simp) (Nat.le_trans hn9.ext.size hp11.only.size)
      have me11 := me10.then' hp29.only (by simp) (Nat.le_trans hn9.ext.size hp11.only.size)
      refine L_dos (D_updA (evl := (fun l : List UInt8 => str l)) (k := (at_nod L05 ((i : Int)).toNat).cls) (v := (at_nod L05 ((i : Int)).toNat).path) keyI Tryd.underlying73 Tryd.underlying3 rfl rfl rfl (hmL.ext me11)) rfl rfl ?_
      rintro h15 ⟨hx31, -, hb32⟩
      refine L_nil (X_block (X_then ?_))
      refine W_sub _ (sk2 11 26 rfl rfl (tk8 7 4 3 2 0 8 25 27)) ?_
      refine W_region ?_
      refine Mv ?_
      have me12 := Nat.le_trans (Nat.le_trans hx8.size hxA.size) hn9.ext.size
      have hc33 := (hk30.only hx31 (ni_gt (Nat.lt_of_lt_of_le hb3.lt (Nat.le_trans me12 hp11.only.size))))
      refine Ly (Y_ldbox (us := [.int .i64 ((at_nod L05 ((i : Int)).toNat).kind), str ((at_nod L05 ((i : Int)).toNat).path), .int .i64 ((at_nod L05 ((i : Int)).toNat).mode), str ((at_nod L05 ((i : Int)).toNat).target), .int .i64 ((((at_nod L05 ((i : Int)).toNat).data).length : Int)), ((at_nod L05 ((i : Int)).toNat).dv)]) Tryd.underlying30 rfl (show _ = some 6 by kernel_rfl) rfl hc33 rfl) ?_
      refine L_mks (M_litr (S := memS) (l := ([⟨(at_nod L05 ((i : Int)).toNat).kind, (at_nod L05 ((i : Int)).toNat).path, (at_nod L05 ((i : Int)).toNat).mode, (at_nod L05 ((i : Int)).toNat).target, (((at_nod L05 ((i : Int)).toNat).data).length : Int), ((at_nod L05 ((i : Int)).toNat).dv), (at_nod L05 ((i : Int)).toNat).data⟩] : List Mem)) (cells := [.int .i64 ((at_nod L05 ((i : Int)).toNat).kind), str ((at_nod L05 ((i : Int)).toNat).path), .int .i64 ((at_nod L05 ((i : Int)).toNat).mode), str ((at_nod L05 ((i : Int)).toNat).target), .int .i64 ((((at_nod L05 ((i : Int)).toNat).data).length : Int)), ((at_nod L05 ((i : Int)).toNat).dv)]) (pv := [(0, .agg #[.int .i64 ((at_nod L05 ((i : Int)).toNat).kind), str ((at_nod L05 ((i : Int)).toNat).path), .int .i64 ((at_nod L05 ((i : Int)).toNat).mode), str ((at_nod L05 ((i : Int)).toNat).target), .int .i64 ((((at_nod L05 ((i : Int)).toNat).data).length : Int)), ((at_nod L05 ((i : Int)).toNat).dv)])]) (E := 30) (evp (is := [0]) (os := [.tmp 83]) (vs := [.agg #[.int .i64 ((at_nod L05 ((i : Int)).toNat).kind), str ((at_nod L05 ((i : Int)).toNat).path), .int .i64 ((at_nod L05 ((i : Int)).toNat).mode), str ((at_nod L05 ((i : Int)).toNat).target), .int .i64 ((((at_nod L05 ((i : Int)).toNat).data).length : Int)), ((at_nod L05 ((i : Int)).toNat).dv)]]) rfl rfl) rfl rfl (fun _ => by kernel_rfl) (by simp only [List.mem_cons, List.not_mem_nil, or_false, forall_eq_or_imp, forall_eq]; exact (show Bytes _ ((at_nod L05 ((i : Int)).toNat).dv) ((at_nod L05 ((i : Int)).toNat).data) from (rowsN_onlyM hrC (Only.trans (Only.trans (Only.trans (Only.trans (Only.trans (Only.trans (Only.trans (Only.trans (Only.refl _ _) hxA (fun _ hb_ => .inl hb_)) hn9.ext (fun _ hb_ => by cases hb_)) hp11.only (fun b_ hb_ => .inr (by rw [List.mem_singleton.1 hb_]; exact hxA.size))) hn13.ext (fun _ hb_ => by cases hb_)) hp15.only (fun b_ hb_ => .inr (by rw [List.mem_singleton.1 hb_]; exact me8))) hp27.only (fun b_ hb_ => .inr (by rw [List.mem_singleton.1 hb_]; exact me8))) hp29.only (fun b_ hb_ => .inr (by rw [List.mem_singleton.1 hb_]; exact me8))) hx31 (fun _ hb_ => .inl hb_)) hmC).okat (k := ((i : Int)).toNat) (by omega)))) rfl rfl rfl ?_
      rintro v34 h16 ⟨ho35, hx36⟩
      have me13 := Nat.le_trans (Nat.le_trans me8 hn13.ext.size) hp15.only.size
      have me14 := Nat.le_trans (Nat.le_trans me13 hp27.only.size) hp29.only.size
      refine L_mks (M_apprG (z := 6) (bytes := 80) (z0 := (.agg #[.int .i64 0, str [], .int .i64 0, str [], .int .i64 0, .slice none 0 0])) Tryd.underlying22 (by unfold elemRow; kernel_rfl) rfl rfl (by decide) rfl rfl ((rowsO_onlyM (hoA.ext me11) hx31 (Nat.lt_of_lt_of_le hb3.lt hx8.size) (hmL.ext me11)).ext hx36) ho35.rows (Nat.le_trans (Nat.le_trans me14 hx31.size) hx36.size) (by first | (simp; omega) | (simp; done) | omega) (fun h' y hge x hx => okM_onlyM ((List.mem_append.1 hx).elim (hkA x) (fun q => by rw [List.mem_singleton.1 q]; exact hrC.2 _ (can_mem (k := i) (by omega)))) (only_app (Only.trans (Only.trans (Only.trans (Only.trans (Only.trans (Only.trans (Only.trans (Only.trans (Only.trans (Only.refl _ _) hxA (fun _ hb_ => .inl hb_)) hn9.ext (fun _ hb_ => by cases hb_)) hp11.only (fun b_ hb_ => .inr (by rw [List.mem_singleton.1 hb_]; exact hxA.size))) hn13.ext (fun _ hb_ => by cases hb_)) hp15.only (fun b_ hb_ => .inr (by rw [List.mem_singleton.1 hb_]; exact me8))) hp27.only (fun b_ hb_ => .inr (by rw [List.mem_singleton.1 hb_]; exact me8))) hp29.only (fun b_ hb_ => .inr (by rw [List.mem_singleton.1 hb_]; exact me8))) hx31 (fun _ hb_ => .inl hb_)) hx36 (fun _ hb_ => by cases hb_)) y hge) hmC)) rfl rfl rfl ?_
      rintro v37 h17 ⟨ha38, ha38l⟩
      refine Av ?_
      refine L_nil (X_block (X_then ?_))
      refine W_sub _ (sk1 8 rfl (tk8 26 7 4 3 2 0 25 27)) ?_
      refine W_region ?_
      refine Ly (Y_add rfl rfl (by omega) (by omega)) ?_
      refine Mv ?_
      refine L_nil ?_
      refine X_loop ((i + 1, v37)) (sk1 26 rfl (tk8 7 4 3 2 0 8 25 27)) ?_ ?_
      have hc39 := ((hb32.ext hx36).only ha38.only (fun hb_ => Nat.lt_irrefl _ (Nat.lt_of_lt_of_le (Nat.lt_of_lt_of_le hb3.lt hx8.size) (ha38.ge _ hb_))))
      ·exact ⟨by omega, mms_ok hkA (hrC.2 _ (can_mem (by omega))), (Only.trans (Only.trans (Only.trans (Only.trans (Only.trans (Only.trans (Only.trans (Only.trans (Only.trans (Only.trans (Only.refl _ _) hxA (fun _ hb_ => .inl hb_)) hn9.ext (fun _ hb_ => by cases hb_)) hp11.only (fun b_ hb_ => .inr (by rw [List.mem_singleton.1 hb_]; exact hxA.size))) hn13.ext (fun _ hb_ => by cases hb_)) hp15.only (fun b_ hb_ => .inr (by rw [List.mem_singleton.1 hb_]; exact me8))) hp27.only (fun b_ hb_ => .inr (by rw [List.mem_singleton.1 hb_]; exact me8))) hp29.only (fun b_ hb_ => .inr (by rw [List.mem_singleton.1 hb_]; exact me8))) hx31 (fun _ hb_ => .inl hb_)) hx36 (fun _ hb_ => by cases hb_)) ha38.only (fun b_ hb_ => .inr (Nat.le_trans (Nat.le_refl _) (ha38.ge b_ hb_)))), rowsO_congr ha38.own (mms_f a b).1, MapA.congr hc39 (mms_f a b).2⟩
      (try dsimp only)
      omega
     refine LO_dos (i := 7) rfl (D_store (us := [.int .i64 ((((at_nod L05 ((i : Int)).toNat).data).length : Int))]) (show _ = some 1 by kernel_rfl) rfl rfl rfl (by simp [Value.oneCell']) hk16 (by simp)) rfl rfl ?_
     rintro h18 hp40
     refine ⟨trivial, ?_⟩
     have hk41 : Blk h18 h6.size [.int .i64 ((at_nod L05 ((i : Int)).toNat).kind), str ((at_nod L05 ((i : Int)).toNat).path), .int .i64 ((at_nod L05 ((i : Int)).toNat).mode), str ((at_nod L05 ((i : Int)).toNat).target), .int .i64 ((((at_nod L05 ((i : Int)).toNat).data).length : Int)), .slice none 0 0] := hp40.blk
     refine LH_one (i := 4) (by kernel_rfl) ?_
     have me15 := (hn13.ext.then' hp15.only (by simp) (Nat.le_refl _)).then' hp40.only (by simp) (Nat.le_refl _)
     refine LO_yld (i := 4) rfl (Y_ldblk Tryd.underlying28 rfl rfl (hk12.ext me15) rfl) rfl rfl rfl trivial ?_
     refine LH_take (i := 8) rfl (fun h_ hI_ => Y_fieldAddr (off := 5) (by kernel_rfl) rfl rfl) rfl rfl rfl (by kernel_rfl) (by kernel_rfl) (by kernel_rfl) (fun _ _ _ => by rintro ⟨_, _, h_, _⟩; cases h_) trivial ?_
     refine LH_one (i := 9) (by kernel_rfl) ?_
     refine LO_dos (i := 9) rfl (D_store (us := [((at_nod L05 ((i : Int)).toNat).dv)]) (show _ = some 1 by kernel_rfl) rfl rfl (cells_slice (show Bytes _ ((at_nod L05 ((i : Int)).toNat).dv) ((at_nod L05 ((i : Int)).toNat).data) from (rowsN_onlyM hrC (Only.trans (Only.trans (Only.trans (Only.trans (Only.trans (Only.trans (Only.refl _ _) hxA (fun _ hb_ => .inl hb_)) hn9.ext (fun _ hb_ => by cases hb_)) hp11.only (fun b_ hb_ => .inr (by rw [List.mem_singleton.1 hb_]; exact hxA.size))) hn13.ext (fun _ hb_ => by cases hb_)) hp15.only (fun b_ hb_ => .inr (by rw [List.mem_singleton.1 hb_]; exact (Nat.le_trans (Nat.le_trans hxA.size hn9.ext.size) hp11.only.size)))) hp40.only (fun b_ hb_ => .inr (by rw [List.mem_singleton.1 hb_]; exact (Nat.le_trans (Nat.le_trans hxA.size hn9.ext.size) hp11.only.size)))) hmC).okat (k := ((i : Int)).toNat) (by omega))) (by intro u_ hu_; simp only [List.mem_cons, List.not_mem_nil, or_false] at hu_; rcases hu_ with rfl <;> first | rfl | exact ((show Bytes _ ((at_nod L05 ((i : Int)).toNat).dv) ((at_nod L05 ((i : Int)).toNat).data) from (rowsN_onlyM hrC (Only.trans (Only.trans (Only.trans (Only.trans (Only.trans (Only.trans (Only.refl _ _) hxA (fun _ hb_ => .inl hb_)) hn9.ext (fun _ hb_ => by cases hb_)) hp11.only (fun b_ hb_ => .inr (by rw [List.mem_singleton.1 hb_]; exact hxA.size))) hn13.ext (fun _ hb_ => by cases hb_)) hp15.only (fun b_ hb_ => .inr (by rw [List.mem_singleton.1 hb_]; exact (Nat.le_trans (Nat.le_trans hxA.size hn9.ext.size) hp11.only.size)))) hp40.only (fun b_ hb_ => .inr (by rw [List.mem_singleton.1 hb_]; exact (Nat.le_trans (Nat.le_trans hxA.size hn9.ext.size) hp11.only.size)))) hmC).okat (k := ((i : Int)).toNat) (by omega))).cell1) hk41 (by simp)) rfl rfl ?_
     rintro h19 hp42
     refine ⟨trivial, ?_⟩
     have hk43 : Blk h19 h6.size [.int .i64 ((at_nod L05 ((i : Int)).toNat).kind), str ((at_nod L05 ((i : Int)).toNat).path), .int .i64 ((at_nod L05 ((i : Int)).toNat).mode), str ((at_nod L05 ((i : Int)).toNat).target), .int .i64 ((((at_nod L05 ((i : Int)).toNat).data).length : Int)), ((at_nod L05 ((i : Int)).toNat).dv)] := hp42.blk
     refine LH_done (by kernel_rfl) ?_
     refine X_then ?_
     refine W_sub _ (sk3 11 10 26 rfl rfl rfl (tk8 7 4 3 2 0 8 25 27)) ?_
     refine W_region ?_
     refine Mv ?_
     refine Ly (Y_fieldAddr (off := 5) (by kernel_rfl) rfl rfl) ?_
     refine Ly (Y_ldblk Tryd.underlying3 rfl rfl (hk12.ext (me15.then' hp42.only (by simp) (Nat.le_refl _))) rfl) ?_
     refine Ly (Y_fieldAddr (off := 1) (by kernel_rfl) rfl rfl) ?_
     refine Ly (Y_ldblk Tryd.underlying9 rfl rfl (hk12.ext (me15.then' hp42.only (by simp) (Nat.le_refl _))) rfl) ?_
     have me16 := me2.then' hp40.only (by simp) (Nat.le_trans hn9.ext.size hp11.only.size)
     have me17 := me16.then' hp42.only (by simp) (Nat.le_trans hn9.ext.size hp11.only.size)
     refine L_dos (D_updA (evl := (fun l : List UInt8 => str l)) (k := (at_nod L05 ((i : Int)).toNat).cls) (v := (at_nod L05 ((i : Int)).toNat).path) keyI Tryd.underlying73 Tryd.underlying3 rfl rfl rfl (hmL.ext me17)) rfl rfl ?_
     rintro h20 ⟨hx44, -, hb45⟩
     refine L_nil (X_block (X_then ?_))
     refine W_sub _ (sk2 11 26 rfl rfl (tk8 7 4 3 2 0 8 25 27)) ?_
     refine W_region ?_
     refine Mv ?_
     have me18 := Nat.le_trans (Nat.le_trans hx8.size hxA.size) hn9.ext.size
     have hc46 := (hk43.only hx44 (ni_gt (Nat.lt_of_lt_of_le hb3.lt (Nat.le_trans me18 hp11.only.size))))
     refine Ly (Y_ldbox (us := [.int .i64 ((at_nod L05 ((i : Int)).toNat).kind), str ((at_nod L05 ((i : Int)).toNat).path), .int .i64 ((at_nod L05 ((i : Int)).toNat).mode), str ((at_nod L05 ((i : Int)).toNat).target), .int .i64 ((((at_nod L05 ((i : Int)).toNat).data).length : Int)), ((at_nod L05 ((i : Int)).toNat).dv)]) Tryd.underlying30 rfl (show _ = some 6 by kernel_rfl) rfl hc46 rfl) ?_
     refine L_mks (M_litr (S := memS) (l := ([⟨(at_nod L05 ((i : Int)).toNat).kind, (at_nod L05 ((i : Int)).toNat).path, (at_nod L05 ((i : Int)).toNat).mode, (at_nod L05 ((i : Int)).toNat).target, (((at_nod L05 ((i : Int)).toNat).data).length : Int), ((at_nod L05 ((i : Int)).toNat).dv), (at_nod L05 ((i : Int)).toNat).data⟩] : List Mem)) (cells := [.int .i64 ((at_nod L05 ((i : Int)).toNat).kind), str ((at_nod L05 ((i : Int)).toNat).path), .int .i64 ((at_nod L05 ((i : Int)).toNat).mode), str ((at_nod L05 ((i : Int)).toNat).target), .int .i64 ((((at_nod L05 ((i : Int)).toNat).data).length : Int)), ((at_nod L05 ((i : Int)).toNat).dv)]) (pv := [(0, .agg #[.int .i64 ((at_nod L05 ((i : Int)).toNat).kind), str ((at_nod L05 ((i : Int)).toNat).path), .int .i64 ((at_nod L05 ((i : Int)).toNat).mode), str ((at_nod L05 ((i : Int)).toNat).target), .int .i64 ((((at_nod L05 ((i : Int)).toNat).data).length : Int)), ((at_nod L05 ((i : Int)).toNat).dv)])]) (E := 30) (evp (is := [0]) (os := [.tmp 83]) (vs := [.agg #[.int .i64 ((at_nod L05 ((i : Int)).toNat).kind), str ((at_nod L05 ((i : Int)).toNat).path), .int .i64 ((at_nod L05 ((i : Int)).toNat).mode), str ((at_nod L05 ((i : Int)).toNat).target), .int .i64 ((((at_nod L05 ((i : Int)).toNat).data).length : Int)), ((at_nod L05 ((i : Int)).toNat).dv)]]) rfl rfl) rfl rfl (fun _ => by kernel_rfl) (by simp only [List.mem_cons, List.not_mem_nil, or_false, forall_eq_or_imp, forall_eq]; exact (show Bytes _ ((at_nod L05 ((i : Int)).toNat).dv) ((at_nod L05 ((i : Int)).toNat).data) from (rowsN_onlyM hrC (Only.trans (Only.trans (Only.trans (Only.trans (Only.trans (Only.trans (Only.trans (Only.trans (Only.refl _ _) hxA (fun _ hb_ => .inl hb_)) hn9.ext (fun _ hb_ => by cases hb_)) hp11.only (fun b_ hb_ => .inr (by rw [List.mem_singleton.1 hb_]; exact hxA.size))) hn13.ext (fun _ hb_ => by cases hb_)) hp15.only (fun b_ hb_ => .inr (by rw [List.mem_singleton.1 hb_]; exact me8))) hp40.only (fun b_ hb_ => .inr (by rw [List.mem_singleton.1 hb_]; exact me8))) hp42.only (fun b_ hb_ => .inr (by rw [List.mem_singleton.1 hb_]; exact me8))) hx44 (fun _ hb_ => .inl hb_)) hmC).okat (k := ((i : Int)).toNat) (by omega)))) rfl rfl rfl ?_
     rintro v47 h21 ⟨ho48, hx49⟩
     have me19 := Nat.le_trans (Nat.le_trans me8 hn13.ext.size) hp15.only.size
     have me20 := Nat.le_trans (Nat.le_trans me19 hp40.only.size) hp42.only.size
     refine L_mks (M_apprG (z := 6) (bytes := 80) (z0 := (.agg #[.int .i64 0, str [], .int .i64 0, str [], .int .i64 0, .slice none 0 0])) Tryd.underlying22 (by unfold elemRow; kernel_rfl) rfl rfl (by decide) rfl rfl ((rowsO_onlyM (hoA.ext me17) hx44 (Nat.lt_of_lt_of_le hb3.lt hx8.size) (hmL.ext me17)).ext hx49) ho48.rows (Nat.le_trans (Nat.le_trans me20 hx44.size) hx49.size) (by first | (simp; omega) | (simp; done) | omega) (fun h' y hge x hx => okM_onlyM ((List.mem_append.1 hx).elim (hkA x) (fun q => by rw [List.mem_singleton.1 q]; exact hrC.2 _ (can_mem (k := i) (by omega)))) (only_app (Only.trans (Only.trans (Only.trans (Only.trans (Only.trans (Only.trans (Only.trans (Only.trans (Only.trans (Only.refl _ _) hxA (fun _ hb_ => .inl hb_)) hn9.ext (fun _ hb_ => by cases hb_)) hp11.only (fun b_ hb_ => .inr (by rw [List.mem_singleton.1 hb_]; exact hxA.size))) hn13.ext (fun _ hb_ => by cases hb_)) hp15.only (fun b_ hb_ => .inr (by rw [List.mem_singleton.1 hb_]; exact me8))) hp40.only (fun b_ hb_ => .inr (by rw [List.mem_singleton.1 hb_]; exact me8))) hp42.only (fun b_ hb_ => .inr (by rw [List.mem_singleton.1 hb_]; exact me8))) hx44 (fun _ hb_ => .inl hb_)) hx49 (fun _ hb_ => by cases hb_)) y hge) hmC)) rfl rfl rfl ?_
     rintro v50 h22 ⟨ha51, ha51l⟩
     refine Av ?_
     refine L_nil (X_block (X_then ?_))
     refine W_sub _ (sk1 8 rfl (tk8 26 7 4 3 2 0 25 27)) ?_
     refine W_region ?_
     refine Ly (Y_add rfl rfl (by omega) (by omega)) ?_
     refine Mv ?_
     refine L_nil ?_
     refine X_loop ((i + 1, v50)) (sk1 26 rfl (tk8 7 4 3 2 0 8 25 27)) ?_ ?_
     have hc52 := ((hb45.ext hx49).only ha51.only (fun hb_ => Nat.lt_irrefl _ (Nat.lt_of_lt_of_le (Nat.lt_of_lt_of_le hb3.lt hx8.size) (ha51.ge _ hb_))))
     ·exact ⟨by omega, mms_ok hkA (hrC.2 _ (can_mem (by omega))), (Only.trans (Only.trans (Only.trans (Only.trans (Only.trans (Only.trans (Only.trans (Only.trans (Only.trans (Only.trans (Only.refl _ _) hxA (fun _ hb_ => .inl hb_)) hn9.ext (fun _ hb_ => by cases hb_)) hp11.only (fun b_ hb_ => .inr (by rw [List.mem_singleton.1 hb_]; exact hxA.size))) hn13.ext (fun _ hb_ => by cases hb_)) hp15.only (fun b_ hb_ => .inr (by rw [List.mem_singleton.1 hb_]; exact me8))) hp40.only (fun b_ hb_ => .inr (by rw [List.mem_singleton.1 hb_]; exact me8))) hp42.only (fun b_ hb_ => .inr (by rw [List.mem_singleton.1 hb_]; exact me8))) hx44 (fun _ hb_ => .inl hb_)) hx49 (fun _ hb_ => by cases hb_)) ha51.only (fun b_ hb_ => .inr (Nat.le_trans (Nat.le_refl _) (ha51.ge b_ hb_)))), rowsO_congr ha51.own (mms_f a b).1, MapA.congr hc52 (mms_f a b).2⟩
     (try dsimp only)
     omega
    refine LO_yld (i := 4) rfl (Y_ldblk Tryd.underlying28 rfl rfl (hk12.ext (hn13.ext.then' hp15.only (by simp) (Nat.le_refl _))) rfl) rfl rfl rfl trivial ?_
    refine LH_one (i := 2) (by kernel_rfl) ?_
    have me21 := Nat.le_trans (Nat.le_trans hxA.size hn9.ext.size) hp11.only.size
    refine LO_yld (i := 2) rfl (Y_len Tryd.underlying28 rfl (show Bytes _ ((at_nod L05 ((i : Int)).toNat).dv) ((at_nod L05 ((i : Int)).toNat).data) from (rowsN_onlyM hrC (Only.trans (Only.trans (Only.trans (Only.trans (Only.trans (Only.refl _ _) hxA (fun _ hb_ => .inl hb_)) hn9.ext (fun _ hb_ => by cases hb_)) hp11.only (fun b_ hb_ => .inr (by rw [List.mem_singleton.1 hb_]; exact hxA.size))) hn13.ext (fun _ hb_ => by cases hb_)) hp15.only (fun b_ hb_ => .inr (by rw [List.mem_singleton.1 hb_]; exact me21))) hmC).okat (k := ((i : Int)).toNat) (by omega))) rfl rfl rfl trivial ?_
    refine LH_take (i := 5) rfl (fun h_ hI_ => Y_fieldAddr (off := 0) (by kernel_rfl) rfl rfl) rfl rfl rfl (by kernel_rfl) (by kernel_rfl) (by kernel_rfl) (fun _ _ _ => by rintro ⟨_, _, h_, _⟩; cases h_) trivial ?_
    refine LH_take (i := 6) rfl (fun h_ hI_ => Y_fieldAddr (off := 4) (by kernel_rfl) rfl rfl) rfl rfl rfl (by kernel_rfl) (by kernel_rfl) (by kernel_rfl) (fun _ _ _ => by rintro ⟨_, _, h_, _⟩; cases h_) trivial ?_
    refine LH_one (i := 7) (by kernel_rfl) ?_
    refine LO_dos (i := 7) rfl (D_store (us := [.int .i64 ((((at_nod L05 ((i : Int)).toNat).data).length : Int))]) (show _ = some 1 by kernel_rfl) rfl rfl rfl (by simp [Value.oneCell']) hk16 (by simp)) rfl rfl ?_
    rintro h23 hp53
    refine ⟨trivial, ?_⟩
    have hk54 : Blk h23 h6.size [.int .i64 ((at_nod L05 ((i : Int)).toNat).kind), str ((at_nod L05 ((i : Int)).toNat).path), .int .i64 ((at_nod L05 ((i : Int)).toNat).mode), str ((at_nod L05 ((i : Int)).toNat).target), .int .i64 ((((at_nod L05 ((i : Int)).toNat).data).length : Int)), .slice none 0 0] := hp53.blk
    refine LH_take (i := 8) rfl (fun h_ hI_ => Y_fieldAddr (off := 5) (by kernel_rfl) rfl rfl) rfl rfl rfl (by kernel_rfl) (by kernel_rfl) (by kernel_rfl) (fun _ _ _ => by rintro ⟨_, _, h_, _⟩; cases h_) trivial ?_
    refine LH_one (i := 9) (by kernel_rfl) ?_
    refine LO_dos (i := 9) rfl (D_store (us := [((at_nod L05 ((i : Int)).toNat).dv)]) (show _ = some 1 by kernel_rfl) rfl rfl (cells_slice (show Bytes _ ((at_nod L05 ((i : Int)).toNat).dv) ((at_nod L05 ((i : Int)).toNat).data) from (rowsN_onlyM hrC (Only.trans (Only.trans (Only.trans (Only.trans (Only.trans (Only.trans (Only.refl _ _) hxA (fun _ hb_ => .inl hb_)) hn9.ext (fun _ hb_ => by cases hb_)) hp11.only (fun b_ hb_ => .inr (by rw [List.mem_singleton.1 hb_]; exact hxA.size))) hn13.ext (fun _ hb_ => by cases hb_)) hp15.only (fun b_ hb_ => .inr (by rw [List.mem_singleton.1 hb_]; exact (Nat.le_trans (Nat.le_trans hxA.size hn9.ext.size) hp11.only.size)))) hp53.only (fun b_ hb_ => .inr (by rw [List.mem_singleton.1 hb_]; exact (Nat.le_trans (Nat.le_trans hxA.size hn9.ext.size) hp11.only.size)))) hmC).okat (k := ((i : Int)).toNat) (by omega))) (by intro u_ hu_; simp only [List.mem_cons, List.not_mem_nil, or_false] at hu_; rcases hu_ with rfl <;> first | rfl | exact ((show Bytes _ ((at_nod L05 ((i : Int)).toNat).dv) ((at_nod L05 ((i : Int)).toNat).data) from (rowsN_onlyM hrC (Only.trans (Only.trans (Only.trans (Only.trans (Only.trans (Only.trans (Only.refl _ _) hxA (fun _ hb_ => .inl hb_)) hn9.ext (fun _ hb_ => by cases hb_)) hp11.only (fun b_ hb_ => .inr (by rw [List.mem_singleton.1 hb_]; exact hxA.size))) hn13.ext (fun _ hb_ => by cases hb_)) hp15.only (fun b_ hb_ => .inr (by rw [List.mem_singleton.1 hb_]; exact (Nat.le_trans (Nat.le_trans hxA.size hn9.ext.size) hp11.only.size)))) hp53.only (fun b_ hb_ => .inr (by rw [List.mem_singleton.1 hb_]; exact (Nat.le_trans (Nat.le_trans hxA.size hn9.ext.size) hp11.only.size)))) hmC).okat (k := ((i : Int)).toNat) (by omega))).cell1) hk54 (by simp)) rfl rfl ?_
    rintro h24 hp55
    refine ⟨trivial, ?_⟩
    have hk56 : Blk h24 h6.size [.int .i64 ((at_nod L05 ((i : Int)).toNat).kind), str ((at_nod L05 ((i : Int)).toNat).path), .int .i64 ((at_nod L05 ((i : Int)).toNat).mode), str ((at_nod L05 ((i : Int)).toNat).target), .int .i64 ((((at_nod L05 ((i : Int)).toNat).data).length : Int)), ((at_nod L05 ((i : Int)).toNat).dv)] := hp55.blk
    refine LH_done (by kernel_rfl) ?_
    refine X_then ?_
    refine W_sub _ (sk3 11 10 26 rfl rfl rfl (tk8 7 4 3 2 0 8 25 27)) ?_
    refine W_region ?_
    refine Mv ?_
    refine Ly (Y_fieldAddr (off := 5) (by kernel_rfl) rfl rfl) ?_
    have me22 := (hn13.ext.then' hp15.only (by simp) (Nat.le_refl _)).then' hp53.only (by simp) (Nat.le_refl _)
    refine Ly (Y_ldblk Tryd.underlying3 rfl rfl (hk12.ext (me22.then' hp55.only (by simp) (Nat.le_refl _))) rfl) ?_
    refine Ly (Y_fieldAddr (off := 1) (by kernel_rfl) rfl rfl) ?_
    refine Ly (Y_ldblk Tryd.underlying9 rfl rfl (hk12.ext (me22.then' hp55.only (by simp) (Nat.le_refl _))) rfl) ?_
    have me23 := me2.then' hp53.only (by simp) (Nat.le_trans hn9.ext.size hp11.only.size)
    have me24 := me23.then' hp55.only (by simp) (Nat.le_trans hn9.ext.size hp11.only.size)
    refine L_dos (D_updA (evl := (fun l : List UInt8 => str l)) (k := (at_nod L05 ((i : Int)).toNat).cls) (v := (at_nod L05 ((i : Int)).toNat).path) keyI Tryd.underlying73 Tryd.underlying3 rfl rfl rfl (hmL.ext me24)) rfl rfl ?_
    rintro h25 ⟨hx57, -, hb58⟩
    refine L_nil (X_block (X_then ?_))
    refine W_sub _ (sk2 11 26 rfl rfl (tk8 7 4 3 2 0 8 25 27)) ?_
    refine W_region ?_
    refine Mv ?_
    have me25 := Nat.le_trans (Nat.le_trans hx8.size hxA.size) hn9.ext.size
    have hc59 := (hk56.only hx57 (ni_gt (Nat.lt_of_lt_of_le hb3.lt (Nat.le_trans me25 hp11.only.size))))
    refine Ly (Y_ldbox (us := [.int .i64 ((at_nod L05 ((i : Int)).toNat).kind), str ((at_nod L05 ((i : Int)).toNat).path), .int .i64 ((at_nod L05 ((i : Int)).toNat).mode), str ((at_nod L05 ((i : Int)).toNat).target), .int .i64 ((((at_nod L05 ((i : Int)).toNat).data).length : Int)), ((at_nod L05 ((i : Int)).toNat).dv)]) Tryd.underlying30 rfl (show _ = some 6 by kernel_rfl) rfl hc59 rfl) ?_
    refine L_mks (M_litr (S := memS) (l := ([⟨(at_nod L05 ((i : Int)).toNat).kind, (at_nod L05 ((i : Int)).toNat).path, (at_nod L05 ((i : Int)).toNat).mode, (at_nod L05 ((i : Int)).toNat).target, (((at_nod L05 ((i : Int)).toNat).data).length : Int), ((at_nod L05 ((i : Int)).toNat).dv), (at_nod L05 ((i : Int)).toNat).data⟩] : List Mem)) (cells := [.int .i64 ((at_nod L05 ((i : Int)).toNat).kind), str ((at_nod L05 ((i : Int)).toNat).path), .int .i64 ((at_nod L05 ((i : Int)).toNat).mode), str ((at_nod L05 ((i : Int)).toNat).target), .int .i64 ((((at_nod L05 ((i : Int)).toNat).data).length : Int)), ((at_nod L05 ((i : Int)).toNat).dv)]) (pv := [(0, .agg #[.int .i64 ((at_nod L05 ((i : Int)).toNat).kind), str ((at_nod L05 ((i : Int)).toNat).path), .int .i64 ((at_nod L05 ((i : Int)).toNat).mode), str ((at_nod L05 ((i : Int)).toNat).target), .int .i64 ((((at_nod L05 ((i : Int)).toNat).data).length : Int)), ((at_nod L05 ((i : Int)).toNat).dv)])]) (E := 30) (evp (is := [0]) (os := [.tmp 83]) (vs := [.agg #[.int .i64 ((at_nod L05 ((i : Int)).toNat).kind), str ((at_nod L05 ((i : Int)).toNat).path), .int .i64 ((at_nod L05 ((i : Int)).toNat).mode), str ((at_nod L05 ((i : Int)).toNat).target), .int .i64 ((((at_nod L05 ((i : Int)).toNat).data).length : Int)), ((at_nod L05 ((i : Int)).toNat).dv)]]) rfl rfl) rfl rfl (fun _ => by kernel_rfl) (by simp only [List.mem_cons, List.not_mem_nil, or_false, forall_eq_or_imp, forall_eq]; exact (show Bytes _ ((at_nod L05 ((i : Int)).toNat).dv) ((at_nod L05 ((i : Int)).toNat).data) from (rowsN_onlyM hrC (Only.trans (Only.trans (Only.trans (Only.trans (Only.trans (Only.trans (Only.trans (Only.trans (Only.refl _ _) hxA (fun _ hb_ => .inl hb_)) hn9.ext (fun _ hb_ => by cases hb_)) hp11.only (fun b_ hb_ => .inr (by rw [List.mem_singleton.1 hb_]; exact hxA.size))) hn13.ext (fun _ hb_ => by cases hb_)) hp15.only (fun b_ hb_ => .inr (by rw [List.mem_singleton.1 hb_]; exact me21))) hp53.only (fun b_ hb_ => .inr (by rw [List.mem_singleton.1 hb_]; exact me21))) hp55.only (fun b_ hb_ => .inr (by rw [List.mem_singleton.1 hb_]; exact me21))) hx57 (fun _ hb_ => .inl hb_)) hmC).okat (k := ((i : Int)).toNat) (by omega)))) rfl rfl rfl ?_
    rintro v60 h26 ⟨ho61, hx62⟩
    have me26 := Nat.le_trans (Nat.le_trans me21 hn13.ext.size) hp15.only.size
    have me27 := Nat.le_trans (Nat.le_trans me26 hp53.only.size) hp55.only.size
    refine L_mks (M_apprG (z := 6) (bytes := 80) (z0 := (.agg #[.int .i64 0, str [], .int .i64 0, str [], .int .i64 0, .slice none 0 0])) Tryd.underlying22 (by unfold elemRow; kernel_rfl) rfl rfl (by decide) rfl rfl ((rowsO_onlyM (hoA.ext me24) hx57 (Nat.lt_of_lt_of_le hb3.lt hx8.size) (hmL.ext me24)).ext hx62) ho61.rows (Nat.le_trans (Nat.le_trans me27 hx57.size) hx62.size) (by first | (simp; omega) | (simp; done) | omega) (fun h' y hge x hx => okM_onlyM ((List.mem_append.1 hx).elim (hkA x) (fun q => by rw [List.mem_singleton.1 q]; exact hrC.2 _ (can_mem (k := i) (by omega)))) (only_app (Only.trans (Only.trans (Only.trans (Only.trans (Only.trans (Only.trans (Only.trans (Only.trans (Only.trans (Only.refl _ _) hxA (fun _ hb_ => .inl hb_)) hn9.ext (fun _ hb_ => by cases hb_)) hp11.only (fun b_ hb_ => .inr (by rw [List.mem_singleton.1 hb_]; exact hxA.size))) hn13.ext (fun _ hb_ => by cases hb_)) hp15.only (fun b_ hb_ => .inr (by rw [List.mem_singleton.1 hb_]; exact me21))) hp53.only (fun b_ hb_ => .inr (by rw [List.mem_singleton.1 hb_]; exact me21))) hp55.only (fun b_ hb_ => .inr (by rw [List.mem_singleton.1 hb_]; exact me21))) hx57 (fun _ hb_ => .inl hb_)) hx62 (fun _ hb_ => by cases hb_)) y hge) hmC)) rfl rfl rfl ?_
    rintro v63 h27 ⟨ha64, ha64l⟩
    refine Av ?_
    refine L_nil (X_block (X_then ?_))
    refine W_sub _ (sk1 8 rfl (tk8 26 7 4 3 2 0 25 27)) ?_
    refine W_region ?_
    refine Ly (Y_add rfl rfl (by omega) (by omega)) ?_
    refine Mv ?_
    refine L_nil ?_
    refine X_loop ((i + 1, v63)) (sk1 26 rfl (tk8 7 4 3 2 0 8 25 27)) ?_ ?_
    have hc65 := ((hb58.ext hx62).only ha64.only (fun hb_ => Nat.lt_irrefl _ (Nat.lt_of_lt_of_le (Nat.lt_of_lt_of_le hb3.lt hx8.size) (ha64.ge _ hb_))))
    ·exact ⟨by omega, mms_ok hkA (hrC.2 _ (can_mem (by omega))), (Only.trans (Only.trans (Only.trans (Only.trans (Only.trans (Only.trans (Only.trans (Only.trans (Only.trans (Only.trans (Only.refl _ _) hxA (fun _ hb_ => .inl hb_)) hn9.ext (fun _ hb_ => by cases hb_)) hp11.only (fun b_ hb_ => .inr (by rw [List.mem_singleton.1 hb_]; exact hxA.size))) hn13.ext (fun _ hb_ => by cases hb_)) hp15.only (fun b_ hb_ => .inr (by rw [List.mem_singleton.1 hb_]; exact me21))) hp53.only (fun b_ hb_ => .inr (by rw [List.mem_singleton.1 hb_]; exact me21))) hp55.only (fun b_ hb_ => .inr (by rw [List.mem_singleton.1 hb_]; exact me21))) hx57 (fun _ hb_ => .inl hb_)) hx62 (fun _ hb_ => by cases hb_)) ha64.only (fun b_ hb_ => .inr (Nat.le_trans (Nat.le_refl _) (ha64.ge b_ hb_)))), rowsO_congr ha64.own (mms_f a b).1, MapA.congr hc65 (mms_f a b).2⟩
    (try dsimp only)
    omega
   refine LO_yld (i := 4) rfl (Y_ldblk Tryd.underlying28 rfl rfl (hk12.ext (hn13.ext.then' hp15.only (by simp) (Nat.le_refl _))) rfl) rfl rfl rfl trivial ?_
   refine LH_one (i := 1) (by kernel_rfl) ?_
   refine LO_yld (i := 1) rfl (Y_ldblk Tryd.underlying28 rfl rfl (hk12.ext (hn13.ext.then' hp15.only (by simp) (Nat.le_refl _))) rfl) rfl rfl rfl trivial ?_
   refine LH_one (i := 2) (by kernel_rfl) ?_
   have me28 := Nat.le_trans (Nat.le_trans hxA.size hn9.ext.size) hp11.only.size
   refine LO_yld (i := 2) rfl (Y_len Tryd.underlying28 rfl (show Bytes _ ((at_nod L05 ((i : Int)).toNat).dv) ((at_nod L05 ((i : Int)).toNat).data) from (rowsN_onlyM hrC (Only.trans (Only.trans (Only.trans (Only.trans (Only.trans (Only.refl _ _) hxA (fun _ hb_ => .inl hb_)) hn9.ext (fun _ hb_ => by cases hb_)) hp11.only (fun b_ hb_ => .inr (by rw [List.mem_singleton.1 hb_]; exact hxA.size))) hn13.ext (fun _ hb_ => by cases hb_)) hp15.only (fun b_ hb_ => .inr (by rw [List.mem_singleton.1 hb_]; exact me28))) hmC).okat (k := ((i : Int)).toNat) (by omega))) rfl rfl rfl trivial ?_
   refine LH_take (i := 5) rfl (fun h_ hI_ => Y_fieldAddr (off := 0) (by kernel_rfl) rfl rfl) rfl rfl rfl (by kernel_rfl) (by kernel_rfl) (by kernel_rfl) (fun _ _ _ => by rintro ⟨_, _, h_, _⟩; cases h_) trivial ?_
   refine LH_take (i := 6) rfl (fun h_ hI_ => Y_fieldAddr (off := 4) (by kernel_rfl) rfl rfl) rfl rfl rfl (by kernel_rfl) (by kernel_rfl) (by kernel_rfl) (fun _ _ _ => by rintro ⟨_, _, h_, _⟩; cases h_) trivial ?_
   refine LH_one (i := 7) (by kernel_rfl) ?_
   refine LO_dos (i := 7) rfl (D_store (us := [.int .i64 ((((at_nod L05 ((i : Int)).toNat).data).length : Int))]) (show _ = some 1 by kernel_rfl) rfl rfl rfl (by simp [Value.oneCell']) hk16 (by simp)) rfl rfl ?_
   rintro h28 hp66
   refine ⟨trivial, ?_⟩
   have hk67 : Blk h28 h6.size [.int .i64 ((at_nod L05 ((i : Int)).toNat).kind), str ((at_nod L05 ((i : Int)).toNat).path), .int .i64 ((at_nod L05 ((i : Int)).toNat).mode), str ((at_nod L05 ((i : Int)).toNat).target), .int .i64 ((((at_nod L05 ((i : Int)).toNat).data).length : Int)), .slice none 0 0] := hp66.blk
   refine LH_take (i := 8) rfl (fun h_ hI_ => Y_fieldAddr (off := 5) (by kernel_rfl) rfl rfl) rfl rfl rfl (by kernel_rfl) (by kernel_rfl) (by kernel_rfl) (fun _ _ _ => by rintro ⟨_, _, h_, _⟩; cases h_) trivial ?_
   refine LH_one (i := 9) (by kernel_rfl) ?_
   refine LO_dos (i := 9) rfl (D_store (us := [((at_nod L05 ((i : Int)).toNat).dv)]) (show _ = some 1 by kernel_rfl) rfl rfl (cells_slice (show Bytes _ ((at_nod L05 ((i : Int)).toNat).dv) ((at_nod L05 ((i : Int)).toNat).data) from (rowsN_onlyM hrC (Only.trans (Only.trans (Only.trans (Only.trans (Only.trans (Only.trans (Only.refl _ _) hxA (fun _ hb_ => .inl hb_)) hn9.ext (fun _ hb_ => by cases hb_)) hp11.only (fun b_ hb_ => .inr (by rw [List.mem_singleton.1 hb_]; exact hxA.size))) hn13.ext (fun _ hb_ => by cases hb_)) hp15.only (fun b_ hb_ => .inr (by rw [List.mem_singleton.1 hb_]; exact (Nat.le_trans (Nat.le_trans hxA.size hn9.ext.size) hp11.only.size)))) hp66.only (fun b_ hb_ => .inr (by rw [List.mem_singleton.1 hb_]; exact (Nat.le_trans (Nat.le_trans hxA.size hn9.ext.size) hp11.only.size)))) hmC).okat (k := ((i : Int)).toNat) (by omega))) (by intro u_ hu_; simp only [List.mem_cons, List.not_mem_nil, or_false] at hu_; rcases hu_ with rfl <;> first | rfl | exact ((show Bytes _ ((at_nod L05 ((i : Int)).toNat).dv) ((at_nod L05 ((i : Int)).toNat).data) from (rowsN_onlyM hrC (Only.trans (Only.trans (Only.trans (Only.trans (Only.trans (Only.trans (Only.refl _ _) hxA (fun _ hb_ => .inl hb_)) hn9.ext (fun _ hb_ => by cases hb_)) hp11.only (fun b_ hb_ => .inr (by rw [List.mem_singleton.1 hb_]; exact hxA.size))) hn13.ext (fun _ hb_ => by cases hb_)) hp15.only (fun b_ hb_ => .inr (by rw [List.mem_singleton.1 hb_]; exact (Nat.le_trans (Nat.le_trans hxA.size hn9.ext.size) hp11.only.size)))) hp66.only (fun b_ hb_ => .inr (by rw [List.mem_singleton.1 hb_]; exact (Nat.le_trans (Nat.le_trans hxA.size hn9.ext.size) hp11.only.size)))) hmC).okat (k := ((i : Int)).toNat) (by omega))).cell1) hk67 (by simp)) rfl rfl ?_
   rintro h29 hp68
   refine ⟨trivial, ?_⟩
   have hk69 : Blk h29 h6.size [.int .i64 ((at_nod L05 ((i : Int)).toNat).kind), str ((at_nod L05 ((i : Int)).toNat).path), .int .i64 ((at_nod L05 ((i : Int)).toNat).mode), str ((at_nod L05 ((i : Int)).toNat).target), .int .i64 ((((at_nod L05 ((i : Int)).toNat).data).length : Int)), ((at_nod L05 ((i : Int)).toNat).dv)] := hp68.blk
   refine LH_done (by kernel_rfl) ?_
   refine X_then ?_
   refine W_sub _ (sk3 11 10 26 rfl rfl rfl (tk8 7 4 3 2 0 8 25 27)) ?_
   refine W_region ?_
   refine Mv ?_
   refine Ly (Y_fieldAddr (off := 5) (by kernel_rfl) rfl rfl) ?_
   have me29 := (hn13.ext.then' hp15.only (by simp) (Nat.le_refl _)).then' hp66.only (by simp) (Nat.le_refl _)
   refine Ly (Y_ldblk Tryd.underlying3 rfl rfl (hk12.ext (me29.then' hp68.only (by simp) (Nat.le_refl _))) rfl) ?_
   refine Ly (Y_fieldAddr (off := 1) (by kernel_rfl) rfl rfl) ?_
   refine Ly (Y_ldblk Tryd.underlying9 rfl rfl (hk12.ext (me29.then' hp68.only (by simp) (Nat.le_refl _))) rfl) ?_
   have me30 := me2.then' hp66.only (by simp) (Nat.le_trans hn9.ext.size hp11.only.size)
   have me31 := me30.then' hp68.only (by simp) (Nat.le_trans hn9.ext.size hp11.only.size)
   refine L_dos (D_updA (evl := (fun l : List UInt8 => str l)) (k := (at_nod L05 ((i : Int)).toNat).cls) (v := (at_nod L05 ((i : Int)).toNat).path) keyI Tryd.underlying73 Tryd.underlying3 rfl rfl rfl (hmL.ext me31)) rfl rfl ?_
   rintro h30 ⟨hx70, -, hb71⟩
   refine L_nil (X_block (X_then ?_))
   refine W_sub _ (sk2 11 26 rfl rfl (tk8 7 4 3 2 0 8 25 27)) ?_
   refine W_region ?_
   refine Mv ?_
   have me32 := Nat.le_trans (Nat.le_trans hx8.size hxA.size) hn9.ext.size
   have hc72 := (hk69.only hx70 (ni_gt (Nat.lt_of_lt_of_le hb3.lt (Nat.le_trans me32 hp11.only.size))))
   refine Ly (Y_ldbox (us := [.int .i64 ((at_nod L05 ((i : Int)).toNat).kind), str ((at_nod L05 ((i : Int)).toNat).path), .int .i64 ((at_nod L05 ((i : Int)).toNat).mode), str ((at_nod L05 ((i : Int)).toNat).target), .int .i64 ((((at_nod L05 ((i : Int)).toNat).data).length : Int)), ((at_nod L05 ((i : Int)).toNat).dv)]) Tryd.underlying30 rfl (show _ = some 6 by kernel_rfl) rfl hc72 rfl) ?_
   refine L_mks (M_litr (S := memS) (l := ([⟨(at_nod L05 ((i : Int)).toNat).kind, (at_nod L05 ((i : Int)).toNat).path, (at_nod L05 ((i : Int)).toNat).mode, (at_nod L05 ((i : Int)).toNat).target, (((at_nod L05 ((i : Int)).toNat).data).length : Int), ((at_nod L05 ((i : Int)).toNat).dv), (at_nod L05 ((i : Int)).toNat).data⟩] : List Mem)) (cells := [.int .i64 ((at_nod L05 ((i : Int)).toNat).kind), str ((at_nod L05 ((i : Int)).toNat).path), .int .i64 ((at_nod L05 ((i : Int)).toNat).mode), str ((at_nod L05 ((i : Int)).toNat).target), .int .i64 ((((at_nod L05 ((i : Int)).toNat).data).length : Int)), ((at_nod L05 ((i : Int)).toNat).dv)]) (pv := [(0, .agg #[.int .i64 ((at_nod L05 ((i : Int)).toNat).kind), str ((at_nod L05 ((i : Int)).toNat).path), .int .i64 ((at_nod L05 ((i : Int)).toNat).mode), str ((at_nod L05 ((i : Int)).toNat).target), .int .i64 ((((at_nod L05 ((i : Int)).toNat).data).length : Int)), ((at_nod L05 ((i : Int)).toNat).dv)])]) (E := 30) (evp (is := [0]) (os := [.tmp 83]) (vs := [.agg #[.int .i64 ((at_nod L05 ((i : Int)).toNat).kind), str ((at_nod L05 ((i : Int)).toNat).path), .int .i64 ((at_nod L05 ((i : Int)).toNat).mode), str ((at_nod L05 ((i : Int)).toNat).target), .int .i64 ((((at_nod L05 ((i : Int)).toNat).data).length : Int)), ((at_nod L05 ((i : Int)).toNat).dv)]]) rfl rfl) rfl rfl (fun _ => by kernel_rfl) (by simp only [List.mem_cons, List.not_mem_nil, or_false, forall_eq_or_imp, forall_eq]; exact (show Bytes _ ((at_nod L05 ((i : Int)).toNat).dv) ((at_nod L05 ((i : Int)).toNat).data) from (rowsN_onlyM hrC (Only.trans (Only.trans (Only.trans (Only.trans (Only.trans (Only.trans (Only.trans (Only.trans (Only.refl _ _) hxA (fun _ hb_ => .inl hb_)) hn9.ext (fun _ hb_ => by cases hb_)) hp11.only (fun b_ hb_ => .inr (by rw [List.mem_singleton.1 hb_]; exact hxA.size))) hn13.ext (fun _ hb_ => by cases hb_)) hp15.only (fun b_ hb_ => .inr (by rw [List.mem_singleton.1 hb_]; exact me28))) hp66.only (fun b_ hb_ => .inr (by rw [List.mem_singleton.1 hb_]; exact me28))) hp68.only (fun b_ hb_ => .inr (by rw [List.mem_singleton.1 hb_]; exact me28))) hx70 (fun _ hb_ => .inl hb_)) hmC).okat (k := ((i : Int)).toNat) (by omega)))) rfl rfl rfl ?_
   rintro v73 h31 ⟨ho74, hx75⟩
   have me33 := Nat.le_trans (Nat.le_trans me28 hn13.ext.size) hp15.only.size
   have me34 := Nat.le_trans (Nat.le_trans me33 hp66.only.size) hp68.only.size
   refine L_mks (M_apprG (z := 6) (bytes := 80) (z0 := (.agg #[.int .i64 0, str [], .int .i64 0, str [], .int .i64 0, .slice none 0 0])) Tryd.underlying22 (by unfold elemRow; kernel_rfl) rfl rfl (by decide) rfl rfl ((rowsO_onlyM (hoA.ext me31) hx70 (Nat.lt_of_lt_of_le hb3.lt hx8.size) (hmL.ext me31)).ext hx75) ho74.rows (Nat.le_trans (Nat.le_trans me34 hx70.size) hx75.size) (by first | (simp; omega) | (simp; done) | omega) (fun h' y hge x hx => okM_onlyM ((List.mem_append.1 hx).elim (hkA x) (fun q => by rw [List.mem_singleton.1 q]; exact hrC.2 _ (can_mem (k := i) (by omega)))) (only_app (Only.trans (Only.trans (Only.trans (Only.trans (Only.trans (Only.trans (Only.trans (Only.trans (Only.trans (Only.refl _ _) hxA (fun _ hb_ => .inl hb_)) hn9.ext (fun _ hb_ => by cases hb_)) hp11.only (fun b_ hb_ => .inr (by rw [List.mem_singleton.1 hb_]; exact hxA.size))) hn13.ext (fun _ hb_ => by cases hb_)) hp15.only (fun b_ hb_ => .inr (by rw [List.mem_singleton.1 hb_]; exact me28))) hp66.only (fun b_ hb_ => .inr (by rw [List.mem_singleton.1 hb_]; exact me28))) hp68.only (fun b_ hb_ => .inr (by rw [List.mem_singleton.1 hb_]; exact me28))) hx70 (fun _ hb_ => .inl hb_)) hx75 (fun _ hb_ => by cases hb_)) y hge) hmC)) rfl rfl rfl ?_
   rintro v76 h32 ⟨ha77, ha77l⟩
   refine Av ?_
   refine L_nil (X_block (X_then ?_))
   refine W_sub _ (sk1 8 rfl (tk8 26 7 4 3 2 0 25 27)) ?_
   refine W_region ?_
   refine Ly (Y_add rfl rfl (by omega) (by omega)) ?_
   refine Mv ?_
   refine L_nil ?_
   refine X_loop ((i + 1, v76)) (sk1 26 rfl (tk8 7 4 3 2 0 8 25 27)) ?_ ?_
   have hc78 := ((hb71.ext hx75).only ha77.only (fun hb_ => Nat.lt_irrefl _ (Nat.lt_of_lt_of_le (Nat.lt_of_lt_of_le hb3.lt hx8.size) (ha77.ge _ hb_))))
   ·exact ⟨by omega, mms_ok hkA (hrC.2 _ (can_mem (by omega))), (Only.trans (Only.trans (Only.trans (Only.trans (Only.trans (Only.trans (Only.trans (Only.trans (Only.trans (Only.trans (Only.refl _ _) hxA (fun _ hb_ => .inl hb_)) hn9.ext (fun _ hb_ => by cases hb_)) hp11.only (fun b_ hb_ => .inr (by rw [List.mem_singleton.1 hb_]; exact hxA.size))) hn13.ext (fun _ hb_ => by cases hb_)) hp15.only (fun b_ hb_ => .inr (by rw [List.mem_singleton.1 hb_]; exact me28))) hp66.only (fun b_ hb_ => .inr (by rw [List.mem_singleton.1 hb_]; exact me28))) hp68.only (fun b_ hb_ => .inr (by rw [List.mem_singleton.1 hb_]; exact me28))) hx70 (fun _ hb_ => .inl hb_)) hx75 (fun _ hb_ => by cases hb_)) ha77.only (fun b_ hb_ => .inr (Nat.le_trans (Nat.le_refl _) (ha77.ge b_ hb_)))), rowsO_congr ha77.own (mms_f a b).1, MapA.congr hc78 (mms_f a b).2⟩
   (try dsimp only)
   omega
  refine W_skip (X_block (X_then ?_))
  refine W_sub _ (sk2 11 26 rfl rfl (tk8 7 4 3 2 0 8 25 27)) ?_
  refine W_region ?_
  refine Mv ?_
  refine Ly (Y_ldbox (us := [.int .i64 ((at_nod L05 ((i : Int)).toNat).kind), str ((at_nod L05 ((i : Int)).toNat).path), .int .i64 ((at_nod L05 ((i : Int)).toNat).mode), str ((at_nod L05 ((i : Int)).toNat).target), .int .i64 0, .slice none 0 0]) Tryd.underlying30 rfl (show _ = some 6 by kernel_rfl) rfl hk16 rfl) ?_
  refine L_mks (M_litr (S := memS) (l := ([⟨(at_nod L05 ((i : Int)).toNat).kind, (at_nod L05 ((i : Int)).toNat).path, (at_nod L05 ((i : Int)).toNat).mode, (at_nod L05 ((i : Int)).toNat).target, (0 : Int), .slice none 0 0, ([] : List UInt8)⟩] : List Mem)) (cells := [.int .i64 ((at_nod L05 ((i : Int)).toNat).kind), str ((at_nod L05 ((i : Int)).toNat).path), .int .i64 ((at_nod L05 ((i : Int)).toNat).mode), str ((at_nod L05 ((i : Int)).toNat).target), .int .i64 0, .slice none 0 0]) (pv := [(0, .agg #[.int .i64 ((at_nod L05 ((i : Int)).toNat).kind), str ((at_nod L05 ((i : Int)).toNat).path), .int .i64 ((at_nod L05 ((i : Int)).toNat).mode), str ((at_nod L05 ((i : Int)).toNat).target), .int .i64 0, .slice none 0 0])]) (E := 30) (evp (is := [0]) (os := [.tmp 83]) (vs := [.agg #[.int .i64 ((at_nod L05 ((i : Int)).toNat).kind), str ((at_nod L05 ((i : Int)).toNat).path), .int .i64 ((at_nod L05 ((i : Int)).toNat).mode), str ((at_nod L05 ((i : Int)).toNat).target), .int .i64 0, .slice none 0 0]]) rfl rfl) rfl rfl (fun _ => by kernel_rfl) (by simp only [List.mem_cons, List.not_mem_nil, or_false, forall_eq_or_imp, forall_eq]; exact (Bytes.nil _))) rfl rfl rfl ?_
  rintro v79 h33 ⟨ho80, hx81⟩
  have me35 := Nat.le_trans (Nat.le_trans hxA.size hn9.ext.size) hp11.only.size
  have me36 := Nat.le_trans (Nat.le_trans me35 hn13.ext.size) hp15.only.size
  refine L_mks (M_apprG (z := 6) (bytes := 80) (z0 := (.agg #[.int .i64 0, str [], .int .i64 0, str [], .int .i64 0, .slice none 0 0])) Tryd.underlying22 (by unfold elemRow; kernel_rfl) rfl rfl (by decide) rfl rfl (hoA.ext (me2.trans hx81)) ho80.rows (Nat.le_trans me36 hx81.size) (by first | (simp; omega) | (simp; done) | omega) (fun h' y hge x hx => okM_onlyM ((List.mem_append.1 hx).elim (hkA x) (fun q => by rw [List.mem_singleton.1 q]; exact Bytes.nil _)) (only_app (Only.trans (Only.trans (Only.trans (Only.trans (Only.trans (Only.trans (Only.refl _ _) hxA (fun _ hb_ => .inl hb_)) hn9.ext (fun _ hb_ => by cases hb_)) hp11.only (fun b_ hb_ => .inr (by rw [List.mem_singleton.1 hb_]; exact hxA.size))) hn13.ext (fun _ hb_ => by cases hb_)) hp15.only (fun b_ hb_ => .inr (by rw [List.mem_singleton.1 hb_]; exact me35))) hx81 (fun _ hb_ => by cases hb_)) y hge) hmC)) rfl rfl rfl ?_
  rintro v82 h34 ⟨ha83, ha83l⟩
  refine Av ?_
  refine L_nil (X_block (X_then ?_))
  refine W_sub _ (sk1 8 rfl (tk8 26 7 4 3 2 0 25 27)) ?_
  refine W_region ?_
  refine Ly (Y_add rfl rfl (by omega) (by omega)) ?_
  refine Mv ?_
  refine L_nil ?_
  refine X_loop ((i + 1, v82)) (sk1 26 rfl (tk8 7 4 3 2 0 8 25 27)) ?_ ?_
  have hc84 := ((((((hmL.ext hn9.ext).only hp11.only (ni_lt (Nat.lt_of_lt_of_le hb3.lt (Nat.le_trans hx8.size hxA.size)))).ext hn13.ext).only hp15.only (ni_lt (Nat.lt_of_lt_of_le hb3.lt (Nat.le_trans (Nat.le_trans (Nat.le_trans hx8.size hxA.size) hn9.ext.size) hp11.only.size)))).ext hx81).only ha83.only (fun hb_ => Nat.lt_irrefl _ (Nat.lt_of_lt_of_le (Nat.lt_of_lt_of_le hb3.lt hx8.size) (ha83.ge _ hb_))))
  ·exact ⟨by omega, mms_ok hkA (hrC.2 _ (can_mem (by omega))), (Only.trans (Only.trans (Only.trans (Only.trans (Only.trans (Only.trans (Only.trans (Only.refl _ _) hxA (fun _ hb_ => .inl hb_)) hn9.ext (fun _ hb_ => by cases hb_)) hp11.only (fun b_ hb_ => .inr (by rw [List.mem_singleton.1 hb_]; exact hxA.size))) hn13.ext (fun _ hb_ => by cases hb_)) hp15.only (fun b_ hb_ => .inr (by rw [List.mem_singleton.1 hb_]; exact me35))) hx81 (fun _ hb_ => by cases hb_)) ha83.only (fun b_ hb_ => .inr (Nat.le_trans (Nat.le_refl _) (ha83.ge b_ hb_)))), rowsO_congr ha83.own (mms_n a b).1, MapA.congr hc84 (mms_n a b).2⟩
  (try dsimp only)
  omega
 refine W_exit ?_
 refine X_then_exit (X_then_exit ?_)
 refine X_block_hit ?_
 refine X_then ?_
 refine W_sub _ (tk5 4 3 2 0 8) ?_
 refine Wr ?_
 refine Mv ?_
 refine Mv ?_
 refine Ly (Y_lenr Tryd.underlying32 rfl (hl.ext (((hx1.trans hx2).trans hx8).then' hxA (by simp) hx1.size))) ?_
 refine Av ?_
 refine Av ?_
 refine Av ?_
 refine Nx ?_
 refine W_sub _ (tk3 4 3 2) ?_
 refine W_ret ?_
 refine X_ret3 rfl rfl rfl rfl ?_
 exact ⟨_, _, by rw [hz, (tok_of hz).res.1], hoA.rows, by have e9 := mbs_of hz (by assumption); rw [← e9]; congr 1; congr 1; omega, (((hx1.trans hx2).trans hx8).then' hxA (by simp) hx1.size)⟩
end Go.Xp
