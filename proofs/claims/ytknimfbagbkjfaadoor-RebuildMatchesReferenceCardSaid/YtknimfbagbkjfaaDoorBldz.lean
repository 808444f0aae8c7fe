/- Layer 15 (rebuild): the laws' helpers. -/
import Derived.Test.YtknimfbagbkjfaaDoorBldn
set_option linter.unusedSimpArgs false
set_option linter.unusedVariables false
set_option linter.unusedSectionVars false
namespace Go.Xp
open Go.Proofs

theorem bm_mem {l : List Mem} {k : Nat} (h : k < l.length) : at_mem l k ∈ l := by
  unfold at_mem; rw [List.getD_eq_getElem?_getD, List.getElem?_eq_getElem h]; exact List.getElem_mem h
def mbad (x : Mem) : Prop := 70000 < x.path.length + x.target.length ∨ 70000 < x.data.length
instance (x : Mem) : Decidable (mbad x) := by unfold mbad; infer_instance
def mb5 (x : Mem) : Nat := x.path.length + x.target.length + x.data.length
def msumk (l : List Mem) : Nat → Nat
  | 0 => 0
  | i + 1 => msumk l i + mb5 (at_mem l i)
def mtoo (l : List Mem) : Int := if 40 < l.length then 1 else if ((List.range l.length).any fun k => decide (mbad (at_mem l k))) = true then 1 else if 100000 < msumk l l.length then 1 else 0
theorem mtoo_big {l : List Mem} {i : Nat} (h1 : ¬ 40 < l.length) (hi : i < l.length) (h : mbad (at_mem l i)) : mtoo l = 1 := by
  unfold mtoo; rw [if_neg h1, if_pos (List.any_eq_true.2 ⟨i, List.mem_range.2 hi, decide_eq_true h⟩)]
theorem mtoo_end {l : List Mem} (h1 : ¬ 40 < l.length) (h : ∀ k, k < l.length → ¬ mbad (at_mem l k)) : mtoo l = if 100000 < msumk l l.length then 1 else 0 := by
  unfold mtoo; rw [if_neg h1, if_neg]
  rw [List.any_eq_true]
  rintro ⟨k, hk, e⟩
  exact h k (List.mem_range.1 hk) (of_decide_eq_true e)
theorem msumk_le {l : List Mem} : ∀ {i : Nat}, (∀ k, k < i → ¬ mbad (at_mem l k)) → msumk l i ≤ 140000 * i
  | 0, _ => Nat.le_refl _
  | i + 1, h => by
    have := msumk_le (l := l) (i := i) (fun k hk => h k (by omega))
    have h2 := h i (by omega)
    have : mb5 (at_mem l i) ≤ 140000 := by unfold mbad at h2; unfold mb5; omega
    show msumk l i + _ ≤ _
    omega
theorem mtoo_ok {l : List Mem} (h : ¬ 0 < mtoo l) : l.length ≤ 40 ∧ ∀ x ∈ l, x.path.length ≤ 100000000000 ∧ x.target.length ≤ 100000000000 ∧ x.data.length ≤ 100000000000 := by
  unfold mtoo at h
  split at h
  · exact absurd (by decide) h
  · split at h
    · exact absurd (by decide) h
    · rename_i h1 h2
      refine ⟨by omega, fun x hx => ?_⟩
      obtain ⟨k, hk, rfl⟩ := List.getElem_of_mem hx
      have : ¬ mbad (at_mem l k) := fun q => h2 (List.any_eq_true.2 ⟨k, List.mem_range.2 hk, decide_eq_true q⟩)
      unfold mbad at_mem at this
      rw [List.getD_eq_getElem?_getD, List.getElem?_eq_getElem hk] at this
      simp only [Option.getD_some] at this
      omega
theorem mbad_iff {l : List Mem} {i : Nat} : ((0 < (if 70000 < (at_mem l (i : Int).toNat).path.length + (at_mem l (i : Int).toNat).target.length then 1 else 0 : Int)) ∨ 70000 < ((at_mem l (i : Int).toNat).data.length : Int)) ↔ mbad (at_mem l i) := by
  rw [Int.toNat_natCast]
  unfold mbad
  constructor
  · rintro (q | q)
    · split at q
      · exact .inl (by assumption)
      · exact absurd q (by decide)
    · exact .inr (by omega)
  · rintro (q | q)
    · rw [if_pos q]; exact .inl (by decide)
    · exact .inr (by omega)
set_option maxRecDepth 100000 in
theorem law15_TooLarge (h : Heap) (w : Value) (l : List Mem) (hl : Rows memS h w l) (hn : l.length ≤ 140737488355328) (hs : ∀ x ∈ l, x.path.length ≤ 140737488355328 ∧ x.target.length ≤ 140737488355328 ∧ x.data.length ≤ 140737488355328) : Cal Tryd.prog 15 #[w] h (fun v h' => v = .int .i64 (mtoo l) ∧ Ext h h') := by
 refine Cal_enter (args := [w]) Tryd.func15 rfl rfl rfl (fun σ => ?_)
 refine Wr ?_
 refine Av ?_
 refine L_nil (X_then (W_seq (W_region ?_)))
 refine Av ?_
 refine L_nil (X_then (W_seq (W_seq (W_region ?_))))
 refine Mv ?_
 refine Ly (Y_lenr Tryd.underlying22 rfl hl) ?_
 refine Ly (Y_gtr rfl rfl) ?_
 refine Nx ?_
 refine W_sub _ (tk4 8 3 2 0) ?_
 refine W_splitd rfl (fun c => ?_) (fun c => ?_)
 ·refine Wr ?_
  refine Av ?_
  refine Nx ?_
  refine W_sub _ (tk3 2 3 0) ?_
  refine W_ret (X_then_ret ?_)
  refine X_ret1 rfl rfl ?_
  exact ⟨by unfold mtoo; rw [if_pos (by omega)], (Ext.refl _)⟩
 refine Ws ?_
 refine W_sub _ (tk3 3 2 0) ?_
 refine W_seq (W_seq (W_region ?_))
 refine Mv ?_
 refine Ly (Y_lenr Tryd.underlying22 rfl hl) ?_
 refine Mv ?_
 refine Nx ?_
 refine W_sub _ (tk5 11 10 9 3 2) ?_
 refine W_block ?_
 refine W_loop (S := Nat) (fun i => [(10, .int .i64 ((l.length : Int))), (9, w), (3, .int .i64 ((msumk l i : Int))), (11, .int .i64 ((i : Int)))]) (fun i h' => (i ≤ l.length ∧ ∀ k, k < i → ¬ mbad (at_mem l k)) ∧ Ext h h') (fun i => l.length - i) 0 (sk2 10 9 rfl rfl (sk1 3 (lki rfl (by rfl)) (tk1 11))) ?_ ?_
 ·exact ⟨⟨by omega, fun k hk => absurd hk (Nat.not_lt_zero _)⟩, Ext.refl _⟩
 rintro i h1 ⟨⟨hi, h0⟩, hxa⟩
 show W _ _ _ _ _ [(10, .int .i64 ((l.length : Int))), (9, w), (3, .int .i64 ((msumk l i : Int))), (11, .int .i64 ((i : Int)))] _
 refine Wr ?_
 refine Ly (Y_lss rfl rfl) ?_
 refine L_nil (X_then (W_seq ?_))
 refine W_splitd rfl (fun hlt => ?_) (fun hlt => ?_)
 ·refine Ws ?_
  refine W_sub _ (tk4 10 9 3 11) ?_
  refine W_seq (W_block (W_seq (W_region ?_)))
  refine Ly (Y_idxr Tryd.underlying22 (show _ = some 6 by kernel_rfl) rfl rfl rfl (hl.ext hxa) (by omega) (by omega)) ?_
  refine Ly (Y_ldrA0 (k := ((i : Int)).toNat) (us := [.int .i64 ((at_mem l ((i : Int)).toNat).kind), str ((at_mem l ((i : Int)).toNat).path), .int .i64 ((at_mem l ((i : Int)).toNat).mode), str ((at_mem l ((i : Int)).toNat).target), .int .i64 ((at_mem l ((i : Int)).toNat).size), ((at_mem l ((i : Int)).toNat).dv)]) Tryd.underlying30 rfl (show _ = some 6 by kernel_rfl) rfl rfl (hl.ext hxa) (by omega) rfl) ?_
  refine L_mks (M_alloc (u := .agg #[.int .i64 0, str [], .int .i64 0, str [], .int .i64 0, .slice none 0 0]) (by kernel_rfl)) rfl rfl rfl ?_
  rintro _ h2 ⟨rfl, hn1⟩
  have hk2 : Blk h2 h1.size [.int .i64 0, str [], .int .i64 0, str [], .int .i64 0, .slice none 0 0] := hn1.blk
  refine L_dos (D_store (us := [.int .i64 ((at_mem l ((i : Int)).toNat).kind), str ((at_mem l ((i : Int)).toNat).path), .int .i64 ((at_mem l ((i : Int)).toNat).mode), str ((at_mem l ((i : Int)).toNat).target), .int .i64 ((at_mem l ((i : Int)).toNat).size), ((at_mem l ((i : Int)).toNat).dv)]) (show _ = some 6 by kernel_rfl) rfl rfl rfl (by intro u_ hu_; simp only [List.mem_cons, List.not_mem_nil, or_false] at hu_; rcases hu_ with rfl | rfl | rfl | rfl | rfl | rfl <;> first | rfl | exact ((show Bytes _ ((at_mem l ((i : Int)).toNat).dv) ((at_mem l ((i : Int)).toNat).data) from (hl.ext (hxa.trans hn1.ext)).okat (k := ((i : Int)).toNat) (by omega))).cell1) hk2 (by simp)) rfl rfl ?_
  rintro h3 hp3
  have hk4 : Blk h3 h1.size [.int .i64 ((at_mem l ((i : Int)).toNat).kind), str ((at_mem l ((i : Int)).toNat).path), .int .i64 ((at_mem l ((i : Int)).toNat).mode), str ((at_mem l ((i : Int)).toNat).target), .int .i64 ((at_mem l ((i : Int)).toNat).size), ((at_mem l ((i : Int)).toNat).dv)] := hp3.blk
  refine Nx ?_
  refine W_sub _ (tk5 5 10 9 3 11) ?_
  have hmm := hs _ (bm_mem (l := l) (k := (i : Int).toNat) (by omega))
  have hsm := msumk_le h0
  have hst : msumk l (i + 1) = msumk l i + mb5 (at_mem l i) := rfl
  have hnb : mb5 (at_mem l i) = (at_mem l (i : Int).toNat).path.length + (at_mem l (i : Int).toNat).target.length + (at_mem l (i : Int).toNat).data.length := rfl
  refine W_seq ?_
  refine W_cut (S := Unit) (fun _ => [(24, .bool (decide ((0 < (if 70000 < ((at_mem l ((i : Int)).toNat).path).length + ((at_mem l ((i : Int)).toNat).target).length then 1 else 0 : Int)) ∨ (70000 < (((at_mem l ((i : Int)).toNat).data).length : Int))))), (5, .pointer (some ⟨h1.size, 0, none⟩)), (10, .int .i64 ((l.length : Int))), (9, w), (3, .int .i64 ((msumk l i : Int))), (11, .int .i64 ((i : Int)))]) (fun _ h' => Ext h3 h') ?_ ?_
  ·refine W_region ?_
   refine Ly (Y_fieldAddr (off := 0) (by kernel_rfl) rfl rfl) ?_
   refine Ly (Y_ldbox (us := [.int .i64 ((at_mem l ((i : Int)).toNat).kind), str ((at_mem l ((i : Int)).toNat).path), .int .i64 ((at_mem l ((i : Int)).toNat).mode), str ((at_mem l ((i : Int)).toNat).target), .int .i64 ((at_mem l ((i : Int)).toNat).size)]) Tryd.underlying27 rfl (show _ = some 5 by kernel_rfl) rfl hk4 rfl) ?_
   refine L_call (E_call (by kernel_rfl) rfl) (law10_TooLarge _ ((at_mem l ((i : Int)).toNat).kind) ((at_mem l ((i : Int)).toNat).path) ((at_mem l ((i : Int)).toNat).mode) ((at_mem l ((i : Int)).toNat).target) ((at_mem l ((i : Int)).toNat).size) (by first | omega | rfl | (simp <;> omega)) (by first | omega | rfl | (simp <;> omega))) rfl rfl rfl ?_
   rintro _ h4 ⟨rfl, hx5⟩
   refine Ly (Y_gtr rfl rfl) ?_
   refine Mv ?_
   refine L_splitd (d := 19) rfl (fun g1 => ?_) (fun g1 => ?_)
   ·refine Skp ?_
    refine Skp ?_
    refine Skp ?_
    refine Skp ?_
    refine Ly (Y_pick_t rfl rfl) ?_
    refine L_nil ?_
    exact X_cut () (sk1 24 (lkb rfl (by first | (simp only [eq_true g1, SB]; done) | (simp only [eq_true g1, SB]; rfl))) (sk1 5 rfl (sk1 10 rfl (sk1 9 rfl (sk1 3 rfl (tk1 11)))))) hx5
   refine Ly (Y_fieldAddr (off := 5) (by kernel_rfl) rfl rfl) ?_
   refine Ly (Y_ldblk Tryd.underlying28 rfl rfl (hk4.ext hx5) rfl) ?_
   have me1 := ((hxa.trans hn1.ext).then' hp3.only (by simp) hxa.size).trans hx5
   refine Ly (Y_len Tryd.underlying28 rfl (show Bytes _ ((at_mem l ((i : Int)).toNat).dv) ((at_mem l ((i : Int)).toNat).data) from (hl.ext me1).okat (k := ((i : Int)).toNat) (by omega))) ?_
   refine Ly (Y_gtr rfl rfl) ?_
   refine Ly (Y_pick_f rfl rfl) ?_
   refine L_nil ?_
   exact X_cut () (sk1 24 (lkb rfl (by first | (simp only [eq_false g1, SB]; done) | (simp only [eq_false g1, SB]; rfl))) (sk1 5 rfl (sk1 10 rfl (sk1 9 rfl (sk1 3 rfl (tk1 11)))))) hx5
  rintro _ h5 hx6
  show W _ _ _ _ _ [(24, .bool (decide ((0 < (if 70000 < ((at_mem l ((i : Int)).toNat).path).length + ((at_mem l ((i : Int)).toNat).target).length then 1 else 0 : Int)) ∨ (70000 < (((at_mem l ((i : Int)).toNat).data).length : Int))))), (5, .pointer (some ⟨h1.size, 0, none⟩)), (10, .int .i64 ((l.length : Int))), (9, w), (3, .int .i64 ((msumk l i : Int))), (11, .int .i64 ((i : Int)))] _
  refine W_splitd rfl (fun g => ?_) (fun g => ?_)
  ·refine Wr ?_
   refine Av ?_
   refine Nx ?_
   refine W_sub _ (tk6 2 5 10 9 3 11) ?_
   refine W_ret (X_then_ret (X_block_ret (X_then_ret (X_then_ret (X_block_ret (X_then_ret ?_))))))
   refine X_ret1 rfl rfl ?_
   have me2 := ((hxa.trans hn1.ext).then' hp3.only (by simp) hxa.size).trans hx6
   exact ⟨by rw [mtoo_big (i := i) (by omega) (by omega) (mbad_iff.1 g)], me2⟩
  refine Ws ?_
  refine W_sub _ (tk5 5 10 9 3 11) ?_
  have hng : ¬ mbad (at_mem l i) := fun q => g (mbad_iff.2 q)
  refine W_region ?_
  refine Mv ?_
  refine Ly (Y_fieldAddr (off := 0) (by kernel_rfl) rfl rfl) ?_
  refine Ly (Y_fieldAddr (off := 1) (by kernel_rfl) rfl rfl) ?_
  refine Ly (Y_ldblk Tryd.underlying9 rfl rfl (hk4.ext hx6) rfl) ?_
  refine Ly (Y_slen Tryd.underlying9 rfl) ?_
  refine Ly (Y_fieldAddr (off := 0) (by kernel_rfl) rfl rfl) ?_
  refine Ly (Y_fieldAddr (off := 3) (by kernel_rfl) rfl rfl) ?_
  refine Ly (Y_ldblk Tryd.underlying9 rfl rfl (hk4.ext hx6) rfl) ?_
  refine Ly (Y_slen Tryd.underlying9 rfl) ?_
  refine Ly (Y_add rfl rfl (by omega) (by omega)) ?_
  refine Ly (Y_fieldAddr (off := 5) (by kernel_rfl) rfl rfl) ?_
  refine Ly (Y_ldblk Tryd.underlying28 rfl rfl (hk4.ext hx6) rfl) ?_
  have me3 := ((hxa.trans hn1.ext).then' hp3.only (by simp) hxa.size).trans hx6
  refine Ly (Y_len Tryd.underlying28 rfl (show Bytes _ ((at_mem l ((i : Int)).toNat).dv) ((at_mem l ((i : Int)).toNat).data) from (hl.ext me3).okat (k := ((i : Int)).toNat) (by omega))) ?_
  refine Ly (Y_add rfl rfl (by omega) (by omega)) ?_
  refine Ly (Y_add rfl rfl (by omega) (by omega)) ?_
  refine Av ?_
  refine L_nil (X_block (X_then ?_))
  refine W_sub _ (tk4 3 10 9 11) ?_
  refine W_region ?_
  refine Ly (Y_add rfl rfl (by omega) (by omega)) ?_
  refine Mv ?_
  refine L_nil ?_
  refine X_loop (i + 1) (sk2 10 9 rfl rfl (sk1 3 (lki rfl (by omega)) (tk1 11))) ?_ ?_
  ·exact ⟨⟨by omega, step_ne h0 hng⟩, me3⟩
  (try dsimp only)
  omega
 refine W_exit ?_
 refine X_then_exit (X_then_exit ?_)
 refine X_block_hit ?_
 refine X_then ?_
 refine W_sub _ (tk1 3) ?_
 obtain rfl : i = l.length := by omega
 refine W_seq (W_seq (W_region ?_))
 refine Mv ?_
 refine Ly (Y_gtr rfl rfl) ?_
 refine Nx ?_
 refine W_sub _ (tk1 42) ?_
 refine W_splitd rfl (fun q => ?_) (fun q => ?_)
 ·refine Wr ?_
  refine Av ?_
  refine Nx ?_
  refine W_sub _ (tk1 2) ?_
  refine W_ret (X_then_ret ?_)
  refine X_ret1 rfl rfl ?_
  exact ⟨by rw [mtoo_end (by omega) h0, if_pos (by omega)], hxa⟩
 refine Ws ?_
 refine W_sub _ sN ?_
 refine Wr ?_
 refine Av ?_
 refine L_nil (X_then (W_ret ?_))
 refine X_ret1 rfl rfl ?_
 exact ⟨by rw [mtoo_end (by omega) h0, if_neg (by omega)], hxa⟩

def bchkm (N : List Nod) (x : Mem) : Int := bchk N x.kind x.path x.mode x.target x.size
theorem bl_CheckM {h0 h : Heap} {b : Nat} {N : List Nod} (hK : GlbK h) (hE : GlbE h) (B : BL h0 h b N) (x : Mem) (hm : N.length ≤ 1000000000) (hx : x.path.length ≤ 100000000000 ∧ x.target.length ≤ 100000000000 ∧ x.data.length ≤ 100000000000) :
    Cal Tryd.prog 13 #[.pointer (some ⟨b, 0, none⟩), .agg #[.int .i64 x.kind, str x.path, .int .i64 x.mode, str x.target, .int .i64 x.size]] h (fun v h' => v = .int .i64 (bchkm N x) ∧ Ext h h') := bl_Check hK hE B _ _ _ _ _ hm hx.1 hx.2.1
/-! ### The example -/
def exa : Mem := ⟨0, [97], 0, [], 0, .slice none 0 0, []⟩
def exf (p : List UInt8) : Mem := ⟨1, p, 0, [], 0, .slice none 0 0, []⟩
theorem ex1 : berr [] exa = 0 := by decide +kernel
theorem ex2 (d1 : Value) : berr ([] ++ [bnod [] exa d1]) (exf [97, 47, 98]) = 0 := by kernel_rfl
theorem ex3 (d1 d2 : Value) : berr (([] ++ [bnod [] exa d1]) ++ [bnod ([] ++ [bnod [] exa d1]) (exf [97, 47, 98]) d2]) (exf [99, 47, 100]) = 13 := by kernel_rfl
theorem ex4 (d1 d2 : Value) : berr (([] ++ [bnod [] exa d1]) ++ [bnod ([] ++ [bnod [] exa d1]) (exf [97, 47, 98]) d2]) (exf [65]) = 12 := by kernel_rfl
set_option maxRecDepth 100000 in
theorem law15_alive1 (h : Heap) (p : List UInt8) : Cal Tryd.prog 36 #[str p] h (fun v h' => v = .agg #[.int .i64 1, str p, .int .i64 0, str [], .int .i64 0, .slice none 0 0] ∧ Ext h h') := by
 refine Cal_enter (args := [str p]) Tryd.func36 rfl rfl rfl (fun σ => ?_)
 refine Wr ?_
 refine L_mks (M_alloc (u := .agg #[.int .i64 0, str [], .int .i64 0, str [], .int .i64 0, .slice none 0 0]) (by kernel_rfl)) rfl rfl rfl ?_
 rintro _ h1 ⟨rfl, hn1⟩
 have hk2 : Blk h1 h.size [.int .i64 0, str [], .int .i64 0, str [], .int .i64 0, .slice none 0 0] := hn1.blk
 refine L_nil (X_then (W_seq (W_region ?_)))
 refine Mv ?_
 refine Ly (Y_build (v := .agg #[.int .i64 1, str p, .int .i64 0, str [], .int .i64 0]) (pv := [(0, .int .i64 1), (1, str p)]) (evp (is := [0, 1]) (os := [.const (.int .i64 1), .tmp 3]) (vs := [.int .i64 1, str p]) rfl rfl) (fun _ => by kernel_rfl)) ?_
 refine Ly (Y_build (v := .agg #[.int .i64 1, str p, .int .i64 0, str [], .int .i64 0, .slice none 0 0]) (pv := [(0, .agg #[.int .i64 1, str p, .int .i64 0, str [], .int .i64 0])]) (evp (is := [0]) (os := [.tmp 4]) (vs := [.agg #[.int .i64 1, str p, .int .i64 0, str [], .int .i64 0]]) rfl rfl) (fun _ => by kernel_rfl)) ?_
 refine L_dos (D_store (us := [.int .i64 1, str p, .int .i64 0, str [], .int .i64 0, .slice none 0 0]) (show _ = some 6 by kernel_rfl) rfl rfl rfl (by simp [Value.oneCell']) hk2 (by simp)) rfl rfl ?_
 rintro h2 hp3
 have hk4 : Blk h2 h.size [.int .i64 1, str p, .int .i64 0, str [], .int .i64 0, .slice none 0 0] := hp3.blk
 refine Nx ?_
 refine W_sub _ (tk1 2) ?_
 refine W_ret ?_
 refine X_retv1 rfl (RV.agg rfl Tryd.underlying30 rfl (show _ = some 6 by kernel_rfl) hk4) ?_
 exact ⟨rfl, (hn1.ext.then' hp3.only (by simp) (Nat.le_refl _))⟩
set_option maxRecDepth 100000 in
theorem law15_alive (h : Heap) (hK : GlbK h) (hE : GlbE h) : Cal Tryd.prog 16 #[] h (fun v h' => v = .bool true ∧ Ext h h') := by
 refine Cal_enter (args := []) Tryd.func16 rfl rfl rfl (fun σ => ?_)
 refine Wr ?_
 refine Av ?_
 refine L_nil (X_then (W_seq (W_region ?_)))
 refine L_call (E_call (by kernel_rfl) rfl) (bl_New _) rfl rfl rfl ?_
 rintro _ h1 ⟨b0, rfl, uB0, ux0⟩
 refine Av ?_
 refine Nx ?_
 refine W_sub _ (tk2 1 0) ?_
 refine W_seq (W_seq (W_region ?_))
 refine Mv ?_
 refine Ly (Y_pnil (ad := some ⟨b0, 0, none⟩) (show _ = some (TypeDesc.pointer (Tryd.prog.pointee 23)) by kernel_rfl) rfl rfl) ?_
 refine Nx ?_
 refine W_sub _ (tk3 5 1 0) ?_
 refine W_false rfl ?_
 refine Ws ?_
 refine W_sub _ (tk2 1 0) ?_
 refine Wr ?_
 refine Av ?_
 refine L_nil (X_then (W_seq (W_region ?_)))
 refine Mv ?_
 refine Ly (Y_build (v := .agg #[.int .i64 0, str [97], .int .i64 0, str [], .int .i64 0]) (pv := [(0, .int .i64 0), (1, str [97])]) (evp (is := [0, 1]) (os := [.const (.int .i64 0), .const (str [97])]) (vs := [.int .i64 0, str [97]]) rfl rfl) (fun _ => by kernel_rfl)) ?_
 refine Ly (Y_build (v := .agg #[.int .i64 0, str [97], .int .i64 0, str [], .int .i64 0, .slice none 0 0]) (pv := [(0, .agg #[.int .i64 0, str [97], .int .i64 0, str [], .int .i64 0])]) (evp (is := [0]) (os := [.tmp 7]) (vs := [.agg #[.int .i64 0, str [97], .int .i64 0, str [], .int .i64 0]]) rfl rfl) (fun _ => by kernel_rfl)) ?_
 refine L_call (E_call (by kernel_rfl) rfl) (bl_Add (hK.ext ux0) (hE.ext ux0) uB0 (Ext.refl _) ux0 exa (Bytes.nil _) (by decide) (by decide)) rfl rfl rfl ?_
 rintro _ h2 ⟨rfl, ⟨us1, uy1, ug1, ul1⟩, uo1⟩
 obtain ⟨d1, uB1⟩ := (uo1.resolve_left (fun q => q.1 ex1)).2
 refine Ly (Y_eql rfl rfl) ?_
 refine Mv ?_
 refine L_known (d := 11) true rfl (by exact decide_eq_true (by exact ex1)) ?_
 refine Mv ?_
 refine Mv ?_
 refine L_call (E_callv (fs := []) (cs := []) (by kernel_rfl) rfl rfl) (law15_alive1 _ [97, 47, 98]) rfl rfl rfl ?_
 rintro _ h3 ⟨rfl, hx1⟩
 refine L_call (E_call (by kernel_rfl) rfl) (bl_Add (hK.ext ((ux0.then' uy1 ug1 (Nat.le_refl _)).trans hx1)) (hE.ext ((ux0.then' uy1 ug1 (Nat.le_refl _)).trans hx1)) uB1 hx1 ((ux0.then' uy1 ug1 (Nat.le_refl _)).trans hx1) (exf [97, 47, 98]) (Bytes.nil _) (by simp) (by decide)) rfl rfl rfl ?_
 rintro _ h4 ⟨rfl, ⟨us2, uy2, ug2, ul2⟩, uo2⟩
 obtain ⟨d2, uB2⟩ := (uo2.resolve_left (fun q => q.1 (ex2 d1))).2
 refine Ly (Y_eql rfl rfl) ?_
 refine Ly (Y_pick_t rfl rfl) ?_
 refine Mv ?_
 refine L_known (d := 18) true rfl (by exact decide_eq_true (by exact ex2 d1)) ?_
 refine Mv ?_
 refine Mv ?_
 refine L_call (E_callv (fs := []) (cs := []) (by kernel_rfl) rfl rfl) (law15_alive1 _ [99, 47, 100]) rfl rfl rfl ?_
 rintro _ h5 ⟨rfl, hx2⟩
 have me1 := ((ux0.then' uy1 ug1 (Nat.le_refl _)).trans hx1).then' uy2 ug2 (Nat.le_refl _)
 refine L_call (E_call (by kernel_rfl) rfl) (bl_Add (hK.ext (me1.trans hx2)) (hE.ext (me1.trans hx2)) uB2 hx2 (me1.trans hx2) (exf [99, 47, 100]) (Bytes.nil _) (by simp) (by decide)) rfl rfl rfl ?_
 rintro _ h6 ⟨rfl, -, uo3⟩
 have ux3 := (uo3.resolve_right (fun q => by rw [ex3 d1 d2] at q; exact absurd q.1 (by decide))).2
 refine Ly (Y_eql rfl rfl) ?_
 refine Ly (Y_pick_t rfl rfl) ?_
 refine Mv ?_
 refine L_known (d := 25) true rfl (by exact decide_eq_true (by exact ex3 d1 d2)) ?_
 refine Mv ?_
 refine Mv ?_
 refine L_call (E_callv (fs := []) (cs := []) (by kernel_rfl) rfl rfl) (law15_alive1 _ [65]) rfl rfl rfl ?_
 rintro _ h7 ⟨rfl, hx3⟩
 refine L_call (E_call (by kernel_rfl) rfl) (bl_Add (hK.ext (((me1.trans hx2).trans ux3).trans hx3)) (hE.ext (((me1.trans hx2).trans ux3).trans hx3)) uB2 ((hx2.trans ux3).trans hx3) (((me1.trans hx2).trans ux3).trans hx3) (exf [65]) (Bytes.nil _) (by simp) (by decide)) rfl rfl rfl ?_
 rintro _ h8 ⟨rfl, -, uo4⟩
 have ux4 := (uo4.resolve_right (fun q => by rw [ex4 d1 d2] at q; exact absurd q.1 (by decide))).2
 refine Ly (Y_eql rfl rfl) ?_
 refine Ly (Y_pick_t rfl rfl) ?_
 refine Mv ?_
 refine L_known (d := 32) true rfl (by exact decide_eq_true (by exact ex4 d1 d2)) ?_
 refine Mv ?_
 refine L_call (E_call (by kernel_rfl) rfl) (bl_Nodes (hK.ext ((((me1.trans hx2).trans ux3).trans hx3).trans ux4)) (hE.ext ((((me1.trans hx2).trans ux3).trans hx3).trans ux4)) (uB2.ext (((hx2.trans ux3).trans hx3).trans ux4)) (by simp)) rfl rfl rfl ?_
 rintro uv5 h9 ⟨uR5, uL5, uq5, ux5⟩
 refine Ly (Y_lenr Tryd.underlying32 rfl uL5) ?_
 refine Ly (Y_eql rfl rfl) ?_
 refine Ly (Y_pick_t rfl rfl) ?_
 refine Av ?_
 refine Nx ?_
 refine W_sub _ (tk1 0) ?_
 refine W_ret ?_
 refine X_ret1 rfl rfl ?_
 have me2 := ((((me1.trans hx2).trans ux3).trans hx3).trans ux4).trans ux5
 exact ⟨congrArg Value.bool (decide_eq_true (by have := uq5.1; simp at this; omega)), me2⟩
end Go.Xp
