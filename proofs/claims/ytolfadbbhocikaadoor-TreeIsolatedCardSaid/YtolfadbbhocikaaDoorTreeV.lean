/- Layer 13 (tree): the laws' helpers, and the law that Check and Find match the reference. -/
import Derived.Test.YtolfadbbhocikaaDoorTreeR
set_option linter.unusedSimpArgs false
set_option linter.unusedVariables false
set_option linter.unusedSectionVars false
namespace Go.Xp
open Go.Proofs

def exN : List Nod := [⟨1, [97, 47, 98], 0, [], .slice none 0 0, [], 0⟩, ⟨0, [97], 0, [], .slice none 0 0, [], 0⟩]
theorem exA : tpos exN = 2 ∧ terr exN = 0 := by decide +kernel
theorem exB : tpos (exN.take 1) = 0 ∧ terr (exN.take 1) = 13 := by decide +kernel
theorem exS : ∀ x ∈ exN, x.path.length ≤ 140737488355328 ∧ x.target.length ≤ 140737488355328 ∧ x.data.length ≤ 140737488355328 := by
  intro x hx
  unfold exN at hx
  simp only [List.mem_cons, List.not_mem_nil, or_false] at hx
  rcases hx with rfl | rfl <;> simp
set_option maxRecDepth 100000 in
theorem law13_example (h : Heap) : Cal Tryd.prog 22 #[] h (fun v h' => ∃ s0, v = s0 ∧ RowsO nodS h' h.size s0 (exN) ∧ Ext h h') := by
 refine Cal_enter (args := []) Tryd.func22 rfl rfl rfl (fun σ => ?_)
 refine W_seq (W_region ?_)
 refine La rfl rfl rfl rfl ?_
 refine L_nil (X_then (W_seq (W_region ?_)))
 refine L_yld (Y_build (v := .agg #[.int .i64 1, str [97, 47, 98], .int .i64 0, str [], .slice none 0 0, .int .i64 0]) (pv := [(0, .int .i64 1), (1, str [97, 47, 98])]) (evp (is := [0, 1]) (os := [.const (.int .i64 1), .const (str [97, 47, 98])]) (vs := [.int .i64 1, str [97, 47, 98]]) rfl rfl) (fun _ => by kernel_rfl)) rfl rfl rfl ?_
 refine L_yld (Y_build (v := .agg #[.int .i64 0, str [97], .int .i64 0, str [], .slice none 0 0, .int .i64 0]) (pv := [(0, .int .i64 0), (1, str [97])]) (evp (is := [0, 1]) (os := [.const (.int .i64 0), .const (str [97])]) (vs := [.int .i64 0, str [97]]) rfl rfl) (fun _ => by kernel_rfl)) rfl rfl rfl ?_
 refine L_mks (M_litr (S := nodS) (l := ([⟨(1 : Int), [97, 47, 98], (0 : Int), [], .slice none 0 0, ([] : List UInt8), (0 : Int)⟩, ⟨(0 : Int), [97], (0 : Int), [], .slice none 0 0, ([] : List UInt8), (0 : Int)⟩] : List Nod)) (cells := [.int .i64 1, str [97, 47, 98], .int .i64 0, str [], .slice none 0 0, .int .i64 0, .int .i64 0, str [97], .int .i64 0, str [], .slice none 0 0, .int .i64 0]) (pv := [(0, .agg #[.int .i64 1, str [97, 47, 98], .int .i64 0, str [], .slice none 0 0, .int .i64 0]), (1, .agg #[.int .i64 0, str [97], .int .i64 0, str [], .slice none 0 0, .int .i64 0])]) (E := 30) (evp (is := [0, 1]) (os := [.tmp 1, .tmp 2]) (vs := [.agg #[.int .i64 1, str [97, 47, 98], .int .i64 0, str [], .slice none 0 0, .int .i64 0], .agg #[.int .i64 0, str [97], .int .i64 0, str [], .slice none 0 0, .int .i64 0]]) rfl rfl) rfl rfl (fun _ => by kernel_rfl) (by simp only [List.mem_cons, List.not_mem_nil, or_false, forall_eq_or_imp, forall_eq]; exact ⟨(Bytes.nil _), (Bytes.nil _)⟩)) rfl rfl rfl ?_
 rintro v1 h1 ⟨ho2, hx3⟩
 refine La rfl rfl rfl rfl ?_
 refine L_nil (X_then ?_)
 refine W_sub _ (sk1 0 rfl sN) ?_
 refine W_ret ?_
 refine X_ret1 rfl rfl ?_
 exact ⟨_, rfl, ho2, hx3⟩
set_option maxRecDepth 100000 in
theorem law13_alive (h : Heap) (hK : GlbK h) (hE : GlbE h) : Cal Tryd.prog 11 #[] h (fun v h' => v = .bool true ∧ Ext h h') := by
 refine Cal_enter (args := []) Tryd.func11 rfl rfl rfl (fun σ => ?_)
 refine W_seq (W_region ?_)
 refine La rfl rfl rfl rfl ?_
 refine L_nil (X_then (W_seq (W_region ?_)))
 refine L_call (E_call (by kernel_rfl) rfl) (law13_example _) rfl rfl rfl ?_
 rintro s01 h1 ⟨_, rfl, hr02, hx3⟩
 refine L_call (E_call (by kernel_rfl) rfl) (tree_Check _ (hK.ext hx3) (hE.ext hx3) s01 exN hr02.rows (by decide) exS) rfl rfl rfl ?_
 rintro _ h2 ⟨rfl, hx4⟩
 refine Lm rfl rfl rfl rfl ?_
 refine L_yld (Y_extract (v := .int .i64 (tpos exN)) rfl rfl) rfl rfl rfl ?_
 refine L_yld (Y_extract (v := .int .i64 (terr exN)) rfl rfl) rfl rfl rfl ?_
 refine La rfl rfl rfl rfl ?_
 refine La rfl rfl rfl rfl ?_
 refine L_nil (X_then ?_)
 refine W_sub _ (sk3 2 1 0 rfl rfl rfl sN) ?_
 refine W_seq (W_region ?_)
 refine L_call (E_call (by kernel_rfl) rfl) (law13_example _) rfl rfl rfl ?_
 rintro s05 h3 ⟨_, rfl, hr06, hx7⟩
 have hb8 : Rows nodS h3 (slcut 6 0 (1 : Int).toNat s05) (exN.take 1) := (hr06.rows.cuth (hi := (1 : Int).toNat) (by first | omega | decide))
 refine L_yld (Y_cutr_h Tryd.underlying22 (show _ = some 6 by kernel_rfl) rfl rfl hr06.rows rfl (by first | omega | decide) (by first | omega | decide)) rfl rfl rfl ?_
 refine L_call (E_call (by kernel_rfl) rfl) (tree_Check _ (hK.ext ((hx3.trans hx4).trans hx7)) (hE.ext ((hx3.trans hx4).trans hx7)) (slcut 6 0 (1 : Int).toNat s05) (exN.take 1) hb8 (by decide) (fun x hx => exS x (List.mem_of_mem_take hx))) rfl rfl rfl ?_
 rintro _ h4 ⟨rfl, hx9⟩
 refine Lm rfl rfl rfl rfl ?_
 refine L_yld (Y_extract (v := .int .i64 (tpos (exN.take 1))) rfl rfl) rfl rfl rfl ?_
 refine L_yld (Y_extract (v := .int .i64 (terr (exN.take 1))) rfl rfl) rfl rfl rfl ?_
 refine La rfl rfl rfl rfl ?_
 refine La rfl rfl rfl rfl ?_
 refine L_nil (X_then ?_)
 refine W_sub _ (sk5 4 3 2 1 0 rfl rfl rfl rfl rfl sN) ?_
 refine W_seq (W_region ?_)
 refine Lm rfl rfl rfl rfl ?_
 refine L_yld (Y_eql rfl rfl) rfl rfl rfl ?_
 refine Lm rfl rfl rfl rfl ?_
 refine L_known (d := 18) true rfl (by exact decide_eq_true (by exact exA.1)) ?_
 refine Lm rfl rfl rfl rfl ?_
 refine L_yld (Y_eql rfl rfl) rfl rfl rfl ?_
 refine L_yld (Y_pick_t rfl rfl) rfl rfl rfl ?_
 refine Lm rfl rfl rfl rfl ?_
 refine L_known (d := 22) true rfl (by exact decide_eq_true (by exact exA.2)) ?_
 refine Lm rfl rfl rfl rfl ?_
 refine L_yld (Y_eql rfl rfl) rfl rfl rfl ?_
 refine L_yld (Y_pick_t rfl rfl) rfl rfl rfl ?_
 refine Lm rfl rfl rfl rfl ?_
 refine L_known (d := 26) true rfl (by exact decide_eq_true (by exact exB.1)) ?_
 refine Lm rfl rfl rfl rfl ?_
 refine L_yld (Y_eql rfl rfl) rfl rfl rfl ?_
 refine L_yld (Y_pick_t rfl rfl) rfl rfl rfl ?_
 refine La rfl rfl rfl rfl ?_
 refine L_nil (X_then ?_)
 refine W_sub _ (sk1 0 rfl sN) ?_
 refine W_ret ?_
 refine X_ret1 rfl rfl ?_
 exact ⟨congrArg Value.bool (decide_eq_true exB.2), (((hx3.trans hx4).trans hx7).trans hx9)⟩
def nb (x : Nod) : Nat := x.path.length + x.target.length + x.data.length
def nsumk (l : List Nod) : Nat → Nat
  | 0 => 0
  | i + 1 => nsumk l i + nb (at_nod l i)
def ntoo (l : List Nod) : Int := if 40 < l.length then 1 else if ((List.range l.length).any fun k => decide (70000 < nb (at_nod l k))) = true then 1 else if 100000 < nsumk l l.length then 1 else 0
theorem ntoo_big {l : List Nod} {i : Nat} (h1 : ¬ 40 < l.length) (hi : i < l.length) (h : 70000 < nb (at_nod l i)) : ntoo l = 1 := by
  unfold ntoo; rw [if_neg h1, if_pos (List.any_eq_true.2 ⟨i, List.mem_range.2 hi, decide_eq_true h⟩)]
theorem ntoo_end {l : List Nod} (h1 : ¬ 40 < l.length) (h : ∀ k, k < l.length → nb (at_nod l k) ≤ 70000) : ntoo l = if 100000 < nsumk l l.length then 1 else 0 := by
  unfold ntoo; rw [if_neg h1, if_neg]
  rw [List.any_eq_true]
  rintro ⟨k, hk, e⟩
  have := h k (List.mem_range.1 hk)
  have := of_decide_eq_true e
  omega
theorem nsumk_le {l : List Nod} : ∀ {i : Nat}, (∀ k, k < i → nb (at_nod l k) ≤ 70000) → nsumk l i ≤ 70000 * i
  | 0, _ => Nat.le_refl _
  | i + 1, h => by
    have := nsumk_le (l := l) (i := i) (fun k hk => h k (by omega))
    have := h i (by omega)
    show nsumk l i + _ ≤ _
    omega
theorem ntoo_ok {l : List Nod} (h : ¬ 0 < ntoo l) : l.length ≤ 40 ∧ ∀ k, k < l.length → nb (at_nod l k) ≤ 70000 := by
  unfold ntoo at h
  split at h
  · exact absurd (by decide) h
  · split at h
    · exact absurd (by decide) h
    · rename_i h1 h2
      refine ⟨by omega, fun k hk => ?_⟩
      apply Decidable.byContradiction; intro h9
      exact h2 (List.any_eq_true.2 ⟨k, List.mem_range.2 hk, decide_eq_true (by omega)⟩)
set_option maxRecDepth 100000 in
theorem law13_TooLarge (h : Heap) (w : Value) (l : List Nod) (hl : Rows nodS h w l) (hn : l.length ≤ 140737488355328) (hs : ∀ x ∈ l, x.path.length ≤ 140737488355328 ∧ x.target.length ≤ 140737488355328 ∧ x.data.length ≤ 140737488355328) : Cal Tryd.prog 10 #[w] h (fun v h' => v = .int .i64 (ntoo l) ∧ Ext h h') := by
 refine Cal_enter (args := [w]) Tryd.func10 rfl rfl rfl (fun σ => ?_)
 refine W_seq (W_region ?_)
 refine La rfl rfl rfl rfl ?_
 refine L_nil (X_then (W_seq (W_seq (W_region ?_))))
 refine Lm rfl rfl rfl rfl ?_
 refine L_yld (Y_lenr Tryd.underlying22 rfl hl) rfl rfl rfl ?_
 refine L_yld (Y_gtr rfl rfl) rfl rfl rfl ?_
 refine L_nil (X_then ?_)
 refine W_sub _ (sk3 8 2 0 rfl rfl rfl sN) ?_
 refine W_splitd rfl (fun c => ?_) (fun c => ?_)
 ·refine W_seq (W_region ?_)
  refine La rfl rfl rfl rfl ?_
  refine L_nil (X_then ?_)
  refine W_sub _ (sk2 2 0 rfl rfl sN) ?_
  refine W_ret (X_then_ret ?_)
  refine X_ret1 rfl rfl ?_
  exact ⟨by unfold ntoo; rw [if_pos (by omega)], (Ext.refl _)⟩
 ·refine W_skip (X_then ?_)
  refine W_sub _ (sk2 2 0 rfl rfl sN) ?_
  refine W_seq (W_region ?_)
  refine La rfl rfl rfl rfl ?_
  refine L_nil (X_then (W_seq (W_seq (W_region ?_))))
  refine Lm rfl rfl rfl rfl ?_
  refine L_yld (Y_lenr Tryd.underlying22 rfl hl) rfl rfl rfl ?_
  refine Lm rfl rfl rfl rfl ?_
  refine L_nil (X_then ?_)
  refine W_sub _ (sk5 11 10 9 3 2 rfl rfl rfl rfl rfl sN) ?_
  refine W_block ?_
  refine W_loop (S := Nat) (fun i => [(10, .int .i64 ((l.length : Int))), (9, w), (3, .int .i64 ((nsumk l i : Int))), (11, .int .i64 ((i : Int)))]) (fun i h' => (i ≤ l.length ∧ ∀ k, k < i → nb (at_nod l k) ≤ 70000) ∧ Ext h h') (fun i => l.length - i) 0 (sk2 10 9 rfl rfl (sk1 3 (lki rfl (by rfl)) (sk1 11 rfl sN))) ?_ ?_
  ·exact ⟨⟨by omega, fun k hk => absurd hk (Nat.not_lt_zero _)⟩, Ext.refl _⟩
  rintro i h1 ⟨⟨hi, h0⟩, hxa⟩
  show W _ _ _ _ _ [(10, .int .i64 ((l.length : Int))), (9, w), (3, .int .i64 ((nsumk l i : Int))), (11, .int .i64 ((i : Int)))] _
  refine W_seq (W_region ?_)
  refine L_yld (Y_lss rfl rfl) rfl rfl rfl ?_
  refine L_nil (X_then (W_seq ?_))
  refine W_splitd rfl (fun hlt => ?_) (fun hlt => ?_)
  ·refine W_skip (X_then ?_)
   refine W_sub _ (sk4 10 9 3 11 rfl rfl rfl rfl sN) ?_
   refine W_seq (W_block (W_seq (W_region ?_)))
   refine L_yld (Y_idxr Tryd.underlying22 (show _ = some 6 by kernel_rfl) rfl rfl rfl (hl.ext hxa) (by omega) (by omega)) rfl rfl rfl ?_
   refine L_yld (Y_ldrA0 (k := ((i : Int)).toNat) (us := [.int .i64 ((at_nod l ((i : Int)).toNat).kind), str ((at_nod l ((i : Int)).toNat).path), .int .i64 ((at_nod l ((i : Int)).toNat).mode), str ((at_nod l ((i : Int)).toNat).target), ((at_nod l ((i : Int)).toNat).dv), .int .i64 ((at_nod l ((i : Int)).toNat).cls)]) Tryd.underlying30 rfl (show _ = some 6 by kernel_rfl) rfl rfl (hl.ext hxa) (by omega) rfl) rfl rfl rfl ?_
   refine L_mks (M_alloc (u := .agg #[.int .i64 0, str [], .int .i64 0, str [], .slice none 0 0, .int .i64 0]) (by kernel_rfl)) rfl rfl rfl ?_
   rintro _ h2 ⟨rfl, hn1⟩
   have hk2 : Blk h2 h1.size [.int .i64 0, str [], .int .i64 0, str [], .slice none 0 0, .int .i64 0] := hn1.blk
   refine L_dos (D_store (us := [.int .i64 ((at_nod l ((i : Int)).toNat).kind), str ((at_nod l ((i : Int)).toNat).path), .int .i64 ((at_nod l ((i : Int)).toNat).mode), str ((at_nod l ((i : Int)).toNat).target), ((at_nod l ((i : Int)).toNat).dv), .int .i64 ((at_nod l ((i : Int)).toNat).cls)]) (show _ = some 6 by kernel_rfl) rfl rfl rfl (by intro u_ hu_; simp only [List.mem_cons, List.not_mem_nil, or_false] at hu_; rcases hu_ with rfl | rfl | rfl | rfl | rfl | rfl <;> first | rfl | exact ((show Bytes _ ((at_nod l ((i : Int)).toNat).dv) ((at_nod l ((i : Int)).toNat).data) from (hl.ext (hxa.trans hn1.ext)).okat (k := ((i : Int)).toNat) (by omega))).cell1) hk2 (by simp)) rfl rfl ?_
   rintro h3 hp3
   have hk4 : Blk h3 h1.size [.int .i64 ((at_nod l ((i : Int)).toNat).kind), str ((at_nod l ((i : Int)).toNat).path), .int .i64 ((at_nod l ((i : Int)).toNat).mode), str ((at_nod l ((i : Int)).toNat).target), ((at_nod l ((i : Int)).toNat).dv), .int .i64 ((at_nod l ((i : Int)).toNat).cls)] := hp3.blk
   refine L_nil (X_then ?_)
   refine W_sub _ (sk5 5 10 9 3 11 rfl rfl rfl rfl rfl sN) ?_
   have hmm := hs _ (nod_mem (l := l) (k := (i : Int).toNat) (by omega))
   have hsm := nsumk_le h0
   have hst : nsumk l (i + 1) = nsumk l i + nb (at_nod l i) := rfl
   have hnb : nb (at_nod l i) = (at_nod l (i : Int).toNat).path.length + (at_nod l (i : Int).toNat).target.length + (at_nod l (i : Int).toNat).data.length := rfl
   refine W_seq (W_seq (W_region ?_))
   refine L_yld (Y_fieldAddr (off := 1) (by kernel_rfl) rfl rfl) rfl rfl rfl ?_
   refine L_yld (Y_ldblk Tryd.underlying9 rfl rfl hk4 rfl) rfl rfl rfl ?_
   refine L_yld (Y_slen Tryd.underlying9 rfl) rfl rfl rfl ?_
   refine L_yld (Y_fieldAddr (off := 3) (by kernel_rfl) rfl rfl) rfl rfl rfl ?_
   refine L_yld (Y_ldblk Tryd.underlying9 rfl rfl hk4 rfl) rfl rfl rfl ?_
   refine L_yld (Y_slen Tryd.underlying9 rfl) rfl rfl rfl ?_
   refine L_yld (Y_add rfl rfl (by omega) (by omega)) rfl rfl rfl ?_
   refine L_yld (Y_fieldAddr (off := 4) (by kernel_rfl) rfl rfl) rfl rfl rfl ?_
   refine L_yld (Y_ldblk Tryd.underlying28 rfl rfl hk4 rfl) rfl rfl rfl ?_
   refine L_yld (Y_len Tryd.underlying28 rfl (show Bytes _ ((at_nod l ((i : Int)).toNat).dv) ((at_nod l ((i : Int)).toNat).data) from (hl.ext ((hxa.trans hn1.ext).then' hp3.only (by simp) hxa.size)).okat (k := ((i : Int)).toNat) (by omega))) rfl rfl rfl ?_
   refine L_yld (Y_add rfl rfl (by omega) (by omega)) rfl rfl rfl ?_
   refine L_yld (Y_gtr rfl rfl) rfl rfl rfl ?_
   refine L_nil (X_then ?_)
   refine W_sub _ (sk6 26 5 10 9 3 11 rfl rfl rfl rfl rfl rfl sN) ?_
   refine W_splitd rfl (fun g => ?_) (fun g => ?_)
   ·refine W_seq (W_region ?_)
    refine La rfl rfl rfl rfl ?_
    refine L_nil (X_then ?_)
    refine W_sub _ (sk6 2 5 10 9 3 11 rfl rfl rfl rfl rfl rfl sN) ?_
    refine W_ret (X_then_ret (X_block_ret (X_then_ret (X_then_ret (X_block_ret (X_then_ret ?_))))))
    refine X_ret1 rfl rfl ?_
    exact ⟨by rw [ntoo_big (i := i) (by omega) (by omega) (by omega)], ((hxa.trans hn1.ext).then' hp3.only (by simp) hxa.size)⟩
   ·refine W_skip (X_then ?_)
    refine W_sub _ (sk5 5 10 9 3 11 rfl rfl rfl rfl rfl sN) ?_
    refine W_region ?_
    refine Lm rfl rfl rfl rfl ?_
    refine L_yld (Y_fieldAddr (off := 1) (by kernel_rfl) rfl rfl) rfl rfl rfl ?_
    refine L_yld (Y_ldblk Tryd.underlying9 rfl rfl hk4 rfl) rfl rfl rfl ?_
    refine L_yld (Y_slen Tryd.underlying9 rfl) rfl rfl rfl ?_
    refine L_yld (Y_fieldAddr (off := 3) (by kernel_rfl) rfl rfl) rfl rfl rfl ?_
    refine L_yld (Y_ldblk Tryd.underlying9 rfl rfl hk4 rfl) rfl rfl rfl ?_
    refine L_yld (Y_slen Tryd.underlying9 rfl) rfl rfl rfl ?_
    refine L_yld (Y_add rfl rfl (by omega) (by omega)) rfl rfl rfl ?_
    refine L_yld (Y_fieldAddr (off := 4) (by kernel_rfl) rfl rfl) rfl rfl rfl ?_
    refine L_yld (Y_ldblk Tryd.underlying28 rfl rfl hk4 rfl) rfl rfl rfl ?_
    refine L_yld (Y_len Tryd.underlying28 rfl (show Bytes _ ((at_nod l ((i : Int)).toNat).dv) ((at_nod l ((i : Int)).toNat).data) from (hl.ext ((hxa.trans hn1.ext).then' hp3.only (by simp) hxa.size)).okat (k := ((i : Int)).toNat) (by omega))) rfl rfl rfl ?_
    refine L_yld (Y_add rfl rfl (by omega) (by omega)) rfl rfl rfl ?_
    refine L_yld (Y_add rfl rfl (by omega) (by omega)) rfl rfl rfl ?_
    refine La rfl rfl rfl rfl ?_
    refine L_nil (X_block (X_then ?_))
    refine W_sub _ (sk4 3 10 9 11 rfl rfl rfl rfl sN) ?_
    refine W_region ?_
    refine L_yld (Y_add rfl rfl (by omega) (by omega)) rfl rfl rfl ?_
    refine Lm rfl rfl rfl rfl ?_
    refine L_nil ?_
    refine X_loop (i + 1) (sk2 10 9 rfl rfl (sk1 3 (lki rfl (by omega)) (sk1 11 rfl sN))) ?_ ?_
    ·exact ⟨⟨by omega, step_ne h0 (by omega)⟩, ((hxa.trans hn1.ext).then' hp3.only (by simp) hxa.size)⟩
    ·(try dsimp only)
     omega
  ·refine W_exit ?_
   refine X_then_exit (X_then_exit ?_)
   refine X_block_hit ?_
   refine X_then ?_
   refine W_sub _ (sk1 3 rfl sN) ?_
   obtain rfl : i = l.length := by omega
   refine W_seq (W_seq (W_region ?_))
   refine Lm rfl rfl rfl rfl ?_
   refine L_yld (Y_gtr rfl rfl) rfl rfl rfl ?_
   refine L_nil (X_then ?_)
   refine W_sub _ (sk1 42 rfl sN) ?_
   refine W_splitd rfl (fun q => ?_) (fun q => ?_)
   ·refine W_seq (W_region ?_)
    refine La rfl rfl rfl rfl ?_
    refine L_nil (X_then ?_)
    refine W_sub _ (sk1 2 rfl sN) ?_
    refine W_ret (X_then_ret ?_)
    refine X_ret1 rfl rfl ?_
    exact ⟨by rw [ntoo_end (by omega) h0, if_pos (by omega)], hxa⟩
   ·refine W_skip (X_then ?_)
    refine W_sub _ sN ?_
    refine W_seq (W_region ?_)
    refine La rfl rfl rfl rfl ?_
    refine L_nil (X_then (W_ret ?_))
    refine X_ret1 rfl rfl ?_
    exact ⟨by rw [ntoo_end (by omega) h0, if_neg (by omega)], hxa⟩
end Go.Xp
