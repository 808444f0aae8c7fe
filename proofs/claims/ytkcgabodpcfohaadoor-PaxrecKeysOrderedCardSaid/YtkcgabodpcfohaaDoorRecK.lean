/- Layer 9 (paxrec): the law of the keys' order. -/
import Derived.Test.YtkcgabodpcfohaaDoorRecM
import Derived.WideShapes
set_option linter.unusedSimpArgs false
set_option linter.unusedVariables false
set_option linter.unusedSectionVars false
namespace Go.Xp
open Go.Proofs

abbrev kThree (p q : List UInt8) : List Rec := [⟨[108, 105, 110, 107, 112, 97, 116, 104], q⟩, ⟨[112, 97, 116, 104], p⟩, ⟨[115, 105, 122, 101], [49]⟩]
theorem pair_err {p q : List UInt8} (h0 : rerr [108, 105, 110, 107, 112, 97, 116, 104] q = 0) (h1 : rerr [112, 97, 116, 104] p = 0) {i j : Nat} (hi : i < 3) (hj : j < 3) : rlerr none [at_rec (kThree p q) i, at_rec (kThree p q) j] = if i < j then 0 else 12 := by
  have a : ∀ k, k < 3 → rerr (at_rec (kThree p q) k).key (at_rec (kThree p q) k).val = 0 := fun k hk => by
    match k, hk with
    | 0, _ => exact h0
    | 1, _ => exact h1
    | 2, _ => show rerr [115, 105, 122, 101] [49] = 0; decide
  rw [rlerr, if_neg (by simpa using a i hi)]
  rw [show ordBad none (at_rec (kThree p q) i).key = false from rfl, if_neg (by simp), rlerr, if_neg (by simpa using a j hj)]
  have e : ordBad (some (at_rec (kThree p q) i).key) (at_rec (kThree p q) j).key = decide (¬ i < j) := by
    match i, hi, j, hj with
    | 0, _, 0, _ => rfl
    | 0, _, 1, _ => rfl
    | 0, _, 2, _ => rfl
    | 1, _, 0, _ => rfl
    | 1, _, 1, _ => rfl
    | 1, _, 2, _ => rfl
    | 2, _, 0, _ => rfl
    | 2, _, 1, _ => rfl
    | 2, _, 2, _ => rfl
  rw [e]
  by_cases h : i < j
  · rw [if_neg (by simpa using h), if_pos h]; rfl
  · rw [if_pos (by simpa using h), if_neg h]
theorem three_err {p q : List UInt8} (h0 : rerr [108, 105, 110, 107, 112, 97, 116, 104] q = 0) (h1 : rerr [112, 97, 116, 104] p = 0) : rlerr none (kThree p q) = 0 := by
  have h2 : rerr [115, 105, 122, 101] [49] = 0 := by decide
  have e1 : ordBad none [108, 105, 110, 107, 112, 97, 116, 104] = false := rfl
  have e2 : ordBad (some [108, 105, 110, 107, 112, 97, 116, 104]) [112, 97, 116, 104] = false := rfl
  have e3 : ordBad (some [112, 97, 116, 104]) [115, 105, 122, 101] = false := rfl
  rw [kThree, rlerr, if_neg (by simpa using h0), if_neg (by simp [e1]), rlerr, if_neg (by simpa using h1), if_neg (by simp [e2]), rlerr, if_neg (by simpa using h2), if_neg (by simp [e3])]; rfl

set_option maxRecDepth 100000 in
theorem paxrecKeysOrdered' (h : Heap) (hK : GlbK h) (hN : GlbN h) (hE : GlbE h) (d : List UInt8) (p : List UInt8) (q : List UInt8) (hd : d.length = 2) (hp : p.length ≤ 140737488355328) (hq : q.length ≤ 140737488355328) : Cal Tryd.prog 4 #[arrv d, str p, str q] h (fun v h' => v = .bool true ∧ Ext h h') := by
  refine Cal_enter (args := [arrv d, str p, str q]) Tryd.func4 rfl rfl rfl (fun σ => ?_)
  refine W_seq ?_
  refine W_region ?_
  refine L_mks (M_boxarr rfl) rfl rfl rfl ?_
  rintro _ h1 ⟨rfl, hx1, hb2⟩
  refine L_yld (Y_assign rfl) rfl rfl rfl ?_
  refine L_nil ?_
  refine X_then ?_
  refine W_sub _ (.cons (i := 6) rfl (.cons (i := 3) rfl (.cons (i := 1) rfl (.cons (i := 2) rfl (.nil _))))) ?_
  refine W_seq ?_
  refine W_region ?_
  refine L_yld (Y_move rfl) rfl rfl rfl ?_
  refine L_yld (Y_build (v := .agg #[str [108, 105, 110, 107, 112, 97, 116, 104], str q]) (pv := [(0, str [108, 105, 110, 107, 112, 97, 116, 104]), (1, str q)]) (evp (is := [0, 1]) (os := [.const (str [108, 105, 110, 107, 112, 97, 116, 104]), .tmp 14]) (vs := [str [108, 105, 110, 107, 112, 97, 116, 104], str q]) rfl rfl) (fun _ => by kernel_rfl)) rfl rfl rfl ?_
  refine L_yld (Y_move rfl) rfl rfl rfl ?_
  refine L_yld (Y_build (v := .agg #[str [112, 97, 116, 104], str p]) (pv := [(0, str [112, 97, 116, 104]), (1, str p)]) (evp (is := [0, 1]) (os := [.const (str [112, 97, 116, 104]), .tmp 16]) (vs := [str [112, 97, 116, 104], str p]) rfl rfl) (fun _ => by kernel_rfl)) rfl rfl rfl ?_
  refine L_yld (Y_build (v := .agg #[str [115, 105, 122, 101], str [49]]) (pv := [(0, str [115, 105, 122, 101]), (1, str [49])]) (evp (is := [0, 1]) (os := [.const (str [115, 105, 122, 101]), .const (str [49])]) (vs := [str [115, 105, 122, 101], str [49]]) rfl rfl) (fun _ => by kernel_rfl)) rfl rfl rfl ?_
  refine L_mks (M_litr (S := recS) (l := [⟨[108, 105, 110, 107, 112, 97, 116, 104], q⟩, ⟨[112, 97, 116, 104], p⟩, ⟨[115, 105, 122, 101], [49]⟩]) (cells := [str [108, 105, 110, 107, 112, 97, 116, 104], str q, str [112, 97, 116, 104], str p, str [115, 105, 122, 101], str [49]]) (pv := [(0, .agg #[str [108, 105, 110, 107, 112, 97, 116, 104], str q]), (1, .agg #[str [112, 97, 116, 104], str p]), (2, .agg #[str [115, 105, 122, 101], str [49]])]) (E := 30) (evp (is := [0, 1, 2]) (os := [.tmp 15, .tmp 17, .tmp 18]) (vs := [.agg #[str [108, 105, 110, 107, 112, 97, 116, 104], str q], .agg #[str [112, 97, 116, 104], str p], .agg #[str [115, 105, 122, 101], str [49]]]) rfl rfl) rfl rfl (fun _ => by kernel_rfl) (by simp only [List.mem_cons, List.not_mem_nil, or_false, forall_eq_or_imp, forall_eq]; exact ⟨trivial, trivial, trivial⟩)) rfl rfl rfl ?_
  rintro v3 h2 ⟨ho4, hx5⟩
  refine L_yld (Y_assign rfl) rfl rfl rfl ?_
  refine L_nil ?_
  refine X_then ?_
  refine W_sub _ (.cons (i := 7) rfl (.cons (i := 6) rfl (.cons (i := 3) rfl (.cons (i := 1) rfl (.cons (i := 2) rfl (.nil _)))))) ?_
  refine W_seq ?_
  refine W_cut (S := Unit) (fun _ => [(39, .bool (decide (((3000 < ((p.length : Int) + (q.length : Int))) ∨ (¬ (rerr ((at_rec [⟨[108, 105, 110, 107, 112, 97, 116, 104], q⟩, ⟨[112, 97, 116, 104], p⟩, ⟨[115, 105, 122, 101], [49]⟩] 0).key) ((at_rec [⟨[108, 105, 110, 107, 112, 97, 116, 104], q⟩, ⟨[112, 97, 116, 104], p⟩, ⟨[115, 105, 122, 101], [49]⟩] 0).val)) = 0)) ∨ (¬ (rerr ((at_rec [⟨[108, 105, 110, 107, 112, 97, 116, 104], q⟩, ⟨[112, 97, 116, 104], p⟩, ⟨[115, 105, 122, 101], [49]⟩] 1).key) ((at_rec [⟨[108, 105, 110, 107, 112, 97, 116, 104], q⟩, ⟨[112, 97, 116, 104], p⟩, ⟨[115, 105, 122, 101], [49]⟩] 1).val)) = 0)))), (7, v3), (6, .bool false), (3, .pointer (some ⟨h.size, 0, none⟩))]) (fun _ h' => Ext h2 h') ?_ ?_
  · refine W_region ?_
    refine L_yld (Y_move rfl) rfl rfl rfl ?_
    refine L_yld (Y_slen Tryd.underlying9 rfl) rfl rfl rfl ?_
    refine L_yld (Y_move rfl) rfl rfl rfl ?_
    refine L_yld (Y_slen Tryd.underlying9 rfl) rfl rfl rfl ?_
    refine L_yld (Y_add rfl rfl (by first | omega | (exact hq) | (exact hp) | (simp; done) | (simp; omega) | (simp only [List.length_cons, List.length_nil, hd]; omega)) (by first | omega | (exact hq) | (exact hp) | (simp; done) | (simp; omega) | (simp only [List.length_cons, List.length_nil, hd]; omega))) rfl rfl rfl ?_
    refine L_yld (Y_gtr rfl rfl) rfl rfl rfl ?_
    refine L_yld (Y_move rfl) rfl rfl rfl ?_
    refine L_splitd (d := 26) rfl (fun c6 => ?_) (fun c6 => ?_)
    · refine L_skip rfl rfl rfl ?_
      refine L_skip rfl rfl rfl ?_
      refine L_skip rfl rfl rfl ?_
      refine L_skip rfl rfl rfl ?_
      refine L_skip rfl rfl rfl ?_
      refine L_yld (Y_pick_t rfl rfl) rfl rfl rfl ?_
      refine L_yld (Y_move rfl) rfl rfl rfl ?_
      refine L_skip rfl rfl rfl ?_
      refine L_skip rfl rfl rfl ?_
      refine L_skip rfl rfl rfl ?_
      refine L_skip rfl rfl rfl ?_
      refine L_skip rfl rfl rfl ?_
      refine L_yld (Y_pick_t rfl rfl) rfl rfl rfl ?_
      refine L_nil ?_
      exact X_cut () (.cons (i := 39) (lkb rfl (by simp only [eq_true c6, true_and, and_true, false_and, and_false, true_or, or_true, false_or, or_false, not_true_eq_false, not_false_eq_true, decide_true, decide_false, Bool.true_eq_false, Bool.false_eq_true, eq_self, Bool.decide_eq_true])) (.cons (i := 7) rfl (.cons (i := 6) rfl (.cons (i := 3) rfl (.nil _))))) (Ext.refl _)
    · refine L_yld (Y_move rfl) rfl rfl rfl ?_
      refine L_yld (Y_idxr Tryd.underlying22 (show _ = some 2 by kernel_rfl) rfl rfl rfl ho4.rows (by first | omega | (exact hq) | (exact hp) | (simp; done) | (simp; omega) | (simp only [List.length_cons, List.length_nil, hd]; omega)) (by first | omega | (exact hq) | (exact hp) | (simp; done) | (simp; omega) | (simp only [List.length_cons, List.length_nil, hd]; omega))) rfl rfl rfl ?_
      refine L_yld (Y_ldrA0 (k := 0) (us := [str ((at_rec [⟨[108, 105, 110, 107, 112, 97, 116, 104], q⟩, ⟨[112, 97, 116, 104], p⟩, ⟨[115, 105, 122, 101], [49]⟩] 0).key), str ((at_rec [⟨[108, 105, 110, 107, 112, 97, 116, 104], q⟩, ⟨[112, 97, 116, 104], p⟩, ⟨[115, 105, 122, 101], [49]⟩] 0).val)]) Tryd.underlying30 rfl (show _ = some 2 by kernel_rfl) rfl rfl ho4.rows (by first | omega | (exact hq) | (exact hp) | (simp; done) | (simp; omega) | (simp only [List.length_cons, List.length_nil, hd]; omega)) rfl) rfl rfl rfl ?_
      refine L_call (E_call (by kernel_rfl) rfl) (rec_Check _ (hK.ext (hx1.trans hx5)) (hE.ext (hx1.trans hx5)) ((at_rec [⟨[108, 105, 110, 107, 112, 97, 116, 104], q⟩, ⟨[112, 97, 116, 104], p⟩, ⟨[115, 105, 122, 101], [49]⟩] 0).key) ((at_rec [⟨[108, 105, 110, 107, 112, 97, 116, 104], q⟩, ⟨[112, 97, 116, 104], p⟩, ⟨[115, 105, 122, 101], [49]⟩] 0).val) (by first | first | omega | (exact hq) | (exact hp) | (simp; done) | (simp; omega) | (simp only [List.length_cons, List.length_nil, hd]; omega) | rfl | (omega; done) | (simp <;> omega))) rfl rfl rfl ?_
      rintro _ h3 ⟨rfl, hx7⟩
      refine L_yld (Y_neq rfl rfl) rfl rfl rfl ?_
      refine L_yld (Y_pick_f rfl rfl) rfl rfl rfl ?_
      refine L_yld (Y_move rfl) rfl rfl rfl ?_
      refine L_splitd (d := 33) rfl (fun c8 => ?_) (fun c8 => ?_)
      · refine L_skip rfl rfl rfl ?_
        refine L_skip rfl rfl rfl ?_
        refine L_skip rfl rfl rfl ?_
        refine L_skip rfl rfl rfl ?_
        refine L_skip rfl rfl rfl ?_
        refine L_yld (Y_pick_t rfl rfl) rfl rfl rfl ?_
        refine L_nil ?_
        exact X_cut () (.cons (i := 39) (lkb rfl (by simp only [eq_false c6, eq_true c8, true_and, and_true, false_and, and_false, true_or, or_true, false_or, or_false, not_true_eq_false, not_false_eq_true, decide_true, decide_false, Bool.true_eq_false, Bool.false_eq_true, eq_self, Bool.decide_eq_true])) (.cons (i := 7) rfl (.cons (i := 6) rfl (.cons (i := 3) rfl (.nil _))))) hx7
      · refine L_yld (Y_move rfl) rfl rfl rfl ?_
        refine L_yld (Y_idxr Tryd.underlying22 (show _ = some 2 by kernel_rfl) rfl rfl rfl (ho4.rows.ext hx7) (by first | omega | (exact hq) | (exact hp) | (simp; done) | (simp; omega) | (simp only [List.length_cons, List.length_nil, hd]; omega)) (by first | omega | (exact hq) | (exact hp) | (simp; done) | (simp; omega) | (simp only [List.length_cons, List.length_nil, hd]; omega))) rfl rfl rfl ?_
        refine L_yld (Y_ldrA0 (k := 1) (us := [str ((at_rec [⟨[108, 105, 110, 107, 112, 97, 116, 104], q⟩, ⟨[112, 97, 116, 104], p⟩, ⟨[115, 105, 122, 101], [49]⟩] 1).key), str ((at_rec [⟨[108, 105, 110, 107, 112, 97, 116, 104], q⟩, ⟨[112, 97, 116, 104], p⟩, ⟨[115, 105, 122, 101], [49]⟩] 1).val)]) Tryd.underlying30 rfl (show _ = some 2 by kernel_rfl) rfl rfl (ho4.rows.ext hx7) (by first | omega | (exact hq) | (exact hp) | (simp; done) | (simp; omega) | (simp only [List.length_cons, List.length_nil, hd]; omega)) rfl) rfl rfl rfl ?_
        refine L_call (E_call (by kernel_rfl) rfl) (rec_Check _ (hK.ext ((hx1.trans hx5).trans hx7)) (hE.ext ((hx1.trans hx5).trans hx7)) ((at_rec [⟨[108, 105, 110, 107, 112, 97, 116, 104], q⟩, ⟨[112, 97, 116, 104], p⟩, ⟨[115, 105, 122, 101], [49]⟩] 1).key) ((at_rec [⟨[108, 105, 110, 107, 112, 97, 116, 104], q⟩, ⟨[112, 97, 116, 104], p⟩, ⟨[115, 105, 122, 101], [49]⟩] 1).val) (by first | first | omega | (exact hq) | (exact hp) | (simp; done) | (simp; omega) | (simp only [List.length_cons, List.length_nil, hd]; omega) | rfl | (omega; done) | (simp <;> omega))) rfl rfl rfl ?_
        rintro _ h4 ⟨rfl, hx9⟩
        refine L_yld (Y_neq rfl rfl) rfl rfl rfl ?_
        refine L_yld (Y_pick_f rfl rfl) rfl rfl rfl ?_
        refine L_nil ?_
        exact X_cut () (.cons (i := 39) (lkb rfl (by simp only [eq_false c6, eq_false c8, true_and, and_true, false_and, and_false, true_or, or_true, false_or, or_false, not_true_eq_false, not_false_eq_true, decide_true, decide_false, Bool.true_eq_false, Bool.false_eq_true, eq_self, Bool.decide_eq_true])) (.cons (i := 7) rfl (.cons (i := 6) rfl (.cons (i := 3) rfl (.nil _))))) (hx7.trans hx9)
  rintro _ h5 hx10
  show W _ _ _ _ _ [(39, .bool (decide (((3000 < ((p.length : Int) + (q.length : Int))) ∨ (¬ (rerr ((at_rec [⟨[108, 105, 110, 107, 112, 97, 116, 104], q⟩, ⟨[112, 97, 116, 104], p⟩, ⟨[115, 105, 122, 101], [49]⟩] 0).key) ((at_rec [⟨[108, 105, 110, 107, 112, 97, 116, 104], q⟩, ⟨[112, 97, 116, 104], p⟩, ⟨[115, 105, 122, 101], [49]⟩] 0).val)) = 0)) ∨ (¬ (rerr ((at_rec [⟨[108, 105, 110, 107, 112, 97, 116, 104], q⟩, ⟨[112, 97, 116, 104], p⟩, ⟨[115, 105, 122, 101], [49]⟩] 1).key) ((at_rec [⟨[108, 105, 110, 107, 112, 97, 116, 104], q⟩, ⟨[112, 97, 116, 104], p⟩, ⟨[115, 105, 122, 101], [49]⟩] 1).val)) = 0)))), (7, v3), (6, .bool false), (3, .pointer (some ⟨h.size, 0, none⟩))] _
  refine W_splitd rfl (fun g => ?_) (fun g => ?_)
  · refine W_seq ?_
    refine W_region ?_
    refine L_call (E_call (by kernel_rfl) rfl) (law09_alive _ (hK.ext ((hx1.trans hx5).trans hx10)) (hN.ext ((hx1.trans hx5).trans hx10)) (hE.ext ((hx1.trans hx5).trans hx10))) rfl rfl rfl ?_
    rintro _ h6 ⟨rfl, hx11⟩
    refine L_yld (Y_assign rfl) rfl rfl rfl ?_
    refine L_nil ?_
    refine X_then ?_
    refine W_sub _ (.cons (i := 6) rfl (.cons (i := 7) rfl (.cons (i := 3) rfl (.nil _)))) ?_
    refine W_ret ?_
    refine X_then_ret ?_
    refine X_ret1 rfl rfl ?_
    exact ⟨rfl, (((hx1.trans hx5).trans hx10).trans hx11)⟩
  · refine W_skip ?_
    refine X_then ?_
    refine W_sub _ (.cons (i := 7) rfl (.cons (i := 6) rfl (.cons (i := 3) rfl (.nil _)))) ?_
    have hq0 : rerr [108, 105, 110, 107, 112, 97, 116, 104] q = 0 := Classical.byContradiction (fun h9 => g (.inl (.inr h9)))
    have hp0 : rerr [112, 97, 116, 104] p = 0 := Classical.byContradiction (fun h9 => g (.inr h9))
    have hbw := byt_lt d 0
    have hbx := byt_lt d 1
    have hbz := byt_lt d (Int.toNat 0)
    have hby := byt_lt d (Int.toNat 1)
    have hpe := pair_err hq0 hp0 (i := (byt d 0 % 3).toNat) (j := (byt d 1 % 3).toNat) (by omega) (by omega)
    have hpl := rerr_len hp0
    have hql := rerr_len hq0
    have hall : ∀ r ∈ kThree p q, r.key.length ≤ 140737488355328 ∧ r.val.length ≤ 140737488355328 := by intro r hr; simp only [kThree, List.mem_cons, List.not_mem_nil, or_false] at hr; rcases hr with rfl | rfl | rfl <;> exact ⟨by simp, by simp; try omega⟩
    refine W_seq ?_
    refine W_quiet (fun h' => h' = h5) (by kernel_rfl) (by kernel_rfl) rfl ?_
    refine LQ_yld (fun h_ hI_ => by subst hI_; exact Y_arraddr Tryd.underlying33 (show _ = some 1 by kernel_rfl) rfl rfl (by first | omega | (exact hq) | (exact hp) | (simp; done) | (simp; omega) | (simp only [List.length_cons, List.length_nil, hd]; omega)) (by first | omega | (exact hq) | (exact hp) | (simp; done) | (simp; omega) | (simp only [List.length_cons, List.length_nil, hd]; omega))) rfl rfl rfl ?_
    refine LQ_yld (fun h_ hI_ => by subst hI_; exact Y_ldbyte Tryd.underlying5 rfl rfl ((hb2.bytes (by omega)).ext (hx5.trans hx10)) (by first | omega | (exact hq) | (exact hp) | (simp; done) | (simp; omega) | (simp only [List.length_cons, List.length_nil, hd]; omega)) (by first | omega | (exact hq) | (exact hp) | (simp; done) | (simp; omega) | (simp only [List.length_cons, List.length_nil, hd]; omega))) rfl rfl rfl ?_
    refine LQ_yld (fun h_ hI_ => by subst hI_; exact Y_convs Tryd.underlying5 Tryd.underlying3 rfl (wrap_i64 (by first | omega | (exact hq) | (exact hp) | (simp; done) | (simp; omega) | (simp only [List.length_cons, List.length_nil, hd]; omega)) (by first | omega | (exact hq) | (exact hp) | (simp; done) | (simp; omega) | (simp only [List.length_cons, List.length_nil, hd]; omega)))) rfl rfl rfl ?_
    refine LQ_yld (fun h_ hI_ => by subst hI_; exact Y_rem rfl rfl (by omega) (by omega)) rfl rfl rfl ?_
    refine LQ_yld (fun h_ hI_ => by subst hI_; exact Y_arraddr Tryd.underlying33 (show _ = some 1 by kernel_rfl) rfl rfl (by first | omega | (exact hq) | (exact hp) | (simp; done) | (simp; omega) | (simp only [List.length_cons, List.length_nil, hd]; omega)) (by first | omega | (exact hq) | (exact hp) | (simp; done) | (simp; omega) | (simp only [List.length_cons, List.length_nil, hd]; omega))) rfl rfl rfl ?_
    refine LQ_yld (fun h_ hI_ => by subst hI_; exact Y_ldbyte Tryd.underlying5 rfl rfl ((hb2.bytes (by omega)).ext (hx5.trans hx10)) (by first | omega | (exact hq) | (exact hp) | (simp; done) | (simp; omega) | (simp only [List.length_cons, List.length_nil, hd]; omega)) (by first | omega | (exact hq) | (exact hp) | (simp; done) | (simp; omega) | (simp only [List.length_cons, List.length_nil, hd]; omega))) rfl rfl rfl ?_
    refine LQ_yld (fun h_ hI_ => by subst hI_; exact Y_convs Tryd.underlying5 Tryd.underlying3 rfl (wrap_i64 (by first | omega | (exact hq) | (exact hp) | (simp; done) | (simp; omega) | (simp only [List.length_cons, List.length_nil, hd]; omega)) (by first | omega | (exact hq) | (exact hp) | (simp; done) | (simp; omega) | (simp only [List.length_cons, List.length_nil, hd]; omega)))) rfl rfl rfl ?_
    refine LQ_yld (fun h_ hI_ => by subst hI_; exact Y_rem rfl rfl (by omega) (by omega)) rfl rfl rfl ?_
    refine LQ_yld (fun h_ hI_ => by subst hI_; exact Y_assign rfl) rfl rfl rfl ?_
    refine LQ_yld (fun h_ hI_ => by subst hI_; exact Y_assign rfl) rfl rfl rfl ?_
    refine LQ_nil ?_
    rintro h5 rfl
    refine X_then ?_
    refine W_sub _ (.cons (i := 9) rfl (.cons (i := 8) rfl (.cons (i := 7) rfl (.cons (i := 6) rfl (.nil _))))) ?_
    refine W_seq ?_
    refine W_pers [(9, .int .i64 ((byt d 1) % 3)), (8, .int .i64 ((byt d 0) % 3)), (7, v3), (6, .bool false)] (.cons (i := 9) rfl (.cons (i := 8) rfl (.cons (i := 7) rfl (.cons (i := 6) rfl (.nil _))))) (by kernel_rfl) ?_
    refine LP_op 0 (fun _ vv => v3 = vv) [] rfl rfl (by kernel_rfl) (fun _ _ _ _ p => p) ?_ ?_
    · intro h7 hx12
      refine Needs_nil ?_
      refine Stp_yld (Y_move rfl) rfl ?_
      exact rfl
    refine LP_op 1 (fun _ vv => .int .i64 ((byt d 0) % 3) = vv) [] rfl rfl (by kernel_rfl) (fun _ _ _ _ p => p) ?_ ?_
    · intro h8 hx13
      refine Needs_nil ?_
      refine Stp_yld (Y_move rfl) rfl ?_
      exact rfl
    refine LP_op 2 (fun _ vv => .pointer (some (elemAddr v3 (((byt d 0) % 3).toNat * 2))) = vv) [(0, 50), (1, 51)] rfl rfl (by kernel_rfl) (fun _ _ _ _ p => p) ?_ ?_
    · intro h9 hx14
      rintro _ rfl
      rintro _ rfl
      refine Needs_nil ?_
      refine Stp_yld (Y_idxr Tryd.underlying22 (show _ = some 2 by kernel_rfl) rfl rfl rfl (ho4.rows.ext (hx10.trans hx14)) (by first | omega | (exact hq) | (exact hp) | (simp; done) | (simp; omega) | (simp only [List.length_cons, List.length_nil, hd]; omega)) (by first | omega | (exact hq) | (exact hp) | (simp; done) | (simp; omega) | (simp only [List.length_cons, List.length_nil, hd]; omega))) rfl ?_
      exact rfl
    refine LP_op 3 (fun _ vv => .agg #[str ((at_rec [⟨[108, 105, 110, 107, 112, 97, 116, 104], q⟩, ⟨[112, 97, 116, 104], p⟩, ⟨[115, 105, 122, 101], [49]⟩] ((byt d 0) % 3).toNat).key), str ((at_rec [⟨[108, 105, 110, 107, 112, 97, 116, 104], q⟩, ⟨[112, 97, 116, 104], p⟩, ⟨[115, 105, 122, 101], [49]⟩] ((byt d 0) % 3).toNat).val)] = vv) [(2, 52)] rfl rfl (by kernel_rfl) (fun _ _ _ _ p => p) ?_ ?_
    · intro h10 hx15
      rintro _ rfl
      refine Needs_nil ?_
      refine Stp_yld (Y_ldrA0 (k := ((byt d 0) % 3).toNat) (us := [str ((at_rec [⟨[108, 105, 110, 107, 112, 97, 116, 104], q⟩, ⟨[112, 97, 116, 104], p⟩, ⟨[115, 105, 122, 101], [49]⟩] ((byt d 0) % 3).toNat).key), str ((at_rec [⟨[108, 105, 110, 107, 112, 97, 116, 104], q⟩, ⟨[112, 97, 116, 104], p⟩, ⟨[115, 105, 122, 101], [49]⟩] ((byt d 0) % 3).toNat).val)]) Tryd.underlying30 rfl (show _ = some 2 by kernel_rfl) rfl rfl (ho4.rows.ext (hx10.trans hx15)) (by first | omega | (exact hq) | (exact hp) | (simp; done) | (simp; omega) | (simp only [List.length_cons, List.length_nil, hd]; omega)) rfl) rfl ?_
      exact rfl
    refine LP_op 4 (fun _ vv => v3 = vv) [] rfl rfl (by kernel_rfl) (fun _ _ _ _ p => p) ?_ ?_
    · intro h11 hx16
      refine Needs_nil ?_
      refine Stp_yld (Y_move rfl) rfl ?_
      exact rfl
    refine LP_op 5 (fun _ vv => .int .i64 ((byt d 1) % 3) = vv) [] rfl rfl (by kernel_rfl) (fun _ _ _ _ p => p) ?_ ?_
    · intro h12 hx17
      refine Needs_nil ?_
      refine Stp_yld (Y_move rfl) rfl ?_
      exact rfl
    refine LP_op 6 (fun _ vv => .pointer (some (elemAddr v3 (((byt d 1) % 3).toNat * 2))) = vv) [(4, 54), (5, 55)] rfl rfl (by kernel_rfl) (fun _ _ _ _ p => p) ?_ ?_
    · intro h13 hx18
      rintro _ rfl
      rintro _ rfl
      refine Needs_nil ?_
      refine Stp_yld (Y_idxr Tryd.underlying22 (show _ = some 2 by kernel_rfl) rfl rfl rfl (ho4.rows.ext (hx10.trans hx18)) (by first | omega | (exact hq) | (exact hp) | (simp; done) | (simp; omega) | (simp only [List.length_cons, List.length_nil, hd]; omega)) (by first | omega | (exact hq) | (exact hp) | (simp; done) | (simp; omega) | (simp only [List.length_cons, List.length_nil, hd]; omega))) rfl ?_
      exact rfl
    refine LP_op 7 (fun _ vv => .agg #[str ((at_rec [⟨[108, 105, 110, 107, 112, 97, 116, 104], q⟩, ⟨[112, 97, 116, 104], p⟩, ⟨[115, 105, 122, 101], [49]⟩] ((byt d 1) % 3).toNat).key), str ((at_rec [⟨[108, 105, 110, 107, 112, 97, 116, 104], q⟩, ⟨[112, 97, 116, 104], p⟩, ⟨[115, 105, 122, 101], [49]⟩] ((byt d 1) % 3).toNat).val)] = vv) [(6, 56)] rfl rfl (by kernel_rfl) (fun _ _ _ _ p => p) ?_ ?_
    · intro h14 hx19
      rintro _ rfl
      refine Needs_nil ?_
      refine Stp_yld (Y_ldrA0 (k := ((byt d 1) % 3).toNat) (us := [str ((at_rec [⟨[108, 105, 110, 107, 112, 97, 116, 104], q⟩, ⟨[112, 97, 116, 104], p⟩, ⟨[115, 105, 122, 101], [49]⟩] ((byt d 1) % 3).toNat).key), str ((at_rec [⟨[108, 105, 110, 107, 112, 97, 116, 104], q⟩, ⟨[112, 97, 116, 104], p⟩, ⟨[115, 105, 122, 101], [49]⟩] ((byt d 1) % 3).toNat).val)]) Tryd.underlying30 rfl (show _ = some 2 by kernel_rfl) rfl rfl (ho4.rows.ext (hx10.trans hx19)) (by first | omega | (exact hq) | (exact hp) | (simp; done) | (simp; omega) | (simp only [List.length_cons, List.length_nil, hd]; omega)) rfl) rfl ?_
      exact rfl
    refine LP_op 8 (fun hh r5_1 => RowsO recS hh h5.size r5_1 ([(at_rec [⟨[108, 105, 110, 107, 112, 97, 116, 104], q⟩, ⟨[112, 97, 116, 104], p⟩, ⟨[115, 105, 122, 101], [49]⟩] ((byt d 0) % 3).toNat), (at_rec [⟨[108, 105, 110, 107, 112, 97, 116, 104], q⟩, ⟨[112, 97, 116, 104], p⟩, ⟨[115, 105, 122, 101], [49]⟩] ((byt d 1) % 3).toNat)])) [(7, 57), (3, 53)] rfl rfl (by kernel_rfl) (fun _ _ _ x_ p_ => p_.ext x_) ?_ ?_
    · intro h15 hx20
      rintro _ rfl
      rintro _ rfl
      refine Needs_nil ?_
      refine Stp_mks (M_litr (S := recS) (l := [(at_rec [⟨[108, 105, 110, 107, 112, 97, 116, 104], q⟩, ⟨[112, 97, 116, 104], p⟩, ⟨[115, 105, 122, 101], [49]⟩] ((byt d 0) % 3).toNat), (at_rec [⟨[108, 105, 110, 107, 112, 97, 116, 104], q⟩, ⟨[112, 97, 116, 104], p⟩, ⟨[115, 105, 122, 101], [49]⟩] ((byt d 1) % 3).toNat)]) (cells := [str ((at_rec [⟨[108, 105, 110, 107, 112, 97, 116, 104], q⟩, ⟨[112, 97, 116, 104], p⟩, ⟨[115, 105, 122, 101], [49]⟩] ((byt d 0) % 3).toNat).key), str ((at_rec [⟨[108, 105, 110, 107, 112, 97, 116, 104], q⟩, ⟨[112, 97, 116, 104], p⟩, ⟨[115, 105, 122, 101], [49]⟩] ((byt d 0) % 3).toNat).val), str ((at_rec [⟨[108, 105, 110, 107, 112, 97, 116, 104], q⟩, ⟨[112, 97, 116, 104], p⟩, ⟨[115, 105, 122, 101], [49]⟩] ((byt d 1) % 3).toNat).key), str ((at_rec [⟨[108, 105, 110, 107, 112, 97, 116, 104], q⟩, ⟨[112, 97, 116, 104], p⟩, ⟨[115, 105, 122, 101], [49]⟩] ((byt d 1) % 3).toNat).val)]) (pv := [(0, .agg #[str ((at_rec [⟨[108, 105, 110, 107, 112, 97, 116, 104], q⟩, ⟨[112, 97, 116, 104], p⟩, ⟨[115, 105, 122, 101], [49]⟩] ((byt d 0) % 3).toNat).key), str ((at_rec [⟨[108, 105, 110, 107, 112, 97, 116, 104], q⟩, ⟨[112, 97, 116, 104], p⟩, ⟨[115, 105, 122, 101], [49]⟩] ((byt d 0) % 3).toNat).val)]), (1, .agg #[str ((at_rec [⟨[108, 105, 110, 107, 112, 97, 116, 104], q⟩, ⟨[112, 97, 116, 104], p⟩, ⟨[115, 105, 122, 101], [49]⟩] ((byt d 1) % 3).toNat).key), str ((at_rec [⟨[108, 105, 110, 107, 112, 97, 116, 104], q⟩, ⟨[112, 97, 116, 104], p⟩, ⟨[115, 105, 122, 101], [49]⟩] ((byt d 1) % 3).toNat).val)])]) (E := 30) (evp (is := [0, 1]) (os := [.tmp 53, .tmp 57]) (vs := [.agg #[str ((at_rec [⟨[108, 105, 110, 107, 112, 97, 116, 104], q⟩, ⟨[112, 97, 116, 104], p⟩, ⟨[115, 105, 122, 101], [49]⟩] ((byt d 0) % 3).toNat).key), str ((at_rec [⟨[108, 105, 110, 107, 112, 97, 116, 104], q⟩, ⟨[112, 97, 116, 104], p⟩, ⟨[115, 105, 122, 101], [49]⟩] ((byt d 0) % 3).toNat).val)], .agg #[str ((at_rec [⟨[108, 105, 110, 107, 112, 97, 116, 104], q⟩, ⟨[112, 97, 116, 104], p⟩, ⟨[115, 105, 122, 101], [49]⟩] ((byt d 1) % 3).toNat).key), str ((at_rec [⟨[108, 105, 110, 107, 112, 97, 116, 104], q⟩, ⟨[112, 97, 116, 104], p⟩, ⟨[115, 105, 122, 101], [49]⟩] ((byt d 1) % 3).toNat).val)]]) rfl rfl) rfl rfl (fun _ => by kernel_rfl) (by simp only [List.mem_cons, List.not_mem_nil, or_false, forall_eq_or_imp, forall_eq]; exact ⟨trivial, trivial⟩)) rfl ?_
      rintro v21 h16 ⟨ho22, hx23⟩
      exact ⟨hx23, (ho22.low hx20.size)⟩
    refine LP_op 9 (fun hh vv => ∃ r5_2, vv = .tuple #[r5_2, .int .i64 (rlerr none [(at_rec [⟨[108, 105, 110, 107, 112, 97, 116, 104], q⟩, ⟨[112, 97, 116, 104], p⟩, ⟨[115, 105, 122, 101], [49]⟩] ((byt d 0) % 3).toNat), (at_rec [⟨[108, 105, 110, 107, 112, 97, 116, 104], q⟩, ⟨[112, 97, 116, 104], p⟩, ⟨[115, 105, 122, 101], [49]⟩] ((byt d 1) % 3).toNat)])] ∧ OwnB hh h5.size r5_2 (rfmt [(at_rec [⟨[108, 105, 110, 107, 112, 97, 116, 104], q⟩, ⟨[112, 97, 116, 104], p⟩, ⟨[115, 105, 122, 101], [49]⟩] ((byt d 0) % 3).toNat), (at_rec [⟨[108, 105, 110, 107, 112, 97, 116, 104], q⟩, ⟨[112, 97, 116, 104], p⟩, ⟨[115, 105, 122, 101], [49]⟩] ((byt d 1) % 3).toNat)])) [(8, 58)] rfl rfl (by kernel_rfl) (fun _ _ _ x_ p_ => by obtain ⟨r5_2, rfl, q5_2⟩ := p_; exact ⟨_, rfl, q5_2.ext x_⟩) ?_ ?_
    · intro h17 hx24
      intro r5_1 q5_1
      refine Needs_nil ?_
      refine Stp_call (E_call (by kernel_rfl) rfl) (rec_Format _ (hK.ext (((hx1.trans hx5).trans hx10).trans hx24)) (hN.ext (((hx1.trans hx5).trans hx10).trans hx24)) (hE.ext (((hx1.trans hx5).trans hx10).trans hx24)) r5_1 [(at_rec [⟨[108, 105, 110, 107, 112, 97, 116, 104], q⟩, ⟨[112, 97, 116, 104], p⟩, ⟨[115, 105, 122, 101], [49]⟩] ((byt d 0) % 3).toNat), (at_rec [⟨[108, 105, 110, 107, 112, 97, 116, 104], q⟩, ⟨[112, 97, 116, 104], p⟩, ⟨[115, 105, 122, 101], [49]⟩] ((byt d 1) % 3).toNat)] q5_1.rows (by simp) (by intro r hr; simp only [List.mem_cons, List.not_mem_nil, or_false] at hr; rcases hr with rfl | rfl <;> exact hall _ (at_rec_mem (by simp; omega)))) rfl ?_
      rintro _ h18 ⟨s025, rfl, hr026, hx27⟩
      exact ⟨hx27, ⟨s025, rfl, (hr026.low hx24.size)⟩⟩
    refine LP_op 10 (fun hh vv => ∃ r5_3, vv = .tuple #[r5_3, .int .i64 (rlerr none [(at_rec [⟨[108, 105, 110, 107, 112, 97, 116, 104], q⟩, ⟨[112, 97, 116, 104], p⟩, ⟨[115, 105, 122, 101], [49]⟩] ((byt d 0) % 3).toNat), (at_rec [⟨[108, 105, 110, 107, 112, 97, 116, 104], q⟩, ⟨[112, 97, 116, 104], p⟩, ⟨[115, 105, 122, 101], [49]⟩] ((byt d 1) % 3).toNat)])] ∧ OwnB hh h5.size r5_3 (rfmt [(at_rec [⟨[108, 105, 110, 107, 112, 97, 116, 104], q⟩, ⟨[112, 97, 116, 104], p⟩, ⟨[115, 105, 122, 101], [49]⟩] ((byt d 0) % 3).toNat), (at_rec [⟨[108, 105, 110, 107, 112, 97, 116, 104], q⟩, ⟨[112, 97, 116, 104], p⟩, ⟨[115, 105, 122, 101], [49]⟩] ((byt d 1) % 3).toNat)])) [(9, 59)] rfl rfl (by kernel_rfl) (fun _ _ _ x_ p_ => by obtain ⟨r5_3, rfl, q5_3⟩ := p_; exact ⟨_, rfl, q5_3.ext x_⟩) ?_ ?_
    · intro h19 hx28
      rintro _ ⟨r5_2, rfl, q5_2⟩
      refine Needs_nil ?_
      refine Stp_yld (Y_move rfl) rfl ?_
      exact ⟨r5_2, rfl, (q5_2.low (Nat.le_refl _))⟩
    refine LP_op 11 (fun hh r5_4 => OwnB hh h5.size r5_4 (rfmt [(at_rec [⟨[108, 105, 110, 107, 112, 97, 116, 104], q⟩, ⟨[112, 97, 116, 104], p⟩, ⟨[115, 105, 122, 101], [49]⟩] ((byt d 0) % 3).toNat), (at_rec [⟨[108, 105, 110, 107, 112, 97, 116, 104], q⟩, ⟨[112, 97, 116, 104], p⟩, ⟨[115, 105, 122, 101], [49]⟩] ((byt d 1) % 3).toNat)])) [(10, 49)] rfl rfl (by kernel_rfl) (fun _ _ _ x_ p_ => p_.ext x_) ?_ ?_
    · intro h20 hx29
      rintro _ ⟨r5_3, rfl, q5_3⟩
      refine Needs_nil ?_
      refine Stp_yld (Y_extract (v := r5_3) rfl rfl) rfl ?_
      exact (q5_3.low (Nat.le_refl _))
    refine LP_op 12 (fun _ vv => .int .i64 (rlerr none [(at_rec [⟨[108, 105, 110, 107, 112, 97, 116, 104], q⟩, ⟨[112, 97, 116, 104], p⟩, ⟨[115, 105, 122, 101], [49]⟩] ((byt d 0) % 3).toNat), (at_rec [⟨[108, 105, 110, 107, 112, 97, 116, 104], q⟩, ⟨[112, 97, 116, 104], p⟩, ⟨[115, 105, 122, 101], [49]⟩] ((byt d 1) % 3).toNat)]) = vv) [(10, 49)] rfl rfl (by kernel_rfl) (fun _ _ _ _ p => p) ?_ ?_
    · intro h21 hx30
      rintro _ ⟨r5_3, rfl, q5_3⟩
      refine Needs_nil ?_
      refine Stp_yld (Y_extract (v := .int .i64 (rlerr none [(at_rec [⟨[108, 105, 110, 107, 112, 97, 116, 104], q⟩, ⟨[112, 97, 116, 104], p⟩, ⟨[115, 105, 122, 101], [49]⟩] ((byt d 0) % 3).toNat), (at_rec [⟨[108, 105, 110, 107, 112, 97, 116, 104], q⟩, ⟨[112, 97, 116, 104], p⟩, ⟨[115, 105, 122, 101], [49]⟩] ((byt d 1) % 3).toNat)])) rfl rfl) rfl ?_
      exact rfl
    refine LP_op 13 (fun hh r5_5 => OwnB hh h5.size r5_5 (rfmt [(at_rec [⟨[108, 105, 110, 107, 112, 97, 116, 104], q⟩, ⟨[112, 97, 116, 104], p⟩, ⟨[115, 105, 122, 101], [49]⟩] ((byt d 0) % 3).toNat), (at_rec [⟨[108, 105, 110, 107, 112, 97, 116, 104], q⟩, ⟨[112, 97, 116, 104], p⟩, ⟨[115, 105, 122, 101], [49]⟩] ((byt d 1) % 3).toNat)])) [(11, 60)] rfl rfl (by kernel_rfl) (fun _ _ _ x_ p_ => p_.ext x_) ?_ ?_
    · intro h22 hx31
      intro r5_4 q5_4
      refine Needs_nil ?_
      refine Stp_yld (Y_assign rfl) rfl ?_
      exact (q5_4.low (Nat.le_refl _))
    refine LP_op 14 (fun _ vv => .int .i64 (rlerr none [(at_rec [⟨[108, 105, 110, 107, 112, 97, 116, 104], q⟩, ⟨[112, 97, 116, 104], p⟩, ⟨[115, 105, 122, 101], [49]⟩] ((byt d 0) % 3).toNat), (at_rec [⟨[108, 105, 110, 107, 112, 97, 116, 104], q⟩, ⟨[112, 97, 116, 104], p⟩, ⟨[115, 105, 122, 101], [49]⟩] ((byt d 1) % 3).toNat)]) = vv) [(12, 61)] rfl rfl (by kernel_rfl) (fun _ _ _ _ p => p) ?_ ?_
    · intro h23 hx32
      rintro _ rfl
      refine Needs_nil ?_
      refine Stp_yld (Y_assign rfl) rfl ?_
      exact rfl
    refine LP_end [(14, 11)] rfl (by kernel_rfl) rfl ?_
    intro h24 hx33
    rintro _ rfl
    refine Needs_nil ?_
    refine X_then ?_
    refine W_seq ?_
    refine W_region ?_
    refine L_yld (Y_move rfl) rfl rfl rfl ?_
    refine L_call (E_call (by kernel_rfl) rfl) (rec_Format _ (hK.ext (((hx1.trans hx5).trans hx10).trans hx33)) (hN.ext (((hx1.trans hx5).trans hx10).trans hx33)) (hE.ext (((hx1.trans hx5).trans hx10).trans hx33)) v3 [⟨[108, 105, 110, 107, 112, 97, 116, 104], q⟩, ⟨[112, 97, 116, 104], p⟩, ⟨[115, 105, 122, 101], [49]⟩] (ho4.rows.ext (hx10.trans hx33)) (by simp) hall) rfl rfl rfl ?_
    rintro _ h25 ⟨s034, rfl, hr035, hx36⟩
    refine L_yld (Y_move rfl) rfl rfl rfl ?_
    refine L_yld (Y_extract (v := s034) rfl rfl) rfl rfl rfl ?_
    refine L_yld (Y_extract (v := .int .i64 (rlerr none [⟨[108, 105, 110, 107, 112, 97, 116, 104], q⟩, ⟨[112, 97, 116, 104], p⟩, ⟨[115, 105, 122, 101], [49]⟩])) rfl rfl) rfl rfl rfl ?_
    refine L_yld (Y_assign rfl) rfl rfl rfl ?_
    refine L_yld (Y_assign rfl) rfl rfl rfl ?_
    refine L_nil ?_
    refine X_then ?_
    refine W_sub _ (.cons (i := 13) rfl (.cons (i := 11) rfl (.cons (i := 9) rfl (.cons (i := 8) rfl (.cons (i := 6) rfl (.nil _)))))) ?_
    refine W_seq ?_
    refine W_region ?_
    refine L_call (E_call (by kernel_rfl) rfl) (law09_alive _ (hK.ext ((((hx1.trans hx5).trans hx10).trans hx33).trans hx36)) (hN.ext ((((hx1.trans hx5).trans hx10).trans hx33).trans hx36)) (hE.ext ((((hx1.trans hx5).trans hx10).trans hx33).trans hx36))) rfl rfl rfl ?_
    rintro _ h26 ⟨rfl, hx37⟩
    refine L_yld (Y_move rfl) rfl rfl rfl ?_
    refine L_yld (Y_move rfl) rfl rfl rfl ?_
    refine L_yld (Y_eql rfl rfl) rfl rfl rfl ?_
    refine L_yld (Y_pick_t rfl rfl) rfl rfl rfl ?_
    refine L_yld (Y_move rfl) rfl rfl rfl ?_
    refine L_known (d := 72) true rfl (by exact decide_eq_true (by exact three_err hq0 hp0)) ?_
    refine L_yld (Y_move rfl) rfl rfl rfl ?_
    refine L_yld (Y_eql rfl rfl) rfl rfl rfl ?_
    refine L_yld (Y_move rfl) rfl rfl rfl ?_
    refine L_yld (Y_move rfl) rfl rfl rfl ?_
    refine L_yld (Y_lss rfl rfl) rfl rfl rfl ?_
    refine L_yld (Y_beql Tryd.underlying4 rfl rfl) rfl rfl rfl ?_
    refine L_yld (Y_pick_t rfl rfl) rfl rfl rfl ?_
    refine L_yld (Y_move rfl) rfl rfl rfl ?_
    refine L_known (d := 80) true rfl (by rw [hpe]; by_cases hij : (byt d 0 % 3).toNat < (byt d 1 % 3).toNat <;> simp [hij] <;> omega) ?_
    refine L_yld (Y_move rfl) rfl rfl rfl ?_
    refine L_yld (Y_eql rfl rfl) rfl rfl rfl ?_
    refine L_yld (Y_move rfl) rfl rfl rfl ?_
    refine L_splitd (d := 83) rfl (fun z => ?_) (fun z => ?_)
    · have z : (rlerr none [(at_rec [⟨[108, 105, 110, 107, 112, 97, 116, 104], q⟩, ⟨[112, 97, 116, 104], p⟩, ⟨[115, 105, 122, 101], [49]⟩] ((byt d 0) % 3).toNat), (at_rec [⟨[108, 105, 110, 107, 112, 97, 116, 104], q⟩, ⟨[112, 97, 116, 104], p⟩, ⟨[115, 105, 122, 101], [49]⟩] ((byt d 1) % 3).toNat)]) = 0 := z
      refine L_skip rfl rfl rfl ?_
      refine L_skip rfl rfl rfl ?_
      refine L_yld (Y_pick_t rfl rfl) rfl rfl rfl ?_
      refine L_yld (Y_pick_t rfl rfl) rfl rfl rfl ?_
      refine L_yld (Y_assign rfl) rfl rfl rfl ?_
      refine L_nil ?_
      refine X_then ?_
      refine W_sub _ (.cons (i := 6) rfl (.nil _)) ?_
      refine W_ret ?_
      refine X_ret1 rfl rfl ?_
      exact ⟨rfl, (((((hx1.trans hx5).trans hx10).trans hx33).trans hx36).trans hx37)⟩
    · have z : ¬ ((rlerr none [(at_rec [⟨[108, 105, 110, 107, 112, 97, 116, 104], q⟩, ⟨[112, 97, 116, 104], p⟩, ⟨[115, 105, 122, 101], [49]⟩] ((byt d 0) % 3).toNat), (at_rec [⟨[108, 105, 110, 107, 112, 97, 116, 104], q⟩, ⟨[112, 97, 116, 104], p⟩, ⟨[115, 105, 122, 101], [49]⟩] ((byt d 1) % 3).toNat)]) = 0) := z
      refine L_yld (Y_move rfl) rfl rfl rfl ?_
      refine L_yld (Y_eql rfl rfl) rfl rfl rfl ?_
      refine L_yld (Y_pick_f rfl rfl) rfl rfl rfl ?_
      refine L_yld (Y_pick_t rfl rfl) rfl rfl rfl ?_
      refine L_yld (Y_assign rfl) rfl rfl rfl ?_
      refine L_nil ?_
      refine X_then ?_
      refine W_sub _ (.cons (i := 6) rfl (.nil _)) ?_
      refine W_ret ?_
      refine X_ret1 rfl rfl ?_
      exact ⟨congrArg Value.bool (decide_eq_true (by rw [hpe] at z ⊢; split at z; exact absurd rfl z; rw [if_neg (by assumption)])), (((((hx1.trans hx5).trans hx10).trans hx33).trans hx36).trans hx37)⟩
theorem paxrecKeysOrdered (h : Heap) (hK : GlbK h) (hN : GlbN h) (hE : GlbE h) (x y : Int) (p q : List UInt8) (hx : 0 ≤ x ∧ x ≤ 255) (hy : 0 ≤ y ∧ y ≤ 255) (hp : p.length ≤ 140737488355328) (hq : q.length ≤ 140737488355328) : Cal Tryd.prog 4 #[.agg #[.int .u8 x, .int .u8 y], str p, str q] h (fun v h' => v = .bool true ∧ Ext h h') := by
  have := paxrecKeysOrdered' h hK hN hE [x.toNat.toUInt8, y.toNat.toUInt8] p q rfl hp hq
  rw [bv_of hx, bv_of hy]; exact this
section
open Go.WideShapes
theorem okWide_array {P : Program} {w : World} {r : Reach} {base : Nat} {t e : TypeId} {n : Nat} {v : Value} (ht : P.underlying t = some (.array n e)) (h : Value.okWide P w r base t v) : ∃ cs, v = .agg cs ∧ cs.size = P.cellsOf t := by
  simp only [Value.okWide, ht] at h
  obtain ⟨cs, h1, h2, _⟩ := h
  exact ⟨cs, h1, h2⟩
end
end Go.Xp
