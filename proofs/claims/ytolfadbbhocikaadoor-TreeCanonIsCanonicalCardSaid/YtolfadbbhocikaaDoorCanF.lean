/- tree.Equal and the law that Canon and Equal are the reference's: what the code does. -/
import Derived.Test.YtolfadbbhocikaaDoorCanL
import Derived.Test.YtolfadbbhocikaaDoorTreeV
set_option linter.unusedSimpArgs false
set_option linter.unusedVariables false
set_option linter.unusedSectionVars false
namespace Go.Xp
open Go.Proofs

def okl (p t d : List UInt8) : Prop := p.length ≤ 100000000000 ∧ t.length ≤ 100000000000 ∧ d.length ≤ 100000000000
theorem tree_Canon (h : Heap) (l : Value) (L : List Nod) (hL : Rows nodS h l L) (hm : L.length ≤ 1000000000) (hs : ∀ x ∈ L, x.path.length ≤ 100000000000 ∧ x.target.length ≤ 100000000000 ∧ x.data.length ≤ 100000000000) :
    Cal Tryd.prog 19 #[l] h (fun v h' => ∃ s0 L0, v = s0 ∧ Rows nodS h' s0 L0 ∧ (L0.length = L.length ∧ L0.map er = cno L) ∧ Ext h h') :=
  (tree_CanonR h l L hL (by omega) (fun x hx => by have := hs x hx; omega)).mono fun v h' ⟨e, x, L', q1, q2, q3⟩ => ⟨v, L', rfl, by rw [e, ← q1]; exact q2.rows rfl, ⟨q1, q3⟩, x⟩
theorem ref13_Canon (h : Heap) (l : Value) (L : List Nod) (hL : Rows nodS h l L) (hm : L.length ≤ 1000000000) (hs : ∀ x ∈ L, x.path.length ≤ 100000000000 ∧ x.target.length ≤ 100000000000 ∧ x.data.length ≤ 100000000000) :
    Cal Tryd.prog 18 #[l] h (fun v h' => ∃ s0 L0, v = s0 ∧ Rows nodS h' s0 L0 ∧ (L0.length = L.length ∧ L0.map er = cno L) ∧ Ext h h') :=
  (ref13_CanonR h l L hL hm (fun x hx => ⟨(hs x hx).1, (hs x hx).2.2⟩)).mono fun v h' ⟨L', q1, q2, q3, x⟩ => ⟨v, L', rfl, q1, ⟨q2, by rw [q3, rcn_cno]⟩, x⟩

set_option maxRecDepth 100000 in
theorem tree_same (h : Heap) (x : Nod) (hx0 : nodS.ok h x) (y : Nod) (hy0 : nodS.ok h y) (hl0 : x.data.length ≤ 140737488355328) : Cal Tryd.prog 38 #[.agg #[.int .i64 (x.kind), str x.path, .int .i64 (x.mode), str x.target, (x.dv), .int .i64 (x.cls)], .agg #[.int .i64 (y.kind), str y.path, .int .i64 (y.mode), str y.target, (y.dv), .int .i64 (y.cls)]] h (fun v h' => v = .bool (decide (nsame x y)) ∧ Ext h h') := by
  refine Cal_enter (args := [.agg #[.int .i64 (x.kind), str x.path, .int .i64 (x.mode), str x.target, (x.dv), .int .i64 (x.cls)], .agg #[.int .i64 (y.kind), str y.path, .int .i64 (y.mode), str y.target, (y.dv), .int .i64 (y.cls)]]) Tryd.func38 rfl rfl rfl (fun σ => ?_)
  refine W_seq ?_
  refine W_region ?_
  refine L_mks (M_box rfl) rfl rfl rfl ?_
  rintro _ h1 ⟨rfl, hn1⟩
  have hk2 : Blk h1 h.size [.int .i64 (x.kind), str x.path, .int .i64 (x.mode), str x.target, (x.dv), .int .i64 (x.cls)] := hn1.blk
  refine L_mks (M_box rfl) rfl rfl rfl ?_
  rintro _ h2 ⟨rfl, hn3⟩
  have hk4 : Blk h2 h1.size [.int .i64 (y.kind), str y.path, .int .i64 (y.mode), str y.target, (y.dv), .int .i64 (y.cls)] := hn3.blk
  refine L_yld (Y_assign rfl) rfl rfl rfl ?_
  refine L_nil ?_
  refine X_then ?_
  refine W_sub _ (.cons (i := 4) rfl (.cons (i := 3) rfl (.cons (i := 2) rfl (.nil _)))) ?_
  refine W_cut (S := Unit) (fun _ => [(4, .bool (decide ((((((x.kind = y.kind) ∧ (x.path = y.path)) ∧ (x.mode = y.mode)) ∧ (x.target = y.target)) ∧ (x.cls = y.cls)) ∧ (x.data = y.data))))]) (fun _ h' => h' = h2) ?_ ?_
  · refine W_region ?_
    refine L_yld (Y_fieldAddr (off := 0) (by kernel_rfl) rfl rfl) rfl rfl rfl ?_
    refine L_yld (Y_ldblk Tryd.underlying3 rfl rfl (hk2.ext hn3.ext) rfl) rfl rfl rfl ?_
    refine L_yld (Y_fieldAddr (off := 0) (by kernel_rfl) rfl rfl) rfl rfl rfl ?_
    refine L_yld (Y_ldblk Tryd.underlying3 rfl rfl hk4 rfl) rfl rfl rfl ?_
    refine L_yld (Y_eql rfl rfl) rfl rfl rfl ?_
    refine L_yld (Y_move rfl) rfl rfl rfl ?_
    refine L_splitd (d := 10) rfl (fun c5 => ?_) (fun c5 => ?_)
    · refine L_yld (Y_fieldAddr (off := 1) (by kernel_rfl) rfl rfl) rfl rfl rfl ?_
      refine L_yld (Y_ldblk Tryd.underlying9 rfl rfl (hk2.ext hn3.ext) rfl) rfl rfl rfl ?_
      refine L_yld (Y_fieldAddr (off := 1) (by kernel_rfl) rfl rfl) rfl rfl rfl ?_
      refine L_yld (Y_ldblk Tryd.underlying9 rfl rfl hk4 rfl) rfl rfl rfl ?_
      refine L_yld (Y_seql rfl rfl) rfl rfl rfl ?_
      refine L_yld (Y_pick_t rfl rfl) rfl rfl rfl ?_
      refine L_yld (Y_move rfl) rfl rfl rfl ?_
      refine L_splitd (d := 17) rfl (fun c6 => ?_) (fun c6 => ?_)
      · refine L_yld (Y_fieldAddr (off := 2) (by kernel_rfl) rfl rfl) rfl rfl rfl ?_
        refine L_yld (Y_ldblk Tryd.underlying3 rfl rfl (hk2.ext hn3.ext) rfl) rfl rfl rfl ?_
        refine L_yld (Y_fieldAddr (off := 2) (by kernel_rfl) rfl rfl) rfl rfl rfl ?_
        refine L_yld (Y_ldblk Tryd.underlying3 rfl rfl hk4 rfl) rfl rfl rfl ?_
        refine L_yld (Y_eql rfl rfl) rfl rfl rfl ?_
        refine L_yld (Y_pick_t rfl rfl) rfl rfl rfl ?_
        refine L_yld (Y_move rfl) rfl rfl rfl ?_
        refine L_splitd (d := 24) rfl (fun c7 => ?_) (fun c7 => ?_)
        · refine L_yld (Y_fieldAddr (off := 3) (by kernel_rfl) rfl rfl) rfl rfl rfl ?_
          refine L_yld (Y_ldblk Tryd.underlying9 rfl rfl (hk2.ext hn3.ext) rfl) rfl rfl rfl ?_
          refine L_yld (Y_fieldAddr (off := 3) (by kernel_rfl) rfl rfl) rfl rfl rfl ?_
          refine L_yld (Y_ldblk Tryd.underlying9 rfl rfl hk4 rfl) rfl rfl rfl ?_
          refine L_yld (Y_seql rfl rfl) rfl rfl rfl ?_
          refine L_yld (Y_pick_t rfl rfl) rfl rfl rfl ?_
          refine L_yld (Y_move rfl) rfl rfl rfl ?_
          refine L_splitd (d := 31) rfl (fun c8 => ?_) (fun c8 => ?_)
          · refine L_yld (Y_fieldAddr (off := 5) (by kernel_rfl) rfl rfl) rfl rfl rfl ?_
            refine L_yld (Y_ldblk Tryd.underlying3 rfl rfl (hk2.ext hn3.ext) rfl) rfl rfl rfl ?_
            refine L_yld (Y_fieldAddr (off := 5) (by kernel_rfl) rfl rfl) rfl rfl rfl ?_
            refine L_yld (Y_ldblk Tryd.underlying3 rfl rfl hk4 rfl) rfl rfl rfl ?_
            refine L_yld (Y_eql rfl rfl) rfl rfl rfl ?_
            refine L_yld (Y_pick_t rfl rfl) rfl rfl rfl ?_
            refine L_yld (Y_move rfl) rfl rfl rfl ?_
            refine L_splitd (d := 38) rfl (fun c9 => ?_) (fun c9 => ?_)
            · refine L_yld (Y_fieldAddr (off := 4) (by kernel_rfl) rfl rfl) rfl rfl rfl ?_
              refine L_yld (Y_ldblk Tryd.underlying28 rfl rfl (hk2.ext hn3.ext) rfl) rfl rfl rfl ?_
              refine L_yld (Y_fieldAddr (off := 4) (by kernel_rfl) rfl rfl) rfl rfl rfl ?_
              refine L_yld (Y_ldblk Tryd.underlying28 rfl rfl hk4 rfl) rfl rfl rfl ?_
              refine L_call (E_call (by kernel_rfl) rfl) (slices_EqualB _ (x.dv) x.data (hx0.ext (hn1.ext.trans hn3.ext)) (y.dv) y.data (hy0.ext (hn1.ext.trans hn3.ext)) (by first | omega | rfl | (simp <;> omega))) rfl rfl rfl ?_
              rintro _ h2 ⟨rfl, rfl⟩
              refine L_yld (Y_pick_t rfl rfl) rfl rfl rfl ?_
              refine L_yld (Y_assign rfl) rfl rfl rfl ?_
              refine L_nil ?_
              exact X_cut () (.cons (i := 4) (lkb rfl (by first | (simp only [eq_true c5, eq_true c6, eq_true c7, eq_true c8, eq_true c9, true_and, and_true, false_and, and_false, true_or, or_true, false_or, or_false, not_true_eq_false, not_false_eq_true, decide_true, decide_false, Bool.true_eq_false, Bool.false_eq_true, eq_self, Bool.decide_eq_true]; done) | (exfalso; contradiction) | (exfalso; omega))) (.nil _)) rfl
            · refine L_skip rfl rfl rfl ?_
              refine L_skip rfl rfl rfl ?_
              refine L_skip rfl rfl rfl ?_
              refine L_skip rfl rfl rfl ?_
              refine L_skip rfl rfl rfl ?_
              refine L_yld (Y_pick_f rfl rfl) rfl rfl rfl ?_
              refine L_yld (Y_assign rfl) rfl rfl rfl ?_
              refine L_nil ?_
              exact X_cut () (.cons (i := 4) (lkb rfl (by first | (simp only [eq_true c5, eq_true c6, eq_true c7, eq_true c8, eq_false c9, true_and, and_true, false_and, and_false, true_or, or_true, false_or, or_false, not_true_eq_false, not_false_eq_true, decide_true, decide_false, Bool.true_eq_false, Bool.false_eq_true, eq_self, Bool.decide_eq_true]; done) | (exfalso; contradiction) | (exfalso; omega))) (.nil _)) rfl
          · refine L_skip rfl rfl rfl ?_
            refine L_skip rfl rfl rfl ?_
            refine L_skip rfl rfl rfl ?_
            refine L_skip rfl rfl rfl ?_
            refine L_skip rfl rfl rfl ?_
            refine L_yld (Y_pick_f rfl rfl) rfl rfl rfl ?_
            refine L_yld (Y_move rfl) rfl rfl rfl ?_
            refine L_skip rfl rfl rfl ?_
            refine L_skip rfl rfl rfl ?_
            refine L_skip rfl rfl rfl ?_
            refine L_skip rfl rfl rfl ?_
            refine L_skip rfl rfl rfl ?_
            refine L_yld (Y_pick_f rfl rfl) rfl rfl rfl ?_
            refine L_yld (Y_assign rfl) rfl rfl rfl ?_
            refine L_nil ?_
            exact X_cut () (.cons (i := 4) (lkb rfl (by first | (simp only [eq_true c5, eq_true c6, eq_true c7, eq_false c8, true_and, and_true, false_and, and_false, true_or, or_true, false_or, or_false, not_true_eq_false, not_false_eq_true, decide_true, decide_false, Bool.true_eq_false, Bool.false_eq_true, eq_self, Bool.decide_eq_true]; done) | (exfalso; contradiction) | (exfalso; omega))) (.nil _)) rfl
        · refine L_skip rfl rfl rfl ?_
          refine L_skip rfl rfl rfl ?_
          refine L_skip rfl rfl rfl ?_
          refine L_skip rfl rfl rfl ?_
          refine L_skip rfl rfl rfl ?_
          refine L_yld (Y_pick_f rfl rfl) rfl rfl rfl ?_
          refine L_yld (Y_move rfl) rfl rfl rfl ?_
          refine L_skip rfl rfl rfl ?_
          refine L_skip rfl rfl rfl ?_
          refine L_skip rfl rfl rfl ?_
          refine L_skip rfl rfl rfl ?_
          refine L_skip rfl rfl rfl ?_
          refine L_yld (Y_pick_f rfl rfl) rfl rfl rfl ?_
          refine L_yld (Y_move rfl) rfl rfl rfl ?_
          refine L_skip rfl rfl rfl ?_
          refine L_skip rfl rfl rfl ?_
          refine L_skip rfl rfl rfl ?_
          refine L_skip rfl rfl rfl ?_
          refine L_skip rfl rfl rfl ?_
          refine L_yld (Y_pick_f rfl rfl) rfl rfl rfl ?_
          refine L_yld (Y_assign rfl) rfl rfl rfl ?_
          refine L_nil ?_
          exact X_cut () (.cons (i := 4) (lkb rfl (by first | (simp only [eq_true c5, eq_true c6, eq_false c7, true_and, and_true, false_and, and_false, true_or, or_true, false_or, or_false, not_true_eq_false, not_false_eq_true, decide_true, decide_false, Bool.true_eq_false, Bool.false_eq_true, eq_self, Bool.decide_eq_true]; done) | (simp only [eq_true c5, eq_true c6, eq_false c7, true_and, and_true, false_and, and_false, true_or, or_true, false_or, or_false, not_true_eq_false, not_false_eq_true, decide_true, decide_false, Bool.true_eq_false, Bool.false_eq_true, eq_self, Bool.decide_eq_true]; rfl))) (.nil _)) rfl
      · refine L_skip rfl rfl rfl ?_
        refine L_skip rfl rfl rfl ?_
        refine L_skip rfl rfl rfl ?_
        refine L_skip rfl rfl rfl ?_
        refine L_skip rfl rfl rfl ?_
        refine L_yld (Y_pick_f rfl rfl) rfl rfl rfl ?_
        refine L_yld (Y_move rfl) rfl rfl rfl ?_
        refine L_skip rfl rfl rfl ?_
        refine L_skip rfl rfl rfl ?_
        refine L_skip rfl rfl rfl ?_
        refine L_skip rfl rfl rfl ?_
        refine L_skip rfl rfl rfl ?_
        refine L_yld (Y_pick_f rfl rfl) rfl rfl rfl ?_
        refine L_yld (Y_move rfl) rfl rfl rfl ?_
        refine L_skip rfl rfl rfl ?_
        refine L_skip rfl rfl rfl ?_
        refine L_skip rfl rfl rfl ?_
        refine L_skip rfl rfl rfl ?_
        refine L_skip rfl rfl rfl ?_
        refine L_yld (Y_pick_f rfl rfl) rfl rfl rfl ?_
        refine L_yld (Y_move rfl) rfl rfl rfl ?_
        refine L_skip rfl rfl rfl ?_
        refine L_skip rfl rfl rfl ?_
        refine L_skip rfl rfl rfl ?_
        refine L_skip rfl rfl rfl ?_
        refine L_skip rfl rfl rfl ?_
        refine L_yld (Y_pick_f rfl rfl) rfl rfl rfl ?_
        refine L_yld (Y_assign rfl) rfl rfl rfl ?_
        refine L_nil ?_
        exact X_cut () (.cons (i := 4) (lkb rfl (by first | (simp only [eq_true c5, eq_false c6, true_and, and_true, false_and, and_false, true_or, or_true, false_or, or_false, not_true_eq_false, not_false_eq_true, decide_true, decide_false, Bool.true_eq_false, Bool.false_eq_true, eq_self, Bool.decide_eq_true]; done) | (simp only [eq_true c5, eq_false c6, true_and, and_true, false_and, and_false, true_or, or_true, false_or, or_false, not_true_eq_false, not_false_eq_true, decide_true, decide_false, Bool.true_eq_false, Bool.false_eq_true, eq_self, Bool.decide_eq_true]; rfl))) (.nil _)) rfl
    · refine L_skip rfl rfl rfl ?_
      refine L_skip rfl rfl rfl ?_
      refine L_skip rfl rfl rfl ?_
      refine L_skip rfl rfl rfl ?_
      refine L_skip rfl rfl rfl ?_
      refine L_yld (Y_pick_f rfl rfl) rfl rfl rfl ?_
      refine L_yld (Y_move rfl) rfl rfl rfl ?_
      refine L_skip rfl rfl rfl ?_
      refine L_skip rfl rfl rfl ?_
      refine L_skip rfl rfl rfl ?_
      refine L_skip rfl rfl rfl ?_
      refine L_skip rfl rfl rfl ?_
      refine L_yld (Y_pick_f rfl rfl) rfl rfl rfl ?_
      refine L_yld (Y_move rfl) rfl rfl rfl ?_
      refine L_skip rfl rfl rfl ?_
      refine L_skip rfl rfl rfl ?_
      refine L_skip rfl rfl rfl ?_
      refine L_skip rfl rfl rfl ?_
      refine L_skip rfl rfl rfl ?_
      refine L_yld (Y_pick_f rfl rfl) rfl rfl rfl ?_
      refine L_yld (Y_move rfl) rfl rfl rfl ?_
      refine L_skip rfl rfl rfl ?_
      refine L_skip rfl rfl rfl ?_
      refine L_skip rfl rfl rfl ?_
      refine L_skip rfl rfl rfl ?_
      refine L_skip rfl rfl rfl ?_
      refine L_yld (Y_pick_f rfl rfl) rfl rfl rfl ?_
      refine L_yld (Y_move rfl) rfl rfl rfl ?_
      refine L_skip rfl rfl rfl ?_
      refine L_skip rfl rfl rfl ?_
      refine L_skip rfl rfl rfl ?_
      refine L_skip rfl rfl rfl ?_
      refine L_skip rfl rfl rfl ?_
      refine L_yld (Y_pick_f rfl rfl) rfl rfl rfl ?_
      refine L_yld (Y_assign rfl) rfl rfl rfl ?_
      refine L_nil ?_
      exact X_cut () (.cons (i := 4) (lkb rfl (by first | (simp only [eq_false c5, true_and, and_true, false_and, and_false, true_or, or_true, false_or, or_false, not_true_eq_false, not_false_eq_true, decide_true, decide_false, Bool.true_eq_false, Bool.false_eq_true, eq_self, Bool.decide_eq_true]; done) | (simp only [eq_false c5, true_and, and_true, false_and, and_false, true_or, or_true, false_or, or_false, not_true_eq_false, not_false_eq_true, decide_true, decide_false, Bool.true_eq_false, Bool.false_eq_true, eq_self, Bool.decide_eq_true]; rfl))) (.nil _)) rfl
  rintro _ h2 rfl
  show W _ _ _ _ _ [(4, .bool (decide ((((((x.kind = y.kind) ∧ (x.path = y.path)) ∧ (x.mode = y.mode)) ∧ (x.target = y.target)) ∧ (x.cls = y.cls)) ∧ (x.data = y.data))))] _
  refine W_ret ?_
  refine X_ret1 rfl rfl ?_
  exact ⟨rfl, (hn1.ext.trans hn3.ext)⟩
set_option maxRecDepth 100000 in
theorem slices_EqualN (h : Heap) (v : Value) (a : List Nod) (ha : Rows nodS h v a) (u : Value) (b : List Nod) (hb : Rows nodS h u b) (hl0 : a.length ≤ 140737488355328) (hs : ∀ x ∈ a, x.path.length ≤ 100000000000 ∧ x.target.length ≤ 100000000000 ∧ x.data.length ≤ 100000000000) : Cal Tryd.prog 37 #[v, u, .func (.func 38) #[] #[]] h (fun v h' => v = .bool (lsame a b) ∧ Ext h h') := by
  refine Cal_enter (args := [v, u, .func (.func 38) #[] #[]]) Tryd.func37 rfl rfl rfl (fun σ => ?_)
  refine W_seq ?_
  refine W_region ?_
  refine L_yld (Y_assign rfl) rfl rfl rfl ?_
  refine L_nil ?_
  refine X_then ?_
  refine W_seq ?_
  refine W_seq ?_
  refine W_region ?_
  refine L_yld (Y_move rfl) rfl rfl rfl ?_
  refine L_yld (Y_lenr Tryd.underlying22 rfl ha) rfl rfl rfl ?_
  refine L_yld (Y_move rfl) rfl rfl rfl ?_
  refine L_yld (Y_lenr Tryd.underlying22 rfl hb) rfl rfl rfl ?_
  refine L_yld (Y_neq rfl rfl) rfl rfl rfl ?_
  refine L_nil ?_
  refine X_then ?_
  refine W_sub _ (.cons (i := 14) rfl (.cons (i := 6) rfl (.cons (i := 0) rfl (.cons (i := 1) rfl (.cons (i := 2) rfl (.nil _)))))) ?_
  refine W_splitd rfl (fun c => ?_) (fun c => ?_)
  · refine W_seq ?_
    refine W_region ?_
    refine L_yld (Y_assign rfl) rfl rfl rfl ?_
    refine L_nil ?_
    refine X_then ?_
    refine W_sub _ (.cons (i := 6) rfl (.cons (i := 0) rfl (.cons (i := 1) rfl (.cons (i := 2) rfl (.nil _))))) ?_
    refine W_ret ?_
    refine X_then_ret ?_
    refine X_ret1 rfl rfl ?_
    exact ⟨by rw [lsame_false (fun e => c (by rw [e.1]))], (Ext.refl _)⟩
  · refine W_skip ?_
    refine X_then ?_
    refine W_sub _ (.cons (i := 6) rfl (.cons (i := 0) rfl (.cons (i := 1) rfl (.cons (i := 2) rfl (.nil _))))) ?_
    have hlen : a.length = b.length := by omega
    refine W_seq ?_
    refine W_seq ?_
    refine W_region ?_
    refine L_yld (Y_move rfl) rfl rfl rfl ?_
    refine L_yld (Y_lenr Tryd.underlying22 rfl ha) rfl rfl rfl ?_
    refine L_yld (Y_move rfl) rfl rfl rfl ?_
    refine L_nil ?_
    refine X_then ?_
    refine W_sub _ (.cons (i := 17) rfl (.cons (i := 16) rfl (.cons (i := 15) rfl (.cons (i := 6) rfl (.cons (i := 1) rfl (.cons (i := 2) rfl (.nil _))))))) ?_
    refine W_block ?_
    refine W_loop (S := Nat) (fun i => [(16, .int .i64 ((a.length : Int))), (15, v), (1, u), (2, .func (.func 38) #[] #[]), (17, .int .i64 ((i : Int)))]) (fun i h' => (i ≤ a.length ∧ ∀ k, k < i → nsame (at_nod a k) (at_nod b k)) ∧ Ext h h') (fun i => a.length - i) 0 (.cons (i := 16) rfl (.cons (i := 15) rfl (.cons (i := 1) rfl (.cons (i := 2) rfl (.cons (i := 17) rfl (.nil _)))))) ?_ ?_
    · exact ⟨⟨by omega, fun k hk => absurd hk (Nat.not_lt_zero _)⟩, Ext.refl _⟩
    rintro i h1 ⟨⟨hi, h0⟩, hx⟩
    show W _ _ _ _ _ [(16, .int .i64 ((a.length : Int))), (15, v), (1, u), (2, .func (.func 38) #[] #[]), (17, .int .i64 ((i : Int)))] _
    refine W_seq ?_
    refine W_region ?_
    refine L_yld (Y_lss rfl rfl) rfl rfl rfl ?_
    refine L_nil ?_
    refine X_then ?_
    refine W_seq ?_
    refine W_splitd rfl (fun hlt => ?_) (fun hlt => ?_)
    · refine W_skip ?_
      refine X_then ?_
      refine W_sub _ (.cons (i := 16) rfl (.cons (i := 15) rfl (.cons (i := 1) rfl (.cons (i := 2) rfl (.cons (i := 17) rfl (.nil _)))))) ?_
      refine W_seq ?_
      refine W_block ?_
      refine W_seq ?_
      refine W_region ?_
      refine L_yld (Y_move rfl) rfl rfl rfl ?_
      refine L_yld (Y_idxr Tryd.underlying22 (show _ = some 6 by kernel_rfl) rfl rfl rfl (ha.ext hx) (by omega) (by omega)) rfl rfl rfl ?_
      refine L_yld (Y_ldrA0 (k := ((i : Int)).toNat) (us := [.int .i64 ((at_nod a ((i : Int)).toNat).kind), str ((at_nod a ((i : Int)).toNat).path), .int .i64 ((at_nod a ((i : Int)).toNat).mode), str ((at_nod a ((i : Int)).toNat).target), ((at_nod a ((i : Int)).toNat).dv), .int .i64 ((at_nod a ((i : Int)).toNat).cls)]) Tryd.underlying30 rfl (show _ = some 6 by kernel_rfl) rfl rfl (ha.ext hx) (by omega) rfl) rfl rfl rfl ?_
      refine L_mks (M_alloc (u := .agg #[.int .i64 0, str [], .int .i64 0, str [], .slice none 0 0, .int .i64 0]) (by kernel_rfl)) rfl rfl rfl ?_
      rintro _ h2 ⟨rfl, hn1⟩
      have hk2 : Blk h2 h1.size [.int .i64 0, str [], .int .i64 0, str [], .slice none 0 0, .int .i64 0] := hn1.blk
      refine L_yld (Y_assign rfl) rfl rfl rfl ?_
      refine L_dos (D_store (us := [.int .i64 ((at_nod a ((i : Int)).toNat).kind), str ((at_nod a ((i : Int)).toNat).path), .int .i64 ((at_nod a ((i : Int)).toNat).mode), str ((at_nod a ((i : Int)).toNat).target), ((at_nod a ((i : Int)).toNat).dv), .int .i64 ((at_nod a ((i : Int)).toNat).cls)]) (show _ = some 6 by kernel_rfl) rfl rfl rfl (by intro u_ hu_; simp only [List.mem_cons, List.not_mem_nil, or_false] at hu_; rcases hu_ with rfl | rfl | rfl | rfl | rfl | rfl <;> first | rfl | exact ((show Bytes _ ((at_nod a ((i : Int)).toNat).dv) ((at_nod a ((i : Int)).toNat).data) from (ha.ext (hx.trans hn1.ext)).okat (k := ((i : Int)).toNat) (by omega))).cell1) hk2 (by simp)) rfl rfl ?_
      rintro h3 hp3
      have hk4 : Blk h3 h1.size [.int .i64 ((at_nod a ((i : Int)).toNat).kind), str ((at_nod a ((i : Int)).toNat).path), .int .i64 ((at_nod a ((i : Int)).toNat).mode), str ((at_nod a ((i : Int)).toNat).target), ((at_nod a ((i : Int)).toNat).dv), .int .i64 ((at_nod a ((i : Int)).toNat).cls)] := hp3.blk
      refine L_nil ?_
      refine X_then ?_
      refine W_sub _ (.cons (i := 7) rfl (.cons (i := 8) rfl (.cons (i := 16) rfl (.cons (i := 15) rfl (.cons (i := 1) rfl (.cons (i := 2) rfl (.cons (i := 17) rfl (.nil _)))))))) ?_
      refine W_seq ?_
      refine W_region ?_
      refine L_yld (Y_move rfl) rfl rfl rfl ?_
      refine L_yld (Y_move rfl) rfl rfl rfl ?_
      refine L_yld (Y_idxr Tryd.underlying22 (show _ = some 6 by kernel_rfl) rfl rfl rfl (hb.ext ((hx.trans hn1.ext).then' hp3.only (by simp) hx.size)) (by omega) (by omega)) rfl rfl rfl ?_
      refine L_yld (Y_ldrA0 (k := ((i : Int)).toNat) (us := [.int .i64 ((at_nod b ((i : Int)).toNat).kind), str ((at_nod b ((i : Int)).toNat).path), .int .i64 ((at_nod b ((i : Int)).toNat).mode), str ((at_nod b ((i : Int)).toNat).target), ((at_nod b ((i : Int)).toNat).dv), .int .i64 ((at_nod b ((i : Int)).toNat).cls)]) Tryd.underlying30 rfl (show _ = some 6 by kernel_rfl) rfl rfl (hb.ext ((hx.trans hn1.ext).then' hp3.only (by simp) hx.size)) (by omega) rfl) rfl rfl rfl ?_
      refine L_mks (M_alloc (u := .agg #[.int .i64 0, str [], .int .i64 0, str [], .slice none 0 0, .int .i64 0]) (by kernel_rfl)) rfl rfl rfl ?_
      rintro _ h4 ⟨rfl, hn5⟩
      have hk6 : Blk h4 h3.size [.int .i64 0, str [], .int .i64 0, str [], .slice none 0 0, .int .i64 0] := hn5.blk
      refine L_dos (D_store (us := [.int .i64 ((at_nod b ((i : Int)).toNat).kind), str ((at_nod b ((i : Int)).toNat).path), .int .i64 ((at_nod b ((i : Int)).toNat).mode), str ((at_nod b ((i : Int)).toNat).target), ((at_nod b ((i : Int)).toNat).dv), .int .i64 ((at_nod b ((i : Int)).toNat).cls)]) (show _ = some 6 by kernel_rfl) rfl rfl rfl (by intro u_ hu_; simp only [List.mem_cons, List.not_mem_nil, or_false] at hu_; rcases hu_ with rfl | rfl | rfl | rfl | rfl | rfl <;> first | rfl | exact ((show Bytes _ ((at_nod b ((i : Int)).toNat).dv) ((at_nod b ((i : Int)).toNat).data) from (hb.ext (((hx.trans hn1.ext).then' hp3.only (by simp) hx.size).trans hn5.ext)).okat (k := ((i : Int)).toNat) (by omega))).cell1) hk6 (by simp)) rfl rfl ?_
      rintro h5 hp7
      have hk8 : Blk h5 h3.size [.int .i64 ((at_nod b ((i : Int)).toNat).kind), str ((at_nod b ((i : Int)).toNat).path), .int .i64 ((at_nod b ((i : Int)).toNat).mode), str ((at_nod b ((i : Int)).toNat).target), ((at_nod b ((i : Int)).toNat).dv), .int .i64 ((at_nod b ((i : Int)).toNat).cls)] := hp7.blk
      refine L_nil ?_
      refine X_then ?_
      refine W_sub _ (.cons (i := 9) rfl (.cons (i := 8) rfl (.cons (i := 16) rfl (.cons (i := 15) rfl (.cons (i := 1) rfl (.cons (i := 2) rfl (.cons (i := 17) rfl (.nil _)))))))) ?_
      have hmm := hs _ (can_mem (l := a) (k := (i : Int).toNat) (by omega))
      refine W_seq ?_
      refine W_region ?_
      refine L_yld (Y_move rfl) rfl rfl rfl ?_
      refine L_yld (Y_ldbox (us := [.int .i64 ((at_nod a ((i : Int)).toNat).kind), str ((at_nod a ((i : Int)).toNat).path), .int .i64 ((at_nod a ((i : Int)).toNat).mode), str ((at_nod a ((i : Int)).toNat).target), ((at_nod a ((i : Int)).toNat).dv), .int .i64 ((at_nod a ((i : Int)).toNat).cls)]) Tryd.underlying30 rfl (show _ = some 6 by kernel_rfl) rfl (hk4.ext (hn5.ext.then' hp7.only (by simp) (Nat.le_refl _))) rfl) rfl rfl rfl ?_
      refine L_yld (Y_ldbox (us := [.int .i64 ((at_nod b ((i : Int)).toNat).kind), str ((at_nod b ((i : Int)).toNat).path), .int .i64 ((at_nod b ((i : Int)).toNat).mode), str ((at_nod b ((i : Int)).toNat).target), ((at_nod b ((i : Int)).toNat).dv), .int .i64 ((at_nod b ((i : Int)).toNat).cls)]) Tryd.underlying30 rfl (show _ = some 6 by kernel_rfl) rfl hk8 rfl) rfl rfl rfl ?_
      refine L_call (E_callv (fs := []) (cs := []) (by kernel_rfl) rfl rfl) (tree_same _ (at_nod a ((i : Int)).toNat) (show Bytes _ ((at_nod a ((i : Int)).toNat).dv) ((at_nod a ((i : Int)).toNat).data) from (ha.ext ((((hx.trans hn1.ext).then' hp3.only (by simp) hx.size).trans hn5.ext).then' hp7.only (by simp) (Nat.le_trans (Nat.le_trans hx.size hn1.ext.size) hp3.only.size))).okat (k := ((i : Int)).toNat) (by omega)) (at_nod b ((i : Int)).toNat) (show Bytes _ ((at_nod b ((i : Int)).toNat).dv) ((at_nod b ((i : Int)).toNat).data) from (hb.ext ((((hx.trans hn1.ext).then' hp3.only (by simp) hx.size).trans hn5.ext).then' hp7.only (by simp) (Nat.le_trans (Nat.le_trans hx.size hn1.ext.size) hp3.only.size))).okat (k := ((i : Int)).toNat) (by omega)) (by first | omega | rfl | (simp <;> omega))) rfl rfl rfl ?_
      rintro _ h6 ⟨rfl, hx9⟩
      refine L_yld (Y_notd rfl) rfl rfl rfl ?_
      refine L_nil ?_
      refine X_then ?_
      refine W_sub _ (.cons (i := 30) rfl (.cons (i := 16) rfl (.cons (i := 15) rfl (.cons (i := 1) rfl (.cons (i := 2) rfl (.cons (i := 17) rfl (.nil _))))))) ?_
      refine W_splitd rfl (fun y => ?_) (fun y => ?_)
      · refine W_seq ?_
        refine W_region ?_
        refine L_yld (Y_assign rfl) rfl rfl rfl ?_
        refine L_nil ?_
        refine X_then ?_
        refine W_sub _ (.cons (i := 6) rfl (.cons (i := 16) rfl (.cons (i := 15) rfl (.cons (i := 1) rfl (.cons (i := 2) rfl (.cons (i := 17) rfl (.nil _))))))) ?_
        refine W_ret ?_
        refine X_block_ret ?_
        refine X_then_ret ?_
        refine X_then_ret ?_
        refine X_block_ret ?_
        refine X_then_ret ?_
        refine X_ret1 rfl rfl ?_
        exact ⟨by rw [lsame_false (fun e => y (e.2 i (by omega)))], (((((hx.trans hn1.ext).then' hp3.only (by simp) hx.size).trans hn5.ext).then' hp7.only (by simp) (Nat.le_trans (Nat.le_trans hx.size hn1.ext.size) hp3.only.size)).trans hx9)⟩
      · refine W_skip ?_
        refine X_block ?_
        refine X_then ?_
        refine W_sub _ (.cons (i := 16) rfl (.cons (i := 15) rfl (.cons (i := 1) rfl (.cons (i := 2) rfl (.cons (i := 17) rfl (.nil _)))))) ?_
        refine W_region ?_
        refine L_yld (Y_add rfl rfl (by omega) (by omega)) rfl rfl rfl ?_
        refine L_yld (Y_move rfl) rfl rfl rfl ?_
        refine L_nil ?_
        refine X_loop (i + 1) (.cons (i := 16) rfl (.cons (i := 15) rfl (.cons (i := 1) rfl (.cons (i := 2) rfl (.cons (i := 17) rfl (.nil _)))))) ?_ ?_
        · exact ⟨⟨by omega, step_ne h0 (Classical.not_not.1 y)⟩, (((((hx.trans hn1.ext).then' hp3.only (by simp) hx.size).trans hn5.ext).then' hp7.only (by simp) (Nat.le_trans (Nat.le_trans hx.size hn1.ext.size) hp3.only.size)).trans hx9)⟩
        · (try dsimp only)
          omega
    · refine W_exit ?_
      refine X_then_exit ?_
      refine X_then_exit ?_
      refine X_block_hit ?_
      refine X_then ?_
      refine W_sub _ (.nil _) ?_
      refine W_seq ?_
      refine W_region ?_
      refine L_yld (Y_assign rfl) rfl rfl rfl ?_
      refine L_nil ?_
      refine X_then ?_
      refine W_ret ?_
      refine X_ret1 rfl rfl ?_
      exact ⟨by rw [lsame_iff.2 ⟨hlen, fun k hk => h0 k (by omega)⟩], hx⟩
set_option maxRecDepth 100000 in
theorem tree_Equal (h : Heap) (v : Value) (A : List Nod) (ha : Rows nodS h v A) (u : Value) (B : List Nod) (hb : Rows nodS h u B) (hm1 : A.length ≤ 1000000000) (hm2 : B.length ≤ 1000000000) (hs1 : ∀ x ∈ A, x.path.length ≤ 100000000000 ∧ x.target.length ≤ 100000000000 ∧ x.data.length ≤ 100000000000) (hs2 : ∀ x ∈ B, x.path.length ≤ 100000000000 ∧ x.target.length ≤ 100000000000 ∧ x.data.length ≤ 100000000000) : Cal Tryd.prog 20 #[v, u] h (fun v h' => v = .bool (lsame (cno A) (cno B)) ∧ Ext h h') := by
  refine Cal_enter (args := [v, u]) Tryd.func20 rfl rfl rfl (fun σ => ?_)
  refine W_seq ?_
  refine W_region ?_
  refine L_yld (Y_assign rfl) rfl rfl rfl ?_
  refine L_nil ?_
  refine X_then ?_
  refine W_seq ?_
  refine W_region ?_
  refine L_yld (Y_move rfl) rfl rfl rfl ?_
  refine L_call (E_call (by kernel_rfl) rfl) (tree_Canon _ v A ha hm1 hs1) rfl rfl rfl ?_
  rintro s01 h1 ⟨_, L02, rfl, hr03, hq04, hx5⟩
  refine L_yld (Y_move rfl) rfl rfl rfl ?_
  refine L_call (E_call (by kernel_rfl) rfl) (tree_Canon _ u B (hb.ext hx5) hm2 hs2) rfl rfl rfl ?_
  rintro s06 h2 ⟨_, L07, rfl, hr08, hq09, hx10⟩
  refine L_call (E_call (by kernel_rfl) rfl) (slices_EqualN _ s01 L02 (hr03.ext hx10) s06 L07 hr08 (by have := hq04.1; omega) (can_all (P := okl) hq04 hs1)) rfl rfl rfl ?_
  rintro _ h3 ⟨rfl, hx11⟩
  refine L_yld (Y_assign rfl) rfl rfl rfl ?_
  refine L_nil ?_
  refine X_then ?_
  refine W_sub _ (.cons (i := 4) rfl (.nil _)) ?_
  refine W_ret ?_
  refine X_ret1 rfl rfl ?_
  exact ⟨congrArg Value.bool (lsame_c (by assumption) (by assumption)), ((hx5.trans hx10).trans hx11)⟩
set_option maxRecDepth 100000 in
theorem ref13_Equal (h : Heap) (v : Value) (A : List Nod) (ha : Rows nodS h v A) (u : Value) (B : List Nod) (hb : Rows nodS h u B) (hm1 : A.length ≤ 1000000000) (hm2 : B.length ≤ 1000000000) (hs1 : ∀ x ∈ A, x.path.length ≤ 100000000000 ∧ x.target.length ≤ 100000000000 ∧ x.data.length ≤ 100000000000) (hs2 : ∀ x ∈ B, x.path.length ≤ 100000000000 ∧ x.target.length ≤ 100000000000 ∧ x.data.length ≤ 100000000000) : Cal Tryd.prog 21 #[v, u] h (fun v h' => v = .bool (lsame (cno A) (cno B)) ∧ Ext h h') := by
  refine Cal_enter (args := [v, u]) Tryd.func21 rfl rfl rfl (fun σ => ?_)
  refine W_seq ?_
  refine W_region ?_
  refine L_yld (Y_assign rfl) rfl rfl rfl ?_
  refine L_nil ?_
  refine X_then ?_
  refine W_seq ?_
  refine W_region ?_
  refine L_yld (Y_move rfl) rfl rfl rfl ?_
  refine L_call (E_call (by kernel_rfl) rfl) (ref13_Canon _ v A ha hm1 hs1) rfl rfl rfl ?_
  rintro s01 h1 ⟨_, L02, rfl, hr03, hq04, hx5⟩
  refine L_yld (Y_move rfl) rfl rfl rfl ?_
  refine L_call (E_call (by kernel_rfl) rfl) (ref13_Canon _ u B (hb.ext hx5) hm2 hs2) rfl rfl rfl ?_
  rintro s06 h2 ⟨_, L07, rfl, hr08, hq09, hx10⟩
  refine L_call (E_call (by kernel_rfl) rfl) (ref13_Same _ s01 L02 (hr03.ext hx10) s06 L07 hr08 (by have := hq04.1; omega)) rfl rfl rfl ?_
  rintro _ h3 ⟨rfl, hx11⟩
  refine L_yld (Y_assign rfl) rfl rfl rfl ?_
  refine L_nil ?_
  refine X_then ?_
  refine W_sub _ (.cons (i := 4) rfl (.nil _)) ?_
  refine W_ret ?_
  refine X_ret1 rfl rfl ?_
  exact ⟨congrArg Value.bool (lsame_c (by assumption) (by assumption)), ((hx5.trans hx10).trans hx11)⟩
end Go.Xp

/- Layer 13 (tree): Canon and Equal match the reference. -/
set_option linter.unusedSimpArgs false
set_option linter.unusedVariables false
set_option linter.unusedSectionVars false
namespace Go.Xp
open Go.Proofs

theorem can_okl {A : List Nod} (h : ¬ 0 < ntoo A) : A.length ≤ 40 ∧ A.length ≤ 1000000000 ∧ ∀ x ∈ A, x.path.length ≤ 100000000000 ∧ x.target.length ≤ 100000000000 ∧ x.data.length ≤ 100000000000 := by
  obtain ⟨h1, h2⟩ := ntoo_ok h
  refine ⟨h1, by omega, fun x hx => ?_⟩
  obtain ⟨k, hk, rfl⟩ := List.getElem_of_mem hx
  have := h2 k hk
  unfold nb at_nod at this
  rw [List.getD_eq_getElem?_getD, List.getElem?_eq_getElem hk] at this
  simp only [Option.getD_some] at this
  omega
set_option maxRecDepth 100000 in
theorem treeCanonMatchesReference (h : Heap) (hK : GlbK h) (hE : GlbE h) (v : Value) (A : List Nod) (ha : Rows nodS h v A) (u : Value) (B : List Nod) (hb : Rows nodS h u B) (hn1 : A.length ≤ 140737488355328) (hs1 : ∀ x ∈ A, x.path.length ≤ 140737488355328 ∧ x.target.length ≤ 140737488355328 ∧ x.data.length ≤ 140737488355328) (hn2 : B.length ≤ 140737488355328) (hs2 : ∀ x ∈ B, x.path.length ≤ 140737488355328 ∧ x.target.length ≤ 140737488355328 ∧ x.data.length ≤ 140737488355328) : Cal Tryd.prog 8 #[v, u] h (fun v h' => v = .bool true ∧ Ext h h') := by
  refine Cal_enter (args := [v, u]) Tryd.func8 rfl rfl rfl (fun σ => ?_)
  refine W_seq ?_
  refine W_region ?_
  refine L_yld (Y_assign rfl) rfl rfl rfl ?_
  refine L_nil ?_
  refine X_then ?_
  refine W_seq ?_
  refine W_cut (S := Unit) (fun _ => [(12, .bool (decide ((0 < (ntoo A)) ∨ (0 < (ntoo B))))), (4, .bool false), (0, v), (1, u)]) (fun _ h' => Ext h h') ?_ ?_
  · refine W_region ?_
    refine L_yld (Y_move rfl) rfl rfl rfl ?_
    refine L_call (E_call (by kernel_rfl) rfl) (law13_TooLarge _ v A ha hn1 hs1) rfl rfl rfl ?_
    rintro _ h1 ⟨rfl, hx1⟩
    refine L_yld (Y_gtr rfl rfl) rfl rfl rfl ?_
    refine L_yld (Y_move rfl) rfl rfl rfl ?_
    refine L_splitd (d := 8) rfl (fun g0 => ?_) (fun g0 => ?_)
    · refine L_skip rfl rfl rfl ?_
      refine L_skip rfl rfl rfl ?_
      refine L_skip rfl rfl rfl ?_
      refine L_yld (Y_pick_t rfl rfl) rfl rfl rfl ?_
      refine L_nil ?_
      exact X_cut () (.cons (i := 12) (lkb rfl (by first | (simp only [eq_true g0, true_and, and_true, false_and, and_false, true_or, or_true, false_or, or_false, not_true_eq_false, not_false_eq_true, decide_true, decide_false, Bool.true_eq_false, Bool.false_eq_true, eq_self, Bool.decide_eq_true]; done) | (simp only [eq_true g0, true_and, and_true, false_and, and_false, true_or, or_true, false_or, or_false, not_true_eq_false, not_false_eq_true, decide_true, decide_false, Bool.true_eq_false, Bool.false_eq_true, eq_self, Bool.decide_eq_true]; rfl))) (.cons (i := 4) rfl (.cons (i := 0) rfl (.cons (i := 1) rfl (.nil _))))) hx1
    · refine L_yld (Y_move rfl) rfl rfl rfl ?_
      refine L_call (E_call (by kernel_rfl) rfl) (law13_TooLarge _ u B (hb.ext hx1) hn2 hs2) rfl rfl rfl ?_
      rintro _ h2 ⟨rfl, hx2⟩
      refine L_yld (Y_gtr rfl rfl) rfl rfl rfl ?_
      refine L_yld (Y_pick_f rfl rfl) rfl rfl rfl ?_
      refine L_nil ?_
      exact X_cut () (.cons (i := 12) (lkb rfl (by first | (simp only [eq_false g0, true_and, and_true, false_and, and_false, true_or, or_true, false_or, or_false, not_true_eq_false, not_false_eq_true, decide_true, decide_false, Bool.true_eq_false, Bool.false_eq_true, eq_self, Bool.decide_eq_true]; done) | (simp only [eq_false g0, true_and, and_true, false_and, and_false, true_or, or_true, false_or, or_false, not_true_eq_false, not_false_eq_true, decide_true, decide_false, Bool.true_eq_false, Bool.false_eq_true, eq_self, Bool.decide_eq_true]; rfl))) (.cons (i := 4) rfl (.cons (i := 0) rfl (.cons (i := 1) rfl (.nil _))))) (hx1.trans hx2)
  rintro _ h3 hx3
  show W _ _ _ _ _ [(12, .bool (decide ((0 < (ntoo A)) ∨ (0 < (ntoo B))))), (4, .bool false), (0, v), (1, u)] _
  refine W_splitd rfl (fun g => ?_) (fun g => ?_)
  · refine W_seq ?_
    refine W_region ?_
    refine L_call (E_call (by kernel_rfl) rfl) (law13_alive _ (hK.ext hx3) (hE.ext hx3)) rfl rfl rfl ?_
    rintro _ h4 ⟨rfl, hx4⟩
    refine L_yld (Y_assign rfl) rfl rfl rfl ?_
    refine L_nil ?_
    refine X_then ?_
    refine W_sub _ (.cons (i := 4) rfl (.cons (i := 0) rfl (.cons (i := 1) rfl (.nil _)))) ?_
    refine W_ret ?_
    refine X_then_ret ?_
    refine X_ret1 rfl rfl ?_
    exact ⟨rfl, (hx3.trans hx4)⟩
  · refine W_skip ?_
    refine X_then ?_
    refine W_sub _ (.cons (i := 4) rfl (.cons (i := 0) rfl (.cons (i := 1) rfl (.nil _)))) ?_
    have okA := can_okl (fun q => g (.inl q))
    have okB := can_okl (fun q => g (.inr q))
    refine W_cut (S := Unit) (fun _ => [(4, .bool (decide ((((lsame (cno A) (cno B)) == (lsame (cno A) (cno B))) = true) ∧ ((lsame (cno A) (cno A)) = true))))]) (fun _ h' => Ext h3 h') ?_ ?_
    · refine W_region ?_
      refine L_call (E_call (by kernel_rfl) rfl) (law13_alive _ (hK.ext hx3) (hE.ext hx3)) rfl rfl rfl ?_
      rintro _ h5 ⟨rfl, hx5⟩
      refine L_yld (Y_move rfl) rfl rfl rfl ?_
      refine L_yld (Y_move rfl) rfl rfl rfl ?_
      refine L_call (E_call (by kernel_rfl) rfl) (tree_Canon _ v A (ha.ext (hx3.trans hx5)) okA.2.1 okA.2.2) rfl rfl rfl ?_
      rintro s06 h6 ⟨_, L07, rfl, hr08, hq09, hx10⟩
      refine L_yld (Y_move rfl) rfl rfl rfl ?_
      refine L_call (E_call (by kernel_rfl) rfl) (ref13_Canon _ v A (ha.ext ((hx3.trans hx5).trans hx10)) okA.2.1 okA.2.2) rfl rfl rfl ?_
      rintro s011 h7 ⟨_, L012, rfl, hr013, hq014, hx15⟩
      refine L_call (E_call (by kernel_rfl) rfl) (ref13_Same _ s06 L07 (hr08.ext hx15) s011 L012 hr013 (by have := hq09.1; omega)) rfl rfl rfl ?_
      rintro _ h8 ⟨rfl, hx16⟩
      refine L_yld (Y_pick_t rfl rfl) rfl rfl rfl ?_
      refine L_yld (Y_move rfl) rfl rfl rfl ?_
      refine L_known (d := 22) true rfl (by exact (lsame_c (by assumption) (by assumption)).trans (lsame_refl (cno A))) ?_
      refine L_yld (Y_move rfl) rfl rfl rfl ?_
      refine L_yld (Y_move rfl) rfl rfl rfl ?_
      refine L_call (E_call (by kernel_rfl) rfl) (tree_Equal _ v A (ha.ext ((((hx3.trans hx5).trans hx10).trans hx15).trans hx16)) u B (hb.ext ((((hx3.trans hx5).trans hx10).trans hx15).trans hx16)) okA.2.1 okB.2.1 okA.2.2 okB.2.2) rfl rfl rfl ?_
      rintro _ h9 ⟨rfl, hx17⟩
      refine L_yld (Y_move rfl) rfl rfl rfl ?_
      refine L_yld (Y_move rfl) rfl rfl rfl ?_
      refine L_call (E_call (by kernel_rfl) rfl) (ref13_Equal _ v A (ha.ext (((((hx3.trans hx5).trans hx10).trans hx15).trans hx16).trans hx17)) u B (hb.ext (((((hx3.trans hx5).trans hx10).trans hx15).trans hx16).trans hx17)) okA.2.1 okB.2.1 okA.2.2 okB.2.2) rfl rfl rfl ?_
      rintro _ h10 ⟨rfl, hx18⟩
      refine L_yld (Y_beql Tryd.underlying4 rfl rfl) rfl rfl rfl ?_
      refine L_yld (Y_pick_t rfl rfl) rfl rfl rfl ?_
      refine L_yld (Y_move rfl) rfl rfl rfl ?_
      refine L_split (d := 31) rfl (fun c19 => ?_) (fun c19 => ?_)
      · refine L_yld (Y_move rfl) rfl rfl rfl ?_
        refine L_yld (Y_move rfl) rfl rfl rfl ?_
        refine L_call (E_call (by kernel_rfl) rfl) (tree_Equal _ v A (ha.ext ((((((hx3.trans hx5).trans hx10).trans hx15).trans hx16).trans hx17).trans hx18)) v A (ha.ext ((((((hx3.trans hx5).trans hx10).trans hx15).trans hx16).trans hx17).trans hx18)) okA.2.1 okA.2.1 okA.2.2 okA.2.2) rfl rfl rfl ?_
        rintro _ h11 ⟨rfl, hx20⟩
        refine L_yld (Y_pick_t rfl rfl) rfl rfl rfl ?_
        refine L_yld (Y_assign rfl) rfl rfl rfl ?_
        refine L_nil ?_
        exact X_cut () (.cons (i := 4) (lkb rfl (by first | (simp only [c19, true_and, and_true, false_and, and_false, true_or, or_true, false_or, or_false, not_true_eq_false, not_false_eq_true, decide_true, decide_false, Bool.true_eq_false, Bool.false_eq_true, eq_self, Bool.decide_eq_true]; done) | (simp only [c19, true_and, and_true, false_and, and_false, true_or, or_true, false_or, or_false, not_true_eq_false, not_false_eq_true, decide_true, decide_false, Bool.true_eq_false, Bool.false_eq_true, eq_self, Bool.decide_eq_true]; rfl))) (.nil _)) ((((((hx5.trans hx10).trans hx15).trans hx16).trans hx17).trans hx18).trans hx20)
      · refine L_skip rfl rfl rfl ?_
        refine L_skip rfl rfl rfl ?_
        refine L_skip rfl rfl rfl ?_
        refine L_yld (Y_pick_f rfl rfl) rfl rfl rfl ?_
        refine L_yld (Y_assign rfl) rfl rfl rfl ?_
        refine L_nil ?_
        exact X_cut () (.cons (i := 4) (lkb rfl (by first | (simp only [c19, true_and, and_true, false_and, and_false, true_or, or_true, false_or, or_false, not_true_eq_false, not_false_eq_true, decide_true, decide_false, Bool.true_eq_false, Bool.false_eq_true, eq_self, Bool.decide_eq_true]; done) | (simp only [c19, true_and, and_true, false_and, and_false, true_or, or_true, false_or, or_false, not_true_eq_false, not_false_eq_true, decide_true, decide_false, Bool.true_eq_false, Bool.false_eq_true, eq_self, Bool.decide_eq_true]; rfl))) (.nil _)) (((((hx5.trans hx10).trans hx15).trans hx16).trans hx17).trans hx18)
    rintro _ h12 hx21
    show W _ _ _ _ _ [(4, .bool (decide ((((lsame (cno A) (cno B)) == (lsame (cno A) (cno B))) = true) ∧ ((lsame (cno A) (cno A)) = true))))] _
    refine W_ret ?_
    refine X_ret1 rfl rfl ?_
    exact ⟨congrArg Value.bool (decide_eq_true ⟨by simp, lsame_refl _⟩), (hx3.trans hx21)⟩
end Go.Xp
