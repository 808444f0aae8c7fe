/- tree.Equal and the law that Canon and Equal are the reference's: what the code does. -/
import Derived.Test.YtolfadbbhocikaaDoorCanL
import Derived.Test.YtolfadbbhocikaaDoorTreeV
import Derived.Test.YtolfadbbhocikaaDoorBox
set_option linter.unusedSimpArgs false
set_option linter.unusedVariables false
set_option linter.unusedSectionVars false
namespace Go.Xp
open Go.Proofs

def okl (p t d : List UInt8) : Prop := p.length ≤ 100000000000 ∧ t.length ≤ 100000000000 ∧ d.length ≤ 100000000000
theorem tree_Canon (h : Heap) (l : Value) (L : List Nod) (hL : Rows nodS h l L) (hm : L.length ≤ 1000000000) (hs : ∀ x ∈ L, x.path.length ≤ 100000000000 ∧ x.target.length ≤ 100000000000 ∧ x.data.length ≤ 100000000000) :
    Cal Tryd.prog 19 #[l] h (fun v h' => ∃ s0 L0, v = s0 ∧ Rows nodS h' s0 L0 ∧ (L0.length = L.length ∧ L0.map er = cno L) ∧ Ext h h') :=
  (tree_CanonR h l L hL (by omega) (fun x hx => by have := hs x hx; omega)).mono fun v h' ⟨e, x, L', q2, q1, q3, _⟩ => ⟨v, L', rfl, by rw [e, ← q1]; exact q2.rows rfl, ⟨q1, q3⟩, x⟩
theorem ref13_Canon (h : Heap) (l : Value) (L : List Nod) (hL : Rows nodS h l L) (hm : L.length ≤ 1000000000) (hs : ∀ x ∈ L, x.path.length ≤ 100000000000 ∧ x.target.length ≤ 100000000000 ∧ x.data.length ≤ 100000000000) :
    Cal Tryd.prog 18 #[l] h (fun v h' => ∃ s0 L0, v = s0 ∧ Rows nodS h' s0 L0 ∧ (L0.length = L.length ∧ L0.map er = cno L) ∧ Ext h h') :=
  (ref13_CanonR h l L hL hm (fun x hx => ⟨(hs x hx).1, (hs x hx).2.2⟩)).mono fun v h' ⟨L', q1, q2, q3, x⟩ => ⟨v, L', rfl, q1, ⟨q2, by rw [q3, rcn_cno]⟩, x⟩

set_option maxRecDepth 100000 in
theorem tree_same (h : Heap) (x : Nod) (hx0 : nodS.ok h x) (y : Nod) (hy0 : nodS.ok h y) (hl0 : x.data.length ≤ 140737488355328) : Cal Tryd.prog 38 #[.agg #[.int .i64 (x.kind), str x.path, .int .i64 (x.mode), str x.target, (x.dv), .int .i64 (x.cls)], .agg #[.int .i64 (y.kind), str y.path, .int .i64 (y.mode), str y.target, (y.dv), .int .i64 (y.cls)]] h (fun v h' => v = .bool (decide (nsame x y)) ∧ Ext h h') := by
 refine Cal_enter (args := [.agg #[.int .i64 (x.kind), str x.path, .int .i64 (x.mode), str x.target, (x.dv), .int .i64 (x.cls)], .agg #[.int .i64 (y.kind), str y.path, .int .i64 (y.mode), str y.target, (y.dv), .int .i64 (y.cls)]]) Tryd.func38 rfl rfl rfl (fun σ => ?_)
 refine W_seq (W_region ?_)
 refine L_mks (M_box rfl) rfl rfl rfl ?_
 rintro _ h1 ⟨rfl, hn1⟩
 have hk2 : Blk h1 h.size [.int .i64 (x.kind), str x.path, .int .i64 (x.mode), str x.target, (x.dv), .int .i64 (x.cls)] := hn1.blk
 refine L_mks (M_box rfl) rfl rfl rfl ?_
 rintro _ h2 ⟨rfl, hn3⟩
 have hk4 : Blk h2 h1.size [.int .i64 (y.kind), str y.path, .int .i64 (y.mode), str y.target, (y.dv), .int .i64 (y.cls)] := hn3.blk
 refine La rfl rfl rfl rfl ?_
 refine L_nil (X_then ?_)
 refine W_sub _ (sk3 4 3 2 rfl rfl rfl sN) ?_
 refine W_cut (S := Unit) (fun _ => [(4, .bool (decide ((((((x.kind = y.kind) ∧ (x.path = y.path)) ∧ (x.mode = y.mode)) ∧ (x.target = y.target)) ∧ (x.cls = y.cls)) ∧ (x.data = y.data))))]) (fun _ h' => h' = h2) ?_ ?_
 ·refine W_region ?_
  refine L_yld (Y_fieldAddr (off := 0) (by kernel_rfl) rfl rfl) rfl rfl rfl ?_
  refine L_yld (Y_ldblk Tryd.underlying3 rfl rfl (hk2.ext hn3.ext) rfl) rfl rfl rfl ?_
  refine L_yld (Y_fieldAddr (off := 0) (by kernel_rfl) rfl rfl) rfl rfl rfl ?_
  refine L_yld (Y_ldblk Tryd.underlying3 rfl rfl hk4 rfl) rfl rfl rfl ?_
  refine L_yld (Y_eql rfl rfl) rfl rfl rfl ?_
  refine Lm rfl rfl rfl rfl ?_
  refine L_splitd (d := 10) rfl (fun c5 => ?_) (fun c5 => ?_)
  ·refine L_yld (Y_fieldAddr (off := 1) (by kernel_rfl) rfl rfl) rfl rfl rfl ?_
   refine L_yld (Y_ldblk Tryd.underlying9 rfl rfl (hk2.ext hn3.ext) rfl) rfl rfl rfl ?_
   refine L_yld (Y_fieldAddr (off := 1) (by kernel_rfl) rfl rfl) rfl rfl rfl ?_
   refine L_yld (Y_ldblk Tryd.underlying9 rfl rfl hk4 rfl) rfl rfl rfl ?_
   refine L_yld (Y_seql rfl rfl) rfl rfl rfl ?_
   refine L_yld (Y_pick_t rfl rfl) rfl rfl rfl ?_
   refine Lm rfl rfl rfl rfl ?_
   refine L_splitd (d := 17) rfl (fun c6 => ?_) (fun c6 => ?_)
   ·refine L_yld (Y_fieldAddr (off := 2) (by kernel_rfl) rfl rfl) rfl rfl rfl ?_
    refine L_yld (Y_ldblk Tryd.underlying3 rfl rfl (hk2.ext hn3.ext) rfl) rfl rfl rfl ?_
    refine L_yld (Y_fieldAddr (off := 2) (by kernel_rfl) rfl rfl) rfl rfl rfl ?_
    refine L_yld (Y_ldblk Tryd.underlying3 rfl rfl hk4 rfl) rfl rfl rfl ?_
    refine L_yld (Y_eql rfl rfl) rfl rfl rfl ?_
    refine L_yld (Y_pick_t rfl rfl) rfl rfl rfl ?_
    refine Lm rfl rfl rfl rfl ?_
    refine L_splitd (d := 24) rfl (fun c7 => ?_) (fun c7 => ?_)
    ·refine L_yld (Y_fieldAddr (off := 3) (by kernel_rfl) rfl rfl) rfl rfl rfl ?_
     refine L_yld (Y_ldblk Tryd.underlying9 rfl rfl (hk2.ext hn3.ext) rfl) rfl rfl rfl ?_
     refine L_yld (Y_fieldAddr (off := 3) (by kernel_rfl) rfl rfl) rfl rfl rfl ?_
     refine L_yld (Y_ldblk Tryd.underlying9 rfl rfl hk4 rfl) rfl rfl rfl ?_
     refine L_yld (Y_seql rfl rfl) rfl rfl rfl ?_
     refine L_yld (Y_pick_t rfl rfl) rfl rfl rfl ?_
     refine Lm rfl rfl rfl rfl ?_
     refine L_splitd (d := 31) rfl (fun c8 => ?_) (fun c8 => ?_)
     ·refine L_yld (Y_fieldAddr (off := 5) (by kernel_rfl) rfl rfl) rfl rfl rfl ?_
      refine L_yld (Y_ldblk Tryd.underlying3 rfl rfl (hk2.ext hn3.ext) rfl) rfl rfl rfl ?_
      refine L_yld (Y_fieldAddr (off := 5) (by kernel_rfl) rfl rfl) rfl rfl rfl ?_
      refine L_yld (Y_ldblk Tryd.underlying3 rfl rfl hk4 rfl) rfl rfl rfl ?_
      refine L_yld (Y_eql rfl rfl) rfl rfl rfl ?_
      refine L_yld (Y_pick_t rfl rfl) rfl rfl rfl ?_
      refine Lm rfl rfl rfl rfl ?_
      refine L_splitd (d := 38) rfl (fun c9 => ?_) (fun c9 => ?_)
      ·refine L_yld (Y_fieldAddr (off := 4) (by kernel_rfl) rfl rfl) rfl rfl rfl ?_
       refine L_yld (Y_ldblk Tryd.underlying28 rfl rfl (hk2.ext hn3.ext) rfl) rfl rfl rfl ?_
       refine L_yld (Y_fieldAddr (off := 4) (by kernel_rfl) rfl rfl) rfl rfl rfl ?_
       refine L_yld (Y_ldblk Tryd.underlying28 rfl rfl hk4 rfl) rfl rfl rfl ?_
       refine L_call (E_call (by kernel_rfl) rfl) (slices_EqualB _ (x.dv) x.data (hx0.ext (hn1.ext.trans hn3.ext)) (y.dv) y.data (hy0.ext (hn1.ext.trans hn3.ext)) (by first | omega | rfl | (simp <;> omega))) rfl rfl rfl ?_
       rintro _ h2 ⟨rfl, rfl⟩
       refine L_yld (Y_pick_t rfl rfl) rfl rfl rfl ?_
       refine La rfl rfl rfl rfl ?_
       refine L_nil ?_
       exact X_cut () (sk1 4 (lkb rfl (by first | (simp only [eq_true c5, eq_true c6, eq_true c7, eq_true c8, eq_true c9, SB]; done) | (exfalso; contradiction) | (exfalso; omega))) sN) rfl
      ·refine L_skip rfl rfl rfl ?_
       refine L_skip rfl rfl rfl ?_
       refine L_skip rfl rfl rfl ?_
       refine L_skip rfl rfl rfl ?_
       refine L_skip rfl rfl rfl ?_
       refine L_yld (Y_pick_f rfl rfl) rfl rfl rfl ?_
       refine La rfl rfl rfl rfl ?_
       refine L_nil ?_
       exact X_cut () (sk1 4 (lkb rfl (by first | (simp only [eq_true c5, eq_true c6, eq_true c7, eq_true c8, eq_false c9, SB]; done) | (exfalso; contradiction) | (exfalso; omega))) sN) rfl
     ·refine L_skip rfl rfl rfl ?_
      refine L_skip rfl rfl rfl ?_
      refine L_skip rfl rfl rfl ?_
      refine L_skip rfl rfl rfl ?_
      refine L_skip rfl rfl rfl ?_
      refine L_yld (Y_pick_f rfl rfl) rfl rfl rfl ?_
      refine Lm rfl rfl rfl rfl ?_
      refine L_skip rfl rfl rfl ?_
      refine L_skip rfl rfl rfl ?_
      refine L_skip rfl rfl rfl ?_
      refine L_skip rfl rfl rfl ?_
      refine L_skip rfl rfl rfl ?_
      refine L_yld (Y_pick_f rfl rfl) rfl rfl rfl ?_
      refine La rfl rfl rfl rfl ?_
      refine L_nil ?_
      exact X_cut () (sk1 4 (lkb rfl (by first | (simp only [eq_true c5, eq_true c6, eq_true c7, eq_false c8, SB]; done) | (exfalso; contradiction) | (exfalso; omega))) sN) rfl
    ·refine L_skip rfl rfl rfl ?_
     refine L_skip rfl rfl rfl ?_
     refine L_skip rfl rfl rfl ?_
     refine L_skip rfl rfl rfl ?_
     refine L_skip rfl rfl rfl ?_
     refine L_yld (Y_pick_f rfl rfl) rfl rfl rfl ?_
     refine Lm rfl rfl rfl rfl ?_
     refine L_skip rfl rfl rfl ?_
     refine L_skip rfl rfl rfl ?_
     refine L_skip rfl rfl rfl ?_
     refine L_skip rfl rfl rfl ?_
     refine L_skip rfl rfl rfl ?_
     refine L_yld (Y_pick_f rfl rfl) rfl rfl rfl ?_
     refine Lm rfl rfl rfl rfl ?_
     refine L_skip rfl rfl rfl ?_
     refine L_skip rfl rfl rfl ?_
     refine L_skip rfl rfl rfl ?_
     refine L_skip rfl rfl rfl ?_
     refine L_skip rfl rfl rfl ?_
     refine L_yld (Y_pick_f rfl rfl) rfl rfl rfl ?_
     refine La rfl rfl rfl rfl ?_
     refine L_nil ?_
     exact X_cut () (sk1 4 (lkb rfl (by first | (simp only [eq_true c5, eq_true c6, eq_false c7, SB]; done) | (simp only [eq_true c5, eq_true c6, eq_false c7, SB]; rfl))) sN) rfl
   ·refine L_skip rfl rfl rfl ?_
    refine L_skip rfl rfl rfl ?_
    refine L_skip rfl rfl rfl ?_
    refine L_skip rfl rfl rfl ?_
    refine L_skip rfl rfl rfl ?_
    refine L_yld (Y_pick_f rfl rfl) rfl rfl rfl ?_
    refine Lm rfl rfl rfl rfl ?_
    refine L_skip rfl rfl rfl ?_
    refine L_skip rfl rfl rfl ?_
    refine L_skip rfl rfl rfl ?_
    refine L_skip rfl rfl rfl ?_
    refine L_skip rfl rfl rfl ?_
    refine L_yld (Y_pick_f rfl rfl) rfl rfl rfl ?_
    refine Lm rfl rfl rfl rfl ?_
    refine L_skip rfl rfl rfl ?_
    refine L_skip rfl rfl rfl ?_
    refine L_skip rfl rfl rfl ?_
    refine L_skip rfl rfl rfl ?_
    refine L_skip rfl rfl rfl ?_
    refine L_yld (Y_pick_f rfl rfl) rfl rfl rfl ?_
    refine Lm rfl rfl rfl rfl ?_
    refine L_skip rfl rfl rfl ?_
    refine L_skip rfl rfl rfl ?_
    refine L_skip rfl rfl rfl ?_
    refine L_skip rfl rfl rfl ?_
    refine L_skip rfl rfl rfl ?_
    refine L_yld (Y_pick_f rfl rfl) rfl rfl rfl ?_
    refine La rfl rfl rfl rfl ?_
    refine L_nil ?_
    exact X_cut () (sk1 4 (lkb rfl (by first | (simp only [eq_true c5, eq_false c6, SB]; done) | (simp only [eq_true c5, eq_false c6, SB]; rfl))) sN) rfl
  ·refine L_skip rfl rfl rfl ?_
   refine L_skip rfl rfl rfl ?_
   refine L_skip rfl rfl rfl ?_
   refine L_skip rfl rfl rfl ?_
   refine L_skip rfl rfl rfl ?_
   refine L_yld (Y_pick_f rfl rfl) rfl rfl rfl ?_
   refine Lm rfl rfl rfl rfl ?_
   refine L_skip rfl rfl rfl ?_
   refine L_skip rfl rfl rfl ?_
   refine L_skip rfl rfl rfl ?_
   refine L_skip rfl rfl rfl ?_
   refine L_skip rfl rfl rfl ?_
   refine L_yld (Y_pick_f rfl rfl) rfl rfl rfl ?_
   refine Lm rfl rfl rfl rfl ?_
   refine L_skip rfl rfl rfl ?_
   refine L_skip rfl rfl rfl ?_
   refine L_skip rfl rfl rfl ?_
   refine L_skip rfl rfl rfl ?_
   refine L_skip rfl rfl rfl ?_
   refine L_yld (Y_pick_f rfl rfl) rfl rfl rfl ?_
   refine Lm rfl rfl rfl rfl ?_
   refine L_skip rfl rfl rfl ?_
   refine L_skip rfl rfl rfl ?_
   refine L_skip rfl rfl rfl ?_
   refine L_skip rfl rfl rfl ?_
   refine L_skip rfl rfl rfl ?_
   refine L_yld (Y_pick_f rfl rfl) rfl rfl rfl ?_
   refine Lm rfl rfl rfl rfl ?_
   refine L_skip rfl rfl rfl ?_
   refine L_skip rfl rfl rfl ?_
   refine L_skip rfl rfl rfl ?_
   refine L_skip rfl rfl rfl ?_
   refine L_skip rfl rfl rfl ?_
   refine L_yld (Y_pick_f rfl rfl) rfl rfl rfl ?_
   refine La rfl rfl rfl rfl ?_
   refine L_nil ?_
   exact X_cut () (sk1 4 (lkb rfl (by first | (simp only [eq_false c5, SB]; done) | (simp only [eq_false c5, SB]; rfl))) sN) rfl
 rintro _ h2 rfl
 show W _ _ _ _ _ [(4, .bool (decide ((((((x.kind = y.kind) ∧ (x.path = y.path)) ∧ (x.mode = y.mode)) ∧ (x.target = y.target)) ∧ (x.cls = y.cls)) ∧ (x.data = y.data))))] _
 refine W_ret ?_
 refine X_ret1 rfl rfl ?_
 exact ⟨rfl, (hn1.ext.trans hn3.ext)⟩
set_option maxRecDepth 100000 in
theorem slices_EqualN (h : Heap) (v : Value) (a : List Nod) (ha : Rows nodS h v a) (u : Value) (b : List Nod) (hb : Rows nodS h u b) (hl0 : a.length ≤ 140737488355328) (hs : ∀ x ∈ a, x.path.length ≤ 100000000000 ∧ x.target.length ≤ 100000000000 ∧ x.data.length ≤ 100000000000) : Cal Tryd.prog 37 #[v, u, .func (.func 38) #[] #[]] h (fun v h' => v = .bool (lsame a b) ∧ Ext h h') := by
 refine Cal_enter (args := [v, u, .func (.func 38) #[] #[]]) Tryd.func37 rfl rfl rfl (fun σ => ?_)
 refine W_seq (W_region ?_)
 refine La rfl rfl rfl rfl ?_
 refine L_nil (X_then (W_seq (W_seq (W_region ?_))))
 refine Lm rfl rfl rfl rfl ?_
 refine L_yld (Y_lenr Tryd.underlying22 rfl ha) rfl rfl rfl ?_
 refine Lm rfl rfl rfl rfl ?_
 refine L_yld (Y_lenr Tryd.underlying22 rfl hb) rfl rfl rfl ?_
 refine L_yld (Y_neq rfl rfl) rfl rfl rfl ?_
 refine L_nil (X_then ?_)
 refine W_sub _ (sk5 14 6 0 1 2 rfl rfl rfl rfl rfl sN) ?_
 refine W_splitd rfl (fun c => ?_) (fun c => ?_)
 ·refine W_seq (W_region ?_)
  refine La rfl rfl rfl rfl ?_
  refine L_nil (X_then ?_)
  refine W_sub _ (sk4 6 0 1 2 rfl rfl rfl rfl sN) ?_
  refine W_ret (X_then_ret ?_)
  refine X_ret1 rfl rfl ?_
  exact ⟨by rw [lsame_false (fun e => c (by rw [e.1]))], (Ext.refl _)⟩
 ·refine W_skip (X_then ?_)
  refine W_sub _ (sk4 6 0 1 2 rfl rfl rfl rfl sN) ?_
  have hlen : a.length = b.length := by omega
  refine W_seq (W_seq (W_region ?_))
  refine Lm rfl rfl rfl rfl ?_
  refine L_yld (Y_lenr Tryd.underlying22 rfl ha) rfl rfl rfl ?_
  refine Lm rfl rfl rfl rfl ?_
  refine L_nil (X_then ?_)
  refine W_sub _ (sk6 17 16 15 6 1 2 rfl rfl rfl rfl rfl rfl sN) ?_
  refine W_block ?_
  refine W_loop (S := Nat) (fun i => [(16, .int .i64 ((a.length : Int))), (15, v), (1, u), (2, .func (.func 38) #[] #[]), (17, .int .i64 ((i : Int)))]) (fun i h' => (i ≤ a.length ∧ ∀ k, k < i → nsame (at_nod a k) (at_nod b k)) ∧ Ext h h') (fun i => a.length - i) 0 (sk5 16 15 1 2 17 rfl rfl rfl rfl rfl sN) ?_ ?_
  ·exact ⟨⟨by omega, fun k hk => absurd hk (Nat.not_lt_zero _)⟩, Ext.refl _⟩
  rintro i h1 ⟨⟨hi, h0⟩, hx⟩
  show W _ _ _ _ _ [(16, .int .i64 ((a.length : Int))), (15, v), (1, u), (2, .func (.func 38) #[] #[]), (17, .int .i64 ((i : Int)))] _
  refine W_seq (W_region ?_)
  refine L_yld (Y_lss rfl rfl) rfl rfl rfl ?_
  refine L_nil (X_then (W_seq ?_))
  refine W_splitd rfl (fun hlt => ?_) (fun hlt => ?_)
  ·refine W_skip (X_then ?_)
   refine W_sub _ (sk5 16 15 1 2 17 rfl rfl rfl rfl rfl sN) ?_
   refine W_seq (W_block (W_seq (W_region ?_)))
   refine Lm rfl rfl rfl rfl ?_
   refine L_yld (Y_idxr Tryd.underlying22 (show _ = some 6 by kernel_rfl) rfl rfl rfl (ha.ext hx) (by omega) (by omega)) rfl rfl rfl ?_
   refine L_yld (Y_ldrA0 (k := ((i : Int)).toNat) (us := [.int .i64 ((at_nod a ((i : Int)).toNat).kind), str ((at_nod a ((i : Int)).toNat).path), .int .i64 ((at_nod a ((i : Int)).toNat).mode), str ((at_nod a ((i : Int)).toNat).target), ((at_nod a ((i : Int)).toNat).dv), .int .i64 ((at_nod a ((i : Int)).toNat).cls)]) Tryd.underlying30 rfl (show _ = some 6 by kernel_rfl) rfl rfl (ha.ext hx) (by omega) rfl) rfl rfl rfl ?_
   refine L_mks (M_alloc (u := .agg #[.int .i64 0, str [], .int .i64 0, str [], .slice none 0 0, .int .i64 0]) (by kernel_rfl)) rfl rfl rfl ?_
   rintro _ h2 ⟨rfl, hn1⟩
   have hk2 : Blk h2 h1.size [.int .i64 0, str [], .int .i64 0, str [], .slice none 0 0, .int .i64 0] := hn1.blk
   refine La rfl rfl rfl rfl ?_
   refine L_dos (D_store (us := [.int .i64 ((at_nod a ((i : Int)).toNat).kind), str ((at_nod a ((i : Int)).toNat).path), .int .i64 ((at_nod a ((i : Int)).toNat).mode), str ((at_nod a ((i : Int)).toNat).target), ((at_nod a ((i : Int)).toNat).dv), .int .i64 ((at_nod a ((i : Int)).toNat).cls)]) (show _ = some 6 by kernel_rfl) rfl rfl rfl (by intro u_ hu_; simp only [List.mem_cons, List.not_mem_nil, or_false] at hu_; rcases hu_ with rfl | rfl | rfl | rfl | rfl | rfl <;> first | rfl | exact ((show Bytes _ ((at_nod a ((i : Int)).toNat).dv) ((at_nod a ((i : Int)).toNat).data) from (ha.ext (hx.trans hn1.ext)).okat (k := ((i : Int)).toNat) (by omega))).cell1) hk2 (by simp)) rfl rfl ?_
   rintro h3 hp3
   have hk4 : Blk h3 h1.size [.int .i64 ((at_nod a ((i : Int)).toNat).kind), str ((at_nod a ((i : Int)).toNat).path), .int .i64 ((at_nod a ((i : Int)).toNat).mode), str ((at_nod a ((i : Int)).toNat).target), ((at_nod a ((i : Int)).toNat).dv), .int .i64 ((at_nod a ((i : Int)).toNat).cls)] := hp3.blk
   refine L_nil (X_then ?_)
   refine W_sub _ (sk7 7 8 16 15 1 2 17 rfl rfl rfl rfl rfl rfl rfl sN) ?_
   refine W_seq (W_region ?_)
   refine Lm rfl rfl rfl rfl ?_
   refine Lm rfl rfl rfl rfl ?_
   refine L_yld (Y_idxr Tryd.underlying22 (show _ = some 6 by kernel_rfl) rfl rfl rfl (hb.ext ((hx.trans hn1.ext).then' hp3.only (by simp) hx.size)) (by omega) (by omega)) rfl rfl rfl ?_
   refine L_yld (Y_ldrA0 (k := ((i : Int)).toNat) (us := [.int .i64 ((at_nod b ((i : Int)).toNat).kind), str ((at_nod b ((i : Int)).toNat).path), .int .i64 ((at_nod b ((i : Int)).toNat).mode), str ((at_nod b ((i : Int)).toNat).target), ((at_nod b ((i : Int)).toNat).dv), .int .i64 ((at_nod b ((i : Int)).toNat).cls)]) Tryd.underlying30 rfl (show _ = some 6 by kernel_rfl) rfl rfl (hb.ext ((hx.trans hn1.ext).then' hp3.only (by simp) hx.size)) (by omega) rfl) rfl rfl rfl ?_
   refine L_mks (M_alloc (u := .agg #[.int .i64 0, str [], .int .i64 0, str [], .slice none 0 0, .int .i64 0]) (by kernel_rfl)) rfl rfl rfl ?_
   rintro _ h4 ⟨rfl, hn5⟩
   have hk6 : Blk h4 h3.size [.int .i64 0, str [], .int .i64 0, str [], .slice none 0 0, .int .i64 0] := hn5.blk
   refine L_dos (D_store (us := [.int .i64 ((at_nod b ((i : Int)).toNat).kind), str ((at_nod b ((i : Int)).toNat).path), .int .i64 ((at_nod b ((i : Int)).toNat).mode), str ((at_nod b ((i : Int)).toNat).target), ((at_nod b ((i : Int)).toNat).dv), .int .i64 ((at_nod b ((i : Int)).toNat).cls)]) (show _ = some 6 by kernel_rfl) rfl rfl rfl (by intro u_ hu_; simp only [List.mem_cons, List.not_mem_nil, or_false] at hu_; rcases hu_ with rfl | rfl | rfl | rfl | rfl | rfl <;> first | rfl | exact ((show Bytes _ ((at_nod b ((i : Int)).toNat).dv) ((at_nod b ((i : Int)).toNat).data) from (hb.ext (((hx.trans hn1.ext).then' hp3.only (by simp) hx.size).trans hn5.ext)).okat (k := ((i : Int)).toNat) (by omega))).cell1) hk6 (by simp)) rfl rfl ?_
   rintro h5 hp7
   have hk8 : Blk h5 h3.size [.int .i64 ((at_nod b ((i : Int)).toNat).kind), str ((at_nod b ((i : Int)).toNat).path), .int .i64 ((at_nod b ((i : Int)).toNat).mode), str ((at_nod b ((i : Int)).toNat).target), ((at_nod b ((i : Int)).toNat).dv), .int .i64 ((at_nod b ((i : Int)).toNat).cls)] := hp7.blk
   refine L_nil (X_then ?_)
   refine W_sub _ (sk7 9 8 16 15 1 2 17 rfl rfl rfl rfl rfl rfl rfl sN) ?_
   have hmm := hs _ (can_mem (l := a) (k := (i : Int).toNat) (by omega))
   refine W_seq (W_region ?_)
   refine Lm rfl rfl rfl rfl ?_
   refine L_yld (Y_ldbox (us := [.int .i64 ((at_nod a ((i : Int)).toNat).kind), str ((at_nod a ((i : Int)).toNat).path), .int .i64 ((at_nod a ((i : Int)).toNat).mode), str ((at_nod a ((i : Int)).toNat).target), ((at_nod a ((i : Int)).toNat).dv), .int .i64 ((at_nod a ((i : Int)).toNat).cls)]) Tryd.underlying30 rfl (show _ = some 6 by kernel_rfl) rfl (hk4.ext (hn5.ext.then' hp7.only (by simp) (Nat.le_refl _))) rfl) rfl rfl rfl ?_
   refine L_yld (Y_ldbox (us := [.int .i64 ((at_nod b ((i : Int)).toNat).kind), str ((at_nod b ((i : Int)).toNat).path), .int .i64 ((at_nod b ((i : Int)).toNat).mode), str ((at_nod b ((i : Int)).toNat).target), ((at_nod b ((i : Int)).toNat).dv), .int .i64 ((at_nod b ((i : Int)).toNat).cls)]) Tryd.underlying30 rfl (show _ = some 6 by kernel_rfl) rfl hk8 rfl) rfl rfl rfl ?_
   refine L_call (E_callv (fs := []) (cs := []) (by kernel_rfl) rfl rfl) (tree_same _ (at_nod a ((i : Int)).toNat) (show Bytes _ ((at_nod a ((i : Int)).toNat).dv) ((at_nod a ((i : Int)).toNat).data) from (ha.ext ((((hx.trans hn1.ext).then' hp3.only (by simp) hx.size).trans hn5.ext).then' hp7.only (by simp) (Nat.le_trans (Nat.le_trans hx.size hn1.ext.size) hp3.only.size))).okat (k := ((i : Int)).toNat) (by omega)) (at_nod b ((i : Int)).toNat) (show Bytes _ ((at_nod b ((i : Int)).toNat).dv) ((at_nod b ((i : Int)).toNat).data) from (hb.ext ((((hx.trans hn1.ext).then' hp3.only (by simp) hx.size).trans hn5.ext).then' hp7.only (by simp) (Nat.le_trans (Nat.le_trans hx.size hn1.ext.size) hp3.only.size))).okat (k := ((i : Int)).toNat) (by omega)) (by first | omega | rfl | (simp <;> omega))) rfl rfl rfl ?_
   rintro _ h6 ⟨rfl, hx9⟩
   refine L_yld (Y_notd rfl) rfl rfl rfl ?_
   refine L_nil (X_then ?_)
   refine W_sub _ (sk6 30 16 15 1 2 17 rfl rfl rfl rfl rfl rfl sN) ?_
   refine W_splitd rfl (fun y => ?_) (fun y => ?_)
   ·refine W_seq (W_region ?_)
    refine La rfl rfl rfl rfl ?_
    refine L_nil (X_then ?_)
    refine W_sub _ (sk6 6 16 15 1 2 17 rfl rfl rfl rfl rfl rfl sN) ?_
    refine W_ret (X_block_ret (X_then_ret (X_then_ret (X_block_ret (X_then_ret ?_)))))
    refine X_ret1 rfl rfl ?_
    exact ⟨by rw [lsame_false (fun e => y (e.2 i (by omega)))], (((((hx.trans hn1.ext).then' hp3.only (by simp) hx.size).trans hn5.ext).then' hp7.only (by simp) (Nat.le_trans (Nat.le_trans hx.size hn1.ext.size) hp3.only.size)).trans hx9)⟩
   ·refine W_skip (X_block (X_then ?_))
    refine W_sub _ (sk5 16 15 1 2 17 rfl rfl rfl rfl rfl sN) ?_
    refine W_region ?_
    refine L_yld (Y_add rfl rfl (by omega) (by omega)) rfl rfl rfl ?_
    refine Lm rfl rfl rfl rfl ?_
    refine L_nil ?_
    refine X_loop (i + 1) (sk5 16 15 1 2 17 rfl rfl rfl rfl rfl sN) ?_ ?_
    ·exact ⟨⟨by omega, step_ne h0 (Classical.not_not.1 y)⟩, (((((hx.trans hn1.ext).then' hp3.only (by simp) hx.size).trans hn5.ext).then' hp7.only (by simp) (Nat.le_trans (Nat.le_trans hx.size hn1.ext.size) hp3.only.size)).trans hx9)⟩
    ·(try dsimp only)
     omega
  ·refine W_exit ?_
   refine X_then_exit (X_then_exit ?_)
   refine X_block_hit ?_
   refine X_then ?_
   refine W_sub _ sN ?_
   refine W_seq (W_region ?_)
   refine La rfl rfl rfl rfl ?_
   refine L_nil (X_then (W_ret ?_))
   refine X_ret1 rfl rfl ?_
   exact ⟨by rw [lsame_iff.2 ⟨hlen, fun k hk => h0 k (by omega)⟩], hx⟩
set_option maxRecDepth 100000 in
theorem tree_Equal (h : Heap) (v : Value) (A : List Nod) (ha : Rows nodS h v A) (u : Value) (B : List Nod) (hb : Rows nodS h u B) (hm1 : A.length ≤ 1000000000) (hm2 : B.length ≤ 1000000000) (hs1 : ∀ x ∈ A, x.path.length ≤ 100000000000 ∧ x.target.length ≤ 100000000000 ∧ x.data.length ≤ 100000000000) (hs2 : ∀ x ∈ B, x.path.length ≤ 100000000000 ∧ x.target.length ≤ 100000000000 ∧ x.data.length ≤ 100000000000) : Cal Tryd.prog 20 #[v, u] h (fun v h' => v = .bool (lsame (cno A) (cno B)) ∧ Ext h h') := by
 refine Cal_enter (args := [v, u]) Tryd.func20 rfl rfl rfl (fun σ => ?_)
 refine W_seq (W_region ?_)
 refine La rfl rfl rfl rfl ?_
 refine L_nil (X_then (W_seq (W_region ?_)))
 refine Lm rfl rfl rfl rfl ?_
 refine L_call (E_call (by kernel_rfl) rfl) (tree_Canon _ v A ha hm1 hs1) rfl rfl rfl ?_
 rintro s01 h1 ⟨_, L02, rfl, hr03, hq04, hx5⟩
 refine Lm rfl rfl rfl rfl ?_
 refine L_call (E_call (by kernel_rfl) rfl) (tree_Canon _ u B (hb.ext hx5) hm2 hs2) rfl rfl rfl ?_
 rintro s06 h2 ⟨_, L07, rfl, hr08, hq09, hx10⟩
 refine L_call (E_call (by kernel_rfl) rfl) (slices_EqualN _ s01 L02 (hr03.ext hx10) s06 L07 hr08 (by have := hq04.1; omega) (can_all (P := okl) hq04 hs1)) rfl rfl rfl ?_
 rintro _ h3 ⟨rfl, hx11⟩
 refine La rfl rfl rfl rfl ?_
 refine L_nil (X_then ?_)
 refine W_sub _ (sk1 4 rfl sN) ?_
 refine W_ret ?_
 refine X_ret1 rfl rfl ?_
 exact ⟨congrArg Value.bool (lsame_c (by assumption) (by assumption)), ((hx5.trans hx10).trans hx11)⟩
set_option maxRecDepth 100000 in
theorem ref13_Equal (h : Heap) (v : Value) (A : List Nod) (ha : Rows nodS h v A) (u : Value) (B : List Nod) (hb : Rows nodS h u B) (hm1 : A.length ≤ 1000000000) (hm2 : B.length ≤ 1000000000) (hs1 : ∀ x ∈ A, x.path.length ≤ 100000000000 ∧ x.target.length ≤ 100000000000 ∧ x.data.length ≤ 100000000000) (hs2 : ∀ x ∈ B, x.path.length ≤ 100000000000 ∧ x.target.length ≤ 100000000000 ∧ x.data.length ≤ 100000000000) : Cal Tryd.prog 21 #[v, u] h (fun v h' => v = .bool (lsame (cno A) (cno B)) ∧ Ext h h') := by
 refine Cal_enter (args := [v, u]) Tryd.func21 rfl rfl rfl (fun σ => ?_)
 refine W_seq (W_region ?_)
 refine La rfl rfl rfl rfl ?_
 refine L_nil (X_then (W_seq (W_region ?_)))
 refine Lm rfl rfl rfl rfl ?_
 refine L_call (E_call (by kernel_rfl) rfl) (ref13_Canon _ v A ha hm1 hs1) rfl rfl rfl ?_
 rintro s01 h1 ⟨_, L02, rfl, hr03, hq04, hx5⟩
 refine Lm rfl rfl rfl rfl ?_
 refine L_call (E_call (by kernel_rfl) rfl) (ref13_Canon _ u B (hb.ext hx5) hm2 hs2) rfl rfl rfl ?_
 rintro s06 h2 ⟨_, L07, rfl, hr08, hq09, hx10⟩
 refine L_call (E_call (by kernel_rfl) rfl) (ref13_Same _ s01 L02 (hr03.ext hx10) s06 L07 hr08 (by have := hq04.1; omega)) rfl rfl rfl ?_
 rintro _ h3 ⟨rfl, hx11⟩
 refine La rfl rfl rfl rfl ?_
 refine L_nil (X_then ?_)
 refine W_sub _ (sk1 4 rfl sN) ?_
 refine W_ret ?_
 refine X_ret1 rfl rfl ?_
 exact ⟨congrArg Value.bool (lsame_c (by assumption) (by assumption)), ((hx5.trans hx10).trans hx11)⟩
end Go.Xp

/- Layer 13 (tree): Canon and Equal match the reference. -/
set_option linter.unusedSimpArgs false
set_option linter.unusedVariables false
set_option linter.unusedSectionVars false
namespace Go.Xp
open Go.Proofs

theorem can_okl {A : List Nod} (h : ¬ 0 < ntoo A) : A.length ≤ 40 ∧ A.length ≤ 1000000000 ∧ ∀ x ∈ A, x.path.length ≤ 100000000000 ∧ x.target.length ≤ 100000000000 ∧ x.data.length ≤ 100000000000 := by
  obtain ⟨h1, h2⟩ := ntoo_ok h
  refine ⟨h1, by omega, fun x hx => ?_⟩
  obtain ⟨k, hk, rfl⟩ := List.getElem_of_mem hx
  have := h2 k hk
  unfold nb at_nod at this
  rw [List.getD_eq_getElem?_getD, List.getElem?_eq_getElem hk] at this
  simp only [Option.getD_some] at this
  omega
set_option maxRecDepth 100000 in
theorem treeCanonMatchesReference (h : Heap) (hK : GlbK h) (hE : GlbE h) (v : Value) (A : List Nod) (ha : Rows nodS h v A) (u : Value) (B : List Nod) (hb : Rows nodS h u B) (hn1 : A.length ≤ 140737488355328) (hs1 : ∀ x ∈ A, x.path.length ≤ 140737488355328 ∧ x.target.length ≤ 140737488355328 ∧ x.data.length ≤ 140737488355328) (hn2 : B.length ≤ 140737488355328) (hs2 : ∀ x ∈ B, x.path.length ≤ 140737488355328 ∧ x.target.length ≤ 140737488355328 ∧ x.data.length ≤ 140737488355328) : Cal Tryd.prog 8 #[v, u] h (fun v h' => v = .bool true ∧ Ext h h') := by
 refine Cal_enter (args := [v, u]) Tryd.func8 rfl rfl rfl (fun σ => ?_)
 refine W_seq (W_region ?_)
 refine La rfl rfl rfl rfl ?_
 refine L_nil (X_then (W_seq ?_))
 refine W_cut (S := Unit) (fun _ => [(12, .bool (decide ((0 < (ntoo A)) ∨ (0 < (ntoo B))))), (4, .bool false), (0, v), (1, u)]) (fun _ h' => Ext h h') ?_ ?_
 ·refine W_region ?_
  refine Lm rfl rfl rfl rfl ?_
  refine L_call (E_call (by kernel_rfl) rfl) (law13_TooLarge _ v A ha hn1 hs1) rfl rfl rfl ?_
  rintro _ h1 ⟨rfl, hx1⟩
  refine L_yld (Y_gtr rfl rfl) rfl rfl rfl ?_
  refine Lm rfl rfl rfl rfl ?_
  refine L_splitd (d := 8) rfl (fun g0 => ?_) (fun g0 => ?_)
  ·refine L_skip rfl rfl rfl ?_
   refine L_skip rfl rfl rfl ?_
   refine L_skip rfl rfl rfl ?_
   refine L_yld (Y_pick_t rfl rfl) rfl rfl rfl ?_
   refine L_nil ?_
   exact X_cut () (sk1 12 (lkb rfl (by first | (simp only [eq_true g0, SB]; done) | (simp only [eq_true g0, SB]; rfl))) (sk1 4 rfl (sk1 0 rfl (sk1 1 rfl sN)))) hx1
  ·refine L_yld (Y_move rfl) rfl rfl rfl ?_
   refine L_call (E_call (by kernel_rfl) rfl) (law13_TooLarge _ u B (hb.ext hx1) hn2 hs2) rfl rfl rfl ?_
   rintro _ h2 ⟨rfl, hx2⟩
   refine L_yld (Y_gtr rfl rfl) rfl rfl rfl ?_
   refine L_yld (Y_pick_f rfl rfl) rfl rfl rfl ?_
   refine L_nil ?_
   exact X_cut () (sk1 12 (lkb rfl (by first | (simp only [eq_false g0, SB]; done) | (simp only [eq_false g0, SB]; rfl))) (sk1 4 rfl (sk1 0 rfl (sk1 1 rfl sN)))) (hx1.trans hx2)
 rintro _ h3 hx3
 show W _ _ _ _ _ [(12, .bool (decide ((0 < (ntoo A)) ∨ (0 < (ntoo B))))), (4, .bool false), (0, v), (1, u)] _
 refine W_splitd rfl (fun g => ?_) (fun g => ?_)
 ·refine W_seq (W_region ?_)
  refine L_call (E_call (by kernel_rfl) rfl) (law13_alive _ (hK.ext hx3) (hE.ext hx3)) rfl rfl rfl ?_
  rintro _ h4 ⟨rfl, hx4⟩
  refine La rfl rfl rfl rfl ?_
  refine L_nil (X_then ?_)
  refine W_sub _ (sk3 4 0 1 rfl rfl rfl sN) ?_
  refine W_ret (X_then_ret ?_)
  refine X_ret1 rfl rfl ?_
  exact ⟨rfl, (hx3.trans hx4)⟩
 ·refine W_skip (X_then ?_)
  refine W_sub _ (sk3 4 0 1 rfl rfl rfl sN) ?_
  have okA := can_okl (fun q => g (.inl q))
  have okB := can_okl (fun q => g (.inr q))
  refine W_cut (S := Unit) (fun _ => [(4, .bool (decide ((((lsame (cno A) (cno B)) == (lsame (cno A) (cno B))) = true) ∧ ((lsame (cno A) (cno A)) = true))))]) (fun _ h' => Ext h3 h') ?_ ?_
  ·refine W_region ?_
   refine L_call (E_call (by kernel_rfl) rfl) (law13_alive _ (hK.ext hx3) (hE.ext hx3)) rfl rfl rfl ?_
   rintro _ h5 ⟨rfl, hx5⟩
   refine Lm rfl rfl rfl rfl ?_
   refine Lm rfl rfl rfl rfl ?_
   refine L_call (E_call (by kernel_rfl) rfl) (tree_Canon _ v A (ha.ext (hx3.trans hx5)) okA.2.1 okA.2.2) rfl rfl rfl ?_
   rintro s06 h6 ⟨_, L07, rfl, hr08, hq09, hx10⟩
   refine Lm rfl rfl rfl rfl ?_
   refine L_call (E_call (by kernel_rfl) rfl) (ref13_Canon _ v A (ha.ext ((hx3.trans hx5).trans hx10)) okA.2.1 okA.2.2) rfl rfl rfl ?_
   rintro s011 h7 ⟨_, L012, rfl, hr013, hq014, hx15⟩
   refine L_call (E_call (by kernel_rfl) rfl) (ref13_Same _ s06 L07 (hr08.ext hx15) s011 L012 hr013 (by have := hq09.1; omega)) rfl rfl rfl ?_
   rintro _ h8 ⟨rfl, hx16⟩
   refine L_yld (Y_pick_t rfl rfl) rfl rfl rfl ?_
   refine Lm rfl rfl rfl rfl ?_
   refine L_known (d := 22) true rfl (by exact (lsame_c (by assumption) (by assumption)).trans (lsame_refl (cno A))) ?_
   refine Lm rfl rfl rfl rfl ?_
   refine Lm rfl rfl rfl rfl ?_
   refine L_call (E_call (by kernel_rfl) rfl) (tree_Equal _ v A (ha.ext ((((hx3.trans hx5).trans hx10).trans hx15).trans hx16)) u B (hb.ext ((((hx3.trans hx5).trans hx10).trans hx15).trans hx16)) okA.2.1 okB.2.1 okA.2.2 okB.2.2) rfl rfl rfl ?_
   rintro _ h9 ⟨rfl, hx17⟩
   refine Lm rfl rfl rfl rfl ?_
   refine Lm rfl rfl rfl rfl ?_
   refine L_call (E_call (by kernel_rfl) rfl) (ref13_Equal _ v A (ha.ext (((((hx3.trans hx5).trans hx10).trans hx15).trans hx16).trans hx17)) u B (hb.ext (((((hx3.trans hx5).trans hx10).trans hx15).trans hx16).trans hx17)) okA.2.1 okB.2.1 okA.2.2 okB.2.2) rfl rfl rfl ?_
   rintro _ h10 ⟨rfl, hx18⟩
   refine L_yld (Y_beql Tryd.underlying4 rfl rfl) rfl rfl rfl ?_
   refine L_yld (Y_pick_t rfl rfl) rfl rfl rfl ?_
   refine Lm rfl rfl rfl rfl ?_
   refine L_split (d := 31) rfl (fun c19 => ?_) (fun c19 => ?_)
   ·refine L_yld (Y_move rfl) rfl rfl rfl ?_
    refine Lm rfl rfl rfl rfl ?_
    refine L_call (E_call (by kernel_rfl) rfl) (tree_Equal _ v A (ha.ext ((((((hx3.trans hx5).trans hx10).trans hx15).trans hx16).trans hx17).trans hx18)) v A (ha.ext ((((((hx3.trans hx5).trans hx10).trans hx15).trans hx16).trans hx17).trans hx18)) okA.2.1 okA.2.1 okA.2.2 okA.2.2) rfl rfl rfl ?_
    rintro _ h11 ⟨rfl, hx20⟩
    refine L_yld (Y_pick_t rfl rfl) rfl rfl rfl ?_
    refine La rfl rfl rfl rfl ?_
    refine L_nil ?_
    exact X_cut () (sk1 4 (lkb rfl (by first | (simp only [c19, SB]; done) | (simp only [c19, SB]; rfl))) sN) ((((((hx5.trans hx10).trans hx15).trans hx16).trans hx17).trans hx18).trans hx20)
   ·refine L_skip rfl rfl rfl ?_
    refine L_skip rfl rfl rfl ?_
    refine L_skip rfl rfl rfl ?_
    refine L_yld (Y_pick_f rfl rfl) rfl rfl rfl ?_
    refine La rfl rfl rfl rfl ?_
    refine L_nil ?_
    exact X_cut () (sk1 4 (lkb rfl (by first | (simp only [c19, SB]; done) | (simp only [c19, SB]; rfl))) sN) (((((hx5.trans hx10).trans hx15).trans hx16).trans hx17).trans hx18)
  rintro _ h12 hx21
  show W _ _ _ _ _ [(4, .bool (decide ((((lsame (cno A) (cno B)) == (lsame (cno A) (cno B))) = true) ∧ ((lsame (cno A) (cno A)) = true))))] _
  refine W_ret ?_
  refine X_ret1 rfl rfl ?_
  exact ⟨congrArg Value.bool (decide_eq_true ⟨by simp, lsame_refl _⟩), (hx3.trans hx21)⟩
end Go.Xp

/- A byte written into the data of a node of a new row: what lasts. -/
set_option linter.unusedSimpArgs false
set_option linter.unusedVariables false
set_option linter.unusedSectionVars false
namespace Go.Xp

/-- A new row of nodes, its data new too; of what the data hold only the lengths are kept in mind. -/
def RCan (h : Heap) (B : Nat) (L : List Nod) : Prop := RBuf nodS h B (fun b => b ≠ B ∧ B ≤ b) L ∧ ∀ x ∈ L, OwnB h (B + 1) x.dv x.data
theorem own_any {h h' : Heap} {base D k : Nat} {c : UInt8} {vs : List Value} (hD : Blk h D vs) (hD' : Blk h' D (vs.set k (bv c))) (y : Only [D] h h') {v : Value} {l : List UInt8} (o : OwnB h base v l) : ∃ m, m.length = l.length ∧ OwnB h' base v m := by
  obtain ⟨o1, ⟨rfl, o2⟩ | ⟨g, cap, extra, rfl, o3, o4, o5, o6⟩⟩ := o
  · exact ⟨[], by simpa using o2.symm, OwnB.nil _ _⟩
  · by_cases e : g = D
    · subst e
      have hv := Blk.inj hD o4
      rw [hv] at hD'
      by_cases hk : k < l.length
      · refine ⟨l.set k c, by simp, by simp, .inr ⟨g, cap, extra, by simp, o3, ?_, by simpa using o5, by simpa using o6⟩⟩
        have e2 : (l.map bv ++ extra).set k (bv c) = (l.set k c).map bv ++ extra := by
          rw [List.set_append_left _ _ (by simpa using hk), List.map_set]
        rw [← e2]; exact hD'
      · refine ⟨l, rfl, o1, .inr ⟨g, cap, extra.set (k - l.length) (bv c), rfl, o3, ?_, by simpa using o5, o6⟩⟩
        have e2 : (l.map bv ++ extra).set k (bv c) = l.map bv ++ extra.set (k - l.length) (bv c) := by
          rw [List.set_append_right _ _ (by simpa using hk)]; simp
        rw [← e2]; exact hD'
    · exact ⟨l, rfl, o1, .inr ⟨g, cap, extra, rfl, o3, o4.only y (fun hm => e (List.mem_singleton.1 hm)), o5, o6⟩⟩
theorem rcan_any {h h' : Heap} {B D : Nat} {L : List Nod} (x : RCan h B L) (y : Only [D] h h') (hD : B < D) (hany : ∀ v l, OwnB h (B + 1) v l → ∃ m, m.length = l.length ∧ OwnB h' (B + 1) v m) :
    ∃ L' : List Nod, L'.length = L.length ∧ (∀ j, (at_nod L' j).data.length = (at_nod L j).data.length) ∧ RCan h' B L' := by
  have hex : ∀ a ∈ L, ∃ m : List UInt8, m.length = a.data.length ∧ OwnB h' (B + 1) a.dv m := fun a ha => hany _ _ (x.2 a ha)
  have key : ∀ L : List Nod, (∀ a ∈ L, ∃ m : List UInt8, m.length = a.data.length ∧ OwnB h' (B + 1) a.dv m) → ∃ L' : List Nod, L'.length = L.length ∧ (∀ j, (at_nod L' j).data.length = (at_nod L j).data.length) ∧ L'.flatMap nodS.cells = L.flatMap nodS.cells ∧ (∀ a ∈ L', OwnB h' (B + 1) a.dv a.data ∧ ∃ b ∈ L, b.dv = a.dv) := by
    intro L
    induction L with
    | nil => intro _; exact ⟨[], rfl, fun _ => rfl, rfl, fun a ha => by cases ha⟩
    | cons a L ih =>
      intro hL
      obtain ⟨m, hm, ho⟩ := hL a (by simp)
      obtain ⟨L', q1, q2, q3, q4⟩ := ih (fun b hb => hL b (by simp [hb]))
      refine ⟨⟨a.kind, a.path, a.mode, a.target, a.dv, m, a.cls⟩ :: L', by simp [q1], fun j => ?_, ?_, fun b hb => ?_⟩
      · cases j with
        | zero => exact hm
        | succ j => rw [nod_cons_succ, nod_cons_succ]; exact q2 j
      · rw [List.flatMap_cons, List.flatMap_cons, q3]; rfl
      · rcases List.mem_cons.1 hb with rfl | hb
        · exact ⟨ho, a, by simp, rfl⟩
        · obtain ⟨r1, c, r2, r3⟩ := q4 b hb
          exact ⟨r1, c, by simp [r2], r3⟩
  obtain ⟨L', q1, q2, q3, q4⟩ := key L hex
  refine ⟨L', q1, q2, ⟨?_, fun a ha => ⟨(q4 a ha).1.bytes, ?_⟩⟩, fun a ha => (q4 a ha).1⟩
  · rw [q3]; exact x.1.1.only y (fun hm => by rw [List.mem_singleton.1 hm] at hD; omega)
  · obtain ⟨b, hb, e⟩ := (q4 a ha).2
    exact pts_dv fun d hd => (x.1.2 b hb).2 b.dv (by simp [nodS]) d (by rw [e]; exact hd)
section
variable {P : Program} {n : Nat} {e : Env} {h : Heap} {d : Option Tmp} {t : TypeId} {pos : String} {af : Array Edge} {g : Option (Nat × Bool)}
variable {T : TypeId} {x y : Operand}
theorem D_anyb {B i k : Nat} {L : List Nod} {c : Int} (hz : (P.info? T).map (·.size) = some 1) (hx : ev e x = some (.pointer (some (elemAddr (at_nod L i).dv (k * 1))))) (hy : ev e y = some (.int .u8 c)) (hc : 0 ≤ c ∧ c ≤ 255) (hb : RCan h B L) (hi : i < L.length) (hk : k < (at_nod L i).data.length) :
    Dos P n e h ⟨none, .store T x y, t, pos, af, g⟩ (fun h' => ∃ D, (∀ b ∈ [D], B ≤ b) ∧ Only [D] h h' ∧ ∃ L' : List Nod, L'.length = L.length ∧ (∀ j, (at_nod L' j).data.length = (at_nod L j).data.length) ∧ RCan h' B L') := fun w a hh he => by
  have ho := hb.2 _ (can_mem hi)
  obtain ⟨o1, ⟨e0, o2⟩ | ⟨D, cap, extra, e0, o3, o4, o5, o6⟩⟩ := ho
  · omega
  · rw [e0] at hx
    have e1 : elemAddr (.slice (some ⟨D, 0, none⟩) (at_nod L i).data.length cap) (k * 1) = ⟨D, k, none⟩ := by simp [elemAddr]
    rw [e1] at hx
    obtain ⟨w', k1, k2, k3⟩ := D_store (P := P) (n := n) (t := t) (pos := pos) (af := af) (g := g) (us := [.int .u8 c]) hz hx hy rfl (by intro u hu; rw [List.mem_singleton.1 hu]; rfl) o4 (by simp; omega) w a hh he
    have hblk := k3.blk
    have e2 : (((at_nod L i).data.map bv ++ extra).take k ++ [Value.int .u8 c] ++ ((at_nod L i).data.map bv ++ extra).drop (k + 1)) = ((at_nod L i).data.map bv ++ extra).set k (bv c.toNat.toUInt8) := by
      rw [← bv_of hc, List.set_eq_take_append_cons_drop, if_pos (by simp; omega)]; simp
    rw [show k + [Value.int IntKind.u8 c].length = k + 1 from rfl, e2] at hblk
    exact ⟨w', k1, k2, D, fun b hb => by rw [List.mem_singleton.1 hb]; omega, k3.only, rcan_any hb k3.only (by omega) (fun v l o => own_any o4 hblk k3.only o)⟩
end
/-- A field other than the data stored into such a row. -/
theorem rcan_set {h h' : Heap} {B i : Nat} {L : List Nod} {y : Nod} (x : RCan h B L) (o : Only [B] h h') (r : RBuf nodS h' B (fun b => b ≠ B ∧ B ≤ b) (L.set i y)) (hi : i < L.length) (e : y.dv = (at_nod L i).dv ∧ y.data = (at_nod L i).data) : RCan h' B (L.set i y) :=
  ⟨r, fun a ha => by
    rcases List.mem_or_eq_of_mem_set ha with h1 | h1
    · exact ownB_only (x.2 a h1) o
    · rw [h1, e.1, e.2]; exact ownB_only (x.2 _ (can_mem hi)) o⟩
end Go.Xp

/- Layer 13 (tree): what Canon gives stands alone. -/
set_option linter.unusedSimpArgs false
set_option linter.unusedVariables false
set_option linter.unusedSectionVars false
namespace Go.Xp
open Go.Proofs

theorem dle_of {l : List Nod} (h : ∀ x ∈ l, x.path.length ≤ 100000000000 ∧ x.target.length ≤ 100000000000 ∧ x.data.length ≤ 100000000000) (j : Nat) : (at_nod l j).data.length ≤ 100000000000 := by
  by_cases hj : j < l.length
  · exact (h _ (can_mem hj)).2.2
  · unfold at_nod
    rw [List.getD_eq_getElem?_getD, List.getElem?_eq_none (by omega)]; exact Nat.zero_le _
theorem dle_set {l : List Nod} {i : Nat} {y : Nod} (h : ∀ j, (at_nod l j).data.length ≤ 100000000000) (hy : y.data.length ≤ 100000000000) (j : Nat) : (at_nod (l.set i y) j).data.length ≤ 100000000000 := by
  by_cases hj : i = j ∧ i < l.length
  · obtain ⟨rfl, hj⟩ := hj
    rw [at_set hj]; exact hy
  · have : at_nod (l.set i y) j = at_nod l j := by
      unfold at_nod
      rw [List.getD_eq_getElem?_getD, List.getD_eq_getElem?_getD, List.getElem?_set]
      by_cases e : i = j
      · subst e
        have : ¬ i < l.length := fun q => hj ⟨rfl, q⟩
        simp [this]
      · simp [e]
    rw [this]; exact h j

set_option maxRecDepth 100000 in
theorem treeIsolated (h : Heap) (hK : GlbK h) (hE : GlbE h) (w : Value) (l : List Nod) (hl : Rows nodS h w l) (hn : l.length ≤ 140737488355328) (hs : ∀ x ∈ l, x.path.length ≤ 140737488355328 ∧ x.target.length ≤ 140737488355328 ∧ x.data.length ≤ 140737488355328) : Cal Tryd.prog 7 #[w] h (fun v h' => v = .bool true ∧ Ext h h') := by
 refine Cal_enter (args := [w]) Tryd.func7 rfl rfl rfl (fun σ => ?_)
 refine W_seq (W_region ?_)
 refine La rfl rfl rfl rfl ?_
 refine L_nil (X_then (W_seq (W_seq (W_region ?_))))
 refine Lm rfl rfl rfl rfl ?_
 refine L_call (E_call (by kernel_rfl) rfl) (law13_TooLarge _ w l hl hn hs) rfl rfl rfl ?_
 rintro _ h1 ⟨rfl, hx1⟩
 refine L_yld (Y_gtr rfl rfl) rfl rfl rfl ?_
 refine L_nil (X_then ?_)
 refine W_sub _ (sk3 9 2 0 rfl rfl rfl sN) ?_
 refine W_splitd rfl (fun g => ?_) (fun g => ?_)
 ·refine W_seq (W_region ?_)
  refine L_call (E_call (by kernel_rfl) rfl) (law13_alive _ (hK.ext hx1) (hE.ext hx1)) rfl rfl rfl ?_
  rintro _ h2 ⟨rfl, hx2⟩
  refine La rfl rfl rfl rfl ?_
  refine L_nil (X_then ?_)
  refine W_sub _ (sk2 2 0 rfl rfl sN) ?_
  refine W_ret (X_then_ret ?_)
  refine X_ret1 rfl rfl ?_
  exact ⟨rfl, (hx1.trans hx2)⟩
 ·refine W_skip (X_then ?_)
  refine W_sub _ (sk2 2 0 rfl rfl sN) ?_
  have okA := can_okl g
  refine W_seq (W_region ?_)
  refine Lm rfl rfl rfl rfl ?_
  refine L_call (E_call (by kernel_rfl) rfl) (ref13_Canon _ w l (hl.ext hx1) okA.2.1 okA.2.2) rfl rfl rfl ?_
  rintro s03 h3 ⟨_, L04, rfl, hr05, hq06, hx7⟩
  refine La rfl rfl rfl rfl ?_
  refine L_nil (X_then ?_)
  refine W_sub _ (sk3 3 2 0 rfl rfl rfl sN) ?_
  refine W_seq (W_region ?_)
  refine Lm rfl rfl rfl rfl ?_
  refine L_call (E_call (by kernel_rfl) rfl) (tree_CanonR _ w l (hl.ext (hx1.trans hx7)) (by omega) (fun x hx => by have := okA.2.2 x hx; omega)) rfl rfl rfl ?_
  rintro _ h4 ⟨rfl, hx8, L11, hb9, hq12⟩
  have hp10 : ¬ (fun b : Nat => b ≠ h3.size ∧ h3.size ≤ b) h3.size := fun q => q.1 rfl
  refine La rfl rfl rfl rfl ?_
  refine L_nil (X_then ?_)
  refine W_sub _ (sk4 4 3 2 0 rfl rfl rfl rfl sN) ?_
  refine W_seq (W_seq (W_region ?_))
  refine Lm rfl rfl rfl rfl ?_
  refine L_yld (Y_lenr Tryd.underlying22 rfl (hb9.rows (by first | omega | (simp; omega)))) rfl rfl rfl ?_
  refine Lm rfl rfl rfl rfl ?_
  refine L_nil (X_then ?_)
  refine W_sub _ (sk6 17 16 4 3 2 0 rfl rfl rfl rfl rfl rfl sN) ?_
  refine W_block ?_
  refine W_loop (S := Nat × List Nod) (fun (i, Lc) => [(16, .int .i64 ((L11.length : Int))), (4, .slice (some ⟨h3.size, 0, none⟩) l.length l.length), (3, s03), (2, .bool false), (0, w), (17, .int .i64 ((i : Int)))]) (fun (i, Lc) h' => i ≤ l.length ∧ Lc.length = l.length ∧ (∀ j, (at_nod Lc j).data.length ≤ 100000000000) ∧ Ext h3 h' ∧ RBuf nodS h' h3.size (fun b => b ≠ h3.size ∧ h3.size ≤ b) Lc ∧ RCan h' h3.size Lc) (fun (i, Lc) => l.length - i) (0, L11) (sk6 16 4 3 2 0 17 rfl rfl rfl rfl rfl rfl sN) ?_ ?_
  ·exact ⟨Nat.zero_le _, hq12.1, dle_of (can_all (P := okl) ⟨hq12.1, hq12.2.1⟩ okA.2.2), hx8, hb9, hb9, hq12.2.2⟩
  rintro ⟨i, Lc⟩ h5 ⟨hi, hLl, hdl, hxA, hbA, hrA⟩
  show W _ _ _ _ _ [(16, .int .i64 ((L11.length : Int))), (4, .slice (some ⟨h3.size, 0, none⟩) l.length l.length), (3, s03), (2, .bool false), (0, w), (17, .int .i64 ((i : Int)))] _
  refine W_seq (W_region ?_)
  refine L_yld (Y_lss rfl rfl) rfl rfl rfl ?_
  refine L_nil (X_then (W_seq ?_))
  refine W_splitd rfl (fun c => ?_) (fun c => ?_)
  ·refine W_skip (X_then ?_)
   refine W_sub _ (sk6 16 4 3 2 0 17 rfl rfl rfl rfl rfl rfl sN) ?_
   refine W_seq (W_block (W_seq (W_region ?_)))
   refine Lm rfl rfl rfl rfl ?_
   refine La rfl rfl rfl rfl ?_
   refine L_nil (X_then ?_)
   refine W_sub _ (sk7 5 16 4 3 2 0 17 rfl rfl rfl rfl rfl rfl rfl sN) ?_
   refine W_seq (W_seq (W_region ?_))
   refine Lm rfl rfl rfl rfl ?_
   refine Lm rfl rfl rfl rfl ?_
   refine L_yld (Y_idxB Tryd.underlying22 (show _ = some 6 by kernel_rfl) rfl rfl (by first | omega | (simp; omega)) (by first | omega | (simp; omega))) rfl rfl rfl ?_
   refine L_yld (Y_fldB (off := 4) (by kernel_rfl) rfl) rfl rfl rfl ?_
   refine L_yld (Y_ldr1 (off := 4) (k := ((i : Int)).toNat) (u := ((at_nod Lc ((i : Int)).toNat).dv)) Tryd.underlying28 rfl rfl rfl (hbA.rows (by first | omega | (simp; omega))) (by first | omega | (simp; omega)) rfl) rfl rfl rfl ?_
   refine L_yld (Y_len Tryd.underlying28 rfl (show Bytes _ ((at_nod Lc ((i : Int)).toNat).dv) ((at_nod Lc ((i : Int)).toNat).data) from (hbA.okp (k := ((i : Int)).toNat) (by first | omega | (simp; omega))).1)) rfl rfl rfl ?_
   refine Lm rfl rfl rfl rfl ?_
   refine L_nil (X_then ?_)
   refine W_sub _ (sk1 26 rfl (sk8 25 5 16 4 3 2 0 17 rfl rfl rfl rfl rfl rfl rfl rfl sN)) ?_
   refine W_block ?_
   refine W_loop (S := Nat × List Nod) (fun (k, Lk) => [(25, .int .i64 ((((at_nod Lc ((i : Int)).toNat).data).length : Int))), (5, .int .i64 ((i : Int))), (16, .int .i64 ((L11.length : Int))), (4, .slice (some ⟨h3.size, 0, none⟩) l.length l.length), (3, s03), (2, .bool false), (0, w), (17, .int .i64 ((i : Int))), (26, .int .i64 ((k : Int)))]) (fun (k, Lk) h' => k ≤ (at_nod Lc i).data.length ∧ Lk.length = l.length ∧ (∀ j, (at_nod Lk j).data.length = (at_nod Lc j).data.length) ∧ Ext h3 h' ∧ RBuf nodS h' h3.size (fun b => b ≠ h3.size ∧ h3.size ≤ b) Lk ∧ RCan h' h3.size Lk) (fun (k, Lk) => (at_nod Lc i).data.length - k) (0, Lc) (sk1 25 rfl (sk8 5 16 4 3 2 0 17 26 rfl rfl rfl rfl rfl rfl rfl rfl sN)) ?_ ?_
   ·exact ⟨Nat.zero_le _, hLl, fun j => rfl, hxA, hbA, hrA⟩
   rintro ⟨k, Lk⟩ h6 ⟨hk, hLk, hdk, hxB, hbB, hrB⟩
   show W _ _ _ _ _ [(25, .int .i64 ((((at_nod Lc ((i : Int)).toNat).data).length : Int))), (5, .int .i64 ((i : Int))), (16, .int .i64 ((L11.length : Int))), (4, .slice (some ⟨h3.size, 0, none⟩) l.length l.length), (3, s03), (2, .bool false), (0, w), (17, .int .i64 ((i : Int))), (26, .int .i64 ((k : Int)))] _
   have hd9 := hdl i; have hd8 : (at_nod Lk ((i : Int)).toNat).data.length = (at_nod Lc ((i : Int)).toNat).data.length := hdk _; have hd7 : (at_nod Lc ((i : Int)).toNat).data.length = (at_nod Lc i).data.length := rfl
   refine W_seq (W_region ?_)
   refine L_yld (Y_lss rfl rfl) rfl rfl rfl ?_
   refine L_nil (X_then (W_seq ?_))
   refine W_splitd rfl (fun c2 => ?_) (fun c2 => ?_)
   ·refine W_skip (X_then ?_)
    refine W_sub _ (sk1 25 rfl (sk8 5 16 4 3 2 0 17 26 rfl rfl rfl rfl rfl rfl rfl rfl sN)) ?_
    refine W_seq (W_block (W_seq (W_region ?_)))
    refine Lm rfl rfl rfl rfl ?_
    refine La rfl rfl rfl rfl ?_
    refine L_nil (X_then ?_)
    refine W_sub _ (sk2 6 25 rfl rfl (sk8 5 16 4 3 2 0 17 26 rfl rfl rfl rfl rfl rfl rfl rfl sN)) ?_
    refine W_region ?_
    refine Lm rfl rfl rfl rfl ?_
    refine Lm rfl rfl rfl rfl ?_
    refine L_yld (Y_idxB Tryd.underlying22 (show _ = some 6 by kernel_rfl) rfl rfl (by first | omega | (simp; omega)) (by first | omega | (simp; omega))) rfl rfl rfl ?_
    refine L_yld (Y_fldB (off := 4) (by kernel_rfl) rfl) rfl rfl rfl ?_
    refine L_yld (Y_ldr1 (off := 4) (k := ((i : Int)).toNat) (u := ((at_nod Lk ((i : Int)).toNat).dv)) Tryd.underlying28 rfl rfl rfl (hbB.rows (by first | omega | (simp; omega))) (by first | omega | (simp; omega)) rfl) rfl rfl rfl ?_
    refine Lm rfl rfl rfl rfl ?_
    refine L_yld (Y_idx Tryd.underlying28 (show _ = some 1 by kernel_rfl) rfl rfl (show Bytes _ ((at_nod Lk ((i : Int)).toNat).dv) ((at_nod Lk ((i : Int)).toNat).data) from (hbB.okp (k := ((i : Int)).toNat) (by first | omega | (simp; omega))).1) (by first | omega | (simp; omega)) (by first | omega | (simp; omega))) rfl rfl rfl ?_
    refine L_yld (Y_ldbyte Tryd.underlying5 rfl rfl (show Bytes _ ((at_nod Lk ((i : Int)).toNat).dv) ((at_nod Lk ((i : Int)).toNat).data) from (hbB.okp (k := ((i : Int)).toNat) (by first | omega | (simp; omega))).1) (by first | omega | (simp; omega)) (by first | omega | (simp; omega))) rfl rfl rfl ?_
    refine L_yld (Y_xoru8 rfl rfl) rfl rfl rfl ?_
    refine L_yld (Y_idx Tryd.underlying28 (show _ = some 1 by kernel_rfl) rfl rfl (show Bytes _ ((at_nod Lk ((i : Int)).toNat).dv) ((at_nod Lk ((i : Int)).toNat).data) from (hbB.okp (k := ((i : Int)).toNat) (by first | omega | (simp; omega))).1) (by first | omega | (simp; omega)) (by first | omega | (simp; omega))) rfl rfl rfl ?_
    refine L_dos (D_anyb (B := h3.size) (i := ((i : Int)).toNat) (k := ((k : Int)).toNat) (L := Lk) (show _ = some 1 by kernel_rfl) rfl rfl (by first | exact ux_le _ _ | omega) hrB (by first | omega | (simp; omega)) (by first | omega | (simp; omega))) rfl rfl ?_
    rintro h7 ⟨D13, hD14, hx15, L16, hlC, hdC, hrC⟩
    have hb17 := hrC.1
    refine L_nil (X_block (X_then ?_))
    refine W_sub _ (sk1 25 rfl (sk8 5 16 4 3 2 0 17 26 rfl rfl rfl rfl rfl rfl rfl rfl sN)) ?_
    refine W_region ?_
    refine L_yld (Y_add rfl rfl (by first | omega | (simp; omega)) (by first | omega | (simp; omega))) rfl rfl rfl ?_
    refine Lm rfl rfl rfl rfl ?_
    refine L_nil ?_
    refine X_loop ((k + 1, L16)) (sk1 25 rfl (sk8 5 16 4 3 2 0 17 26 rfl rfl rfl rfl rfl rfl rfl rfl sN)) ?_ ?_
    ·exact ⟨by omega, by rw [hlC]; exact hLk, fun j => (hdC j).trans (hdk j), (hxB.then' hx15 hD14 (Nat.le_refl _)), hb17, hrC⟩
    ·(try dsimp only)
     omega
   ·refine W_exit ?_
    refine X_then_exit (X_then_exit ?_)
    refine X_block_hit ?_
    refine X_then ?_
    refine W_sub _ (sk7 5 16 4 3 2 0 17 rfl rfl rfl rfl rfl rfl rfl sN) ?_
    refine W_region ?_
    refine Lm rfl rfl rfl rfl ?_
    refine Lm rfl rfl rfl rfl ?_
    refine L_yld (Y_idxB Tryd.underlying22 (show _ = some 6 by kernel_rfl) rfl rfl (by first | omega | (simp; omega)) (by first | omega | (simp; omega))) rfl rfl rfl ?_
    refine L_yld (Y_fldB (off := 1) (by kernel_rfl) rfl) rfl rfl rfl ?_
    have hq20 : Okp nodS h6 (fun b : Nat => b ≠ h3.size ∧ h3.size ≤ b) (⟨(at_nod Lk ((i : Int)).toNat).kind, [], (at_nod Lk ((i : Int)).toNat).mode, (at_nod Lk ((i : Int)).toNat).target, (at_nod Lk ((i : Int)).toNat).dv, (at_nod Lk ((i : Int)).toNat).data, (at_nod Lk ((i : Int)).toNat).cls⟩ : Nod) := (okp_fld (x := (at_nod Lk ((i : Int)).toNat)) rfl (hbB.okp (k := ((i : Int)).toNat) (by first | omega | (simp; omega))))
    refine L_dos (D_rset (S := nodS) (us := [str []]) (a := (⟨(at_nod Lk ((i : Int)).toNat).kind, [], (at_nod Lk ((i : Int)).toNat).mode, (at_nod Lk ((i : Int)).toNat).target, (at_nod Lk ((i : Int)).toNat).dv, (at_nod Lk ((i : Int)).toNat).data, (at_nod Lk ((i : Int)).toNat).cls⟩ : Nod)) (k := ((i : Int)).toNat) (off := 1) (show _ = some 1 by kernel_rfl) rfl rfl rfl rfl (by simp [Value.oneCell']) hbB (by first | omega | (simp; omega)) (show 2 ≤ 6 by decide) rfl hq20.1 hq20.2 hp10) rfl rfl ?_
    rintro h8 ⟨hx18, -, hb19⟩
    refine L_nil (X_block (X_then ?_))
    refine W_sub _ (sk6 16 4 3 2 0 17 rfl rfl rfl rfl rfl rfl sN) ?_
    refine W_region ?_
    refine L_yld (Y_add rfl rfl (by first | omega | (simp; omega)) (by first | omega | (simp; omega))) rfl rfl rfl ?_
    refine Lm rfl rfl rfl rfl ?_
    refine L_nil ?_
    refine X_loop ((i + 1, (Lk.set (((i : Int)).toNat) (⟨(at_nod Lk ((i : Int)).toNat).kind, [], (at_nod Lk ((i : Int)).toNat).mode, (at_nod Lk ((i : Int)).toNat).target, (at_nod Lk ((i : Int)).toNat).dv, (at_nod Lk ((i : Int)).toNat).data, (at_nod Lk ((i : Int)).toNat).cls⟩ : Nod)))) (sk6 16 4 3 2 0 17 rfl rfl rfl rfl rfl rfl sN) ?_ ?_
    ·exact ⟨by omega, by simp [hLk], dle_set (fun j => by rw [hdk j]; exact hdl j) (Nat.le_trans (Nat.le_of_eq (hdk i)) (hdl i)), (hxB.then' hx18 (by simp) (Nat.le_refl _)), hb19, rcan_set hrB (Only.trans (Only.refl _ _) hx18 (fun _ hb_ => .inl hb_)) hb19 (by omega) ⟨rfl, rfl⟩⟩
    ·(try dsimp only)
     omega
  ·refine W_exit ?_
   refine X_then_exit (X_then_exit ?_)
   refine X_block_hit ?_
   refine X_then ?_
   refine W_sub _ (sk3 3 2 0 rfl rfl rfl sN) ?_
   refine W_seq (W_region ?_)
   refine L_call (E_call (by kernel_rfl) rfl) (law13_alive _ (hK.ext ((hx1.trans hx7).trans hxA)) (hE.ext ((hx1.trans hx7).trans hxA))) rfl rfl rfl ?_
   rintro _ h9 ⟨rfl, hx21⟩
   refine Lm rfl rfl rfl rfl ?_
   refine Lm rfl rfl rfl rfl ?_
   refine Lm rfl rfl rfl rfl ?_
   refine L_call (E_call (by kernel_rfl) rfl) (ref13_Canon _ w l (hl.ext (((hx1.trans hx7).trans hxA).trans hx21)) okA.2.1 okA.2.2) rfl rfl rfl ?_
   rintro s022 h10 ⟨_, L023, rfl, hr024, hq025, hx26⟩
   refine L_call (E_call (by kernel_rfl) rfl) (ref13_Same _ s03 L04 (hr05.ext ((hxA.trans hx21).trans hx26)) s022 L023 hr024 (by have := hq06.1; omega)) rfl rfl rfl ?_
   rintro _ h11 ⟨rfl, hx27⟩
   refine L_yld (Y_pick_t rfl rfl) rfl rfl rfl ?_
   refine La rfl rfl rfl rfl ?_
   refine L_nil (X_then ?_)
   refine W_sub _ (sk1 2 rfl sN) ?_
   refine W_ret ?_
   refine X_ret1 rfl rfl ?_
   exact ⟨congrArg Value.bool ((lsame_c (by assumption) (by assumption)).trans (lsame_refl _)), (((((hx1.trans hx7).trans hxA).trans hx21).trans hx26).trans hx27)⟩
end Go.Xp
