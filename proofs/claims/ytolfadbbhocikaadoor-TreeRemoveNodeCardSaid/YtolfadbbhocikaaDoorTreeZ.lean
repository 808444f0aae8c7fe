/- Layer 13 (tree): removing a node. -/
import Derived.Test.YtolfadbbhocikaaDoorTreeV
import Derived.Test.YtolfadbbhocikaaDoorAppE
set_option linter.unusedSimpArgs false
set_option linter.unusedVariables false
set_option linter.unusedSectionVars false
namespace Go.Xp
open Go.Proofs

/-- The list without its element i. -/
def rst (l : List Nod) (i : Nat) : List Nod := l.take i ++ l.drop (i + 1)
theorem rst_len {l : List Nod} {i : Nat} (hi : i < l.length) : (rst l i).length = l.length - 1 := rest_len hi
theorem mem_rst {l : List Nod} {i : Nat} {x : Nod} (h : x ∈ rst l i) : x ∈ l := (List.mem_append.1 h).elim List.mem_of_mem_take List.mem_of_mem_drop
def dscb (r : List Nod) (p : List UInt8) (n : Nat) : Bool := (List.range n).any fun k => decide (p.length < (at_nod r k).path.length ∧ (at_nod r k).path.take p.length = p)
theorem dscb_iff {r : List Nod} {p : List UInt8} {n : Nat} : dscb r p n = true ↔ ∃ k, k < n ∧ p.length < (at_nod r k).path.length ∧ (at_nod r k).path.take p.length = p := by
  unfold dscb; rw [List.any_eq_true]
  constructor
  · rintro ⟨k, hk, h⟩; exact ⟨k, List.mem_range.1 hk, of_decide_eq_true h⟩
  · rintro ⟨k, hk, h⟩; exact ⟨k, List.mem_range.2 hk, decide_eq_true h⟩
theorem dscb_step (r : List Nod) (p : List UInt8) (j : Nat) : decide ((dscb r p j = true) ∨ (((p.length : Int) < ((at_nod r j).path.length : Int)) ∧ ((at_nod r j).path.take ((p.length : Int)).toNat = p))) = dscb r p (j + 1) := by
  have e : dscb r p (j + 1) = (dscb r p j || decide (p.length < (at_nod r j).path.length ∧ (at_nod r j).path.take p.length = p)) := by
    unfold dscb; rw [List.range_succ, List.any_append]; simp
  rw [e, Bool.decide_or, Bool.decide_eq_true]
  simp only [Int.toNat_natCast, Int.ofNat_lt]
theorem rest_of {l : List Nod} {i : Nat} (h : TOk l) (hi : i < l.length) (pr : dscb (rst l i) ((at_nod l i).path ++ [47]) (rst l i).length = true) : terr (rst l i) = 13 ∧ tpos (rst l i) < (l.length : Int) - 1 := by
  obtain ⟨k, hk, h1, h2⟩ := dscb_iff.1 pr
  rw [rst_len hi] at hk
  have e : at_nod (rst l i) k = at_nod l (skip i k) := rest_at hi hk
  rw [e] at h1 h2
  refine rest_bad h hi (skip_lt hi hk).1 (s := (at_nod l (skip i k)).path.drop ((at_nod l i).path ++ [47]).length) ?_
  conv => lhs; rw [← List.take_append_drop ((at_nod l i).path ++ [47]).length (at_nod l (skip i k)).path, h2]
theorem rest_no {l : List Nod} {i : Nat} (h : TOk l) (hi : i < l.length) (pr : ¬ dscb (rst l i) ((at_nod l i).path ++ [47]) (rst l i).length = true) : terr (rst l i) = 0 ∧ tpos (rst l i) = (l.length : Int) - 1 := by
  refine rest_good h hi (fun k hk s hs e => ?_)
  by_cases hki : k = i
  · subst hki
    have := congrArg List.length e
    simp at this
  · obtain ⟨j, hj, hjs⟩ := skip_of hk hki hi
    refine pr (dscb_iff.2 ⟨j, by rw [rst_len hi]; exact hj, ?_⟩)
    have e1 : at_nod (rst l i) j = at_nod l k := (rest_at hi hj).trans (by rw [hjs])
    rw [e1, e]
    refine ⟨?_, by rw [List.take_left']; simp⟩
    have : 0 < s.length := List.length_pos_iff.2 hs
    simp only [List.length_append]; omega

set_option maxRecDepth 100000 in
theorem treeRemoveNode (h : Heap) (hK : GlbK h) (hE : GlbE h) (w : Value) (l : List Nod) (hl : Rows nodS h w l) (a : Int) (hn : l.length ≤ 140737488355328) (hs : ∀ x ∈ l, x.path.length ≤ 140737488355328 ∧ x.target.length ≤ 140737488355328 ∧ x.data.length ≤ 140737488355328) (ha : 0 ≤ a ∧ a ≤ 255) : Cal Tryd.prog 3 #[w, .int .u8 (a)] h (fun v h' => v = .bool true ∧ Ext h h') := by
  refine Cal_enter (args := [w, .int .u8 (a)]) Tryd.func3 rfl rfl rfl (fun σ => ?_)
  refine W_seq ?_
  refine W_region ?_
  refine L_yld (Y_assign rfl) rfl rfl rfl ?_
  refine L_nil ?_
  refine X_then ?_
  refine W_seq ?_
  refine W_cut (S := Unit) (fun _ => [(25, .bool (decide ((0 < (ntoo l)) ∨ ((l.length : Int) = 0)))), (4, .bool false), (0, w), (1, .int .u8 (a))]) (fun _ h' => Ext h h') ?_ ?_
  · refine W_region ?_
    refine L_yld (Y_move rfl) rfl rfl rfl ?_
    refine L_call (E_call (by kernel_rfl) rfl) (law13_TooLarge _ w l hl hn hs) rfl rfl rfl ?_
    rintro _ h1 ⟨rfl, hx1⟩
    refine L_yld (Y_gtr rfl rfl) rfl rfl rfl ?_
    refine L_yld (Y_move rfl) rfl rfl rfl ?_
    refine L_splitd (d := 21) rfl (fun c2 => ?_) (fun c2 => ?_)
    · refine L_skip rfl rfl rfl ?_
      refine L_skip rfl rfl rfl ?_
      refine L_skip rfl rfl rfl ?_
      refine L_yld (Y_pick_t rfl rfl) rfl rfl rfl ?_
      refine L_nil ?_
      exact X_cut () (.cons (i := 25) (lkb rfl (by simp only [eq_true c2, true_and, and_true, false_and, and_false, true_or, or_true, false_or, or_false, not_true_eq_false, not_false_eq_true, decide_true, decide_false, Bool.true_eq_false, Bool.false_eq_true, eq_self, Bool.decide_eq_true])) (.cons (i := 4) rfl (.cons (i := 0) rfl (.cons (i := 1) rfl (.nil _))))) hx1
    · refine L_yld (Y_move rfl) rfl rfl rfl ?_
      refine L_yld (Y_lenr Tryd.underlying22 rfl (hl.ext hx1)) rfl rfl rfl ?_
      refine L_yld (Y_eql rfl rfl) rfl rfl rfl ?_
      refine L_yld (Y_pick_f rfl rfl) rfl rfl rfl ?_
      refine L_nil ?_
      exact X_cut () (.cons (i := 25) (lkb rfl (by simp only [eq_false c2, true_and, and_true, false_and, and_false, true_or, or_true, false_or, or_false, not_true_eq_false, not_false_eq_true, decide_true, decide_false, Bool.true_eq_false, Bool.false_eq_true, eq_self, Bool.decide_eq_true])) (.cons (i := 4) rfl (.cons (i := 0) rfl (.cons (i := 1) rfl (.nil _))))) hx1
  rintro _ h2 hx3
  show W _ _ _ _ _ [(25, .bool (decide ((0 < (ntoo l)) ∨ ((l.length : Int) = 0)))), (4, .bool false), (0, w), (1, .int .u8 (a))] _
  refine W_splitd rfl (fun g => ?_) (fun g => ?_)
  · refine W_seq ?_
    refine W_region ?_
    refine L_call (E_call (by kernel_rfl) rfl) (law13_alive _ (hK.ext hx3) (hE.ext hx3)) rfl rfl rfl ?_
    rintro _ h3 ⟨rfl, hx4⟩
    refine L_yld (Y_assign rfl) rfl rfl rfl ?_
    refine L_nil ?_
    refine X_then ?_
    refine W_sub _ (.cons (i := 4) rfl (.cons (i := 0) rfl (.cons (i := 1) rfl (.nil _)))) ?_
    refine W_ret ?_
    refine X_then_ret ?_
    refine X_ret1 rfl rfl ?_
    exact ⟨rfl, (hx3.trans hx4)⟩
  · refine W_skip ?_
    refine X_then ?_
    refine W_sub _ (.cons (i := 4) rfl (.cons (i := 0) rfl (.cons (i := 1) rfl (.nil _)))) ?_
    refine W_seq ?_
    refine W_seq ?_
    refine W_region ?_
    refine L_yld (Y_move rfl) rfl rfl rfl ?_
    refine L_call (E_call (by kernel_rfl) rfl) (tree_Check _ (hK.ext hx3) (hE.ext hx3) w l (hl.ext hx3) hn hs) rfl rfl rfl ?_
    rintro _ h4 ⟨rfl, hx5⟩
    refine L_yld (Y_move rfl) rfl rfl rfl ?_
    refine L_yld (Y_extract (v := .int .i64 (tpos l)) rfl rfl) rfl rfl rfl ?_
    refine L_yld (Y_extract (v := .int .i64 (terr l)) rfl rfl) rfl rfl rfl ?_
    refine L_yld (Y_assign rfl) rfl rfl rfl ?_
    refine L_yld (Y_assign rfl) rfl rfl rfl ?_
    refine L_nil ?_
    refine X_then ?_
    refine W_sub _ (.cons (i := 6) rfl (.cons (i := 4) rfl (.cons (i := 0) rfl (.cons (i := 1) rfl (.nil _))))) ?_
    refine W_seq ?_
    refine W_region ?_
    refine L_yld (Y_move rfl) rfl rfl rfl ?_
    refine L_yld (Y_neq rfl rfl) rfl rfl rfl ?_
    refine L_nil ?_
    refine X_then ?_
    refine W_sub _ (.cons (i := 33) rfl (.cons (i := 4) rfl (.cons (i := 0) rfl (.cons (i := 1) rfl (.nil _))))) ?_
    refine W_splitd rfl (fun e => ?_) (fun e => ?_)
    · refine W_seq ?_
      refine W_region ?_
      refine L_call (E_call (by kernel_rfl) rfl) (law13_alive _ (hK.ext (hx3.trans hx5)) (hE.ext (hx3.trans hx5))) rfl rfl rfl ?_
      rintro _ h5 ⟨rfl, hx6⟩
      refine L_yld (Y_assign rfl) rfl rfl rfl ?_
      refine L_nil ?_
      refine X_then ?_
      refine W_sub _ (.cons (i := 4) rfl (.cons (i := 0) rfl (.cons (i := 1) rfl (.nil _)))) ?_
      refine W_ret ?_
      refine X_then_ret ?_
      refine X_ret1 rfl rfl ?_
      exact ⟨rfl, ((hx3.trans hx5).trans hx6)⟩
    · refine W_skip ?_
      refine X_then ?_
      refine W_sub _ (.cons (i := 4) rfl (.cons (i := 0) rfl (.cons (i := 1) rfl (.nil _)))) ?_
      have tok := tok_of (Classical.not_not.1 e)
      have hlen : l.length ≤ 40 := (ntoo_ok (fun h9 => g (.inl h9))).1
      have hl0 : 0 < l.length := by omega
      refine W_seq ?_
      refine W_region ?_
      refine L_yld (Y_move rfl) rfl rfl rfl ?_
      refine L_yld (Y_convs Tryd.underlying5 Tryd.underlying3 rfl (wrap_i64 (by omega) (by omega))) rfl rfl rfl ?_
      refine L_yld (Y_move rfl) rfl rfl rfl ?_
      refine L_yld (Y_lenr Tryd.underlying22 rfl (hl.ext (hx3.trans hx5))) rfl rfl rfl ?_
      refine L_yld (Y_rem rfl rfl (by omega) (by omega)) rfl rfl rfl ?_
      refine L_yld (Y_assign rfl) rfl rfl rfl ?_
      refine L_nil ?_
      refine X_then ?_
      refine W_sub _ (.cons (i := 7) rfl (.cons (i := 4) rfl (.cons (i := 0) rfl (.nil _)))) ?_
      obtain ⟨i, hi⟩ : ∃ i : Nat, a % (l.length : Int) = (i : Int) := ⟨(a % (l.length : Int)).toNat, (by have := Int.emod_nonneg a (show (l.length : Int) ≠ 0 by omega); omega)⟩; have hil : i < l.length := (by have := Int.emod_lt_of_pos a (show (0 : Int) < l.length by omega); omega); rw [hi]
      refine W_seq ?_
      refine W_pers [(7, .int .i64 ((i : Int))), (4, .bool false), (0, w)] (.cons (i := 7) rfl (.cons (i := 4) rfl (.cons (i := 0) rfl (.nil _)))) (by kernel_rfl) ?_
      refine LP_op 0 (fun hh r7_1 => RowsE nodS hh h4.size r7_1) [] rfl rfl (by kernel_rfl) (fun _ _ _ x_ p_ => p_.ext x_) ?_ ?_
      · intro h6 hx7
        refine Needs_nil ?_
        refine Stp_mks (M_litr0 (S := nodS) (cells := []) (E := 30) rfl rfl (fun _ => by kernel_rfl)) rfl ?_
        rintro v8 h7 ⟨ho9, hx10⟩
        exact ⟨hx10, (ho9.low hx7.size)⟩
      refine LP_op 1 (fun _ vv => w = vv) [] rfl rfl (by kernel_rfl) (fun _ _ _ _ p => p) ?_ ?_
      · intro h8 hx11
        refine Needs_nil ?_
        refine Stp_yld (Y_move rfl) rfl ?_
        exact rfl
      refine LP_op 2 (fun _ vv => .int .i64 ((i : Int)) = vv) [] rfl rfl (by kernel_rfl) (fun _ _ _ _ p => p) ?_ ?_
      · intro h9 hx12
        refine Needs_nil ?_
        refine Stp_yld (Y_move rfl) rfl ?_
        exact rfl
      refine LP_op 3 (fun hh r7_2 => Rows nodS hh r7_2 (l.take ((i : Int)).toNat)) [(1, 41), (2, 42)] rfl rfl (by kernel_rfl) (fun _ _ _ x_ p_ => p_.ext x_) ?_ ?_
      · intro h10 hx13
        rintro _ rfl
        rintro _ rfl
        refine Needs_nil ?_
        have hb14 : Rows nodS h10 (slcut 6 0 ((i : Int)).toNat w) (l.take ((i : Int)).toNat) := ((hl.ext ((hx3.trans hx5).trans hx13)).cuth (hi := ((i : Int)).toNat) (by omega))
        refine Stp_yld (Y_cutr_h Tryd.underlying22 (show _ = some 6 by kernel_rfl) rfl rfl (hl.ext ((hx3.trans hx5).trans hx13)) rfl (by omega) (by omega)) rfl ?_
        exact hb14
      refine LP_op 4 (fun hh r7_3 => RowsO nodS hh h4.size r7_3 (l.take ((i : Int)).toNat)) [(0, 40), (3, 43)] rfl rfl (by kernel_rfl) (fun _ _ _ x_ p_ => p_.ext x_) ?_ ?_
      · intro h11 hx15
        intro r7_1 q7_1
        intro r7_2 q7_2
        refine Needs_nil ?_
        refine Stp_mks (M_appe (z := 6) (bytes := 80) (z0 := (.agg #[.int .i64 0, str [], .int .i64 0, str [], .slice none 0 0, .int .i64 0])) Tryd.underlying22 (by unfold elemRow; kernel_rfl) rfl rfl (by decide) rfl rfl q7_1 q7_2 hx15.size (by first | (simp; done) | (simp; omega) | omega)) rfl ?_
        rintro v16 h12 ⟨ho17, hx18⟩
        exact ⟨hx18, (ho17.low (Nat.le_refl _))⟩
      refine LP_op 5 (fun _ vv => w = vv) [] rfl rfl (by kernel_rfl) (fun _ _ _ _ p => p) ?_ ?_
      · intro h13 hx19
        refine Needs_nil ?_
        refine Stp_yld (Y_move rfl) rfl ?_
        exact rfl
      refine LP_op 6 (fun _ vv => .int .i64 ((i : Int)) = vv) [] rfl rfl (by kernel_rfl) (fun _ _ _ _ p => p) ?_ ?_
      · intro h14 hx20
        refine Needs_nil ?_
        refine Stp_yld (Y_move rfl) rfl ?_
        exact rfl
      refine LP_op 7 (fun _ vv => .int .i64 ((i : Int) + 1) = vv) [(6, 46)] rfl rfl (by kernel_rfl) (fun _ _ _ _ p => p) ?_ ?_
      · intro h15 hx21
        rintro _ rfl
        refine Needs_nil ?_
        refine Stp_yld (Y_add rfl rfl (by omega) (by omega)) rfl ?_
        exact rfl
      refine LP_op 8 (fun hh r7_4 => Rows nodS hh r7_4 (l.drop ((i : Int) + 1).toNat)) [(5, 45), (7, 47)] rfl rfl (by kernel_rfl) (fun _ _ _ x_ p_ => p_.ext x_) ?_ ?_
      · intro h16 hx22
        rintro _ rfl
        rintro _ rfl
        refine Needs_nil ?_
        have hb23 : Rows nodS h16 (slcut 6 ((i : Int) + 1).toNat l.length w) (l.drop ((i : Int) + 1).toNat) := ((hl.ext ((hx3.trans hx5).trans hx22)).cutl (lo := ((i : Int) + 1).toNat) (by omega))
        refine Stp_yld (Y_cutr_l Tryd.underlying22 (show _ = some 6 by kernel_rfl) rfl rfl (hl.ext ((hx3.trans hx5).trans hx22)) rfl (by omega) (by omega)) rfl ?_
        exact hb23
      refine LP_tail rfl 9 [(4, 44), (8, 48)] rfl rfl (by kernel_rfl) (by kernel_rfl) (by kernel_rfl) rfl ?_
      intro h17 hx24
      intro r7_3 q7_3
      intro r7_4 q7_4
      refine Needs_nil ?_
      refine L_mks (M_apprO (z := 6) (bytes := 80) (z0 := (.agg #[.int .i64 0, str [], .int .i64 0, str [], .slice none 0 0, .int .i64 0])) Tryd.underlying22 (by unfold elemRow; kernel_rfl) rfl rfl (by decide) rfl rfl q7_3 q7_4 hx24.size (by first | (simp; done) | (simp; omega) | omega) ((hx3.trans hx5).trans hx24) (Nat.le_trans hx3.size hx5.size) (fun x hx => hl.2 x (List.mem_of_mem_take hx)) (fun x hx => hl.2 x (List.mem_of_mem_drop hx))) rfl rfl rfl ?_
      rintro v25 h18 ha26
      refine L_yld (Y_assign rfl) rfl rfl rfl ?_
      refine L_nil ?_
      refine X_then ?_
      refine W_sub _ (.cons (i := 8) rfl (.cons (i := 7) rfl (.cons (i := 4) rfl (.cons (i := 0) rfl (.nil _))))) ?_
      have ho27 : RowsO nodS h18 h4.size v25 (rst l i) := ha26.own
      have hrl := rst_len hil
      refine W_seq ?_
      refine W_region ?_
      refine L_yld (Y_assign rfl) rfl rfl rfl ?_
      refine L_nil ?_
      refine X_then ?_
      refine W_seq ?_
      refine W_seq ?_
      refine W_region ?_
      refine L_yld (Y_move rfl) rfl rfl rfl ?_
      refine L_yld (Y_lenr Tryd.underlying22 rfl ho27.rows) rfl rfl rfl ?_
      refine L_yld (Y_move rfl) rfl rfl rfl ?_
      refine L_nil ?_
      refine X_then ?_
      refine W_block ?_
      refine W_loop (S := Nat) (fun j => [(51, .int .i64 (((rst l i).length : Int))), (50, v25), (8, v25), (7, .int .i64 ((i : Int))), (4, .bool false), (0, w), (9, .bool (dscb (rst l i) ((at_nod l i).path ++ [47]) j)), (52, .int .i64 ((j : Int)))]) (fun j h' => j ≤ (rst l i).length ∧ Ext h18 h') (fun j => (rst l i).length - j) 0 (.cons (i := 51) rfl (.cons (i := 50) rfl (.cons (i := 8) rfl (.cons (i := 7) rfl (.cons (i := 4) rfl (.cons (i := 0) rfl (.cons (i := 9) (lkb rfl (by rfl)) (.cons (i := 52) rfl (.nil _))))))))) ?_ ?_
      · exact ⟨Nat.zero_le _, Ext.refl _⟩
      rintro j h19 ⟨hj, hxa⟩
      show W _ _ _ _ _ [(51, .int .i64 (((rst l i).length : Int))), (50, v25), (8, v25), (7, .int .i64 ((i : Int))), (4, .bool false), (0, w), (9, .bool (dscb (rst l i) ((at_nod l i).path ++ [47]) j)), (52, .int .i64 ((j : Int)))] _
      refine W_seq ?_
      refine W_region ?_
      refine L_yld (Y_lss rfl rfl) rfl rfl rfl ?_
      refine L_nil ?_
      refine X_then ?_
      refine W_seq ?_
      refine W_splitd rfl (fun hlt => ?_) (fun hlt => ?_)
      · refine W_skip ?_
        refine X_then ?_
        refine W_sub _ (.cons (i := 51) rfl (.cons (i := 50) rfl (.cons (i := 8) rfl (.cons (i := 7) rfl (.cons (i := 4) rfl (.cons (i := 0) rfl (.cons (i := 9) rfl (.cons (i := 52) rfl (.nil _))))))))) ?_
        refine W_seq ?_
        refine W_block ?_
        refine W_seq ?_
        refine W_region ?_
        refine L_yld (Y_idxr Tryd.underlying22 (show _ = some 6 by kernel_rfl) rfl rfl rfl (ho27.rows.ext hxa) (by omega) (by omega)) rfl rfl rfl ?_
        refine L_yld (Y_ldrA0 (k := ((j : Int)).toNat) (us := [.int .i64 ((at_nod (rst l i) ((j : Int)).toNat).kind), str ((at_nod (rst l i) ((j : Int)).toNat).path), .int .i64 ((at_nod (rst l i) ((j : Int)).toNat).mode), str ((at_nod (rst l i) ((j : Int)).toNat).target), ((at_nod (rst l i) ((j : Int)).toNat).dv), .int .i64 ((at_nod (rst l i) ((j : Int)).toNat).cls)]) Tryd.underlying30 rfl (show _ = some 6 by kernel_rfl) rfl rfl (ho27.rows.ext hxa) (by omega) rfl) rfl rfl rfl ?_
        refine L_mks (M_alloc (u := .agg #[.int .i64 0, str [], .int .i64 0, str [], .slice none 0 0, .int .i64 0]) (by kernel_rfl)) rfl rfl rfl ?_
        rintro _ h20 ⟨rfl, hn28⟩
        have hk29 : Blk h20 h19.size [.int .i64 0, str [], .int .i64 0, str [], .slice none 0 0, .int .i64 0] := hn28.blk
        refine L_dos (D_store (us := [.int .i64 ((at_nod (rst l i) ((j : Int)).toNat).kind), str ((at_nod (rst l i) ((j : Int)).toNat).path), .int .i64 ((at_nod (rst l i) ((j : Int)).toNat).mode), str ((at_nod (rst l i) ((j : Int)).toNat).target), ((at_nod (rst l i) ((j : Int)).toNat).dv), .int .i64 ((at_nod (rst l i) ((j : Int)).toNat).cls)]) (show _ = some 6 by kernel_rfl) rfl rfl rfl (by intro u_ hu_; simp only [List.mem_cons, List.not_mem_nil, or_false] at hu_; rcases hu_ with rfl | rfl | rfl | rfl | rfl | rfl <;> first | rfl | exact ((show Bytes _ ((at_nod (rst l i) ((j : Int)).toNat).dv) ((at_nod (rst l i) ((j : Int)).toNat).data) from (ho27.rows.ext (hxa.trans hn28.ext)).okat (k := ((j : Int)).toNat) (by omega))).cell1) hk29 (by simp)) rfl rfl ?_
        rintro h21 hp30
        have hk31 : Blk h21 h19.size [.int .i64 ((at_nod (rst l i) ((j : Int)).toNat).kind), str ((at_nod (rst l i) ((j : Int)).toNat).path), .int .i64 ((at_nod (rst l i) ((j : Int)).toNat).mode), str ((at_nod (rst l i) ((j : Int)).toNat).target), ((at_nod (rst l i) ((j : Int)).toNat).dv), .int .i64 ((at_nod (rst l i) ((j : Int)).toNat).cls)] := hp30.blk
        refine L_nil ?_
        refine X_then ?_
        refine W_sub _ (.cons (i := 11) rfl (.cons (i := 51) rfl (.cons (i := 50) rfl (.cons (i := 8) rfl (.cons (i := 7) rfl (.cons (i := 4) rfl (.cons (i := 0) rfl (.cons (i := 9) rfl (.cons (i := 52) rfl (.nil _)))))))))) ?_
        have hmm := hs _ (nod_mem (l := l) (k := (i : Int).toNat) (by omega))
        have hmm2 := hs _ (nod_mem (l := l) (k := i) hil)
        refine W_seq ?_
        refine W_region ?_
        refine L_yld (Y_move rfl) rfl rfl rfl ?_
        refine L_yld (Y_move rfl) rfl rfl rfl ?_
        refine L_yld (Y_idxr Tryd.underlying22 (show _ = some 6 by kernel_rfl) rfl rfl rfl (hl.ext ((((((hx3.trans hx5).trans hx24).then' ha26.only ha26.ge (Nat.le_trans hx3.size hx5.size)).trans hxa).trans hn28.ext).then' hp30.only (by simp) (Nat.le_trans (Nat.le_trans (Nat.le_trans (Nat.le_trans hx3.size hx5.size) hx24.size) ha26.only.size) hxa.size))) (by omega) (by omega)) rfl rfl rfl ?_
        refine L_yld (Y_fldr (k := ((i : Int)).toNat) (off := 1) (by kernel_rfl) rfl (hl.ext ((((((hx3.trans hx5).trans hx24).then' ha26.only ha26.ge (Nat.le_trans hx3.size hx5.size)).trans hxa).trans hn28.ext).then' hp30.only (by simp) (Nat.le_trans (Nat.le_trans (Nat.le_trans (Nat.le_trans hx3.size hx5.size) hx24.size) ha26.only.size) hxa.size))) (by omega)) rfl rfl rfl ?_
        refine L_yld (Y_ldr1 (off := 1) (k := ((i : Int)).toNat) (u := str ((at_nod l ((i : Int)).toNat).path)) Tryd.underlying9 rfl rfl rfl (hl.ext ((((((hx3.trans hx5).trans hx24).then' ha26.only ha26.ge (Nat.le_trans hx3.size hx5.size)).trans hxa).trans hn28.ext).then' hp30.only (by simp) (Nat.le_trans (Nat.le_trans (Nat.le_trans (Nat.le_trans hx3.size hx5.size) hx24.size) ha26.only.size) hxa.size))) (by omega) rfl) rfl rfl rfl ?_
        refine L_yld (Y_sadd rfl rfl (by first | omega | (simp <;> omega))) rfl rfl rfl ?_
        refine L_yld (Y_assign rfl) rfl rfl rfl ?_
        refine L_nil ?_
        refine X_then ?_
        refine W_sub _ (.cons (i := 12) rfl (.cons (i := 11) rfl (.cons (i := 51) rfl (.cons (i := 50) rfl (.cons (i := 8) rfl (.cons (i := 7) rfl (.cons (i := 4) rfl (.cons (i := 0) rfl (.cons (i := 9) rfl (.cons (i := 52) rfl (.nil _))))))))))) ?_
        refine W_region ?_
        refine L_yld (Y_move rfl) rfl rfl rfl ?_
        refine L_yld (Y_move rfl) rfl rfl rfl ?_
        refine L_split (d := 63) rfl (fun y1 => ?_) (fun y1 => ?_)
        · refine L_skip rfl rfl rfl ?_
          refine L_skip rfl rfl rfl ?_
          refine L_skip rfl rfl rfl ?_
          refine L_skip rfl rfl rfl ?_
          refine L_skip rfl rfl rfl ?_
          refine L_skip rfl rfl rfl ?_
          refine L_skip rfl rfl rfl ?_
          refine L_skip rfl rfl rfl ?_
          refine L_skip rfl rfl rfl ?_
          refine L_skip rfl rfl rfl ?_
          refine L_skip rfl rfl rfl ?_
          refine L_skip rfl rfl rfl ?_
          refine L_skip rfl rfl rfl ?_
          refine L_skip rfl rfl rfl ?_
          refine L_skip rfl rfl rfl ?_
          refine L_yld (Y_pick_t rfl rfl) rfl rfl rfl ?_
          refine L_yld (Y_assign rfl) rfl rfl rfl ?_
          refine L_nil ?_
          refine X_block ?_
          refine X_then ?_
          refine W_sub _ (.cons (i := 9) rfl (.cons (i := 51) rfl (.cons (i := 50) rfl (.cons (i := 8) rfl (.cons (i := 7) rfl (.cons (i := 4) rfl (.cons (i := 0) rfl (.cons (i := 52) rfl (.nil _))))))))) ?_
          refine W_region ?_
          refine L_yld (Y_add rfl rfl (by omega) (by omega)) rfl rfl rfl ?_
          refine L_yld (Y_move rfl) rfl rfl rfl ?_
          refine L_nil ?_
          refine X_loop (j + 1) (.cons (i := 51) rfl (.cons (i := 50) rfl (.cons (i := 8) rfl (.cons (i := 7) rfl (.cons (i := 4) rfl (.cons (i := 0) rfl (.cons (i := 9) (lkb rfl (by exact (decide_eq_true (Or.inl y1)).symm.trans (dscb_step _ _ _))) (.cons (i := 52) rfl (.nil _))))))))) ?_ ?_
          · exact ⟨by omega, ((hxa.trans hn28.ext).then' hp30.only (by simp) hxa.size)⟩
          · (try dsimp only)
            omega
        · refine L_yld (Y_fieldAddr (off := 1) (by kernel_rfl) rfl rfl) rfl rfl rfl ?_
          refine L_yld (Y_ldblk Tryd.underlying9 rfl rfl hk31 rfl) rfl rfl rfl ?_
          refine L_yld (Y_slen Tryd.underlying9 rfl) rfl rfl rfl ?_
          refine L_yld (Y_move rfl) rfl rfl rfl ?_
          refine L_yld (Y_slen Tryd.underlying9 rfl) rfl rfl rfl ?_
          refine L_yld (Y_gtr rfl rfl) rfl rfl rfl ?_
          refine L_yld (Y_move rfl) rfl rfl rfl ?_
          refine L_splitd (d := 70) rfl (fun y2 => ?_) (fun y2 => ?_)
          · refine L_yld (Y_fieldAddr (off := 1) (by kernel_rfl) rfl rfl) rfl rfl rfl ?_
            refine L_yld (Y_ldblk Tryd.underlying9 rfl rfl hk31 rfl) rfl rfl rfl ?_
            refine L_yld (Y_move rfl) rfl rfl rfl ?_
            refine L_yld (Y_slen Tryd.underlying9 rfl) rfl rfl rfl ?_
            refine L_yld (Y_sslice_h Tryd.underlying9 rfl rfl (by omega) (by omega)) rfl rfl rfl ?_
            refine L_yld (Y_move rfl) rfl rfl rfl ?_
            refine L_yld (Y_seql rfl rfl) rfl rfl rfl ?_
            refine L_yld (Y_pick_t rfl rfl) rfl rfl rfl ?_
            refine L_yld (Y_pick_f rfl rfl) rfl rfl rfl ?_
            refine L_yld (Y_assign rfl) rfl rfl rfl ?_
            refine L_nil ?_
            refine X_block ?_
            refine X_then ?_
            refine W_sub _ (.cons (i := 9) rfl (.cons (i := 51) rfl (.cons (i := 50) rfl (.cons (i := 8) rfl (.cons (i := 7) rfl (.cons (i := 4) rfl (.cons (i := 0) rfl (.cons (i := 52) rfl (.nil _))))))))) ?_
            refine W_region ?_
            refine L_yld (Y_add rfl rfl (by omega) (by omega)) rfl rfl rfl ?_
            refine L_yld (Y_move rfl) rfl rfl rfl ?_
            refine L_nil ?_
            refine X_loop (j + 1) (.cons (i := 51) rfl (.cons (i := 50) rfl (.cons (i := 8) rfl (.cons (i := 7) rfl (.cons (i := 4) rfl (.cons (i := 0) rfl (.cons (i := 9) (lkb rfl (by exact (decide_eq_decide.2 ⟨fun h9 => .inr ⟨y2, h9⟩, fun h9 => h9.elim (fun h8 => by rw [y1] at h8; cases h8) (fun h8 => h8.2)⟩).trans (dscb_step _ _ _))) (.cons (i := 52) rfl (.nil _))))))))) ?_ ?_
            · exact ⟨by omega, ((hxa.trans hn28.ext).then' hp30.only (by simp) hxa.size)⟩
            · (try dsimp only)
              omega
          · refine L_skip rfl rfl rfl ?_
            refine L_skip rfl rfl rfl ?_
            refine L_skip rfl rfl rfl ?_
            refine L_skip rfl rfl rfl ?_
            refine L_skip rfl rfl rfl ?_
            refine L_skip rfl rfl rfl ?_
            refine L_skip rfl rfl rfl ?_
            refine L_yld (Y_pick_f rfl rfl) rfl rfl rfl ?_
            refine L_yld (Y_pick_f rfl rfl) rfl rfl rfl ?_
            refine L_yld (Y_assign rfl) rfl rfl rfl ?_
            refine L_nil ?_
            refine X_block ?_
            refine X_then ?_
            refine W_sub _ (.cons (i := 9) rfl (.cons (i := 51) rfl (.cons (i := 50) rfl (.cons (i := 8) rfl (.cons (i := 7) rfl (.cons (i := 4) rfl (.cons (i := 0) rfl (.cons (i := 52) rfl (.nil _))))))))) ?_
            refine W_region ?_
            refine L_yld (Y_add rfl rfl (by omega) (by omega)) rfl rfl rfl ?_
            refine L_yld (Y_move rfl) rfl rfl rfl ?_
            refine L_nil ?_
            refine X_loop (j + 1) (.cons (i := 51) rfl (.cons (i := 50) rfl (.cons (i := 8) rfl (.cons (i := 7) rfl (.cons (i := 4) rfl (.cons (i := 0) rfl (.cons (i := 9) (lkb rfl (by exact (decide_eq_false (fun h9 => h9.elim (fun h8 => by rw [y1] at h8; cases h8) (fun h8 => y2 h8.1))).symm.trans (dscb_step _ _ _))) (.cons (i := 52) rfl (.nil _))))))))) ?_ ?_
            · exact ⟨by omega, ((hxa.trans hn28.ext).then' hp30.only (by simp) hxa.size)⟩
            · (try dsimp only)
              omega
      · refine W_exit ?_
        refine X_then_exit ?_
        refine X_then_exit ?_
        refine X_block_hit ?_
        refine X_then ?_
        refine W_sub _ (.cons (i := 8) rfl (.cons (i := 7) rfl (.cons (i := 4) rfl (.cons (i := 0) rfl (.cons (i := 9) rfl (.nil _)))))) ?_
        obtain rfl : j = (rst l i).length := by omega
        refine W_seq ?_
        refine W_region ?_
        refine L_yld (Y_move rfl) rfl rfl rfl ?_
        refine L_call (E_call (by kernel_rfl) rfl) (tree_Check _ (hK.ext ((((hx3.trans hx5).trans hx24).then' ha26.only ha26.ge (Nat.le_trans hx3.size hx5.size)).trans hxa)) (hE.ext ((((hx3.trans hx5).trans hx24).then' ha26.only ha26.ge (Nat.le_trans hx3.size hx5.size)).trans hxa)) v25 (rst l i) (ho27.rows.ext hxa) (by rw [rst_len hil]; omega) (fun x hx => hs x (mem_rst hx))) rfl rfl rfl ?_
        rintro _ h22 ⟨rfl, hx32⟩
        refine L_yld (Y_move rfl) rfl rfl rfl ?_
        refine L_yld (Y_extract (v := .int .i64 (tpos (rst l i))) rfl rfl) rfl rfl rfl ?_
        refine L_yld (Y_extract (v := .int .i64 (terr (rst l i))) rfl rfl) rfl rfl rfl ?_
        refine L_yld (Y_assign rfl) rfl rfl rfl ?_
        refine L_yld (Y_assign rfl) rfl rfl rfl ?_
        refine L_nil ?_
        refine X_then ?_
        refine W_sub _ (.cons (i := 14) rfl (.cons (i := 13) rfl (.cons (i := 8) rfl (.cons (i := 7) rfl (.cons (i := 4) rfl (.cons (i := 0) rfl (.cons (i := 9) rfl (.nil _)))))))) ?_
        refine W_seq ?_
        refine W_pers [(14, .int .i64 (terr (rst l i))), (13, .int .i64 (tpos (rst l i))), (8, v25), (7, .int .i64 ((i : Int))), (4, .bool false), (0, w), (9, .bool (dscb (rst l i) ((at_nod l i).path ++ [47]) (rst l i).length))] (.cons (i := 14) rfl (.cons (i := 13) rfl (.cons (i := 8) rfl (.cons (i := 7) rfl (.cons (i := 4) rfl (.cons (i := 0) rfl (.cons (i := 9) rfl (.nil _)))))))) (by kernel_rfl) ?_
        refine LP_op 0 (fun hh r16_1 => RowsE nodS hh h22.size r16_1) [] rfl rfl (by kernel_rfl) (fun _ _ _ x_ p_ => p_.ext x_) ?_ ?_
        · intro h23 hx33
          refine Needs_nil ?_
          refine Stp_mks (M_litr0 (S := nodS) (cells := []) (E := 30) rfl rfl (fun _ => by kernel_rfl)) rfl ?_
          rintro v34 h24 ⟨ho35, hx36⟩
          exact ⟨hx36, (ho35.low hx33.size)⟩
        refine LP_op 1 (fun _ vv => w = vv) [] rfl rfl (by kernel_rfl) (fun _ _ _ _ p => p) ?_ ?_
        · intro h25 hx37
          refine Needs_nil ?_
          refine Stp_yld (Y_move rfl) rfl ?_
          exact rfl
        refine LP_op 2 (fun hh r16_2 => RowsO nodS hh h22.size r16_2 (l)) [(0, 86), (1, 87)] rfl rfl (by kernel_rfl) (fun _ _ _ x_ p_ => p_.ext x_) ?_ ?_
        · intro h26 hx38
          intro r16_1 q16_1
          rintro _ rfl
          refine Needs_nil ?_
          refine Stp_mks (M_appe (z := 6) (bytes := 80) (z0 := (.agg #[.int .i64 0, str [], .int .i64 0, str [], .slice none 0 0, .int .i64 0])) Tryd.underlying22 (by unfold elemRow; kernel_rfl) rfl rfl (by decide) rfl rfl q16_1 (hl.ext ((((((hx3.trans hx5).trans hx24).then' ha26.only ha26.ge (Nat.le_trans hx3.size hx5.size)).trans hxa).trans hx32).trans hx38)) hx38.size (by first | (simp; done) | (simp; omega) | omega)) rfl ?_
          rintro v39 h27 ⟨ho40, hx41⟩
          exact ⟨hx41, (ho40.low (Nat.le_refl _))⟩
        refine LP_op 3 (fun _ vv => w = vv) [] rfl rfl (by kernel_rfl) (fun _ _ _ _ p => p) ?_ ?_
        · intro h28 hx42
          refine Needs_nil ?_
          refine Stp_yld (Y_move rfl) rfl ?_
          exact rfl
        refine LP_op 4 (fun _ vv => .int .i64 ((i : Int)) = vv) [] rfl rfl (by kernel_rfl) (fun _ _ _ _ p => p) ?_ ?_
        · intro h29 hx43
          refine Needs_nil ?_
          refine Stp_yld (Y_move rfl) rfl ?_
          exact rfl
        refine LP_op 5 (fun _ vv => .pointer (some (elemAddr w (((i : Int)).toNat * 6))) = vv) [(3, 89), (4, 90)] rfl rfl (by kernel_rfl) (fun _ _ _ _ p => p) ?_ ?_
        · intro h30 hx44
          rintro _ rfl
          rintro _ rfl
          refine Needs_nil ?_
          refine Stp_yld (Y_idxr Tryd.underlying22 (show _ = some 6 by kernel_rfl) rfl rfl rfl (hl.ext ((((((hx3.trans hx5).trans hx24).then' ha26.only ha26.ge (Nat.le_trans hx3.size hx5.size)).trans hxa).trans hx32).trans hx44)) (by omega) (by omega)) rfl ?_
          exact rfl
        refine LP_op 6 (fun _ vv => .agg #[.int .i64 ((at_nod l ((i : Int)).toNat).kind), str ((at_nod l ((i : Int)).toNat).path), .int .i64 ((at_nod l ((i : Int)).toNat).mode), str ((at_nod l ((i : Int)).toNat).target), ((at_nod l ((i : Int)).toNat).dv), .int .i64 ((at_nod l ((i : Int)).toNat).cls)] = vv) [(5, 91)] rfl rfl (by kernel_rfl) (fun _ _ _ _ p => p) ?_ ?_
        · intro h31 hx45
          rintro _ rfl
          refine Needs_nil ?_
          refine Stp_yld (Y_ldrA0 (k := ((i : Int)).toNat) (us := [.int .i64 ((at_nod l ((i : Int)).toNat).kind), str ((at_nod l ((i : Int)).toNat).path), .int .i64 ((at_nod l ((i : Int)).toNat).mode), str ((at_nod l ((i : Int)).toNat).target), ((at_nod l ((i : Int)).toNat).dv), .int .i64 ((at_nod l ((i : Int)).toNat).cls)]) Tryd.underlying30 rfl (show _ = some 6 by kernel_rfl) rfl rfl (hl.ext ((((((hx3.trans hx5).trans hx24).then' ha26.only ha26.ge (Nat.le_trans hx3.size hx5.size)).trans hxa).trans hx32).trans hx45)) (by omega) rfl) rfl ?_
          exact rfl
        refine LP_op 7 (fun hh r16_3 => RowsO nodS hh h22.size r16_3 (([(at_nod l ((i : Int)).toNat)] : List Nod))) [(6, 92)] rfl rfl (by kernel_rfl) (fun _ _ _ x_ p_ => p_.ext x_) ?_ ?_
        · intro h32 hx46
          rintro _ rfl
          refine Needs_nil ?_
          refine Stp_mks (M_litr (S := nodS) (l := ([(at_nod l ((i : Int)).toNat)] : List Nod)) (cells := [.int .i64 ((at_nod l ((i : Int)).toNat).kind), str ((at_nod l ((i : Int)).toNat).path), .int .i64 ((at_nod l ((i : Int)).toNat).mode), str ((at_nod l ((i : Int)).toNat).target), ((at_nod l ((i : Int)).toNat).dv), .int .i64 ((at_nod l ((i : Int)).toNat).cls)]) (pv := [(0, .agg #[.int .i64 ((at_nod l ((i : Int)).toNat).kind), str ((at_nod l ((i : Int)).toNat).path), .int .i64 ((at_nod l ((i : Int)).toNat).mode), str ((at_nod l ((i : Int)).toNat).target), ((at_nod l ((i : Int)).toNat).dv), .int .i64 ((at_nod l ((i : Int)).toNat).cls)])]) (E := 30) (evp (is := [0]) (os := [.tmp 92]) (vs := [.agg #[.int .i64 ((at_nod l ((i : Int)).toNat).kind), str ((at_nod l ((i : Int)).toNat).path), .int .i64 ((at_nod l ((i : Int)).toNat).mode), str ((at_nod l ((i : Int)).toNat).target), ((at_nod l ((i : Int)).toNat).dv), .int .i64 ((at_nod l ((i : Int)).toNat).cls)]]) rfl rfl) rfl rfl (fun _ => by kernel_rfl) (by simp only [List.mem_cons, List.not_mem_nil, or_false, forall_eq_or_imp, forall_eq]; exact (show Bytes _ ((at_nod l ((i : Int)).toNat).dv) ((at_nod l ((i : Int)).toNat).data) from (hl.ext ((((((hx3.trans hx5).trans hx24).then' ha26.only ha26.ge (Nat.le_trans hx3.size hx5.size)).trans hxa).trans hx32).trans hx46)).okat (k := ((i : Int)).toNat) (by omega)))) rfl ?_
          rintro v47 h33 ⟨ho48, hx49⟩
          exact ⟨hx49, (ho48.low hx46.size)⟩
        refine LP_tail rfl 8 [(2, 88), (7, 93)] rfl rfl (by kernel_rfl) (by kernel_rfl) (by kernel_rfl) rfl ?_
        intro h34 hx50
        intro r16_2 q16_2
        intro r16_3 q16_3
        refine Needs_nil ?_
        refine L_mks (M_apprO (z := 6) (bytes := 80) (z0 := (.agg #[.int .i64 0, str [], .int .i64 0, str [], .slice none 0 0, .int .i64 0])) Tryd.underlying22 (by unfold elemRow; kernel_rfl) rfl rfl (by decide) rfl rfl q16_2 q16_3.rows hx50.size (by first | (simp; done) | (simp; omega) | omega) ((((((hx3.trans hx5).trans hx24).then' ha26.only ha26.ge (Nat.le_trans hx3.size hx5.size)).trans hxa).trans hx32).trans hx50) (Nat.le_trans (Nat.le_trans (Nat.le_trans (Nat.le_trans (Nat.le_trans hx3.size hx5.size) hx24.size) ha26.only.size) hxa.size) hx32.size) (fun x hx => hl.2 x hx) (fun x hx => by rw [List.mem_singleton.1 hx]; exact hl.2 _ (nod_mem hil))) rfl rfl rfl ?_
        rintro v51 h35 ha52
        refine L_yld (Y_assign rfl) rfl rfl rfl ?_
        refine L_nil ?_
        refine X_then ?_
        refine W_sub _ (.cons (i := 15) rfl (.cons (i := 14) rfl (.cons (i := 13) rfl (.cons (i := 8) rfl (.cons (i := 4) rfl (.cons (i := 0) rfl (.cons (i := 9) rfl (.nil _)))))))) ?_
        refine W_seq ?_
        refine W_region ?_
        refine L_yld (Y_move rfl) rfl rfl rfl ?_
        refine L_call (E_call (by kernel_rfl) rfl) (tree_Check _ (hK.ext (((((((hx3.trans hx5).trans hx24).then' ha26.only ha26.ge (Nat.le_trans hx3.size hx5.size)).trans hxa).trans hx32).trans hx50).then' ha52.only ha52.ge (Nat.le_trans (Nat.le_trans (Nat.le_trans (Nat.le_trans (Nat.le_trans hx3.size hx5.size) hx24.size) ha26.only.size) hxa.size) hx32.size))) (hE.ext (((((((hx3.trans hx5).trans hx24).then' ha26.only ha26.ge (Nat.le_trans hx3.size hx5.size)).trans hxa).trans hx32).trans hx50).then' ha52.only ha52.ge (Nat.le_trans (Nat.le_trans (Nat.le_trans (Nat.le_trans (Nat.le_trans hx3.size hx5.size) hx24.size) ha26.only.size) hxa.size) hx32.size))) v51 (l ++ ([(at_nod l ((i : Int)).toNat)] : List Nod)) ha52.own.rows (by simp; omega) (fun x hx => (List.mem_append.1 hx).elim (hs x) (fun h9 => by rw [List.mem_singleton.1 h9]; exact hs _ (nod_mem hil)))) rfl rfl rfl ?_
        rintro _ h36 ⟨rfl, hx53⟩
        refine L_yld (Y_move rfl) rfl rfl rfl ?_
        refine L_yld (Y_extract (v := .int .i64 (tpos (l ++ ([(at_nod l ((i : Int)).toNat)] : List Nod)))) rfl rfl) rfl rfl rfl ?_
        refine L_yld (Y_extract (v := .int .i64 (terr (l ++ ([(at_nod l ((i : Int)).toNat)] : List Nod)))) rfl rfl) rfl rfl rfl ?_
        refine L_yld (Y_assign rfl) rfl rfl rfl ?_
        refine L_yld (Y_assign rfl) rfl rfl rfl ?_
        refine L_nil ?_
        refine X_then ?_
        refine W_sub _ (.cons (i := 17) rfl (.cons (i := 16) rfl (.cons (i := 14) rfl (.cons (i := 13) rfl (.cons (i := 8) rfl (.cons (i := 4) rfl (.cons (i := 0) rfl (.cons (i := 9) rfl (.nil _))))))))) ?_
        refine W_seq ?_
        refine W_seq ?_
        refine W_region ?_
        refine L_yld (Y_move rfl) rfl rfl rfl ?_
        refine L_nil ?_
        refine X_then ?_
        refine W_sub _ (.cons (i := 100) rfl (.cons (i := 17) rfl (.cons (i := 16) rfl (.cons (i := 14) rfl (.cons (i := 13) rfl (.cons (i := 8) rfl (.cons (i := 4) rfl (.cons (i := 0) rfl (.nil _))))))))) ?_
        refine W_split rfl (fun pr => ?_) (fun pr => ?_)
        · have htw := twice_res tok hil
          have hrb := rest_of tok hil pr
          refine W_seq ?_
          refine W_region ?_
          refine L_call (E_call (by kernel_rfl) rfl) (law13_alive _ (hK.ext ((((((((hx3.trans hx5).trans hx24).then' ha26.only ha26.ge (Nat.le_trans hx3.size hx5.size)).trans hxa).trans hx32).trans hx50).then' ha52.only ha52.ge (Nat.le_trans (Nat.le_trans (Nat.le_trans (Nat.le_trans (Nat.le_trans hx3.size hx5.size) hx24.size) ha26.only.size) hxa.size) hx32.size)).trans hx53)) (hE.ext ((((((((hx3.trans hx5).trans hx24).then' ha26.only ha26.ge (Nat.le_trans hx3.size hx5.size)).trans hxa).trans hx32).trans hx50).then' ha52.only ha52.ge (Nat.le_trans (Nat.le_trans (Nat.le_trans (Nat.le_trans (Nat.le_trans hx3.size hx5.size) hx24.size) ha26.only.size) hxa.size) hx32.size)).trans hx53))) rfl rfl rfl ?_
          rintro _ h37 ⟨rfl, hx54⟩
          refine L_yld (Y_move rfl) rfl rfl rfl ?_
          refine L_yld (Y_move rfl) rfl rfl rfl ?_
          refine L_yld (Y_eql rfl rfl) rfl rfl rfl ?_
          refine L_yld (Y_pick_t rfl rfl) rfl rfl rfl ?_
          refine L_yld (Y_move rfl) rfl rfl rfl ?_
          refine L_known (d := 106) true rfl (by exact decide_eq_true (by exact hrb.1)) ?_
          refine L_yld (Y_move rfl) rfl rfl rfl ?_
          refine L_yld (Y_move rfl) rfl rfl rfl ?_
          refine L_yld (Y_lenr Tryd.underlying22 rfl (ho27.rows.ext (((((hxa.trans hx32).trans hx50).then' ha52.only ha52.ge (Nat.le_trans hxa.size hx32.size)).trans hx53).trans hx54))) rfl rfl rfl ?_
          refine L_yld (Y_lss rfl rfl) rfl rfl rfl ?_
          refine L_yld (Y_pick_t rfl rfl) rfl rfl rfl ?_
          refine L_yld (Y_move rfl) rfl rfl rfl ?_
          refine L_known (d := 112) true rfl (by exact decide_eq_true (by rw [rst_len hil]; have := hrb.2; omega)) ?_
          refine L_yld (Y_move rfl) rfl rfl rfl ?_
          refine L_yld (Y_eql rfl rfl) rfl rfl rfl ?_
          refine L_yld (Y_pick_t rfl rfl) rfl rfl rfl ?_
          refine L_yld (Y_move rfl) rfl rfl rfl ?_
          refine L_known (d := 116) true rfl (by exact decide_eq_true (by exact htw.2)) ?_
          refine L_yld (Y_move rfl) rfl rfl rfl ?_
          refine L_yld (Y_move rfl) rfl rfl rfl ?_
          refine L_yld (Y_lenr Tryd.underlying22 rfl (hl.ext (((((((((hx3.trans hx5).trans hx24).then' ha26.only ha26.ge (Nat.le_trans hx3.size hx5.size)).trans hxa).trans hx32).trans hx50).then' ha52.only ha52.ge (Nat.le_trans (Nat.le_trans (Nat.le_trans (Nat.le_trans (Nat.le_trans hx3.size hx5.size) hx24.size) ha26.only.size) hxa.size) hx32.size)).trans hx53).trans hx54))) rfl rfl rfl ?_
          refine L_yld (Y_eql rfl rfl) rfl rfl rfl ?_
          refine L_yld (Y_pick_t rfl rfl) rfl rfl rfl ?_
          refine L_yld (Y_assign rfl) rfl rfl rfl ?_
          refine L_nil ?_
          refine X_then ?_
          refine W_sub _ (.cons (i := 4) rfl (.cons (i := 17) rfl (.cons (i := 16) rfl (.cons (i := 14) rfl (.cons (i := 13) rfl (.cons (i := 8) rfl (.cons (i := 0) rfl (.nil _)))))))) ?_
          refine W_ret ?_
          refine X_then_ret ?_
          refine X_ret1 rfl rfl ?_
          exact ⟨congrArg Value.bool (decide_eq_true htw.1), (((((((((hx3.trans hx5).trans hx24).then' ha26.only ha26.ge (Nat.le_trans hx3.size hx5.size)).trans hxa).trans hx32).trans hx50).then' ha52.only ha52.ge (Nat.le_trans (Nat.le_trans (Nat.le_trans (Nat.le_trans (Nat.le_trans hx3.size hx5.size) hx24.size) ha26.only.size) hxa.size) hx32.size)).trans hx53).trans hx54)⟩
        · refine W_skip ?_
          refine X_then ?_
          refine W_sub _ (.cons (i := 17) rfl (.cons (i := 16) rfl (.cons (i := 14) rfl (.cons (i := 13) rfl (.cons (i := 8) rfl (.cons (i := 4) rfl (.cons (i := 0) rfl (.nil _)))))))) ?_
          have htw := twice_res tok hil
          have hrb := rest_no tok hil (by rw [pr]; decide)
          refine W_seq ?_
          refine W_region ?_
          refine L_call (E_call (by kernel_rfl) rfl) (law13_alive _ (hK.ext ((((((((hx3.trans hx5).trans hx24).then' ha26.only ha26.ge (Nat.le_trans hx3.size hx5.size)).trans hxa).trans hx32).trans hx50).then' ha52.only ha52.ge (Nat.le_trans (Nat.le_trans (Nat.le_trans (Nat.le_trans (Nat.le_trans hx3.size hx5.size) hx24.size) ha26.only.size) hxa.size) hx32.size)).trans hx53)) (hE.ext ((((((((hx3.trans hx5).trans hx24).then' ha26.only ha26.ge (Nat.le_trans hx3.size hx5.size)).trans hxa).trans hx32).trans hx50).then' ha52.only ha52.ge (Nat.le_trans (Nat.le_trans (Nat.le_trans (Nat.le_trans (Nat.le_trans hx3.size hx5.size) hx24.size) ha26.only.size) hxa.size) hx32.size)).trans hx53))) rfl rfl rfl ?_
          rintro _ h38 ⟨rfl, hx55⟩
          refine L_yld (Y_move rfl) rfl rfl rfl ?_
          refine L_yld (Y_move rfl) rfl rfl rfl ?_
          refine L_yld (Y_eql rfl rfl) rfl rfl rfl ?_
          refine L_yld (Y_pick_t rfl rfl) rfl rfl rfl ?_
          refine L_yld (Y_move rfl) rfl rfl rfl ?_
          refine L_known (d := 127) true rfl (by exact decide_eq_true (by exact hrb.1)) ?_
          refine L_yld (Y_move rfl) rfl rfl rfl ?_
          refine L_yld (Y_move rfl) rfl rfl rfl ?_
          refine L_yld (Y_lenr Tryd.underlying22 rfl (ho27.rows.ext (((((hxa.trans hx32).trans hx50).then' ha52.only ha52.ge (Nat.le_trans hxa.size hx32.size)).trans hx53).trans hx55))) rfl rfl rfl ?_
          refine L_yld (Y_eql rfl rfl) rfl rfl rfl ?_
          refine L_yld (Y_pick_t rfl rfl) rfl rfl rfl ?_
          refine L_yld (Y_move rfl) rfl rfl rfl ?_
          refine L_known (d := 133) true rfl (by exact decide_eq_true (by rw [rst_len hil]; have := hrb.2; omega)) ?_
          refine L_yld (Y_move rfl) rfl rfl rfl ?_
          refine L_yld (Y_eql rfl rfl) rfl rfl rfl ?_
          refine L_yld (Y_pick_t rfl rfl) rfl rfl rfl ?_
          refine L_yld (Y_move rfl) rfl rfl rfl ?_
          refine L_known (d := 137) true rfl (by exact decide_eq_true (by exact htw.2)) ?_
          refine L_yld (Y_move rfl) rfl rfl rfl ?_
          refine L_yld (Y_move rfl) rfl rfl rfl ?_
          refine L_yld (Y_lenr Tryd.underlying22 rfl (hl.ext (((((((((hx3.trans hx5).trans hx24).then' ha26.only ha26.ge (Nat.le_trans hx3.size hx5.size)).trans hxa).trans hx32).trans hx50).then' ha52.only ha52.ge (Nat.le_trans (Nat.le_trans (Nat.le_trans (Nat.le_trans (Nat.le_trans hx3.size hx5.size) hx24.size) ha26.only.size) hxa.size) hx32.size)).trans hx53).trans hx55))) rfl rfl rfl ?_
          refine L_yld (Y_eql rfl rfl) rfl rfl rfl ?_
          refine L_yld (Y_pick_t rfl rfl) rfl rfl rfl ?_
          refine L_yld (Y_assign rfl) rfl rfl rfl ?_
          refine L_nil ?_
          refine X_then ?_
          refine W_sub _ (.cons (i := 4) rfl (.nil _)) ?_
          refine W_ret ?_
          refine X_ret1 rfl rfl ?_
          exact ⟨congrArg Value.bool (decide_eq_true htw.1), (((((((((hx3.trans hx5).trans hx24).then' ha26.only ha26.ge (Nat.le_trans hx3.size hx5.size)).trans hxa).trans hx32).trans hx50).then' ha52.only ha52.ge (Nat.le_trans (Nat.le_trans (Nat.le_trans (Nat.le_trans (Nat.le_trans hx3.size hx5.size) hx24.size) ha26.only.size) hxa.size) hx32.size)).trans hx53).trans hx55)⟩
end Go.Xp
