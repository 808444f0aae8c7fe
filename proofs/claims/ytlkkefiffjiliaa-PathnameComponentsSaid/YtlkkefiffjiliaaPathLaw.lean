/- Layer 8 (pathname): the laws' own text, for those that do not call Check. -/
import Derived.Test.YtlkkefiffjiliaaPath
import Derived.Test.YtlkkefiffjiliaaCstrLaw
set_option linter.unusedSimpArgs false
set_option linter.unusedVariables false
namespace Go.Xp
open Go.Proofs

set_option maxRecDepth 100000 in
theorem law08_alive (h : Heap) : Cal Try.prog 26 #[] h (fun v h' => v = .bool true ∧ Ext h h') := by
  have q1 : (Lib.repeatL [100] (Int.toNat 99)).length = 99 := by kernel_rfl
  have q2 : (Lib.repeatL [110] (Int.toNat 60)).length = 60 := by kernel_rfl
  refine Cal_enter (args := []) Try.func26 rfl rfl rfl (fun σ => ?_)
  refine W_seq ?_
  refine W_region ?_
  refine L_yld (Y_assign rfl) rfl rfl rfl ?_
  refine L_nil ?_
  refine X_then ?_
  refine W_seq ?_
  refine W_region ?_
  refine L_call (E_call (by kernel_rfl) rfl) (strings_Repeat _ [100] (99 : Int) (by first | first | omega | (simp only [List.length_append, q1, q2, List.length_cons, List.length_nil] <;> omega) | rfl | (simp <;> omega)) (by first | first | omega | (simp only [List.length_append, q1, q2, List.length_cons, List.length_nil] <;> omega) | rfl | (simp <;> omega))) rfl rfl rfl ?_
  rintro _ h1 ⟨rfl, hx1⟩
  refine L_yld (Y_sadd rfl rfl (by first | first | omega | (simp only [List.length_append, q1, q2, List.length_cons, List.length_nil] <;> omega) | (simp <;> omega))) rfl rfl rfl ?_
  refine L_call (E_call (by kernel_rfl) rfl) (strings_Repeat _ [110] (60 : Int) (by first | first | omega | (simp only [List.length_append, q1, q2, List.length_cons, List.length_nil] <;> omega) | rfl | (simp <;> omega)) (by first | first | omega | (simp only [List.length_append, q1, q2, List.length_cons, List.length_nil] <;> omega) | rfl | (simp <;> omega))) rfl rfl rfl ?_
  rintro _ h2 ⟨rfl, hx2⟩
  refine L_yld (Y_sadd rfl rfl (by first | first | omega | (simp only [List.length_append, q1, q2, List.length_cons, List.length_nil] <;> omega) | (simp <;> omega))) rfl rfl rfl ?_
  refine L_yld (Y_assign rfl) rfl rfl rfl ?_
  refine L_nil ?_
  refine X_then ?_
  refine W_sub _ (.cons (i := 1) rfl (.cons (i := 0) rfl (.nil _))) ?_
  refine W_seq ?_
  refine W_region ?_
  refine L_yld (Y_move rfl) rfl rfl rfl ?_
  refine L_call (E_call (by kernel_rfl) rfl) (pathname_Split _ (((Lib.repeatL [100] (99 : Int).toNat) ++ [47]) ++ (Lib.repeatL [110] (60 : Int).toNat)) (by first | first | omega | (simp only [List.length_append, q1, q2, List.length_cons, List.length_nil] <;> omega) | rfl | (simp <;> omega))) rfl rfl rfl ?_
  rintro _ h2 ⟨rfl, rfl⟩
  refine L_yld (Y_move rfl) rfl rfl rfl ?_
  refine L_yld (Y_extract rfl rfl) rfl rfl rfl ?_
  refine L_yld (Y_extract rfl rfl) rfl rfl rfl ?_
  refine L_yld (Y_extract rfl rfl) rfl rfl rfl ?_
  refine L_yld (Y_assign rfl) rfl rfl rfl ?_
  refine L_yld (Y_assign rfl) rfl rfl rfl ?_
  refine L_yld (Y_assign rfl) rfl rfl rfl ?_
  refine L_nil ?_
  refine X_then ?_
  refine W_sub _ (.cons (i := 4) rfl (.cons (i := 3) rfl (.cons (i := 2) rfl (.cons (i := 0) rfl (.nil _))))) ?_
  refine W_seq ?_
  refine W_region ?_
  refine L_call (E_call (by kernel_rfl) rfl) (pathname_Parent _ [97, 47, 98, 47, 99] (by first | first | omega | (simp only [List.length_append, q1, q2, List.length_cons, List.length_nil] <;> omega) | rfl | (simp <;> omega))) rfl rfl rfl ?_
  rintro _ h2 ⟨rfl, rfl⟩
  refine L_yld (Y_seql rfl rfl) rfl rfl rfl ?_
  refine L_yld (Y_move rfl) rfl rfl rfl ?_
  refine L_known (d := 17) true rfl (by exact decide_eq_true (by kernel_rfl)) ?_
  refine L_yld (Y_move rfl) rfl rfl rfl ?_
  refine L_yld (Y_pick_t rfl rfl) rfl rfl rfl ?_
  refine L_yld (Y_move rfl) rfl rfl rfl ?_
  refine L_known (d := 20) true rfl (by kernel_rfl) ?_
  refine L_yld (Y_move rfl) rfl rfl rfl ?_
  refine L_yld (Y_slen Try.underlying9 rfl) rfl rfl rfl ?_
  refine L_yld (Y_eql rfl rfl) rfl rfl rfl ?_
  refine L_yld (Y_pick_t rfl rfl) rfl rfl rfl ?_
  refine L_yld (Y_move rfl) rfl rfl rfl ?_
  refine L_known (d := 25) true rfl (by exact decide_eq_true (by kernel_rfl)) ?_
  refine L_yld (Y_move rfl) rfl rfl rfl ?_
  refine L_yld (Y_slen Try.underlying9 rfl) rfl rfl rfl ?_
  refine L_yld (Y_eql rfl rfl) rfl rfl rfl ?_
  refine L_yld (Y_pick_t rfl rfl) rfl rfl rfl ?_
  refine L_yld (Y_assign rfl) rfl rfl rfl ?_
  refine L_nil ?_
  refine X_then ?_
  refine W_sub _ (.cons (i := 0) rfl (.nil _)) ?_
  refine W_ret ?_
  refine X_ret1 rfl rfl ?_
  exact ⟨congrArg Value.bool (decide_eq_true (by kernel_rfl)), (hx1.trans hx2)⟩

set_option maxRecDepth 100000 in
theorem law08_Compare (h : Heap) (a : List UInt8) (b : List UInt8) (ha : a.length ≤ 9223372036854775807) (hb : b.length ≤ 9223372036854775807) : Cal Try.prog 12 #[str a, str b] h (fun v h' => v = .bool true ∧ Ext h h') := by
  refine Cal_enter (args := [str a, str b]) Try.func12 rfl rfl rfl (fun σ => ?_)
  refine W_seq ?_
  refine W_region ?_
  refine L_yld (Y_assign rfl) rfl rfl rfl ?_
  refine L_nil ?_
  refine X_then ?_
  refine W_seq ?_
  refine W_cut (S := Unit) (fun _ => [(12, .bool (decide ((3000 < (a.length : Int)) ∨ (3000 < (b.length : Int))))), (4, .bool false), (0, str a), (1, str b)]) (fun _ h' => h' = h) ?_ ?_
  · refine W_region ?_
    refine L_yld (Y_move rfl) rfl rfl rfl ?_
    refine L_yld (Y_slen Try.underlying9 rfl) rfl rfl rfl ?_
    refine L_yld (Y_gtr rfl rfl) rfl rfl rfl ?_
    refine L_yld (Y_move rfl) rfl rfl rfl ?_
    refine L_splitd (d := 8) rfl (fun c1 => ?_) (fun c1 => ?_)
    · refine L_skip rfl rfl rfl ?_
      refine L_skip rfl rfl rfl ?_
      refine L_skip rfl rfl rfl ?_
      refine L_yld (Y_pick_t rfl rfl) rfl rfl rfl ?_
      refine L_nil ?_
      exact X_cut () (.cons (i := 12) (lkb rfl (by simp only [eq_true c1, true_and, and_true, false_and, and_false, true_or, or_true, false_or, or_false, not_true_eq_false, not_false_eq_true, decide_true, decide_false, Bool.true_eq_false, Bool.false_eq_true, eq_self, Bool.decide_eq_true])) (.cons (i := 4) rfl (.cons (i := 0) rfl (.cons (i := 1) rfl (.nil _))))) rfl
    · refine L_yld (Y_move rfl) rfl rfl rfl ?_
      refine L_yld (Y_slen Try.underlying9 rfl) rfl rfl rfl ?_
      refine L_yld (Y_gtr rfl rfl) rfl rfl rfl ?_
      refine L_yld (Y_pick_f rfl rfl) rfl rfl rfl ?_
      refine L_nil ?_
      exact X_cut () (.cons (i := 12) (lkb rfl (by simp only [eq_false c1, true_and, and_true, false_and, and_false, true_or, or_true, false_or, or_false, not_true_eq_false, not_false_eq_true, decide_true, decide_false, Bool.true_eq_false, Bool.false_eq_true, eq_self, Bool.decide_eq_true])) (.cons (i := 4) rfl (.cons (i := 0) rfl (.cons (i := 1) rfl (.nil _))))) rfl
  rintro _ h rfl
  show W _ _ _ _ _ [(12, .bool (decide ((3000 < (a.length : Int)) ∨ (3000 < (b.length : Int))))), (4, .bool false), (0, str a), (1, str b)] _
  refine W_splitd rfl (fun g => ?_) (fun g => ?_)
  · refine W_seq ?_
    refine W_region ?_
    refine L_call (E_call (by kernel_rfl) rfl) (law08_alive _) rfl rfl rfl ?_
    rintro _ h1 ⟨rfl, hx2⟩
    refine L_yld (Y_assign rfl) rfl rfl rfl ?_
    refine L_nil ?_
    refine X_then ?_
    refine W_sub _ (.cons (i := 4) rfl (.cons (i := 0) rfl (.cons (i := 1) rfl (.nil _)))) ?_
    refine W_ret ?_
    refine X_then_ret ?_
    refine X_ret1 rfl rfl ?_
    exact ⟨rfl, hx2⟩
  · refine W_skip ?_
    refine X_then ?_
    refine W_sub _ (.cons (i := 4) rfl (.cons (i := 0) rfl (.cons (i := 1) rfl (.nil _)))) ?_
    refine W_seq ?_
    refine W_region ?_
    refine L_call (E_call (by kernel_rfl) rfl) (law08_alive _) rfl rfl rfl ?_
    rintro _ h2 ⟨rfl, hx3⟩
    refine L_yld (Y_move rfl) rfl rfl rfl ?_
    refine L_yld (Y_move rfl) rfl rfl rfl ?_
    refine L_yld (Y_move rfl) rfl rfl rfl ?_
    refine L_call (E_call (by kernel_rfl) rfl) (pathname_Compare _ a b) rfl rfl rfl ?_
    rintro _ h2 ⟨rfl, rfl⟩
    refine L_yld (Y_move rfl) rfl rfl rfl ?_
    refine L_yld (Y_move rfl) rfl rfl rfl ?_
    refine L_call (E_call (by kernel_rfl) rfl) (ref08_Compare _ a b (by first | omega | rfl | (simp <;> omega))) rfl rfl rfl ?_
    rintro _ h2 ⟨rfl, rfl⟩
    refine L_yld (Y_eql rfl rfl) rfl rfl rfl ?_
    refine L_yld (Y_pick_t rfl rfl) rfl rfl rfl ?_
    refine L_yld (Y_move rfl) rfl rfl rfl ?_
    refine L_known (d := 24) true rfl (by exact decide_eq_true (by rfl)) ?_
    refine L_yld (Y_move rfl) rfl rfl rfl ?_
    refine L_yld (Y_move rfl) rfl rfl rfl ?_
    refine L_call (E_call (by kernel_rfl) rfl) (pathname_Join _ a b (by first | omega | rfl | (simp <;> omega))) rfl rfl rfl ?_
    rintro _ h2 ⟨rfl, rfl⟩
    refine L_yld (Y_move rfl) rfl rfl rfl ?_
    refine L_yld (Y_move rfl) rfl rfl rfl ?_
    refine L_call (E_call (by kernel_rfl) rfl) (ref08_Join _ a b (by first | omega | rfl | (simp <;> omega))) rfl rfl rfl ?_
    rintro _ h2 ⟨rfl, rfl⟩
    refine L_yld (Y_seql rfl rfl) rfl rfl rfl ?_
    refine L_yld (Y_pick_t rfl rfl) rfl rfl rfl ?_
    refine L_yld (Y_assign rfl) rfl rfl rfl ?_
    refine L_nil ?_
    refine X_then ?_
    refine W_sub _ (.cons (i := 4) rfl (.nil _)) ?_
    refine W_ret ?_
    refine X_ret1 rfl rfl ?_
    exact ⟨by simp, hx3⟩

theorem less_total : ∀ {a b : List UInt8}, Op.bytesLess a b = false → Op.bytesLess b a = false → a = b
  | [], [], _, _ => rfl
  | [], _ :: _, h, _ => by simp [Op.bytesLess] at h
  | _ :: _, [], _, h => by simp [Op.bytesLess] at h
  | x :: a, y :: b, h1, h2 => by
    simp only [Op.bytesLess, Bool.or_eq_false_iff, decide_eq_false_iff_not, Bool.and_eq_false_imp, beq_iff_eq] at h1 h2
    have h3 : x = y := by
      have h4 := h1.1
      have h5 := h2.1
      rw [UInt8.lt_iff_toNat_lt] at h4 h5
      exact UInt8.toNat_inj.1 (by omega)
    rw [h3, less_total (h1.2 h3) (h2.2 h3.symm)]
theorem pcmp_cases (a b : List UInt8) : (pcmp a b = -1 ∧ Op.bytesLess a b = true) ∨ (pcmp a b = 0 ∧ a = b) ∨ (pcmp a b = 1 ∧ Op.bytesLess b a = true) := by
  by_cases h1 : Op.bytesLess a b = true
  · exact .inl ⟨pcmp_lt h1, h1⟩
  · by_cases h2 : a = b
    · subst h2; exact .inr (.inl ⟨pcmp_eq a, rfl⟩)
    · right; right
      have h3 : Op.bytesLess b a = true := by
        cases h4 : Op.bytesLess b a with
        | true => rfl
        | false => exact absurd (less_total (by simpa using h1) h4) h2
      exact ⟨pcmp_gt h3, h3⟩
theorem less_trans {a b c : List UInt8} (h1 : Op.bytesLess a b = true) (h2 : Op.bytesLess b c = true) : Op.bytesLess a c = true := by
  rw [bytesLess_eq] at h1 h2 ⊢
  exact decide_eq_true (List.lt_trans (of_decide_eq_true h1) (of_decide_eq_true h2))

theorem total_order (a b c : List UInt8) : ((pcmp a b = -pcmp b a ∧ (pcmp a b = 0 ↔ a = b)) ∧ ((0 < pcmp a b ∨ 0 < pcmp b c) ∨ pcmp a c ≤ 0)) ∧ ((pcmp a b < 0 ∨ pcmp b c < 0) ∨ 0 ≤ pcmp a c) := by
  have hab : pcmp a b = -pcmp b a ∧ (pcmp a b = 0 ↔ a = b) := by
    rcases pcmp_cases a b with ⟨h1, h2⟩ | ⟨h1, h2⟩ | ⟨h1, h2⟩
    · rw [h1, pcmp_gt h2]
      refine ⟨rfl, by simp, fun e => ?_⟩
      subst e; rw [less_irrefl] at h2; cases h2
    · subst h2; simp [pcmp_eq]
    · rw [h1, pcmp_lt h2]
      refine ⟨rfl, by simp, fun e => ?_⟩
      subst e; rw [less_irrefl] at h2; cases h2
  refine ⟨⟨hab, ?_⟩, ?_⟩
  · rcases pcmp_cases a b with ⟨h1, h2⟩ | ⟨h1, h2⟩ | ⟨h1, h2⟩
    · rcases pcmp_cases b c with ⟨h3, h4⟩ | ⟨h3, h4⟩ | ⟨h3, h4⟩
      · right; rw [pcmp_lt (less_trans h2 h4)]; omega
      · subst h4; right; omega
      · left; right; omega
    · subst h2
      rcases pcmp_cases a c with ⟨h3, _⟩ | ⟨h3, _⟩ | ⟨h3, _⟩ <;> omega
    · left; left; omega
  · rcases pcmp_cases a b with ⟨h1, h2⟩ | ⟨h1, h2⟩ | ⟨h1, h2⟩
    · left; left; omega
    · subst h2
      rcases pcmp_cases a c with ⟨h3, _⟩ | ⟨h3, _⟩ | ⟨h3, _⟩ <;> omega
    · rcases pcmp_cases b c with ⟨h3, h4⟩ | ⟨h3, h4⟩ | ⟨h3, h4⟩
      · left; right; omega
      · subst h4; right; omega
      · right; rw [pcmp_gt (less_trans h4 h2)]; omega

set_option maxRecDepth 100000 in
theorem law08_TotalOrder (h : Heap) (a : List UInt8) (b : List UInt8) (c : List UInt8) (ha : a.length ≤ 9223372036854775807) (hb : b.length ≤ 9223372036854775807) (hc : c.length ≤ 9223372036854775807) : Cal Try.prog 11 #[str a, str b, str c] h (fun v h' => v = .bool true ∧ Ext h h') := by
  refine Cal_enter (args := [str a, str b, str c]) Try.func11 rfl rfl rfl (fun σ => ?_)
  refine W_seq ?_
  refine W_region ?_
  refine L_yld (Y_assign rfl) rfl rfl rfl ?_
  refine L_nil ?_
  refine X_then ?_
  refine W_seq ?_
  refine W_seq ?_
  refine W_region ?_
  refine L_yld (Y_move rfl) rfl rfl rfl ?_
  refine L_yld (Y_slen Try.underlying9 rfl) rfl rfl rfl ?_
  refine L_yld (Y_move rfl) rfl rfl rfl ?_
  refine L_yld (Y_slen Try.underlying9 rfl) rfl rfl rfl ?_
  refine L_yld (Y_addw rfl rfl) rfl rfl rfl ?_
  refine L_yld (Y_move rfl) rfl rfl rfl ?_
  refine L_yld (Y_slen Try.underlying9 rfl) rfl rfl rfl ?_
  refine L_yld (Y_addw rfl rfl) rfl rfl rfl ?_
  refine L_yld (Y_gtr rfl rfl) rfl rfl rfl ?_
  refine L_nil ?_
  refine X_then ?_
  refine W_sub _ (.cons (i := 18) rfl (.cons (i := 6) rfl (.cons (i := 0) rfl (.cons (i := 1) rfl (.cons (i := 2) rfl (.nil _)))))) ?_
  refine W_splitd rfl (fun g => ?_) (fun g => ?_)
  · refine W_seq ?_
    refine W_region ?_
    refine L_call (E_call (by kernel_rfl) rfl) (law08_alive _) rfl rfl rfl ?_
    rintro _ h1 ⟨rfl, hx1⟩
    refine L_yld (Y_assign rfl) rfl rfl rfl ?_
    refine L_nil ?_
    refine X_then ?_
    refine W_sub _ (.cons (i := 6) rfl (.cons (i := 0) rfl (.cons (i := 1) rfl (.cons (i := 2) rfl (.nil _))))) ?_
    refine W_ret ?_
    refine X_then_ret ?_
    refine X_ret1 rfl rfl ?_
    exact ⟨rfl, hx1⟩
  · refine W_skip ?_
    refine X_then ?_
    refine W_sub _ (.cons (i := 6) rfl (.cons (i := 0) rfl (.cons (i := 1) rfl (.cons (i := 2) rfl (.nil _))))) ?_
    refine W_seq ?_
    refine W_region ?_
    refine L_yld (Y_move rfl) rfl rfl rfl ?_
    refine L_yld (Y_move rfl) rfl rfl rfl ?_
    refine L_call (E_call (by kernel_rfl) rfl) (pathname_Compare _ a b) rfl rfl rfl ?_
    rintro _ h ⟨rfl, rfl⟩
    refine L_yld (Y_move rfl) rfl rfl rfl ?_
    refine L_yld (Y_move rfl) rfl rfl rfl ?_
    refine L_call (E_call (by kernel_rfl) rfl) (pathname_Compare _ b c) rfl rfl rfl ?_
    rintro _ h ⟨rfl, rfl⟩
    refine L_yld (Y_move rfl) rfl rfl rfl ?_
    refine L_yld (Y_move rfl) rfl rfl rfl ?_
    refine L_call (E_call (by kernel_rfl) rfl) (pathname_Compare _ a c) rfl rfl rfl ?_
    rintro _ h ⟨rfl, rfl⟩
    refine L_yld (Y_assign rfl) rfl rfl rfl ?_
    refine L_yld (Y_assign rfl) rfl rfl rfl ?_
    refine L_yld (Y_assign rfl) rfl rfl rfl ?_
    refine L_nil ?_
    refine X_then ?_
    refine W_sub _ (.cons (i := 9) rfl (.cons (i := 8) rfl (.cons (i := 7) rfl (.cons (i := 6) rfl (.cons (i := 0) rfl (.cons (i := 1) rfl (.nil _))))))) ?_
    refine W_cut (S := Unit) (fun _ => [(6, .bool (decide (((((pcmp a b) = (-(pcmp b a))) ∧ (((decide ((pcmp a b) = 0)) == (decide (a = b))) = true)) ∧ (((0 < (pcmp a b)) ∨ (0 < (pcmp b c))) ∨ ((pcmp a c) ≤ 0))) ∧ ((((pcmp a b) < 0) ∨ ((pcmp b c) < 0)) ∨ (0 ≤ (pcmp a c))))))]) (fun _ h' => Ext h h') ?_ ?_
    · refine W_region ?_
      refine L_call (E_call (by kernel_rfl) rfl) (law08_alive _) rfl rfl rfl ?_
      rintro _ h2 ⟨rfl, hx2⟩
      refine L_yld (Y_move rfl) rfl rfl rfl ?_
      refine L_yld (Y_move rfl) rfl rfl rfl ?_
      refine L_yld (Y_move rfl) rfl rfl rfl ?_
      refine L_yld (Y_move rfl) rfl rfl rfl ?_
      refine L_call (E_call (by kernel_rfl) rfl) (pathname_Compare _ b a) rfl rfl rfl ?_
      rintro _ h2 ⟨rfl, rfl⟩
      refine L_yld (Y_negi rfl (by have := pcmp_cases b a; omega) (by have := pcmp_cases b a; omega)) rfl rfl rfl ?_
      refine L_yld (Y_eql rfl rfl) rfl rfl rfl ?_
      refine L_yld (Y_pick_t rfl rfl) rfl rfl rfl ?_
      refine L_yld (Y_move rfl) rfl rfl rfl ?_
      refine L_splitd (d := 38) rfl (fun c3 => ?_) (fun c3 => ?_)
      · refine L_yld (Y_move rfl) rfl rfl rfl ?_
        refine L_yld (Y_eql rfl rfl) rfl rfl rfl ?_
        refine L_yld (Y_move rfl) rfl rfl rfl ?_
        refine L_yld (Y_move rfl) rfl rfl rfl ?_
        refine L_yld (Y_seql rfl rfl) rfl rfl rfl ?_
        refine L_yld (Y_beql Try.underlying4 rfl rfl) rfl rfl rfl ?_
        refine L_yld (Y_pick_t rfl rfl) rfl rfl rfl ?_
        refine L_yld (Y_move rfl) rfl rfl rfl ?_
        refine L_split (d := 46) rfl (fun c4 => ?_) (fun c4 => ?_)
        · refine L_yld (Y_move rfl) rfl rfl rfl ?_
          refine L_yld (Y_gtr rfl rfl) rfl rfl rfl ?_
          refine L_yld (Y_move rfl) rfl rfl rfl ?_
          refine L_splitd (d := 49) rfl (fun c5 => ?_) (fun c5 => ?_)
          · refine L_skip rfl rfl rfl ?_
            refine L_skip rfl rfl rfl ?_
            refine L_yld (Y_pick_t rfl rfl) rfl rfl rfl ?_
            refine L_yld (Y_move rfl) rfl rfl rfl ?_
            refine L_skip rfl rfl rfl ?_
            refine L_skip rfl rfl rfl ?_
            refine L_yld (Y_pick_t rfl rfl) rfl rfl rfl ?_
            refine L_yld (Y_pick_t rfl rfl) rfl rfl rfl ?_
            refine L_yld (Y_move rfl) rfl rfl rfl ?_
            refine L_yld (Y_move rfl) rfl rfl rfl ?_
            refine L_yld (Y_lss rfl rfl) rfl rfl rfl ?_
            refine L_yld (Y_move rfl) rfl rfl rfl ?_
            refine L_splitd (d := 61) rfl (fun c6 => ?_) (fun c6 => ?_)
            · refine L_skip rfl rfl rfl ?_
              refine L_skip rfl rfl rfl ?_
              refine L_yld (Y_pick_t rfl rfl) rfl rfl rfl ?_
              refine L_yld (Y_move rfl) rfl rfl rfl ?_
              refine L_skip rfl rfl rfl ?_
              refine L_skip rfl rfl rfl ?_
              refine L_yld (Y_pick_t rfl rfl) rfl rfl rfl ?_
              refine L_yld (Y_pick_t rfl rfl) rfl rfl rfl ?_
              refine L_yld (Y_assign rfl) rfl rfl rfl ?_
              refine L_nil ?_
              exact X_cut () (.cons (i := 6) (lkb rfl (by simp only [eq_true c3, c4, eq_true c5, eq_true c6, true_and, and_true, false_and, and_false, true_or, or_true, false_or, or_false, not_true_eq_false, not_false_eq_true, decide_true, decide_false, Bool.true_eq_false, Bool.false_eq_true, eq_self, Bool.decide_eq_true])) (.nil _)) hx2
            · refine L_yld (Y_move rfl) rfl rfl rfl ?_
              refine L_yld (Y_lss rfl rfl) rfl rfl rfl ?_
              refine L_yld (Y_pick_f rfl rfl) rfl rfl rfl ?_
              refine L_yld (Y_move rfl) rfl rfl rfl ?_
              refine L_splitd (d := 65) rfl (fun c7 => ?_) (fun c7 => ?_)
              · refine L_skip rfl rfl rfl ?_
                refine L_skip rfl rfl rfl ?_
                refine L_yld (Y_pick_t rfl rfl) rfl rfl rfl ?_
                refine L_yld (Y_pick_t rfl rfl) rfl rfl rfl ?_
                refine L_yld (Y_assign rfl) rfl rfl rfl ?_
                refine L_nil ?_
                exact X_cut () (.cons (i := 6) (lkb rfl (by simp only [eq_true c3, c4, eq_true c5, eq_false c6, eq_true c7, true_and, and_true, false_and, and_false, true_or, or_true, false_or, or_false, not_true_eq_false, not_false_eq_true, decide_true, decide_false, Bool.true_eq_false, Bool.false_eq_true, eq_self, Bool.decide_eq_true])) (.nil _)) hx2
              · refine L_yld (Y_move rfl) rfl rfl rfl ?_
                refine L_yld (Y_geq rfl rfl) rfl rfl rfl ?_
                refine L_yld (Y_pick_f rfl rfl) rfl rfl rfl ?_
                refine L_yld (Y_pick_t rfl rfl) rfl rfl rfl ?_
                refine L_yld (Y_assign rfl) rfl rfl rfl ?_
                refine L_nil ?_
                exact X_cut () (.cons (i := 6) (lkb rfl (by simp only [eq_true c3, c4, eq_true c5, eq_false c6, eq_false c7, true_and, and_true, false_and, and_false, true_or, or_true, false_or, or_false, not_true_eq_false, not_false_eq_true, decide_true, decide_false, Bool.true_eq_false, Bool.false_eq_true, eq_self, Bool.decide_eq_true])) (.nil _)) hx2
          · refine L_yld (Y_move rfl) rfl rfl rfl ?_
            refine L_yld (Y_gtr rfl rfl) rfl rfl rfl ?_
            refine L_yld (Y_pick_f rfl rfl) rfl rfl rfl ?_
            refine L_yld (Y_move rfl) rfl rfl rfl ?_
            refine L_splitd (d := 53) rfl (fun c8 => ?_) (fun c8 => ?_)
            · refine L_skip rfl rfl rfl ?_
              refine L_skip rfl rfl rfl ?_
              refine L_yld (Y_pick_t rfl rfl) rfl rfl rfl ?_
              refine L_yld (Y_pick_t rfl rfl) rfl rfl rfl ?_
              refine L_yld (Y_move rfl) rfl rfl rfl ?_
              refine L_yld (Y_move rfl) rfl rfl rfl ?_
              refine L_yld (Y_lss rfl rfl) rfl rfl rfl ?_
              refine L_yld (Y_move rfl) rfl rfl rfl ?_
              refine L_splitd (d := 61) rfl (fun c9 => ?_) (fun c9 => ?_)
              · refine L_skip rfl rfl rfl ?_
                refine L_skip rfl rfl rfl ?_
                refine L_yld (Y_pick_t rfl rfl) rfl rfl rfl ?_
                refine L_yld (Y_move rfl) rfl rfl rfl ?_
                refine L_skip rfl rfl rfl ?_
                refine L_skip rfl rfl rfl ?_
                refine L_yld (Y_pick_t rfl rfl) rfl rfl rfl ?_
                refine L_yld (Y_pick_t rfl rfl) rfl rfl rfl ?_
                refine L_yld (Y_assign rfl) rfl rfl rfl ?_
                refine L_nil ?_
                exact X_cut () (.cons (i := 6) (lkb rfl (by simp only [eq_true c3, c4, eq_false c5, eq_true c8, eq_true c9, true_and, and_true, false_and, and_false, true_or, or_true, false_or, or_false, not_true_eq_false, not_false_eq_true, decide_true, decide_false, Bool.true_eq_false, Bool.false_eq_true, eq_self, Bool.decide_eq_true])) (.nil _)) hx2
              · refine L_yld (Y_move rfl) rfl rfl rfl ?_
                refine L_yld (Y_lss rfl rfl) rfl rfl rfl ?_
                refine L_yld (Y_pick_f rfl rfl) rfl rfl rfl ?_
                refine L_yld (Y_move rfl) rfl rfl rfl ?_
                refine L_splitd (d := 65) rfl (fun c10 => ?_) (fun c10 => ?_)
                · refine L_skip rfl rfl rfl ?_
                  refine L_skip rfl rfl rfl ?_
                  refine L_yld (Y_pick_t rfl rfl) rfl rfl rfl ?_
                  refine L_yld (Y_pick_t rfl rfl) rfl rfl rfl ?_
                  refine L_yld (Y_assign rfl) rfl rfl rfl ?_
                  refine L_nil ?_
                  exact X_cut () (.cons (i := 6) (lkb rfl (by simp only [eq_true c3, c4, eq_false c5, eq_true c8, eq_false c9, eq_true c10, true_and, and_true, false_and, and_false, true_or, or_true, false_or, or_false, not_true_eq_false, not_false_eq_true, decide_true, decide_false, Bool.true_eq_false, Bool.false_eq_true, eq_self, Bool.decide_eq_true])) (.nil _)) hx2
                · refine L_yld (Y_move rfl) rfl rfl rfl ?_
                  refine L_yld (Y_geq rfl rfl) rfl rfl rfl ?_
                  refine L_yld (Y_pick_f rfl rfl) rfl rfl rfl ?_
                  refine L_yld (Y_pick_t rfl rfl) rfl rfl rfl ?_
                  refine L_yld (Y_assign rfl) rfl rfl rfl ?_
                  refine L_nil ?_
                  exact X_cut () (.cons (i := 6) (lkb rfl (by simp only [eq_true c3, c4, eq_false c5, eq_true c8, eq_false c9, eq_false c10, true_and, and_true, false_and, and_false, true_or, or_true, false_or, or_false, not_true_eq_false, not_false_eq_true, decide_true, decide_false, Bool.true_eq_false, Bool.false_eq_true, eq_self, Bool.decide_eq_true])) (.nil _)) hx2
            · refine L_yld (Y_move rfl) rfl rfl rfl ?_
              refine L_yld (Y_leq rfl rfl) rfl rfl rfl ?_
              refine L_yld (Y_pick_f rfl rfl) rfl rfl rfl ?_
              refine L_yld (Y_pick_t rfl rfl) rfl rfl rfl ?_
              refine L_yld (Y_move rfl) rfl rfl rfl ?_
              refine L_splitd (d := 58) rfl (fun c11 => ?_) (fun c11 => ?_)
              · refine L_yld (Y_move rfl) rfl rfl rfl ?_
                refine L_yld (Y_lss rfl rfl) rfl rfl rfl ?_
                refine L_yld (Y_move rfl) rfl rfl rfl ?_
                refine L_splitd (d := 61) rfl (fun c12 => ?_) (fun c12 => ?_)
                · refine L_skip rfl rfl rfl ?_
                  refine L_skip rfl rfl rfl ?_
                  refine L_yld (Y_pick_t rfl rfl) rfl rfl rfl ?_
                  refine L_yld (Y_move rfl) rfl rfl rfl ?_
                  refine L_skip rfl rfl rfl ?_
                  refine L_skip rfl rfl rfl ?_
                  refine L_yld (Y_pick_t rfl rfl) rfl rfl rfl ?_
                  refine L_yld (Y_pick_t rfl rfl) rfl rfl rfl ?_
                  refine L_yld (Y_assign rfl) rfl rfl rfl ?_
                  refine L_nil ?_
                  exact X_cut () (.cons (i := 6) (lkb rfl (by simp only [eq_true c3, c4, eq_false c5, eq_false c8, eq_true c11, eq_true c12, true_and, and_true, false_and, and_false, true_or, or_true, false_or, or_false, not_true_eq_false, not_false_eq_true, decide_true, decide_false, Bool.true_eq_false, Bool.false_eq_true, eq_self, Bool.decide_eq_true])) (.nil _)) hx2
                · refine L_yld (Y_move rfl) rfl rfl rfl ?_
                  refine L_yld (Y_lss rfl rfl) rfl rfl rfl ?_
                  refine L_yld (Y_pick_f rfl rfl) rfl rfl rfl ?_
                  refine L_yld (Y_move rfl) rfl rfl rfl ?_
                  refine L_splitd (d := 65) rfl (fun c13 => ?_) (fun c13 => ?_)
                  · refine L_skip rfl rfl rfl ?_
                    refine L_skip rfl rfl rfl ?_
                    refine L_yld (Y_pick_t rfl rfl) rfl rfl rfl ?_
                    refine L_yld (Y_pick_t rfl rfl) rfl rfl rfl ?_
                    refine L_yld (Y_assign rfl) rfl rfl rfl ?_
                    refine L_nil ?_
                    exact X_cut () (.cons (i := 6) (lkb rfl (by simp only [eq_true c3, c4, eq_false c5, eq_false c8, eq_true c11, eq_false c12, eq_true c13, true_and, and_true, false_and, and_false, true_or, or_true, false_or, or_false, not_true_eq_false, not_false_eq_true, decide_true, decide_false, Bool.true_eq_false, Bool.false_eq_true, eq_self, Bool.decide_eq_true])) (.nil _)) hx2
                  · refine L_yld (Y_move rfl) rfl rfl rfl ?_
                    refine L_yld (Y_geq rfl rfl) rfl rfl rfl ?_
                    refine L_yld (Y_pick_f rfl rfl) rfl rfl rfl ?_
                    refine L_yld (Y_pick_t rfl rfl) rfl rfl rfl ?_
                    refine L_yld (Y_assign rfl) rfl rfl rfl ?_
                    refine L_nil ?_
                    exact X_cut () (.cons (i := 6) (lkb rfl (by simp only [eq_true c3, c4, eq_false c5, eq_false c8, eq_true c11, eq_false c12, eq_false c13, true_and, and_true, false_and, and_false, true_or, or_true, false_or, or_false, not_true_eq_false, not_false_eq_true, decide_true, decide_false, Bool.true_eq_false, Bool.false_eq_true, eq_self, Bool.decide_eq_true])) (.nil _)) hx2
              · refine L_skip rfl rfl rfl ?_
                refine L_skip rfl rfl rfl ?_
                refine L_skip rfl rfl rfl ?_
                refine L_skip rfl rfl rfl ?_
                refine L_skip rfl rfl rfl ?_
                refine L_skip rfl rfl rfl ?_
                refine L_skip rfl rfl rfl ?_
                refine L_skip rfl rfl rfl ?_
                refine L_skip rfl rfl rfl ?_
                refine L_skip rfl rfl rfl ?_
                refine L_yld (Y_pick_f rfl rfl) rfl rfl rfl ?_
                refine L_yld (Y_assign rfl) rfl rfl rfl ?_
                refine L_nil ?_
                exact X_cut () (.cons (i := 6) (lkb rfl (by simp only [eq_true c3, c4, eq_false c5, eq_false c8, eq_false c11, true_and, and_true, false_and, and_false, true_or, or_true, false_or, or_false, not_true_eq_false, not_false_eq_true, decide_true, decide_false, Bool.true_eq_false, Bool.false_eq_true, eq_self, Bool.decide_eq_true])) (.nil _)) hx2
        · refine L_skip rfl rfl rfl ?_
          refine L_skip rfl rfl rfl ?_
          refine L_skip rfl rfl rfl ?_
          refine L_skip rfl rfl rfl ?_
          refine L_skip rfl rfl rfl ?_
          refine L_skip rfl rfl rfl ?_
          refine L_skip rfl rfl rfl ?_
          refine L_skip rfl rfl rfl ?_
          refine L_skip rfl rfl rfl ?_
          refine L_skip rfl rfl rfl ?_
          refine L_yld (Y_pick_f rfl rfl) rfl rfl rfl ?_
          refine L_yld (Y_move rfl) rfl rfl rfl ?_
          refine L_skip rfl rfl rfl ?_
          refine L_skip rfl rfl rfl ?_
          refine L_skip rfl rfl rfl ?_
          refine L_skip rfl rfl rfl ?_
          refine L_skip rfl rfl rfl ?_
          refine L_skip rfl rfl rfl ?_
          refine L_skip rfl rfl rfl ?_
          refine L_skip rfl rfl rfl ?_
          refine L_skip rfl rfl rfl ?_
          refine L_skip rfl rfl rfl ?_
          refine L_yld (Y_pick_f rfl rfl) rfl rfl rfl ?_
          refine L_yld (Y_assign rfl) rfl rfl rfl ?_
          refine L_nil ?_
          exact X_cut () (.cons (i := 6) (lkb rfl (by simp only [eq_true c3, c4, true_and, and_true, false_and, and_false, true_or, or_true, false_or, or_false, not_true_eq_false, not_false_eq_true, decide_true, decide_false, Bool.true_eq_false, Bool.false_eq_true, eq_self, Bool.decide_eq_true])) (.nil _)) hx2
      · refine L_skip rfl rfl rfl ?_
        refine L_skip rfl rfl rfl ?_
        refine L_skip rfl rfl rfl ?_
        refine L_skip rfl rfl rfl ?_
        refine L_skip rfl rfl rfl ?_
        refine L_skip rfl rfl rfl ?_
        refine L_yld (Y_pick_f rfl rfl) rfl rfl rfl ?_
        refine L_yld (Y_move rfl) rfl rfl rfl ?_
        refine L_skip rfl rfl rfl ?_
        refine L_skip rfl rfl rfl ?_
        refine L_skip rfl rfl rfl ?_
        refine L_skip rfl rfl rfl ?_
        refine L_skip rfl rfl rfl ?_
        refine L_skip rfl rfl rfl ?_
        refine L_skip rfl rfl rfl ?_
        refine L_skip rfl rfl rfl ?_
        refine L_skip rfl rfl rfl ?_
        refine L_skip rfl rfl rfl ?_
        refine L_yld (Y_pick_f rfl rfl) rfl rfl rfl ?_
        refine L_yld (Y_move rfl) rfl rfl rfl ?_
        refine L_skip rfl rfl rfl ?_
        refine L_skip rfl rfl rfl ?_
        refine L_skip rfl rfl rfl ?_
        refine L_skip rfl rfl rfl ?_
        refine L_skip rfl rfl rfl ?_
        refine L_skip rfl rfl rfl ?_
        refine L_skip rfl rfl rfl ?_
        refine L_skip rfl rfl rfl ?_
        refine L_skip rfl rfl rfl ?_
        refine L_skip rfl rfl rfl ?_
        refine L_yld (Y_pick_f rfl rfl) rfl rfl rfl ?_
        refine L_yld (Y_assign rfl) rfl rfl rfl ?_
        refine L_nil ?_
        exact X_cut () (.cons (i := 6) (lkb rfl (by simp only [eq_false c3, true_and, and_true, false_and, and_false, true_or, or_true, false_or, or_false, not_true_eq_false, not_false_eq_true, decide_true, decide_false, Bool.true_eq_false, Bool.false_eq_true, eq_self, Bool.decide_eq_true])) (.nil _)) hx2
    rintro _ h3 hx14
    show W _ _ _ _ _ [(6, .bool (decide (((((pcmp a b) = (-(pcmp b a))) ∧ (((decide ((pcmp a b) = 0)) == (decide (a = b))) = true)) ∧ (((0 < (pcmp a b)) ∨ (0 < (pcmp b c))) ∨ ((pcmp a c) ≤ 0))) ∧ ((((pcmp a b) < 0) ∨ ((pcmp b c) < 0)) ∨ (0 ≤ (pcmp a c))))))] _
    refine W_ret ?_
    refine X_ret1 rfl rfl ?_
    exact ⟨congrArg Value.bool (decide_eq_true (by have := total_order a b c; simpa using this)), hx14⟩

theorem split_ok {p : List UInt8} (h : sok p = true) : (p.length ≤ 100 ∧ spre p = [] ∧ snam p = p) ∨ (¬ p.length ≤ 100 ∧ ∃ k, fits8 p k ∧ (∀ i, i < k → ¬ fits8 p i) ∧ spre p = p.take k ∧ snam p = p.drop (k + 1)) := by
  by_cases hl : p.length ≤ 100
  · left; exact ⟨hl, by unfold spre; rw [if_pos hl], by unfold snam; rw [if_pos hl]⟩
  · right
    have hb : bad8 p = false := by unfold sok at h; simpa [hl] using h
    rcases slash8_first hl with ⟨h1, _⟩ | ⟨_, k, hk, hk2, hk3⟩
    · rw [hb] at h1; cases h1
    · refine ⟨hl, k, hk2, hk3, ?_, ?_⟩
      · unfold spre; rw [if_neg hl, hb, hk]; rfl
      · unfold snam; rw [if_neg hl, hb, hk]; rfl
theorem split_no {p : List UInt8} (h : sok p = false) : ¬ p.length ≤ 100 ∧ spre p = [] ∧ snam p = [] ∧ ∀ i, ¬ fits8 p i := by
  unfold sok at h
  simp only [Bool.or_eq_false_iff, decide_eq_false_iff_not, Bool.not_eq_false'] at h
  obtain ⟨hl, hb⟩ := h
  rcases slash8_first hl with ⟨_, h1⟩ | ⟨h1, _⟩
  · refine ⟨hl, ?_, ?_, h1⟩
    · unfold spre; rw [if_neg hl, if_pos hb]
    · unfold snam; rw [if_neg hl, if_pos hb]
  · rw [hb] at h1; cases h1
theorem split_lens (p : List UInt8) : (spre p).length ≤ p.length ∧ (snam p).length ≤ p.length := by
  cases h : sok p with
  | true =>
    rcases split_ok h with ⟨_, h1, h2⟩ | ⟨_, k, _, _, h1, h2⟩
    · rw [h1, h2]; simp
    · rw [h1, h2]; simp; omega
  | false =>
    obtain ⟨_, h1, h2, _⟩ := split_no h
    rw [h1, h2]; simp
theorem uses_first {p : List UInt8} {i : Nat} (h : sok p = true) (h1 : 1 ≤ i) (h2 : i < (spre p).length) (hb : byt p i = 47 ∧ (p.length : Int) - i - 1 ≤ 100 ∧ 1 ≤ (p.length : Int) - i - 1) : False := by
  rcases split_ok h with ⟨_, h3, _⟩ | ⟨hl, k, hk, hk2, h3, _⟩
  · rw [h3] at h2; simp at h2
  · rw [h3] at h2
    simp at h2
    exact hk2 i (by omega) ⟨h1, by have := hk.2.1; omega, by omega, by omega, hb.1⟩
theorem name_some {p : List UInt8} (h : sok p = true) : 1 ≤ (snam p).length ∨ p = [] := by
  rcases split_ok h with ⟨_, _, h4⟩ | ⟨hl, k, hk, hk2, _, h4⟩
  · rw [h4]
    cases p <;> simp
  · left; rw [h4]; have := hk.2.2.1; simp; omega
theorem join_split {p : List UInt8} (h : sok p = true) : pjoin (spre p) (snam p) = p ∧ (snam p).length ≤ 100 ∧ (spre p).length ≤ 155 ∧ (spre p = [] ↔ p.length ≤ 100) := by
  rcases split_ok h with ⟨hl, h3, h4⟩ | ⟨hl, k, hk, hk2, h3, h4⟩
  · rw [h3, h4]; simp [pjoin, hl]
  · obtain ⟨k1, k2, k3, k4, k5⟩ := hk
    have hne : p.take k ≠ [] := by
      intro e
      have := congrArg List.length e
      simp only [List.length_take, List.length_nil] at this; omega
    rw [h3, h4]
    refine ⟨?_, by simp only [List.length_drop]; omega, by simp only [List.length_take]; omega, ⟨fun e => absurd e hne, fun e => absurd e hl⟩⟩
    unfold pjoin
    rw [if_neg hne]
    have h5 : p[k]'(by omega) = 47 := by rw [byt_eq (by omega)] at k5; exact UInt8.toNat_inj.1 (Int.ofNat_inj.1 k5)
    rw [← h5, List.append_assoc, List.singleton_append, List.getElem_cons_drop, List.take_append_drop]

set_option maxRecDepth 100000 in
theorem law08_UsesFirst (h : Heap) (p : List UInt8) (hl : p.length ≤ 9223372036854775807) : Cal Try.prog 9 #[str p] h (fun v h' => v = .bool true ∧ Ext h h') := by
  refine Cal_enter (args := [str p]) Try.func9 rfl rfl rfl (fun σ => ?_)
  refine W_seq ?_
  refine W_region ?_
  refine L_yld (Y_assign rfl) rfl rfl rfl ?_
  refine L_nil ?_
  refine X_then ?_
  refine W_seq ?_
  refine W_region ?_
  refine L_yld (Y_move rfl) rfl rfl rfl ?_
  refine L_call (E_call (by kernel_rfl) rfl) (pathname_Split _ p (by first | omega | rfl | (simp <;> omega))) rfl rfl rfl ?_
  rintro _ h ⟨rfl, rfl⟩
  refine L_yld (Y_move rfl) rfl rfl rfl ?_
  refine L_yld (Y_extract rfl rfl) rfl rfl rfl ?_
  refine L_yld (Y_extract rfl rfl) rfl rfl rfl ?_
  refine L_yld (Y_extract rfl rfl) rfl rfl rfl ?_
  refine L_yld (Y_assign rfl) rfl rfl rfl ?_
  refine L_yld (Y_assign rfl) rfl rfl rfl ?_
  refine L_yld (Y_assign rfl) rfl rfl rfl ?_
  refine L_nil ?_
  refine X_then ?_
  refine W_sub _ (.cons (i := 5) rfl (.cons (i := 4) rfl (.cons (i := 3) rfl (.cons (i := 2) rfl (.cons (i := 0) rfl (.nil _)))))) ?_
  refine W_seq ?_
  refine W_cut (S := Unit) (fun _ => [(19, .bool (decide ((3000 < (p.length : Int)) ∨ ((!(sok p)) = true)))), (4, str (snam p)), (3, str (spre p)), (2, .bool false), (0, str p)]) (fun _ h' => h' = h) ?_ ?_
  · refine W_region ?_
    refine L_yld (Y_move rfl) rfl rfl rfl ?_
    refine L_yld (Y_slen Try.underlying9 rfl) rfl rfl rfl ?_
    refine L_yld (Y_gtr rfl rfl) rfl rfl rfl ?_
    refine L_yld (Y_move rfl) rfl rfl rfl ?_
    refine L_splitd (d := 16) rfl (fun g => ?_) (fun g => ?_)
    · refine L_skip rfl rfl rfl ?_
      refine L_skip rfl rfl rfl ?_
      refine L_yld (Y_pick_t rfl rfl) rfl rfl rfl ?_
      refine L_nil ?_
      exact X_cut () (.cons (i := 19) (lkb rfl (by simp only [eq_true g, true_and, and_true, false_and, and_false, true_or, or_true, false_or, or_false, not_true_eq_false, not_false_eq_true, decide_true, decide_false, Bool.true_eq_false, Bool.false_eq_true, eq_self, Bool.decide_eq_true])) (.cons (i := 4) rfl (.cons (i := 3) rfl (.cons (i := 2) rfl (.cons (i := 0) rfl (.nil _)))))) rfl
    · refine L_yld (Y_move rfl) rfl rfl rfl ?_
      refine L_yld (Y_not rfl) rfl rfl rfl ?_
      refine L_yld (Y_pick_f rfl rfl) rfl rfl rfl ?_
      refine L_nil ?_
      exact X_cut () (.cons (i := 19) (lkb rfl (by simp only [eq_false g, true_and, and_true, false_and, and_false, true_or, or_true, false_or, or_false, not_true_eq_false, not_false_eq_true, decide_true, decide_false, Bool.true_eq_false, Bool.false_eq_true, eq_self, Bool.decide_eq_true])) (.cons (i := 4) rfl (.cons (i := 3) rfl (.cons (i := 2) rfl (.cons (i := 0) rfl (.nil _)))))) rfl
  rintro _ h rfl
  show W _ _ _ _ _ [(19, .bool (decide ((3000 < (p.length : Int)) ∨ ((!(sok p)) = true)))), (4, str (snam p)), (3, str (spre p)), (2, .bool false), (0, str p)] _
  refine W_splitd rfl (fun g => ?_) (fun g => ?_)
  · refine W_seq ?_
    refine W_region ?_
    refine L_call (E_call (by kernel_rfl) rfl) (law08_alive _) rfl rfl rfl ?_
    rintro _ h1 ⟨rfl, hx1⟩
    refine L_yld (Y_assign rfl) rfl rfl rfl ?_
    refine L_nil ?_
    refine X_then ?_
    refine W_sub _ (.cons (i := 2) rfl (.cons (i := 4) rfl (.cons (i := 3) rfl (.cons (i := 0) rfl (.nil _))))) ?_
    refine W_ret ?_
    refine X_then_ret ?_
    refine X_ret1 rfl rfl ?_
    exact ⟨rfl, hx1⟩
  · refine W_skip ?_
    refine X_then ?_
    refine W_sub _ (.cons (i := 4) rfl (.cons (i := 3) rfl (.cons (i := 2) rfl (.cons (i := 0) rfl (.nil _))))) ?_
    have ok : sok p = true := by simp only [not_or] at g; simpa using g.2
    refine W_seq ?_
    refine W_seq ?_
    refine W_region ?_
    refine L_yld (Y_assign rfl) rfl rfl rfl ?_
    refine L_nil ?_
    refine X_then ?_
    refine W_block ?_
    refine W_loop (S := Nat) (fun i => [(4, str (snam p)), (3, str (spre p)), (0, str p), (6, .int .i64 ((i : Int)))]) (fun i h' => 1 ≤ i ∧ i ≤ (spre p).length + 1 ∧ h' = h) (fun i => (spre p).length + 1 - i) 1 (.cons (i := 4) rfl (.cons (i := 3) rfl (.cons (i := 0) rfl (.cons (i := 6) rfl (.nil _))))) ?_ ?_
    · exact ⟨by omega, by omega, rfl⟩
    rintro i h ⟨hi1, hi2, rfl⟩
    show W _ _ _ _ _ [(4, str (snam p)), (3, str (spre p)), (0, str p), (6, .int .i64 ((i : Int)))] _
    refine W_seq ?_
    refine W_cut (S := Unit) (fun _ => [(30, .bool (decide (((i : Int) < ((spre p).length : Int)) ∧ ((i : Int) < (p.length : Int))))), (4, str (snam p)), (3, str (spre p)), (0, str p), (6, .int .i64 ((i : Int)))]) (fun _ h' => h' = h) ?_ ?_
    · refine W_region ?_
      refine L_yld (Y_move rfl) rfl rfl rfl ?_
      refine L_yld (Y_move rfl) rfl rfl rfl ?_
      refine L_yld (Y_slen Try.underlying9 rfl) rfl rfl rfl ?_
      refine L_yld (Y_lss rfl rfl) rfl rfl rfl ?_
      refine L_yld (Y_move rfl) rfl rfl rfl ?_
      refine L_splitd (d := 25) rfl (fun c => ?_) (fun c => ?_)
      · refine L_yld (Y_move rfl) rfl rfl rfl ?_
        refine L_yld (Y_move rfl) rfl rfl rfl ?_
        refine L_yld (Y_slen Try.underlying9 rfl) rfl rfl rfl ?_
        refine L_yld (Y_lss rfl rfl) rfl rfl rfl ?_
        refine L_yld (Y_pick_t rfl rfl) rfl rfl rfl ?_
        refine L_nil ?_
        exact X_cut () (.cons (i := 30) (lkb rfl (by simp only [eq_true c, true_and, and_true, false_and, and_false, true_or, or_true, false_or, or_false, not_true_eq_false, not_false_eq_true, decide_true, decide_false, Bool.true_eq_false, Bool.false_eq_true, eq_self, Bool.decide_eq_true])) (.cons (i := 4) rfl (.cons (i := 3) rfl (.cons (i := 0) rfl (.cons (i := 6) rfl (.nil _)))))) rfl
      · refine L_skip rfl rfl rfl ?_
        refine L_skip rfl rfl rfl ?_
        refine L_skip rfl rfl rfl ?_
        refine L_skip rfl rfl rfl ?_
        refine L_yld (Y_pick_f rfl rfl) rfl rfl rfl ?_
        refine L_nil ?_
        exact X_cut () (.cons (i := 30) (lkb rfl (by simp only [eq_false c, true_and, and_true, false_and, and_false, true_or, or_true, false_or, or_false, not_true_eq_false, not_false_eq_true, decide_true, decide_false, Bool.true_eq_false, Bool.false_eq_true, eq_self, Bool.decide_eq_true])) (.cons (i := 4) rfl (.cons (i := 3) rfl (.cons (i := 0) rfl (.cons (i := 6) rfl (.nil _)))))) rfl
    rintro _ h rfl
    show W _ _ _ _ _ [(30, .bool (decide (((i : Int) < ((spre p).length : Int)) ∧ ((i : Int) < (p.length : Int))))), (4, str (snam p)), (3, str (spre p)), (0, str p), (6, .int .i64 ((i : Int)))] _
    refine W_splitd rfl (fun hlt => ?_) (fun hlt => ?_)
    · refine W_skip ?_
      refine X_then ?_
      refine W_sub _ (.cons (i := 4) rfl (.cons (i := 3) rfl (.cons (i := 0) rfl (.cons (i := 6) rfl (.nil _))))) ?_
      refine W_seq ?_
      refine W_block ?_
      refine W_cut (S := Unit) (fun _ => [(52, .bool (decide ((((byt p ((i : Int)).toNat) = 47) ∧ ((((p.length : Int) - (i : Int)) - 1) ≤ 100)) ∧ (1 ≤ (((p.length : Int) - (i : Int)) - 1))))), (4, str (snam p)), (3, str (spre p)), (0, str p), (6, .int .i64 ((i : Int)))]) (fun _ h' => h' = h) ?_ ?_
      · refine W_region ?_
        refine L_yld (Y_move rfl) rfl rfl rfl ?_
        refine L_yld (Y_move rfl) rfl rfl rfl ?_
        refine L_yld (Y_sidx Try.underlying9 rfl rfl (by omega) (by omega)) rfl rfl rfl ?_
        refine L_yld (Y_eql rfl rfl) rfl rfl rfl ?_
        refine L_yld (Y_move rfl) rfl rfl rfl ?_
        refine L_splitd (d := 37) rfl (fun c2 => ?_) (fun c2 => ?_)
        · refine L_yld (Y_move rfl) rfl rfl rfl ?_
          refine L_yld (Y_slen Try.underlying9 rfl) rfl rfl rfl ?_
          refine L_yld (Y_move rfl) rfl rfl rfl ?_
          refine L_yld (Y_sub rfl rfl (by omega) (by omega)) rfl rfl rfl ?_
          refine L_yld (Y_sub rfl rfl (by omega) (by omega)) rfl rfl rfl ?_
          refine L_yld (Y_leq rfl rfl) rfl rfl rfl ?_
          refine L_yld (Y_pick_t rfl rfl) rfl rfl rfl ?_
          refine L_yld (Y_move rfl) rfl rfl rfl ?_
          refine L_splitd (d := 45) rfl (fun c3 => ?_) (fun c3 => ?_)
          · refine L_yld (Y_move rfl) rfl rfl rfl ?_
            refine L_yld (Y_slen Try.underlying9 rfl) rfl rfl rfl ?_
            refine L_yld (Y_move rfl) rfl rfl rfl ?_
            refine L_yld (Y_sub rfl rfl (by omega) (by omega)) rfl rfl rfl ?_
            refine L_yld (Y_sub rfl rfl (by omega) (by omega)) rfl rfl rfl ?_
            refine L_yld (Y_geq rfl rfl) rfl rfl rfl ?_
            refine L_yld (Y_pick_t rfl rfl) rfl rfl rfl ?_
            refine L_nil ?_
            exact X_cut () (.cons (i := 52) (lkb rfl (by simp only [eq_true c2, eq_true c3, true_and, and_true, false_and, and_false, true_or, or_true, false_or, or_false, not_true_eq_false, not_false_eq_true, decide_true, decide_false, Bool.true_eq_false, Bool.false_eq_true, eq_self, Bool.decide_eq_true])) (.cons (i := 4) rfl (.cons (i := 3) rfl (.cons (i := 0) rfl (.cons (i := 6) rfl (.nil _)))))) rfl
          · refine L_skip rfl rfl rfl ?_
            refine L_skip rfl rfl rfl ?_
            refine L_skip rfl rfl rfl ?_
            refine L_skip rfl rfl rfl ?_
            refine L_skip rfl rfl rfl ?_
            refine L_skip rfl rfl rfl ?_
            refine L_yld (Y_pick_f rfl rfl) rfl rfl rfl ?_
            refine L_nil ?_
            exact X_cut () (.cons (i := 52) (lkb rfl (by simp only [eq_true c2, eq_false c3, true_and, and_true, false_and, and_false, true_or, or_true, false_or, or_false, not_true_eq_false, not_false_eq_true, decide_true, decide_false, Bool.true_eq_false, Bool.false_eq_true, eq_self, Bool.decide_eq_true])) (.cons (i := 4) rfl (.cons (i := 3) rfl (.cons (i := 0) rfl (.cons (i := 6) rfl (.nil _)))))) rfl
        · refine L_skip rfl rfl rfl ?_
          refine L_skip rfl rfl rfl ?_
          refine L_skip rfl rfl rfl ?_
          refine L_skip rfl rfl rfl ?_
          refine L_skip rfl rfl rfl ?_
          refine L_skip rfl rfl rfl ?_
          refine L_yld (Y_pick_f rfl rfl) rfl rfl rfl ?_
          refine L_yld (Y_move rfl) rfl rfl rfl ?_
          refine L_skip rfl rfl rfl ?_
          refine L_skip rfl rfl rfl ?_
          refine L_skip rfl rfl rfl ?_
          refine L_skip rfl rfl rfl ?_
          refine L_skip rfl rfl rfl ?_
          refine L_skip rfl rfl rfl ?_
          refine L_yld (Y_pick_f rfl rfl) rfl rfl rfl ?_
          refine L_nil ?_
          exact X_cut () (.cons (i := 52) (lkb rfl (by simp only [eq_false c2, true_and, and_true, false_and, and_false, true_or, or_true, false_or, or_false, not_true_eq_false, not_false_eq_true, decide_true, decide_false, Bool.true_eq_false, Bool.false_eq_true, eq_self, Bool.decide_eq_true])) (.cons (i := 4) rfl (.cons (i := 3) rfl (.cons (i := 0) rfl (.cons (i := 6) rfl (.nil _)))))) rfl
      rintro _ h rfl
      show W _ _ _ _ _ [(52, .bool (decide ((((byt p ((i : Int)).toNat) = 47) ∧ ((((p.length : Int) - (i : Int)) - 1) ≤ 100)) ∧ (1 ≤ (((p.length : Int) - (i : Int)) - 1))))), (4, str (snam p)), (3, str (spre p)), (0, str p), (6, .int .i64 ((i : Int)))] _
      refine W_known false rfl (by exact decide_eq_false (by intro hb; exact uses_first ok hi1 (by omega) ⟨hb.1.1, hb.1.2, hb.2⟩)) ?_
      refine W_skip ?_
      refine X_block ?_
      refine X_then ?_
      refine W_sub _ (.cons (i := 4) rfl (.cons (i := 3) rfl (.cons (i := 0) rfl (.cons (i := 6) rfl (.nil _))))) ?_
      refine W_region ?_
      refine L_yld (Y_move rfl) rfl rfl rfl ?_
      refine L_yld (Y_add rfl rfl (by omega) (by omega)) rfl rfl rfl ?_
      refine L_yld (Y_assign rfl) rfl rfl rfl ?_
      refine L_nil ?_
      refine X_loop (i + 1) (.cons (i := 4) rfl (.cons (i := 3) rfl (.cons (i := 0) rfl (.cons (i := 6) rfl (.nil _))))) ?_ ?_
      · exact ⟨by omega, by omega, rfl⟩
      · (try dsimp only)
        omega
    · refine W_exit ?_
      refine X_then_exit ?_
      refine X_then_exit ?_
      refine X_block_hit ?_
      refine X_then ?_
      refine W_sub _ (.cons (i := 4) rfl (.cons (i := 0) rfl (.nil _))) ?_
      refine W_cut (S := Unit) (fun _ => [(2, .bool (decide ((1 ≤ ((snam p).length : Int)) ∨ (p = []))))]) (fun _ h' => Ext h h') ?_ ?_
      · refine W_region ?_
        refine L_call (E_call (by kernel_rfl) rfl) (law08_alive _) rfl rfl rfl ?_
        rintro _ h2 ⟨rfl, hx4⟩
        refine L_yld (Y_move rfl) rfl rfl rfl ?_
        refine L_yld (Y_move rfl) rfl rfl rfl ?_
        refine L_yld (Y_slen Try.underlying9 rfl) rfl rfl rfl ?_
        refine L_yld (Y_geq rfl rfl) rfl rfl rfl ?_
        refine L_yld (Y_move rfl) rfl rfl rfl ?_
        refine L_splitd (d := 58) rfl (fun c5 => ?_) (fun c5 => ?_)
        · refine L_skip rfl rfl rfl ?_
          refine L_skip rfl rfl rfl ?_
          refine L_yld (Y_pick_t rfl rfl) rfl rfl rfl ?_
          refine L_yld (Y_pick_t rfl rfl) rfl rfl rfl ?_
          refine L_yld (Y_assign rfl) rfl rfl rfl ?_
          refine L_nil ?_
          exact X_cut () (.cons (i := 2) (lkb rfl (by simp only [eq_true c5, true_and, and_true, false_and, and_false, true_or, or_true, false_or, or_false, not_true_eq_false, not_false_eq_true, decide_true, decide_false, Bool.true_eq_false, Bool.false_eq_true, eq_self, Bool.decide_eq_true])) (.nil _)) hx4
        · refine L_yld (Y_move rfl) rfl rfl rfl ?_
          refine L_yld (Y_seql rfl rfl) rfl rfl rfl ?_
          refine L_yld (Y_pick_f rfl rfl) rfl rfl rfl ?_
          refine L_yld (Y_pick_t rfl rfl) rfl rfl rfl ?_
          refine L_yld (Y_assign rfl) rfl rfl rfl ?_
          refine L_nil ?_
          exact X_cut () (.cons (i := 2) (lkb rfl (by simp only [eq_false c5, true_and, and_true, false_and, and_false, true_or, or_true, false_or, or_false, not_true_eq_false, not_false_eq_true, decide_true, decide_false, Bool.true_eq_false, Bool.false_eq_true, eq_self, Bool.decide_eq_true])) (.nil _)) hx4
      rintro _ h3 hx6
      show W _ _ _ _ _ [(2, .bool (decide ((1 ≤ ((snam p).length : Int)) ∨ (p = []))))] _
      refine W_ret ?_
      refine X_ret1 rfl rfl ?_
      exact ⟨congrArg Value.bool (decide_eq_true (by rcases name_some ok with h9 | h9; exact .inl (by omega); exact .inr h9)), hx6⟩

set_option maxRecDepth 100000 in
theorem law08_JoinInverts (h : Heap) (p : List UInt8) (hl : p.length ≤ 9223372036854775807) : Cal Try.prog 10 #[str p] h (fun v h' => v = .bool true ∧ Ext h h') := by
  have hpl := split_lens p
  refine Cal_enter (args := [str p]) Try.func10 rfl rfl rfl (fun σ => ?_)
  refine W_seq ?_
  refine W_region ?_
  refine L_yld (Y_assign rfl) rfl rfl rfl ?_
  refine L_nil ?_
  refine X_then ?_
  refine W_seq ?_
  refine W_seq ?_
  refine W_region ?_
  refine L_yld (Y_move rfl) rfl rfl rfl ?_
  refine L_yld (Y_slen Try.underlying9 rfl) rfl rfl rfl ?_
  refine L_yld (Y_gtr rfl rfl) rfl rfl rfl ?_
  refine L_nil ?_
  refine X_then ?_
  refine W_sub _ (.cons (i := 9) rfl (.cons (i := 2) rfl (.cons (i := 0) rfl (.nil _)))) ?_
  refine W_splitd rfl (fun g => ?_) (fun g => ?_)
  · refine W_seq ?_
    refine W_region ?_
    refine L_call (E_call (by kernel_rfl) rfl) (law08_alive _) rfl rfl rfl ?_
    rintro _ h1 ⟨rfl, hx1⟩
    refine L_yld (Y_assign rfl) rfl rfl rfl ?_
    refine L_nil ?_
    refine X_then ?_
    refine W_sub _ (.cons (i := 2) rfl (.cons (i := 0) rfl (.nil _))) ?_
    refine W_ret ?_
    refine X_then_ret ?_
    refine X_ret1 rfl rfl ?_
    exact ⟨rfl, hx1⟩
  · refine W_skip ?_
    refine X_then ?_
    refine W_sub _ (.cons (i := 2) rfl (.cons (i := 0) rfl (.nil _))) ?_
    refine W_seq ?_
    refine W_region ?_
    refine L_yld (Y_move rfl) rfl rfl rfl ?_
    refine L_call (E_call (by kernel_rfl) rfl) (pathname_Split _ p (by first | omega | rfl | (simp <;> omega))) rfl rfl rfl ?_
    rintro _ h ⟨rfl, rfl⟩
    refine L_yld (Y_move rfl) rfl rfl rfl ?_
    refine L_yld (Y_extract rfl rfl) rfl rfl rfl ?_
    refine L_yld (Y_extract rfl rfl) rfl rfl rfl ?_
    refine L_yld (Y_extract rfl rfl) rfl rfl rfl ?_
    refine L_yld (Y_assign rfl) rfl rfl rfl ?_
    refine L_yld (Y_assign rfl) rfl rfl rfl ?_
    refine L_yld (Y_assign rfl) rfl rfl rfl ?_
    refine L_nil ?_
    refine X_then ?_
    refine W_sub _ (.cons (i := 5) rfl (.cons (i := 4) rfl (.cons (i := 3) rfl (.cons (i := 2) rfl (.cons (i := 0) rfl (.nil _)))))) ?_
    refine W_seq ?_
    refine W_seq ?_
    refine W_region ?_
    refine L_yld (Y_move rfl) rfl rfl rfl ?_
    refine L_nil ?_
    refine X_then ?_
    refine W_sub _ (.cons (i := 17) rfl (.cons (i := 4) rfl (.cons (i := 3) rfl (.cons (i := 2) rfl (.cons (i := 0) rfl (.nil _)))))) ?_
    refine W_split rfl (fun ok => ?_) (fun ok => ?_)
    · refine W_cut (S := Unit) (fun _ => [(2, .bool (decide (((((pjoin (spre p) (snam p)) = p) ∧ (((snam p).length : Int) ≤ 100)) ∧ (((spre p).length : Int) ≤ 155)) ∧ (((decide ((spre p) = [])) == (decide ((p.length : Int) ≤ 100))) = true)))), (4, str (snam p)), (3, str (spre p)), (0, str p)]) (fun _ h' => Ext h h') ?_ ?_
      · refine W_region ?_
        refine L_call (E_call (by kernel_rfl) rfl) (law08_alive _) rfl rfl rfl ?_
        rintro _ h2 ⟨rfl, hx2⟩
        refine L_yld (Y_move rfl) rfl rfl rfl ?_
        refine L_yld (Y_move rfl) rfl rfl rfl ?_
        refine L_yld (Y_move rfl) rfl rfl rfl ?_
        refine L_call (E_call (by kernel_rfl) rfl) (pathname_Join _ (spre p) (snam p) (by first | omega | rfl | (simp <;> omega))) rfl rfl rfl ?_
        rintro _ h2 ⟨rfl, rfl⟩
        refine L_yld (Y_move rfl) rfl rfl rfl ?_
        refine L_yld (Y_seql rfl rfl) rfl rfl rfl ?_
        refine L_yld (Y_pick_t rfl rfl) rfl rfl rfl ?_
        refine L_yld (Y_move rfl) rfl rfl rfl ?_
        refine L_splitd (d := 26) rfl (fun c3 => ?_) (fun c3 => ?_)
        · refine L_yld (Y_move rfl) rfl rfl rfl ?_
          refine L_yld (Y_slen Try.underlying9 rfl) rfl rfl rfl ?_
          refine L_yld (Y_leq rfl rfl) rfl rfl rfl ?_
          refine L_yld (Y_pick_t rfl rfl) rfl rfl rfl ?_
          refine L_yld (Y_move rfl) rfl rfl rfl ?_
          refine L_splitd (d := 31) rfl (fun c4 => ?_) (fun c4 => ?_)
          · refine L_yld (Y_move rfl) rfl rfl rfl ?_
            refine L_yld (Y_slen Try.underlying9 rfl) rfl rfl rfl ?_
            refine L_yld (Y_leq rfl rfl) rfl rfl rfl ?_
            refine L_yld (Y_pick_t rfl rfl) rfl rfl rfl ?_
            refine L_yld (Y_move rfl) rfl rfl rfl ?_
            refine L_splitd (d := 36) rfl (fun c5 => ?_) (fun c5 => ?_)
            · refine L_yld (Y_move rfl) rfl rfl rfl ?_
              refine L_yld (Y_seql rfl rfl) rfl rfl rfl ?_
              refine L_yld (Y_move rfl) rfl rfl rfl ?_
              refine L_yld (Y_slen Try.underlying9 rfl) rfl rfl rfl ?_
              refine L_yld (Y_leq rfl rfl) rfl rfl rfl ?_
              refine L_yld (Y_beql Try.underlying4 rfl rfl) rfl rfl rfl ?_
              refine L_yld (Y_pick_t rfl rfl) rfl rfl rfl ?_
              refine L_yld (Y_assign rfl) rfl rfl rfl ?_
              refine L_nil ?_
              exact X_cut () (.cons (i := 2) (lkb rfl (by simp only [eq_true c3, eq_true c4, eq_true c5, true_and, and_true, false_and, and_false, true_or, or_true, false_or, or_false, not_true_eq_false, not_false_eq_true, decide_true, decide_false, Bool.true_eq_false, Bool.false_eq_true, eq_self, Bool.decide_eq_true])) (.cons (i := 4) rfl (.cons (i := 3) rfl (.cons (i := 0) rfl (.nil _))))) hx2
            · refine L_skip rfl rfl rfl ?_
              refine L_skip rfl rfl rfl ?_
              refine L_skip rfl rfl rfl ?_
              refine L_skip rfl rfl rfl ?_
              refine L_skip rfl rfl rfl ?_
              refine L_skip rfl rfl rfl ?_
              refine L_yld (Y_pick_f rfl rfl) rfl rfl rfl ?_
              refine L_yld (Y_assign rfl) rfl rfl rfl ?_
              refine L_nil ?_
              exact X_cut () (.cons (i := 2) (lkb rfl (by simp only [eq_true c3, eq_true c4, eq_false c5, true_and, and_true, false_and, and_false, true_or, or_true, false_or, or_false, not_true_eq_false, not_false_eq_true, decide_true, decide_false, Bool.true_eq_false, Bool.false_eq_true, eq_self, Bool.decide_eq_true])) (.cons (i := 4) rfl (.cons (i := 3) rfl (.cons (i := 0) rfl (.nil _))))) hx2
          · refine L_skip rfl rfl rfl ?_
            refine L_skip rfl rfl rfl ?_
            refine L_skip rfl rfl rfl ?_
            refine L_yld (Y_pick_f rfl rfl) rfl rfl rfl ?_
            refine L_yld (Y_move rfl) rfl rfl rfl ?_
            refine L_skip rfl rfl rfl ?_
            refine L_skip rfl rfl rfl ?_
            refine L_skip rfl rfl rfl ?_
            refine L_skip rfl rfl rfl ?_
            refine L_skip rfl rfl rfl ?_
            refine L_skip rfl rfl rfl ?_
            refine L_yld (Y_pick_f rfl rfl) rfl rfl rfl ?_
            refine L_yld (Y_assign rfl) rfl rfl rfl ?_
            refine L_nil ?_
            exact X_cut () (.cons (i := 2) (lkb rfl (by simp only [eq_true c3, eq_false c4, true_and, and_true, false_and, and_false, true_or, or_true, false_or, or_false, not_true_eq_false, not_false_eq_true, decide_true, decide_false, Bool.true_eq_false, Bool.false_eq_true, eq_self, Bool.decide_eq_true])) (.cons (i := 4) rfl (.cons (i := 3) rfl (.cons (i := 0) rfl (.nil _))))) hx2
        · refine L_skip rfl rfl rfl ?_
          refine L_skip rfl rfl rfl ?_
          refine L_skip rfl rfl rfl ?_
          refine L_yld (Y_pick_f rfl rfl) rfl rfl rfl ?_
          refine L_yld (Y_move rfl) rfl rfl rfl ?_
          refine L_skip rfl rfl rfl ?_
          refine L_skip rfl rfl rfl ?_
          refine L_skip rfl rfl rfl ?_
          refine L_yld (Y_pick_f rfl rfl) rfl rfl rfl ?_
          refine L_yld (Y_move rfl) rfl rfl rfl ?_
          refine L_skip rfl rfl rfl ?_
          refine L_skip rfl rfl rfl ?_
          refine L_skip rfl rfl rfl ?_
          refine L_skip rfl rfl rfl ?_
          refine L_skip rfl rfl rfl ?_
          refine L_skip rfl rfl rfl ?_
          refine L_yld (Y_pick_f rfl rfl) rfl rfl rfl ?_
          refine L_yld (Y_assign rfl) rfl rfl rfl ?_
          refine L_nil ?_
          exact X_cut () (.cons (i := 2) (lkb rfl (by simp only [eq_false c3, true_and, and_true, false_and, and_false, true_or, or_true, false_or, or_false, not_true_eq_false, not_false_eq_true, decide_true, decide_false, Bool.true_eq_false, Bool.false_eq_true, eq_self, Bool.decide_eq_true])) (.cons (i := 4) rfl (.cons (i := 3) rfl (.cons (i := 0) rfl (.nil _))))) hx2
      rintro _ h3 hx6
      show W _ _ _ _ _ [(2, .bool (decide (((((pjoin (spre p) (snam p)) = p) ∧ (((snam p).length : Int) ≤ 100)) ∧ (((spre p).length : Int) ≤ 155)) ∧ (((decide ((spre p) = [])) == (decide ((p.length : Int) ≤ 100))) = true)))), (4, str (snam p)), (3, str (spre p)), (0, str p)] _
      refine W_ret ?_
      refine X_then_ret ?_
      refine X_ret1 rfl rfl ?_
      have hj := join_split ok
      exact ⟨congrArg Value.bool (decide_eq_true ⟨⟨⟨hj.1, by omega⟩, by omega⟩, beq_of_iff (hj.2.2.2.trans (by omega))⟩), hx6⟩
    · refine W_skip ?_
      refine X_then ?_
      refine W_sub _ (.cons (i := 4) rfl (.cons (i := 3) rfl (.cons (i := 2) rfl (.cons (i := 0) rfl (.nil _))))) ?_
      obtain ⟨n1, n2, n3, n4⟩ := split_no ok
      refine W_seq ?_
      refine W_seq ?_
      refine W_region ?_
      refine L_yld (Y_assign rfl) rfl rfl rfl ?_
      refine L_nil ?_
      refine X_then ?_
      refine W_block ?_
      refine W_loop (S := Nat) (fun i => [(4, str (snam p)), (3, str (spre p)), (0, str p), (6, .int .i64 ((i : Int)))]) (fun i h' => 1 ≤ i ∧ i ≤ p.length ∧ h' = h) (fun i => p.length - i) 1 (.cons (i := 4) rfl (.cons (i := 3) rfl (.cons (i := 0) rfl (.cons (i := 6) rfl (.nil _))))) ?_ ?_
      · exact ⟨by omega, by omega, rfl⟩
      rintro i h ⟨hi1, hi2, rfl⟩
      show W _ _ _ _ _ [(4, str (snam p)), (3, str (spre p)), (0, str p), (6, .int .i64 ((i : Int)))] _
      refine W_seq ?_
      refine W_seq ?_
      refine W_region ?_
      refine L_yld (Y_move rfl) rfl rfl rfl ?_
      refine L_yld (Y_move rfl) rfl rfl rfl ?_
      refine L_yld (Y_slen Try.underlying9 rfl) rfl rfl rfl ?_
      refine L_yld (Y_sub rfl rfl (by omega) (by omega)) rfl rfl rfl ?_
      refine L_yld (Y_lss rfl rfl) rfl rfl rfl ?_
      refine L_nil ?_
      refine X_then ?_
      refine W_sub _ (.cons (i := 48) rfl (.cons (i := 4) rfl (.cons (i := 3) rfl (.cons (i := 0) rfl (.cons (i := 6) rfl (.nil _)))))) ?_
      refine W_splitd rfl (fun hlt => ?_) (fun hlt => ?_)
      · refine W_skip ?_
        refine X_then ?_
        refine W_sub _ (.cons (i := 4) rfl (.cons (i := 3) rfl (.cons (i := 0) rfl (.cons (i := 6) rfl (.nil _))))) ?_
        refine W_seq ?_
        refine W_block ?_
        refine W_cut (S := Unit) (fun _ => [(66, .bool (decide ((((byt p ((i : Int)).toNat) = 47) ∧ ((i : Int) ≤ 155)) ∧ ((((p.length : Int) - (i : Int)) - 1) ≤ 100)))), (4, str (snam p)), (3, str (spre p)), (0, str p), (6, .int .i64 ((i : Int)))]) (fun _ h' => h' = h) ?_ ?_
        · refine W_region ?_
          refine L_yld (Y_move rfl) rfl rfl rfl ?_
          refine L_yld (Y_move rfl) rfl rfl rfl ?_
          refine L_yld (Y_sidx Try.underlying9 rfl rfl (by omega) (by omega)) rfl rfl rfl ?_
          refine L_yld (Y_eql rfl rfl) rfl rfl rfl ?_
          refine L_yld (Y_move rfl) rfl rfl rfl ?_
          refine L_splitd (d := 55) rfl (fun c7 => ?_) (fun c7 => ?_)
          · refine L_yld (Y_move rfl) rfl rfl rfl ?_
            refine L_yld (Y_leq rfl rfl) rfl rfl rfl ?_
            refine L_yld (Y_pick_t rfl rfl) rfl rfl rfl ?_
            refine L_yld (Y_move rfl) rfl rfl rfl ?_
            refine L_splitd (d := 59) rfl (fun c8 => ?_) (fun c8 => ?_)
            · refine L_yld (Y_move rfl) rfl rfl rfl ?_
              refine L_yld (Y_slen Try.underlying9 rfl) rfl rfl rfl ?_
              refine L_yld (Y_move rfl) rfl rfl rfl ?_
              refine L_yld (Y_sub rfl rfl (by omega) (by omega)) rfl rfl rfl ?_
              refine L_yld (Y_sub rfl rfl (by omega) (by omega)) rfl rfl rfl ?_
              refine L_yld (Y_leq rfl rfl) rfl rfl rfl ?_
              refine L_yld (Y_pick_t rfl rfl) rfl rfl rfl ?_
              refine L_nil ?_
              exact X_cut () (.cons (i := 66) (lkb rfl (by simp only [eq_true c7, eq_true c8, true_and, and_true, false_and, and_false, true_or, or_true, false_or, or_false, not_true_eq_false, not_false_eq_true, decide_true, decide_false, Bool.true_eq_false, Bool.false_eq_true, eq_self, Bool.decide_eq_true])) (.cons (i := 4) rfl (.cons (i := 3) rfl (.cons (i := 0) rfl (.cons (i := 6) rfl (.nil _)))))) rfl
            · refine L_skip rfl rfl rfl ?_
              refine L_skip rfl rfl rfl ?_
              refine L_skip rfl rfl rfl ?_
              refine L_skip rfl rfl rfl ?_
              refine L_skip rfl rfl rfl ?_
              refine L_skip rfl rfl rfl ?_
              refine L_yld (Y_pick_f rfl rfl) rfl rfl rfl ?_
              refine L_nil ?_
              exact X_cut () (.cons (i := 66) (lkb rfl (by simp only [eq_true c7, eq_false c8, true_and, and_true, false_and, and_false, true_or, or_true, false_or, or_false, not_true_eq_false, not_false_eq_true, decide_true, decide_false, Bool.true_eq_false, Bool.false_eq_true, eq_self, Bool.decide_eq_true])) (.cons (i := 4) rfl (.cons (i := 3) rfl (.cons (i := 0) rfl (.cons (i := 6) rfl (.nil _)))))) rfl
          · refine L_skip rfl rfl rfl ?_
            refine L_skip rfl rfl rfl ?_
            refine L_yld (Y_pick_f rfl rfl) rfl rfl rfl ?_
            refine L_yld (Y_move rfl) rfl rfl rfl ?_
            refine L_skip rfl rfl rfl ?_
            refine L_skip rfl rfl rfl ?_
            refine L_skip rfl rfl rfl ?_
            refine L_skip rfl rfl rfl ?_
            refine L_skip rfl rfl rfl ?_
            refine L_skip rfl rfl rfl ?_
            refine L_yld (Y_pick_f rfl rfl) rfl rfl rfl ?_
            refine L_nil ?_
            exact X_cut () (.cons (i := 66) (lkb rfl (by simp only [eq_false c7, true_and, and_true, false_and, and_false, true_or, or_true, false_or, or_false, not_true_eq_false, not_false_eq_true, decide_true, decide_false, Bool.true_eq_false, Bool.false_eq_true, eq_self, Bool.decide_eq_true])) (.cons (i := 4) rfl (.cons (i := 3) rfl (.cons (i := 0) rfl (.cons (i := 6) rfl (.nil _)))))) rfl
        rintro _ h rfl
        show W _ _ _ _ _ [(66, .bool (decide ((((byt p ((i : Int)).toNat) = 47) ∧ ((i : Int) ≤ 155)) ∧ ((((p.length : Int) - (i : Int)) - 1) ≤ 100)))), (4, str (snam p)), (3, str (spre p)), (0, str p), (6, .int .i64 ((i : Int)))] _
        refine W_known false rfl (by exact decide_eq_false (by intro hb; exact n4 i ⟨hi1, by omega, by omega, by omega, hb.1.1⟩)) ?_
        refine W_skip ?_
        refine X_block ?_
        refine X_then ?_
        refine W_sub _ (.cons (i := 4) rfl (.cons (i := 3) rfl (.cons (i := 0) rfl (.cons (i := 6) rfl (.nil _))))) ?_
        refine W_region ?_
        refine L_yld (Y_move rfl) rfl rfl rfl ?_
        refine L_yld (Y_add rfl rfl (by omega) (by omega)) rfl rfl rfl ?_
        refine L_yld (Y_assign rfl) rfl rfl rfl ?_
        refine L_nil ?_
        refine X_loop (i + 1) (.cons (i := 4) rfl (.cons (i := 3) rfl (.cons (i := 0) rfl (.cons (i := 6) rfl (.nil _))))) ?_ ?_
        · exact ⟨by omega, by omega, rfl⟩
        · (try dsimp only)
          omega
      · refine W_exit ?_
        refine X_then_exit ?_
        refine X_then_exit ?_
        refine X_block_hit ?_
        refine X_then ?_
        refine W_sub _ (.cons (i := 4) rfl (.cons (i := 3) rfl (.cons (i := 0) rfl (.nil _)))) ?_
        refine W_cut (S := Unit) (fun _ => [(2, .bool (decide (((100 < (p.length : Int)) ∧ ((spre p) = [])) ∧ ((snam p) = []))))]) (fun _ h' => Ext h h') ?_ ?_
        · refine W_region ?_
          refine L_call (E_call (by kernel_rfl) rfl) (law08_alive _) rfl rfl rfl ?_
          rintro _ h4 ⟨rfl, hx9⟩
          refine L_yld (Y_move rfl) rfl rfl rfl ?_
          refine L_yld (Y_move rfl) rfl rfl rfl ?_
          refine L_yld (Y_slen Try.underlying9 rfl) rfl rfl rfl ?_
          refine L_yld (Y_gtr rfl rfl) rfl rfl rfl ?_
          refine L_yld (Y_pick_t rfl rfl) rfl rfl rfl ?_
          refine L_yld (Y_move rfl) rfl rfl rfl ?_
          refine L_splitd (d := 73) rfl (fun c10 => ?_) (fun c10 => ?_)
          · refine L_yld (Y_move rfl) rfl rfl rfl ?_
            refine L_yld (Y_seql rfl rfl) rfl rfl rfl ?_
            refine L_yld (Y_pick_t rfl rfl) rfl rfl rfl ?_
            refine L_yld (Y_move rfl) rfl rfl rfl ?_
            refine L_splitd (d := 77) rfl (fun c11 => ?_) (fun c11 => ?_)
            · refine L_yld (Y_move rfl) rfl rfl rfl ?_
              refine L_yld (Y_seql rfl rfl) rfl rfl rfl ?_
              refine L_yld (Y_pick_t rfl rfl) rfl rfl rfl ?_
              refine L_yld (Y_assign rfl) rfl rfl rfl ?_
              refine L_nil ?_
              exact X_cut () (.cons (i := 2) (lkb rfl (by simp only [eq_true c10, eq_true c11, true_and, and_true, false_and, and_false, true_or, or_true, false_or, or_false, not_true_eq_false, not_false_eq_true, decide_true, decide_false, Bool.true_eq_false, Bool.false_eq_true, eq_self, Bool.decide_eq_true])) (.nil _)) hx9
            · refine L_skip rfl rfl rfl ?_
              refine L_skip rfl rfl rfl ?_
              refine L_yld (Y_pick_f rfl rfl) rfl rfl rfl ?_
              refine L_yld (Y_assign rfl) rfl rfl rfl ?_
              refine L_nil ?_
              exact X_cut () (.cons (i := 2) (lkb rfl (by simp only [eq_true c10, eq_false c11, true_and, and_true, false_and, and_false, true_or, or_true, false_or, or_false, not_true_eq_false, not_false_eq_true, decide_true, decide_false, Bool.true_eq_false, Bool.false_eq_true, eq_self, Bool.decide_eq_true])) (.nil _)) hx9
          · refine L_skip rfl rfl rfl ?_
            refine L_skip rfl rfl rfl ?_
            refine L_yld (Y_pick_f rfl rfl) rfl rfl rfl ?_
            refine L_yld (Y_move rfl) rfl rfl rfl ?_
            refine L_skip rfl rfl rfl ?_
            refine L_skip rfl rfl rfl ?_
            refine L_yld (Y_pick_f rfl rfl) rfl rfl rfl ?_
            refine L_yld (Y_assign rfl) rfl rfl rfl ?_
            refine L_nil ?_
            exact X_cut () (.cons (i := 2) (lkb rfl (by simp only [eq_false c10, true_and, and_true, false_and, and_false, true_or, or_true, false_or, or_false, not_true_eq_false, not_false_eq_true, decide_true, decide_false, Bool.true_eq_false, Bool.false_eq_true, eq_self, Bool.decide_eq_true])) (.nil _)) hx9
        rintro _ h5 hx12
        show W _ _ _ _ _ [(2, .bool (decide (((100 < (p.length : Int)) ∧ ((spre p) = [])) ∧ ((snam p) = []))))] _
        refine W_ret ?_
        refine X_ret1 rfl rfl ?_
        exact ⟨congrArg Value.bool (decide_eq_true ⟨⟨by omega, n2⟩, n3⟩), hx12⟩

end Go.Xp
