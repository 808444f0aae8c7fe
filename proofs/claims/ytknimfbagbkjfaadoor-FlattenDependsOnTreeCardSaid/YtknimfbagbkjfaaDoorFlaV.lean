/- Layer 14 (flatten): the example, and the laws of Members. -/
import Derived.Test.YtknimfbagbkjfaaDoorFlaR
import Derived.Test.YtknimfbagbkjfaaDoorTreeV
set_option linter.unusedSimpArgs false
set_option linter.unusedVariables false
set_option linter.unusedSectionVars false
namespace Go.Xp
open Go.Proofs

theorem can_okl {A : List Nod} (h : ¬ 0 < ntoo A) : A.length ≤ 40 ∧ A.length ≤ 1000000000 ∧ ∀ x ∈ A, x.path.length ≤ 100000000000 ∧ x.target.length ≤ 100000000000 ∧ x.data.length ≤ 100000000000 := by
  obtain ⟨h1, h2⟩ := ntoo_ok h
  refine ⟨h1, by omega, fun x hx => ?_⟩
  obtain ⟨k, hk, rfl⟩ := List.getElem_of_mem hx
  have := h2 k hk
  unfold nb at_nod at this
  rw [List.getD_eq_getElem?_getD, List.getElem?_eq_getElem hk] at this
  simp only [Option.getD_some] at this
  omega
def exF : List Nod := [⟨1, [98], 0, [], .slice none 0 0, [], 1⟩, ⟨1, [97], 0, [], .slice none 0 0, [], 1⟩]
def exM : List Mem := [⟨1, [97], 0, [], 0, .slice none 0 0, []⟩, ⟨3, [98], 0, [97], 0, .slice none 0 0, []⟩]
theorem exF_ok : terr exF = 0 := by decide +kernel
theorem exF_mem : mbs exF = exM := by
  unfold mbs
  rw [if_pos exF_ok]
  have : mem1 (cno exF) = exM := by kernel_rfl
  exact this
theorem exF_at {M : List Mem} (h : M.map erm = mbs exF) (k : Nat) : erm (at_mem M k) = at_mem exM k := by rw [← at_erm, h, exF_mem]
theorem exF_len {M : List Mem} (h : M.map erm = mbs exF) : M.length = 2 := by
  have := congrArg List.length h
  rw [exF_mem, List.length_map] at this; exact this
theorem exFS : ∀ x ∈ exF, x.path.length ≤ 100000000000 ∧ x.target.length ≤ 100000000000 ∧ x.data.length ≤ 100000000000 := by
  intro x hx
  simp [exF] at hx
  rcases hx with rfl | rfl <;> decide

theorem exF_all {M : List Mem} (h : M.map erm = mbs exF) : (((terr exF = 0 ∧ (M.length : Int) = 2) ∧ (at_mem M 0).path = [97]) ∧ (at_mem M 0).kind = 1) ∧ (at_mem M 1).kind = 3 ∧ (at_mem M 1).path = [98] ∧ (at_mem M 1).mode = 0 ∧ (at_mem M 1).target = [97] ∧ (at_mem M 1).size = 0 := by
  have h0 := exF_at h 0
  have h1 := exF_at h 1
  have hl := exF_len h
  refine ⟨⟨⟨⟨exF_ok, by omega⟩, congrArg Mem.path h0⟩, congrArg Mem.kind h0⟩, congrArg Mem.kind h1, congrArg Mem.path h1, congrArg Mem.mode h1, congrArg Mem.target h1, congrArg Mem.size h1⟩

set_option maxRecDepth 100000 in
theorem law14_alive (h : Heap) (hK : GlbK h) (hE : GlbE h) : Cal Tryd.prog 25 #[] h (fun v h' => v = .bool true ∧ Ext h h') := by
  refine Cal_enter (args := []) Tryd.func25 rfl rfl rfl (fun σ => ?_)
  refine W_seq ?_
  refine W_region ?_
  refine L_yld (Y_assign rfl) rfl rfl rfl ?_
  refine L_nil ?_
  refine X_then ?_
  refine W_seq ?_
  refine W_region ?_
  refine L_yld (Y_build (v := .agg #[.int .i64 1, str [98], .int .i64 0, str [], .slice none 0 0, .int .i64 1]) (pv := [(0, .int .i64 1), (1, str [98]), (5, .int .i64 1)]) (evp (is := [0, 1, 5]) (os := [.const (.int .i64 1), .const (str [98]), .const (.int .i64 1)]) (vs := [.int .i64 1, str [98], .int .i64 1]) rfl rfl) (fun _ => by kernel_rfl)) rfl rfl rfl ?_
  refine L_yld (Y_build (v := .agg #[.int .i64 1, str [97], .int .i64 0, str [], .slice none 0 0, .int .i64 1]) (pv := [(0, .int .i64 1), (1, str [97]), (5, .int .i64 1)]) (evp (is := [0, 1, 5]) (os := [.const (.int .i64 1), .const (str [97]), .const (.int .i64 1)]) (vs := [.int .i64 1, str [97], .int .i64 1]) rfl rfl) (fun _ => by kernel_rfl)) rfl rfl rfl ?_
  refine L_mks (M_litr (S := nodS) (l := ([⟨(1 : Int), [98], (0 : Int), [], .slice none 0 0, ([] : List UInt8), (1 : Int)⟩, ⟨(1 : Int), [97], (0 : Int), [], .slice none 0 0, ([] : List UInt8), (1 : Int)⟩] : List Nod)) (cells := [.int .i64 1, str [98], .int .i64 0, str [], .slice none 0 0, .int .i64 1, .int .i64 1, str [97], .int .i64 0, str [], .slice none 0 0, .int .i64 1]) (pv := [(0, .agg #[.int .i64 1, str [98], .int .i64 0, str [], .slice none 0 0, .int .i64 1]), (1, .agg #[.int .i64 1, str [97], .int .i64 0, str [], .slice none 0 0, .int .i64 1])]) (E := 48) (evp (is := [0, 1]) (os := [.tmp 5, .tmp 6]) (vs := [.agg #[.int .i64 1, str [98], .int .i64 0, str [], .slice none 0 0, .int .i64 1], .agg #[.int .i64 1, str [97], .int .i64 0, str [], .slice none 0 0, .int .i64 1]]) rfl rfl) rfl rfl (fun _ => by kernel_rfl) (by simp only [List.mem_cons, List.not_mem_nil, or_false, forall_eq_or_imp, forall_eq]; exact ⟨(Bytes.nil _), (Bytes.nil _)⟩)) rfl rfl rfl ?_
  rintro v1 h1 ⟨ho2, hx3⟩
  refine L_call (E_call (by kernel_rfl) rfl) (flatten_Members _ (hK.ext hx3) (hE.ext hx3) v1 ([⟨(1 : Int), [98], (0 : Int), [], .slice none 0 0, ([] : List UInt8), (1 : Int)⟩, ⟨(1 : Int), [97], (0 : Int), [], .slice none 0 0, ([] : List UInt8), (1 : Int)⟩] : List Nod) ho2.rows (by decide) exFS) rfl rfl rfl ?_
  rintro _ h2 ⟨s04, L05, rfl, hr06, hq07, hx8⟩
  refine L_yld (Y_move rfl) rfl rfl rfl ?_
  refine L_yld (Y_extract (v := s04) rfl rfl) rfl rfl rfl ?_
  refine L_yld (Y_extract (v := .int .i64 (tpos ([⟨(1 : Int), [98], (0 : Int), [], .slice none 0 0, ([] : List UInt8), (1 : Int)⟩, ⟨(1 : Int), [97], (0 : Int), [], .slice none 0 0, ([] : List UInt8), (1 : Int)⟩] : List Nod))) rfl rfl) rfl rfl rfl ?_
  refine L_yld (Y_extract (v := .int .i64 (terr ([⟨(1 : Int), [98], (0 : Int), [], .slice none 0 0, ([] : List UInt8), (1 : Int)⟩, ⟨(1 : Int), [97], (0 : Int), [], .slice none 0 0, ([] : List UInt8), (1 : Int)⟩] : List Nod))) rfl rfl) rfl rfl rfl ?_
  refine L_yld (Y_assign rfl) rfl rfl rfl ?_
  refine L_yld (Y_assign rfl) rfl rfl rfl ?_
  refine L_yld (Y_assign rfl) rfl rfl rfl ?_
  refine L_nil ?_
  refine X_then ?_
  refine W_sub _ (.cons (i := 3) rfl (.cons (i := 1) rfl (.cons (i := 0) rfl (.nil _)))) ?_
  refine W_cut (S := Unit) (fun _ => [(0, .bool (decide ((((((terr ([⟨(1 : Int), [98], (0 : Int), [], .slice none 0 0, ([] : List UInt8), (1 : Int)⟩, ⟨(1 : Int), [97], (0 : Int), [], .slice none 0 0, ([] : List UInt8), (1 : Int)⟩] : List Nod)) = 0) ∧ ((L05.length : Int) = 2)) ∧ (((at_mem L05 0).path) = [97])) ∧ (((at_mem L05 0).kind) = 1)) ∧ (((at_mem L05 1).kind) = (3 : Int) ∧ ((at_mem L05 1).path) = [98] ∧ ((at_mem L05 1).mode) = (0 : Int) ∧ ((at_mem L05 1).target) = [97] ∧ ((at_mem L05 1).size) = (0 : Int)))))]) (fun _ h' => h' = h2) ?_ ?_
  · refine W_region ?_
    refine L_yld (Y_move rfl) rfl rfl rfl ?_
    refine L_yld (Y_eql rfl rfl) rfl rfl rfl ?_
    refine L_yld (Y_move rfl) rfl rfl rfl ?_
    refine L_splitd (d := 14) rfl (fun c9 => ?_) (fun c9 => ?_)
    · refine L_yld (Y_move rfl) rfl rfl rfl ?_
      refine L_yld (Y_lenr Tryd.underlying22 rfl hr06) rfl rfl rfl ?_
      refine L_yld (Y_eql rfl rfl) rfl rfl rfl ?_
      refine L_yld (Y_pick_t rfl rfl) rfl rfl rfl ?_
      refine L_yld (Y_move rfl) rfl rfl rfl ?_
      refine L_splitd (d := 19) rfl (fun c10 => ?_) (fun c10 => ?_)
      · refine L_yld (Y_move rfl) rfl rfl rfl ?_
        refine L_yld (Y_idxr Tryd.underlying22 (show _ = some 6 by kernel_rfl) rfl rfl rfl hr06 (by omega) (by omega)) rfl rfl rfl ?_
        refine L_yld (Y_fldr (k := 0) (off := 0) (by kernel_rfl) rfl hr06 (by omega)) rfl rfl rfl ?_
        refine L_yld (Y_fldr (k := 0) (off := 1) (by kernel_rfl) rfl hr06 (by omega)) rfl rfl rfl ?_
        refine L_yld (Y_ldr1 (off := 1) (k := 0) (u := str ((at_mem L05 0).path)) Tryd.underlying9 rfl rfl rfl hr06 (by omega) rfl) rfl rfl rfl ?_
        refine L_yld (Y_seql rfl rfl) rfl rfl rfl ?_
        refine L_yld (Y_pick_t rfl rfl) rfl rfl rfl ?_
        refine L_yld (Y_move rfl) rfl rfl rfl ?_
        refine L_splitd (d := 27) rfl (fun c11 => ?_) (fun c11 => ?_)
        · refine L_yld (Y_move rfl) rfl rfl rfl ?_
          refine L_yld (Y_idxr Tryd.underlying22 (show _ = some 6 by kernel_rfl) rfl rfl rfl hr06 (by omega) (by omega)) rfl rfl rfl ?_
          refine L_yld (Y_fldr (k := 0) (off := 0) (by kernel_rfl) rfl hr06 (by omega)) rfl rfl rfl ?_
          refine L_yld (Y_fldr (k := 0) (off := 0) (by kernel_rfl) rfl hr06 (by omega)) rfl rfl rfl ?_
          refine L_yld (Y_ldr1 (off := 0) (k := 0) (u := .int .i64 ((at_mem L05 0).kind)) Tryd.underlying3 rfl rfl rfl hr06 (by omega) rfl) rfl rfl rfl ?_
          refine L_yld (Y_eql rfl rfl) rfl rfl rfl ?_
          refine L_yld (Y_pick_t rfl rfl) rfl rfl rfl ?_
          refine L_yld (Y_move rfl) rfl rfl rfl ?_
          refine L_splitd (d := 35) rfl (fun c12 => ?_) (fun c12 => ?_)
          · refine L_yld (Y_move rfl) rfl rfl rfl ?_
            refine L_yld (Y_idxr Tryd.underlying22 (show _ = some 6 by kernel_rfl) rfl rfl rfl hr06 (by omega) (by omega)) rfl rfl rfl ?_
            refine L_yld (Y_fldr (k := 1) (off := 0) (by kernel_rfl) rfl hr06 (by omega)) rfl rfl rfl ?_
            refine L_yld (Y_ldrA (off := 0) (k := 1) (us := [.int .i64 ((at_mem L05 1).kind), str ((at_mem L05 1).path), .int .i64 ((at_mem L05 1).mode), str ((at_mem L05 1).target), .int .i64 ((at_mem L05 1).size)]) Tryd.underlying27 rfl (show _ = some 5 by kernel_rfl) rfl rfl hr06 (by omega) rfl) rfl rfl rfl ?_
            refine L_yld (Y_build (v := .agg #[.int .i64 3, str [98], .int .i64 0, str [97], .int .i64 0]) (pv := [(0, .int .i64 3), (1, str [98]), (3, str [97])]) (evp (is := [0, 1, 3]) (os := [.const (.int .i64 3), .const (str [98]), .const (str [97])]) (vs := [.int .i64 3, str [98], str [97]]) rfl rfl) (fun _ => by kernel_rfl)) rfl rfl rfl ?_
            refine L_yld (Y_steql (xs := [.int .i64 ((at_mem L05 1).kind), str ((at_mem L05 1).path), .int .i64 ((at_mem L05 1).mode), str ((at_mem L05 1).target), .int .i64 ((at_mem L05 1).size)]) (ys := [.int .i64 3, str [98], .int .i64 0, str [97], .int .i64 0]) (r := decide (((at_mem L05 1).kind) = (3 : Int) ∧ ((at_mem L05 1).path) = [98] ∧ ((at_mem L05 1).mode) = (0 : Int) ∧ ((at_mem L05 1).target) = [97] ∧ ((at_mem L05 1).size) = (0 : Int))) (by kernel_rfl) (by kernel_rfl) (by kernel_rfl) rfl rfl (steq (ks := [.i .i64, .s, .i .i64, .s, .i .i64]) (by kernel_rfl) (by simp [eqks, eqk]))) rfl rfl rfl ?_
            refine L_yld (Y_pick_t rfl rfl) rfl rfl rfl ?_
            refine L_yld (Y_assign rfl) rfl rfl rfl ?_
            refine L_nil ?_
            exact X_cut () (.cons (i := 0) (lkb rfl (by first | (simp only [eq_true c9, eq_true c10, eq_true c11, eq_true c12, true_and, and_true, false_and, and_false, true_or, or_true, false_or, or_false, not_true_eq_false, not_false_eq_true, decide_true, decide_false, Bool.true_eq_false, Bool.false_eq_true, eq_self, Bool.decide_eq_true]; done) | (exfalso; contradiction) | (exfalso; omega))) (.nil _)) rfl
          · refine L_skip rfl rfl rfl ?_
            refine L_skip rfl rfl rfl ?_
            refine L_skip rfl rfl rfl ?_
            refine L_skip rfl rfl rfl ?_
            refine L_skip rfl rfl rfl ?_
            refine L_skip rfl rfl rfl ?_
            refine L_yld (Y_pick_f rfl rfl) rfl rfl rfl ?_
            refine L_yld (Y_assign rfl) rfl rfl rfl ?_
            refine L_nil ?_
            exact X_cut () (.cons (i := 0) (lkb rfl (by first | (simp only [eq_true c9, eq_true c10, eq_true c11, eq_false c12, true_and, and_true, false_and, and_false, true_or, or_true, false_or, or_false, not_true_eq_false, not_false_eq_true, decide_true, decide_false, Bool.true_eq_false, Bool.false_eq_true, eq_self, Bool.decide_eq_true]; done) | (exfalso; contradiction) | (exfalso; omega))) (.nil _)) rfl
        · refine L_skip rfl rfl rfl ?_
          refine L_skip rfl rfl rfl ?_
          refine L_skip rfl rfl rfl ?_
          refine L_skip rfl rfl rfl ?_
          refine L_skip rfl rfl rfl ?_
          refine L_skip rfl rfl rfl ?_
          refine L_yld (Y_pick_f rfl rfl) rfl rfl rfl ?_
          refine L_yld (Y_move rfl) rfl rfl rfl ?_
          refine L_skip rfl rfl rfl ?_
          refine L_skip rfl rfl rfl ?_
          refine L_skip rfl rfl rfl ?_
          refine L_skip rfl rfl rfl ?_
          refine L_skip rfl rfl rfl ?_
          refine L_skip rfl rfl rfl ?_
          refine L_yld (Y_pick_f rfl rfl) rfl rfl rfl ?_
          refine L_yld (Y_assign rfl) rfl rfl rfl ?_
          refine L_nil ?_
          exact X_cut () (.cons (i := 0) (lkb rfl (by first | (simp only [eq_true c9, eq_true c10, eq_false c11, true_and, and_true, false_and, and_false, true_or, or_true, false_or, or_false, not_true_eq_false, not_false_eq_true, decide_true, decide_false, Bool.true_eq_false, Bool.false_eq_true, eq_self, Bool.decide_eq_true]; done) | (simp only [eq_true c9, eq_true c10, eq_false c11, true_and, and_true, false_and, and_false, true_or, or_true, false_or, or_false, not_true_eq_false, not_false_eq_true, decide_true, decide_false, Bool.true_eq_false, Bool.false_eq_true, eq_self, Bool.decide_eq_true]; rfl))) (.nil _)) rfl
      · refine L_skip rfl rfl rfl ?_
        refine L_skip rfl rfl rfl ?_
        refine L_skip rfl rfl rfl ?_
        refine L_skip rfl rfl rfl ?_
        refine L_skip rfl rfl rfl ?_
        refine L_skip rfl rfl rfl ?_
        refine L_yld (Y_pick_f rfl rfl) rfl rfl rfl ?_
        refine L_yld (Y_move rfl) rfl rfl rfl ?_
        refine L_skip rfl rfl rfl ?_
        refine L_skip rfl rfl rfl ?_
        refine L_skip rfl rfl rfl ?_
        refine L_skip rfl rfl rfl ?_
        refine L_skip rfl rfl rfl ?_
        refine L_skip rfl rfl rfl ?_
        refine L_yld (Y_pick_f rfl rfl) rfl rfl rfl ?_
        refine L_yld (Y_move rfl) rfl rfl rfl ?_
        refine L_skip rfl rfl rfl ?_
        refine L_skip rfl rfl rfl ?_
        refine L_skip rfl rfl rfl ?_
        refine L_skip rfl rfl rfl ?_
        refine L_skip rfl rfl rfl ?_
        refine L_skip rfl rfl rfl ?_
        refine L_yld (Y_pick_f rfl rfl) rfl rfl rfl ?_
        refine L_yld (Y_assign rfl) rfl rfl rfl ?_
        refine L_nil ?_
        exact X_cut () (.cons (i := 0) (lkb rfl (by first | (simp only [eq_true c9, eq_false c10, true_and, and_true, false_and, and_false, true_or, or_true, false_or, or_false, not_true_eq_false, not_false_eq_true, decide_true, decide_false, Bool.true_eq_false, Bool.false_eq_true, eq_self, Bool.decide_eq_true]; done) | (simp only [eq_true c9, eq_false c10, true_and, and_true, false_and, and_false, true_or, or_true, false_or, or_false, not_true_eq_false, not_false_eq_true, decide_true, decide_false, Bool.true_eq_false, Bool.false_eq_true, eq_self, Bool.decide_eq_true]; rfl))) (.nil _)) rfl
    · refine L_skip rfl rfl rfl ?_
      refine L_skip rfl rfl rfl ?_
      refine L_skip rfl rfl rfl ?_
      refine L_yld (Y_pick_f rfl rfl) rfl rfl rfl ?_
      refine L_yld (Y_move rfl) rfl rfl rfl ?_
      refine L_skip rfl rfl rfl ?_
      refine L_skip rfl rfl rfl ?_
      refine L_skip rfl rfl rfl ?_
      refine L_skip rfl rfl rfl ?_
      refine L_skip rfl rfl rfl ?_
      refine L_skip rfl rfl rfl ?_
      refine L_yld (Y_pick_f rfl rfl) rfl rfl rfl ?_
      refine L_yld (Y_move rfl) rfl rfl rfl ?_
      refine L_skip rfl rfl rfl ?_
      refine L_skip rfl rfl rfl ?_
      refine L_skip rfl rfl rfl ?_
      refine L_skip rfl rfl rfl ?_
      refine L_skip rfl rfl rfl ?_
      refine L_skip rfl rfl rfl ?_
      refine L_yld (Y_pick_f rfl rfl) rfl rfl rfl ?_
      refine L_yld (Y_move rfl) rfl rfl rfl ?_
      refine L_skip rfl rfl rfl ?_
      refine L_skip rfl rfl rfl ?_
      refine L_skip rfl rfl rfl ?_
      refine L_skip rfl rfl rfl ?_
      refine L_skip rfl rfl rfl ?_
      refine L_skip rfl rfl rfl ?_
      refine L_yld (Y_pick_f rfl rfl) rfl rfl rfl ?_
      refine L_yld (Y_assign rfl) rfl rfl rfl ?_
      refine L_nil ?_
      exact X_cut () (.cons (i := 0) (lkb rfl (by first | (simp only [eq_false c9, true_and, and_true, false_and, and_false, true_or, or_true, false_or, or_false, not_true_eq_false, not_false_eq_true, decide_true, decide_false, Bool.true_eq_false, Bool.false_eq_true, eq_self, Bool.decide_eq_true]; done) | (simp only [eq_false c9, true_and, and_true, false_and, and_false, true_or, or_true, false_or, or_false, not_true_eq_false, not_false_eq_true, decide_true, decide_false, Bool.true_eq_false, Bool.false_eq_true, eq_self, Bool.decide_eq_true]; rfl))) (.nil _)) rfl
  rintro _ h2 rfl
  show W _ _ _ _ _ [(0, .bool (decide ((((((terr ([⟨(1 : Int), [98], (0 : Int), [], .slice none 0 0, ([] : List UInt8), (1 : Int)⟩, ⟨(1 : Int), [97], (0 : Int), [], .slice none 0 0, ([] : List UInt8), (1 : Int)⟩] : List Nod)) = 0) ∧ ((L05.length : Int) = 2)) ∧ (((at_mem L05 0).path) = [97])) ∧ (((at_mem L05 0).kind) = 1)) ∧ (((at_mem L05 1).kind) = (3 : Int) ∧ ((at_mem L05 1).path) = [98] ∧ ((at_mem L05 1).mode) = (0 : Int) ∧ ((at_mem L05 1).target) = [97] ∧ ((at_mem L05 1).size) = (0 : Int)))))] _
  refine W_ret ?_
  refine X_ret1 rfl rfl ?_
  exact ⟨congrArg Value.bool (decide_eq_true (exF_all (by assumption))), (hx3.trans hx8)⟩

theorem msame_c {a b : List Mem} {X : List Mem} (h1 : a.map erm = X) (h2 : b.map erm = X) : mlsame a b = true := mlsame_erm.2 (h1.trans h2.symm)
theorem mbs_len (l : List Nod) : (mbs l).length ≤ l.length := by
  unfold mbs mem1
  split
  · rw [List.length_map, List.length_range, cno_len]; exact Nat.le_refl _
  · exact Nat.zero_le _
theorem mem_len {a : List Mem} {l : List Nod} (h : a.map erm = mbs l) : a.length ≤ l.length := by
  have := congrArg List.length h
  rw [List.length_map] at this
  rw [this]; exact mbs_len l

set_option maxRecDepth 100000 in
theorem flattenMembersMatchReference (h : Heap) (hK : GlbK h) (hE : GlbE h) (w : Value) (l : List Nod) (hl : Rows nodS h w l) (hn : l.length ≤ 140737488355328) (hs : ∀ x ∈ l, x.path.length ≤ 140737488355328 ∧ x.target.length ≤ 140737488355328 ∧ x.data.length ≤ 140737488355328) : Cal Tryd.prog 6 #[w] h (fun v h' => v = .bool true ∧ Ext h h') := by
  refine Cal_enter (args := [w]) Tryd.func6 rfl rfl rfl (fun σ => ?_)
  refine W_seq ?_
  refine W_region ?_
  refine L_yld (Y_assign rfl) rfl rfl rfl ?_
  refine L_nil ?_
  refine X_then ?_
  refine W_seq ?_
  refine W_seq ?_
  refine W_region ?_
  refine L_yld (Y_move rfl) rfl rfl rfl ?_
  refine L_call (E_call (by kernel_rfl) rfl) (law13_TooLarge _ w l hl hn hs) rfl rfl rfl ?_
  rintro _ h1 ⟨rfl, hx1⟩
  refine L_yld (Y_gtr rfl rfl) rfl rfl rfl ?_
  refine L_nil ?_
  refine X_then ?_
  refine W_sub _ (.cons (i := 11) rfl (.cons (i := 2) rfl (.cons (i := 0) rfl (.nil _)))) ?_
  refine W_splitd rfl (fun g => ?_) (fun g => ?_)
  · refine W_seq ?_
    refine W_region ?_
    refine L_call (E_call (by kernel_rfl) rfl) (law14_alive _ (hK.ext hx1) (hE.ext hx1)) rfl rfl rfl ?_
    rintro _ h2 ⟨rfl, hx2⟩
    refine L_yld (Y_assign rfl) rfl rfl rfl ?_
    refine L_nil ?_
    refine X_then ?_
    refine W_sub _ (.cons (i := 2) rfl (.cons (i := 0) rfl (.nil _))) ?_
    refine W_ret ?_
    refine X_then_ret ?_
    refine X_ret1 rfl rfl ?_
    exact ⟨rfl, (hx1.trans hx2)⟩
  · refine W_skip ?_
    refine X_then ?_
    refine W_sub _ (.cons (i := 2) rfl (.cons (i := 0) rfl (.nil _))) ?_
    have okA := can_okl g
    refine W_seq ?_
    refine W_region ?_
    refine L_yld (Y_move rfl) rfl rfl rfl ?_
    refine L_call (E_call (by kernel_rfl) rfl) (flatten_Members _ (hK.ext hx1) (hE.ext hx1) w l (hl.ext hx1) okA.2.1 okA.2.2) rfl rfl rfl ?_
    rintro _ h3 ⟨s03, L04, rfl, hr05, hq06, hx7⟩
    refine L_yld (Y_move rfl) rfl rfl rfl ?_
    refine L_yld (Y_extract (v := s03) rfl rfl) rfl rfl rfl ?_
    refine L_yld (Y_extract (v := .int .i64 (tpos l)) rfl rfl) rfl rfl rfl ?_
    refine L_yld (Y_extract (v := .int .i64 (terr l)) rfl rfl) rfl rfl rfl ?_
    refine L_yld (Y_assign rfl) rfl rfl rfl ?_
    refine L_yld (Y_assign rfl) rfl rfl rfl ?_
    refine L_yld (Y_assign rfl) rfl rfl rfl ?_
    refine L_nil ?_
    refine X_then ?_
    refine W_sub _ (.cons (i := 5) rfl (.cons (i := 4) rfl (.cons (i := 3) rfl (.cons (i := 2) rfl (.cons (i := 0) rfl (.nil _)))))) ?_
    refine W_seq ?_
    refine W_region ?_
    refine L_yld (Y_move rfl) rfl rfl rfl ?_
    refine L_call (E_call (by kernel_rfl) rfl) (ref14_Members _ w l (hl.ext (hx1.trans hx7)) okA.2.1 okA.2.2) rfl rfl rfl ?_
    rintro _ h4 ⟨s08, L09, rfl, hr010, hq011, hx12⟩
    refine L_yld (Y_move rfl) rfl rfl rfl ?_
    refine L_yld (Y_extract (v := s08) rfl rfl) rfl rfl rfl ?_
    refine L_yld (Y_extract (v := .int .i64 (tpos l)) rfl rfl) rfl rfl rfl ?_
    refine L_yld (Y_extract (v := .int .i64 (terr l)) rfl rfl) rfl rfl rfl ?_
    refine L_yld (Y_assign rfl) rfl rfl rfl ?_
    refine L_yld (Y_assign rfl) rfl rfl rfl ?_
    refine L_yld (Y_assign rfl) rfl rfl rfl ?_
    refine L_nil ?_
    refine X_then ?_
    refine W_sub _ (.cons (i := 8) rfl (.cons (i := 7) rfl (.cons (i := 6) rfl (.cons (i := 5) rfl (.cons (i := 4) rfl (.cons (i := 3) rfl (.cons (i := 2) rfl (.nil _)))))))) ?_
    refine W_seq ?_
    refine W_region ?_
    refine L_call (E_call (by kernel_rfl) rfl) (law14_alive _ (hK.ext ((hx1.trans hx7).trans hx12)) (hE.ext ((hx1.trans hx7).trans hx12))) rfl rfl rfl ?_
    rintro _ h5 ⟨rfl, hx13⟩
    refine L_yld (Y_move rfl) rfl rfl rfl ?_
    refine L_yld (Y_move rfl) rfl rfl rfl ?_
    refine L_yld (Y_move rfl) rfl rfl rfl ?_
    refine L_call (E_call (by kernel_rfl) rfl) (ref14_Same _ s03 L04 (hr05.ext (hx12.trans hx13)) s08 L09 (hr010.ext hx13) (by have := mem_len hq06; omega)) rfl rfl rfl ?_
    rintro _ h6 ⟨rfl, hx14⟩
    refine L_yld (Y_pick_t rfl rfl) rfl rfl rfl ?_
    refine L_yld (Y_move rfl) rfl rfl rfl ?_
    refine L_known (d := 31) true rfl (by exact msame_c (X := mbs l) (by assumption) (by assumption)) ?_
    refine L_yld (Y_move rfl) rfl rfl rfl ?_
    refine L_yld (Y_move rfl) rfl rfl rfl ?_
    refine L_yld (Y_eql rfl rfl) rfl rfl rfl ?_
    refine L_yld (Y_pick_t rfl rfl) rfl rfl rfl ?_
    refine L_yld (Y_move rfl) rfl rfl rfl ?_
    refine L_known (d := 36) true rfl (by exact decide_eq_true (by rfl)) ?_
    refine L_yld (Y_move rfl) rfl rfl rfl ?_
    refine L_yld (Y_move rfl) rfl rfl rfl ?_
    refine L_yld (Y_eql rfl rfl) rfl rfl rfl ?_
    refine L_yld (Y_pick_t rfl rfl) rfl rfl rfl ?_
    refine L_yld (Y_assign rfl) rfl rfl rfl ?_
    refine L_nil ?_
    refine X_then ?_
    refine W_sub _ (.cons (i := 2) rfl (.nil _)) ?_
    refine W_ret ?_
    refine X_ret1 rfl rfl ?_
    exact ⟨by simp, ((((hx1.trans hx7).trans hx12).trans hx13).trans hx14)⟩

theorem dep_same {A B : List Nod} {a b : List Mem} (e : terr A = 0 ∧ terr B = 0) (h1 : a.map erm = mbs A) (h2 : b.map erm = mbs B) : (mlsame a b == lsame (cno A) (cno B)) = true := by
  rw [beq_iff_eq, Bool.eq_iff_iff, mlsame_erm, lsame_er, cno_er, cno_er, h1, h2]
  unfold mbs
  rw [if_pos e.1, if_pos e.2]
  exact ⟨fun q => mem1_inj (Cano.of (tok_of e.1).set) (Cano.of (tok_of e.2).set) q, fun q => by rw [q]⟩
set_option maxRecDepth 100000 in
theorem flattenDependsOnTree (h : Heap) (hK : GlbK h) (hE : GlbE h) (v : Value) (A : List Nod) (ha : Rows nodS h v A) (u : Value) (B : List Nod) (hb : Rows nodS h u B) (hn1 : A.length ≤ 140737488355328) (hs1 : ∀ x ∈ A, x.path.length ≤ 140737488355328 ∧ x.target.length ≤ 140737488355328 ∧ x.data.length ≤ 140737488355328) (hn2 : B.length ≤ 140737488355328) (hs2 : ∀ x ∈ B, x.path.length ≤ 140737488355328 ∧ x.target.length ≤ 140737488355328 ∧ x.data.length ≤ 140737488355328) : Cal Tryd.prog 7 #[v, u] h (fun v h' => v = .bool true ∧ Ext h h') := by
  refine Cal_enter (args := [v, u]) Tryd.func7 rfl rfl rfl (fun σ => ?_)
  refine W_seq ?_
  refine W_region ?_
  refine L_yld (Y_assign rfl) rfl rfl rfl ?_
  refine L_nil ?_
  refine X_then ?_
  refine W_seq ?_
  refine W_cut (S := Unit) (fun _ => [(18, .bool (decide ((0 < (ntoo A)) ∨ (0 < (ntoo B))))), (4, .bool false), (0, v), (1, u)]) (fun _ h' => Ext h h') ?_ ?_
  · refine W_region ?_
    refine L_yld (Y_move rfl) rfl rfl rfl ?_
    refine L_call (E_call (by kernel_rfl) rfl) (law13_TooLarge _ v A ha hn1 hs1) rfl rfl rfl ?_
    rintro _ h1 ⟨rfl, hx1⟩
    refine L_yld (Y_gtr rfl rfl) rfl rfl rfl ?_
    refine L_yld (Y_move rfl) rfl rfl rfl ?_
    refine L_splitd (d := 14) rfl (fun g0 => ?_) (fun g0 => ?_)
    · refine L_skip rfl rfl rfl ?_
      refine L_skip rfl rfl rfl ?_
      refine L_skip rfl rfl rfl ?_
      refine L_yld (Y_pick_t rfl rfl) rfl rfl rfl ?_
      refine L_nil ?_
      exact X_cut () (.cons (i := 18) (lkb rfl (by first | (simp only [eq_true g0, true_and, and_true, false_and, and_false, true_or, or_true, false_or, or_false, not_true_eq_false, not_false_eq_true, decide_true, decide_false, Bool.true_eq_false, Bool.false_eq_true, eq_self, Bool.decide_eq_true]; done) | (simp only [eq_true g0, true_and, and_true, false_and, and_false, true_or, or_true, false_or, or_false, not_true_eq_false, not_false_eq_true, decide_true, decide_false, Bool.true_eq_false, Bool.false_eq_true, eq_self, Bool.decide_eq_true]; rfl))) (.cons (i := 4) rfl (.cons (i := 0) rfl (.cons (i := 1) rfl (.nil _))))) hx1
    · refine L_yld (Y_move rfl) rfl rfl rfl ?_
      refine L_call (E_call (by kernel_rfl) rfl) (law13_TooLarge _ u B (hb.ext hx1) hn2 hs2) rfl rfl rfl ?_
      rintro _ h2 ⟨rfl, hx2⟩
      refine L_yld (Y_gtr rfl rfl) rfl rfl rfl ?_
      refine L_yld (Y_pick_f rfl rfl) rfl rfl rfl ?_
      refine L_nil ?_
      exact X_cut () (.cons (i := 18) (lkb rfl (by first | (simp only [eq_false g0, true_and, and_true, false_and, and_false, true_or, or_true, false_or, or_false, not_true_eq_false, not_false_eq_true, decide_true, decide_false, Bool.true_eq_false, Bool.false_eq_true, eq_self, Bool.decide_eq_true]; done) | (simp only [eq_false g0, true_and, and_true, false_and, and_false, true_or, or_true, false_or, or_false, not_true_eq_false, not_false_eq_true, decide_true, decide_false, Bool.true_eq_false, Bool.false_eq_true, eq_self, Bool.decide_eq_true]; rfl))) (.cons (i := 4) rfl (.cons (i := 0) rfl (.cons (i := 1) rfl (.nil _))))) (hx1.trans hx2)
  rintro _ h3 hx3
  show W _ _ _ _ _ [(18, .bool (decide ((0 < (ntoo A)) ∨ (0 < (ntoo B))))), (4, .bool false), (0, v), (1, u)] _
  refine W_splitd rfl (fun g => ?_) (fun g => ?_)
  · refine W_seq ?_
    refine W_region ?_
    refine L_call (E_call (by kernel_rfl) rfl) (law14_alive _ (hK.ext hx3) (hE.ext hx3)) rfl rfl rfl ?_
    rintro _ h4 ⟨rfl, hx4⟩
    refine L_yld (Y_assign rfl) rfl rfl rfl ?_
    refine L_nil ?_
    refine X_then ?_
    refine W_sub _ (.cons (i := 4) rfl (.cons (i := 0) rfl (.cons (i := 1) rfl (.nil _)))) ?_
    refine W_ret ?_
    refine X_then_ret ?_
    refine X_ret1 rfl rfl ?_
    exact ⟨rfl, (hx3.trans hx4)⟩
  · refine W_skip ?_
    refine X_then ?_
    refine W_sub _ (.cons (i := 4) rfl (.cons (i := 0) rfl (.cons (i := 1) rfl (.nil _)))) ?_
    have okA := can_okl (fun q => g (.inl q))
    have okB := can_okl (fun q => g (.inr q))
    refine W_seq ?_
    refine W_region ?_
    refine L_yld (Y_move rfl) rfl rfl rfl ?_
    refine L_call (E_call (by kernel_rfl) rfl) (flatten_Members _ (hK.ext hx3) (hE.ext hx3) v A (ha.ext hx3) okA.2.1 okA.2.2) rfl rfl rfl ?_
    rintro _ h5 ⟨s05, L06, rfl, hr07, hq08, hx9⟩
    refine L_yld (Y_move rfl) rfl rfl rfl ?_
    refine L_yld (Y_extract (v := s05) rfl rfl) rfl rfl rfl ?_
    refine L_yld (Y_extract (v := .int .i64 (tpos A)) rfl rfl) rfl rfl rfl ?_
    refine L_yld (Y_extract (v := .int .i64 (terr A)) rfl rfl) rfl rfl rfl ?_
    refine L_yld (Y_assign rfl) rfl rfl rfl ?_
    refine L_yld (Y_assign rfl) rfl rfl rfl ?_
    refine L_yld (Y_assign rfl) rfl rfl rfl ?_
    refine L_nil ?_
    refine X_then ?_
    refine W_sub _ (.cons (i := 7) rfl (.cons (i := 5) rfl (.cons (i := 4) rfl (.cons (i := 0) rfl (.cons (i := 1) rfl (.nil _)))))) ?_
    refine W_seq ?_
    refine W_region ?_
    refine L_yld (Y_move rfl) rfl rfl rfl ?_
    refine L_call (E_call (by kernel_rfl) rfl) (flatten_Members _ (hK.ext (hx3.trans hx9)) (hE.ext (hx3.trans hx9)) u B (hb.ext (hx3.trans hx9)) okB.2.1 okB.2.2) rfl rfl rfl ?_
    rintro _ h6 ⟨s010, L011, rfl, hr012, hq013, hx14⟩
    refine L_yld (Y_move rfl) rfl rfl rfl ?_
    refine L_yld (Y_extract (v := s010) rfl rfl) rfl rfl rfl ?_
    refine L_yld (Y_extract (v := .int .i64 (tpos B)) rfl rfl) rfl rfl rfl ?_
    refine L_yld (Y_extract (v := .int .i64 (terr B)) rfl rfl) rfl rfl rfl ?_
    refine L_yld (Y_assign rfl) rfl rfl rfl ?_
    refine L_yld (Y_assign rfl) rfl rfl rfl ?_
    refine L_yld (Y_assign rfl) rfl rfl rfl ?_
    refine L_nil ?_
    refine X_then ?_
    refine W_sub _ (.cons (i := 10) rfl (.cons (i := 8) rfl (.cons (i := 7) rfl (.cons (i := 5) rfl (.cons (i := 4) rfl (.cons (i := 0) rfl (.cons (i := 1) rfl (.nil _)))))))) ?_
    refine W_seq ?_
    refine W_cut (S := Unit) (fun _ => [(37, .bool (decide ((¬ (terr A) = 0) ∨ (¬ (terr B) = 0)))), (8, s010), (5, s05), (4, .bool false), (0, v), (1, u)]) (fun _ h' => h' = h6) ?_ ?_
    · refine W_region ?_
      refine L_yld (Y_move rfl) rfl rfl rfl ?_
      refine L_yld (Y_neq rfl rfl) rfl rfl rfl ?_
      refine L_yld (Y_move rfl) rfl rfl rfl ?_
      refine L_splitd (d := 34) rfl (fun e0 => ?_) (fun e0 => ?_)
      · refine L_skip rfl rfl rfl ?_
        refine L_skip rfl rfl rfl ?_
        refine L_yld (Y_pick_t rfl rfl) rfl rfl rfl ?_
        refine L_nil ?_
        exact X_cut () (.cons (i := 37) (lkb rfl (by first | (simp only [eq_true e0, true_and, and_true, false_and, and_false, true_or, or_true, false_or, or_false, not_true_eq_false, not_false_eq_true, decide_true, decide_false, Bool.true_eq_false, Bool.false_eq_true, eq_self, Bool.decide_eq_true]; done) | (simp only [eq_true e0, true_and, and_true, false_and, and_false, true_or, or_true, false_or, or_false, not_true_eq_false, not_false_eq_true, decide_true, decide_false, Bool.true_eq_false, Bool.false_eq_true, eq_self, Bool.decide_eq_true]; rfl))) (.cons (i := 8) rfl (.cons (i := 5) rfl (.cons (i := 4) rfl (.cons (i := 0) rfl (.cons (i := 1) rfl (.nil _))))))) rfl
      · refine L_yld (Y_move rfl) rfl rfl rfl ?_
        refine L_yld (Y_neq rfl rfl) rfl rfl rfl ?_
        refine L_yld (Y_pick_f rfl rfl) rfl rfl rfl ?_
        refine L_nil ?_
        exact X_cut () (.cons (i := 37) (lkb rfl (by first | (simp only [eq_false e0, true_and, and_true, false_and, and_false, true_or, or_true, false_or, or_false, not_true_eq_false, not_false_eq_true, decide_true, decide_false, Bool.true_eq_false, Bool.false_eq_true, eq_self, Bool.decide_eq_true]; done) | (simp only [eq_false e0, true_and, and_true, false_and, and_false, true_or, or_true, false_or, or_false, not_true_eq_false, not_false_eq_true, decide_true, decide_false, Bool.true_eq_false, Bool.false_eq_true, eq_self, Bool.decide_eq_true]; rfl))) (.cons (i := 8) rfl (.cons (i := 5) rfl (.cons (i := 4) rfl (.cons (i := 0) rfl (.cons (i := 1) rfl (.nil _))))))) rfl
    rintro _ h6 rfl
    show W _ _ _ _ _ [(37, .bool (decide ((¬ (terr A) = 0) ∨ (¬ (terr B) = 0)))), (8, s010), (5, s05), (4, .bool false), (0, v), (1, u)] _
    refine W_splitd rfl (fun e => ?_) (fun e => ?_)
    · refine W_seq ?_
      refine W_region ?_
      refine L_call (E_call (by kernel_rfl) rfl) (law14_alive _ (hK.ext ((hx3.trans hx9).trans hx14)) (hE.ext ((hx3.trans hx9).trans hx14))) rfl rfl rfl ?_
      rintro _ h7 ⟨rfl, hx15⟩
      refine L_yld (Y_assign rfl) rfl rfl rfl ?_
      refine L_nil ?_
      refine X_then ?_
      refine W_sub _ (.cons (i := 4) rfl (.cons (i := 8) rfl (.cons (i := 5) rfl (.cons (i := 0) rfl (.cons (i := 1) rfl (.nil _)))))) ?_
      refine W_ret ?_
      refine X_then_ret ?_
      refine X_ret1 rfl rfl ?_
      exact ⟨rfl, (((hx3.trans hx9).trans hx14).trans hx15)⟩
    · refine W_skip ?_
      refine X_then ?_
      refine W_sub _ (.cons (i := 8) rfl (.cons (i := 5) rfl (.cons (i := 4) rfl (.cons (i := 0) rfl (.cons (i := 1) rfl (.nil _)))))) ?_
      refine W_seq ?_
      refine W_region ?_
      refine L_call (E_call (by kernel_rfl) rfl) (law14_alive _ (hK.ext ((hx3.trans hx9).trans hx14)) (hE.ext ((hx3.trans hx9).trans hx14))) rfl rfl rfl ?_
      rintro _ h8 ⟨rfl, hx16⟩
      refine L_yld (Y_move rfl) rfl rfl rfl ?_
      refine L_yld (Y_move rfl) rfl rfl rfl ?_
      refine L_yld (Y_move rfl) rfl rfl rfl ?_
      refine L_call (E_call (by kernel_rfl) rfl) (ref14_Same _ s05 L06 (hr07.ext (hx14.trans hx16)) s010 L011 (hr012.ext hx16) (by have := mem_len hq08; omega)) rfl rfl rfl ?_
      rintro _ h9 ⟨rfl, hx17⟩
      refine L_yld (Y_move rfl) rfl rfl rfl ?_
      refine L_yld (Y_move rfl) rfl rfl rfl ?_
      refine L_call (E_call (by kernel_rfl) rfl) (ref13_Equal _ v A (ha.ext ((((hx3.trans hx9).trans hx14).trans hx16).trans hx17)) u B (hb.ext ((((hx3.trans hx9).trans hx14).trans hx16).trans hx17)) okA.2.1 okB.2.1 okA.2.2 okB.2.2) rfl rfl rfl ?_
      rintro _ h10 ⟨rfl, hx18⟩
      refine L_yld (Y_beql Tryd.underlying4 rfl rfl) rfl rfl rfl ?_
      refine L_yld (Y_pick_t rfl rfl) rfl rfl rfl ?_
      refine L_yld (Y_assign rfl) rfl rfl rfl ?_
      refine L_nil ?_
      refine X_then ?_
      refine W_sub _ (.cons (i := 4) rfl (.nil _)) ?_
      refine W_ret ?_
      refine X_ret1 rfl rfl ?_
      exact ⟨congrArg Value.bool (dep_same (A := A) (B := B) (by have := e; simp only [not_or, Classical.not_not] at this; exact this) (by assumption) (by assumption)), (((((hx3.trans hx9).trans hx14).trans hx16).trans hx17).trans hx18)⟩
end Go.Xp
