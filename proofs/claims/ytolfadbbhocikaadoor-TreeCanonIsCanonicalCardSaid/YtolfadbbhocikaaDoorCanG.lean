/- Layer 13 (tree): Canon is canonical. -/
import Derived.Test.YtolfadbbhocikaaDoorCanF
import Derived.Test.YtolfadbbhocikaaDoorCanT
import Derived.Test.YtolfadbbhocikaaDoorTreeP
set_option linter.unusedSimpArgs false
set_option linter.unusedVariables false
set_option linter.unusedSectionVars false
namespace Go.Xp
open Go.Proofs

theorem cno_map_er (L : List Nod) : cno (L.map er) = cno L := by
  rw [cno_ccl, cno_ccl, map_er_er]
  congr 1
  funext c; rw [ccl_er]
theorem idem_same {a b A : List Nod} {n m : Nat} (h1 : a.length = n ∧ a.map er = cno b) (h2 : b.length = m ∧ b.map er = cno A) : lsame a b = true := by
  rw [lsame_er, h1.2, ← cno_map_er, h2.2, cno_idem]
theorem TSet.of_er {L : List Nod} (h : TSet (L.map Go.Xp.er)) : TSet L := by
  refine ⟨fun x hx => h.one (Go.Xp.er x) (List.mem_map_of_mem hx), ?_, fun x hx => ?_, fun x hx y hy => h.agr (Go.Xp.er x) (List.mem_map_of_mem hx) (Go.Xp.er y) (List.mem_map_of_mem hy)⟩
  · have := h.dup; rw [List.pairwise_map] at this; exact this
  · rcases h.par (Go.Xp.er x) (List.mem_map_of_mem hx) with q | ⟨y, hy, q1, q2⟩
    · exact .inl q
    · obtain ⟨z, hz, rfl⟩ := List.mem_map.1 hy
      exact .inr ⟨z, hz, q1, q2⟩
theorem valid_can {l c : List Nod} {n : Nat} (h : terr l = 0) (hc : c.length = n ∧ c.map er = cno l) : terr c = 0 ∧ tpos c = n := by
  have h1 := ((tok_of h).set.cno)
  rw [← hc.2] at h1
  have := h1.of_er.ok.res
  exact ⟨this.2, by rw [this.1, hc.1]⟩
def rcc (y : Int) (c : Int) : Int := if 0 < c ∧ c < 1000 then 1000 * y + 2000 - c else c
/-- The first k classes numbered otherwise. -/
def rcl (y : Int) (l : List Nod) : Nat → List Nod
  | 0 => l
  | k + 1 => if 0 < (at_nod (rcl y l k) k).cls ∧ (at_nod (rcl y l k) k).cls < 1000 then (rcl y l k).set k (wcl (at_nod (rcl y l k) k) (1000 * y + 2000 - (at_nod (rcl y l k) k).cls)) else rcl y l k
@[simp] theorem rcl_len (y : Int) (l : List Nod) : ∀ k, (rcl y l k).length = l.length
  | 0 => rfl
  | k + 1 => by unfold rcl; split <;> simp [rcl_len y l k]
theorem rcl_y {y : Int} {l : List Nod} {k : Nat} (h : 0 < (at_nod (rcl y l k) k).cls ∧ (at_nod (rcl y l k) k).cls < 1000) : rcl y l (k + 1) = (rcl y l k).set k (wcl (at_nod (rcl y l k) k) (1000 * y + 2000 - (at_nod (rcl y l k) k).cls)) := by conv => lhs; unfold rcl; rw [if_pos h]
theorem rcl_n {y : Int} {l : List Nod} {k : Nat} (h : ¬ (0 < (at_nod (rcl y l k) k).cls ∧ (at_nod (rcl y l k) k).cls < 1000)) : rcl y l (k + 1) = rcl y l k := by conv => lhs; unfold rcl; rw [if_neg h]
theorem rcl_ok {H : Heap} {y : Int} {l : List Nod} {k : Nat} (o : ∀ x ∈ rcl y l k, nodS.ok H x) (hk : k < (rcl y l k).length) : ∀ x ∈ rcl y l (k + 1), nodS.ok H x := fun x hx => by
  unfold rcl at hx
  split at hx
  · rcases List.mem_or_eq_of_mem_set hx with h1 | h1
    · exact o x h1
    · rw [h1]
      have := o (at_nod (rcl y l k) k) (can_mem hk)
      exact this
  · exact o x hx
theorem rcl_eq (y : Int) (l : List Nod) : ∀ k, k ≤ l.length → rcl y l k = (l.take k).map (fun x => wcl x (rcc y x.cls)) ++ l.drop k
  | 0, _ => rfl
  | k + 1, h => by
    have ih := rcl_eq y l k (by omega)
    have e : l.drop k = at_nod l k :: l.drop (k + 1) := drop_at (by omega)
    have l1 : ((l.take k).map (fun x => wcl x (rcc y x.cls))).length = k := by rw [List.length_map, List.length_take]; omega
    rw [e] at ih
    have e2 : at_nod (rcl y l k) k = at_nod l k := by
      have := at_app ((l.take k).map (fun x => wcl x (rcc y x.cls))) (at_nod l k) (l.drop (k + 1))
      rw [l1] at this; rw [ih]; exact this
    rw [take_at (by omega), List.map_append]
    by_cases c : 0 < (at_nod (rcl y l k) k).cls ∧ (at_nod (rcl y l k) k).cls < 1000
    · rw [rcl_y c, e2, ih, List.set_append_right _ _ (by omega), l1, Nat.sub_self]
      rw [e2] at c
      simp [rcc, c]
    · rw [rcl_n c, ih]
      rw [e2] at c
      simp [rcc, c, wcl]
theorem rcl_okl {y : Int} {l : List Nod} (h : ∀ x ∈ l, x.path.length ≤ 100000000000 ∧ x.target.length ≤ 100000000000 ∧ x.data.length ≤ 100000000000) : ∀ x ∈ rcl y l l.length, x.path.length ≤ 100000000000 ∧ x.target.length ≤ 100000000000 ∧ x.data.length ≤ 100000000000 := fun x hx => by
  rw [rcl_eq y l _ (Nat.le_refl _), List.take_length, List.drop_length, List.append_nil] at hx
  obtain ⟨z, hz, rfl⟩ := List.mem_map.1 hx
  exact h z hz
theorem swp_perm {L : List Nod} {i j : Nat} (hi : i < L.length) (hj : j < L.length) : (swp L i j).Perm L := by
  by_cases e : i = j
  · subst e
    unfold swp
    rw [List.set_set]
    have : L.set i (at_nod L i) = L := by
      rw [nod_eq hi]; simp
    rw [this]
  · have key : ∀ {i j : Nat}, i < j → j < L.length → (swp L i j).Perm L := fun {i j} hij hj => by
      have e1 : L = L.take i ++ at_nod L i :: ((L.take j).drop (i + 1) ++ at_nod L j :: L.drop (j + 1)) := by
        have a1 : L.drop j = at_nod L j :: L.drop (j + 1) := drop_at hj
        have a2 : L.drop i = at_nod L i :: L.drop (i + 1) := drop_at (by omega)
        have a3 : (L.take j).drop (i + 1) ++ L.drop j = L.drop (i + 1) := by
          conv => rhs; rw [← List.take_append_drop j L, List.drop_append_of_le_length (by rw [List.length_take]; omega)]
        rw [← a1, a3, ← a2, List.take_append_drop]
      have e2 := swp_app (L.take i) ((L.take j).drop (i + 1)) (L.drop (j + 1)) (at_nod L i) (at_nod L j) (i := i) (j := j) (by rw [List.length_take]; omega) (by rw [List.length_take, List.length_drop, List.length_take]; omega)
      rw [← e1] at e2
      rw [e2]
      conv => rhs; rw [e1]
      refine List.Perm.append_left _ ?_
      have p1 : (at_nod L j :: ((L.take j).drop (i + 1) ++ at_nod L i :: L.drop (j + 1))).Perm (at_nod L j :: (at_nod L i :: ((L.take j).drop (i + 1) ++ L.drop (j + 1)))) := List.Perm.cons _ List.perm_middle
      have p2 : (at_nod L i :: ((L.take j).drop (i + 1) ++ at_nod L j :: L.drop (j + 1))).Perm (at_nod L i :: (at_nod L j :: ((L.take j).drop (i + 1) ++ L.drop (j + 1)))) := List.Perm.cons _ List.perm_middle
      exact p1.trans ((List.Perm.swap _ _ _).trans p2.symm)
    rcases Nat.lt_or_gt_of_ne e with h | h
    · exact key h hj
    · rw [swp_comm L e]; exact key h hi
theorem canon_inv {l m : List Nod} {y : Int} (h : terr l = 0) (hy : 0 ≤ y) (hc : ∀ k, k < l.length → (at_nod l k).cls < 1000) (hp : m.Perm (rcl y l l.length)) : cno m = cno l := by
  have hT := (tok_of h).set
  have hcm : ∀ x ∈ l, 0 ≤ x.cls ∧ x.cls < 1000 := fun x hx => by
    obtain ⟨k, hk, rfl⟩ := mem_at hx
    refine ⟨?_, hc k hk⟩
    rcases tone_cls (hT.one _ hx) with q | q <;> omega
  refine cno_ren (φ := rcc y) hT ?_ (fun x hx => ?_) (fun x hx z hz e => ?_)
  · have e : (l.map er).map (fun x => wcl x (rcc y x.cls)) = (rcl y l l.length).map er := by
      rw [rcl_eq y l _ (Nat.le_refl _), List.take_length, List.drop_length, List.append_nil, List.map_map, List.map_map]; rfl
    rw [e]; exact hp.map _
  · have := hcm x hx
    unfold rcc; split <;> omega
  · have h1 := hcm x hx
    have h2 := hcm z hz
    unfold rcc at e
    split at e <;> split at e <;> omega

set_option maxRecDepth 100000 in
theorem treeCanonIsCanonical (h : Heap) (hK : GlbK h) (hE : GlbE h) (w : Value) (l : List Nod) (hl : Rows nodS h w l) (sv : Value) (sw : List UInt8) (hsw : Bytes h sv sw) (y : Int) (hn : l.length ≤ 140737488355328) (hs : ∀ x ∈ l, x.path.length ≤ 140737488355328 ∧ x.target.length ≤ 140737488355328 ∧ x.data.length ≤ 140737488355328) (hsl : sw.length ≤ 140737488355328) (hy : 0 ≤ y ∧ y ≤ 255) : Cal Tryd.prog 9 #[w, sv, .int .u8 (y)] h (fun v h' => v = .bool true ∧ Ext h h') := by
  refine Cal_enter (args := [w, sv, .int .u8 (y)]) Tryd.func9 rfl rfl rfl (fun σ => ?_)
  refine W_seq ?_
  refine W_region ?_
  refine L_yld (Y_assign rfl) rfl rfl rfl ?_
  refine L_nil ?_
  refine X_then ?_
  refine W_seq ?_
  refine W_cut (S := Unit) (fun _ => [(26, .bool (decide ((0 < (ntoo l)) ∨ (50 < (sw.length : Int))))), (6, .bool false), (0, w), (1, sv), (2, .int .u8 (y))]) (fun _ h' => Ext h h') ?_ ?_
  · refine W_region ?_
    refine L_yld (Y_move rfl) rfl rfl rfl ?_
    refine L_call (E_call (by kernel_rfl) rfl) (law13_TooLarge _ w l hl hn hs) rfl rfl rfl ?_
    rintro _ h1 ⟨rfl, hx1⟩
    refine L_yld (Y_gtr rfl rfl) rfl rfl rfl ?_
    refine L_yld (Y_move rfl) rfl rfl rfl ?_
    refine L_splitd (d := 22) rfl (fun g0 => ?_) (fun g0 => ?_)
    · refine L_skip rfl rfl rfl ?_
      refine L_skip rfl rfl rfl ?_
      refine L_skip rfl rfl rfl ?_
      refine L_yld (Y_pick_t rfl rfl) rfl rfl rfl ?_
      refine L_nil ?_
      exact X_cut () (.cons (i := 26) (lkb rfl (by first | (simp only [eq_true g0, true_and, and_true, false_and, and_false, true_or, or_true, false_or, or_false, not_true_eq_false, not_false_eq_true, decide_true, decide_false, Bool.true_eq_false, Bool.false_eq_true, eq_self, Bool.decide_eq_true]; done) | (simp only [eq_true g0, true_and, and_true, false_and, and_false, true_or, or_true, false_or, or_false, not_true_eq_false, not_false_eq_true, decide_true, decide_false, Bool.true_eq_false, Bool.false_eq_true, eq_self, Bool.decide_eq_true]; rfl))) (.cons (i := 6) rfl (.cons (i := 0) rfl (.cons (i := 1) rfl (.cons (i := 2) rfl (.nil _)))))) hx1
    · refine L_yld (Y_move rfl) rfl rfl rfl ?_
      refine L_yld (Y_len Tryd.underlying28 rfl (hsw.ext hx1)) rfl rfl rfl ?_
      refine L_yld (Y_gtr rfl rfl) rfl rfl rfl ?_
      refine L_yld (Y_pick_f rfl rfl) rfl rfl rfl ?_
      refine L_nil ?_
      exact X_cut () (.cons (i := 26) (lkb rfl (by first | (simp only [eq_false g0, true_and, and_true, false_and, and_false, true_or, or_true, false_or, or_false, not_true_eq_false, not_false_eq_true, decide_true, decide_false, Bool.true_eq_false, Bool.false_eq_true, eq_self, Bool.decide_eq_true]; done) | (simp only [eq_false g0, true_and, and_true, false_and, and_false, true_or, or_true, false_or, or_false, not_true_eq_false, not_false_eq_true, decide_true, decide_false, Bool.true_eq_false, Bool.false_eq_true, eq_self, Bool.decide_eq_true]; rfl))) (.cons (i := 6) rfl (.cons (i := 0) rfl (.cons (i := 1) rfl (.cons (i := 2) rfl (.nil _)))))) hx1
  rintro _ h2 hx2
  show W _ _ _ _ _ [(26, .bool (decide ((0 < (ntoo l)) ∨ (50 < (sw.length : Int))))), (6, .bool false), (0, w), (1, sv), (2, .int .u8 (y))] _
  refine W_splitd rfl (fun g => ?_) (fun g => ?_)
  · refine W_seq ?_
    refine W_region ?_
    refine L_call (E_call (by kernel_rfl) rfl) (law13_alive _ (hK.ext hx2) (hE.ext hx2)) rfl rfl rfl ?_
    rintro _ h3 ⟨rfl, hx3⟩
    refine L_yld (Y_assign rfl) rfl rfl rfl ?_
    refine L_nil ?_
    refine X_then ?_
    refine W_sub _ (.cons (i := 6) rfl (.cons (i := 0) rfl (.cons (i := 1) rfl (.cons (i := 2) rfl (.nil _))))) ?_
    refine W_ret ?_
    refine X_then_ret ?_
    refine X_ret1 rfl rfl ?_
    exact ⟨rfl, (hx2.trans hx3)⟩
  · refine W_skip ?_
    refine X_then ?_
    refine W_sub _ (.cons (i := 6) rfl (.cons (i := 0) rfl (.cons (i := 1) rfl (.cons (i := 2) rfl (.nil _))))) ?_
    have okA := can_okl (fun q => g (.inl q))
    refine W_seq ?_
    refine W_region ?_
    refine L_yld (Y_move rfl) rfl rfl rfl ?_
    refine L_call (E_call (by kernel_rfl) rfl) (tree_Canon _ w l (hl.ext hx2) okA.2.1 okA.2.2) rfl rfl rfl ?_
    rintro s04 h4 ⟨_, L05, rfl, hr06, hq07, hx8⟩
    refine L_yld (Y_assign rfl) rfl rfl rfl ?_
    refine L_nil ?_
    refine X_then ?_
    refine W_sub _ (.cons (i := 7) rfl (.cons (i := 6) rfl (.cons (i := 0) rfl (.cons (i := 1) rfl (.cons (i := 2) rfl (.nil _)))))) ?_
    refine W_seq ?_
    refine W_seq ?_
    refine W_region ?_
    refine L_yld (Y_move rfl) rfl rfl rfl ?_
    refine L_call (E_call (by kernel_rfl) rfl) (tree_Canon _ s04 L05 hr06 (by have := hq07.1; omega) (can_all (P := okl) hq07 okA.2.2)) rfl rfl rfl ?_
    rintro s09 h5 ⟨_, L010, rfl, hr011, hq012, hx13⟩
    refine L_yld (Y_move rfl) rfl rfl rfl ?_
    refine L_call (E_call (by kernel_rfl) rfl) (ref13_Same _ s09 L010 hr011 s04 L05 (hr06.ext hx13) (by have := hq012.1; have := hq07.1; omega)) rfl rfl rfl ?_
    rintro _ h6 ⟨rfl, hx14⟩
    refine L_yld (Y_not rfl) rfl rfl rfl ?_
    refine L_nil ?_
    refine X_then ?_
    refine W_sub _ (.cons (i := 34) rfl (.cons (i := 7) rfl (.cons (i := 6) rfl (.cons (i := 0) rfl (.cons (i := 1) rfl (.cons (i := 2) rfl (.nil _))))))) ?_
    refine W_known false rfl (by rw [idem_same (by assumption) (by assumption)]; rfl) ?_
    refine W_skip ?_
    refine X_then ?_
    refine W_sub _ (.cons (i := 7) rfl (.cons (i := 6) rfl (.cons (i := 0) rfl (.cons (i := 1) rfl (.cons (i := 2) rfl (.nil _)))))) ?_
    refine W_seq ?_
    refine W_region ?_
    refine L_yld (Y_move rfl) rfl rfl rfl ?_
    refine L_call (E_call (by kernel_rfl) rfl) (tree_Check _ (hK.ext (((hx2.trans hx8).trans hx13).trans hx14)) (hE.ext (((hx2.trans hx8).trans hx13).trans hx14)) w l (hl.ext (((hx2.trans hx8).trans hx13).trans hx14)) hn hs) rfl rfl rfl ?_
    rintro _ h7 ⟨rfl, hx15⟩
    refine L_yld (Y_move rfl) rfl rfl rfl ?_
    refine L_yld (Y_extract (v := .int .i64 (tpos l)) rfl rfl) rfl rfl rfl ?_
    refine L_yld (Y_extract (v := .int .i64 (terr l)) rfl rfl) rfl rfl rfl ?_
    refine L_yld (Y_assign rfl) rfl rfl rfl ?_
    refine L_yld (Y_assign rfl) rfl rfl rfl ?_
    refine L_nil ?_
    refine X_then ?_
    refine W_sub _ (.cons (i := 9) rfl (.cons (i := 7) rfl (.cons (i := 6) rfl (.cons (i := 0) rfl (.cons (i := 1) rfl (.cons (i := 2) rfl (.nil _))))))) ?_
    refine W_seq ?_
    refine W_region ?_
    refine L_yld (Y_move rfl) rfl rfl rfl ?_
    refine L_call (E_call (by kernel_rfl) rfl) (tree_Check _ (hK.ext ((((hx2.trans hx8).trans hx13).trans hx14).trans hx15)) (hE.ext ((((hx2.trans hx8).trans hx13).trans hx14).trans hx15)) s04 L05 (hr06.ext ((hx13.trans hx14).trans hx15)) (by have := hq07.1; omega) (fun x hx => by have := can_all (P := okl) hq07 okA.2.2 x hx; unfold okl at this; omega)) rfl rfl rfl ?_
    rintro _ h8 ⟨rfl, hx16⟩
    refine L_yld (Y_move rfl) rfl rfl rfl ?_
    refine L_yld (Y_extract (v := .int .i64 (tpos L05)) rfl rfl) rfl rfl rfl ?_
    refine L_yld (Y_extract (v := .int .i64 (terr L05)) rfl rfl) rfl rfl rfl ?_
    refine L_yld (Y_assign rfl) rfl rfl rfl ?_
    refine L_yld (Y_assign rfl) rfl rfl rfl ?_
    refine L_nil ?_
    refine X_then ?_
    refine W_sub _ (.cons (i := 11) rfl (.cons (i := 10) rfl (.cons (i := 9) rfl (.cons (i := 7) rfl (.cons (i := 6) rfl (.cons (i := 0) rfl (.cons (i := 1) rfl (.cons (i := 2) rfl (.nil _))))))))) ?_
    refine W_seq ?_
    refine W_cut (S := Unit) (fun _ => [(50, .bool (decide (((terr l) = 0) ∧ (¬ (terr L05) = 0)))), (10, .int .i64 (tpos L05)), (9, .int .i64 (terr l)), (7, s04), (6, .bool false), (0, w), (1, sv), (2, .int .u8 (y))]) (fun _ h' => h' = h8) ?_ ?_
    · refine W_region ?_
      refine L_yld (Y_move rfl) rfl rfl rfl ?_
      refine L_yld (Y_eql rfl rfl) rfl rfl rfl ?_
      refine L_yld (Y_move rfl) rfl rfl rfl ?_
      refine L_splitd (d := 47) rfl (fun v => ?_) (fun v => ?_)
      · refine L_yld (Y_move rfl) rfl rfl rfl ?_
        refine L_yld (Y_neq rfl rfl) rfl rfl rfl ?_
        refine L_yld (Y_pick_t rfl rfl) rfl rfl rfl ?_
        refine L_nil ?_
        exact X_cut () (.cons (i := 50) (lkb rfl (by first | (simp only [eq_true v, true_and, and_true, false_and, and_false, true_or, or_true, false_or, or_false, not_true_eq_false, not_false_eq_true, decide_true, decide_false, Bool.true_eq_false, Bool.false_eq_true, eq_self, Bool.decide_eq_true]; done) | (simp only [eq_true v, true_and, and_true, false_and, and_false, true_or, or_true, false_or, or_false, not_true_eq_false, not_false_eq_true, decide_true, decide_false, Bool.true_eq_false, Bool.false_eq_true, eq_self, Bool.decide_eq_true]; rfl))) (.cons (i := 10) rfl (.cons (i := 9) rfl (.cons (i := 7) rfl (.cons (i := 6) rfl (.cons (i := 0) rfl (.cons (i := 1) rfl (.cons (i := 2) rfl (.nil _))))))))) rfl
      · refine L_skip rfl rfl rfl ?_
        refine L_skip rfl rfl rfl ?_
        refine L_yld (Y_pick_f rfl rfl) rfl rfl rfl ?_
        refine L_nil ?_
        exact X_cut () (.cons (i := 50) (lkb rfl (by first | (simp only [eq_false v, true_and, and_true, false_and, and_false, true_or, or_true, false_or, or_false, not_true_eq_false, not_false_eq_true, decide_true, decide_false, Bool.true_eq_false, Bool.false_eq_true, eq_self, Bool.decide_eq_true]; done) | (simp only [eq_false v, true_and, and_true, false_and, and_false, true_or, or_true, false_or, or_false, not_true_eq_false, not_false_eq_true, decide_true, decide_false, Bool.true_eq_false, Bool.false_eq_true, eq_self, Bool.decide_eq_true]; rfl))) (.cons (i := 10) rfl (.cons (i := 9) rfl (.cons (i := 7) rfl (.cons (i := 6) rfl (.cons (i := 0) rfl (.cons (i := 1) rfl (.cons (i := 2) rfl (.nil _))))))))) rfl
    rintro _ h8 rfl
    show W _ _ _ _ _ [(50, .bool (decide (((terr l) = 0) ∧ (¬ (terr L05) = 0)))), (10, .int .i64 (tpos L05)), (9, .int .i64 (terr l)), (7, s04), (6, .bool false), (0, w), (1, sv), (2, .int .u8 (y))] _
    refine W_known false rfl (by exact decide_eq_false (by exact fun q => q.2 (valid_can q.1 hq07).1)) ?_
    refine W_skip ?_
    refine X_then ?_
    refine W_sub _ (.cons (i := 10) rfl (.cons (i := 9) rfl (.cons (i := 7) rfl (.cons (i := 6) rfl (.cons (i := 0) rfl (.cons (i := 1) rfl (.cons (i := 2) rfl (.nil _)))))))) ?_
    refine W_seq ?_
    refine W_seq ?_
    refine W_region ?_
    refine L_yld (Y_move rfl) rfl rfl rfl ?_
    refine L_yld (Y_neq rfl rfl) rfl rfl rfl ?_
    refine L_nil ?_
    refine X_then ?_
    refine W_sub _ (.cons (i := 52) rfl (.cons (i := 10) rfl (.cons (i := 7) rfl (.cons (i := 6) rfl (.cons (i := 0) rfl (.cons (i := 1) rfl (.cons (i := 2) rfl (.nil _)))))))) ?_
    refine W_splitd rfl (fun z => ?_) (fun z => ?_)
    · refine W_seq ?_
      refine W_region ?_
      refine L_call (E_call (by kernel_rfl) rfl) (law13_alive _ (hK.ext (((((hx2.trans hx8).trans hx13).trans hx14).trans hx15).trans hx16)) (hE.ext (((((hx2.trans hx8).trans hx13).trans hx14).trans hx15).trans hx16))) rfl rfl rfl ?_
      rintro _ h9 ⟨rfl, hx17⟩
      refine L_yld (Y_assign rfl) rfl rfl rfl ?_
      refine L_nil ?_
      refine X_then ?_
      refine W_sub _ (.cons (i := 6) rfl (.cons (i := 10) rfl (.cons (i := 7) rfl (.cons (i := 0) rfl (.cons (i := 1) rfl (.cons (i := 2) rfl (.nil _))))))) ?_
      refine W_ret ?_
      refine X_then_ret ?_
      refine X_ret1 rfl rfl ?_
      exact ⟨rfl, ((((((hx2.trans hx8).trans hx13).trans hx14).trans hx15).trans hx16).trans hx17)⟩
    · refine W_skip ?_
      refine X_then ?_
      refine W_sub _ (.cons (i := 10) rfl (.cons (i := 7) rfl (.cons (i := 6) rfl (.cons (i := 0) rfl (.cons (i := 1) rfl (.cons (i := 2) rfl (.nil _))))))) ?_
      have hz := Classical.not_not.1 z
      refine W_seq ?_
      refine W_region ?_
      refine L_mks (M_litr0 (S := nodS) (cells := []) (E := 30) rfl rfl (fun _ => by kernel_rfl)) rfl rfl rfl ?_
      rintro v18 h10 ⟨ho19, hx20⟩
      refine L_yld (Y_move rfl) rfl rfl rfl ?_
      refine L_mks (M_appe (z := 6) (bytes := 80) (z0 := (.agg #[.int .i64 0, str [], .int .i64 0, str [], .slice none 0 0, .int .i64 0])) Tryd.underlying22 (by unfold elemRow; kernel_rfl) rfl rfl (by decide) rfl rfl ho19 (hl.ext ((((((hx2.trans hx8).trans hx13).trans hx14).trans hx15).trans hx16).trans hx20)) hx20.size (by first | (simp; done) | (simp; omega) | omega)) rfl rfl rfl ?_
      rintro v21 h11 ⟨ho22, hx23⟩
      refine L_yld (Y_assign rfl) rfl rfl rfl ?_
      refine L_nil ?_
      refine X_then ?_
      refine W_sub _ (.cons (i := 12) rfl (.cons (i := 10) rfl (.cons (i := 7) rfl (.cons (i := 6) rfl (.cons (i := 0) rfl (.cons (i := 1) rfl (.cons (i := 2) rfl (.nil _)))))))) ?_
      refine W_seq ?_
      refine W_seq ?_
      refine W_region ?_
      refine L_yld (Y_move rfl) rfl rfl rfl ?_
      refine L_yld (Y_lenr Tryd.underlying22 rfl ho22.rows) rfl rfl rfl ?_
      refine L_yld (Y_move rfl) rfl rfl rfl ?_
      refine L_nil ?_
      refine X_then ?_
      refine W_sub _ (.cons (i := 59) rfl (.cons (i := 58) rfl (.cons (i := 12) rfl (.cons (i := 10) rfl (.cons (i := 7) rfl (.cons (i := 6) rfl (.cons (i := 0) rfl (.cons (i := 1) rfl (.cons (i := 2) rfl (.nil _)))))))))) ?_
      refine W_block ?_
      refine W_loop (S := Nat) (fun i => [(58, .int .i64 ((l.length : Int))), (10, .int .i64 (tpos L05)), (7, s04), (6, .bool false), (0, w), (1, sv), (2, .int .u8 (y)), (12, v21), (59, .int .i64 ((i : Int)))]) (fun i h' => i ≤ l.length ∧ (∀ x ∈ rcl y l i, nodS.ok h8 x) ∧ Ext h8 h' ∧ RowsO nodS h' h8.size v21 (rcl y l i)) (fun i => l.length - i) 0 (.cons (i := 58) rfl (.cons (i := 10) rfl (.cons (i := 7) rfl (.cons (i := 6) rfl (.cons (i := 0) rfl (.cons (i := 1) rfl (.cons (i := 2) rfl (.cons (i := 12) rfl (.cons (i := 59) rfl (.nil _)))))))))) ?_ ?_
      · exact ⟨Nat.zero_le _, fun x hx => nodS.ext (hl.2 x hx) (((((hx2.trans hx8).trans hx13).trans hx14).trans hx15).trans hx16), (hx20.trans hx23), ho22⟩
      rintro i h12 ⟨hi, hkM, hxM, hoM⟩
      show W _ _ _ _ _ [(58, .int .i64 ((l.length : Int))), (10, .int .i64 (tpos L05)), (7, s04), (6, .bool false), (0, w), (1, sv), (2, .int .u8 (y)), (12, v21), (59, .int .i64 ((i : Int)))] _
      refine W_seq ?_
      refine W_region ?_
      refine L_yld (Y_lss rfl rfl) rfl rfl rfl ?_
      refine L_nil ?_
      refine X_then ?_
      refine W_seq ?_
      refine W_splitd rfl (fun c => ?_) (fun c => ?_)
      · refine W_skip ?_
        refine X_then ?_
        refine W_sub _ (.cons (i := 58) rfl (.cons (i := 10) rfl (.cons (i := 7) rfl (.cons (i := 6) rfl (.cons (i := 0) rfl (.cons (i := 1) rfl (.cons (i := 2) rfl (.cons (i := 12) rfl (.cons (i := 59) rfl (.nil _)))))))))) ?_
        refine W_seq ?_
        refine W_block ?_
        refine W_seq ?_
        refine W_region ?_
        refine L_yld (Y_move rfl) rfl rfl rfl ?_
        refine L_yld (Y_assign rfl) rfl rfl rfl ?_
        refine L_nil ?_
        refine X_then ?_
        refine W_sub _ (.cons (i := 13) rfl (.cons (i := 58) rfl (.cons (i := 10) rfl (.cons (i := 7) rfl (.cons (i := 6) rfl (.cons (i := 0) rfl (.cons (i := 1) rfl (.cons (i := 2) rfl (.cons (i := 12) rfl (.cons (i := 59) rfl (.nil _))))))))))) ?_
        refine W_cut (S := Unit) (fun _ => [(75, .bool (decide ((0 < ((at_nod (rcl y l i) ((i : Int)).toNat).cls)) ∧ (((at_nod (rcl y l i) ((i : Int)).toNat).cls) < 1000)))), (13, .int .i64 ((i : Int))), (58, .int .i64 ((l.length : Int))), (10, .int .i64 (tpos L05)), (7, s04), (6, .bool false), (0, w), (1, sv), (2, .int .u8 (y)), (12, v21), (59, .int .i64 ((i : Int)))]) (fun _ h' => h' = h12) ?_ ?_
        · refine W_region ?_
          refine L_yld (Y_move rfl) rfl rfl rfl ?_
          refine L_yld (Y_move rfl) rfl rfl rfl ?_
          refine L_yld (Y_idxr Tryd.underlying22 (show _ = some 6 by kernel_rfl) rfl rfl rfl hoM.rows (by first | omega | (simp; omega)) (by first | omega | (simp; omega))) rfl rfl rfl ?_
          refine L_yld (Y_fldr (k := ((i : Int)).toNat) (off := 5) (by kernel_rfl) rfl hoM.rows (by first | omega | (simp; omega))) rfl rfl rfl ?_
          refine L_yld (Y_ldr1 (off := 5) (k := ((i : Int)).toNat) (u := .int .i64 ((at_nod (rcl y l i) ((i : Int)).toNat).cls)) Tryd.underlying3 rfl rfl rfl hoM.rows (by first | omega | (simp; omega)) rfl) rfl rfl rfl ?_
          refine L_yld (Y_gtr rfl rfl) rfl rfl rfl ?_
          refine L_yld (Y_move rfl) rfl rfl rfl ?_
          refine L_splitd (d := 68) rfl (fun a0 => ?_) (fun a0 => ?_)
          · refine L_yld (Y_move rfl) rfl rfl rfl ?_
            refine L_yld (Y_move rfl) rfl rfl rfl ?_
            refine L_yld (Y_idxr Tryd.underlying22 (show _ = some 6 by kernel_rfl) rfl rfl rfl hoM.rows (by first | omega | (simp; omega)) (by first | omega | (simp; omega))) rfl rfl rfl ?_
            refine L_yld (Y_fldr (k := ((i : Int)).toNat) (off := 5) (by kernel_rfl) rfl hoM.rows (by first | omega | (simp; omega))) rfl rfl rfl ?_
            refine L_yld (Y_ldr1 (off := 5) (k := ((i : Int)).toNat) (u := .int .i64 ((at_nod (rcl y l i) ((i : Int)).toNat).cls)) Tryd.underlying3 rfl rfl rfl hoM.rows (by first | omega | (simp; omega)) rfl) rfl rfl rfl ?_
            refine L_yld (Y_lss rfl rfl) rfl rfl rfl ?_
            refine L_yld (Y_pick_t rfl rfl) rfl rfl rfl ?_
            refine L_nil ?_
            exact X_cut () (.cons (i := 75) (lkb rfl (by first | (simp only [eq_true a0, true_and, and_true, false_and, and_false, true_or, or_true, false_or, or_false, not_true_eq_false, not_false_eq_true, decide_true, decide_false, Bool.true_eq_false, Bool.false_eq_true, eq_self, Bool.decide_eq_true]; done) | (simp only [eq_true a0, true_and, and_true, false_and, and_false, true_or, or_true, false_or, or_false, not_true_eq_false, not_false_eq_true, decide_true, decide_false, Bool.true_eq_false, Bool.false_eq_true, eq_self, Bool.decide_eq_true]; rfl))) (.cons (i := 13) rfl (.cons (i := 58) rfl (.cons (i := 10) rfl (.cons (i := 7) rfl (.cons (i := 6) rfl (.cons (i := 0) rfl (.cons (i := 1) rfl (.cons (i := 2) rfl (.cons (i := 12) rfl (.cons (i := 59) rfl (.nil _)))))))))))) rfl
          · refine L_skip rfl rfl rfl ?_
            refine L_skip rfl rfl rfl ?_
            refine L_skip rfl rfl rfl ?_
            refine L_skip rfl rfl rfl ?_
            refine L_skip rfl rfl rfl ?_
            refine L_skip rfl rfl rfl ?_
            refine L_yld (Y_pick_f rfl rfl) rfl rfl rfl ?_
            refine L_nil ?_
            exact X_cut () (.cons (i := 75) (lkb rfl (by first | (simp only [eq_false a0, true_and, and_true, false_and, and_false, true_or, or_true, false_or, or_false, not_true_eq_false, not_false_eq_true, decide_true, decide_false, Bool.true_eq_false, Bool.false_eq_true, eq_self, Bool.decide_eq_true]; done) | (simp only [eq_false a0, true_and, and_true, false_and, and_false, true_or, or_true, false_or, or_false, not_true_eq_false, not_false_eq_true, decide_true, decide_false, Bool.true_eq_false, Bool.false_eq_true, eq_self, Bool.decide_eq_true]; rfl))) (.cons (i := 13) rfl (.cons (i := 58) rfl (.cons (i := 10) rfl (.cons (i := 7) rfl (.cons (i := 6) rfl (.cons (i := 0) rfl (.cons (i := 1) rfl (.cons (i := 2) rfl (.cons (i := 12) rfl (.cons (i := 59) rfl (.nil _)))))))))))) rfl
        rintro _ h12 rfl
        show W _ _ _ _ _ [(75, .bool (decide ((0 < ((at_nod (rcl y l i) ((i : Int)).toNat).cls)) ∧ (((at_nod (rcl y l i) ((i : Int)).toNat).cls) < 1000)))), (13, .int .i64 ((i : Int))), (58, .int .i64 ((l.length : Int))), (10, .int .i64 (tpos L05)), (7, s04), (6, .bool false), (0, w), (1, sv), (2, .int .u8 (y)), (12, v21), (59, .int .i64 ((i : Int)))] _
        refine W_splitd rfl (fun a => ?_) (fun a => ?_)
        · refine W_region ?_
          refine L_yld (Y_move rfl) rfl rfl rfl ?_
          refine L_yld (Y_move rfl) rfl rfl rfl ?_
          refine L_yld (Y_move rfl) rfl rfl rfl ?_
          refine L_yld (Y_convs Tryd.underlying5 Tryd.underlying3 rfl (wrap_i64 (by omega) (by omega))) rfl rfl rfl ?_
          refine L_yld (Y_mul rfl rfl (by omega) (by omega)) rfl rfl rfl ?_
          refine L_yld (Y_add rfl rfl (by omega) (by omega)) rfl rfl rfl ?_
          refine L_yld (Y_move rfl) rfl rfl rfl ?_
          refine L_yld (Y_move rfl) rfl rfl rfl ?_
          refine L_yld (Y_idxr Tryd.underlying22 (show _ = some 6 by kernel_rfl) rfl rfl rfl hoM.rows (by first | omega | (simp; omega)) (by first | omega | (simp; omega))) rfl rfl rfl ?_
          refine L_yld (Y_fldr (k := ((i : Int)).toNat) (off := 5) (by kernel_rfl) rfl hoM.rows (by first | omega | (simp; omega))) rfl rfl rfl ?_
          refine L_yld (Y_ldr1 (off := 5) (k := ((i : Int)).toNat) (u := .int .i64 ((at_nod (rcl y l i) ((i : Int)).toNat).cls)) Tryd.underlying3 rfl rfl rfl hoM.rows (by first | omega | (simp; omega)) rfl) rfl rfl rfl ?_
          refine L_yld (Y_sub rfl rfl (by omega) (by omega)) rfl rfl rfl ?_
          refine L_yld (Y_idxr Tryd.underlying22 (show _ = some 6 by kernel_rfl) rfl rfl rfl hoM.rows (by first | omega | (simp; omega)) (by first | omega | (simp; omega))) rfl rfl rfl ?_
          refine L_yld (Y_fldr (k := ((i : Int)).toNat) (off := 5) (by kernel_rfl) rfl hoM.rows (by first | omega | (simp; omega))) rfl rfl rfl ?_
          refine L_dos (D_rseto (S := nodS) (us := [.int .i64 (((1000 * y) + 2000) - ((at_nod (rcl y l i) ((i : Int)).toNat).cls))]) (a := (⟨(at_nod (rcl y l i) ((i : Int)).toNat).kind, (at_nod (rcl y l i) ((i : Int)).toNat).path, (at_nod (rcl y l i) ((i : Int)).toNat).mode, (at_nod (rcl y l i) ((i : Int)).toNat).target, (at_nod (rcl y l i) ((i : Int)).toNat).dv, (at_nod (rcl y l i) ((i : Int)).toNat).data, ((1000 * y) + 2000) - ((at_nod (rcl y l i) ((i : Int)).toNat).cls)⟩ : Nod)) (k := ((i : Int)).toNat) (off := 5) (show _ = some 1 by kernel_rfl) rfl rfl rfl rfl (by simp [Value.oneCell']) hoM (by first | omega | (simp; omega)) (show 6 ≤ 6 by decide) rfl (okw hxM (Nat.le_refl _) hkM (hkM (at_nod (rcl y l i) ((i : Int)).toNat) (nod_getD (l := (rcl y l i)) (k := ((i : Int)).toNat) (by first | omega | (simp; omega)))))) rfl rfl ?_
          rintro h13 ha24
          refine L_nil ?_
          refine X_block ?_
          refine X_then ?_
          refine W_sub _ (.cons (i := 58) rfl (.cons (i := 10) rfl (.cons (i := 7) rfl (.cons (i := 6) rfl (.cons (i := 0) rfl (.cons (i := 1) rfl (.cons (i := 2) rfl (.cons (i := 12) rfl (.cons (i := 59) rfl (.nil _)))))))))) ?_
          refine W_region ?_
          refine L_yld (Y_add rfl rfl (by omega) (by omega)) rfl rfl rfl ?_
          refine L_yld (Y_move rfl) rfl rfl rfl ?_
          refine L_nil ?_
          refine X_loop (i + 1) (.cons (i := 58) rfl (.cons (i := 10) rfl (.cons (i := 7) rfl (.cons (i := 6) rfl (.cons (i := 0) rfl (.cons (i := 1) rfl (.cons (i := 2) rfl (.cons (i := 12) rfl (.cons (i := 59) rfl (.nil _)))))))))) ?_ ?_
          · exact ⟨by omega, rcl_ok hkM (by simp; omega), hxM.then' ha24.only ha24.ge (Nat.le_refl _), by rw [rcl_y (k := i) a]; exact ha24.own⟩
          · (try dsimp only)
            omega
        · refine W_skip ?_
          refine X_block ?_
          refine X_then ?_
          refine W_sub _ (.cons (i := 58) rfl (.cons (i := 10) rfl (.cons (i := 7) rfl (.cons (i := 6) rfl (.cons (i := 0) rfl (.cons (i := 1) rfl (.cons (i := 2) rfl (.cons (i := 12) rfl (.cons (i := 59) rfl (.nil _)))))))))) ?_
          refine W_region ?_
          refine L_yld (Y_add rfl rfl (by omega) (by omega)) rfl rfl rfl ?_
          refine L_yld (Y_move rfl) rfl rfl rfl ?_
          refine L_nil ?_
          refine X_loop (i + 1) (.cons (i := 58) rfl (.cons (i := 10) rfl (.cons (i := 7) rfl (.cons (i := 6) rfl (.cons (i := 0) rfl (.cons (i := 1) rfl (.cons (i := 2) rfl (.cons (i := 12) rfl (.cons (i := 59) rfl (.nil _)))))))))) ?_ ?_
          · exact ⟨by omega, rcl_ok hkM (by simp; omega), hxM, by rw [rcl_n (k := i) a]; exact hoM⟩
          · (try dsimp only)
            omega
      · refine W_exit ?_
        refine X_then_exit ?_
        refine X_then_exit ?_
        refine X_block_hit ?_
        refine X_then ?_
        refine W_sub _ (.cons (i := 10) rfl (.cons (i := 7) rfl (.cons (i := 6) rfl (.cons (i := 0) rfl (.cons (i := 1) rfl (.cons (i := 12) rfl (.nil _))))))) ?_
        obtain rfl : i = l.length := by omega
        refine W_seq ?_
        refine W_seq ?_
        refine W_region ?_
        refine L_yld (Y_move rfl) rfl rfl rfl ?_
        refine L_yld (Y_len Tryd.underlying28 rfl (hsw.ext ((((((hx2.trans hx8).trans hx13).trans hx14).trans hx15).trans hx16).trans hxM))) rfl rfl rfl ?_
        refine L_yld (Y_move rfl) rfl rfl rfl ?_
        refine L_nil ?_
        refine X_then ?_
        refine W_sub _ (.cons (i := 93) rfl (.cons (i := 92) rfl (.cons (i := 91) rfl (.cons (i := 10) rfl (.cons (i := 7) rfl (.cons (i := 6) rfl (.cons (i := 0) rfl (.cons (i := 12) rfl (.nil _))))))))) ?_
        refine W_block ?_
        refine W_loop (S := Nat × List Nod) (fun (q, M2) => [(92, .int .i64 ((sw.length : Int))), (91, sv), (10, .int .i64 (tpos L05)), (7, s04), (6, .bool false), (0, w), (12, v21), (93, .int .i64 ((q : Int)))]) (fun (q, M2) h' => q ≤ sw.length ∧ M2.Perm (rcl y l l.length) ∧ M2.length = l.length ∧ (∀ x ∈ M2, nodS.ok h8 x) ∧ Ext h8 h' ∧ RowsO nodS h' h8.size v21 M2) (fun (q, M2) => sw.length - q) (0, rcl y l l.length) (.cons (i := 92) rfl (.cons (i := 91) rfl (.cons (i := 10) rfl (.cons (i := 7) rfl (.cons (i := 6) rfl (.cons (i := 0) rfl (.cons (i := 12) rfl (.cons (i := 93) rfl (.nil _))))))))) ?_ ?_
        · exact ⟨Nat.zero_le _, List.Perm.refl _, rcl_len _ _ _, hkM, hxM, hoM⟩
        rintro ⟨q, M2⟩ h14 ⟨hqS, hpS, hlS, hkS, hxS, hoS⟩
        show W _ _ _ _ _ [(92, .int .i64 ((sw.length : Int))), (91, sv), (10, .int .i64 (tpos L05)), (7, s04), (6, .bool false), (0, w), (12, v21), (93, .int .i64 ((q : Int)))] _
        refine W_seq ?_
        refine W_region ?_
        refine L_yld (Y_lss rfl rfl) rfl rfl rfl ?_
        refine L_nil ?_
        refine X_then ?_
        refine W_seq ?_
        refine W_splitd rfl (fun c2 => ?_) (fun c2 => ?_)
        · refine W_skip ?_
          refine X_then ?_
          refine W_sub _ (.cons (i := 92) rfl (.cons (i := 91) rfl (.cons (i := 10) rfl (.cons (i := 7) rfl (.cons (i := 6) rfl (.cons (i := 0) rfl (.cons (i := 12) rfl (.cons (i := 93) rfl (.nil _))))))))) ?_
          refine W_seq ?_
          refine W_block ?_
          refine W_seq ?_
          refine W_region ?_
          refine L_yld (Y_move rfl) rfl rfl rfl ?_
          refine L_yld (Y_idx Tryd.underlying28 (show _ = some 1 by kernel_rfl) rfl rfl (hsw.ext ((((((hx2.trans hx8).trans hx13).trans hx14).trans hx15).trans hx16).trans hxS)) (by omega) (by omega)) rfl rfl rfl ?_
          refine L_yld (Y_ldbyte Tryd.underlying5 rfl rfl (hsw.ext ((((((hx2.trans hx8).trans hx13).trans hx14).trans hx15).trans hx16).trans hxS)) (by omega) (by omega)) rfl rfl rfl ?_
          refine L_yld (Y_assign rfl) rfl rfl rfl ?_
          refine L_yld (Y_assign rfl) rfl rfl rfl ?_
          refine L_nil ?_
          refine X_then ?_
          refine W_sub _ (.cons (i := 15) rfl (.cons (i := 14) rfl (.cons (i := 92) rfl (.cons (i := 91) rfl (.cons (i := 10) rfl (.cons (i := 7) rfl (.cons (i := 6) rfl (.cons (i := 0) rfl (.cons (i := 12) rfl (.cons (i := 93) rfl (.nil _))))))))))) ?_
          refine W_seq ?_
          refine W_region ?_
          refine L_yld (Y_move rfl) rfl rfl rfl ?_
          refine L_yld (Y_lenr Tryd.underlying22 rfl hoS.rows) rfl rfl rfl ?_
          refine L_yld (Y_gtr rfl rfl) rfl rfl rfl ?_
          refine L_nil ?_
          refine X_then ?_
          refine W_sub _ (.cons (i := 100) rfl (.cons (i := 15) rfl (.cons (i := 14) rfl (.cons (i := 92) rfl (.cons (i := 91) rfl (.cons (i := 10) rfl (.cons (i := 7) rfl (.cons (i := 6) rfl (.cons (i := 0) rfl (.cons (i := 12) rfl (.cons (i := 93) rfl (.nil _)))))))))))) ?_
          refine W_splitd rfl (fun p => ?_) (fun p => ?_)
          · have hbb := byt_lt sw ((q : Int)).toNat
            refine W_seq ?_
            refine W_quiet (fun h' => h' = h14) (by kernel_rfl) (by kernel_rfl) rfl ?_
            refine LQ_yld (fun h_ hI_ => by subst hI_; exact Y_move rfl) rfl rfl rfl ?_
            refine LQ_yld (fun h_ hI_ => by subst hI_; exact Y_move rfl) rfl rfl rfl ?_
            refine LQ_yld (fun h_ hI_ => by subst hI_; exact Y_lenr Tryd.underlying22 rfl hoS.rows) rfl rfl rfl ?_
            refine LQ_yld (fun h_ hI_ => by subst hI_; exact Y_rem rfl rfl (by omega) (by omega)) rfl rfl rfl ?_
            refine LQ_yld (fun h_ hI_ => by subst hI_; exact Y_move rfl) rfl rfl rfl ?_
            refine LQ_yld (fun h_ hI_ => by subst hI_; exact Y_convs Tryd.underlying5 Tryd.underlying3 rfl (wrap_i64 (by omega) (by omega))) rfl rfl rfl ?_
            refine LQ_yld (fun h_ hI_ => by subst hI_; exact Y_move rfl) rfl rfl rfl ?_
            refine LQ_yld (fun h_ hI_ => by subst hI_; exact Y_lenr Tryd.underlying22 rfl hoS.rows) rfl rfl rfl ?_
            refine LQ_yld (fun h_ hI_ => by subst hI_; exact Y_rem rfl rfl (by omega) (by omega)) rfl rfl rfl ?_
            refine LQ_yld (fun h_ hI_ => by subst hI_; exact Y_assign rfl) rfl rfl rfl ?_
            refine LQ_yld (fun h_ hI_ => by subst hI_; exact Y_assign rfl) rfl rfl rfl ?_
            refine LQ_nil ?_
            rintro h14 rfl
            refine X_then ?_
            refine W_sub _ (.cons (i := 17) rfl (.cons (i := 16) rfl (.cons (i := 92) rfl (.cons (i := 91) rfl (.cons (i := 10) rfl (.cons (i := 7) rfl (.cons (i := 6) rfl (.cons (i := 0) rfl (.cons (i := 12) rfl (.cons (i := 93) rfl (.nil _))))))))))) ?_
            obtain ⟨i1, hi1⟩ : ∃ i : Nat, (q : Int) % (M2.length : Int) = (i : Int) := ⟨((q : Int) % (M2.length : Int)).toNat, (by have := Int.emod_nonneg (q : Int) (show (M2.length : Int) ≠ 0 by omega); omega)⟩; have hi1l : i1 < M2.length := (by have := Int.emod_lt_of_pos (q : Int) (show (0 : Int) < M2.length by omega); omega); rw [hi1]
            obtain ⟨j1, hj1⟩ : ∃ i : Nat, (byt sw ((q : Int)).toNat) % (M2.length : Int) = (i : Int) := ⟨((byt sw ((q : Int)).toNat) % (M2.length : Int)).toNat, (by have := Int.emod_nonneg (byt sw ((q : Int)).toNat) (show (M2.length : Int) ≠ 0 by omega); omega)⟩; have hj1l : j1 < M2.length := (by have := Int.emod_lt_of_pos (byt sw ((q : Int)).toNat) (show (0 : Int) < M2.length by omega); omega); rw [hj1]
            refine W_held (fun _ => True) 16 rfl (by kernel_rfl) ?_
            refine LH_take (i := 0) rfl (fun h_ hI_ => Y_move rfl) rfl rfl rfl (by kernel_rfl) (by kernel_rfl) (by kernel_rfl) (fun _ _ _ => by rintro ⟨_, _, h_, _⟩; cases h_) trivial ?_
            refine LH_take (i := 1) rfl (fun h_ hI_ => Y_move rfl) rfl rfl rfl (by kernel_rfl) (by kernel_rfl) (by kernel_rfl) (fun _ _ _ => by rintro ⟨_, _, h_, _⟩; cases h_) trivial ?_
            refine LH_take (i := 2) rfl (fun h_ hI_ => Y_move rfl) rfl rfl rfl (by kernel_rfl) (by kernel_rfl) (by kernel_rfl) (fun _ _ _ => by rintro ⟨_, _, h_, _⟩; cases h_) trivial ?_
            refine LH_take (i := 3) rfl (fun h_ hI_ => Y_move rfl) rfl rfl rfl (by kernel_rfl) (by kernel_rfl) (by kernel_rfl) (fun _ _ _ => by rintro ⟨_, _, h_, _⟩; cases h_) trivial ?_
            refine LH_take (i := 4) rfl (fun h_ hI_ => Y_move rfl) rfl rfl rfl (by kernel_rfl) (by kernel_rfl) (by kernel_rfl) (fun _ _ _ => by rintro ⟨_, _, h_, _⟩; cases h_) trivial ?_
            refine LH_take (i := 5) rfl (fun h_ hI_ => Y_move rfl) rfl rfl rfl (by kernel_rfl) (by kernel_rfl) (by kernel_rfl) (fun _ _ _ => by rintro ⟨_, _, h_, _⟩; cases h_) trivial ?_
            refine LH_take (i := 8) rfl (fun h_ hI_ => Y_move rfl) rfl rfl rfl (by kernel_rfl) (by kernel_rfl) (by kernel_rfl) (fun _ _ _ => by rintro ⟨_, _, h_, _⟩; cases h_) trivial ?_
            refine LH_take (i := 9) rfl (fun h_ hI_ => Y_move rfl) rfl rfl rfl (by kernel_rfl) (by kernel_rfl) (by kernel_rfl) (fun _ _ _ => by rintro ⟨_, _, h_, _⟩; cases h_) trivial ?_
            refine LH_two (i := 6) (j := 10) (by kernel_rfl) ?_ ?_
            · refine LO_yld (i := 6) rfl (Y_idxr Tryd.underlying22 (show _ = some 6 by kernel_rfl) rfl rfl rfl hoS.rows (by first | omega | (simp; omega)) (by first | omega | (simp; omega))) rfl rfl rfl trivial ?_
              refine LH_two (i := 7) (j := 10) (by kernel_rfl) ?_ ?_
              · refine LO_yld (i := 7) rfl (Y_ldrA0 (k := ((j1 : Int)).toNat) (us := [.int .i64 ((at_nod M2 ((j1 : Int)).toNat).kind), str ((at_nod M2 ((j1 : Int)).toNat).path), .int .i64 ((at_nod M2 ((j1 : Int)).toNat).mode), str ((at_nod M2 ((j1 : Int)).toNat).target), ((at_nod M2 ((j1 : Int)).toNat).dv), .int .i64 ((at_nod M2 ((j1 : Int)).toNat).cls)]) Tryd.underlying30 rfl (show _ = some 6 by kernel_rfl) rfl rfl hoS.rows (by first | omega | (simp; omega)) rfl) rfl rfl rfl trivial ?_
                refine LH_one (i := 10) (by kernel_rfl) ?_
                refine LO_yld (i := 10) rfl (Y_idxr Tryd.underlying22 (show _ = some 6 by kernel_rfl) rfl rfl rfl hoS.rows (by first | omega | (simp; omega)) (by first | omega | (simp; omega))) rfl rfl rfl trivial ?_
                refine LH_one (i := 11) (by kernel_rfl) ?_
                refine LO_yld (i := 11) rfl (Y_ldrA0 (k := ((i1 : Int)).toNat) (us := [.int .i64 ((at_nod M2 ((i1 : Int)).toNat).kind), str ((at_nod M2 ((i1 : Int)).toNat).path), .int .i64 ((at_nod M2 ((i1 : Int)).toNat).mode), str ((at_nod M2 ((i1 : Int)).toNat).target), ((at_nod M2 ((i1 : Int)).toNat).dv), .int .i64 ((at_nod M2 ((i1 : Int)).toNat).cls)]) Tryd.underlying30 rfl (show _ = some 6 by kernel_rfl) rfl rfl hoS.rows (by first | omega | (simp; omega)) rfl) rfl rfl rfl trivial ?_
                refine LH_one (i := 12) (by kernel_rfl) ?_
                refine LO_yld (i := 12) rfl (Y_idxr Tryd.underlying22 (show _ = some 6 by kernel_rfl) rfl rfl rfl hoS.rows (by first | omega | (simp; omega)) (by first | omega | (simp; omega))) rfl rfl rfl trivial ?_
                refine LH_one (i := 13) (by kernel_rfl) ?_
                refine LO_dos (i := 13) rfl (D_rseto (S := nodS) (us := [.int .i64 ((at_nod M2 ((j1 : Int)).toNat).kind), str ((at_nod M2 ((j1 : Int)).toNat).path), .int .i64 ((at_nod M2 ((j1 : Int)).toNat).mode), str ((at_nod M2 ((j1 : Int)).toNat).target), ((at_nod M2 ((j1 : Int)).toNat).dv), .int .i64 ((at_nod M2 ((j1 : Int)).toNat).cls)]) (a := (at_nod M2 ((j1 : Int)).toNat)) (k := ((i1 : Int)).toNat) (off := 0) (show _ = some 6 by kernel_rfl) rfl rfl rfl rfl (by intro u_ hu_; simp only [List.mem_cons, List.not_mem_nil, or_false] at hu_; rcases hu_ with rfl | rfl | rfl | rfl | rfl | rfl <;> first | rfl | exact Bytes.cell1 (show Bytes _ ((at_nod M2 ((j1 : Int)).toNat)).dv ((at_nod M2 ((j1 : Int)).toNat)).data from (hkS _ (can_mem (by omega))))) hoS (by first | omega | (simp; omega)) (show 6 ≤ 6 by decide) rfl (okw hxS (Nat.le_refl _) hkS (hkS _ (can_mem (by omega))))) rfl rfl ?_
                rintro h15 ha25
                refine ⟨trivial, ?_⟩
                refine LH_one (i := 14) (by kernel_rfl) ?_
                refine LO_yld (i := 14) rfl (Y_idxr Tryd.underlying22 (show _ = some 6 by kernel_rfl) rfl rfl rfl ha25.own.rows (by first | omega | (simp; omega)) (by first | omega | (simp; omega))) rfl rfl rfl trivial ?_
                refine LH_one (i := 15) (by kernel_rfl) ?_
                refine LO_dos (i := 15) rfl (D_rseto (S := nodS) (us := [.int .i64 ((at_nod M2 ((i1 : Int)).toNat).kind), str ((at_nod M2 ((i1 : Int)).toNat).path), .int .i64 ((at_nod M2 ((i1 : Int)).toNat).mode), str ((at_nod M2 ((i1 : Int)).toNat).target), ((at_nod M2 ((i1 : Int)).toNat).dv), .int .i64 ((at_nod M2 ((i1 : Int)).toNat).cls)]) (a := (at_nod M2 ((i1 : Int)).toNat)) (k := ((j1 : Int)).toNat) (off := 0) (show _ = some 6 by kernel_rfl) rfl rfl rfl rfl (by intro u_ hu_; simp only [List.mem_cons, List.not_mem_nil, or_false] at hu_; rcases hu_ with rfl | rfl | rfl | rfl | rfl | rfl <;> first | rfl | exact Bytes.cell1 (show Bytes _ ((at_nod M2 ((i1 : Int)).toNat)).dv ((at_nod M2 ((i1 : Int)).toNat)).data from (hkS _ (can_mem (by omega))))) ha25.own (by first | omega | (simp; omega)) (show 6 ≤ 6 by decide) rfl (okw (hxS.then' ha25.only ha25.ge (Nat.le_refl _)) (Nat.le_refl _) (forall_set hkS (hkS _ (can_mem (by omega)))) (hkS _ (can_mem (by omega))))) rfl rfl ?_
                rintro h16 ha26
                refine ⟨trivial, ?_⟩
                refine LH_done (by kernel_rfl) ?_
                refine X_block ?_
                refine X_then ?_
                refine W_sub _ (.cons (i := 92) rfl (.cons (i := 91) rfl (.cons (i := 10) rfl (.cons (i := 7) rfl (.cons (i := 6) rfl (.cons (i := 0) rfl (.cons (i := 12) rfl (.cons (i := 93) rfl (.nil _))))))))) ?_
                refine W_region ?_
                refine L_yld (Y_add rfl rfl (by omega) (by omega)) rfl rfl rfl ?_
                refine L_yld (Y_move rfl) rfl rfl rfl ?_
                refine L_nil ?_
                refine X_loop ((q + 1, ((M2.set (((i1 : Int)).toNat) (at_nod M2 ((j1 : Int)).toNat)).set (((j1 : Int)).toNat) (at_nod M2 ((i1 : Int)).toNat)))) (.cons (i := 92) rfl (.cons (i := 91) rfl (.cons (i := 10) rfl (.cons (i := 7) rfl (.cons (i := 6) rfl (.cons (i := 0) rfl (.cons (i := 12) rfl (.cons (i := 93) rfl (.nil _))))))))) ?_ ?_
                · exact ⟨by omega, (swp_perm hi1l hj1l).trans hpS, by simp [hlS], forall_set (forall_set hkS (hkS _ (can_mem hj1l))) (hkS _ (can_mem hi1l)), ((hxS.then' ha25.only ha25.ge (Nat.le_refl _)).then' ha26.only ha26.ge (Nat.le_refl _)), ha26.own⟩
                · (try dsimp only)
                  omega
              · refine LO_yld (i := 10) rfl (Y_idxr Tryd.underlying22 (show _ = some 6 by kernel_rfl) rfl rfl rfl hoS.rows (by first | omega | (simp; omega)) (by first | omega | (simp; omega))) rfl rfl rfl trivial ?_
                refine LH_two (i := 7) (j := 11) (by kernel_rfl) ?_ ?_
                · refine LO_yld (i := 7) rfl (Y_ldrA0 (k := ((j1 : Int)).toNat) (us := [.int .i64 ((at_nod M2 ((j1 : Int)).toNat).kind), str ((at_nod M2 ((j1 : Int)).toNat).path), .int .i64 ((at_nod M2 ((j1 : Int)).toNat).mode), str ((at_nod M2 ((j1 : Int)).toNat).target), ((at_nod M2 ((j1 : Int)).toNat).dv), .int .i64 ((at_nod M2 ((j1 : Int)).toNat).cls)]) Tryd.underlying30 rfl (show _ = some 6 by kernel_rfl) rfl rfl hoS.rows (by first | omega | (simp; omega)) rfl) rfl rfl rfl trivial ?_
                  refine LH_one (i := 11) (by kernel_rfl) ?_
                  refine LO_yld (i := 11) rfl (Y_ldrA0 (k := ((i1 : Int)).toNat) (us := [.int .i64 ((at_nod M2 ((i1 : Int)).toNat).kind), str ((at_nod M2 ((i1 : Int)).toNat).path), .int .i64 ((at_nod M2 ((i1 : Int)).toNat).mode), str ((at_nod M2 ((i1 : Int)).toNat).target), ((at_nod M2 ((i1 : Int)).toNat).dv), .int .i64 ((at_nod M2 ((i1 : Int)).toNat).cls)]) Tryd.underlying30 rfl (show _ = some 6 by kernel_rfl) rfl rfl hoS.rows (by first | omega | (simp; omega)) rfl) rfl rfl rfl trivial ?_
                  refine LH_one (i := 12) (by kernel_rfl) ?_
                  refine LO_yld (i := 12) rfl (Y_idxr Tryd.underlying22 (show _ = some 6 by kernel_rfl) rfl rfl rfl hoS.rows (by first | omega | (simp; omega)) (by first | omega | (simp; omega))) rfl rfl rfl trivial ?_
                  refine LH_one (i := 13) (by kernel_rfl) ?_
                  refine LO_dos (i := 13) rfl (D_rseto (S := nodS) (us := [.int .i64 ((at_nod M2 ((j1 : Int)).toNat).kind), str ((at_nod M2 ((j1 : Int)).toNat).path), .int .i64 ((at_nod M2 ((j1 : Int)).toNat).mode), str ((at_nod M2 ((j1 : Int)).toNat).target), ((at_nod M2 ((j1 : Int)).toNat).dv), .int .i64 ((at_nod M2 ((j1 : Int)).toNat).cls)]) (a := (at_nod M2 ((j1 : Int)).toNat)) (k := ((i1 : Int)).toNat) (off := 0) (show _ = some 6 by kernel_rfl) rfl rfl rfl rfl (by intro u_ hu_; simp only [List.mem_cons, List.not_mem_nil, or_false] at hu_; rcases hu_ with rfl | rfl | rfl | rfl | rfl | rfl <;> first | rfl | exact Bytes.cell1 (show Bytes _ ((at_nod M2 ((j1 : Int)).toNat)).dv ((at_nod M2 ((j1 : Int)).toNat)).data from (hkS _ (can_mem (by omega))))) hoS (by first | omega | (simp; omega)) (show 6 ≤ 6 by decide) rfl (okw hxS (Nat.le_refl _) hkS (hkS _ (can_mem (by omega))))) rfl rfl ?_
                  rintro h17 ha27
                  refine ⟨trivial, ?_⟩
                  refine LH_one (i := 14) (by kernel_rfl) ?_
                  refine LO_yld (i := 14) rfl (Y_idxr Tryd.underlying22 (show _ = some 6 by kernel_rfl) rfl rfl rfl ha27.own.rows (by first | omega | (simp; omega)) (by first | omega | (simp; omega))) rfl rfl rfl trivial ?_
                  refine LH_one (i := 15) (by kernel_rfl) ?_
                  refine LO_dos (i := 15) rfl (D_rseto (S := nodS) (us := [.int .i64 ((at_nod M2 ((i1 : Int)).toNat).kind), str ((at_nod M2 ((i1 : Int)).toNat).path), .int .i64 ((at_nod M2 ((i1 : Int)).toNat).mode), str ((at_nod M2 ((i1 : Int)).toNat).target), ((at_nod M2 ((i1 : Int)).toNat).dv), .int .i64 ((at_nod M2 ((i1 : Int)).toNat).cls)]) (a := (at_nod M2 ((i1 : Int)).toNat)) (k := ((j1 : Int)).toNat) (off := 0) (show _ = some 6 by kernel_rfl) rfl rfl rfl rfl (by intro u_ hu_; simp only [List.mem_cons, List.not_mem_nil, or_false] at hu_; rcases hu_ with rfl | rfl | rfl | rfl | rfl | rfl <;> first | rfl | exact Bytes.cell1 (show Bytes _ ((at_nod M2 ((i1 : Int)).toNat)).dv ((at_nod M2 ((i1 : Int)).toNat)).data from (hkS _ (can_mem (by omega))))) ha27.own (by first | omega | (simp; omega)) (show 6 ≤ 6 by decide) rfl (okw (hxS.then' ha27.only ha27.ge (Nat.le_refl _)) (Nat.le_refl _) (forall_set hkS (hkS _ (can_mem (by omega)))) (hkS _ (can_mem (by omega))))) rfl rfl ?_
                  rintro h18 ha28
                  refine ⟨trivial, ?_⟩
                  refine LH_done (by kernel_rfl) ?_
                  refine X_block ?_
                  refine X_then ?_
                  refine W_sub _ (.cons (i := 92) rfl (.cons (i := 91) rfl (.cons (i := 10) rfl (.cons (i := 7) rfl (.cons (i := 6) rfl (.cons (i := 0) rfl (.cons (i := 12) rfl (.cons (i := 93) rfl (.nil _))))))))) ?_
                  refine W_region ?_
                  refine L_yld (Y_add rfl rfl (by omega) (by omega)) rfl rfl rfl ?_
                  refine L_yld (Y_move rfl) rfl rfl rfl ?_
                  refine L_nil ?_
                  refine X_loop ((q + 1, ((M2.set (((i1 : Int)).toNat) (at_nod M2 ((j1 : Int)).toNat)).set (((j1 : Int)).toNat) (at_nod M2 ((i1 : Int)).toNat)))) (.cons (i := 92) rfl (.cons (i := 91) rfl (.cons (i := 10) rfl (.cons (i := 7) rfl (.cons (i := 6) rfl (.cons (i := 0) rfl (.cons (i := 12) rfl (.cons (i := 93) rfl (.nil _))))))))) ?_ ?_
                  · exact ⟨by omega, (swp_perm hi1l hj1l).trans hpS, by simp [hlS], forall_set (forall_set hkS (hkS _ (can_mem hj1l))) (hkS _ (can_mem hi1l)), ((hxS.then' ha27.only ha27.ge (Nat.le_refl _)).then' ha28.only ha28.ge (Nat.le_refl _)), ha28.own⟩
                  · (try dsimp only)
                    omega
                · refine LO_yld (i := 11) rfl (Y_ldrA0 (k := ((i1 : Int)).toNat) (us := [.int .i64 ((at_nod M2 ((i1 : Int)).toNat).kind), str ((at_nod M2 ((i1 : Int)).toNat).path), .int .i64 ((at_nod M2 ((i1 : Int)).toNat).mode), str ((at_nod M2 ((i1 : Int)).toNat).target), ((at_nod M2 ((i1 : Int)).toNat).dv), .int .i64 ((at_nod M2 ((i1 : Int)).toNat).cls)]) Tryd.underlying30 rfl (show _ = some 6 by kernel_rfl) rfl rfl hoS.rows (by first | omega | (simp; omega)) rfl) rfl rfl rfl trivial ?_
                  refine LH_one (i := 7) (by kernel_rfl) ?_
                  refine LO_yld (i := 7) rfl (Y_ldrA0 (k := ((j1 : Int)).toNat) (us := [.int .i64 ((at_nod M2 ((j1 : Int)).toNat).kind), str ((at_nod M2 ((j1 : Int)).toNat).path), .int .i64 ((at_nod M2 ((j1 : Int)).toNat).mode), str ((at_nod M2 ((j1 : Int)).toNat).target), ((at_nod M2 ((j1 : Int)).toNat).dv), .int .i64 ((at_nod M2 ((j1 : Int)).toNat).cls)]) Tryd.underlying30 rfl (show _ = some 6 by kernel_rfl) rfl rfl hoS.rows (by first | omega | (simp; omega)) rfl) rfl rfl rfl trivial ?_
                  refine LH_one (i := 12) (by kernel_rfl) ?_
                  refine LO_yld (i := 12) rfl (Y_idxr Tryd.underlying22 (show _ = some 6 by kernel_rfl) rfl rfl rfl hoS.rows (by first | omega | (simp; omega)) (by first | omega | (simp; omega))) rfl rfl rfl trivial ?_
                  refine LH_one (i := 13) (by kernel_rfl) ?_
                  refine LO_dos (i := 13) rfl (D_rseto (S := nodS) (us := [.int .i64 ((at_nod M2 ((j1 : Int)).toNat).kind), str ((at_nod M2 ((j1 : Int)).toNat).path), .int .i64 ((at_nod M2 ((j1 : Int)).toNat).mode), str ((at_nod M2 ((j1 : Int)).toNat).target), ((at_nod M2 ((j1 : Int)).toNat).dv), .int .i64 ((at_nod M2 ((j1 : Int)).toNat).cls)]) (a := (at_nod M2 ((j1 : Int)).toNat)) (k := ((i1 : Int)).toNat) (off := 0) (show _ = some 6 by kernel_rfl) rfl rfl rfl rfl (by intro u_ hu_; simp only [List.mem_cons, List.not_mem_nil, or_false] at hu_; rcases hu_ with rfl | rfl | rfl | rfl | rfl | rfl <;> first | rfl | exact Bytes.cell1 (show Bytes _ ((at_nod M2 ((j1 : Int)).toNat)).dv ((at_nod M2 ((j1 : Int)).toNat)).data from (hkS _ (can_mem (by omega))))) hoS (by first | omega | (simp; omega)) (show 6 ≤ 6 by decide) rfl (okw hxS (Nat.le_refl _) hkS (hkS _ (can_mem (by omega))))) rfl rfl ?_
                  rintro h19 ha29
                  refine ⟨trivial, ?_⟩
                  refine LH_one (i := 14) (by kernel_rfl) ?_
                  refine LO_yld (i := 14) rfl (Y_idxr Tryd.underlying22 (show _ = some 6 by kernel_rfl) rfl rfl rfl ha29.own.rows (by first | omega | (simp; omega)) (by first | omega | (simp; omega))) rfl rfl rfl trivial ?_
                  refine LH_one (i := 15) (by kernel_rfl) ?_
                  refine LO_dos (i := 15) rfl (D_rseto (S := nodS) (us := [.int .i64 ((at_nod M2 ((i1 : Int)).toNat).kind), str ((at_nod M2 ((i1 : Int)).toNat).path), .int .i64 ((at_nod M2 ((i1 : Int)).toNat).mode), str ((at_nod M2 ((i1 : Int)).toNat).target), ((at_nod M2 ((i1 : Int)).toNat).dv), .int .i64 ((at_nod M2 ((i1 : Int)).toNat).cls)]) (a := (at_nod M2 ((i1 : Int)).toNat)) (k := ((j1 : Int)).toNat) (off := 0) (show _ = some 6 by kernel_rfl) rfl rfl rfl rfl (by intro u_ hu_; simp only [List.mem_cons, List.not_mem_nil, or_false] at hu_; rcases hu_ with rfl | rfl | rfl | rfl | rfl | rfl <;> first | rfl | exact Bytes.cell1 (show Bytes _ ((at_nod M2 ((i1 : Int)).toNat)).dv ((at_nod M2 ((i1 : Int)).toNat)).data from (hkS _ (can_mem (by omega))))) ha29.own (by first | omega | (simp; omega)) (show 6 ≤ 6 by decide) rfl (okw (hxS.then' ha29.only ha29.ge (Nat.le_refl _)) (Nat.le_refl _) (forall_set hkS (hkS _ (can_mem (by omega)))) (hkS _ (can_mem (by omega))))) rfl rfl ?_
                  rintro h20 ha30
                  refine ⟨trivial, ?_⟩
                  refine LH_done (by kernel_rfl) ?_
                  refine X_block ?_
                  refine X_then ?_
                  refine W_sub _ (.cons (i := 92) rfl (.cons (i := 91) rfl (.cons (i := 10) rfl (.cons (i := 7) rfl (.cons (i := 6) rfl (.cons (i := 0) rfl (.cons (i := 12) rfl (.cons (i := 93) rfl (.nil _))))))))) ?_
                  refine W_region ?_
                  refine L_yld (Y_add rfl rfl (by omega) (by omega)) rfl rfl rfl ?_
                  refine L_yld (Y_move rfl) rfl rfl rfl ?_
                  refine L_nil ?_
                  refine X_loop ((q + 1, ((M2.set (((i1 : Int)).toNat) (at_nod M2 ((j1 : Int)).toNat)).set (((j1 : Int)).toNat) (at_nod M2 ((i1 : Int)).toNat)))) (.cons (i := 92) rfl (.cons (i := 91) rfl (.cons (i := 10) rfl (.cons (i := 7) rfl (.cons (i := 6) rfl (.cons (i := 0) rfl (.cons (i := 12) rfl (.cons (i := 93) rfl (.nil _))))))))) ?_ ?_
                  · exact ⟨by omega, (swp_perm hi1l hj1l).trans hpS, by simp [hlS], forall_set (forall_set hkS (hkS _ (can_mem hj1l))) (hkS _ (can_mem hi1l)), ((hxS.then' ha29.only ha29.ge (Nat.le_refl _)).then' ha30.only ha30.ge (Nat.le_refl _)), ha30.own⟩
                  · (try dsimp only)
                    omega
            · refine LO_yld (i := 10) rfl (Y_idxr Tryd.underlying22 (show _ = some 6 by kernel_rfl) rfl rfl rfl hoS.rows (by first | omega | (simp; omega)) (by first | omega | (simp; omega))) rfl rfl rfl trivial ?_
              refine LH_two (i := 6) (j := 11) (by kernel_rfl) ?_ ?_
              · refine LO_yld (i := 6) rfl (Y_idxr Tryd.underlying22 (show _ = some 6 by kernel_rfl) rfl rfl rfl hoS.rows (by first | omega | (simp; omega)) (by first | omega | (simp; omega))) rfl rfl rfl trivial ?_
                refine LH_two (i := 7) (j := 11) (by kernel_rfl) ?_ ?_
                · refine LO_yld (i := 7) rfl (Y_ldrA0 (k := ((j1 : Int)).toNat) (us := [.int .i64 ((at_nod M2 ((j1 : Int)).toNat).kind), str ((at_nod M2 ((j1 : Int)).toNat).path), .int .i64 ((at_nod M2 ((j1 : Int)).toNat).mode), str ((at_nod M2 ((j1 : Int)).toNat).target), ((at_nod M2 ((j1 : Int)).toNat).dv), .int .i64 ((at_nod M2 ((j1 : Int)).toNat).cls)]) Tryd.underlying30 rfl (show _ = some 6 by kernel_rfl) rfl rfl hoS.rows (by first | omega | (simp; omega)) rfl) rfl rfl rfl trivial ?_
                  refine LH_one (i := 11) (by kernel_rfl) ?_
                  refine LO_yld (i := 11) rfl (Y_ldrA0 (k := ((i1 : Int)).toNat) (us := [.int .i64 ((at_nod M2 ((i1 : Int)).toNat).kind), str ((at_nod M2 ((i1 : Int)).toNat).path), .int .i64 ((at_nod M2 ((i1 : Int)).toNat).mode), str ((at_nod M2 ((i1 : Int)).toNat).target), ((at_nod M2 ((i1 : Int)).toNat).dv), .int .i64 ((at_nod M2 ((i1 : Int)).toNat).cls)]) Tryd.underlying30 rfl (show _ = some 6 by kernel_rfl) rfl rfl hoS.rows (by first | omega | (simp; omega)) rfl) rfl rfl rfl trivial ?_
                  refine LH_one (i := 12) (by kernel_rfl) ?_
                  refine LO_yld (i := 12) rfl (Y_idxr Tryd.underlying22 (show _ = some 6 by kernel_rfl) rfl rfl rfl hoS.rows (by first | omega | (simp; omega)) (by first | omega | (simp; omega))) rfl rfl rfl trivial ?_
                  refine LH_one (i := 13) (by kernel_rfl) ?_
                  refine LO_dos (i := 13) rfl (D_rseto (S := nodS) (us := [.int .i64 ((at_nod M2 ((j1 : Int)).toNat).kind), str ((at_nod M2 ((j1 : Int)).toNat).path), .int .i64 ((at_nod M2 ((j1 : Int)).toNat).mode), str ((at_nod M2 ((j1 : Int)).toNat).target), ((at_nod M2 ((j1 : Int)).toNat).dv), .int .i64 ((at_nod M2 ((j1 : Int)).toNat).cls)]) (a := (at_nod M2 ((j1 : Int)).toNat)) (k := ((i1 : Int)).toNat) (off := 0) (show _ = some 6 by kernel_rfl) rfl rfl rfl rfl (by intro u_ hu_; simp only [List.mem_cons, List.not_mem_nil, or_false] at hu_; rcases hu_ with rfl | rfl | rfl | rfl | rfl | rfl <;> first | rfl | exact Bytes.cell1 (show Bytes _ ((at_nod M2 ((j1 : Int)).toNat)).dv ((at_nod M2 ((j1 : Int)).toNat)).data from (hkS _ (can_mem (by omega))))) hoS (by first | omega | (simp; omega)) (show 6 ≤ 6 by decide) rfl (okw hxS (Nat.le_refl _) hkS (hkS _ (can_mem (by omega))))) rfl rfl ?_
                  rintro h21 ha31
                  refine ⟨trivial, ?_⟩
                  refine LH_one (i := 14) (by kernel_rfl) ?_
                  refine LO_yld (i := 14) rfl (Y_idxr Tryd.underlying22 (show _ = some 6 by kernel_rfl) rfl rfl rfl ha31.own.rows (by first | omega | (simp; omega)) (by first | omega | (simp; omega))) rfl rfl rfl trivial ?_
                  refine LH_one (i := 15) (by kernel_rfl) ?_
                  refine LO_dos (i := 15) rfl (D_rseto (S := nodS) (us := [.int .i64 ((at_nod M2 ((i1 : Int)).toNat).kind), str ((at_nod M2 ((i1 : Int)).toNat).path), .int .i64 ((at_nod M2 ((i1 : Int)).toNat).mode), str ((at_nod M2 ((i1 : Int)).toNat).target), ((at_nod M2 ((i1 : Int)).toNat).dv), .int .i64 ((at_nod M2 ((i1 : Int)).toNat).cls)]) (a := (at_nod M2 ((i1 : Int)).toNat)) (k := ((j1 : Int)).toNat) (off := 0) (show _ = some 6 by kernel_rfl) rfl rfl rfl rfl (by intro u_ hu_; simp only [List.mem_cons, List.not_mem_nil, or_false] at hu_; rcases hu_ with rfl | rfl | rfl | rfl | rfl | rfl <;> first | rfl | exact Bytes.cell1 (show Bytes _ ((at_nod M2 ((i1 : Int)).toNat)).dv ((at_nod M2 ((i1 : Int)).toNat)).data from (hkS _ (can_mem (by omega))))) ha31.own (by first | omega | (simp; omega)) (show 6 ≤ 6 by decide) rfl (okw (hxS.then' ha31.only ha31.ge (Nat.le_refl _)) (Nat.le_refl _) (forall_set hkS (hkS _ (can_mem (by omega)))) (hkS _ (can_mem (by omega))))) rfl rfl ?_
                  rintro h22 ha32
                  refine ⟨trivial, ?_⟩
                  refine LH_done (by kernel_rfl) ?_
                  refine X_block ?_
                  refine X_then ?_
                  refine W_sub _ (.cons (i := 92) rfl (.cons (i := 91) rfl (.cons (i := 10) rfl (.cons (i := 7) rfl (.cons (i := 6) rfl (.cons (i := 0) rfl (.cons (i := 12) rfl (.cons (i := 93) rfl (.nil _))))))))) ?_
                  refine W_region ?_
                  refine L_yld (Y_add rfl rfl (by omega) (by omega)) rfl rfl rfl ?_
                  refine L_yld (Y_move rfl) rfl rfl rfl ?_
                  refine L_nil ?_
                  refine X_loop ((q + 1, ((M2.set (((i1 : Int)).toNat) (at_nod M2 ((j1 : Int)).toNat)).set (((j1 : Int)).toNat) (at_nod M2 ((i1 : Int)).toNat)))) (.cons (i := 92) rfl (.cons (i := 91) rfl (.cons (i := 10) rfl (.cons (i := 7) rfl (.cons (i := 6) rfl (.cons (i := 0) rfl (.cons (i := 12) rfl (.cons (i := 93) rfl (.nil _))))))))) ?_ ?_
                  · exact ⟨by omega, (swp_perm hi1l hj1l).trans hpS, by simp [hlS], forall_set (forall_set hkS (hkS _ (can_mem hj1l))) (hkS _ (can_mem hi1l)), ((hxS.then' ha31.only ha31.ge (Nat.le_refl _)).then' ha32.only ha32.ge (Nat.le_refl _)), ha32.own⟩
                  · (try dsimp only)
                    omega
                · refine LO_yld (i := 11) rfl (Y_ldrA0 (k := ((i1 : Int)).toNat) (us := [.int .i64 ((at_nod M2 ((i1 : Int)).toNat).kind), str ((at_nod M2 ((i1 : Int)).toNat).path), .int .i64 ((at_nod M2 ((i1 : Int)).toNat).mode), str ((at_nod M2 ((i1 : Int)).toNat).target), ((at_nod M2 ((i1 : Int)).toNat).dv), .int .i64 ((at_nod M2 ((i1 : Int)).toNat).cls)]) Tryd.underlying30 rfl (show _ = some 6 by kernel_rfl) rfl rfl hoS.rows (by first | omega | (simp; omega)) rfl) rfl rfl rfl trivial ?_
                  refine LH_one (i := 7) (by kernel_rfl) ?_
                  refine LO_yld (i := 7) rfl (Y_ldrA0 (k := ((j1 : Int)).toNat) (us := [.int .i64 ((at_nod M2 ((j1 : Int)).toNat).kind), str ((at_nod M2 ((j1 : Int)).toNat).path), .int .i64 ((at_nod M2 ((j1 : Int)).toNat).mode), str ((at_nod M2 ((j1 : Int)).toNat).target), ((at_nod M2 ((j1 : Int)).toNat).dv), .int .i64 ((at_nod M2 ((j1 : Int)).toNat).cls)]) Tryd.underlying30 rfl (show _ = some 6 by kernel_rfl) rfl rfl hoS.rows (by first | omega | (simp; omega)) rfl) rfl rfl rfl trivial ?_
                  refine LH_one (i := 12) (by kernel_rfl) ?_
                  refine LO_yld (i := 12) rfl (Y_idxr Tryd.underlying22 (show _ = some 6 by kernel_rfl) rfl rfl rfl hoS.rows (by first | omega | (simp; omega)) (by first | omega | (simp; omega))) rfl rfl rfl trivial ?_
                  refine LH_one (i := 13) (by kernel_rfl) ?_
                  refine LO_dos (i := 13) rfl (D_rseto (S := nodS) (us := [.int .i64 ((at_nod M2 ((j1 : Int)).toNat).kind), str ((at_nod M2 ((j1 : Int)).toNat).path), .int .i64 ((at_nod M2 ((j1 : Int)).toNat).mode), str ((at_nod M2 ((j1 : Int)).toNat).target), ((at_nod M2 ((j1 : Int)).toNat).dv), .int .i64 ((at_nod M2 ((j1 : Int)).toNat).cls)]) (a := (at_nod M2 ((j1 : Int)).toNat)) (k := ((i1 : Int)).toNat) (off := 0) (show _ = some 6 by kernel_rfl) rfl rfl rfl rfl (by intro u_ hu_; simp only [List.mem_cons, List.not_mem_nil, or_false] at hu_; rcases hu_ with rfl | rfl | rfl | rfl | rfl | rfl <;> first | rfl | exact Bytes.cell1 (show Bytes _ ((at_nod M2 ((j1 : Int)).toNat)).dv ((at_nod M2 ((j1 : Int)).toNat)).data from (hkS _ (can_mem (by omega))))) hoS (by first | omega | (simp; omega)) (show 6 ≤ 6 by decide) rfl (okw hxS (Nat.le_refl _) hkS (hkS _ (can_mem (by omega))))) rfl rfl ?_
                  rintro h23 ha33
                  refine ⟨trivial, ?_⟩
                  refine LH_one (i := 14) (by kernel_rfl) ?_
                  refine LO_yld (i := 14) rfl (Y_idxr Tryd.underlying22 (show _ = some 6 by kernel_rfl) rfl rfl rfl ha33.own.rows (by first | omega | (simp; omega)) (by first | omega | (simp; omega))) rfl rfl rfl trivial ?_
                  refine LH_one (i := 15) (by kernel_rfl) ?_
                  refine LO_dos (i := 15) rfl (D_rseto (S := nodS) (us := [.int .i64 ((at_nod M2 ((i1 : Int)).toNat).kind), str ((at_nod M2 ((i1 : Int)).toNat).path), .int .i64 ((at_nod M2 ((i1 : Int)).toNat).mode), str ((at_nod M2 ((i1 : Int)).toNat).target), ((at_nod M2 ((i1 : Int)).toNat).dv), .int .i64 ((at_nod M2 ((i1 : Int)).toNat).cls)]) (a := (at_nod M2 ((i1 : Int)).toNat)) (k := ((j1 : Int)).toNat) (off := 0) (show _ = some 6 by kernel_rfl) rfl rfl rfl rfl (by intro u_ hu_; simp only [List.mem_cons, List.not_mem_nil, or_false] at hu_; rcases hu_ with rfl | rfl | rfl | rfl | rfl | rfl <;> first | rfl | exact Bytes.cell1 (show Bytes _ ((at_nod M2 ((i1 : Int)).toNat)).dv ((at_nod M2 ((i1 : Int)).toNat)).data from (hkS _ (can_mem (by omega))))) ha33.own (by first | omega | (simp; omega)) (show 6 ≤ 6 by decide) rfl (okw (hxS.then' ha33.only ha33.ge (Nat.le_refl _)) (Nat.le_refl _) (forall_set hkS (hkS _ (can_mem (by omega)))) (hkS _ (can_mem (by omega))))) rfl rfl ?_
                  rintro h24 ha34
                  refine ⟨trivial, ?_⟩
                  refine LH_done (by kernel_rfl) ?_
                  refine X_block ?_
                  refine X_then ?_
                  refine W_sub _ (.cons (i := 92) rfl (.cons (i := 91) rfl (.cons (i := 10) rfl (.cons (i := 7) rfl (.cons (i := 6) rfl (.cons (i := 0) rfl (.cons (i := 12) rfl (.cons (i := 93) rfl (.nil _))))))))) ?_
                  refine W_region ?_
                  refine L_yld (Y_add rfl rfl (by omega) (by omega)) rfl rfl rfl ?_
                  refine L_yld (Y_move rfl) rfl rfl rfl ?_
                  refine L_nil ?_
                  refine X_loop ((q + 1, ((M2.set (((i1 : Int)).toNat) (at_nod M2 ((j1 : Int)).toNat)).set (((j1 : Int)).toNat) (at_nod M2 ((i1 : Int)).toNat)))) (.cons (i := 92) rfl (.cons (i := 91) rfl (.cons (i := 10) rfl (.cons (i := 7) rfl (.cons (i := 6) rfl (.cons (i := 0) rfl (.cons (i := 12) rfl (.cons (i := 93) rfl (.nil _))))))))) ?_ ?_
                  · exact ⟨by omega, (swp_perm hi1l hj1l).trans hpS, by simp [hlS], forall_set (forall_set hkS (hkS _ (can_mem hj1l))) (hkS _ (can_mem hi1l)), ((hxS.then' ha33.only ha33.ge (Nat.le_refl _)).then' ha34.only ha34.ge (Nat.le_refl _)), ha34.own⟩
                  · (try dsimp only)
                    omega
              · refine LO_yld (i := 11) rfl (Y_ldrA0 (k := ((i1 : Int)).toNat) (us := [.int .i64 ((at_nod M2 ((i1 : Int)).toNat).kind), str ((at_nod M2 ((i1 : Int)).toNat).path), .int .i64 ((at_nod M2 ((i1 : Int)).toNat).mode), str ((at_nod M2 ((i1 : Int)).toNat).target), ((at_nod M2 ((i1 : Int)).toNat).dv), .int .i64 ((at_nod M2 ((i1 : Int)).toNat).cls)]) Tryd.underlying30 rfl (show _ = some 6 by kernel_rfl) rfl rfl hoS.rows (by first | omega | (simp; omega)) rfl) rfl rfl rfl trivial ?_
                refine LH_one (i := 6) (by kernel_rfl) ?_
                refine LO_yld (i := 6) rfl (Y_idxr Tryd.underlying22 (show _ = some 6 by kernel_rfl) rfl rfl rfl hoS.rows (by first | omega | (simp; omega)) (by first | omega | (simp; omega))) rfl rfl rfl trivial ?_
                refine LH_one (i := 7) (by kernel_rfl) ?_
                refine LO_yld (i := 7) rfl (Y_ldrA0 (k := ((j1 : Int)).toNat) (us := [.int .i64 ((at_nod M2 ((j1 : Int)).toNat).kind), str ((at_nod M2 ((j1 : Int)).toNat).path), .int .i64 ((at_nod M2 ((j1 : Int)).toNat).mode), str ((at_nod M2 ((j1 : Int)).toNat).target), ((at_nod M2 ((j1 : Int)).toNat).dv), .int .i64 ((at_nod M2 ((j1 : Int)).toNat).cls)]) Tryd.underlying30 rfl (show _ = some 6 by kernel_rfl) rfl rfl hoS.rows (by first | omega | (simp; omega)) rfl) rfl rfl rfl trivial ?_
                refine LH_one (i := 12) (by kernel_rfl) ?_
                refine LO_yld (i := 12) rfl (Y_idxr Tryd.underlying22 (show _ = some 6 by kernel_rfl) rfl rfl rfl hoS.rows (by first | omega | (simp; omega)) (by first | omega | (simp; omega))) rfl rfl rfl trivial ?_
                refine LH_one (i := 13) (by kernel_rfl) ?_
                refine LO_dos (i := 13) rfl (D_rseto (S := nodS) (us := [.int .i64 ((at_nod M2 ((j1 : Int)).toNat).kind), str ((at_nod M2 ((j1 : Int)).toNat).path), .int .i64 ((at_nod M2 ((j1 : Int)).toNat).mode), str ((at_nod M2 ((j1 : Int)).toNat).target), ((at_nod M2 ((j1 : Int)).toNat).dv), .int .i64 ((at_nod M2 ((j1 : Int)).toNat).cls)]) (a := (at_nod M2 ((j1 : Int)).toNat)) (k := ((i1 : Int)).toNat) (off := 0) (show _ = some 6 by kernel_rfl) rfl rfl rfl rfl (by intro u_ hu_; simp only [List.mem_cons, List.not_mem_nil, or_false] at hu_; rcases hu_ with rfl | rfl | rfl | rfl | rfl | rfl <;> first | rfl | exact Bytes.cell1 (show Bytes _ ((at_nod M2 ((j1 : Int)).toNat)).dv ((at_nod M2 ((j1 : Int)).toNat)).data from (hkS _ (can_mem (by omega))))) hoS (by first | omega | (simp; omega)) (show 6 ≤ 6 by decide) rfl (okw hxS (Nat.le_refl _) hkS (hkS _ (can_mem (by omega))))) rfl rfl ?_
                rintro h25 ha35
                refine ⟨trivial, ?_⟩
                refine LH_one (i := 14) (by kernel_rfl) ?_
                refine LO_yld (i := 14) rfl (Y_idxr Tryd.underlying22 (show _ = some 6 by kernel_rfl) rfl rfl rfl ha35.own.rows (by first | omega | (simp; omega)) (by first | omega | (simp; omega))) rfl rfl rfl trivial ?_
                refine LH_one (i := 15) (by kernel_rfl) ?_
                refine LO_dos (i := 15) rfl (D_rseto (S := nodS) (us := [.int .i64 ((at_nod M2 ((i1 : Int)).toNat).kind), str ((at_nod M2 ((i1 : Int)).toNat).path), .int .i64 ((at_nod M2 ((i1 : Int)).toNat).mode), str ((at_nod M2 ((i1 : Int)).toNat).target), ((at_nod M2 ((i1 : Int)).toNat).dv), .int .i64 ((at_nod M2 ((i1 : Int)).toNat).cls)]) (a := (at_nod M2 ((i1 : Int)).toNat)) (k := ((j1 : Int)).toNat) (off := 0) (show _ = some 6 by kernel_rfl) rfl rfl rfl rfl (by intro u_ hu_; simp only [List.mem_cons, List.not_mem_nil, or_false] at hu_; rcases hu_ with rfl | rfl | rfl | rfl | rfl | rfl <;> first | rfl | exact Bytes.cell1 (show Bytes _ ((at_nod M2 ((i1 : Int)).toNat)).dv ((at_nod M2 ((i1 : Int)).toNat)).data from (hkS _ (can_mem (by omega))))) ha35.own (by first | omega | (simp; omega)) (show 6 ≤ 6 by decide) rfl (okw (hxS.then' ha35.only ha35.ge (Nat.le_refl _)) (Nat.le_refl _) (forall_set hkS (hkS _ (can_mem (by omega)))) (hkS _ (can_mem (by omega))))) rfl rfl ?_
                rintro h26 ha36
                refine ⟨trivial, ?_⟩
                refine LH_done (by kernel_rfl) ?_
                refine X_block ?_
                refine X_then ?_
                refine W_sub _ (.cons (i := 92) rfl (.cons (i := 91) rfl (.cons (i := 10) rfl (.cons (i := 7) rfl (.cons (i := 6) rfl (.cons (i := 0) rfl (.cons (i := 12) rfl (.cons (i := 93) rfl (.nil _))))))))) ?_
                refine W_region ?_
                refine L_yld (Y_add rfl rfl (by omega) (by omega)) rfl rfl rfl ?_
                refine L_yld (Y_move rfl) rfl rfl rfl ?_
                refine L_nil ?_
                refine X_loop ((q + 1, ((M2.set (((i1 : Int)).toNat) (at_nod M2 ((j1 : Int)).toNat)).set (((j1 : Int)).toNat) (at_nod M2 ((i1 : Int)).toNat)))) (.cons (i := 92) rfl (.cons (i := 91) rfl (.cons (i := 10) rfl (.cons (i := 7) rfl (.cons (i := 6) rfl (.cons (i := 0) rfl (.cons (i := 12) rfl (.cons (i := 93) rfl (.nil _))))))))) ?_ ?_
                · exact ⟨by omega, (swp_perm hi1l hj1l).trans hpS, by simp [hlS], forall_set (forall_set hkS (hkS _ (can_mem hj1l))) (hkS _ (can_mem hi1l)), ((hxS.then' ha35.only ha35.ge (Nat.le_refl _)).then' ha36.only ha36.ge (Nat.le_refl _)), ha36.own⟩
                · (try dsimp only)
                  omega
          · refine W_skip ?_
            refine X_block ?_
            refine X_then ?_
            refine W_sub _ (.cons (i := 92) rfl (.cons (i := 91) rfl (.cons (i := 10) rfl (.cons (i := 7) rfl (.cons (i := 6) rfl (.cons (i := 0) rfl (.cons (i := 12) rfl (.cons (i := 93) rfl (.nil _))))))))) ?_
            refine W_region ?_
            refine L_yld (Y_add rfl rfl (by omega) (by omega)) rfl rfl rfl ?_
            refine L_yld (Y_move rfl) rfl rfl rfl ?_
            refine L_nil ?_
            refine X_loop ((q + 1, M2)) (.cons (i := 92) rfl (.cons (i := 91) rfl (.cons (i := 10) rfl (.cons (i := 7) rfl (.cons (i := 6) rfl (.cons (i := 0) rfl (.cons (i := 12) rfl (.cons (i := 93) rfl (.nil _))))))))) ?_ ?_
            · exact ⟨by omega, hpS, hlS, hkS, hxS, hoS⟩
            · (try dsimp only)
              omega
        · refine W_exit ?_
          refine X_then_exit ?_
          refine X_then_exit ?_
          refine X_block_hit ?_
          refine X_then ?_
          refine W_sub _ (.cons (i := 10) rfl (.cons (i := 7) rfl (.cons (i := 6) rfl (.cons (i := 0) rfl (.cons (i := 12) rfl (.nil _)))))) ?_
          refine W_seq ?_
          refine W_seq ?_
          refine W_region ?_
          refine L_yld (Y_move rfl) rfl rfl rfl ?_
          refine L_yld (Y_lenr Tryd.underlying22 rfl (hl.ext ((((((hx2.trans hx8).trans hx13).trans hx14).trans hx15).trans hx16).trans hxS))) rfl rfl rfl ?_
          refine L_yld (Y_move rfl) rfl rfl rfl ?_
          refine L_nil ?_
          refine X_then ?_
          refine W_sub _ (.cons (i := 127) rfl (.cons (i := 126) rfl (.cons (i := 10) rfl (.cons (i := 7) rfl (.cons (i := 6) rfl (.cons (i := 0) rfl (.cons (i := 12) rfl (.nil _)))))))) ?_
          refine W_block ?_
          refine W_loop (S := Nat) (fun k => [(126, .int .i64 ((l.length : Int))), (10, .int .i64 (tpos L05)), (7, s04), (0, w), (12, v21), (127, .int .i64 ((k : Int)))]) (fun k h' => (k ≤ l.length ∧ ∀ j, j < k → (at_nod l j).cls < 1000) ∧ h' = h14) (fun k => l.length - k) 0 (.cons (i := 126) rfl (.cons (i := 10) rfl (.cons (i := 7) rfl (.cons (i := 0) rfl (.cons (i := 12) rfl (.cons (i := 127) rfl (.nil _))))))) ?_ ?_
          · exact ⟨⟨Nat.zero_le _, fun j hj => absurd hj (Nat.not_lt_zero _)⟩, rfl⟩
          rintro k h14 ⟨⟨hk3, h03⟩, rfl⟩
          show W _ _ _ _ _ [(126, .int .i64 ((l.length : Int))), (10, .int .i64 (tpos L05)), (7, s04), (0, w), (12, v21), (127, .int .i64 ((k : Int)))] _
          refine W_seq ?_
          refine W_region ?_
          refine L_yld (Y_lss rfl rfl) rfl rfl rfl ?_
          refine L_nil ?_
          refine X_then ?_
          refine W_seq ?_
          refine W_splitd rfl (fun c3 => ?_) (fun c3 => ?_)
          · refine W_skip ?_
            refine X_then ?_
            refine W_sub _ (.cons (i := 126) rfl (.cons (i := 10) rfl (.cons (i := 7) rfl (.cons (i := 0) rfl (.cons (i := 12) rfl (.cons (i := 127) rfl (.nil _))))))) ?_
            refine W_seq ?_
            refine W_block ?_
            refine W_seq ?_
            refine W_region ?_
            refine L_yld (Y_move rfl) rfl rfl rfl ?_
            refine L_yld (Y_assign rfl) rfl rfl rfl ?_
            refine L_nil ?_
            refine X_then ?_
            refine W_sub _ (.cons (i := 18) rfl (.cons (i := 126) rfl (.cons (i := 10) rfl (.cons (i := 7) rfl (.cons (i := 0) rfl (.cons (i := 12) rfl (.cons (i := 127) rfl (.nil _)))))))) ?_
            refine W_seq ?_
            refine W_region ?_
            refine L_yld (Y_move rfl) rfl rfl rfl ?_
            refine L_yld (Y_move rfl) rfl rfl rfl ?_
            refine L_yld (Y_idxr Tryd.underlying22 (show _ = some 6 by kernel_rfl) rfl rfl rfl (hl.ext ((((((hx2.trans hx8).trans hx13).trans hx14).trans hx15).trans hx16).trans hxS)) (by first | omega | (simp; omega)) (by first | omega | (simp; omega))) rfl rfl rfl ?_
            refine L_yld (Y_fldr (k := ((k : Int)).toNat) (off := 5) (by kernel_rfl) rfl (hl.ext ((((((hx2.trans hx8).trans hx13).trans hx14).trans hx15).trans hx16).trans hxS)) (by first | omega | (simp; omega))) rfl rfl rfl ?_
            refine L_yld (Y_ldr1 (off := 5) (k := ((k : Int)).toNat) (u := .int .i64 ((at_nod l ((k : Int)).toNat).cls)) Tryd.underlying3 rfl rfl rfl (hl.ext ((((((hx2.trans hx8).trans hx13).trans hx14).trans hx15).trans hx16).trans hxS)) (by first | omega | (simp; omega)) rfl) rfl rfl rfl ?_
            refine L_yld (Y_geq rfl rfl) rfl rfl rfl ?_
            refine L_nil ?_
            refine X_then ?_
            refine W_sub _ (.cons (i := 135) rfl (.cons (i := 126) rfl (.cons (i := 10) rfl (.cons (i := 7) rfl (.cons (i := 0) rfl (.cons (i := 12) rfl (.cons (i := 127) rfl (.nil _)))))))) ?_
            refine W_splitd rfl (fun b => ?_) (fun b => ?_)
            · refine W_seq ?_
              refine W_region ?_
              refine L_call (E_call (by kernel_rfl) rfl) (law13_alive _ (hK.ext ((((((hx2.trans hx8).trans hx13).trans hx14).trans hx15).trans hx16).trans hxS)) (hE.ext ((((((hx2.trans hx8).trans hx13).trans hx14).trans hx15).trans hx16).trans hxS))) rfl rfl rfl ?_
              rintro _ h27 ⟨rfl, hx37⟩
              refine L_yld (Y_assign rfl) rfl rfl rfl ?_
              refine L_nil ?_
              refine X_then ?_
              refine W_sub _ (.cons (i := 6) rfl (.cons (i := 126) rfl (.cons (i := 10) rfl (.cons (i := 7) rfl (.cons (i := 0) rfl (.cons (i := 12) rfl (.cons (i := 127) rfl (.nil _)))))))) ?_
              refine W_ret ?_
              refine X_block_ret ?_
              refine X_then_ret ?_
              refine X_then_ret ?_
              refine X_block_ret ?_
              refine X_then_ret ?_
              refine X_ret1 rfl rfl ?_
              exact ⟨rfl, (((((((hx2.trans hx8).trans hx13).trans hx14).trans hx15).trans hx16).trans hxS).trans hx37)⟩
            · refine W_skip ?_
              refine X_block ?_
              refine X_then ?_
              refine W_sub _ (.cons (i := 126) rfl (.cons (i := 10) rfl (.cons (i := 7) rfl (.cons (i := 0) rfl (.cons (i := 12) rfl (.cons (i := 127) rfl (.nil _))))))) ?_
              refine W_region ?_
              refine L_yld (Y_add rfl rfl (by omega) (by omega)) rfl rfl rfl ?_
              refine L_yld (Y_move rfl) rfl rfl rfl ?_
              refine L_nil ?_
              refine X_loop (k + 1) (.cons (i := 126) rfl (.cons (i := 10) rfl (.cons (i := 7) rfl (.cons (i := 0) rfl (.cons (i := 12) rfl (.cons (i := 127) rfl (.nil _))))))) ?_ ?_
              · exact ⟨⟨by omega, step_ne h03 (show (at_nod l k).cls < 1000 from by have q : ¬ (at_nod l k).cls ≥ 1000 := b; omega)⟩, rfl⟩
              · (try dsimp only)
                omega
          · refine W_exit ?_
            refine X_then_exit ?_
            refine X_then_exit ?_
            refine X_block_hit ?_
            refine X_then ?_
            refine W_sub _ (.cons (i := 10) rfl (.cons (i := 7) rfl (.cons (i := 0) rfl (.cons (i := 12) rfl (.nil _))))) ?_
            obtain rfl : k = l.length := by omega
            have hcan : cno M2 = cno l := canon_inv hz hy.1 h03 hpS
            refine W_seq ?_
            refine W_region ?_
            refine L_call (E_call (by kernel_rfl) rfl) (law13_alive _ (hK.ext ((((((hx2.trans hx8).trans hx13).trans hx14).trans hx15).trans hx16).trans hxS)) (hE.ext ((((((hx2.trans hx8).trans hx13).trans hx14).trans hx15).trans hx16).trans hxS))) rfl rfl rfl ?_
            rintro _ h28 ⟨rfl, hx38⟩
            refine L_yld (Y_move rfl) rfl rfl rfl ?_
            refine L_yld (Y_move rfl) rfl rfl rfl ?_
            refine L_yld (Y_move rfl) rfl rfl rfl ?_
            refine L_yld (Y_lenr Tryd.underlying22 rfl (hl.ext (((((((hx2.trans hx8).trans hx13).trans hx14).trans hx15).trans hx16).trans hxS).trans hx38))) rfl rfl rfl ?_
            refine L_yld (Y_eql rfl rfl) rfl rfl rfl ?_
            refine L_yld (Y_pick_t rfl rfl) rfl rfl rfl ?_
            refine L_yld (Y_move rfl) rfl rfl rfl ?_
            refine L_known (d := 145) true rfl (by exact decide_eq_true (by exact (valid_can hz hq07).2)) ?_
            refine L_yld (Y_move rfl) rfl rfl rfl ?_
            refine L_call (E_call (by kernel_rfl) rfl) (tree_Canon _ v21 M2 (hoS.rows.ext hx38) (by omega) (fun x hx => rcl_okl okA.2.2 x (hpS.mem_iff.1 hx))) rfl rfl rfl ?_
            rintro s039 h29 ⟨_, L040, rfl, hr041, hq042, hx43⟩
            refine L_yld (Y_move rfl) rfl rfl rfl ?_
            refine L_call (E_call (by kernel_rfl) rfl) (ref13_Same _ s039 L040 hr041 s04 L05 (hr06.ext ((((((hx13.trans hx14).trans hx15).trans hx16).trans hxS).trans hx38).trans hx43)) (by have := hq042.1; omega)) rfl rfl rfl ?_
            rintro _ h30 ⟨rfl, hx44⟩
            refine L_yld (Y_pick_t rfl rfl) rfl rfl rfl ?_
            refine L_yld (Y_move rfl) rfl rfl rfl ?_
            refine L_known (d := 151) true rfl (by exact (lsame_c (A := M2) (B := l) (by assumption) (by assumption)).trans (by rw [hcan]; exact lsame_refl _)) ?_
            refine L_yld (Y_move rfl) rfl rfl rfl ?_
            refine L_yld (Y_move rfl) rfl rfl rfl ?_
            refine L_call (E_call (by kernel_rfl) rfl) (tree_Equal _ w l (hl.ext (((((((((hx2.trans hx8).trans hx13).trans hx14).trans hx15).trans hx16).trans hxS).trans hx38).trans hx43).trans hx44)) v21 M2 (hoS.rows.ext ((hx38.trans hx43).trans hx44)) okA.2.1 (by omega) okA.2.2 (fun x hx => rcl_okl okA.2.2 x (hpS.mem_iff.1 hx))) rfl rfl rfl ?_
            rintro _ h31 ⟨rfl, hx45⟩
            refine L_yld (Y_pick_t rfl rfl) rfl rfl rfl ?_
            refine L_yld (Y_assign rfl) rfl rfl rfl ?_
            refine L_nil ?_
            refine X_then ?_
            refine W_sub _ (.cons (i := 6) rfl (.nil _)) ?_
            refine W_ret ?_
            refine X_ret1 rfl rfl ?_
            exact ⟨congrArg Value.bool (by rw [hcan]; exact lsame_refl _), ((((((((((hx2.trans hx8).trans hx13).trans hx14).trans hx15).trans hx16).trans hxS).trans hx38).trans hx43).trans hx44).trans hx45)⟩
end Go.Xp
