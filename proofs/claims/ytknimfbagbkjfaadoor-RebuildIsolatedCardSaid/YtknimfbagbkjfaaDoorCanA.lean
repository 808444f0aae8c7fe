/- tree.Canon: what the code does, step by step. -/
import Derived.Test.YtknimfbagbkjfaaDoorSortC
import Derived.Test.YtknimfbagbkjfaaDoorMapI
import Derived.Test.YtknimfbagbkjfaaDoorTreeP
import Derived.Test.YtknimfbagbkjfaaDoorLaidN
set_option linter.unusedSimpArgs false
set_option linter.unusedVariables false
set_option linter.unusedSectionVars false
namespace Go.Xp
open Go.Proofs

/-- How often each class stands in the first k nodes. -/
def cntm (L : List Nod) : Nat → List (Int × Int)
  | 0 => []
  | k + 1 => iset (cntm L k) (at_nod L k).cls (iget (cntm L k) (at_nod L k).cls + 1)
theorem cntm_le (L : List Nod) (c : Int) : ∀ k : Nat, 0 ≤ iget (cntm L k) c ∧ iget (cntm L k) c ≤ k
  | 0 => ⟨Int.le_refl _, Int.le_refl _⟩
  | k + 1 => by
    unfold cntm
    rw [iget_iset]
    have h1 := cntm_le L (at_nod L k).cls k
    have h2 := cntm_le L c k
    split <;> omega

set_option maxRecDepth 100000 in
theorem canon_key (h : Heap) (x : Nod) (hx0 : nodS.ok h x) : Cal Tryd.prog 52 #[.agg #[.int .i64 (x.kind), str x.path, .int .i64 (x.mode), str x.target, (x.dv), .int .i64 (x.cls)]] h (fun v h' => v = .int .i64 (x.cls) ∧ Ext h h') := by
 refine Cal_enter (args := [.agg #[.int .i64 (x.kind), str x.path, .int .i64 (x.mode), str x.target, (x.dv), .int .i64 (x.cls)]]) Tryd.func52 rfl rfl rfl (fun σ => ?_)
 refine Wr ?_
 refine L_mks (M_box rfl) rfl rfl rfl ?_
 rintro _ h1 ⟨rfl, hn1⟩
 have hk2 : Blk h1 h.size [.int .i64 (x.kind), str x.path, .int .i64 (x.mode), str x.target, (x.dv), .int .i64 (x.cls)] := hn1.blk
 refine Av ?_
 refine Nx ?_
 refine W_sub _ (tk2 2 1) ?_
 refine Wr ?_
 refine Ly (Y_fieldAddr (off := 5) (by kernel_rfl) rfl rfl) ?_
 refine Ly (Y_ldblk Tryd.underlying3 rfl rfl hk2 rfl) ?_
 refine Av ?_
 refine Nx ?_
 refine W_sub _ (tk1 2) ?_
 refine W_ret ?_
 refine X_ret1 rfl rfl ?_
 exact ⟨rfl, hn1.ext⟩

set_option maxRecDepth 100000 in
theorem canon_counts (h : Heap) (v : Value) (L : List Nod) (hL : Rows nodS h v L) (hm : L.length ≤ 1000000000000) : Cal Tryd.prog 51 #[v, .func (.func 52) #[] #[]] h (fun v h' => ∃ s0, v = .map (some s0) ∧ h.size ≤ s0 ∧ MapI h' s0 (cntm L L.length) ∧ Ext h h') := by
 refine Cal_enter (args := [v, .func (.func 52) #[] #[]]) Tryd.func51 rfl rfl rfl (fun σ => ?_)
 refine Wr ?_
 refine Av ?_
 refine L_nil (X_then (W_seq (W_region ?_)))
 refine L_mks (M_makeMapI) rfl rfl rfl ?_
 rintro _ h1 ⟨rfl, hx1, hb2⟩
 refine Av ?_
 refine Nx ?_
 refine W_sub _ (tk4 5 4 0 1) ?_
 refine W_seq (W_seq (W_region ?_))
 refine Mv ?_
 refine Ly (Y_lenr Tryd.underlying32 rfl (hL.ext hx1)) ?_
 refine Mv ?_
 refine Nx ?_
 refine W_sub _ (tk6 11 10 9 5 4 1) ?_
 refine W_block ?_
 refine W_loop (S := Nat) (fun i => [(10, .int .i64 ((L.length : Int))), (9, v), (5, .map (some h.size)), (4, .map none), (1, .func (.func 52) #[] #[]), (11, .int .i64 ((i : Int)))]) (fun i h' => i ≤ L.length ∧ Ext h h' ∧ MapI h' h.size (cntm L i)) (fun i => L.length - i) 0 (tk6 10 9 5 4 1 11) ?_ ?_
 ·exact ⟨by omega, hx1, hb2⟩
 rintro i h2 ⟨hi, hx, hm1⟩
 show W _ _ _ _ _ [(10, .int .i64 ((L.length : Int))), (9, v), (5, .map (some h.size)), (4, .map none), (1, .func (.func 52) #[] #[]), (11, .int .i64 ((i : Int)))] _
 refine Wr ?_
 refine Ly (Y_lss rfl rfl) ?_
 refine L_nil (X_then (W_seq ?_))
 refine W_splitd rfl (fun c => ?_) (fun c => ?_)
 ·refine Ws ?_
  refine W_sub _ (tk6 10 9 5 4 1 11) ?_
  refine W_seq (W_block (W_seq (W_region ?_)))
  refine Ly (Y_idxr Tryd.underlying32 (show _ = some 6 by kernel_rfl) rfl rfl rfl (hL.ext hx) (by first | omega | (have hq1 := cntm_le L (at_nod L (i : Int).toNat).cls i; omega)) (by first | omega | (have hq1 := cntm_le L (at_nod L (i : Int).toNat).cls i; omega))) ?_
  refine Ly (Y_ldrA0 (k := ((i : Int)).toNat) (us := [.int .i64 ((at_nod L ((i : Int)).toNat).kind), str ((at_nod L ((i : Int)).toNat).path), .int .i64 ((at_nod L ((i : Int)).toNat).mode), str ((at_nod L ((i : Int)).toNat).target), ((at_nod L ((i : Int)).toNat).dv), .int .i64 ((at_nod L ((i : Int)).toNat).cls)]) Tryd.underlying48 rfl (show _ = some 6 by kernel_rfl) rfl rfl (hL.ext hx) (by first | omega | (have hq1 := cntm_le L (at_nod L (i : Int).toNat).cls i; omega)) rfl) ?_
  refine L_mks (M_alloc (u := .agg #[.int .i64 0, str [], .int .i64 0, str [], .slice none 0 0, .int .i64 0]) (by kernel_rfl)) rfl rfl rfl ?_
  rintro _ h3 ⟨rfl, hn3⟩
  have hk4 : Blk h3 h2.size [.int .i64 0, str [], .int .i64 0, str [], .slice none 0 0, .int .i64 0] := hn3.blk
  refine L_dos (D_store (us := [.int .i64 ((at_nod L ((i : Int)).toNat).kind), str ((at_nod L ((i : Int)).toNat).path), .int .i64 ((at_nod L ((i : Int)).toNat).mode), str ((at_nod L ((i : Int)).toNat).target), ((at_nod L ((i : Int)).toNat).dv), .int .i64 ((at_nod L ((i : Int)).toNat).cls)]) (show _ = some 6 by kernel_rfl) rfl rfl rfl (by intro u_ hu_; simp only [List.mem_cons, List.not_mem_nil, or_false] at hu_; rcases hu_ with rfl | rfl | rfl | rfl | rfl | rfl <;> first | rfl | exact ((show Bytes _ ((at_nod L ((i : Int)).toNat).dv) ((at_nod L ((i : Int)).toNat).data) from (hL.ext (hx.trans hn3.ext)).okat (k := ((i : Int)).toNat) (by first | omega | (have hq1 := cntm_le L (at_nod L (i : Int).toNat).cls i; omega)))).cell1) hk4 (by simp)) rfl rfl ?_
  rintro h4 hp5
  have hk6 : Blk h4 h2.size [.int .i64 ((at_nod L ((i : Int)).toNat).kind), str ((at_nod L ((i : Int)).toNat).path), .int .i64 ((at_nod L ((i : Int)).toNat).mode), str ((at_nod L ((i : Int)).toNat).target), ((at_nod L ((i : Int)).toNat).dv), .int .i64 ((at_nod L ((i : Int)).toNat).cls)] := hp5.blk
  refine Nx ?_
  refine W_sub _ (tk7 7 10 9 5 4 1 11) ?_
  refine W_region ?_
  refine Mv ?_
  refine Mv ?_
  refine Ly (Y_ldbox (us := [.int .i64 ((at_nod L ((i : Int)).toNat).kind), str ((at_nod L ((i : Int)).toNat).path), .int .i64 ((at_nod L ((i : Int)).toNat).mode), str ((at_nod L ((i : Int)).toNat).target), ((at_nod L ((i : Int)).toNat).dv), .int .i64 ((at_nod L ((i : Int)).toNat).cls)]) Tryd.underlying48 rfl (show _ = some 6 by kernel_rfl) rfl hk6 rfl) ?_
  refine L_call (E_callv (fs := []) (cs := []) (by kernel_rfl) rfl rfl) (canon_key _ (at_nod L ((i : Int)).toNat) (show Bytes _ ((at_nod L ((i : Int)).toNat).dv) ((at_nod L ((i : Int)).toNat).data) from (hL.ext ((hx.trans hn3.ext).then' hp5.only (by simp) hx.size)).okat (k := ((i : Int)).toNat) (by first | omega | (have hq1 := cntm_le L (at_nod L (i : Int).toNat).cls i; omega)))) rfl rfl rfl ?_
  rintro _ h5 ⟨rfl, hx7⟩
  have me1 := (hn3.ext.then' hp5.only (by simp) (Nat.le_refl _)).trans hx7
  refine Ly (Y_lookI Tryd.underlying54 Tryd.underlying3 (by kernel_rfl) rfl rfl (hm1.ext me1)) ?_
  refine Ly (Y_add rfl rfl (by first | omega | (have hq1 := cntm_le L (at_nod L (i : Int).toNat).cls i; omega)) (by first | omega | (have hq1 := cntm_le L (at_nod L (i : Int).toNat).cls i; omega))) ?_
  refine L_dos (D_updI Tryd.underlying54 Tryd.underlying3 rfl rfl rfl (hm1.ext me1)) rfl rfl ?_
  rintro h6 ⟨hx8, -, hb9⟩
  refine L_nil (X_block (X_then ?_))
  refine W_sub _ (tk6 10 9 5 4 1 11) ?_
  refine W_region ?_
  refine Ly (Y_add rfl rfl (by first | omega | (have hq1 := cntm_le L (at_nod L (i : Int).toNat).cls i; omega)) (by first | omega | (have hq1 := cntm_le L (at_nod L (i : Int).toNat).cls i; omega))) ?_
  refine Mv ?_
  refine L_nil ?_
  refine X_loop (i + 1) (tk6 10 9 5 4 1 11) ?_ ?_
  ·exact ⟨by omega, ((((hx.trans hn3.ext).then' hp5.only (by simp) hx.size).trans hx7).then' hx8 (by simp) (Nat.le_refl _)), hb9⟩
  (try dsimp only)
  omega
 refine W_exit ?_
 refine X_then_exit (X_then_exit ?_)
 refine X_block_hit ?_
 refine X_then ?_
 refine W_sub _ (tk2 5 4) ?_
 refine Wr ?_
 refine Mv ?_
 refine Av ?_
 refine Nx ?_
 refine W_sub _ (tk1 4) ?_
 refine W_ret ?_
 refine X_ret1 rfl rfl ?_
 exact ⟨_, rfl, Nat.le_refl _, MapI.congr hm1 (by rw [show i = L.length by omega]), hx⟩

theorem can_mem {l : List Nod} {k : Nat} (h : k < l.length) : at_nod l k ∈ l := by
  unfold at_nod; rw [List.getD_eq_getElem?_getD, List.getElem?_eq_getElem h]; exact List.getElem_mem h
/-- A node without the place of its data. -/
def er (x : Nod) : Nod := ⟨x.kind, x.path, x.mode, x.target, .slice none 0 0, x.data, x.cls⟩
def renum (cnt : Int → Int) : List Nod → List (Int × Int) → List Nod
  | [], _ => []
  | x :: r, M => if x.cls ≤ 0 ∨ cnt x.cls < 2 then { x with cls := 0 } :: renum cnt r M
    else if iget M x.cls = 0 then { x with cls := (M.length : Int) + 1 } :: renum cnt r (iset M x.cls ((M.length : Int) + 1))
    else { x with cls := iget M x.cls } :: renum cnt r M
/-- The canonical form of a list of nodes. -/
def cno (L : List Nod) : List Nod := renum (fun c => iget (cntm L L.length) c) (srt (L.map er)) []
@[simp] theorem renum_len (cnt : Int → Int) : ∀ (L : List Nod) (M : List (Int × Int)), (renum cnt L M).length = L.length
  | [], _ => rfl
  | x :: r, M => by
    unfold renum
    split
    · simp [renum_len cnt r]
    · split <;> simp [renum_len cnt r]
theorem renum_er (cnt : Int → Int) : ∀ (L : List Nod) (M : List (Int × Int)), (renum cnt L M).map er = renum cnt (L.map er) M
  | [], _ => rfl
  | x :: r, M => by
    simp only [List.map_cons, renum]
    show _ = if x.cls ≤ 0 ∨ cnt x.cls < 2 then _ else if iget M x.cls = 0 then _ else _
    split
    · rw [List.map_cons, renum_er cnt r]; rfl
    · split
      · rw [List.map_cons, renum_er cnt r]; rfl
      · rw [List.map_cons, renum_er cnt r]; rfl
theorem nin_er (x : Nod) : ∀ l : List Nod, (nin x l).map er = nin (er x) (l.map er)
  | [] => rfl
  | y :: l => by
    by_cases h : nlt x y
    · rw [nin_lt h, List.map_cons, List.map_cons, nin_lt (show nlt (er x) (er y) from h)]
    · rw [nin_ge h, List.map_cons, List.map_cons, nin_ge (show ¬ nlt (er x) (er y) from h), nin_er x l]
theorem fold_er : ∀ L S : List Nod, (L.foldl (fun S x => nin x S) S).map er = (L.map er).foldl (fun S x => nin x S) (S.map er)
  | [], S => rfl
  | x :: L, S => by rw [List.foldl_cons, fold_er L, nin_er]; rfl
theorem srt_er (L : List Nod) : (srt L).map er = srt (L.map er) := fold_er L []
theorem forall_set {p : Nod → Prop} {L : List Nod} {i : Nat} {y : Nod} (h : ∀ x ∈ L, p x) (hy : p y) : ∀ x ∈ L.set i y, p x := fun x hx => by
  rcases List.mem_or_eq_of_mem_set hx with h1 | h1
  · exact h x h1
  · exact h1 ▸ hy
theorem at_set {L : List Nod} {i : Nat} (h : i < L.length) (x : Nod) : at_nod (L.set i x) i = x := by
  unfold at_nod
  rw [List.getD_eq_getElem?_getD, List.getElem?_set_self h]; rfl
theorem can_set {L : List Nod} {i : Nat} {x : Nod} {v : Value} {l : List UInt8} (h : i < L.length) : (L.set i x).set i ⟨(at_nod (L.set i x) i).kind, (at_nod (L.set i x) i).path, (at_nod (L.set i x) i).mode, (at_nod (L.set i x) i).target, v, l, (at_nod (L.set i x) i).cls⟩ = L.set i ⟨x.kind, x.path, x.mode, x.target, v, l, x.cls⟩ := by
  rw [List.set_set, at_set h]
theorem can_step {L Lc : List Nod} {i : Nat} {v : Value} (hl : Lc.length = L.length) (hi : i < L.length) (h : (Lc.take i).map er = (L.take i).map er) :
    ((Lc.set i ⟨(at_nod L i).kind, (at_nod L i).path, (at_nod L i).mode, (at_nod L i).target, v, (at_nod L i).data, (at_nod L i).cls⟩).take (i + 1)).map er = (L.take (i + 1)).map er := by
  have e1 : L.take (i + 1) = L.take i ++ [at_nod L i] := by
    rw [List.take_succ_eq_append_getElem hi]; unfold at_nod; rw [List.getD_eq_getElem?_getD, List.getElem?_eq_getElem hi]; rfl
  rw [List.take_succ_eq_append_getElem (by simp; omega), e1, List.map_append, List.map_append, ← h, List.take_set_of_le (Nat.le_refl _)]
  simp [er]
def Rnm (cnt : Int → Int) (L : List Nod) (i : Nat) (Lc : List Nod) (M : List (Int × Int)) : Prop :=
  ∃ P, Lc = P ++ L.drop i ∧ P.length = i ∧ renum cnt L [] = P ++ renum cnt (L.drop i) M ∧ M.length ≤ i
theorem rnm_0 (cnt : Int → Int) (L : List Nod) : Rnm cnt L 0 L [] := ⟨[], rfl, rfl, rfl, Nat.le_refl _⟩
theorem rnm_len {cnt : Int → Int} {L Lc : List Nod} {i : Nat} {M : List (Int × Int)} (x : Rnm cnt L i Lc M) : M.length ≤ i := by
  obtain ⟨P, h1, h2, h3, h4⟩ := x; exact h4
theorem drop_at {L : List Nod} {i : Nat} (h : i < L.length) : L.drop i = at_nod L i :: L.drop (i + 1) := by
  rw [List.drop_eq_getElem_cons h]; unfold at_nod; rw [List.getD_eq_getElem?_getD, List.getElem?_eq_getElem h]; rfl
theorem rnm_at {cnt : Int → Int} {L Lc : List Nod} {i : Nat} {M : List (Int × Int)} (x : Rnm cnt L i Lc M) (hi : i < L.length) : at_nod Lc i = at_nod L i := by
  obtain ⟨P, rfl, h2, h3, h4⟩ := x
  rw [drop_at hi]
  have := at_app P (at_nod L i) (L.drop (i + 1))
  rw [h2] at this; exact this
theorem rnm_set {P r : List Nod} {x y : Nod} {i : Nat} (h : P.length = i) : (P ++ x :: r).set i y = (P ++ [y]) ++ r := by
  rw [← h, set_app]; simp
def wcl (x : Nod) (c : Int) : Nod := ⟨x.kind, x.path, x.mode, x.target, x.dv, x.data, c⟩
theorem rnm_a {cnt : Int → Int} {L Lc : List Nod} {i : Nat} {M : List (Int × Int)} (x : Rnm cnt L i Lc M) (hi : i < L.length) (h : (at_nod Lc i).cls ≤ 0 ∨ cnt (at_nod Lc i).cls < 2) : Rnm cnt L (i + 1) (Lc.set i (wcl (at_nod Lc i) 0)) M := by
  rw [rnm_at x hi] at h ⊢
  obtain ⟨P, rfl, h2, h3, h4⟩ := x
  refine ⟨P ++ [wcl (at_nod L i) 0], ?_, by simp [h2], ?_, by omega⟩
  · rw [drop_at hi, rnm_set h2]
  · rw [h3, drop_at hi, renum, if_pos h]; simp [wcl]
theorem rnm_b {cnt : Int → Int} {L Lc : List Nod} {i : Nat} {M : List (Int × Int)} (x : Rnm cnt L i Lc M) (hi : i < L.length) (h : ¬ ((at_nod Lc i).cls ≤ 0 ∨ cnt (at_nod Lc i).cls < 2)) (h0 : iget M (at_nod Lc i).cls = 0) :
    Rnm cnt L (i + 1) (Lc.set i (wcl (at_nod Lc i) (iget (iset M (at_nod Lc i).cls ((M.length : Int) + 1)) (at_nod Lc i).cls))) (iset M (at_nod Lc i).cls ((M.length : Int) + 1)) := by
  rw [rnm_at x hi] at h h0 ⊢
  obtain ⟨P, rfl, h2, h3, h4⟩ := x
  rw [iget_iset, if_pos rfl]
  refine ⟨P ++ [wcl (at_nod L i) ((M.length : Int) + 1)], ?_, by simp [h2], ?_, ?_⟩
  · rw [drop_at hi, rnm_set h2]
  · rw [h3, drop_at hi, renum, if_neg h, if_pos h0]; simp [wcl]
  · have := iset_len_le M (at_nod L i).cls ((M.length : Int) + 1); omega
theorem rnm_c {cnt : Int → Int} {L Lc : List Nod} {i : Nat} {M : List (Int × Int)} (x : Rnm cnt L i Lc M) (hi : i < L.length) (h : ¬ ((at_nod Lc i).cls ≤ 0 ∨ cnt (at_nod Lc i).cls < 2)) (h0 : ¬ iget M (at_nod Lc i).cls = 0) :
    Rnm cnt L (i + 1) (Lc.set i (wcl (at_nod Lc i) (iget M (at_nod Lc i).cls))) M := by
  rw [rnm_at x hi] at h h0 ⊢
  obtain ⟨P, rfl, h2, h3, h4⟩ := x
  refine ⟨P ++ [wcl (at_nod L i) (iget M (at_nod L i).cls)], ?_, by simp [h2], ?_, by omega⟩
  · rw [drop_at hi, rnm_set h2]
  · rw [h3, drop_at hi, renum, if_neg h, if_neg h0]; simp [wcl]
theorem rnm_end {cnt : Int → Int} {L Lc : List Nod} {i : Nat} {M : List (Int × Int)} (x : Rnm cnt L i Lc M) (hi : L.length ≤ i) : Lc = renum cnt L [] := by
  obtain ⟨P, rfl, h2, h3, h4⟩ := x
  rw [h3, List.drop_of_length_le hi]; rfl
theorem pts_wcl {p : Nat → Prop} {x : Nod} {c : Int} (o : Pts nodS p x) : Pts nodS p (wcl x c) := pts_dv fun b hb => o x.dv (by simp [nodS]) b hb
theorem pts_at {p : Nat → Prop} {L : List Nod} {i : Nat} (h : ∀ x ∈ L, Pts nodS p x) (hi : i < L.length) : Pts nodS p (at_nod L i) := h _ (can_mem hi)
theorem rbuf_and {h : Heap} {B : Nat} {p q : Nat → Prop} {l : List Nod} (x : RBuf nodS h B p l) (y : ∀ a ∈ l, Pts nodS q a) : RBuf nodS h B (fun b => p b ∧ q b) l := ⟨x.1, fun a ha => ⟨(x.2 a ha).1, fun u hu b hb => ⟨(x.2 a ha).2 u hu b hb, y a ha u hu b hb⟩⟩⟩

theorem Row.not_map {h : Heap} {v : Value} {n : Nat} {cs : List Value} (x : Row h 1 v n cs) {M : Nat} {m : List (Int × Int)} (hm : MapI h M m) : ∀ b, blk2 v = some b → b ∉ [M] := fun b hb hM => by
  obtain ⟨⟨a, cap, rfl, h1, h2, h3⟩, h4⟩ := x
  cases a with
  | none => cases hb
  | some ad =>
    by_cases hn : n = 0
    · simp [blk2, hn] at hb
    · simp [blk2, hn] at hb
      rw [List.mem_singleton] at hM
      subst hb
      subst hM
      have hc : ∃ u, cs[0]? = some u := ⟨cs[0]'(by omega), List.getElem?_eq_getElem (by omega)⟩
      obtain ⟨u, hu⟩ := hc
      have := (h3 ad rfl).2 0 u hu
      have hg := MapK.get hm
      simp [cellAt, hg] at this
theorem RBuf.onlyM {h h' : Heap} {B M : Nat} {p : Nat → Prop} {l : List Nod} {m : List (Int × Int)} (x : RBuf nodS h B p l) (y : Only [M] h h') (hB : B ∉ [M]) (hm : MapI h M m) : RBuf nodS h' B p l :=
  ⟨x.1.only y hB, fun a ha => ⟨Row.only2 (show Bytes h a.dv a.data from (x.2 a ha).1) y (Row.not_map (show Bytes h a.dv a.data from (x.2 a ha).1) hm), (x.2 a ha).2⟩⟩

theorem ownB_only {h h' : Heap} {B : Nat} {v : Value} {l : List UInt8} (o : OwnB h (B + 1) v l) (y : Only [B] h h') : OwnB h' (B + 1) v l :=
  Own.only o y (fun b hb hm => by
    have := (Own.lt o b hb).1
    rw [List.mem_singleton.1 hm] at this; omega)
theorem ownB_map {h h' : Heap} {base M : Nat} {v : Value} {l : List UInt8} {m : List (Int × Int)} (o : OwnB h base v l) (y : Only [M] h h') (hm : MapI h M m) : OwnB h' base v l := by
  refine Own.only o y (fun b hb hM => ?_)
  rw [List.mem_singleton] at hM
  subst hM
  obtain ⟨o1, ⟨rfl, o2⟩ | ⟨g, cap, extra, rfl, o3, ⟨T, lo, hi, q, _⟩, o5, o6⟩⟩ := o
  · cases hb
  · simp [blockOf] at hb
    subst hb
    have hg := MapK.get hm
    rw [q] at hg; cases hg

set_option maxRecDepth 100000 in
theorem tree_CanonR (h : Heap) (l : Value) (L : List Nod) (hL : Rows nodS h l L) (hm : L.length ≤ 1000000000000) (hs : ∀ x ∈ L, x.data.length ≤ 140737488355328) : Cal Tryd.prog 34 #[l] h (fun v h' => v = .slice (some ⟨h.size, 0, none⟩) (L.length) (L.length) ∧ Ext h h' ∧ ∃ L', RBuf nodS h' h.size (fun b => b ≠ h.size ∧ h.size ≤ b) L' ∧ (L'.length = L.length ∧ L'.map er = cno L ∧ ∀ x ∈ L', OwnB h' (h.size + 1) x.dv x.data)) := by
 refine Cal_enter (args := [l]) Tryd.func34 rfl rfl rfl (fun σ => ?_)
 refine Wr ?_
 refine Av ?_
 refine L_nil (X_then (W_seq (W_region ?_)))
 refine Mv ?_
 refine Ly (Y_lenr Tryd.underlying32 rfl hL) ?_
 refine L_mks (M_makeN (bytes := 80) Tryd.underlying32 (by unfold elemRow; kernel_rfl) rfl rfl rfl (by omega) (by omega) (by omega)) rfl rfl rfl ?_
 rintro _ h1 ⟨rfl, hx1, hb2_⟩
 have hb2 := hb2_ (fun b => b ≠ h.size)
 have hp3 : ¬ (fun b => b ≠ h.size) h.size := fun q => q rfl
 refine Av ?_
 refine Nx ?_
 refine W_sub _ (tk3 3 2 0) ?_
 refine Wr ?_
 refine Mv ?_
 refine L_call (E_call (by kernel_rfl) rfl) (canon_counts _ l L (hL.ext hx1) (by first | omega | rfl | (simp <;> omega))) rfl rfl rfl ?_
 rintro _ h2 ⟨s04, rfl, hl05, hr06, hx7⟩
 refine Av ?_
 refine Nx ?_
 refine W_sub _ (tk4 4 3 2 0) ?_
 refine W_seq (W_seq (W_region ?_))
 refine Mv ?_
 refine Ly (Y_lenr Tryd.underlying32 rfl (hL.ext (hx1.trans hx7))) ?_
 refine Mv ?_
 refine Nx ?_
 refine W_sub _ (tk6 17 16 15 4 3 2) ?_
 refine W_block ?_
 refine W_loop (S := Nat × List Nod) (fun (i, Lc) => [(16, .int .i64 ((L.length : Int))), (15, l), (4, .map (some s04)), (3, .slice (some ⟨h.size, 0, none⟩) (((L.length : Int)).toNat) (((L.length : Int)).toNat)), (2, .slice none 0 0), (17, .int .i64 ((i : Int)))]) (fun (i, Lc) h' => i ≤ L.length ∧ Lc.length = L.length ∧ (Lc.take i).map er = (L.take i).map er ∧ (∀ x ∈ Lc, Pts nodS (fun b => h.size ≤ b) x) ∧ Ext h h' ∧ RBuf nodS h' h.size (fun b => b ≠ h.size) Lc ∧ MapI h' s04 (cntm L L.length) ∧ (∀ x ∈ Lc, OwnB h' (h.size + 1) x.dv x.data)) (fun (i, Lc) => L.length - i) (0, List.replicate L.length nodZ) (tk6 16 15 4 3 2 17) ?_ ?_
 ·exact ⟨by omega, by simp, rfl, fun x hx => by rw [List.eq_of_mem_replicate hx]; exact pts_dv (fun b hb => by cases hb), (hx1.trans hx7), (hb2.ext hx7), hr06, fun x hx => by rw [List.eq_of_mem_replicate hx]; exact OwnB.nil _ _⟩
 rintro ⟨i, Lc⟩ h3 ⟨hi, hLl, hT, hP, hxA, hbA, hmA, hoA⟩
 show W _ _ _ _ _ [(16, .int .i64 ((L.length : Int))), (15, l), (4, .map (some s04)), (3, .slice (some ⟨h.size, 0, none⟩) (((L.length : Int)).toNat) (((L.length : Int)).toNat)), (2, .slice none 0 0), (17, .int .i64 ((i : Int)))] _
 refine Wr ?_
 refine Ly (Y_lss rfl rfl) ?_
 refine L_nil (X_then (W_seq ?_))
 refine W_splitd rfl (fun c => ?_) (fun c => ?_)
 ·refine Ws ?_
  refine W_sub _ (tk6 16 15 4 3 2 17) ?_
  refine W_seq (W_block (W_seq (W_region ?_)))
  refine Mv ?_
  refine Ly (Y_idxr Tryd.underlying32 (show _ = some 6 by kernel_rfl) rfl rfl rfl (hL.ext hxA) (by first | omega | (simp; omega)) (by first | omega | (simp; omega))) ?_
  refine Ly (Y_ldrA0 (k := ((i : Int)).toNat) (us := [.int .i64 ((at_nod L ((i : Int)).toNat).kind), str ((at_nod L ((i : Int)).toNat).path), .int .i64 ((at_nod L ((i : Int)).toNat).mode), str ((at_nod L ((i : Int)).toNat).target), ((at_nod L ((i : Int)).toNat).dv), .int .i64 ((at_nod L ((i : Int)).toNat).cls)]) Tryd.underlying48 rfl (show _ = some 6 by kernel_rfl) rfl rfl (hL.ext hxA) (by first | omega | (simp; omega)) rfl) ?_
  refine L_mks (M_alloc (u := .agg #[.int .i64 0, str [], .int .i64 0, str [], .slice none 0 0, .int .i64 0]) (by kernel_rfl)) rfl rfl rfl ?_
  rintro _ h4 ⟨rfl, hn8⟩
  have hk9 : Blk h4 h3.size [.int .i64 0, str [], .int .i64 0, str [], .slice none 0 0, .int .i64 0] := hn8.blk
  refine Av ?_
  refine L_dos (D_store (us := [.int .i64 ((at_nod L ((i : Int)).toNat).kind), str ((at_nod L ((i : Int)).toNat).path), .int .i64 ((at_nod L ((i : Int)).toNat).mode), str ((at_nod L ((i : Int)).toNat).target), ((at_nod L ((i : Int)).toNat).dv), .int .i64 ((at_nod L ((i : Int)).toNat).cls)]) (show _ = some 6 by kernel_rfl) rfl rfl rfl (by intro u_ hu_; simp only [List.mem_cons, List.not_mem_nil, or_false] at hu_; rcases hu_ with rfl | rfl | rfl | rfl | rfl | rfl <;> first | rfl | exact ((show Bytes _ ((at_nod L ((i : Int)).toNat).dv) ((at_nod L ((i : Int)).toNat).data) from (hL.ext (hxA.trans hn8.ext)).okat (k := ((i : Int)).toNat) (by first | omega | (simp; omega)))).cell1) hk9 (by simp)) rfl rfl ?_
  rintro h5 hp10
  have hk11 : Blk h5 h3.size [.int .i64 ((at_nod L ((i : Int)).toNat).kind), str ((at_nod L ((i : Int)).toNat).path), .int .i64 ((at_nod L ((i : Int)).toNat).mode), str ((at_nod L ((i : Int)).toNat).target), ((at_nod L ((i : Int)).toNat).dv), .int .i64 ((at_nod L ((i : Int)).toNat).cls)] := hp10.blk
  refine Nx ?_
  refine W_sub _ (tk8 5 6 16 15 4 3 2 17) ?_
  refine Wr ?_
  refine Mv ?_
  refine Mv ?_
  refine Ly (Y_ldbox (us := [.int .i64 ((at_nod L ((i : Int)).toNat).kind), str ((at_nod L ((i : Int)).toNat).path), .int .i64 ((at_nod L ((i : Int)).toNat).mode), str ((at_nod L ((i : Int)).toNat).target), ((at_nod L ((i : Int)).toNat).dv), .int .i64 ((at_nod L ((i : Int)).toNat).cls)]) Tryd.underlying48 rfl (show _ = some 6 by kernel_rfl) rfl hk11 rfl) ?_
  refine Ly (Y_idxB Tryd.underlying32 (show _ = some 6 by kernel_rfl) rfl rfl (by first | omega | (simp; omega)) (by first | omega | (simp; omega))) ?_
  refine L_dos (D_rsetA (S := nodS) (us := [.int .i64 ((at_nod L ((i : Int)).toNat).kind), str ((at_nod L ((i : Int)).toNat).path), .int .i64 ((at_nod L ((i : Int)).toNat).mode), str ((at_nod L ((i : Int)).toNat).target), ((at_nod L ((i : Int)).toNat).dv), .int .i64 ((at_nod L ((i : Int)).toNat).cls)]) (a := (at_nod L ((i : Int)).toNat)) (k := ((i : Int)).toNat) (show _ = some 6 by kernel_rfl) rfl rfl rfl rfl (hbA.ext (hn8.ext.then' hp10.only (by simp) (Nat.le_refl _))) (by first | omega | (simp; omega)) rfl (okp_arg (hL.2 _ (can_mem (l := L) (k := (i : Int).toNat) (by omega))) ((hxA.trans hn8.ext).then' hp10.only (by simp) hxA.size)).1 (okp_arg (hL.2 _ (can_mem (l := L) (k := (i : Int).toNat) (by omega))) ((hxA.trans hn8.ext).then' hp10.only (by simp) hxA.size)).2 hp3) rfl rfl ?_
  rintro h6 ⟨hx12, -, hb13⟩
  refine Nx ?_
  refine W_sub _ (tk8 5 6 16 15 4 3 2 17) ?_
  have hmm := hs _ (can_mem (l := L) (k := (i : Int).toNat) (by omega))
  refine W_region ?_
  refine Mv ?_
  refine Mv ?_
  refine Ly (Y_fieldAddr (off := 4) (by kernel_rfl) rfl rfl) ?_
  have hc14 := (hk11.only hx12 (ni_gt (Nat.lt_of_lt_of_le hbA.lt (Nat.le_refl _))))
  refine Ly (Y_ldblk Tryd.underlying28 rfl rfl hc14 rfl) ?_
  have me1 := ((hxA.trans hn8.ext).then' hp10.only (by simp) hxA.size).then' hx12 (by simp) (Nat.le_refl _)
  refine L_call (E_call (by kernel_rfl) rfl) (slices_CloneB _ ((at_nod L ((i : Int)).toNat).dv) ((at_nod L ((i : Int)).toNat).data) (show Bytes _ ((at_nod L ((i : Int)).toNat).dv) ((at_nod L ((i : Int)).toNat).data) from (hL.ext me1).okat (k := ((i : Int)).toNat) (by first | omega | (simp; omega))) (by first | omega | rfl | (simp <;> omega))) rfl rfl rfl ?_
  rintro s015 h7 ⟨_, rfl, hr016, hx17⟩
  refine Ly (Y_idxB Tryd.underlying32 (show _ = some 6 by kernel_rfl) rfl rfl (by first | omega | (simp; omega)) (by first | omega | (simp; omega))) ?_
  refine Ly (Y_fldB (off := 4) (by kernel_rfl) rfl) ?_
  have me2 := Nat.le_trans (Nat.le_trans hn8.ext.size hp10.only.size) hx12.size
  have hq9 : ∀ b, blk2 s015 = some b → h.size ≤ b := fun b hb => Nat.le_trans (Nat.le_of_lt (Nat.lt_of_lt_of_le hbA.lt me2)) (Own.lt hr016 b (blk2_of hb)).1
  have hq8 : OwnB h7 (h.size + 1) s015 (at_nod L i).data := (hr016).low (Nat.lt_of_lt_of_le hbA.lt me2)
  have hq20 : Okp nodS h7 (fun b => b ≠ h.size) (⟨(at_nod (Lc.set (((i : Int)).toNat) (at_nod L ((i : Int)).toNat)) ((i : Int)).toNat).kind, (at_nod (Lc.set (((i : Int)).toNat) (at_nod L ((i : Int)).toNat)) ((i : Int)).toNat).path, (at_nod (Lc.set (((i : Int)).toNat) (at_nod L ((i : Int)).toNat)) ((i : Int)).toNat).mode, (at_nod (Lc.set (((i : Int)).toNat) (at_nod L ((i : Int)).toNat)) ((i : Int)).toNat).target, s015, ((at_nod L ((i : Int)).toNat).data), (at_nod (Lc.set (((i : Int)).toNat) (at_nod L ((i : Int)).toNat)) ((i : Int)).toNat).cls⟩ : Nod) := okp_own hr016 rfl rfl (fun b hb => Nat.ne_of_gt (Nat.lt_of_lt_of_le (Nat.lt_of_lt_of_le hbA.lt me2) hb))
  refine L_dos (D_rset (S := nodS) (us := [s015]) (a := (⟨(at_nod (Lc.set (((i : Int)).toNat) (at_nod L ((i : Int)).toNat)) ((i : Int)).toNat).kind, (at_nod (Lc.set (((i : Int)).toNat) (at_nod L ((i : Int)).toNat)) ((i : Int)).toNat).path, (at_nod (Lc.set (((i : Int)).toNat) (at_nod L ((i : Int)).toNat)) ((i : Int)).toNat).mode, (at_nod (Lc.set (((i : Int)).toNat) (at_nod L ((i : Int)).toNat)) ((i : Int)).toNat).target, s015, ((at_nod L ((i : Int)).toNat).data), (at_nod (Lc.set (((i : Int)).toNat) (at_nod L ((i : Int)).toNat)) ((i : Int)).toNat).cls⟩ : Nod)) (k := ((i : Int)).toNat) (off := 4) (show _ = some 1 by kernel_rfl) rfl rfl rfl (cells_slice hr016.bytes) (by intro u_ hu_; simp only [List.mem_cons, List.not_mem_nil, or_false] at hu_; rcases hu_ with rfl <;> first | rfl | exact (hr016.bytes).cell1) (hb13.ext hx17) (by first | omega | (simp; omega)) (show 5 ≤ 6 by decide) rfl hq20.1 hq20.2 hp3) rfl rfl ?_
  rintro h8 ⟨hx18, -, hb19⟩
  refine L_nil (X_block (X_then ?_))
  refine W_sub _ (tk6 16 15 4 3 2 17) ?_
  refine W_region ?_
  refine Ly (Y_add rfl rfl (by omega) (by omega)) ?_
  refine Mv ?_
  refine L_nil ?_
  refine X_loop ((i + 1, ((Lc.set (((i : Int)).toNat) (at_nod L ((i : Int)).toNat)).set (((i : Int)).toNat) (⟨(at_nod (Lc.set (((i : Int)).toNat) (at_nod L ((i : Int)).toNat)) ((i : Int)).toNat).kind, (at_nod (Lc.set (((i : Int)).toNat) (at_nod L ((i : Int)).toNat)) ((i : Int)).toNat).path, (at_nod (Lc.set (((i : Int)).toNat) (at_nod L ((i : Int)).toNat)) ((i : Int)).toNat).mode, (at_nod (Lc.set (((i : Int)).toNat) (at_nod L ((i : Int)).toNat)) ((i : Int)).toNat).target, s015, ((at_nod L ((i : Int)).toNat).data), (at_nod (Lc.set (((i : Int)).toNat) (at_nod L ((i : Int)).toNat)) ((i : Int)).toNat).cls⟩ : Nod)))) (tk6 16 15 4 3 2 17) ?_ ?_
  have hc21 := (((((hmA.ext hn8.ext).only hp10.only (ni_lt (Nat.lt_of_lt_of_le hmA.lt (Nat.le_refl _)))).only hx12 (ni_gt (Nat.lt_of_lt_of_le hb2.lt hl05))).ext hx17).only hx18 (ni_gt (Nat.lt_of_lt_of_le hb2.lt hl05)))
  ·exact ⟨by omega, by simp [hLl], by rw [can_set (by omega)]; exact can_step hLl (by omega) hT, by rw [can_set (by omega)]; exact forall_set hP (pts_dv hq9), ((me1.trans hx17).then' hx18 (by simp) (Nat.le_refl _)), hb19, hc21, by rw [can_set (by omega)]; exact forall_set (fun x hx => ownB_only (hoA x hx) (Only.trans (Only.trans (Only.trans (Only.trans (Only.trans (Only.refl _ _) hn8.ext (fun _ hb_ => by cases hb_)) hp10.only (fun b_ hb_ => .inr (by rw [List.mem_singleton.1 hb_]; exact (Nat.le_refl _)))) hx12 (fun _ hb_ => .inl hb_)) hx17 (fun _ hb_ => by cases hb_)) hx18 (fun _ hb_ => .inl hb_))) (ownB_only hq8 (Only.trans (Only.refl _ _) hx18 (fun _ hb_ => .inl hb_)))⟩
  (try dsimp only)
  omega
 refine W_exit ?_
 refine X_then_exit (X_then_exit ?_)
 refine X_block_hit ?_
 refine X_then ?_
 refine W_sub _ (tk3 4 3 2) ?_
 refine Wr ?_
 refine Mv ?_
 refine L_call (E_call (by kernel_rfl) rfl) (sort_SortStable _ h.size (((L.length : Int)).toNat) Lc (fun b => b ≠ h.size) hbA (by first | omega | rfl | (simp <;> omega)) (by first | omega | rfl | (simp <;> omega)) (by first | omega | rfl | (simp <;> omega))) rfl rfl rfl ?_
 rintro _ h9 ⟨rfl, hx22, hb23⟩
 refine Nx ?_
 refine W_sub _ (tk3 4 3 2) ?_
 refine Wr ?_
 refine L_mks (M_makeMapI) rfl rfl rfl ?_
 rintro _ h10 ⟨rfl, hx24, hb25⟩
 refine Av ?_
 refine Nx ?_
 refine W_sub _ (tk4 7 4 3 2) ?_
 have e9 : (srt Lc).length = L.length := by simp [hLl]
 refine W_seq (W_seq (W_region ?_))
 refine Mv ?_
 refine Ly (Y_lenr Tryd.underlying32 rfl ((hb23.ext hx24).rows (by first | omega | (simp; omega)))) ?_
 refine Mv ?_
 refine Nx ?_
 refine W_sub _ (tk6 39 38 7 4 3 2) ?_
 refine W_block ?_
 refine W_loop (S := Nat × List Nod × List (Int × Int)) (fun (j, L2, Mj) => [(38, .int .i64 (((srt Lc).length : Int))), (7, .map (some h9.size)), (4, .map (some s04)), (3, .slice (some ⟨h.size, 0, none⟩) (((L.length : Int)).toNat) (((L.length : Int)).toNat)), (2, .slice none 0 0), (39, .int .i64 ((j : Int)))]) (fun (j, L2, Mj) h' => j ≤ L.length ∧ L2.length = L.length ∧ Rnm (fun c => iget (cntm L L.length) c) (srt Lc) j L2 Mj ∧ (∀ x ∈ L2, Pts nodS (fun b => h.size ≤ b) x) ∧ Ext h h' ∧ RBuf nodS h' h.size (fun b => b ≠ h.size) L2 ∧ MapI h' s04 (cntm L L.length) ∧ MapI h' h9.size Mj ∧ (∀ x ∈ L2, OwnB h' (h.size + 1) x.dv x.data)) (fun (j, L2, Mj) => L.length - j) (0, srt Lc, []) (tk6 38 7 4 3 2 39) ?_ ?_
 have hc26 := ((hmA.only hx22 (ni_gt (Nat.lt_of_lt_of_le hb2.lt hl05))).ext hx24)
 ·exact ⟨by omega, by simp [hLl], rnm_0 _ _, fun x hx => hP x ((srt_mem _ _).1 hx), ((hxA.then' hx22 (by simp) (Nat.le_refl _)).trans hx24), (hb23.ext hx24), hc26, hb25, fun x hx => ownB_only (hoA x ((srt_mem _ _).1 hx)) (Only.trans (Only.trans (Only.refl _ _) hx22 (fun _ hb_ => .inl hb_)) hx24 (fun _ hb_ => by cases hb_))⟩
 rintro ⟨j, L2, Mj⟩ h11 ⟨hj, hL2, hT2, hP2, hxB, hbB, hmB, hmC, hoB⟩
 show W _ _ _ _ _ [(38, .int .i64 (((srt Lc).length : Int))), (7, .map (some h9.size)), (4, .map (some s04)), (3, .slice (some ⟨h.size, 0, none⟩) (((L.length : Int)).toNat) (((L.length : Int)).toNat)), (2, .slice none 0 0), (39, .int .i64 ((j : Int)))] _
 have e8 := rnm_len hT2
 refine Wr ?_
 refine Ly (Y_lss rfl rfl) ?_
 refine L_nil (X_then (W_seq ?_))
 refine W_splitd rfl (fun w => ?_) (fun w => ?_)
 ·refine Ws ?_
  refine W_sub _ (tk6 38 7 4 3 2 39) ?_
  refine W_seq (W_block (W_seq (W_region ?_)))
  refine Mv ?_
  refine Av ?_
  refine Nx ?_
  refine W_sub _ (tk7 8 38 7 4 3 2 39) ?_
  refine Wr ?_
  refine Mv ?_
  refine Mv ?_
  refine Ly (Y_idxB Tryd.underlying32 (show _ = some 6 by kernel_rfl) rfl rfl (by first | omega | (simp; omega)) (by first | omega | (simp; omega))) ?_
  refine Ly (Y_fldB (off := 5) (by kernel_rfl) rfl) ?_
  refine Ly (Y_ldr1 (off := 5) (k := ((j : Int)).toNat) (u := .int .i64 ((at_nod L2 ((j : Int)).toNat).cls)) Tryd.underlying3 rfl rfl rfl (hbB.rows (by first | omega | (simp; omega))) (by first | omega | (simp; omega)) rfl) ?_
  refine Av ?_
  refine Nx ?_
  refine W_sub _ (tk8 9 8 38 7 4 3 2 39) ?_
  refine W_seq ?_
  refine W_cut (S := Unit) (fun _ => [(54, .bool (decide ((((at_nod L2 ((j : Int)).toNat).cls) ≤ 0) ∨ ((iget (cntm L L.length) ((at_nod L2 ((j : Int)).toNat).cls)) < 2)))), (9, .int .i64 ((at_nod L2 ((j : Int)).toNat).cls)), (8, .int .i64 ((j : Int))), (38, .int .i64 (((srt Lc).length : Int))), (7, .map (some h9.size)), (4, .map (some s04)), (3, .slice (some ⟨h.size, 0, none⟩) (((L.length : Int)).toNat) (((L.length : Int)).toNat)), (2, .slice none 0 0), (39, .int .i64 ((j : Int)))]) (fun _ h' => h' = h11) ?_ ?_
  ·refine W_region ?_
   refine Mv ?_
   refine Ly (Y_leq rfl rfl) ?_
   refine Mv ?_
   refine L_splitd (d := 49) rfl (fun g0 => ?_) (fun g0 => ?_)
   ·refine Skp ?_
    refine Skp ?_
    refine Skp ?_
    refine Skp ?_
    refine Ly (Y_pick_t rfl rfl) ?_
    refine L_nil ?_
    exact X_cut () (sk1 54 (lkb rfl (by first | (simp only [eq_true g0, SB]; done) | (simp only [eq_true g0, SB]; rfl))) (sk1 9 rfl (sk1 8 rfl (sk1 38 rfl (sk1 7 rfl (sk1 4 rfl (sk1 3 rfl (sk1 2 rfl (tk1 39))))))))) rfl
   refine Ly (Y_move rfl) ?_
   refine Mv ?_
   refine Ly (Y_lookI Tryd.underlying54 Tryd.underlying3 (by kernel_rfl) rfl rfl hmB) ?_
   refine Ly (Y_lss rfl rfl) ?_
   refine Ly (Y_pick_f rfl rfl) ?_
   refine L_nil ?_
   exact X_cut () (sk1 54 (lkb rfl (by first | (simp only [eq_false g0, SB]; done) | (simp only [eq_false g0, SB]; rfl))) (sk1 9 rfl (sk1 8 rfl (sk1 38 rfl (sk1 7 rfl (sk1 4 rfl (sk1 3 rfl (sk1 2 rfl (tk1 39))))))))) rfl
  rintro _ h11 rfl
  show W _ _ _ _ _ [(54, .bool (decide ((((at_nod L2 ((j : Int)).toNat).cls) ≤ 0) ∨ ((iget (cntm L L.length) ((at_nod L2 ((j : Int)).toNat).cls)) < 2)))), (9, .int .i64 ((at_nod L2 ((j : Int)).toNat).cls)), (8, .int .i64 ((j : Int))), (38, .int .i64 (((srt Lc).length : Int))), (7, .map (some h9.size)), (4, .map (some s04)), (3, .slice (some ⟨h.size, 0, none⟩) (((L.length : Int)).toNat) (((L.length : Int)).toNat)), (2, .slice none 0 0), (39, .int .i64 ((j : Int)))] _
  refine W_splitd rfl (fun g => ?_) (fun g => ?_)
  ·refine Wr ?_
   refine Mv ?_
   refine Mv ?_
   refine Ly (Y_idxB Tryd.underlying32 (show _ = some 6 by kernel_rfl) rfl rfl (by first | omega | (simp; omega)) (by first | omega | (simp; omega))) ?_
   refine Ly (Y_fldB (off := 5) (by kernel_rfl) rfl) ?_
   have hq29 : Okp nodS h11 (fun b => b ≠ h.size) (⟨(at_nod L2 ((j : Int)).toNat).kind, (at_nod L2 ((j : Int)).toNat).path, (at_nod L2 ((j : Int)).toNat).mode, (at_nod L2 ((j : Int)).toNat).target, (at_nod L2 ((j : Int)).toNat).dv, (at_nod L2 ((j : Int)).toNat).data, (0 : Int)⟩ : Nod) := (okp_fld (x := (at_nod L2 ((j : Int)).toNat)) rfl (hbB.okp (k := ((j : Int)).toNat) (by first | omega | (simp; omega))))
   refine L_dos (D_rset (S := nodS) (us := [.int .i64 0]) (a := (⟨(at_nod L2 ((j : Int)).toNat).kind, (at_nod L2 ((j : Int)).toNat).path, (at_nod L2 ((j : Int)).toNat).mode, (at_nod L2 ((j : Int)).toNat).target, (at_nod L2 ((j : Int)).toNat).dv, (at_nod L2 ((j : Int)).toNat).data, (0 : Int)⟩ : Nod)) (k := ((j : Int)).toNat) (off := 5) (show _ = some 1 by kernel_rfl) rfl rfl rfl rfl (by simp [Value.oneCell']) hbB (by first | omega | (simp; omega)) (show 6 ≤ 6 by decide) rfl hq29.1 hq29.2 hp3) rfl rfl ?_
   rintro h12 ⟨hx27, -, hb28⟩
   refine Nx ?_
   refine W_sub _ (tk8 9 8 38 7 4 3 2 39) ?_
   refine W_exit ?_
   refine X_then_exit ?_
   refine X_block_hit ?_
   refine X_then ?_
   refine W_sub _ (tk6 38 7 4 3 2 39) ?_
   refine W_region ?_
   refine Ly (Y_add rfl rfl (by omega) (by omega)) ?_
   refine Mv ?_
   refine L_nil ?_
   refine X_loop ((j + 1, (L2.set (((j : Int)).toNat) (⟨(at_nod L2 ((j : Int)).toNat).kind, (at_nod L2 ((j : Int)).toNat).path, (at_nod L2 ((j : Int)).toNat).mode, (at_nod L2 ((j : Int)).toNat).target, (at_nod L2 ((j : Int)).toNat).dv, (at_nod L2 ((j : Int)).toNat).data, (0 : Int)⟩ : Nod)), Mj)) (tk6 38 7 4 3 2 39) ?_ ?_
   have hc30 := (hmB.only hx27 (ni_gt (Nat.lt_of_lt_of_le hb2.lt hl05)))
   have hc31 := (hmC.only hx27 (ni_gt (Nat.lt_of_lt_of_le hbA.lt hx22.size)))
   ·exact ⟨by omega, by simp [hL2], rnm_a hT2 (by simp; omega) g, forall_set hP2 (pts_wcl (c := 0) (pts_at hP2 (by omega))), (hxB.then' hx27 (by simp) (Nat.le_refl _)), hb28, hc30, hc31, forall_set (fun x hx => ownB_only (hoB x hx) (Only.trans (Only.refl _ _) hx27 (fun _ hb_ => .inl hb_))) (ownB_only (hoB (at_nod L2 j) (can_mem (l := L2) (k := j) (by omega))) (Only.trans (Only.refl _ _) hx27 (fun _ hb_ => .inl hb_)))⟩
   (try dsimp only)
   omega
  refine Ws ?_
  refine W_sub _ (tk8 9 8 38 7 4 3 2 39) ?_
  refine W_seq (W_seq (W_region ?_))
  refine Mv ?_
  refine Mv ?_
  refine Ly (Y_lookI Tryd.underlying54 Tryd.underlying3 (by kernel_rfl) rfl rfl hmC) ?_
  refine Ly (Y_eql rfl rfl) ?_
  refine Nx ?_
  refine W_sub _ (sk1 62 rfl (tk8 9 8 38 7 4 3 2 39)) ?_
  refine W_splitd rfl (fun z => ?_) (fun z => ?_)
  ·refine W_region ?_
   refine Mv ?_
   refine Mv ?_
   refine Mv ?_
   refine Ly (Y_lenI Tryd.underlying54 rfl hmC) ?_
   refine Ly (Y_add rfl rfl (by omega) (by omega)) ?_
   refine L_dos (D_updI Tryd.underlying54 Tryd.underlying3 rfl rfl rfl hmC) rfl rfl ?_
   rintro h13 ⟨hx32, -, hb33⟩
   refine Nx ?_
   refine W_sub _ (tk8 9 8 38 7 4 3 2 39) ?_
   have hoM : ∀ x ∈ L2, OwnB h13 (h.size + 1) x.dv x.data := fun x hx => ownB_map (hoB x hx) (Only.trans (Only.refl _ _) hx32 (fun _ hb_ => .inl hb_)) hmC
   refine W_region ?_
   refine Mv ?_
   refine Mv ?_
   refine Mv ?_
   refine Mv ?_
   refine Ly (Y_lookI Tryd.underlying54 Tryd.underlying3 (by kernel_rfl) rfl rfl hb33) ?_
   refine Ly (Y_idxB Tryd.underlying32 (show _ = some 6 by kernel_rfl) rfl rfl (by first | omega | (simp; omega)) (by first | omega | (simp; omega))) ?_
   refine Ly (Y_fldB (off := 5) (by kernel_rfl) rfl) ?_
   have hc37 := (hbB.onlyM hx32 (ni_lt (Nat.lt_of_lt_of_le hbA.lt hx22.size)) hmC)
   have hq36 : Okp nodS h13 (fun b => b ≠ h.size) (⟨(at_nod L2 ((j : Int)).toNat).kind, (at_nod L2 ((j : Int)).toNat).path, (at_nod L2 ((j : Int)).toNat).mode, (at_nod L2 ((j : Int)).toNat).target, (at_nod L2 ((j : Int)).toNat).dv, (at_nod L2 ((j : Int)).toNat).data, iget (iset Mj ((at_nod L2 ((j : Int)).toNat).cls) ((Mj.length : Int) + 1)) ((at_nod L2 ((j : Int)).toNat).cls)⟩ : Nod) := (okp_fld (x := (at_nod L2 ((j : Int)).toNat)) rfl (hc37.okp (k := ((j : Int)).toNat) (by first | omega | (simp; omega))))
   refine L_dos (D_rset (S := nodS) (us := [.int .i64 (iget (iset Mj ((at_nod L2 ((j : Int)).toNat).cls) ((Mj.length : Int) + 1)) ((at_nod L2 ((j : Int)).toNat).cls))]) (a := (⟨(at_nod L2 ((j : Int)).toNat).kind, (at_nod L2 ((j : Int)).toNat).path, (at_nod L2 ((j : Int)).toNat).mode, (at_nod L2 ((j : Int)).toNat).target, (at_nod L2 ((j : Int)).toNat).dv, (at_nod L2 ((j : Int)).toNat).data, iget (iset Mj ((at_nod L2 ((j : Int)).toNat).cls) ((Mj.length : Int) + 1)) ((at_nod L2 ((j : Int)).toNat).cls)⟩ : Nod)) (k := ((j : Int)).toNat) (off := 5) (show _ = some 1 by kernel_rfl) rfl rfl rfl rfl (by simp [Value.oneCell']) hc37 (by first | omega | (simp; omega)) (show 6 ≤ 6 by decide) rfl hq36.1 hq36.2 hp3) rfl rfl ?_
   rintro h14 ⟨hx34, -, hb35⟩
   refine L_nil (X_block (X_then ?_))
   refine W_sub _ (tk6 38 7 4 3 2 39) ?_
   refine W_region ?_
   refine Ly (Y_add rfl rfl (by omega) (by omega)) ?_
   refine Mv ?_
   refine L_nil ?_
   refine X_loop ((j + 1, (L2.set (((j : Int)).toNat) (⟨(at_nod L2 ((j : Int)).toNat).kind, (at_nod L2 ((j : Int)).toNat).path, (at_nod L2 ((j : Int)).toNat).mode, (at_nod L2 ((j : Int)).toNat).target, (at_nod L2 ((j : Int)).toNat).dv, (at_nod L2 ((j : Int)).toNat).data, iget (iset Mj ((at_nod L2 ((j : Int)).toNat).cls) ((Mj.length : Int) + 1)) ((at_nod L2 ((j : Int)).toNat).cls)⟩ : Nod)), iset Mj (at_nod L2 j).cls ((Mj.length : Int) + 1))) (tk6 38 7 4 3 2 39) ?_ ?_
   have hc38 := ((hmB.only hx32 (ni_lt (Nat.lt_of_lt_of_le hmA.lt hx22.size))).only hx34 (ni_gt (Nat.lt_of_lt_of_le hb2.lt hl05)))
   have hc39 := (hb33.only hx34 (ni_gt (Nat.lt_of_lt_of_le hbA.lt hx22.size)))
   have me3 := hxB.then' hx32 (by simp) (Nat.le_trans hxA.size hx22.size)
   ·exact ⟨by omega, by simp [hL2], rnm_b hT2 (by simp; omega) g z, forall_set hP2 (pts_wcl (pts_at hP2 (by omega))), (me3.then' hx34 (by simp) (Nat.le_refl _)), hb35, hc38, hc39, forall_set (fun x hx => ownB_only (hoM x hx) (Only.trans (Only.refl _ _) hx34 (fun _ hb_ => .inl hb_))) (ownB_only (hoM (at_nod L2 j) (can_mem (l := L2) (k := j) (by omega))) (Only.trans (Only.refl _ _) hx34 (fun _ hb_ => .inl hb_)))⟩
   (try dsimp only)
   omega
  refine Ws ?_
  refine W_sub _ (tk8 9 8 38 7 4 3 2 39) ?_
  have hoM : ∀ x ∈ L2, OwnB h11 (h.size + 1) x.dv x.data := hoB
  refine W_region ?_
  refine Mv ?_
  refine Mv ?_
  refine Mv ?_
  refine Mv ?_
  refine Ly (Y_lookI Tryd.underlying54 Tryd.underlying3 (by kernel_rfl) rfl rfl hmC) ?_
  refine Ly (Y_idxB Tryd.underlying32 (show _ = some 6 by kernel_rfl) rfl rfl (by first | omega | (simp; omega)) (by first | omega | (simp; omega))) ?_
  refine Ly (Y_fldB (off := 5) (by kernel_rfl) rfl) ?_
  have hq42 : Okp nodS h11 (fun b => b ≠ h.size) (⟨(at_nod L2 ((j : Int)).toNat).kind, (at_nod L2 ((j : Int)).toNat).path, (at_nod L2 ((j : Int)).toNat).mode, (at_nod L2 ((j : Int)).toNat).target, (at_nod L2 ((j : Int)).toNat).dv, (at_nod L2 ((j : Int)).toNat).data, iget Mj ((at_nod L2 ((j : Int)).toNat).cls)⟩ : Nod) := (okp_fld (x := (at_nod L2 ((j : Int)).toNat)) rfl (hbB.okp (k := ((j : Int)).toNat) (by first | omega | (simp; omega))))
  refine L_dos (D_rset (S := nodS) (us := [.int .i64 (iget Mj ((at_nod L2 ((j : Int)).toNat).cls))]) (a := (⟨(at_nod L2 ((j : Int)).toNat).kind, (at_nod L2 ((j : Int)).toNat).path, (at_nod L2 ((j : Int)).toNat).mode, (at_nod L2 ((j : Int)).toNat).target, (at_nod L2 ((j : Int)).toNat).dv, (at_nod L2 ((j : Int)).toNat).data, iget Mj ((at_nod L2 ((j : Int)).toNat).cls)⟩ : Nod)) (k := ((j : Int)).toNat) (off := 5) (show _ = some 1 by kernel_rfl) rfl rfl rfl rfl (by simp [Value.oneCell']) hbB (by first | omega | (simp; omega)) (show 6 ≤ 6 by decide) rfl hq42.1 hq42.2 hp3) rfl rfl ?_
  rintro h15 ⟨hx40, -, hb41⟩
  refine L_nil (X_block (X_then ?_))
  refine W_sub _ (tk6 38 7 4 3 2 39) ?_
  refine W_region ?_
  refine Ly (Y_add rfl rfl (by omega) (by omega)) ?_
  refine Mv ?_
  refine L_nil ?_
  refine X_loop ((j + 1, (L2.set (((j : Int)).toNat) (⟨(at_nod L2 ((j : Int)).toNat).kind, (at_nod L2 ((j : Int)).toNat).path, (at_nod L2 ((j : Int)).toNat).mode, (at_nod L2 ((j : Int)).toNat).target, (at_nod L2 ((j : Int)).toNat).dv, (at_nod L2 ((j : Int)).toNat).data, iget Mj ((at_nod L2 ((j : Int)).toNat).cls)⟩ : Nod)), Mj)) (tk6 38 7 4 3 2 39) ?_ ?_
  have hc43 := (hmB.only hx40 (ni_gt (Nat.lt_of_lt_of_le hb2.lt hl05)))
  have hc44 := (hmC.only hx40 (ni_gt (Nat.lt_of_lt_of_le hbA.lt hx22.size)))
  ·exact ⟨by omega, by simp [hL2], rnm_c hT2 (by simp; omega) g z, forall_set hP2 (pts_wcl (pts_at hP2 (by omega))), (hxB.then' hx40 (by simp) (Nat.le_refl _)), hb41, hc43, hc44, forall_set (fun x hx => ownB_only (hoM x hx) (Only.trans (Only.refl _ _) hx40 (fun _ hb_ => .inl hb_))) (ownB_only (hoM (at_nod L2 j) (can_mem (l := L2) (k := j) (by omega))) (Only.trans (Only.refl _ _) hx40 (fun _ hb_ => .inl hb_)))⟩
  (try dsimp only)
  omega
 refine W_exit ?_
 refine X_then_exit (X_then_exit ?_)
 refine X_block_hit ?_
 refine X_then ?_
 refine W_sub _ (tk2 3 2) ?_
 refine Wr ?_
 refine Mv ?_
 refine Av ?_
 refine Nx ?_
 refine W_sub _ (tk1 2) ?_
 refine W_ret ?_
 refine X_ret1 rfl rfl ?_
 refine ⟨rfl, hxB, L2, rbuf_and hbB hP2, hL2, ?_, hoB⟩
 have e1 : Lc.map er = L.map er := by have := hT; rw [List.take_of_length_le (by omega), List.take_of_length_le (by omega)] at this; exact this
 rw [rnm_end hT2 (by simp; omega), renum_er, srt_er, e1]; rfl
end Go.Xp
