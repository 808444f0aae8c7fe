/- The reference's canonical form of a tree: what the code does, step by step. -/
import Derived.Test.YtknimfbagbkjfaaDoorCanA
import Derived.Test.YtknimfbagbkjfaaDoorRowW
import Derived.Test.YtknimfbagbkjfaaDoorTreeR
import Derived.Test.YtknimfbagbkjfaaDoorAppE
set_option linter.unusedSimpArgs false
set_option linter.unusedVariables false
set_option linter.unusedSectionVars false
namespace Go.Xp
open Go.Proofs

/-- Where a node with this path goes, among the first k. -/
def ink (p : List UInt8) (S : List Nod) : Nat → Nat
  | 0 => 0
  | k + 1 => if 0 < pcmp (at_nod S k).path p then ink p S k else k + 1
theorem ink_le (p : List UInt8) (S : List Nod) : ∀ k, ink p S k ≤ k
  | 0 => Nat.le_refl _
  | k + 1 => by
    unfold ink
    split
    · exact Nat.le_succ_of_le (ink_le p S k)
    · exact Nat.le_refl _
theorem ink_yes {p : List UInt8} {S : List Nod} {k : Nat} (h0 : 0 < k) (h : 0 < pcmp (at_nod S (k - 1)).path p) : ink p S k = ink p S (k - 1) := by
  obtain ⟨g, rfl⟩ : ∃ g, k = g + 1 := ⟨k - 1, by omega⟩
  conv => lhs; unfold ink
  exact if_pos h
theorem ink_no {p : List UInt8} {S : List Nod} {k : Nat} (h : ¬ (0 < k ∧ 0 < pcmp (at_nod S (k - 1)).path p)) : ink p S k = k := by
  cases k with
  | zero => rfl
  | succ g => unfold ink; exact if_neg (fun q => h ⟨by omega, q⟩)
def ir (S : List Nod) (x : Nod) : List Nod := S.take (ink x.path S S.length) ++ x :: S.drop (ink x.path S S.length)
theorem ink_er (p : List UInt8) (S : List Nod) : ∀ k, k ≤ S.length → ink p (S.map er) k = ink p S k
  | 0, _ => rfl
  | k + 1, h => by
    have e : (at_nod (S.map er) k).path = (at_nod S k).path := by
      unfold at_nod
      rw [List.getD_eq_getElem?_getD, List.getD_eq_getElem?_getD, List.getElem?_map, List.getElem?_eq_getElem (show k < S.length by omega)]; rfl
    unfold ink
    rw [e, ink_er p S k (by omega)]
theorem ir_er (S : List Nod) (x : Nod) : (ir S x).map er = ir (S.map er) (er x) := by
  unfold ir
  rw [List.length_map, show (er x).path = x.path from rfl, ink_er _ _ _ (Nat.le_refl _), List.map_append, List.map_cons, List.map_take, List.map_drop]
def cntf (L : List Nod) (c : Int) : Nat → Nat
  | 0 => 0
  | k + 1 => if (at_nod L k).cls = c then cntf L c k + 1 else cntf L c k
theorem cntf_y {L : List Nod} {c : Int} {k : Nat} (h : (at_nod L k).cls = c) : cntf L c (k + 1) = cntf L c k + 1 := by conv => lhs; unfold cntf; rw [if_pos h]
theorem cntf_n {L : List Nod} {c : Int} {k : Nat} (h : ¬ (at_nod L k).cls = c) : cntf L c (k + 1) = cntf L c k := by conv => lhs; unfold cntf; rw [if_neg h]
theorem cntf_le (L : List Nod) (c : Int) : ∀ k, cntf L c k ≤ k
  | 0 => Nat.le_refl _
  | k + 1 => by have := cntf_le L c k; unfold cntf; split <;> omega
def cset (L : List Nod) (c v : Int) (C : List Int) : Nat → List Int
  | 0 => C
  | k + 1 => if (at_nod L k).cls = c then (cset L c v C k).set k v else cset L c v C k
theorem cset_y {L : List Nod} {c v : Int} {C : List Int} {k : Nat} (h : (at_nod L k).cls = c) : cset L c v C (k + 1) = (cset L c v C k).set k v := by conv => lhs; unfold cset; rw [if_pos h]
theorem cset_n {L : List Nod} {c v : Int} {C : List Int} {k : Nat} (h : ¬ (at_nod L k).cls = c) : cset L c v C (k + 1) = cset L c v C k := by conv => lhs; unfold cset; rw [if_neg h]
@[simp] theorem cset_len (L : List Nod) (c v : Int) (C : List Int) : ∀ k, (cset L c v C k).length = C.length
  | 0 => rfl
  | k + 1 => by unfold cset; split <;> simp [cset_len L c v C k]
/-- The classes after the nodes up to i, and how many there are. -/
def rfold (L : List Nod) : Nat → List Int × Int
  | 0 => (List.replicate L.length 0, 0)
  | i + 1 => if (at_nod L i).cls ≤ 0 ∨ ¬ at_int (rfold L i).1 i = 0 then rfold L i
    else if cntf L (at_nod L i).cls L.length < 2 then rfold L i
    else (cset L (at_nod L i).cls ((rfold L i).2 + 1) (rfold L i).1 L.length, (rfold L i).2 + 1)
theorem rfold_len (L : List Nod) : ∀ i, (rfold L i).1.length = L.length
  | 0 => by simp [rfold]
  | i + 1 => by
    unfold rfold
    split
    · exact rfold_len L i
    · split
      · exact rfold_len L i
      · simp [rfold_len L i]
theorem rfold_le (L : List Nod) : ∀ i : Nat, 0 ≤ (rfold L i).2 ∧ (rfold L i).2 ≤ i
  | 0 => ⟨Int.le_refl _, Int.le_refl _⟩
  | i + 1 => by
    have := rfold_le L i
    unfold rfold
    split
    · omega
    · split
      · omega
      · simp only; omega
def wcs (L : List Nod) (C : List Int) : Nat → List Nod
  | 0 => L
  | k + 1 => (wcs L C k).set k (wcl (at_nod (wcs L C k) k) (at_int C k))
@[simp] theorem wcs_len (L : List Nod) (C : List Int) : ∀ k, (wcs L C k).length = L.length
  | 0 => rfl
  | k + 1 => by unfold wcs; simp [wcs_len L C k]
theorem rfold_a {L : List Nod} {i : Nat} (h : (at_nod L i).cls ≤ 0 ∨ ¬ at_int (rfold L i).1 i = 0) : rfold L (i + 1) = rfold L i := by conv => lhs; unfold rfold; rw [if_pos h]
theorem rfold_b {L : List Nod} {i : Nat} (h : ¬ ((at_nod L i).cls ≤ 0 ∨ ¬ at_int (rfold L i).1 i = 0)) (h2 : cntf L (at_nod L i).cls L.length < 2) : rfold L (i + 1) = rfold L i := by conv => lhs; unfold rfold; rw [if_neg h, if_pos h2]
theorem rfold_c {L : List Nod} {i : Nat} (h : ¬ ((at_nod L i).cls ≤ 0 ∨ ¬ at_int (rfold L i).1 i = 0)) (h2 : ¬ cntf L (at_nod L i).cls L.length < 2) : rfold L (i + 1) = (cset L (at_nod L i).cls ((rfold L i).2 + 1) (rfold L i).1 L.length, (rfold L i).2 + 1) := by conv => lhs; unfold rfold; rw [if_neg h, if_neg h2]
theorem ir_len (S : List Nod) (x : Nod) : (ir S x).length = S.length + 1 := by
  have := ink_le x.path S S.length
  unfold ir; simp; omega
theorem irs {H : Heap} {S : List Nod} {x : Nod} {k : Nat} (o : nodS.ok H x) (hk : k = ink x.path S S.length) : (S.take k ++ [x]) ++ S.drop k = ir S x := by
  subst hk
  unfold ir
  simp
theorem take_er {L : List Nod} {i : Nat} (hi : i < L.length) : (L.take (i + 1)).map er = (L.take i).map er ++ [er (at_nod L i)] := by
  rw [List.take_succ_eq_append_getElem hi, List.map_append]
  unfold at_nod; rw [List.getD_eq_getElem?_getD, List.getElem?_eq_getElem hi]; rfl
theorem at_er (L : List Nod) (k : Nat) : at_nod (L.map er) k = er (at_nod L k) := by
  unfold at_nod
  rw [List.getD_eq_getElem?_getD, List.getD_eq_getElem?_getD, List.getElem?_map]
  cases L[k]? <;> rfl
theorem cntf_er (L : List Nod) (c : Int) : ∀ k, cntf (L.map er) c k = cntf L c k
  | 0 => rfl
  | k + 1 => by unfold cntf; rw [at_er, cntf_er L c k]; rfl
theorem cset_er (L : List Nod) (c v : Int) (C : List Int) : ∀ k, cset (L.map er) c v C k = cset L c v C k
  | 0 => rfl
  | k + 1 => by unfold cset; rw [at_er, cset_er L c v C k]; rfl
theorem rfold_er (L : List Nod) : ∀ i, rfold (L.map er) i = rfold L i
  | 0 => by simp [rfold]
  | i + 1 => by
    have e : (at_nod (L.map er) i).cls = (at_nod L i).cls := by rw [at_er]; rfl
    unfold rfold
    rw [rfold_er L i, e, cntf_er, cset_er, List.length_map]
theorem wcs_er (L : List Nod) (C : List Int) : ∀ k, (wcs L C k).map er = wcs (L.map er) C k
  | 0 => rfl
  | k + 1 => by
    unfold wcs
    rw [List.map_set, wcs_er L C k, ← wcs_er L C k, at_er]; rfl
theorem wcs_ok {H : Heap} {L : List Nod} {C : List Int} {k : Nat} (o : ∀ x ∈ wcs L C k, nodS.ok H x) (hk : k < (wcs L C k).length) : ∀ x ∈ wcs L C (k + 1), nodS.ok H x := fun x hx => by
  rcases List.mem_or_eq_of_mem_set hx with h1 | h1
  · exact o x h1
  · rw [h1]
    have := o (at_nod (wcs L C k) k) (can_mem hk)
    exact this
/-- What the reference's Canon computes. -/
def rcn (L : List Nod) : List Nod := wcs ((L.map er).foldl ir []) (rfold ((L.map er).foldl ir []) L.length).1 L.length

set_option maxRecDepth 100000 in
theorem ref13_CanonR (h : Heap) (l : Value) (L : List Nod) (hL : Rows nodS h l L) (hm : L.length * 80 ≤ 140737488355328) (hs : ∀ x ∈ L, x.path.length ≤ 140737488355328 ∧ x.data.length ≤ 140737488355328) : Cal Tryd.prog 24 #[l] h (fun v h' => ∃ L', Rows nodS h' v L' ∧ L'.length = L.length ∧ L'.map er = rcn L ∧ Ext h h') := by
 refine Cal_enter (args := [l]) Tryd.func24 rfl rfl rfl (fun σ => ?_)
 refine Wr ?_
 refine Av ?_
 refine L_nil (X_then (W_seq (W_region ?_)))
 refine Av ?_
 refine L_nil (X_then (W_seq (W_seq (W_region ?_))))
 refine Av ?_
 refine L_nil (X_then (W_block ?_))
 refine W_loop (S := Nat × List Nod × Value × Heap) (fun (i, S9, w9, H9) => [(2, .slice none 0 0), (0, l), (3, w9), (4, .int .i64 ((i : Int)))]) (fun (i, S9, w9, H9) h' => i ≤ L.length ∧ S9.length = i ∧ S9.map er = ((L.take i).map er).foldl ir [] ∧ (∀ x ∈ S9, nodS.ok H9 x) ∧ Ext H9 h' ∧ Ext h h' ∧ RowsO nodS h' H9.size w9 S9 ∧ h.size ≤ H9.size ∧ (∀ x ∈ S9, x.path.length ≤ 140737488355328)) (fun (i, S9, w9, H9) => L.length - i) (0, [], .slice none 0 0, h) (tk4 2 0 3 4) ?_ ?_
 ·exact ⟨by omega, rfl, rfl, (fun x hx => by cases hx), (Ext.refl _), (Ext.refl _), RowsO.nil _ _ _, Nat.le_refl _, (fun x hx => by cases hx)⟩
 rintro ⟨i, S9, w9, H9⟩ h1 ⟨hi, hl9, hT9, hk9, hX9, hx9, ho9, hH9, hp9⟩
 show W _ _ _ _ _ [(2, .slice none 0 0), (0, l), (3, w9), (4, .int .i64 ((i : Int)))] _
 refine W_seq (W_seq (W_region ?_))
 refine Mv ?_
 refine Mv ?_
 refine Ly (Y_lenr Tryd.underlying32 rfl (hL.ext hx9)) ?_
 refine Ly (Y_lss rfl rfl) ?_
 refine Nx ?_
 refine W_sub _ (tk5 18 2 0 3 4) ?_
 refine W_splitd rfl (fun c => ?_) (fun c => ?_)
 ·refine Ws ?_
  refine W_sub _ (tk4 2 0 3 4) ?_
  refine W_seq (W_block (W_seq (W_region ?_)))
  refine Mv ?_
  refine Mv ?_
  refine Ly (Y_idxr Tryd.underlying32 (show _ = some 6 by kernel_rfl) rfl rfl rfl (hL.ext hx9) (by first | omega | (simp; omega)) (by first | omega | (simp; omega))) ?_
  refine Ly (Y_ldrA0 (k := ((i : Int)).toNat) (us := [.int .i64 ((at_nod L ((i : Int)).toNat).kind), str ((at_nod L ((i : Int)).toNat).path), .int .i64 ((at_nod L ((i : Int)).toNat).mode), str ((at_nod L ((i : Int)).toNat).target), ((at_nod L ((i : Int)).toNat).dv), .int .i64 ((at_nod L ((i : Int)).toNat).cls)]) Tryd.underlying48 rfl (show _ = some 6 by kernel_rfl) rfl rfl (hL.ext hx9) (by first | omega | (simp; omega)) rfl) ?_
  refine L_mks (M_alloc (u := .agg #[.int .i64 0, str [], .int .i64 0, str [], .slice none 0 0, .int .i64 0]) (by kernel_rfl)) rfl rfl rfl ?_
  rintro _ h2 ⟨rfl, hn1⟩
  have hk2 : Blk h2 h1.size [.int .i64 0, str [], .int .i64 0, str [], .slice none 0 0, .int .i64 0] := hn1.blk
  refine L_dos (D_store (us := [.int .i64 ((at_nod L ((i : Int)).toNat).kind), str ((at_nod L ((i : Int)).toNat).path), .int .i64 ((at_nod L ((i : Int)).toNat).mode), str ((at_nod L ((i : Int)).toNat).target), ((at_nod L ((i : Int)).toNat).dv), .int .i64 ((at_nod L ((i : Int)).toNat).cls)]) (show _ = some 6 by kernel_rfl) rfl rfl rfl (by intro u_ hu_; simp only [List.mem_cons, List.not_mem_nil, or_false] at hu_; rcases hu_ with rfl | rfl | rfl | rfl | rfl | rfl <;> first | rfl | exact ((show Bytes _ ((at_nod L ((i : Int)).toNat).dv) ((at_nod L ((i : Int)).toNat).data) from (hL.ext (hx9.trans hn1.ext)).okat (k := ((i : Int)).toNat) (by first | omega | (simp; omega)))).cell1) hk2 (by simp)) rfl rfl ?_
  rintro h3 hp3
  have hk4 : Blk h3 h1.size [.int .i64 ((at_nod L ((i : Int)).toNat).kind), str ((at_nod L ((i : Int)).toNat).path), .int .i64 ((at_nod L ((i : Int)).toNat).mode), str ((at_nod L ((i : Int)).toNat).target), ((at_nod L ((i : Int)).toNat).dv), .int .i64 ((at_nod L ((i : Int)).toNat).cls)] := hp3.blk
  refine Nx ?_
  refine W_sub _ (tk5 5 2 0 3 4) ?_
  have hmm := hs _ (can_mem (l := L) (k := i) (by omega))
  refine Wr ?_
  refine L_mks (M_litb (l := ([] : List UInt8)) (cells := []) (pv := []) (E := 5) (evp (is := []) (os := []) (vs := []) rfl rfl) rfl rfl (fun _ => by kernel_rfl)) rfl rfl rfl ?_
  rintro v5 h4 ⟨ho6, hx7⟩
  refine Ly (Y_fieldAddr (off := 4) (by kernel_rfl) rfl rfl) ?_
  refine Ly (Y_ldblk Tryd.underlying28 rfl rfl (hk4.ext hx7) rfl) ?_
  have me1 := ((hx9.trans hn1.ext).then' hp3.only (by simp) hx9.size).trans hx7
  refine L_mks (M_appb Tryd.underlying28 (by unfold elemRow; kernel_rfl) rfl rfl ho6 (show Bytes _ ((at_nod L ((i : Int)).toNat).dv) ((at_nod L ((i : Int)).toNat).data) from (hL.ext me1).okat (k := ((i : Int)).toNat) (by first | omega | (simp; omega))) hx7.size (by first | omega | (simp; omega))) rfl rfl rfl ?_
  rintro v8 h5 ha9
  refine Ly (Y_fieldAddr (off := 4) (by kernel_rfl) rfl rfl) ?_
  refine L_dos (D_store (us := [v8]) (show _ = some 1 by kernel_rfl) rfl rfl (cells_slice ha9.own.bytes) (by intro u_ hu_; simp only [List.mem_cons, List.not_mem_nil, or_false] at hu_; rcases hu_ with rfl <;> first | rfl | exact (ha9.own.bytes).cell1) (hk4.ext (hx7.then' ha9.only ha9.ge (Nat.le_refl _))) (by simp)) rfl rfl ?_
  rintro h6 hp10
  have hk11 : Blk h6 h1.size [.int .i64 ((at_nod L ((i : Int)).toNat).kind), str ((at_nod L ((i : Int)).toNat).path), .int .i64 ((at_nod L ((i : Int)).toNat).mode), str ((at_nod L ((i : Int)).toNat).target), v8, .int .i64 ((at_nod L ((i : Int)).toNat).cls)] := hp10.blk
  refine Nx ?_
  refine W_sub _ (tk5 5 2 0 3 4) ?_
  refine Wr ?_
  refine Mv ?_
  have me2 := (hn1.ext.then' hp3.only (by simp) (Nat.le_refl _)).trans hx7
  have me3 := me2.then' ha9.only ha9.ge (Nat.le_trans hn1.ext.size hp3.only.size)
  refine Ly (Y_lenr Tryd.underlying32 rfl (ho9.rows.ext (me3.then' hp10.only (by simp) (Nat.le_refl _)))) ?_
  refine Av ?_
  refine Nx ?_
  refine W_sub _ (tk6 6 5 2 0 3 4) ?_
  refine W_cut (S := Nat) (fun k9 => [(5, .pointer (some ⟨h1.size, 0, none⟩)), (2, .slice none 0 0), (0, l), (3, w9), (4, .int .i64 ((i : Int))), (6, .int .i64 ((k9 : Int)))]) (fun k9 h' => k9 ≤ S9.length ∧ k9 = ink (at_nod L i).path S9 S9.length ∧ Ext h6 h') ?_ ?_
  ·refine W_block ?_
   refine W_loop (S := Nat) (fun k => [(5, .pointer (some ⟨h1.size, 0, none⟩)), (2, .slice none 0 0), (0, l), (3, w9), (4, .int .i64 ((i : Int))), (6, .int .i64 ((k : Int)))]) (fun k h' => k ≤ S9.length ∧ ink (at_nod L i).path S9 k = ink (at_nod L i).path S9 S9.length ∧ Ext h6 h') (fun k => k) S9.length (tk6 5 2 0 3 4 6) ?_ ?_
   ·exact ⟨Nat.le_refl _, rfl, Ext.refl _⟩
   rintro k h7 ⟨hk, hkT, hxk⟩
   show W _ _ _ _ _ [(5, .pointer (some ⟨h1.size, 0, none⟩)), (2, .slice none 0 0), (0, l), (3, w9), (4, .int .i64 ((i : Int))), (6, .int .i64 ((k : Int)))] _
   refine W_seq (W_seq ?_)
   by_cases hk0 : 0 < (k : Int)
   ·have hpk := hp9 _ (can_mem (l := S9) (k := ((k : Int) - 1).toNat) (by omega))
    refine W_quiet (fun h' => h' = h7) (by kernel_rfl) (by kernel_rfl) rfl ?_
    refine LQ_yld (fun h_ hI_ => by subst hI_; exact Y_move rfl) rfl rfl rfl ?_
    refine LQ_yld (fun h_ hI_ => by subst hI_; exact Y_gtr rfl rfl) rfl rfl rfl ?_
    refine LQ_yld (fun h_ hI_ => by subst hI_; exact Y_move rfl) rfl rfl rfl ?_
    refine LQ_known (d := 34) true rfl (by exact decide_eq_true (by exact hk0)) ?_
    refine LQ_yld (fun h_ hI_ => by subst hI_; exact Y_move rfl) rfl rfl rfl ?_
    refine LQ_yld (fun h_ hI_ => by subst hI_; exact Y_move rfl) rfl rfl rfl ?_
    refine LQ_yld (fun h_ hI_ => by subst hI_; exact Y_sub rfl rfl (by omega) (by omega)) rfl rfl rfl ?_
    refine LQ_yld (fun h_ hI_ => by subst hI_; exact Y_idxr Tryd.underlying32 (show _ = some 6 by kernel_rfl) rfl rfl rfl (ho9.rows.ext (((((hn1.ext.then' hp3.only (by simp) (Nat.le_refl _)).trans hx7).then' ha9.only ha9.ge (Nat.le_trans hn1.ext.size hp3.only.size)).then' hp10.only (by simp) (Nat.le_refl _)).trans hxk)) (by first | omega | (simp; omega)) (by first | omega | (simp; omega))) rfl rfl rfl ?_
    refine LQ_yld (fun h_ hI_ => by subst hI_; exact Y_fldr (k := ((k : Int) - 1).toNat) (off := 1) (by kernel_rfl) rfl (ho9.rows.ext (((((hn1.ext.then' hp3.only (by simp) (Nat.le_refl _)).trans hx7).then' ha9.only ha9.ge (Nat.le_trans hn1.ext.size hp3.only.size)).then' hp10.only (by simp) (Nat.le_refl _)).trans hxk)) (by first | omega | (simp; omega))) rfl rfl rfl ?_
    refine LQ_yld (fun h_ hI_ => by subst hI_; exact Y_ldr1 (off := 1) (k := ((k : Int) - 1).toNat) (u := str ((at_nod S9 ((k : Int) - 1).toNat).path)) Tryd.underlying9 rfl rfl rfl (ho9.rows.ext (((((hn1.ext.then' hp3.only (by simp) (Nat.le_refl _)).trans hx7).then' ha9.only ha9.ge (Nat.le_trans hn1.ext.size hp3.only.size)).then' hp10.only (by simp) (Nat.le_refl _)).trans hxk)) (by first | omega | (simp; omega)) rfl) rfl rfl rfl ?_
    refine LQ_yld (fun h_ hI_ => by subst hI_; exact Y_fieldAddr (off := 1) (by kernel_rfl) rfl rfl) rfl rfl rfl ?_
    refine LQ_yld (fun h_ hI_ => by subst hI_; exact Y_ldblk Tryd.underlying9 rfl rfl (hk11.ext hxk) rfl) rfl rfl rfl ?_
    refine LQ_call (v := .int .i64 (pcmp ((at_nod S9 ((k : Int) - 1).toNat).path) ((at_nod L ((i : Int)).toNat).path))) (fun _ _ => E_call (by kernel_rfl) rfl) (fun h_ hI_ => by subst hI_; exact (ref08_Compare _ ((at_nod S9 ((k : Int) - 1).toNat).path) ((at_nod L ((i : Int)).toNat).path) (by first | omega | rfl | (simp <;> omega)))) rfl rfl rfl ?_
    refine LQ_yld (fun h_ hI_ => by subst hI_; exact Y_gtr rfl rfl) rfl rfl rfl ?_
    refine LQ_yld (fun h_ hI_ => by subst hI_; exact Y_pick_t rfl rfl) rfl rfl rfl ?_
    refine LQ_nil ?_
    rintro h7 rfl
    refine X_then ?_
    refine W_sub _ (tk7 45 5 2 0 3 4 6) ?_
    refine W_splitd rfl (fun d => ?_) (fun d => ?_)
    ·refine Ws ?_
     refine W_sub _ (tk6 5 2 0 3 4 6) ?_
     refine W_block (W_region ?_)
     refine Mv ?_
     refine Ly (Y_sub rfl rfl (by omega) (by omega)) ?_
     refine Av ?_
     refine L_nil (X_block ?_)
     refine X_loop (k - 1) (sk5 5 2 0 3 4 rfl rfl rfl rfl rfl (sk1 6 (lki rfl (by omega)) sN)) ?_ ?_
     ·exact ⟨by omega, by rw [show ((k : Int) - 1).toNat = k - 1 by omega] at d; exact (ink_yes (by omega) d).symm.trans hkT, hxk⟩
     (try dsimp only)
     omega
    refine W_exit ?_
    refine X_then_exit (X_then_exit ?_)
    refine X_block_hit ?_
    refine X_cut (k) (tk6 5 2 0 3 4 6) ?_
    exact ⟨hk, by rw [show ((k : Int) - 1).toNat = k - 1 by omega] at d; exact (ink_no (fun q => d q.2)).symm.trans hkT, hxk⟩
   refine W_quiet (fun h' => h' = h7) (by kernel_rfl) (by kernel_rfl) rfl ?_
   refine LQ_yld (fun h_ hI_ => by subst hI_; exact Y_move rfl) rfl rfl rfl ?_
   refine LQ_yld (fun h_ hI_ => by subst hI_; exact Y_gtr rfl rfl) rfl rfl rfl ?_
   refine LQ_yld (fun h_ hI_ => by subst hI_; exact Y_move rfl) rfl rfl rfl ?_
   refine LQ_known (d := 34) false rfl (by exact decide_eq_false (by exact hk0)) ?_
   refine LQ_skip rfl rfl rfl ?_
   refine LQ_skip rfl rfl rfl ?_
   refine LQ_skip rfl rfl rfl ?_
   refine LQ_skip rfl rfl rfl ?_
   refine LQ_skip rfl rfl rfl ?_
   refine LQ_skip rfl rfl rfl ?_
   refine LQ_skip rfl rfl rfl ?_
   refine LQ_skip rfl rfl rfl ?_
   refine LQ_skip rfl rfl rfl ?_
   refine LQ_skip rfl rfl rfl ?_
   refine LQ_yld (fun h_ hI_ => by subst hI_; exact Y_pick_f rfl rfl) rfl rfl rfl ?_
   refine LQ_nil ?_
   rintro h7 rfl
   refine X_then ?_
   refine W_sub _ (tk7 45 5 2 0 3 4 6) ?_
   refine W_false rfl ?_
   refine W_exit ?_
   refine X_then_exit (X_then_exit ?_)
   refine X_block_hit ?_
   refine X_cut (k) (tk6 5 2 0 3 4 6) ?_
   exact ⟨hk, (ink_no (fun q => hk0 (by omega))).symm.trans hkT, hxk⟩
  rintro k9 h8 ⟨hk9a, hk9b, hx9c⟩
  show W _ _ _ _ _ [(5, .pointer (some ⟨h1.size, 0, none⟩)), (2, .slice none 0 0), (0, l), (3, w9), (4, .int .i64 ((i : Int))), (6, .int .i64 ((k9 : Int)))] _
  have me4 := (me3.then' hp10.only (by simp) (Nat.le_refl _)).trans hx9c
  have hkA : ∀ x ∈ S9, nodS.ok h8 x := fun x hx => nodS.ext (hk9 x hx) (hX9.trans me4)
  have okn : nodS.ok h8 (⟨(at_nod L i).kind, (at_nod L i).path, (at_nod L i).mode, (at_nod L i).target, v8, (at_nod L i).data, (at_nod L i).cls⟩ : Nod) := ((ha9.own.only1 hp10.only (Nat.lt_of_lt_of_le hk2.lt hp3.only.size)).ext hx9c).bytes
  refine Wr ?_
  refine L_mks (M_litr0 (S := nodS) (cells := []) (E := 48) rfl rfl (fun _ => by kernel_rfl)) rfl rfl rfl ?_
  rintro v12 h9 ⟨ho13, hx14⟩
  refine Mv ?_
  refine Mv ?_
  have hb15 : Rows nodS h9 (slcut 6 0 ((k9 : Int)).toNat w9) (S9.take ((k9 : Int)).toNat) := ((ho9.rows.ext (me4.trans hx14)).cuth (hi := ((k9 : Int)).toNat) (by omega))
  refine Ly (Y_cutr_h Tryd.underlying32 (show _ = some 6 by kernel_rfl) rfl rfl (ho9.rows.ext (me4.trans hx14)) rfl (by omega) (by omega)) ?_
  refine L_mks (M_appe (z := 6) (bytes := 80) (z0 := (.agg #[.int .i64 0, str [], .int .i64 0, str [], .slice none 0 0, .int .i64 0])) Tryd.underlying32 (by unfold elemRow; kernel_rfl) rfl rfl (by decide) rfl rfl ho13 hb15 hx14.size (by first | (simp; omega) | (simp; done))) rfl rfl rfl ?_
  rintro v16 h10 ⟨ho17, hx18⟩
  refine Av ?_
  refine Nx ?_
  refine W_sub _ (tk7 7 5 2 0 3 4 6) ?_
  refine Wr ?_
  refine Mv ?_
  refine Ly (Y_ldbox (us := [.int .i64 ((at_nod L ((i : Int)).toNat).kind), str ((at_nod L ((i : Int)).toNat).path), .int .i64 ((at_nod L ((i : Int)).toNat).mode), str ((at_nod L ((i : Int)).toNat).target), v8, .int .i64 ((at_nod L ((i : Int)).toNat).cls)]) Tryd.underlying48 rfl (show _ = some 6 by kernel_rfl) rfl (hk11.ext ((hx9c.trans hx14).trans hx18)) rfl) ?_
  refine L_mks (M_litr (S := nodS) (l := ([⟨(at_nod L ((i : Int)).toNat).kind, (at_nod L ((i : Int)).toNat).path, (at_nod L ((i : Int)).toNat).mode, (at_nod L ((i : Int)).toNat).target, v8, (at_nod L ((i : Int)).toNat).data, (at_nod L ((i : Int)).toNat).cls⟩] : List Nod)) (cells := [.int .i64 ((at_nod L ((i : Int)).toNat).kind), str ((at_nod L ((i : Int)).toNat).path), .int .i64 ((at_nod L ((i : Int)).toNat).mode), str ((at_nod L ((i : Int)).toNat).target), v8, .int .i64 ((at_nod L ((i : Int)).toNat).cls)]) (pv := [(0, .agg #[.int .i64 ((at_nod L ((i : Int)).toNat).kind), str ((at_nod L ((i : Int)).toNat).path), .int .i64 ((at_nod L ((i : Int)).toNat).mode), str ((at_nod L ((i : Int)).toNat).target), v8, .int .i64 ((at_nod L ((i : Int)).toNat).cls)])]) (E := 48) (evp (is := [0]) (os := [.tmp 54]) (vs := [.agg #[.int .i64 ((at_nod L ((i : Int)).toNat).kind), str ((at_nod L ((i : Int)).toNat).path), .int .i64 ((at_nod L ((i : Int)).toNat).mode), str ((at_nod L ((i : Int)).toNat).target), v8, .int .i64 ((at_nod L ((i : Int)).toNat).cls)]]) rfl rfl) rfl rfl (fun _ => by kernel_rfl) (by simp only [List.mem_cons, List.not_mem_nil, or_false, forall_eq_or_imp, forall_eq]; exact ((ha9.own.only1 hp10.only (Nat.lt_of_lt_of_le hk2.lt hp3.only.size)).ext ((hx9c.trans hx14).trans hx18)).bytes)) rfl rfl rfl ?_
  rintro v19 h11 ⟨ho20, hx21⟩
  refine L_mks (M_apprO (z := 6) (bytes := 80) (z0 := (.agg #[.int .i64 0, str [], .int .i64 0, str [], .slice none 0 0, .int .i64 0])) Tryd.underlying32 (by unfold elemRow; kernel_rfl) rfl rfl (by decide) rfl rfl (ho17.ext hx21) ho20.rows (Nat.le_trans (Nat.le_trans hx14.size hx18.size) hx21.size) (by first | (simp; omega) | (simp; done)) ((hx14.trans hx18).trans hx21) (Nat.le_refl _) (fun x hx => hkA x (List.mem_of_mem_take hx)) (fun x hx => by rw [List.mem_singleton.1 hx]; exact okn)) rfl rfl rfl ?_
  rintro v22 h12 ha23
  refine Av ?_
  refine Nx ?_
  refine W_sub _ (tk6 7 2 0 3 4 6) ?_
  refine W_region ?_
  refine Mv ?_
  refine Mv ?_
  refine Mv ?_
  have me5 := Nat.le_trans (Nat.le_trans hn1.ext.size hp3.only.size) hx7.size
  have me6 := Nat.le_trans (Nat.le_trans me5 ha9.only.size) hp10.only.size
  have me7 := (((me4.trans hx14).trans hx18).trans hx21).then' ha23.only ha23.ge (Nat.le_trans me6 hx9c.size)
  have hb24 : Rows nodS h12 (slcut 6 ((k9 : Int)).toNat S9.length w9) (S9.drop ((k9 : Int)).toNat) := ((ho9.rows.ext me7).cutl (lo := ((k9 : Int)).toNat) (by omega))
  refine Ly (Y_cutr_l Tryd.underlying32 (show _ = some 6 by kernel_rfl) rfl rfl (ho9.rows.ext me7) rfl (by omega) (by omega)) ?_
  have me8 := Nat.le_trans (Nat.le_trans (Nat.le_trans hx14.size hx18.size) hx21.size) ha23.only.size
  have me9 := ((hx14.trans hx18).trans hx21).then' ha23.only ha23.ge (Nat.le_refl _)
  refine L_mks (M_apprO (z := 6) (bytes := 80) (z0 := (.agg #[.int .i64 0, str [], .int .i64 0, str [], .slice none 0 0, .int .i64 0])) Tryd.underlying32 (by unfold elemRow; kernel_rfl) rfl rfl (by decide) rfl rfl ha23.own hb24 me8 (by first | (simp; omega) | (simp; done)) me9 (Nat.le_refl _) (fun x hx => (List.mem_append.1 hx).elim (fun q => hkA x (List.mem_of_mem_take q)) (fun q => by rw [List.mem_singleton.1 q]; exact okn)) (fun x hx => hkA x (List.mem_of_mem_drop hx))) rfl rfl rfl ?_
  rintro v25 h13 ha26
  refine Av ?_
  refine L_nil (X_block (X_then ?_))
  refine W_sub _ (tk4 3 2 0 4) ?_
  refine W_region ?_
  refine Mv ?_
  refine Ly (Y_add rfl rfl (by omega) (by omega)) ?_
  refine Av ?_
  refine L_nil ?_
  refine X_loop ((i + 1, (((S9.take ((k9 : Int)).toNat) ++ ([⟨(at_nod L ((i : Int)).toNat).kind, (at_nod L ((i : Int)).toNat).path, (at_nod L ((i : Int)).toNat).mode, (at_nod L ((i : Int)).toNat).target, v8, (at_nod L ((i : Int)).toNat).data, (at_nod L ((i : Int)).toNat).cls⟩] : List Nod)) ++ (S9.drop ((k9 : Int)).toNat)), v25, h8)) (tk4 2 0 3 4) ?_ ?_
  ·exact ⟨by omega, (congrArg List.length (irs okn hk9b)).trans (by rw [ir_len]; omega), (congrArg (List.map er) (irs okn hk9b)).trans (by rw [ir_er, hT9, take_er (by omega), List.foldl_append]; rfl), fun x hx => (List.mem_append.1 hx).elim (fun q => (List.mem_append.1 q).elim (fun q => hkA x (List.mem_of_mem_take q)) (fun q => by rw [List.mem_singleton.1 q]; exact okn)) (fun q => hkA x (List.mem_of_mem_drop q)), (me9.then' ha26.only ha26.ge (Nat.le_refl _)), ((((((((me1.then' ha9.only ha9.ge (Nat.le_trans (Nat.le_trans hx9.size hn1.ext.size) hp3.only.size)).then' hp10.only (by simp) hx9.size).trans hx9c).trans hx14).trans hx18).trans hx21).then' ha23.only ha23.ge (Nat.le_trans (Nat.le_trans (Nat.le_trans (Nat.le_trans (Nat.le_trans (Nat.le_trans hx9.size hn1.ext.size) hp3.only.size) hx7.size) ha9.only.size) hp10.only.size) hx9c.size)).then' ha26.only ha26.ge (Nat.le_trans (Nat.le_trans (Nat.le_trans (Nat.le_trans (Nat.le_trans (Nat.le_trans hx9.size hn1.ext.size) hp3.only.size) hx7.size) ha9.only.size) hp10.only.size) hx9c.size)), ha26.own, (Nat.le_trans (Nat.le_trans (Nat.le_trans (Nat.le_trans (Nat.le_trans (Nat.le_trans hx9.size hn1.ext.size) hp3.only.size) hx7.size) ha9.only.size) hp10.only.size) hx9c.size), fun x hx => (List.mem_append.1 hx).elim (fun q => (List.mem_append.1 q).elim (fun q => hp9 x (List.mem_of_mem_take q)) (fun q => by rw [List.mem_singleton.1 q]; exact hmm.1)) (fun q => hp9 x (List.mem_of_mem_drop q))⟩
  (try dsimp only)
  omega
 refine W_exit ?_
 refine X_then_exit (X_then_exit ?_)
 refine X_block_hit ?_
 refine X_then ?_
 refine W_sub _ (tk2 2 3) ?_
 refine Wr ?_
 refine Mv ?_
 refine Ly (Y_lenr Tryd.underlying32 rfl ho9.rows) ?_
 refine L_mks (M_makeI Tryd.underlying72 (by unfold elemRow; kernel_rfl) rfl rfl rfl (by omega) (by omega) (by omega)) rfl rfl rfl ?_
 rintro _ h14 ⟨rfl, hx27, hb28_⟩
 have hb28 := hb28_ (fun _ => False)
 have hp29 : ¬ (fun _ : Nat => False) h1.size := fun q => q
 refine Av ?_
 refine Nx ?_
 refine W_sub _ (tk3 8 2 3) ?_
 refine Wr ?_
 refine Av ?_
 refine L_nil (X_then (W_seq (W_seq (W_region ?_))))
 refine Av ?_
 refine L_nil (X_then (W_block ?_))
 refine W_loop (S := Nat) (fun j => [(8, .slice (some ⟨h1.size, 0, none⟩) (((S9.length : Int)).toNat) (((S9.length : Int)).toNat)), (2, .slice none 0 0), (3, w9), (9, .int .i64 ((rfold S9 j).2)), (10, .int .i64 ((j : Int)))]) (fun j h' => j ≤ S9.length ∧ Ext h1 h' ∧ RBuf intS h' h1.size (fun _ => False) (rfold S9 j).1) (fun j => S9.length - j) 0 (tk5 8 2 3 9 10) ?_ ?_
 ·exact ⟨Nat.zero_le _, hx27, hb28⟩
 rintro j h15 ⟨hj, hxJ, hbI⟩
 show W _ _ _ _ _ [(8, .slice (some ⟨h1.size, 0, none⟩) (((S9.length : Int)).toNat) (((S9.length : Int)).toNat)), (2, .slice none 0 0), (3, w9), (9, .int .i64 ((rfold S9 j).2)), (10, .int .i64 ((j : Int)))] _
 refine W_seq (W_seq (W_region ?_))
 refine Mv ?_
 refine Mv ?_
 refine Ly (Y_lenr Tryd.underlying32 rfl (ho9.rows.ext hxJ)) ?_
 refine Ly (Y_lss rfl rfl) ?_
 refine Nx ?_
 refine W_sub _ (tk6 68 8 2 3 9 10) ?_
 refine W_splitd rfl (fun c2 => ?_) (fun c2 => ?_)
 ·refine Ws ?_
  refine W_sub _ (tk5 8 2 3 9 10) ?_
  have hrc := rfold_len S9 j
  refine W_seq (W_block (W_seq ?_))
  refine W_cut (S := Unit) (fun _ => [(83, .bool (decide ((((at_nod S9 ((j : Int)).toNat).cls) ≤ 0) ∨ (¬ (at_int ((rfold S9 j).1) ((j : Int)).toNat) = 0)))), (8, .slice (some ⟨h1.size, 0, none⟩) (((S9.length : Int)).toNat) (((S9.length : Int)).toNat)), (2, .slice none 0 0), (3, w9), (9, .int .i64 ((rfold S9 j).2)), (10, .int .i64 ((j : Int)))]) (fun _ h' => h' = h15) ?_ ?_
  ·refine W_region ?_
   refine Mv ?_
   refine Mv ?_
   refine Ly (Y_idxr Tryd.underlying32 (show _ = some 6 by kernel_rfl) rfl rfl rfl (ho9.rows.ext hxJ) (by first | omega | (simp; omega)) (by first | omega | (simp; omega))) ?_
   refine Ly (Y_fldr (k := ((j : Int)).toNat) (off := 5) (by kernel_rfl) rfl (ho9.rows.ext hxJ) (by first | omega | (simp; omega))) ?_
   refine Ly (Y_ldr1 (off := 5) (k := ((j : Int)).toNat) (u := .int .i64 ((at_nod S9 ((j : Int)).toNat).cls)) Tryd.underlying3 rfl rfl rfl (ho9.rows.ext hxJ) (by first | omega | (simp; omega)) rfl) ?_
   refine Ly (Y_leq rfl rfl) ?_
   refine Mv ?_
   refine L_splitd (d := 77) rfl (fun g0 => ?_) (fun g0 => ?_)
   ·refine Skp ?_
    refine Skp ?_
    refine Skp ?_
    refine Skp ?_
    refine Skp ?_
    refine Ly (Y_pick_t rfl rfl) ?_
    refine L_nil ?_
    exact X_cut () (sk1 83 (lkb rfl (by first | (simp only [eq_true g0, SB]; done) | (simp only [eq_true g0, SB]; rfl))) (sk1 8 rfl (sk1 2 rfl (sk1 3 rfl (sk1 9 rfl (tk1 10)))))) rfl
   refine Ly (Y_move rfl) ?_
   refine Mv ?_
   refine Ly (Y_idxB Tryd.underlying72 (show _ = some 1 by kernel_rfl) rfl rfl (by first | omega | (simp; omega)) (by first | omega | (simp; omega))) ?_
   refine Ly (Y_ldr0 (k := ((j : Int)).toNat) Tryd.underlying3 rfl rfl rfl (hbI.rows (by first | omega | (simp; omega))) (by first | omega | (simp; omega)) rfl) ?_
   refine Ly (Y_neq rfl rfl) ?_
   refine Ly (Y_pick_f rfl rfl) ?_
   refine L_nil ?_
   exact X_cut () (sk1 83 (lkb rfl (by first | (simp only [eq_false g0, SB]; done) | (simp only [eq_false g0, SB]; rfl))) (sk1 8 rfl (sk1 2 rfl (sk1 3 rfl (sk1 9 rfl (tk1 10)))))) rfl
  rintro _ h15 rfl
  show W _ _ _ _ _ [(83, .bool (decide ((((at_nod S9 ((j : Int)).toNat).cls) ≤ 0) ∨ (¬ (at_int ((rfold S9 j).1) ((j : Int)).toNat) = 0)))), (8, .slice (some ⟨h1.size, 0, none⟩) (((S9.length : Int)).toNat) (((S9.length : Int)).toNat)), (2, .slice none 0 0), (3, w9), (9, .int .i64 ((rfold S9 j).2)), (10, .int .i64 ((j : Int)))] _
  refine W_splitd rfl (fun g => ?_) (fun g => ?_)
  ·refine W_exit ?_
   refine X_then_exit ?_
   refine X_block_hit ?_
   refine X_then ?_
   refine W_sub _ (tk5 8 2 3 9 10) ?_
   refine W_region ?_
   refine Mv ?_
   refine Ly (Y_add rfl rfl (by omega) (by omega)) ?_
   refine Av ?_
   refine L_nil ?_
   refine X_loop (j + 1) (sk3 8 2 3 rfl rfl rfl (sk1 9 (lki rfl (by rw [rfold_a (i := j) g])) (tk1 10))) ?_ ?_
   ·exact ⟨by omega, hxJ, RBuf.congr hbI (by rw [rfold_a (i := j) g])⟩
   (try dsimp only)
   omega
  refine Ws ?_
  refine W_sub _ (tk5 8 2 3 9 10) ?_
  refine Wr ?_
  refine Av ?_
  refine L_nil (X_then (W_seq (W_seq (W_region ?_))))
  refine Av ?_
  refine L_nil (X_then (W_block ?_))
  refine W_loop (S := Nat) (fun k => [(8, .slice (some ⟨h1.size, 0, none⟩) (((S9.length : Int)).toNat) (((S9.length : Int)).toNat)), (2, .slice none 0 0), (3, w9), (9, .int .i64 ((rfold S9 j).2)), (10, .int .i64 ((j : Int))), (11, .int .i64 ((cntf S9 (at_nod S9 j).cls k : Int))), (12, .int .i64 ((k : Int)))]) (fun k h' => k ≤ S9.length ∧ h' = h15) (fun k => S9.length - k) 0 (tk7 8 2 3 9 10 11 12) ?_ ?_
  ·exact ⟨Nat.zero_le _, rfl⟩
  rintro k h15 ⟨hk2, rfl⟩
  show W _ _ _ _ _ [(8, .slice (some ⟨h1.size, 0, none⟩) (((S9.length : Int)).toNat) (((S9.length : Int)).toNat)), (2, .slice none 0 0), (3, w9), (9, .int .i64 ((rfold S9 j).2)), (10, .int .i64 ((j : Int))), (11, .int .i64 ((cntf S9 (at_nod S9 j).cls k : Int))), (12, .int .i64 ((k : Int)))] _
  have hcl := cntf_le S9 (at_nod S9 j).cls k
  refine W_seq (W_seq (W_region ?_))
  refine Mv ?_
  refine Mv ?_
  refine Ly (Y_lenr Tryd.underlying32 rfl (ho9.rows.ext hxJ)) ?_
  refine Ly (Y_lss rfl rfl) ?_
  refine Nx ?_
  refine W_sub _ (tk8 87 8 2 3 9 10 11 12) ?_
  refine W_splitd rfl (fun c3 => ?_) (fun c3 => ?_)
  ·refine Ws ?_
   refine W_sub _ (tk7 8 2 3 9 10 11 12) ?_
   refine W_seq (W_block (W_seq ?_))
   refine W_quiet (fun h' => h' = h15) (by kernel_rfl) (by kernel_rfl) rfl ?_
   refine LQ_yld (fun h_ hI_ => by subst hI_; exact Y_move rfl) rfl rfl rfl ?_
   refine LQ_yld (fun h_ hI_ => by subst hI_; exact Y_move rfl) rfl rfl rfl ?_
   refine LQ_yld (fun h_ hI_ => by subst hI_; exact Y_idxr Tryd.underlying32 (show _ = some 6 by kernel_rfl) rfl rfl rfl (ho9.rows.ext hxJ) (by first | omega | (simp; omega)) (by first | omega | (simp; omega))) rfl rfl rfl ?_
   refine LQ_yld (fun h_ hI_ => by subst hI_; exact Y_fldr (k := ((k : Int)).toNat) (off := 5) (by kernel_rfl) rfl (ho9.rows.ext hxJ) (by first | omega | (simp; omega))) rfl rfl rfl ?_
   refine LQ_yld (fun h_ hI_ => by subst hI_; exact Y_ldr1 (off := 5) (k := ((k : Int)).toNat) (u := .int .i64 ((at_nod S9 ((k : Int)).toNat).cls)) Tryd.underlying3 rfl rfl rfl (ho9.rows.ext hxJ) (by first | omega | (simp; omega)) rfl) rfl rfl rfl ?_
   refine LQ_yld (fun h_ hI_ => by subst hI_; exact Y_move rfl) rfl rfl rfl ?_
   refine LQ_yld (fun h_ hI_ => by subst hI_; exact Y_move rfl) rfl rfl rfl ?_
   refine LQ_yld (fun h_ hI_ => by subst hI_; exact Y_idxr Tryd.underlying32 (show _ = some 6 by kernel_rfl) rfl rfl rfl (ho9.rows.ext hxJ) (by first | omega | (simp; omega)) (by first | omega | (simp; omega))) rfl rfl rfl ?_
   refine LQ_yld (fun h_ hI_ => by subst hI_; exact Y_fldr (k := ((j : Int)).toNat) (off := 5) (by kernel_rfl) rfl (ho9.rows.ext hxJ) (by first | omega | (simp; omega))) rfl rfl rfl ?_
   refine LQ_yld (fun h_ hI_ => by subst hI_; exact Y_ldr1 (off := 5) (k := ((j : Int)).toNat) (u := .int .i64 ((at_nod S9 ((j : Int)).toNat).cls)) Tryd.underlying3 rfl rfl rfl (ho9.rows.ext hxJ) (by first | omega | (simp; omega)) rfl) rfl rfl rfl ?_
   refine LQ_yld (fun h_ hI_ => by subst hI_; exact Y_eql rfl rfl) rfl rfl rfl ?_
   refine LQ_nil ?_
   rintro h15 rfl
   refine X_then ?_
   refine W_sub _ (tk8 100 8 2 3 9 10 11 12) ?_
   refine W_splitd rfl (fun e => ?_) (fun e => ?_)
   ·refine W_region ?_
    refine Mv ?_
    refine Ly (Y_add rfl rfl (by omega) (by omega)) ?_
    refine Av ?_
    refine L_nil (X_block (X_then ?_))
    refine W_sub _ (tk7 11 8 2 3 9 10 12) ?_
    refine W_region ?_
    refine Mv ?_
    refine Ly (Y_add rfl rfl (by omega) (by omega)) ?_
    refine Av ?_
    refine L_nil ?_
    refine X_loop (k + 1) (sk5 8 2 3 9 10 rfl rfl rfl rfl rfl (sk1 11 (lki rfl (by rw [cntf_y (c := (at_nod S9 j).cls) (k := k) e]; rfl)) (tk1 12))) ?_ ?_
    ·exact ⟨by omega, rfl⟩
    (try dsimp only)
    omega
   refine W_skip (X_block (X_then ?_))
   refine W_sub _ (tk7 8 2 3 9 10 11 12) ?_
   refine W_region ?_
   refine Mv ?_
   refine Ly (Y_add rfl rfl (by omega) (by omega)) ?_
   refine Av ?_
   refine L_nil ?_
   refine X_loop (k + 1) (sk5 8 2 3 9 10 rfl rfl rfl rfl rfl (sk1 11 (lki rfl (by rw [cntf_n (c := (at_nod S9 j).cls) (k := k) e])) (tk1 12))) ?_ ?_
   ·exact ⟨by omega, rfl⟩
   (try dsimp only)
   omega
  refine W_exit ?_
  refine X_then_exit (X_then_exit ?_)
  refine X_block_hit ?_
  refine X_then ?_
  refine W_sub _ (tk6 8 2 3 9 10 11) ?_
  obtain rfl : k = S9.length := by omega
  refine W_seq (W_seq (W_region ?_))
  refine Mv ?_
  refine Ly (Y_lss rfl rfl) ?_
  refine Nx ?_
  refine W_sub _ (tk6 104 8 2 3 9 10) ?_
  refine W_splitd rfl (fun f => ?_) (fun f => ?_)
  ·refine W_exit ?_
   refine X_then_exit ?_
   refine X_block_hit ?_
   refine X_then ?_
   refine W_sub _ (tk5 8 2 3 9 10) ?_
   refine W_region ?_
   refine Mv ?_
   refine Ly (Y_add rfl rfl (by omega) (by omega)) ?_
   refine Av ?_
   refine L_nil ?_
   refine X_loop (j + 1) (sk3 8 2 3 rfl rfl rfl (sk1 9 (lki rfl (by rw [rfold_b (i := j) g (by omega)])) (tk1 10))) ?_ ?_
   ·exact ⟨by omega, hxJ, RBuf.congr hbI (by rw [rfold_b (i := j) g (by omega)])⟩
   (try dsimp only)
   omega
  refine Ws ?_
  refine W_sub _ (tk5 8 2 3 9 10) ?_
  have hrl := rfold_le S9 j
  refine Wr ?_
  refine Mv ?_
  refine Ly (Y_add rfl rfl (by omega) (by omega)) ?_
  refine Av ?_
  refine Nx ?_
  refine W_sub _ (tk5 9 8 2 3 10) ?_
  refine Wr ?_
  refine Av ?_
  refine L_nil (X_then (W_block ?_))
  refine W_loop (S := Nat) (fun q => [(9, .int .i64 (((rfold S9 j).2) + 1)), (8, .slice (some ⟨h1.size, 0, none⟩) (((S9.length : Int)).toNat) (((S9.length : Int)).toNat)), (2, .slice none 0 0), (3, w9), (10, .int .i64 ((j : Int))), (13, .int .i64 ((q : Int)))]) (fun q h' => q ≤ S9.length ∧ Ext h1 h' ∧ RBuf intS h' h1.size (fun _ => False) (cset S9 (at_nod S9 j).cls ((rfold S9 j).2 + 1) (rfold S9 j).1 q)) (fun q => S9.length - q) 0 (tk6 9 8 2 3 10 13) ?_ ?_
  ·exact ⟨Nat.zero_le _, hxJ, hbI⟩
  rintro q h16 ⟨hq, hxQ, hbQ⟩
  show W _ _ _ _ _ [(9, .int .i64 (((rfold S9 j).2) + 1)), (8, .slice (some ⟨h1.size, 0, none⟩) (((S9.length : Int)).toNat) (((S9.length : Int)).toNat)), (2, .slice none 0 0), (3, w9), (10, .int .i64 ((j : Int))), (13, .int .i64 ((q : Int)))] _
  refine W_seq (W_seq (W_region ?_))
  refine Mv ?_
  refine Mv ?_
  refine Ly (Y_lenr Tryd.underlying32 rfl (ho9.rows.ext hxQ)) ?_
  refine Ly (Y_lss rfl rfl) ?_
  refine Nx ?_
  refine W_sub _ (tk7 110 9 8 2 3 10 13) ?_
  refine W_splitd rfl (fun c4 => ?_) (fun c4 => ?_)
  ·refine Ws ?_
   refine W_sub _ (tk6 9 8 2 3 10 13) ?_
   refine W_seq (W_block (W_seq ?_))
   refine W_quiet (fun h' => h' = h16) (by kernel_rfl) (by kernel_rfl) rfl ?_
   refine LQ_yld (fun h_ hI_ => by subst hI_; exact Y_move rfl) rfl rfl rfl ?_
   refine LQ_yld (fun h_ hI_ => by subst hI_; exact Y_move rfl) rfl rfl rfl ?_
   refine LQ_yld (fun h_ hI_ => by subst hI_; exact Y_idxr Tryd.underlying32 (show _ = some 6 by kernel_rfl) rfl rfl rfl (ho9.rows.ext hxQ) (by first | omega | (simp; omega)) (by first | omega | (simp; omega))) rfl rfl rfl ?_
   refine LQ_yld (fun h_ hI_ => by subst hI_; exact Y_fldr (k := ((q : Int)).toNat) (off := 5) (by kernel_rfl) rfl (ho9.rows.ext hxQ) (by first | omega | (simp; omega))) rfl rfl rfl ?_
   refine LQ_yld (fun h_ hI_ => by subst hI_; exact Y_ldr1 (off := 5) (k := ((q : Int)).toNat) (u := .int .i64 ((at_nod S9 ((q : Int)).toNat).cls)) Tryd.underlying3 rfl rfl rfl (ho9.rows.ext hxQ) (by first | omega | (simp; omega)) rfl) rfl rfl rfl ?_
   refine LQ_yld (fun h_ hI_ => by subst hI_; exact Y_move rfl) rfl rfl rfl ?_
   refine LQ_yld (fun h_ hI_ => by subst hI_; exact Y_move rfl) rfl rfl rfl ?_
   refine LQ_yld (fun h_ hI_ => by subst hI_; exact Y_idxr Tryd.underlying32 (show _ = some 6 by kernel_rfl) rfl rfl rfl (ho9.rows.ext hxQ) (by first | omega | (simp; omega)) (by first | omega | (simp; omega))) rfl rfl rfl ?_
   refine LQ_yld (fun h_ hI_ => by subst hI_; exact Y_fldr (k := ((j : Int)).toNat) (off := 5) (by kernel_rfl) rfl (ho9.rows.ext hxQ) (by first | omega | (simp; omega))) rfl rfl rfl ?_
   refine LQ_yld (fun h_ hI_ => by subst hI_; exact Y_ldr1 (off := 5) (k := ((j : Int)).toNat) (u := .int .i64 ((at_nod S9 ((j : Int)).toNat).cls)) Tryd.underlying3 rfl rfl rfl (ho9.rows.ext hxQ) (by first | omega | (simp; omega)) rfl) rfl rfl rfl ?_
   refine LQ_yld (fun h_ hI_ => by subst hI_; exact Y_eql rfl rfl) rfl rfl rfl ?_
   refine LQ_nil ?_
   rintro h16 rfl
   refine X_then ?_
   refine W_sub _ (tk7 123 9 8 2 3 10 13) ?_
   refine W_splitd rfl (fun e2 => ?_) (fun e2 => ?_)
   ·refine W_region ?_
    refine Mv ?_
    refine Mv ?_
    refine Mv ?_
    refine Ly (Y_idxB Tryd.underlying72 (show _ = some 1 by kernel_rfl) rfl rfl (by first | omega | (simp; omega)) (by first | omega | (simp; omega))) ?_
    refine L_dos (D_rsetA (S := intS) (us := [.int .i64 (((rfold S9 j).2) + 1)]) (a := ((rfold S9 j).2) + 1) (k := ((q : Int)).toNat) (show _ = some 1 by kernel_rfl) rfl rfl rfl rfl hbQ (by first | omega | (simp; omega)) rfl (okp_int (h := h16) (p := fun _ : Nat => False)).1 (okp_int (h := h16) (p := fun _ : Nat => False)).2 hp29) rfl rfl ?_
    rintro h17 ⟨hx30, -, hb31⟩
    refine L_nil (X_block (X_then ?_))
    refine W_sub _ (tk6 9 8 2 3 10 13) ?_
    refine W_region ?_
    refine Mv ?_
    refine Ly (Y_add rfl rfl (by omega) (by omega)) ?_
    refine Av ?_
    refine L_nil ?_
    refine X_loop (q + 1) (tk6 9 8 2 3 10 13) ?_ ?_
    ·exact ⟨by omega, (hxQ.then' hx30 (by simp) (Nat.le_refl _)), RBuf.congr hb31 (by rw [cset_y (c := (at_nod S9 j).cls) (k := q) e2]; rfl)⟩
    (try dsimp only)
    omega
   refine W_skip (X_block (X_then ?_))
   refine W_sub _ (tk6 9 8 2 3 10 13) ?_
   refine W_region ?_
   refine Mv ?_
   refine Ly (Y_add rfl rfl (by omega) (by omega)) ?_
   refine Av ?_
   refine L_nil ?_
   refine X_loop (q + 1) (tk6 9 8 2 3 10 13) ?_ ?_
   ·exact ⟨by omega, hxQ, RBuf.congr hbQ (by rw [cset_n (c := (at_nod S9 j).cls) (k := q) e2])⟩
   (try dsimp only)
   omega
  refine W_exit ?_
  refine X_then_exit (X_then_exit ?_)
  refine X_block_hit ?_
  refine X_block (X_then ?_)
  refine W_sub _ (tk5 9 8 2 3 10) ?_
  obtain rfl : q = S9.length := by omega
  refine W_region ?_
  refine Mv ?_
  refine Ly (Y_add rfl rfl (by omega) (by omega)) ?_
  refine Av ?_
  refine L_nil ?_
  refine X_loop (j + 1) (sk3 8 2 3 rfl rfl rfl (sk1 9 (lki rfl (by rw [rfold_c (i := j) g (by omega)])) (tk1 10))) ?_ ?_
  ·exact ⟨by omega, hxQ, RBuf.congr hbQ (by rw [rfold_c (i := j) g (by omega)])⟩
  (try dsimp only)
  omega
 refine W_exit ?_
 refine X_then_exit (X_then_exit ?_)
 refine X_block_hit ?_
 refine X_then ?_
 refine W_sub _ (tk3 8 2 3) ?_
 obtain rfl : j = S9.length := by omega
 have hwM : ∀ b ∈ (blockOf w9).toList, b < h1.size := fun b hb => (Own.lt ho9.1 b (by simpa using hb)).2
 refine W_seq (W_seq (W_region ?_))
 refine Av ?_
 refine L_nil (X_then (W_block ?_))
 refine W_loop (S := Nat) (fun k => [(8, .slice (some ⟨h1.size, 0, none⟩) (((S9.length : Int)).toNat) (((S9.length : Int)).toNat)), (2, .slice none 0 0), (3, w9), (14, .int .i64 ((k : Int)))]) (fun k h' => k ≤ S9.length ∧ (∀ x ∈ wcs S9 (rfold S9 S9.length).1 k, nodS.ok H9 x) ∧ RBuf intS h' h1.size (fun _ => False) (rfold S9 S9.length).1 ∧ Ext H9 h' ∧ Ext h h' ∧ RowsO nodS h' H9.size w9 (wcs S9 (rfold S9 S9.length).1 k)) (fun k => S9.length - k) 0 (tk4 8 2 3 14) ?_ ?_
 ·exact ⟨Nat.zero_le _, hk9, hbI, hX9.trans hxJ, (hx9.trans hxJ), (ho9.ext hxJ)⟩
 rintro k h18 ⟨hk, hkK, hbK, hXK, hxK, hoK⟩
 show W _ _ _ _ _ [(8, .slice (some ⟨h1.size, 0, none⟩) (((S9.length : Int)).toNat) (((S9.length : Int)).toNat)), (2, .slice none 0 0), (3, w9), (14, .int .i64 ((k : Int)))] _
 have hwl := wcs_len S9 (rfold S9 S9.length).1 k
 refine W_seq (W_seq (W_region ?_))
 refine Mv ?_
 refine Mv ?_
 refine Ly (Y_lenr Tryd.underlying32 rfl hoK.rows) ?_
 refine Ly (Y_lss rfl rfl) ?_
 refine Nx ?_
 refine W_sub _ (tk5 131 8 2 3 14) ?_
 refine W_splitd rfl (fun c5 => ?_) (fun c5 => ?_)
 ·refine Ws ?_
  refine W_sub _ (tk4 8 2 3 14) ?_
  have hrc := rfold_len S9 S9.length
  refine W_seq (W_block (W_region ?_))
  refine Mv ?_
  refine Mv ?_
  refine Mv ?_
  refine Mv ?_
  refine Ly (Y_idxB Tryd.underlying72 (show _ = some 1 by kernel_rfl) rfl rfl (by first | omega | (simp; omega)) (by first | omega | (simp; omega))) ?_
  refine Ly (Y_ldr0 (k := ((k : Int)).toNat) Tryd.underlying3 rfl rfl rfl (hbK.rows (by first | omega | (simp; omega))) (by first | omega | (simp; omega)) rfl) ?_
  refine Ly (Y_idxr Tryd.underlying32 (show _ = some 6 by kernel_rfl) rfl rfl rfl hoK.rows (by first | omega | (simp; omega)) (by first | omega | (simp; omega))) ?_
  refine Ly (Y_fldr (k := ((k : Int)).toNat) (off := 5) (by kernel_rfl) rfl hoK.rows (by first | omega | (simp; omega))) ?_
  refine L_dos (D_rseto (S := nodS) (us := [.int .i64 ((at_int ((rfold S9 S9.length).1) ((k : Int)).toNat))]) (a := (⟨(at_nod (wcs S9 (rfold S9 S9.length).1 k) ((k : Int)).toNat).kind, (at_nod (wcs S9 (rfold S9 S9.length).1 k) ((k : Int)).toNat).path, (at_nod (wcs S9 (rfold S9 S9.length).1 k) ((k : Int)).toNat).mode, (at_nod (wcs S9 (rfold S9 S9.length).1 k) ((k : Int)).toNat).target, (at_nod (wcs S9 (rfold S9 S9.length).1 k) ((k : Int)).toNat).dv, (at_nod (wcs S9 (rfold S9 S9.length).1 k) ((k : Int)).toNat).data, (at_int ((rfold S9 S9.length).1) ((k : Int)).toNat)⟩ : Nod)) (k := ((k : Int)).toNat) (off := 5) (show _ = some 1 by kernel_rfl) rfl rfl rfl rfl (by simp [Value.oneCell']) hoK (by first | omega | (simp; omega)) (show 6 ≤ 6 by decide) rfl (okw hXK (Nat.le_refl _) hkK (hkK (at_nod (wcs S9 (rfold S9 S9.length).1 k) ((k : Int)).toNat) (nod_getD (l := (wcs S9 (rfold S9 S9.length).1 k)) (k := ((k : Int)).toNat) (by first | omega | (simp; omega)))))) rfl rfl ?_
  rintro h19 ha32
  refine L_nil (X_block (X_then ?_))
  refine W_sub _ (tk4 8 2 3 14) ?_
  refine W_region ?_
  refine Mv ?_
  refine Ly (Y_add rfl rfl (by omega) (by omega)) ?_
  refine Av ?_
  refine L_nil ?_
  refine X_loop (k + 1) (tk4 8 2 3 14) ?_ ?_
  ·exact ⟨by omega, fun x hx => wcs_ok hkK (by omega) x hx, RBuf.only hbK ha32.only (fun hb_ => Nat.lt_irrefl _ (hwM _ hb_)) (fun _ _ q_ => q_), hXK.then' ha32.only ha32.ge (Nat.le_refl _), hxK.then' ha32.only ha32.ge hH9, ha32.own⟩
  (try dsimp only)
  omega
 refine W_exit ?_
 refine X_then_exit (X_then_exit ?_)
 refine X_block_hit ?_
 refine X_then ?_
 refine W_sub _ (tk2 2 3) ?_
 refine Wr ?_
 refine Mv ?_
 refine Av ?_
 refine Nx ?_
 refine W_sub _ (tk1 2) ?_
 refine W_ret ?_
 refine X_ret1 rfl rfl ?_
 obtain rfl : k = S9.length := by omega
 exact ⟨_, hoK.rows, by simp; omega, by rw [wcs_er, ← rfold_er, hT9, List.take_of_length_le (by omega), show S9.length = L.length by omega]; rfl, hxK⟩
end Go.Xp
