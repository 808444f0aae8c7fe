/- Layer 9 (paxrec): the reference's Parse, and the laws on it. -/
import Derived.Test.YtdmhigknppkniaaGreatDoorParseP
import Derived.Test.YtdmhigknppkniaaGreatDoorMerge
set_option linter.unusedSimpArgs false
set_option linter.unusedVariables false
set_option linter.unusedSectionVars false
set_option maxRecDepth 100000
namespace Go.Xp
open Go.Proofs

theorem bytD {l : List UInt8} {n k : Nat} (h : n + k < l.length) : byt (l.drop n) k = byt l (n + k) := by
  rw [byt_eq (by simp; omega), byt_eq h, List.getElem_drop]
def ixf (s : List UInt8) (c f : Int) : Int := if 0 ≤ Lib.indexByte (s.drop f.toNat) c.toNat.toUInt8 then f + Lib.indexByte (s.drop f.toNat) c.toNat.toUInt8 else -1
theorem ref09_index (h : Heap) (s : List UInt8) (c : Int) (f : Int) (hs : s.length ≤ 140737488355328) (hc : 0 ≤ c ∧ c ≤ 255) (hf : 0 ≤ f ∧ f ≤ 140737488355328) : Cal Tryz.prog 133 #[str s, .int .u8 (c), .int .i64 (f)] h (fun v h' => v = .int .i64 (ixf s c f) ∧ h' = h) := by
 have hcb := u8_back hc
 refine Ce Tryz.func133 fun σ => ?_
 refine Wa ?_
 refine Ln (Xt (Wq (Wq (Wg ?_))))
 refine Mv ?_
 refine Av ?_
 refine Ln (Xt (Wb ?_))
 refine W_loop (S := Nat) (fun j => [(0, str s), (1, .int .u8 (c)), (7, .int .i64 ((f + (j : Int))))]) (fun j h' => (∀ k, k < j → f.toNat + k < s.length → ¬ byt (s.drop f.toNat) k = c) ∧ (j = 0 ∨ f + j ≤ s.length) ∧ h' = h) (fun j => s.length + 1 - j) 0 (sk2 0 1 rfl rfl (sk1 7 (lki rfl (by simp)) sN)) ?_ ?_
 ·exact ⟨(fun k hk => absurd hk (Nat.not_lt_zero _)), .inl rfl, rfl⟩
 rintro j h ⟨hd, hj, rfl⟩
 show W _ _ _ _ _ [(0, str s), (1, .int .u8 (c)), (7, .int .i64 ((f + (j : Int))))] _
 refine Wq (Wq (Wg ?_))
 refine M2 ?_
 refine Ly (Y_slen Tryz.underlying9 rfl) ?_
 refine Ly Yls ?_
 refine Nx ?_
 refine Sd (fun hlt => ?_) fun hlt => ?_
 ·refine Ws ?_
  have hbd := bytD (l := s) (n := f.toNat) (k := j) (by omega)
  have hix : (f + (j : Int)).toNat = f.toNat + j := by omega
  refine Wq (Wb (Wq (Wg ?_)))
  refine M2 ?_
  refine Ly (Y_sidx Tryz.underlying9 rfl rfl (by omega) (by omega)) ?_
  refine Mv ?_
  refine Ly Yeq ?_
  refine Nx ?_
  refine Wu _ (tk4 19 0 1 7) ?_
  refine Sd (fun z => ?_) fun z => ?_
  ·refine Wm ?_
   refine Av ?_
   refine Ln (Xt (Wt (Yr (Xr (Xr (Yr (Xr ?_)))))))
   refine Xv1 ?_
   have hz : byt (s.drop f.toNat) j = (c.toNat.toUInt8.toNat : Int) := by rw [hcb, hbd, ← hix]; exact z
   have hi := indexByte_found (l := s.drop f.toNat) (c := c.toNat.toUInt8) (m := j) (fun k hk => by rw [hcb]; exact hd k hk (by omega)) (by rw [List.length_drop]; omega) hz
   exact ⟨by rw [ixf, hi, if_pos (by omega)], rfl⟩
  refine Wk (Xb (Xt (Wg ?_)))
  refine Mv ?_
  refine Lad ?_
  refine Av ?_
  refine Ln ?_
  refine X_loop (j + 1) (sk2 0 1 rfl rfl (sk1 7 (lki rfl (by omega)) sN)) ?_ ?_
  ·exact ⟨fun k hk hk2 => (Nat.lt_succ_iff_lt_or_eq.1 hk).elim (fun h1 => hd k h1 hk2) (fun h1 => by subst h1; rw [hbd, ← hix]; exact z), .inr (by omega), rfl⟩
  (try dsimp only)
  omega
 refine W_exit ?_
 refine Xe (Xe ?_)
 refine X_block_hit ?_
 refine Xt ?_
 refine Wu _ sN ?_
 refine Wa ?_
 refine Ln (Xt (Wt ?_))
 refine Xv1 ?_
 have hi := indexByte_nil (l := s.drop f.toNat) (c := c.toNat.toUInt8) (fun k hk => by rw [List.length_drop] at hk; rw [hcb]; exact hd k (by omega) (by omega))
 exact ⟨by rw [ixf, hi, if_neg (by omega)], rfl⟩

theorem ixf_zero (d : List UInt8) : ixf d 32 0 = Lib.indexByte d 32 := by
  have h := Lib.indexByte_ge d 32
  show (if 0 ≤ Lib.indexByte (d.drop 0) 32 then 0 + Lib.indexByte (d.drop 0) 32 else -1) = _
  rw [List.drop_zero]
  split <;> omega
theorem indexByte_snoc {c a : UInt8} (h : ¬ a = c) : ∀ l : List UInt8, Lib.indexByte (l ++ [a]) c = Lib.indexByte l c
  | [] => by simp [Lib.indexByte, h]
  | b :: l => by
    simp only [List.cons_append, Lib.indexByte]
    rw [indexByte_snoc h l]
theorem body_snoc {d : List UInt8} {n i : Nat} (hn : i + 1 < n) (hd : n ≤ d.length) (hb : byt d (n - 1) = 10) : (d.take n).drop (i + 1) = (d.take (n - 1)).drop (i + 1) ++ [10] := by
  have h1 : d.take n = d.take (n - 1) ++ [10] := by
    rw [show n = (n - 1) + 1 by omega, List.take_succ_eq_append_getElem (by omega)]
    congr 2
    rw [byt_eq (by omega)] at hb
    exact UInt8.toNat_inj.1 (Int.ofNat_inj.1 hb)
  rw [h1, List.drop_append_of_le_length (by rw [List.length_take]; omega)]
theorem byt_takeP {l : List UInt8} {n k : Nat} (h : k < n) (hn : n ≤ l.length) : byt (l.take n) k = byt l k := by
  rw [byt_eq (by simp; omega), byt_eq (by omega), List.getElem_take]
theorem hsx_take {d : List UInt8} {n : Nat} (h1 : 1 ≤ n) (h2 : n ≤ d.length) : hsx (d.take n) 10 ↔ byt d (n - 1) = 10 := by
  unfold hsx
  rw [List.length_take, Nat.min_eq_left h2, byt_takeP (by omega) h2]
  exact ⟨fun h => h.2, fun h => ⟨by omega, h⟩⟩
theorem cutA_length {d : List UInt8} (h : 0 ≤ Lib.indexByte d 32) : (cutA d 32).length = (Lib.indexByte d 32).toNat := by
  have := indexByte_lt d 32
  rw [cutA, if_pos h, List.length_take]; omega
theorem take_facts {d : List UInt8} {I N J : Int} (hI : I = Lib.indexByte d 32) (h0 : 0 ≤ I) (hN1 : I + 2 ≤ N) (hN2 : N ≤ d.length) (hb : byt d (N - 1).toNat = 10) (hJ : J = ixf (d.take N.toNat) 61 (I + 1)) {body : List UInt8} (hbody : body = (d.take (N.toNat - 1)).drop ((cutA d 32).length + 1)) :
    (0 ≤ J ↔ 0 ≤ Lib.indexByte body 61) ∧ (0 ≤ J → I + 1 ≤ J ∧ J + 1 ≤ N - 1 ∧ (d.take J.toNat).drop (I + 1).toNat = cutA body 61 ∧ (d.take (N - 1).toNat).drop (J + 1).toNat = cutB body 61) := by
  have hla := cutA_length (d := d) (by omega)
  have hs := body_snoc (d := d) (n := N.toNat) (i := I.toNat) (by omega) (by omega) (by rw [show N.toNat - 1 = (N - 1).toNat by omega]; exact hb)
  have hb1 : body = (d.take (N.toNat - 1)).drop (I.toNat + 1) := by rw [hbody, hla, ← hI]
  have hlb : body.length = N.toNat - 1 - (I.toNat + 1) := by rw [hb1, List.length_drop, List.length_take]; omega
  have hx := indexByte_lt body 61
  have hge := Lib.indexByte_ge body 61
  have hJ2 : J = if 0 ≤ Lib.indexByte body 61 then I + 1 + Lib.indexByte body 61 else -1 := by
    rw [hJ]
    show (if 0 ≤ Lib.indexByte ((d.take N.toNat).drop (I + 1).toNat) 61 then I + 1 + Lib.indexByte ((d.take N.toNat).drop (I + 1).toNat) 61 else -1) = _
    rw [show (I + 1).toNat = I.toNat + 1 by omega, hs, indexByte_snoc (by decide), ← hb1]
  by_cases hp : 0 ≤ Lib.indexByte body 61
  · rw [if_pos hp] at hJ2
    refine ⟨⟨fun _ => hp, fun _ => by omega⟩, fun _ => ⟨by omega, by omega, ?_, ?_⟩⟩
    · rw [cutA, if_pos hp, hb1, List.take_drop, List.take_take]
      have e1 : (I + 1).toNat = I.toNat + 1 := by omega
      rw [← hb1, e1]
      congr 2
      rw [Nat.min_eq_left (by omega)]; omega
    · rw [cutB, if_pos hp, hb1, List.drop_drop, ← hb1]
      congr 1
      · omega
      · congr 1; omega
  · rw [if_neg hp] at hJ2
    exact ⟨⟨fun h => by omega, fun h => absurd h hp⟩, fun h => by omega⟩
theorem ref09_take (h : Heap) (d : List UInt8) (hl : d.length ≤ 1048576) : Cal Tryz.prog 106 #[str d] h (fun v h' => v = .tuple #[.agg #[str ((ptake d).1.key), str ((ptake d).1.val)], .int .i64 ((ptake d).2.1), .int .i64 ((ptake d).2.2)] ∧ Ext h h') := by
 have hlt0 := indexByte_lt d 32
 refine Ce Tryz.func106 fun σ => ?_
 refine Wr ?_
 refine L_mks (M_alloc (u := .agg #[str [], str []]) (by kernel_rfl)) rfl rfl rfl ?_
 rintro _ h1 ⟨rfl, hn1⟩
 have hk2 : Blk h1 h.size [str [], str []] := hn1.blk
 refine A2 ?_
 refine Ln (Xt (Wq (Wg ?_)))
 refine Mv ?_
 refine Lc (ref09_index _ d (32 : Int) (0 : Int) (by first | omega | rfl | (simp <;> omega)) (by first | omega | rfl | (simp <;> omega)) (by first | omega | rfl | (simp <;> omega))) ?_
 rintro _ h1 ⟨rfl, rfl⟩
 refine An ?_
 generalize hI : ixf d (32 : Int) (0 : Int) = I
 have hI0 : I = Lib.indexByte d 32 := by rw [← hI]; exact ixf_zero d
 refine Wq (Wq (Wg ?_))
 refine Mv ?_
 refine Ly Yls ?_
 refine Nx ?_
 refine Sd (fun c => ?_) fun c => ?_
 ·refine Wr ?_
  refine Ly (Yb (.agg #[str [], str []]) [] [] []) ?_
  refine Lds [str [], str []] hk2 ?_
  rintro h2 hp3
  have hk4 : Blk h2 h.size [str [], str []] := hp3.blk
  refine A2 ?_
  refine Ln (Xt (Wt (Xr ?_)))
  refine X_retv3 rfl (RVa Tryz.underlying139 hk4) rfl rfl ?_
  have c' : ¬ 0 ≤ Lib.indexByte d 32 := by omega
  exact ⟨by rw [ptake, if_pos c'], (hn1.ext.then' hp3.only (by simp) (Nat.le_refl _))⟩
 refine Ws ?_
 have c' : ¬ ¬ 0 ≤ Lib.indexByte d 32 := by omega
 have hA : d.take I.toNat = cutA d 32 := by rw [cutA, if_pos (by omega), hI0]
 have hla := cutA_length (d := d) (by omega)
 refine Wm ?_
 refine Mv ?_
 refine Ly (Y_sslice_h Tryz.underlying9 rfl rfl (by omega) (by omega)) ?_
 refine Lc (ref09_Number _ (d.take (I).toNat) (999999 : Int) (by first | omega | rfl | (simp <;> omega)) (by first | omega | rfl | (simp <;> omega))) ?_
 rintro _ h1 ⟨rfl, rfl⟩
 refine Mx ?_
 refine A2 ?_
 refine Nx ?_
 refine Wu _ (tk7 7 6 5 4 3 2 0) ?_
 refine Wq ?_
 refine Wc [(28, .bool (decide ((¬ (nerr (d.take (I).toNat) (999999 : Int)) = 0) ∨ ((nnum (d.take (I).toNat) (999999 : Int)) = 0)))), (6, .int .i64 (nnum (d.take (I).toNat) (999999 : Int))), (5, .int .i64 (I)), (4, .int .i64 0), (3, .int .i64 0), (2, .pointer (some ⟨h.size, 0, none⟩)), (0, str d)] (fun h' => h' = h1) ?_ ?_
 ·refine Wg ?_
  refine Mv ?_
  refine Ly Yne ?_
  refine Mv ?_
  refine L_splitd (d := 25) rfl (fun c5 => ?_) (fun c5 => ?_)
  ·refine Sk2 ?_
   refine Ly Ypt ?_
   refine Ln ?_
   exact X_cut () (sk1 28 (lkb rfl (by first | (simp only [eq_true c5, SB]; done) | (simp only [eq_true c5, SB]; rfl))) (sk1 6 rfl (sk1 5 rfl (sk1 4 rfl (sk1 3 rfl (sk1 2 rfl (tk1 0))))))) rfl
  refine Ly (Y_move rfl) ?_
  refine Ly Yeq ?_
  refine Ly Ypf ?_
  refine Ln ?_
  exact X_cut () (sk1 28 (lkb rfl (by first | (simp only [eq_false c5, SB]; done) | (simp only [eq_false c5, SB]; rfl))) (sk1 6 rfl (sk1 5 rfl (sk1 4 rfl (sk1 3 rfl (sk1 2 rfl (tk1 0))))))) rfl
 rintro h1 rfl
 refine Sd (fun e => ?_) fun e => ?_
 ·refine Wr ?_
  refine Ly (Yb (.agg #[str [], str []]) [] [] []) ?_
  refine Lds [str [], str []] hk2 ?_
  rintro h3 hp6
  have hk7 : Blk h3 h.size [str [], str []] := hp6.blk
  refine A2 ?_
  refine Ln (Xt (Wt (Xr ?_)))
  refine X_retv3 rfl (RVa Tryz.underlying139 hk7) rfl rfl ?_
  have e' : ¬ nerr (cutA d 32) 999999 = 0 ∨ nnum (cutA d 32) 999999 = 0 := by rw [← hA]; exact e
  exact ⟨by rw [ptake, if_neg c', if_pos e'], (hn1.ext.then' hp6.only (by simp) (Nat.le_refl _))⟩
 refine Ws ?_
 have e' : ¬ (¬ nerr (cutA d 32) 999999 = 0 ∨ nnum (cutA d 32) 999999 = 0) := by rw [← hA]; exact e
 have hng := nnum_ge (cutA d 32) 999999
 have hN1 : 1 ≤ nnum (d.take I.toNat) 999999 := by rw [hA]; have := fun h => e' (.inr h); omega
 refine Wq (Wq (Wg ?_))
 refine Mv ?_
 refine Ly (Y_slen Tryz.underlying9 rfl) ?_
 refine Mv ?_
 refine Ly Yls ?_
 refine Nx ?_
 refine Sd (fun f => ?_) fun f => ?_
 ·refine Wr ?_
  refine Ly (Yb (.agg #[str [], str []]) [] [] []) ?_
  refine Lds [str [], str []] hk2 ?_
  rintro h4 hp8
  have hk9 : Blk h4 h.size [str [], str []] := hp8.blk
  refine A2 ?_
  refine Nx ?_
  refine Wu _ (tk6 4 3 6 5 2 0) ?_
  refine Wt (Xr ?_)
  refine X_retv3 rfl (RVa Tryz.underlying139 hk9) rfl rfl ?_
  have f' : (d.length : Int) < nnum (cutA d 32) 999999 := by rw [← hA]; exact f
  exact ⟨by rw [ptake, if_neg c', if_neg e', if_pos f'], (hn1.ext.then' hp8.only (by simp) (Nat.le_refl _))⟩
 refine Ws ?_
 have f' : ¬ (d.length : Int) < nnum (cutA d 32) 999999 := by rw [← hA]; exact f
 have hht := hsx_take (d := d) (n := (nnum (cutA d 32) 999999).toNat) (by rw [← hA]; omega) (by omega)
 have hnn : (nnum (d.take I.toNat) 999999 - 1).toNat = (nnum (cutA d 32) 999999).toNat - 1 := by rw [hA]; omega
 refine Wm ?_
 refine An ?_
 refine Wu _ (tk6 8 5 4 3 2 0) ?_
 refine Wq ?_
 refine Wc [(46, .bool (decide (((nnum (d.take (I).toNat) (999999 : Int)) < (I + 2)) ∨ (¬ (byt d ((nnum (d.take (I).toNat) (999999 : Int)) - 1).toNat) = 10)))), (8, .int .i64 (nnum (d.take (I).toNat) (999999 : Int))), (5, .int .i64 (I)), (4, .int .i64 0), (3, .int .i64 0), (2, .pointer (some ⟨h.size, 0, none⟩)), (0, str d)] (fun h' => h' = h1) ?_ ?_
 ·refine Wg ?_
  refine M2 ?_
  refine Lad ?_
  refine Ly Yls ?_
  refine Mv ?_
  refine L_splitd (d := 40) rfl (fun c10 => ?_) (fun c10 => ?_)
  ·refine Sk2 ?_
   refine Sk2 ?_
   refine Skp ?_
   refine Ly Ypt ?_
   refine Ln ?_
   exact X_cut () (sk1 46 (lkb rfl (by first | (simp only [eq_true c10, SB]; done) | (simp only [eq_true c10, SB]; rfl))) (sk1 8 rfl (sk1 5 rfl (sk1 4 rfl (sk1 3 rfl (sk1 2 rfl (tk1 0))))))) rfl
  refine Ly (Y_move rfl) ?_
  refine Mv ?_
  refine Ly (Y_sub rfl rfl (by omega) (by omega)) ?_
  refine Ly (Y_sidx Tryz.underlying9 rfl rfl (by omega) (by omega)) ?_
  refine Ly Yne ?_
  refine Ly Ypf ?_
  refine Ln ?_
  exact X_cut () (sk1 46 (lkb rfl (by first | (simp only [eq_false c10, SB]; done) | (simp only [eq_false c10, SB]; rfl))) (sk1 8 rfl (sk1 5 rfl (sk1 4 rfl (sk1 3 rfl (sk1 2 rfl (tk1 0))))))) rfl
 rintro h1 rfl
 refine Sd (fun g => ?_) fun g => ?_
 ·refine Wr ?_
  refine Ly (Yb (.agg #[str [], str []]) [] [] []) ?_
  refine Lds [str [], str []] hk2 ?_
  rintro h5 hp11
  have hk12 : Blk h5 h.size [str [], str []] := hp11.blk
  refine A2 ?_
  refine Ln (Xt (Wt (Xr ?_)))
  refine X_retv3 rfl (RVa Tryz.underlying139 hk12) rfl rfl ?_
  have g' : ¬ hsx (d.take (nnum (cutA d 32) 999999).toNat) 10 ∨ nnum (cutA d 32) 999999 - 1 ≤ (cutA d 32).length := by rcases g with g | g; exact .inr (by rw [hla]; rw [hA] at g; omega); exact .inl (fun h9 => g (by rw [hnn]; exact hht.1 h9))
  exact ⟨by rw [ptake, if_neg c', if_neg e', if_neg f', if_pos g'], (hn1.ext.then' hp11.only (by simp) (Nat.le_refl _))⟩
 refine Ws ?_
 have g1 : ¬ nnum (d.take I.toNat) 999999 < I + 2 := fun h9 => g (.inl h9)
 have g2 : byt d (nnum (d.take I.toNat) 999999 - 1).toNat = 10 := Classical.not_not.1 (fun h9 => g (.inr h9))
 have g' : ¬ (¬ hsx (d.take (nnum (cutA d 32) 999999).toNat) 10 ∨ nnum (cutA d 32) 999999 - 1 ≤ (cutA d 32).length) := fun h9 => h9.elim (fun h9 => h9 (hht.2 (by rw [← hnn]; exact g2))) (fun h9 => by rw [hla] at h9; rw [hA] at g1; omega)
 have tf := take_facts (d := d) (I := I) (N := nnum (d.take I.toNat) 999999) (J := (ixf (d.take (nnum (d.take I.toNat) 999999).toNat) 61 (I + 1))) hI0 (by omega) (by omega) (by omega) g2 rfl (body := ((d.take ((nnum (cutA d 32) 999999).toNat - 1)).drop ((cutA d 32).length + 1))) (by rw [hA])
 refine Wm ?_
 refine Mv ?_
 refine Ly (Y_sslice_h Tryz.underlying9 rfl rfl (by omega) (by omega)) ?_
 refine Mv ?_
 refine Lad ?_
 refine Lc (ref09_index _ (d.take (nnum (d.take (I).toNat) (999999 : Int)).toNat) (61 : Int) (I + 1) (by first | omega | rfl | (simp <;> omega)) (by first | omega | rfl | (simp <;> omega)) (by first | omega | rfl | (simp <;> omega))) ?_
 rintro _ h1 ⟨rfl, rfl⟩
 refine An ?_
 refine Wu _ (tk7 9 8 5 4 3 2 0) ?_
 refine Wq (Wq (Wg ?_))
 refine Mv ?_
 refine Ly Yls ?_
 refine Nx ?_
 refine Sd (fun k => ?_) fun k => ?_
 ·refine Wr ?_
  refine Ly (Yb (.agg #[str [], str []]) [] [] []) ?_
  refine Lds [str [], str []] hk2 ?_
  rintro h6 hp13
  have hk14 : Blk h6 h.size [str [], str []] := hp13.blk
  refine A2 ?_
  refine Ln (Xt (Wt (Xr ?_)))
  refine X_retv3 rfl (RVa Tryz.underlying139 hk14) rfl rfl ?_
  have k' : ¬ 0 ≤ Lib.indexByte ((d.take ((nnum (cutA d 32) 999999).toNat - 1)).drop ((cutA d 32).length + 1)) 61 ∨ ¬ (psz (rrest (cutA ((d.take ((nnum (cutA d 32) 999999).toNat - 1)).drop ((cutA d 32).length + 1)) 61) (cutB ((d.take ((nnum (cutA d 32) 999999).toNat - 1)).drop ((cutA d 32).length + 1)) 61)) : Int) = nnum (cutA d 32) 999999 := .inl (fun h9 => by have := tf.1.2 h9; omega)
  exact ⟨by rw [ptake, if_neg c', if_neg e', if_neg f', if_neg g', if_pos k'], (hn1.ext.then' hp13.only (by simp) (Nat.le_refl _))⟩
 refine Ws ?_
 have hj0 : 0 ≤ (ixf (d.take (nnum (d.take I.toNat) 999999).toNat) 61 (I + 1)) := by omega
 have tf2 := tf.2 hj0
 refine Wq ?_
 refine W_pers [(9, .int .i64 (ixf (d.take (nnum (d.take (I).toNat) (999999 : Int)).toNat) (61 : Int) (I + 1))), (8, .int .i64 (nnum (d.take (I).toNat) (999999 : Int))), (5, .int .i64 (I)), (4, .int .i64 0), (3, .int .i64 0), (2, .pointer (some ⟨h.size, 0, none⟩)), (0, str d)] (tk7 9 8 5 4 3 2 0) (by kernel_rfl) ?_
 refine LPc 0 (str d) [] ?_ ?_
 ·intro h7 hx15
  exact Sm
 refine LPc 1 (.int .i64 (I)) [] ?_ ?_
 ·intro h8 hx16
  exact Sm
 refine LPc 2 (.int .i64 (I + 1)) [(1, 58)] ?_ ?_
 ·intro h9 hx17
  rintro _ rfl
  exact Sy (Y_add rfl rfl (by omega) (by omega))
 refine LPc 3 (.int .i64 (ixf (d.take (nnum (d.take (I).toNat) (999999 : Int)).toNat) (61 : Int) (I + 1))) [] ?_ ?_
 ·intro h10 hx18
  exact Sm
 refine LPc 4 (str ((d.take (ixf (d.take (nnum (d.take (I).toNat) (999999 : Int)).toNat) (61 : Int) (I + 1)).toNat).drop (I + 1).toNat)) [(0, 57), (2, 59), (3, 60)] ?_ ?_
 ·intro h11 hx19
  rintro _ rfl
  rintro _ rfl
  rintro _ rfl
  exact Sy (Y_sslice Tryz.underlying9 rfl rfl rfl (by omega) (by omega) (by omega))
 refine LPc 5 (str d) [] ?_ ?_
 ·intro h12 hx20
  exact Sm
 refine LPc 6 (.int .i64 (ixf (d.take (nnum (d.take (I).toNat) (999999 : Int)).toNat) (61 : Int) (I + 1))) [] ?_ ?_
 ·intro h13 hx21
  exact Sm
 refine LPc 7 (.int .i64 ((ixf (d.take (nnum (d.take (I).toNat) (999999 : Int)).toNat) (61 : Int) (I + 1)) + 1)) [(6, 63)] ?_ ?_
 ·intro h14 hx22
  rintro _ rfl
  exact Sy (Y_add rfl rfl (by omega) (by omega))
 refine LPc 8 (.int .i64 (nnum (d.take (I).toNat) (999999 : Int))) [] ?_ ?_
 ·intro h15 hx23
  exact Sm
 refine LPc 9 (.int .i64 ((nnum (d.take (I).toNat) (999999 : Int)) - 1)) [(8, 65)] ?_ ?_
 ·intro h16 hx24
  rintro _ rfl
  exact Sy (Y_sub rfl rfl (by omega) (by omega))
 refine LPc 10 (str ((d.take ((nnum (d.take (I).toNat) (999999 : Int)) - 1).toNat).drop ((ixf (d.take (nnum (d.take (I).toNat) (999999 : Int)).toNat) (61 : Int) (I + 1)) + 1).toNat)) [(7, 64), (9, 66), (5, 62)] ?_ ?_
 ·intro h17 hx25
  rintro _ rfl
  rintro _ rfl
  rintro _ rfl
  exact Sy (Y_sslice Tryz.underlying9 rfl rfl rfl (by omega) (by omega) (by omega))
 refine LPc 11 (.agg #[str ((d.take (ixf (d.take (nnum (d.take (I).toNat) (999999 : Int)).toNat) (61 : Int) (I + 1)).toNat).drop (I + 1).toNat), str ((d.take ((nnum (d.take (I).toNat) (999999 : Int)) - 1).toNat).drop ((ixf (d.take (nnum (d.take (I).toNat) (999999 : Int)).toNat) (61 : Int) (I + 1)) + 1).toNat)]) [(10, 67), (4, 61)] ?_ ?_
 ·intro h18 hx26
  rintro _ rfl
  rintro _ rfl
  exact Sy (Y_build (v := .agg #[str ((d.take (ixf (d.take (nnum (d.take (I).toNat) (999999 : Int)).toNat) (61 : Int) (I + 1)).toNat).drop (I + 1).toNat), str ((d.take ((nnum (d.take (I).toNat) (999999 : Int)) - 1).toNat).drop ((ixf (d.take (nnum (d.take (I).toNat) (999999 : Int)).toNat) (61 : Int) (I + 1)) + 1).toNat)]) (pv := [(0, str ((d.take (ixf (d.take (nnum (d.take (I).toNat) (999999 : Int)).toNat) (61 : Int) (I + 1)).toNat).drop (I + 1).toNat)), (1, str ((d.take ((nnum (d.take (I).toNat) (999999 : Int)) - 1).toNat).drop ((ixf (d.take (nnum (d.take (I).toNat) (999999 : Int)).toNat) (61 : Int) (I + 1)) + 1).toNat))]) (evp (is := [0, 1]) (os := [.tmp 61, .tmp 67]) (vs := [str ((d.take (ixf (d.take (nnum (d.take (I).toNat) (999999 : Int)).toNat) (61 : Int) (I + 1)).toNat).drop (I + 1).toNat), str ((d.take ((nnum (d.take (I).toNat) (999999 : Int)) - 1).toNat).drop ((ixf (d.take (nnum (d.take (I).toNat) (999999 : Int)).toNat) (61 : Int) (I + 1)) + 1).toNat)]) rfl rfl) (fun _ => by kernel_rfl))
 refine LP_op 12 (fun hh vv => ∃ r15_1, vv = .pointer (some ⟨r15_1, 0, none⟩) ∧ Blk hh r15_1 [str [], str []] ∧ h1.size ≤ r15_1) [] rfl rfl (by kernel_rfl) (fun _ _ _ x_ p_ => by obtain ⟨r15_1, rfl, q15_1, q15_1l⟩ := p_; exact ⟨_, rfl, q15_1.ext x_, q15_1l⟩) ?_ ?_
 ·intro h19 hx27
  refine Nn ?_
  refine Stp_mks (M_alloc (u := .agg #[str [], str []]) (by kernel_rfl)) rfl ?_
  rintro _ h20 ⟨rfl, hn28⟩
  have hk29 : Blk h20 h19.size [str [], str []] := hn28.blk
  exact ⟨hn28.ext, ⟨h19.size, rfl, hk29, hx27.size⟩⟩
 refine LP_tail rfl 13 [(11, 68), (12, 10)] rfl rfl (by kernel_rfl) (by kernel_rfl) (by kernel_rfl) rfl ?_
 intro h21 hx30
 rintro _ rfl
 rintro _ ⟨r15_1, rfl, q15_1, q15_1l⟩
 refine Nn ?_
 refine Lds [str ((d.take (ixf (d.take (nnum (d.take (I).toNat) (999999 : Int)).toNat) (61 : Int) (I + 1)).toNat).drop (I + 1).toNat), str ((d.take ((nnum (d.take (I).toNat) (999999 : Int)) - 1).toNat).drop ((ixf (d.take (nnum (d.take (I).toNat) (999999 : Int)).toNat) (61 : Int) (I + 1)) + 1).toNat)] q15_1 ?_
 rintro h22 hp31
 have hk32 : Blk h22 r15_1 [str ((d.take (ixf (d.take (nnum (d.take (I).toNat) (999999 : Int)).toNat) (61 : Int) (I + 1)).toNat).drop (I + 1).toNat), str ((d.take ((nnum (d.take (I).toNat) (999999 : Int)) - 1).toNat).drop ((ixf (d.take (nnum (d.take (I).toNat) (999999 : Int)).toNat) (61 : Int) (I + 1)) + 1).toNat)] := hp31.blk
 refine Ln (Xt (Wq (Wq (Wg ?_))))
 refine Lg Tryz.underlying139 hk32 ?_
 refine Lc (ref09_Size _ ((d.take (ixf (d.take (nnum (d.take (I).toNat) (999999 : Int)).toNat) (61 : Int) (I + 1)).toNat).drop (I + 1).toNat) ((d.take ((nnum (d.take (I).toNat) (999999 : Int)) - 1).toNat).drop ((ixf (d.take (nnum (d.take (I).toNat) (999999 : Int)).toNat) (61 : Int) (I + 1)) + 1).toNat) (by first | omega | rfl | (simp <;> omega)) (by first | omega | rfl | (simp <;> omega))) ?_
 rintro _ h23 ⟨rfl, hx33⟩
 refine Mv ?_
 refine Ly Yne ?_
 refine Nx ?_
 refine Wu _ (tk6 72 10 8 4 3 2) ?_
 refine Sd (fun m => ?_) fun m => ?_
 ·refine Wr ?_
  refine Ly (Yb (.agg #[str [], str []]) [] [] []) ?_
  refine Lds [str [], str []] (hk2.ext ((hx30.then' hp31.only (by simp) q15_1l).trans hx33)) ?_
  rintro h24 hp34
  have hk35 : Blk h24 h.size [str [], str []] := hp34.blk
  refine A2 ?_
  refine Ln (Xt (Wt (Xr ?_)))
  refine X_retv3 rfl (RVa Tryz.underlying139 hk35) rfl rfl ?_
  have k' : ¬ 0 ≤ Lib.indexByte ((d.take ((nnum (cutA d 32) 999999).toNat - 1)).drop ((cutA d 32).length + 1)) 61 ∨ ¬ (psz (rrest (cutA ((d.take ((nnum (cutA d 32) 999999).toNat - 1)).drop ((cutA d 32).length + 1)) 61) (cutB ((d.take ((nnum (cutA d 32) 999999).toNat - 1)).drop ((cutA d 32).length + 1)) 61)) : Int) = nnum (cutA d 32) 999999 := .inr (by rw [← tf2.2.2.1, ← tf2.2.2.2, ← hA]; exact m)
  have me1 := (hn1.ext.trans hx30).then' hp31.only (by simp) (nt hn1.ext.size q15_1l)
  have me2 := (me1.trans hx33).then' hp34.only (by simp) (Nat.le_refl _)
  exact ⟨by rw [ptake, if_neg c', if_neg e', if_neg f', if_neg g', if_pos k'], me2⟩
 refine Wk (Xt (Wq (Wg ?_)))
 refine Lg Tryz.underlying139 (hk32.ext hx33) ?_
 refine Mv ?_
 refine Lds [str ((d.take (ixf (d.take (nnum (d.take (I).toNat) (999999 : Int)).toNat) (61 : Int) (I + 1)).toNat).drop (I + 1).toNat), str ((d.take ((nnum (d.take (I).toNat) (999999 : Int)) - 1).toNat).drop ((ixf (d.take (nnum (d.take (I).toNat) (999999 : Int)).toNat) (61 : Int) (I + 1)) + 1).toNat)] (hk2.ext ((hx30.then' hp31.only (by simp) q15_1l).trans hx33)) ?_
 rintro h25 hp36
 have hk37 : Blk h25 h.size [str ((d.take (ixf (d.take (nnum (d.take (I).toNat) (999999 : Int)).toNat) (61 : Int) (I + 1)).toNat).drop (I + 1).toNat), str ((d.take ((nnum (d.take (I).toNat) (999999 : Int)) - 1).toNat).drop ((ixf (d.take (nnum (d.take (I).toNat) (999999 : Int)).toNat) (61 : Int) (I + 1)) + 1).toNat)] := hp36.blk
 refine A2 ?_
 refine Ln (Xt (Wt ?_))
 refine X_retv3 rfl (RVa Tryz.underlying139 hk37) rfl rfl ?_
 have k' : ¬ (¬ 0 ≤ Lib.indexByte ((d.take ((nnum (cutA d 32) 999999).toNat - 1)).drop ((cutA d 32).length + 1)) 61 ∨ ¬ (psz (rrest (cutA ((d.take ((nnum (cutA d 32) 999999).toNat - 1)).drop ((cutA d 32).length + 1)) 61) (cutB ((d.take ((nnum (cutA d 32) 999999).toNat - 1)).drop ((cutA d 32).length + 1)) 61)) : Int) = nnum (cutA d 32) 999999) := fun h9 => h9.elim (fun h9 => h9 (tf.1.1 hj0)) (fun h9 => m (by rw [hA] at *; rw [tf2.2.2.1, tf2.2.2.2]; exact h9))
 have me3 := (hn1.ext.trans hx30).then' hp31.only (by simp) (nt hn1.ext.size q15_1l)
 have me4 := (me3.trans hx33).then' hp36.only (by simp) (Nat.le_refl _)
 refine ⟨?_, me4⟩
 rw [tf2.2.2.1, tf2.2.2.2, ptake, if_neg c', if_neg e', if_neg f', if_neg g', if_neg k', hA]
theorem ref09_Parse (h : Heap) (v : Value) (b : List UInt8) (hb : Bytes h v b) (hl : b.length ≤ 140737488355328) : Cal Tryz.prog 71 #[v] h (fun v h' => ∃ s0, v = .tuple #[s0, .int .i64 ((pres b).2.1), .int .i64 ((pres b).2.2)] ∧ RowsO recS h' h.size s0 ((pres b).1) ∧ Ext h h') := by
 refine Ce Tryz.func71 fun σ => ?_
 refine Wa ?_
 refine A2 ?_
 refine Ln (Xt (Wq (Wq (Wg ?_))))
 refine Mv ?_
 refine Ly (Y_len Tryz.underlying22 rfl hb) ?_
 refine Ly (Y_gtr rfl rfl) ?_
 refine Nx ?_
 refine Sd (fun g => ?_) fun g => ?_
 ·refine Wa ?_
  refine A2 ?_
  refine Ln (Xt (Wt (Xr ?_)))
  refine Xv3 ?_
  refine ⟨.slice none 0 0, by rw [pres, if_pos (by omega)], ?_, (Ext.refl _)⟩
  rw [pres, if_pos (by omega)]
  exact RowsO.nil _ _ _
 refine Ws ?_
 have hpr : pres b = ploop (b.length + 1) [] 0 b := by rw [pres, if_neg (by omega)]
 refine Wa ?_
 refine Ln (Xt (Wq (Wg ?_)))
 refine Av ?_
 refine Ln (Xt (Wq (Wb ?_)))
 refine W_loop (S := Nat × Nat × List Rec × Value) (fun (q, at9, l, u) => [(0, v), (5, u), (6, .int .i64 ((at9 : Int)))]) (fun (q, at9, l, u) h' => pres b = ploop (b.length + 1 - q) l at9 b ∧ q ≤ at9 ∧ at9 ≤ b.length ∧ l.length ≤ q ∧ RowsO recS h' h.size u l ∧ Ext h h') (fun (q, at9, l, u) => b.length + 1 - q) (0, 0, [], .slice none 0 0) (tk3 0 5 6) ?_ ?_
 ·exact ⟨hpr, by omega, by omega, by simp, RowsO.nil _ _ _, Ext.refl _⟩
 rintro ⟨q, at9, l, u⟩ h1 ⟨hinv, hq1, hq2, hq3, ho, hx⟩
 show W _ _ _ _ _ [(0, v), (5, u), (6, .int .i64 ((at9 : Int)))] _
 refine Wq (Wq (Wg ?_))
 refine M2 ?_
 refine Ly (Y_len Tryz.underlying22 rfl (hb.ext hx)) ?_
 refine Ly Yls ?_
 refine Nx ?_
 refine Sd (fun hlt => ?_) fun hlt => ?_
 ·refine Ws ?_
  have hdl : (b.drop at9).length ≤ 1048576 := by rw [List.length_drop]; omega
  have hin9 : (at9 : Int).toNat = at9 := Int.toNat_natCast at9
  have hln := ptake_len (b.drop at9)
  have hln2 := ptake_len (b.drop (at9 : Int).toNat)
  have hdl2 : (b.drop (at9 : Int).toNat).length ≤ 1048576 := by rw [hin9]; exact hdl
  have hst : ∀ e, perr3 l (ptake (b.drop at9)) = e → ¬ e = 0 → pres b = ([], (at9 : Int), e) := fun e h1 h2 => by rw [hinv, show b.length + 1 - q = (b.length + 1 - (q + 1)) + 1 by omega, ploop, if_pos (show at9 < b.length by omega), if_pos (by rw [h1]; exact h2), h1]
  refine Wb (Wq (Wg ?_))
  refine M2 ?_
  have hb1 : Bytes h1 (slcut 1 ((at9 : Int)).toNat b.length v) (b.drop ((at9 : Int)).toNat) := Bytes.cutl (hb.ext hx) (by first | omega | (simp; done) | (simp; omega)) 
  refine Ly (Y_cut_l Tryz.underlying22 (show _ = some 1 by kernel_rfl) rfl (hb.ext hx) rfl (by first | omega | (simp; done) | (simp; omega)) (by first | omega | (simp; done) | (simp; omega))) ?_
  refine Ly (Y_bytes_str Tryz.underlying22 Tryz.underlying5 Tryz.underlying9 rfl hb1) ?_
  refine Lc (ref09_take _ (b.drop ((at9 : Int)).toNat) (by first | first | omega | (simp; done) | (simp; omega) | rfl | (simp <;> omega))) ?_
  rintro _ h2 ⟨rfl, hx2⟩
  refine Mx ?_
  refine Lx ?_
  refine L_mks (M_alloc (u := .agg #[str [], str []]) (by kernel_rfl)) rfl rfl rfl ?_
  rintro _ h3 ⟨rfl, hn3⟩
  have hk4 : Blk h3 h2.size [str [], str []] := hn3.blk
  refine Lds [str ((ptake (b.drop ((at9 : Int)).toNat)).1.key), str ((ptake (b.drop ((at9 : Int)).toNat)).1.val)] hk4 ?_
  rintro h4 hp5
  have hk6 : Blk h4 h2.size [str ((ptake (b.drop ((at9 : Int)).toNat)).1.key), str ((ptake (b.drop ((at9 : Int)).toNat)).1.val)] := hp5.blk
  refine A2 ?_
  refine Nx ?_
  refine Wu _ (tk6 9 8 7 0 5 6) ?_
  refine Wq (Wq (Wg ?_))
  refine Mv ?_
  refine Ly Yeq ?_
  refine Nx ?_
  refine Sd (fun a => ?_) fun a => ?_
  ·have hok := ptake_ok (d := b.drop at9) a
   rw [List.length_drop] at hok
   refine Wg ?_
   refine Lg Tryz.underlying139 hk6 ?_
   refine Lc (ref09_Check _ ((ptake (b.drop ((at9 : Int)).toNat)).1.key) ((ptake (b.drop ((at9 : Int)).toNat)).1.val) (by first | first | omega | (simp; done) | (simp; omega) | rfl | (simp <;> omega))) ?_
   rintro _ h5 ⟨rfl, hx7⟩
   refine Av ?_
   refine Ln (Xt (Wq (Wq ?_)))
   refine W_quiet (fun h' => h' = h5) (by kernel_rfl) (by kernel_rfl) rfl ?_
   refine Qm ?_
   refine Qy (Y_eql rfl rfl) ?_
   refine Qm ?_
   refine LQ_splitd (d := 32) rfl (fun c => ?_) (fun c => ?_)
   ·refine Qm ?_
    refine Qy (Y_lenr Tryz.underlying74 rfl (ho.rows.ext (((hx2.trans hn3.ext).then' hp5.only (by simp) hx2.size).trans hx7))) ?_
    refine Qy (Y_gtr rfl rfl) ?_
    refine Qy (Y_pick_t rfl rfl) ?_
    refine Qm ?_
    refine LQ_splitd (d := 37) rfl (fun p => ?_) (fun p => ?_)
    ·refine Qy (Y_fieldAddr (off := 0) (by kernel_rfl) rfl rfl) ?_
     refine Qy (Y_ldblk Tryz.underlying9 rfl rfl (hk6.ext hx7) rfl) ?_
     refine Qm ?_
     refine Qm ?_
     refine Qy (Y_lenr Tryz.underlying74 rfl (ho.rows.ext (((hx2.trans hn3.ext).then' hp5.only (by simp) hx2.size).trans hx7))) ?_
     refine Qy (Y_sub rfl rfl (by first | omega | (simp; done) | (simp; omega)) (by first | omega | (simp; done) | (simp; omega))) ?_
     refine Qy (Y_idxr Tryz.underlying74 (show _ = some 2 by kernel_rfl) rfl rfl rfl (ho.rows.ext (((hx2.trans hn3.ext).then' hp5.only (by simp) hx2.size).trans hx7)) (by first | omega | (simp; done) | (simp; omega)) (by first | omega | (simp; done) | (simp; omega))) ?_
     refine Qy (Y_fldr (k := ((l.length : Int) - 1).toNat) (off := 0) (by kernel_rfl) rfl (ho.rows.ext (((hx2.trans hn3.ext).then' hp5.only (by simp) hx2.size).trans hx7)) (by first | omega | (simp; done) | (simp; omega))) ?_
     refine Qy (Y_ldr1 (off := 0) (k := ((l.length : Int) - 1).toNat) Tryz.underlying9 rfl rfl rfl (ho.rows.ext (((hx2.trans hn3.ext).then' hp5.only (by simp) hx2.size).trans hx7)) (by first | omega | (simp; done) | (simp; omega)) rfl) ?_
     refine Qy (Y_sleq rfl rfl) ?_
     refine Qy (Y_pick_t rfl rfl) ?_
     refine LQ_nil ?_
     rintro h5 rfl
     refine Xt ?_
     refine Wu _ (tk7 48 9 8 7 0 5 6) ?_
     refine W_split rfl (fun z => ?_) (fun z => ?_)
     ·refine Wg ?_
      refine Av ?_
      refine Ln (Xt (Wq (Wq (Wg ?_))))
      refine Mv ?_
      refine Ly Yne ?_
      refine Nx ?_
      refine W_known true rfl (by first | rfl | decide | simp) ?_
      refine Wm ?_
      refine Mv ?_
      refine A2 ?_
      refine An ?_
      refine Wu _ (tk8 4 3 2 8 7 0 5 6) ?_
      refine Wt (Xr (Yr (Xr (Yr (Xr ?_)))))
      refine Xv3 ?_
      have h12 := hst 12 (perr3_order a c (by omega) (by rw [show l.length - 1 = ((l.length : Int) - 1).toNat by omega]; exact z)) (by decide)
      have me1 := ((hx.trans hx2).trans hn3.ext).then' hp5.only (by simp) (nt hx.size hx2.size)
      refine ⟨.slice none 0 0, by rw [h12], ?_, (me1.trans hx7)⟩
      rw [h12]
      exact RowsO.nil _ _ _
     refine Wk (Xt (Wq (Wq (Wg ?_))))
     refine Mv ?_
     refine Ly Yne ?_
     refine Nx ?_
     refine W_known false rfl (by exact decide_eq_false (by exact fun e => e c)) ?_
     refine Ws ?_
     have he3 : perr3 l (ptake (b.drop at9)) = 0 := perr3_none a c (fun _ => by rw [show l.length - 1 = ((l.length : Int) - 1).toNat by omega]; exact z)
     refine Wm ?_
     refine Lg Tryz.underlying139 (hk6.ext hx7) ?_
     refine L_mks (M_litr (S := recS) (l := [⟨(ptake (b.drop ((at9 : Int)).toNat)).1.key, (ptake (b.drop ((at9 : Int)).toNat)).1.val⟩]) (cells := [str ((ptake (b.drop ((at9 : Int)).toNat)).1.key), str ((ptake (b.drop ((at9 : Int)).toNat)).1.val)]) (pv := [(0, .agg #[str ((ptake (b.drop ((at9 : Int)).toNat)).1.key), str ((ptake (b.drop ((at9 : Int)).toNat)).1.val)])]) (E := 139) (evp (is := [0]) (os := [.tmp 54]) (vs := [.agg #[str ((ptake (b.drop ((at9 : Int)).toNat)).1.key), str ((ptake (b.drop ((at9 : Int)).toNat)).1.val)]]) rfl rfl) rfl rfl (fun _ => by kernel_rfl) (by simp only [List.mem_cons, List.not_mem_nil, or_false, forall_eq_or_imp, forall_eq]; exact trivial)) rfl rfl rfl ?_
     rintro v8 h6 ⟨ho9, hx10⟩
     have me2 := ((hx2.trans hn3.ext).then' hp5.only (by simp) hx2.size).trans hx7
     have me3 := nt (nt (nt (nt hx.size hx2.size) hn3.ext.size) hp5.only.size) hx7.size
     refine L_mks (M_appr0 nsRec (z := 2) (bytes := 32) (z0 := (.agg #[str [], str []])) Tryz.underlying74 (by unfold elemRow; kernel_rfl) rfl rfl (by decide) rfl rfl (ho.ext (me2.trans hx10)) ho9.rows (nt me3 hx10.size) (by first | (simp; omega) | omega)) rfl rfl rfl ?_
     rintro v11 h7 ha12
     refine An ?_
     refine Wu _ (tk4 5 8 0 6) ?_
     refine Wg ?_
     refine M2 ?_
     refine Ly (Y_add rfl rfl (by first | omega | (simp; done) | (simp; omega)) (by first | omega | (simp; done) | (simp; omega))) ?_
     refine Av ?_
     refine Ln (Xb ?_)
     refine X_loop ((q + 1, at9 + (ptake (b.drop at9)).2.1.toNat, l ++ [(ptake (b.drop at9)).1], v11)) (sk2 0 5 rfl rfl (sk1 6 (lki rfl (by rw [show at9 + (ptake (b.drop at9)).2.1.toNat = at9 + (ptake (b.drop at9)).2.1.toNat from rfl]; simp only [Int.toNat_natCast]; omega)) sN)) ?_ ?_
     ·exact ⟨by rw [hinv, show b.length + 1 - q = (b.length + 1 - (q + 1)) + 1 by omega, ploop, if_pos (show at9 < b.length by omega), if_neg (by rw [he3]; simp)], by omega, by omega, by simp; omega, RowsO.congr (ha12.own) rfl, ((((((hx.trans hx2).trans hn3.ext).then' hp5.only (by simp) (nt hx.size hx2.size)).trans hx7).trans hx10).then' ha12.only ha12.ge (Nat.le_refl _))⟩
     (try dsimp only)
     omega
    refine LQ_skip rfl rfl rfl ?_
    refine LQ_skip rfl rfl rfl ?_
    refine LQ_skip rfl rfl rfl ?_
    refine LQ_skip rfl rfl rfl ?_
    refine LQ_skip rfl rfl rfl ?_
    refine LQ_skip rfl rfl rfl ?_
    refine LQ_skip rfl rfl rfl ?_
    refine LQ_skip rfl rfl rfl ?_
    refine LQ_skip rfl rfl rfl ?_
    refine LQ_skip rfl rfl rfl ?_
    refine Qy (Y_pick_f rfl rfl) ?_
    refine LQ_nil ?_
    rintro h5 rfl
    refine Xt ?_
    refine Wu _ (tk7 48 9 8 7 0 5 6) ?_
    refine W_false rfl ?_
    refine Wk (Xt (Wq (Wq (Wg ?_))))
    refine Mv ?_
    refine Ly Yne ?_
    refine Nx ?_
    refine W_known false rfl (by exact decide_eq_false (by exact fun e => e c)) ?_
    refine Ws ?_
    have he3 : perr3 l (ptake (b.drop at9)) = 0 := perr3_none a c (fun h9 => absurd h9 (by omega))
    refine Wm ?_
    refine Lg Tryz.underlying139 (hk6.ext hx7) ?_
    refine L_mks (M_litr (S := recS) (l := [⟨(ptake (b.drop ((at9 : Int)).toNat)).1.key, (ptake (b.drop ((at9 : Int)).toNat)).1.val⟩]) (cells := [str ((ptake (b.drop ((at9 : Int)).toNat)).1.key), str ((ptake (b.drop ((at9 : Int)).toNat)).1.val)]) (pv := [(0, .agg #[str ((ptake (b.drop ((at9 : Int)).toNat)).1.key), str ((ptake (b.drop ((at9 : Int)).toNat)).1.val)])]) (E := 139) (evp (is := [0]) (os := [.tmp 54]) (vs := [.agg #[str ((ptake (b.drop ((at9 : Int)).toNat)).1.key), str ((ptake (b.drop ((at9 : Int)).toNat)).1.val)]]) rfl rfl) rfl rfl (fun _ => by kernel_rfl) (by simp only [List.mem_cons, List.not_mem_nil, or_false, forall_eq_or_imp, forall_eq]; exact trivial)) rfl rfl rfl ?_
    rintro v13 h8 ⟨ho14, hx15⟩
    have me4 := ((hx2.trans hn3.ext).then' hp5.only (by simp) hx2.size).trans hx7
    have me5 := nt (nt (nt (nt hx.size hx2.size) hn3.ext.size) hp5.only.size) hx7.size
    refine L_mks (M_appr0 nsRec (z := 2) (bytes := 32) (z0 := (.agg #[str [], str []])) Tryz.underlying74 (by unfold elemRow; kernel_rfl) rfl rfl (by decide) rfl rfl (ho.ext (me4.trans hx15)) ho14.rows (nt me5 hx15.size) (by first | (simp; omega) | omega)) rfl rfl rfl ?_
    rintro v16 h9 ha17
    refine An ?_
    refine Wu _ (tk4 5 8 0 6) ?_
    refine Wg ?_
    refine M2 ?_
    refine Ly (Y_add rfl rfl (by first | omega | (simp; done) | (simp; omega)) (by first | omega | (simp; done) | (simp; omega))) ?_
    refine Av ?_
    refine Ln (Xb ?_)
    refine X_loop ((q + 1, at9 + (ptake (b.drop at9)).2.1.toNat, l ++ [(ptake (b.drop at9)).1], v16)) (sk2 0 5 rfl rfl (sk1 6 (lki rfl (by rw [show at9 + (ptake (b.drop at9)).2.1.toNat = at9 + (ptake (b.drop at9)).2.1.toNat from rfl]; simp only [Int.toNat_natCast]; omega)) sN)) ?_ ?_
    ·exact ⟨by rw [hinv, show b.length + 1 - q = (b.length + 1 - (q + 1)) + 1 by omega, ploop, if_pos (show at9 < b.length by omega), if_neg (by rw [he3]; simp)], by omega, by omega, by simp; omega, RowsO.congr (ha17.own) rfl, ((((((hx.trans hx2).trans hn3.ext).then' hp5.only (by simp) (nt hx.size hx2.size)).trans hx7).trans hx15).then' ha17.only ha17.ge (Nat.le_refl _))⟩
    (try dsimp only)
    omega
   refine LQ_skip rfl rfl rfl ?_
   refine LQ_skip rfl rfl rfl ?_
   refine LQ_skip rfl rfl rfl ?_
   refine Qy (Y_pick_f rfl rfl) ?_
   refine Qm ?_
   refine LQ_skip rfl rfl rfl ?_
   refine LQ_skip rfl rfl rfl ?_
   refine LQ_skip rfl rfl rfl ?_
   refine LQ_skip rfl rfl rfl ?_
   refine LQ_skip rfl rfl rfl ?_
   refine LQ_skip rfl rfl rfl ?_
   refine LQ_skip rfl rfl rfl ?_
   refine LQ_skip rfl rfl rfl ?_
   refine LQ_skip rfl rfl rfl ?_
   refine LQ_skip rfl rfl rfl ?_
   refine Qy (Y_pick_f rfl rfl) ?_
   refine LQ_nil ?_
   rintro h5 rfl
   refine Xt ?_
   refine Wu _ (tk7 48 9 8 7 0 5 6) ?_
   refine W_false rfl ?_
   refine Wk (Xt (Wq (Wq (Wg ?_))))
   refine Mv ?_
   refine Ly Yne ?_
   refine Nx ?_
   refine W_known true rfl (by exact decide_eq_true (by exact c)) ?_
   refine Wm ?_
   refine Mv ?_
   refine A2 ?_
   refine An ?_
   refine Wu _ (tk8 4 3 2 8 7 0 5 6) ?_
   refine Wt (Xr (Yr (Xr (Yr (Xr ?_)))))
   refine Xv3 ?_
   have hc := perr3_check (l := l) (t := (ptake (b.drop at9))) a c
   have h12 := hst _ hc c
   have me6 := ((hx.trans hx2).trans hn3.ext).then' hp5.only (by simp) (nt hx.size hx2.size)
   refine ⟨.slice none 0 0, by rw [h12]; simp only [Int.toNat_natCast], ?_, (me6.trans hx7)⟩
   rw [h12]
   exact RowsO.nil _ _ _
  refine Wk (Xt (Wq (Wq ?_)))
  refine W_quiet (fun h' => h' = h4) (by kernel_rfl) (by kernel_rfl) rfl ?_
  refine Qm ?_
  refine Qy (Y_eql rfl rfl) ?_
  refine Qm ?_
  refine LQ_known (d := 32) false rfl (by exact decide_eq_false (by exact a)) ?_
  refine LQ_skip rfl rfl rfl ?_
  refine LQ_skip rfl rfl rfl ?_
  refine LQ_skip rfl rfl rfl ?_
  refine Qy (Y_pick_f rfl rfl) ?_
  refine Qm ?_
  refine LQ_skip rfl rfl rfl ?_
  refine LQ_skip rfl rfl rfl ?_
  refine LQ_skip rfl rfl rfl ?_
  refine LQ_skip rfl rfl rfl ?_
  refine LQ_skip rfl rfl rfl ?_
  refine LQ_skip rfl rfl rfl ?_
  refine LQ_skip rfl rfl rfl ?_
  refine LQ_skip rfl rfl rfl ?_
  refine LQ_skip rfl rfl rfl ?_
  refine LQ_skip rfl rfl rfl ?_
  refine Qy (Y_pick_f rfl rfl) ?_
  refine LQ_nil ?_
  rintro h4 rfl
  refine Xt ?_
  refine Wu _ (tk7 48 9 8 7 0 5 6) ?_
  refine W_false rfl ?_
  refine Wk (Xt (Wq (Wq (Wg ?_))))
  refine Mv ?_
  refine Ly Yne ?_
  refine Nx ?_
  refine W_known true rfl (by exact decide_eq_true (by exact a)) ?_
  refine Wm ?_
  refine Mv ?_
  refine A2 ?_
  refine An ?_
  refine Wu _ (tk8 4 3 2 8 7 0 5 6) ?_
  refine Wt (Xr (Yr (Xr (Yr (Xr ?_)))))
  refine Xv3 ?_
  have hc := perr3_take (l := l) (t := (ptake (b.drop at9))) a
  have h12 := hst _ hc a
  have me7 := ((hx.trans hx2).trans hn3.ext).then' hp5.only (by simp) (nt hx.size hx2.size)
  refine ⟨.slice none 0 0, by rw [h12]; simp only [Int.toNat_natCast], ?_, me7⟩
  rw [h12]
  exact RowsO.nil _ _ _
 refine W_exit ?_
 refine Xe (Xe ?_)
 refine X_block_hit ?_
 refine Xt (Wq (Wg ?_))
 refine M2 ?_
 refine Ly (Y_len Tryz.underlying22 rfl (hb.ext hx)) ?_
 refine A2 ?_
 refine An ?_
 refine Wu _ (tk3 4 3 2) ?_
 refine Wt ?_
 refine Xv3 ?_
 have hfin : pres b = (l, (b.length : Int), 0) := by rw [hinv, show b.length + 1 - q = (b.length - q) + 1 by omega, ploop, if_neg (by omega)]
 refine ⟨u, by rw [hfin], ?_, hx⟩
 rw [hfin]
 exact (ho).low (Nat.le_refl _)
end Go.Xp
