/- The library's stable sort of nodes, whole: what it leaves is the list sorted by insertion. -/
import Derived.Test.YtknimfbagbkjfaaDoorSortL
set_option linter.unusedSimpArgs false
set_option linter.unusedVariables false
set_option linter.unusedSectionVars false
namespace Go.Xp
open Go.Proofs

set_option maxRecDepth 100000 in
theorem sort_stable (h : Heap) (B : Nat) (N : Nat) (L : List Nod) (pd : Nat → Prop) (hb : RBuf nodS h B pd L) (n : Int) (hpB : ¬ pd B) (hN : N = L.length) (hm : L.length ≤ 1000000000000) (hn : n = L.length) : Cal Tryd.prog 66 #[.slice (some ⟨B, 0, none⟩) N N, .int .i64 (n), .func (.func 54) #[] #[]] h (fun v h' => v = .tuple #[] ∧ Only [B] h h' ∧ RBuf nodS h' B pd (srt L)) := by
 refine Cal_enter (args := [.slice (some ⟨B, 0, none⟩) N N, .int .i64 (n), .func (.func 54) #[] #[]]) Tryd.func66 rfl rfl rfl (fun σ => ?_)
 refine Wr ?_
 refine Av ?_
 refine L_nil (X_then (W_seq (W_region ?_)))
 refine Mv ?_
 refine Av ?_
 refine Av ?_
 refine Nx ?_
 refine W_sub _ (tk6 8 7 6 0 1 2) ?_
 refine W_seq (W_block ?_)
 refine W_loop (S := Nat × List Nod) (fun (a, Lc) => [(6, .int .i64 20), (0, .slice (some ⟨B, 0, none⟩) N N), (1, .int .i64 (n)), (2, .func (.func 54) #[] #[]), (7, .int .i64 ((a : Int))), (8, .int .i64 ((a : Int) + 20))]) (fun (a, Lc) h' => (a : Int) ≤ n ∧ Lc.length = L.length ∧ Sti L a Lc ∧ Only [B] h h' ∧ RBuf nodS h' B pd Lc) (fun (a, Lc) => n.toNat - a) (0, L) (sk4 6 0 1 2 rfl rfl rfl rfl (sk1 7 (lki rfl (by omega)) (sk1 8 (lki rfl (by omega)) sN))) ?_ ?_
 ·exact ⟨by omega, rfl, sti_0 L, (Only.refl _ _), hb⟩
 rintro ⟨a, Lc⟩ h1 ⟨ha, hLl, hT, hx, hb1⟩
 show W _ _ _ _ _ [(6, .int .i64 20), (0, .slice (some ⟨B, 0, none⟩) N N), (1, .int .i64 (n)), (2, .func (.func 54) #[] #[]), (7, .int .i64 ((a : Int))), (8, .int .i64 ((a : Int) + 20))] _
 refine W_seq (W_seq (W_region ?_))
 refine Mv ?_
 refine Mv ?_
 refine Ly (Y_leq rfl rfl) ?_
 refine Nx ?_
 refine W_sub _ (tk7 13 6 0 1 2 7 8) ?_
 refine W_splitd rfl (fun c => ?_) (fun c => ?_)
 ·refine Ws ?_
  refine W_sub _ (tk6 6 0 1 2 7 8) ?_
  refine W_block (W_seq (W_region ?_))
  refine Mv ?_
  refine Mv ?_
  refine Mv ?_
  refine Mv ?_
  refine L_call (E_call (by kernel_rfl) rfl) (sort_insertion _ B N Lc pd hb1 (a : Int) ((a : Int) + 20) (by first | first | omega | (simp; omega) | rfl | (simp <;> omega)) (by first | first | omega | (simp; omega) | rfl | (simp <;> omega)) (by first | first | omega | (simp; omega) | rfl | (simp <;> omega)) (by first | first | omega | (simp; omega) | rfl | (simp <;> omega)) (by first | first | omega | (simp; omega) | rfl | (simp <;> omega)) (by first | first | omega | (simp; omega) | rfl | (simp <;> omega))) rfl rfl rfl ?_
  rintro _ h2 ⟨rfl, hx1, hb2⟩
  refine Nx ?_
  refine W_sub _ (tk6 6 0 1 2 7 8) ?_
  refine Wr ?_
  refine Mv ?_
  refine Av ?_
  refine Nx ?_
  refine W_sub _ (tk6 7 6 0 1 2 8) ?_
  refine W_region ?_
  refine Mv ?_
  refine Mv ?_
  refine Ly (Y_add rfl rfl (by first | omega | (simp; omega)) (by first | omega | (simp; omega))) ?_
  refine Av ?_
  refine L_nil (X_block ?_)
  refine X_loop ((a + 20, (isort Lc (a : Int).toNat ((a : Int) + 20).toNat))) (sk4 6 0 1 2 rfl rfl rfl rfl (sk1 7 (lki rfl (by omega)) (sk1 8 (lki rfl (by omega)) sN))) ?_ ?_
  ·exact ⟨by omega, by simp [hLl], by rw [show ((a : Int) + 20).toNat = a + 20 by omega]; exact sti_step hT (by omega), (Only.trans (Only.trans (Only.refl _ _) hx (fun _ hb_ => .inl hb_)) hx1 (fun _ hb_ => .inl hb_)), hb2⟩
  (try dsimp only)
  omega
 refine W_exit ?_
 refine X_then_exit (X_then_exit ?_)
 refine X_block_hit ?_
 refine X_then ?_
 refine W_sub _ (tk6 6 0 1 2 7 8) ?_
 refine Wr ?_
 refine Mv ?_
 refine Mv ?_
 refine Mv ?_
 refine Mv ?_
 refine L_call (E_call (by kernel_rfl) rfl) (sort_insertion _ B N Lc pd hb1 (a : Int) n (by first | first | omega | (simp; omega) | rfl | (simp <;> omega)) (by first | first | omega | (simp; omega) | rfl | (simp <;> omega)) (by first | first | omega | (simp; omega) | rfl | (simp <;> omega)) (by first | first | omega | (simp; omega) | rfl | (simp <;> omega)) (by first | first | omega | (simp; omega) | rfl | (simp <;> omega)) (by first | first | omega | (simp; omega) | rfl | (simp <;> omega))) rfl rfl rfl ?_
 rintro _ h3 ⟨rfl, hx3, hb4⟩
 refine Nx ?_
 refine W_sub _ (tk6 6 0 1 2 7 8) ?_
 refine W_block ?_
 refine W_loop (S := Nat × List Nod) (fun (k, Lc2) => [(0, .slice (some ⟨B, 0, none⟩) N N), (1, .int .i64 (n)), (2, .func (.func 54) #[] #[]), (6, .int .i64 ((k : Int)))]) (fun (k, Lc2) h' => 20 ≤ k ∧ (k : Int) ≤ 2000000000000 ∧ Lc2.length = L.length ∧ Lc2 = bks k L ∧ Only [B] h h' ∧ RBuf nodS h' B pd Lc2) (fun (k, Lc2) => n.toNat - k) (20, (isort Lc (a : Int).toNat n.toNat)) (sk3 0 1 2 rfl rfl rfl (sk1 6 (lki rfl (by omega)) sN)) ?_ ?_
 ·exact ⟨by omega, by omega, by simp [hLl], by rw [hn]; exact sti_end hT (by omega) (by omega), (Only.trans (Only.trans (Only.refl _ _) hx (fun _ hb_ => .inl hb_)) hx3 (fun _ hb_ => .inl hb_)), hb4⟩
 rintro ⟨k, Lc2⟩ h4 ⟨hk20, hkm, hLl2, hT2, hx2, hb2⟩
 show W _ _ _ _ _ [(0, .slice (some ⟨B, 0, none⟩) N N), (1, .int .i64 (n)), (2, .func (.func 54) #[] #[]), (6, .int .i64 ((k : Int)))] _
 refine W_seq (W_seq (W_region ?_))
 refine Mv ?_
 refine Mv ?_
 refine Ly (Y_lss rfl rfl) ?_
 refine Nx ?_
 refine W_sub _ (tk5 30 0 1 2 6) ?_
 refine W_splitd rfl (fun d => ?_) (fun d => ?_)
 ·refine Ws ?_
  refine W_sub _ (tk4 0 1 2 6) ?_
  refine W_block (W_seq (W_region ?_))
  refine Mv ?_
  refine Ly (Y_mul rfl rfl (by first | omega | (simp; omega)) (by first | omega | (simp; omega))) ?_
  refine Av ?_
  refine Av ?_
  refine Nx ?_
  refine W_sub _ (tk6 8 7 0 1 2 6) ?_
  refine W_seq (W_block ?_)
  refine W_loop (S := Nat × List Nod) (fun (a, Lc3) => [(0, .slice (some ⟨B, 0, none⟩) N N), (1, .int .i64 (n)), (2, .func (.func 54) #[] #[]), (6, .int .i64 ((k : Int))), (7, .int .i64 ((a : Int))), (8, .int .i64 ((a : Int) + 2 * (k : Int)))]) (fun (a, Lc3) h' => (a : Int) ≤ n ∧ Lc3.length = L.length ∧ Stm k L a Lc3 ∧ Only [B] h h' ∧ RBuf nodS h' B pd Lc3) (fun (a, Lc3) => n.toNat - a) (0, Lc2) (sk4 0 1 2 6 rfl rfl rfl rfl (sk1 7 (lki rfl (by omega)) (sk1 8 (lki rfl (by omega)) sN))) ?_ ?_
  ·exact ⟨by omega, hLl2, hT2 ▸ stm_0 k L, (Only.trans (Only.refl _ _) hx2 (fun _ hb_ => .inl hb_)), hb2⟩
  rintro ⟨a, Lc3⟩ h5 ⟨ha3, hLl3, hT3, hx3, hb3⟩
  show W _ _ _ _ _ [(0, .slice (some ⟨B, 0, none⟩) N N), (1, .int .i64 (n)), (2, .func (.func 54) #[] #[]), (6, .int .i64 ((k : Int))), (7, .int .i64 ((a : Int))), (8, .int .i64 ((a : Int) + 2 * (k : Int)))] _
  refine W_seq (W_seq (W_region ?_))
  refine Mv ?_
  refine Mv ?_
  refine Ly (Y_leq rfl rfl) ?_
  refine Nx ?_
  refine W_sub _ (tk7 35 0 1 2 6 7 8) ?_
  refine W_splitd rfl (fun w => ?_) (fun w => ?_)
  ·refine Ws ?_
   refine W_sub _ (tk6 0 1 2 6 7 8) ?_
   refine W_block (W_seq (W_region ?_))
   refine Mv ?_
   refine Mv ?_
   refine Mv ?_
   refine Mv ?_
   refine Ly (Y_add rfl rfl (by first | omega | (simp; omega)) (by first | omega | (simp; omega))) ?_
   refine Mv ?_
   refine Mv ?_
   refine L_call (E_call (by kernel_rfl) rfl) (sort_symMerge _ B N Lc3 pd hb3 (a : Int) ((a : Int) + (k : Int)) ((a : Int) + 2 * (k : Int)) (by first | first | omega | (simp; omega) | rfl | (simp <;> omega)) (by first | first | omega | (simp; omega) | rfl | (simp <;> omega)) (by first | first | omega | (simp; omega) | rfl | (simp <;> omega)) (by first | first | omega | (simp; omega) | rfl | (simp <;> omega)) (by first | first | omega | (simp; omega) | rfl | (simp <;> omega)) (by first | first | omega | (simp; omega) | rfl | (simp <;> omega)) (by first | first | omega | (simp; omega) | rfl | (simp <;> omega))) rfl rfl rfl ?_
   rintro _ h6 ⟨rfl, hx5, hb6⟩
   refine Nx ?_
   refine W_sub _ (tk6 0 1 2 6 7 8) ?_
   refine Wr ?_
   refine Mv ?_
   refine Av ?_
   refine Nx ?_
   refine W_sub _ (tk6 7 0 1 2 6 8) ?_
   refine W_region ?_
   refine Mv ?_
   refine Mv ?_
   refine Ly (Y_mul rfl rfl (by first | omega | (simp; omega)) (by first | omega | (simp; omega))) ?_
   refine Ly (Y_add rfl rfl (by first | omega | (simp; omega)) (by first | omega | (simp; omega))) ?_
   refine Av ?_
   refine L_nil (X_block ?_)
   refine X_loop ((a + 2 * k, (smg Lc3 (a : Int).toNat ((a : Int) + (k : Int)).toNat ((a : Int) + 2 * (k : Int)).toNat))) (sk4 0 1 2 6 rfl rfl rfl rfl (sk1 7 (lki rfl (by omega)) (sk1 8 (lki rfl (by omega)) sN))) ?_ ?_
   ·exact ⟨by omega, by simp [hLl3], by rw [show ((a : Int) + (k : Int)).toNat = a + k by omega, show ((a : Int) + 2 * (k : Int)).toNat = a + 2 * k by omega]; exact stm_step hT3 (by omega) (by omega), (Only.trans (Only.trans (Only.refl _ _) hx3 (fun _ hb_ => .inl hb_)) hx5 (fun _ hb_ => .inl hb_)), hb6⟩
   (try dsimp only)
   omega
  refine W_exit ?_
  refine X_then_exit (X_then_exit ?_)
  refine X_block_hit ?_
  refine X_then ?_
  refine W_sub _ (tk5 0 1 2 6 7) ?_
  refine W_seq (W_seq (W_region ?_))
  refine Mv ?_
  refine Mv ?_
  refine Ly (Y_add rfl rfl (by first | omega | (simp; omega)) (by first | omega | (simp; omega))) ?_
  refine Av ?_
  refine Nx ?_
  refine W_sub _ (tk6 9 0 1 2 6 7) ?_
  refine Wr ?_
  refine Mv ?_
  refine Mv ?_
  refine Ly (Y_lss rfl rfl) ?_
  refine Nx ?_
  refine W_sub _ (tk7 54 9 0 1 2 6 7) ?_
  refine W_splitd rfl (fun u => ?_) (fun u => ?_)
  ·refine W_region ?_
   refine Mv ?_
   refine Mv ?_
   refine Mv ?_
   refine Mv ?_
   refine Mv ?_
   refine L_call (E_call (by kernel_rfl) rfl) (sort_symMerge _ B N Lc3 pd hb3 (a : Int) ((a : Int) + (k : Int)) n (by first | first | omega | (simp; omega) | rfl | (simp <;> omega)) (by first | first | omega | (simp; omega) | rfl | (simp <;> omega)) (by first | first | omega | (simp; omega) | rfl | (simp <;> omega)) (by first | first | omega | (simp; omega) | rfl | (simp <;> omega)) (by first | first | omega | (simp; omega) | rfl | (simp <;> omega)) (by first | first | omega | (simp; omega) | rfl | (simp <;> omega)) (by first | first | omega | (simp; omega) | rfl | (simp <;> omega))) rfl rfl rfl ?_
   rintro _ h7 ⟨rfl, hx7, hb8⟩
   refine Nx ?_
   refine W_sub _ (tk4 0 1 2 6) ?_
   refine W_region ?_
   refine Mv ?_
   refine Ly (Y_mul rfl rfl (by first | omega | (simp; omega)) (by first | omega | (simp; omega))) ?_
   refine Av ?_
   refine L_nil (X_block ?_)
   refine X_loop ((2 * k, (smg Lc3 (a : Int).toNat ((a : Int) + (k : Int)).toNat n.toNat))) (sk3 0 1 2 rfl rfl rfl (sk1 6 (lki rfl (by omega)) sN)) ?_ ?_
   ·exact ⟨by omega, by omega, by simp [hLl3], by rw [show ((a : Int) + (k : Int)).toNat = a + k by omega, hn]; exact stm_end1 hT3 (by omega) (by omega) (by omega), (Only.trans (Only.trans (Only.refl _ _) hx3 (fun _ hb_ => .inl hb_)) hx7 (fun _ hb_ => .inl hb_)), hb8⟩
   (try dsimp only)
   omega
  refine Ws ?_
  refine W_sub _ (tk4 0 1 2 6) ?_
  refine W_region ?_
  refine Mv ?_
  refine Ly (Y_mul rfl rfl (by first | omega | (simp; omega)) (by first | omega | (simp; omega))) ?_
  refine Av ?_
  refine L_nil (X_block ?_)
  refine X_loop ((2 * k, Lc3)) (sk3 0 1 2 rfl rfl rfl (sk1 6 (lki rfl (by omega)) sN)) ?_ ?_
  ·exact ⟨by omega, by omega, hLl3, stm_end0 hT3 (by omega), (Only.trans (Only.refl _ _) hx3 (fun _ hb_ => .inl hb_)), hb3⟩
  (try dsimp only)
  omega
 refine W_exit ?_
 refine X_then_exit (X_then_exit ?_)
 refine X_block_hit ?_
 refine X_end ?_
 refine X_end0 rfl ?_
 refine ⟨rfl, (Only.trans (Only.refl _ _) hx2 (fun _ hb_ => .inl hb_)), RBuf.congr hb2 ?_⟩
 rw [hT2, bks_end (by omega)]

set_option maxRecDepth 100000 in
theorem sort_SortStable (h : Heap) (B : Nat) (N : Nat) (L : List Nod) (pd : Nat → Prop) (hb : RBuf nodS h B pd L) (hpB : ¬ pd B) (hN : N = L.length) (hm : L.length ≤ 1000000000000) : Cal Tryd.prog 53 #[.slice (some ⟨B, 0, none⟩) N N, .func (.func 54) #[] #[]] h (fun v h' => v = .tuple #[] ∧ Only [B] h h' ∧ RBuf nodS h' B pd (srt L)) := by
 refine Cal_enter (args := [.slice (some ⟨B, 0, none⟩) N N, .func (.func 54) #[] #[]]) Tryd.func53 rfl rfl rfl (fun σ => ?_)
 refine W_region ?_
 refine Mv ?_
 refine Mv ?_
 refine Ly (Y_lenr Tryd.underlying32 rfl (hb.rows (by first | omega | (simp; omega) | (simp; done)))) ?_
 refine Mv ?_
 refine L_call (E_call (by kernel_rfl) rfl) (sort_stable _ B N L pd hb (L.length : Int) (by first | omega | rfl | (simp <;> omega)) (by first | omega | rfl | (simp <;> omega)) (by first | omega | rfl | (simp <;> omega)) (by first | omega | rfl | (simp <;> omega))) rfl rfl rfl ?_
 rintro _ h1 ⟨rfl, hx1, hb2⟩
 refine L_nil ?_
 refine X_end ?_
 refine X_end0 rfl ?_
 exact ⟨rfl, (Only.trans (Only.refl _ _) hx1 (fun _ hb_ => .inl hb_)), hb2⟩
end Go.Xp
