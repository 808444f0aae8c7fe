/- Layer 10 (fit): what Check, Plan do. -/
import Derived.Test.YtknimfbagbkjfaaDoorRecF
import Derived.Test.YtknimfbagbkjfaaDoorCheck
set_option linter.unusedSimpArgs false
set_option linter.unusedVariables false
set_option linter.unusedSectionVars false
namespace Go.Xp
open Go.Proofs
section
variable {P : Program} {n : Nat} {e : Env} {h : Heap} {d : Option Tmp} {t : TypeId} {pos : String} {af : Array Edge} {g : Option (Nat × Bool)}
variable {T KT E : TypeId} {x y : Operand} {b : Nat} {u v : Value} {α : Type} [DecidableEq α] {enc : α → Value} {D : TypeDesc} {m : List (α × Value)} {k : α}
end
theorem Own.only1 {h h' : Heap} {base z n B : Nat} {v : Value} {xs : List Value} (x : Own h base z v n xs) (y : Only [B] h h') (hB : B < base) : Own h' base z v n xs := by
  obtain ⟨h1, h2 | ⟨g, cap, extra, h2, hg, hb, hl⟩⟩ := x
  · exact ⟨h1, .inl h2⟩
  · exact ⟨h1, .inr ⟨g, cap, extra, h2, hg, hb.only y (by simp; omega), hl⟩⟩
theorem OwnB.only1 {h h' : Heap} {base B : Nat} {v : Value} {l : List UInt8} (x : OwnB h base v l) (y : Only [B] h h') (hB : B < base) : OwnB h' base v l := Own.only1 x y hB
theorem RowsO.only1 {β : Type} {S : Sch β} {h h' : Heap} {base B : Nat} {v : Value} {l : List β} (x : RowsO S h base v l) (ns : NoSl S) (y : Only [B] h h') (hB : B < base) : RowsO S h' base v l :=
  ⟨Own.only1 x.1 y hB, fun a ha => S.only (x.2 a ha) y (fun u hu b hb => by rw [ns a u hu] at hb; cases hb)⟩

/-! ### Check -/
def ftarget (k : Int) (tg : List UInt8) : Int := if k = 3 then pcheck tg else if k = 2 then rerr [108, 105, 110, 107, 112, 97, 116, 104] tg else if ¬ tg = [] then 2 else 0
def fsize (k z : Int) : Int := if k = 1 ∧ (z < 0 ∨ 1099511627776 < z) then 3 else if ¬ k = 1 ∧ ¬ z = 0 then 2 else 0
def fcheck (k : Int) (p : List UInt8) (m : Int) (tg : List UInt8) (z : Int) : Int :=
  if k < 0 ∨ 3 < k then 8 else if ¬ pcheck p = 0 then pcheck p else if (m < 0 ∨ 4095 < m) ∨ (k = 2 ∧ ¬ m = 0) then 16 else if ¬ ftarget k tg = 0 then ftarget k tg else fsize k z

set_option maxRecDepth 100000 in
theorem fit_checkTarget (h : Heap) (hK : GlbK h) (hE : GlbE h) (k : Int) (p : List UInt8) (m : Int) (tg : List UInt8) (z : Int) (ht : tg.length ≤ 140737488355328) : Cal Tryd.prog 47 #[.agg #[.int .i64 (k), str p, .int .i64 (m), str tg, .int .i64 (z)]] h (fun v h' => v = .int .i64 (ftarget k tg) ∧ Ext h h') := by
 refine Cal_enter (args := [.agg #[.int .i64 (k), str p, .int .i64 (m), str tg, .int .i64 (z)]]) Tryd.func47 rfl rfl rfl (fun σ => ?_)
 refine Wr ?_
 refine L_mks (M_box rfl) rfl rfl rfl ?_
 rintro _ h1 ⟨rfl, hn1⟩
 have hk2 : Blk h1 h.size [.int .i64 (k), str p, .int .i64 (m), str tg, .int .i64 (z)] := hn1.blk
 refine Av ?_
 refine Nx ?_
 refine W_sub _ (tk2 2 1) ?_
 refine W_seq (W_seq (W_region ?_))
 refine Ly (Y_fieldAddr (off := 0) (by kernel_rfl) rfl rfl) ?_
 refine Ly (Y_ldblk Tryd.underlying3 rfl rfl hk2 rfl) ?_
 refine Nx ?_
 refine W_sub _ (tk3 4 2 1) ?_
 refine W_block (W_seq (W_region ?_))
 refine Ly (Y_eql rfl rfl) ?_
 refine Av ?_
 refine Nx ?_
 refine W_sub _ (tk4 5 4 2 1) ?_
 refine W_splitd rfl (fun a => ?_) (fun a => ?_)
 ·refine Wr ?_
  refine Ly (Y_fieldAddr (off := 3) (by kernel_rfl) rfl rfl) ?_
  refine Ly (Y_ldblk Tryd.underlying9 rfl rfl hk2 rfl) ?_
  refine L_call (E_call (by kernel_rfl) rfl) (pathname_Check _ tg (by first | omega | rfl | (simp <;> omega))) rfl rfl rfl ?_
  rintro _ h2 ⟨rfl, hx3⟩
  refine Av ?_
  refine Nx ?_
  refine W_sub _ (tk2 2 1) ?_
  refine W_ret (X_block_ret (X_then_ret ?_))
  refine X_ret1 rfl rfl ?_
  exact ⟨by unfold ftarget; rw [if_pos a], (hn1.ext.trans hx3)⟩
 refine Wr ?_
 refine Ly (Y_eql rfl rfl) ?_
 refine Av ?_
 refine Nx ?_
 refine W_sub _ (tk3 10 2 1) ?_
 refine W_splitd rfl (fun b => ?_) (fun b => ?_)
 ·refine Wr ?_
  refine Ly (Y_fieldAddr (off := 3) (by kernel_rfl) rfl rfl) ?_
  refine Ly (Y_ldblk Tryd.underlying9 rfl rfl hk2 rfl) ?_
  refine Ly (Y_build (v := .agg #[str [108, 105, 110, 107, 112, 97, 116, 104], str tg]) (pv := [(0, str [108, 105, 110, 107, 112, 97, 116, 104]), (1, str tg)]) (evp (is := [0, 1]) (os := [.const (str [108, 105, 110, 107, 112, 97, 116, 104]), .tmp 13]) (vs := [str [108, 105, 110, 107, 112, 97, 116, 104], str tg]) rfl rfl) (fun _ => by kernel_rfl)) ?_
  refine L_call (E_call (by kernel_rfl) rfl) (rec_Check _ (hK.ext hn1.ext) (hE.ext hn1.ext) [108, 105, 110, 107, 112, 97, 116, 104] tg (by first | omega | rfl | (simp <;> omega))) rfl rfl rfl ?_
  rintro _ h3 ⟨rfl, hx4⟩
  refine Av ?_
  refine Nx ?_
  refine W_sub _ (tk2 2 1) ?_
  refine W_ret (X_block_ret (X_then_ret ?_))
  refine X_ret1 rfl rfl ?_
  exact ⟨by unfold ftarget; rw [if_neg a, if_pos b], (hn1.ext.trans hx4)⟩
 refine W_skip (X_block (X_then ?_))
 refine W_sub _ (tk2 2 1) ?_
 refine W_seq (W_seq (W_region ?_))
 refine Ly (Y_fieldAddr (off := 3) (by kernel_rfl) rfl rfl) ?_
 refine Ly (Y_ldblk Tryd.underlying9 rfl rfl hk2 rfl) ?_
 refine Ly (Y_sneq rfl rfl) ?_
 refine Nx ?_
 refine W_sub _ (tk2 18 2) ?_
 refine W_splitd rfl (fun c => ?_) (fun c => ?_)
 ·refine Wr ?_
  refine Av ?_
  refine Nx ?_
  refine W_sub _ (tk1 2) ?_
  refine W_ret (X_then_ret ?_)
  refine X_ret1 rfl rfl ?_
  exact ⟨by unfold ftarget; rw [if_neg a, if_neg b, if_pos c], hn1.ext⟩
 refine Ws ?_
 refine W_sub _ (tk1 2) ?_
 refine Wr ?_
 refine Av ?_
 refine L_nil (X_then (W_ret ?_))
 refine X_ret1 rfl rfl ?_
 exact ⟨by unfold ftarget; rw [if_neg a, if_neg b, if_neg c], hn1.ext⟩
set_option maxRecDepth 100000 in
theorem fit_checkSize (h : Heap) (k : Int) (p : List UInt8) (m : Int) (tg : List UInt8) (z : Int) : Cal Tryd.prog 48 #[.agg #[.int .i64 (k), str p, .int .i64 (m), str tg, .int .i64 (z)]] h (fun v h' => v = .int .i64 (fsize k z) ∧ Ext h h') := by
 refine Cal_enter (args := [.agg #[.int .i64 (k), str p, .int .i64 (m), str tg, .int .i64 (z)]]) Tryd.func48 rfl rfl rfl (fun σ => ?_)
 refine Wr ?_
 refine L_mks (M_box rfl) rfl rfl rfl ?_
 rintro _ h1 ⟨rfl, hn1⟩
 have hk2 : Blk h1 h.size [.int .i64 (k), str p, .int .i64 (m), str tg, .int .i64 (z)] := hn1.blk
 refine Av ?_
 refine Nx ?_
 refine W_sub _ (tk2 2 1) ?_
 refine W_seq (W_block ?_)
 refine W_cut (S := Unit) (fun _ => [(3, .bool (decide ((k = 1) ∧ ((z < 0) ∨ (1099511627776 < z))))), (2, .int .i64 0), (1, .pointer (some ⟨h.size, 0, none⟩))]) (fun _ h' => h' = h1) ?_ ?_
 ·refine W_region ?_
  refine Ly (Y_fieldAddr (off := 0) (by kernel_rfl) rfl rfl) ?_
  refine Ly (Y_ldblk Tryd.underlying3 rfl rfl hk2 rfl) ?_
  refine Ly (Y_eql rfl rfl) ?_
  refine Mv ?_
  refine L_splitd (d := 7) rfl (fun c3 => ?_) (fun c3 => ?_)
  ·refine Ly (Y_fieldAddr (off := 4) (by kernel_rfl) rfl rfl) ?_
   refine Ly (Y_ldblk Tryd.underlying2 rfl rfl hk2 rfl) ?_
   refine Ly (Y_lss rfl rfl) ?_
   refine Mv ?_
   refine L_splitd (d := 11) rfl (fun c4 => ?_) (fun c4 => ?_)
   ·refine Skp ?_
    refine Skp ?_
    refine Skp ?_
    refine Ly (Y_pick_t rfl rfl) ?_
    refine Ly (Y_pick_t rfl rfl) ?_
    refine Av ?_
    refine L_nil ?_
    exact X_cut () (sk1 3 (lkb rfl (by first | (simp only [eq_true c3, eq_true c4, SB]; done) | (simp only [eq_true c3, eq_true c4, SB]; rfl))) (sk1 2 rfl (tk1 1))) rfl
   refine Ly (Y_fieldAddr (off := 4) (by kernel_rfl) rfl rfl) ?_
   refine Ly (Y_ldblk Tryd.underlying2 rfl rfl hk2 rfl) ?_
   refine Ly (Y_gtr rfl rfl) ?_
   refine Ly (Y_pick_f rfl rfl) ?_
   refine Ly (Y_pick_t rfl rfl) ?_
   refine Av ?_
   refine L_nil ?_
   exact X_cut () (sk1 3 (lkb rfl (by first | (simp only [eq_true c3, eq_false c4, SB]; done) | (simp only [eq_true c3, eq_false c4, SB]; rfl))) (sk1 2 rfl (tk1 1))) rfl
  refine Skp ?_
  refine Skp ?_
  refine Skp ?_
  refine Skp ?_
  refine Skp ?_
  refine Skp ?_
  refine Skp ?_
  refine Skp ?_
  refine Ly (Y_pick_f rfl rfl) ?_
  refine Av ?_
  refine L_nil ?_
  exact X_cut () (sk1 3 (lkb rfl (by first | (simp only [eq_false c3, SB]; done) | (simp only [eq_false c3, SB]; rfl))) (sk1 2 rfl (tk1 1))) rfl
 rintro _ h1 rfl
 show W _ _ _ _ _ [(3, .bool (decide ((k = 1) ∧ ((z < 0) ∨ (1099511627776 < z))))), (2, .int .i64 0), (1, .pointer (some ⟨h.size, 0, none⟩))] _
 refine W_splitd rfl (fun a => ?_) (fun a => ?_)
 ·refine Wr ?_
  refine Av ?_
  refine Nx ?_
  refine W_sub _ (tk1 2) ?_
  refine W_ret (X_block_ret (X_then_ret ?_))
  refine X_ret1 rfl rfl ?_
  exact ⟨by unfold fsize; rw [if_pos a], hn1.ext⟩
 refine W_cut (S := Unit) (fun _ => [(17, .bool (decide ((¬ k = 1) ∧ (¬ z = 0)))), (2, .int .i64 0)]) (fun _ h' => h' = h1) ?_ ?_
 ·refine W_region ?_
  refine Ly (Y_fieldAddr (off := 0) (by kernel_rfl) rfl rfl) ?_
  refine Ly (Y_ldblk Tryd.underlying3 rfl rfl hk2 rfl) ?_
  refine Ly (Y_neq rfl rfl) ?_
  refine Mv ?_
  refine L_splitd (d := 21) rfl (fun c5 => ?_) (fun c5 => ?_)
  ·refine Ly (Y_fieldAddr (off := 4) (by kernel_rfl) rfl rfl) ?_
   refine Ly (Y_ldblk Tryd.underlying2 rfl rfl hk2 rfl) ?_
   refine Ly (Y_neq rfl rfl) ?_
   refine Ly (Y_pick_t rfl rfl) ?_
   refine Av ?_
   refine L_nil ?_
   exact X_cut () (sk1 17 (lkb rfl (by first | (simp only [eq_true c5, SB]; done) | (simp only [eq_true c5, SB]; rfl))) (tk1 2)) rfl
  refine Skp ?_
  refine Skp ?_
  refine Skp ?_
  refine Ly (Y_pick_f rfl rfl) ?_
  refine Av ?_
  refine L_nil ?_
  exact X_cut () (sk1 17 (lkb rfl (by first | (simp only [eq_false c5, SB]; done) | (simp only [eq_false c5, SB]; rfl))) (tk1 2)) rfl
 rintro _ h1 rfl
 show W _ _ _ _ _ [(17, .bool (decide ((¬ k = 1) ∧ (¬ z = 0)))), (2, .int .i64 0)] _
 refine W_splitd rfl (fun b => ?_) (fun b => ?_)
 ·refine Wr ?_
  refine Av ?_
  refine Nx ?_
  refine W_sub _ (tk1 2) ?_
  refine W_ret (X_block_ret (X_then_ret ?_))
  refine X_ret1 rfl rfl ?_
  exact ⟨by unfold fsize; rw [if_neg a, if_pos b], hn1.ext⟩
 refine W_skip (X_block (X_then ?_))
 refine W_sub _ (tk1 2) ?_
 refine Wr ?_
 refine Av ?_
 refine L_nil (X_then (W_ret ?_))
 refine X_ret1 rfl rfl ?_
 exact ⟨by unfold fsize; rw [if_neg a, if_neg b], hn1.ext⟩
set_option maxRecDepth 100000 in
theorem fit_Check (h : Heap) (hK : GlbK h) (hE : GlbE h) (k : Int) (p : List UInt8) (m : Int) (tg : List UInt8) (z : Int) (hp : p.length ≤ 140737488355328) (ht : tg.length ≤ 140737488355328) : Cal Tryd.prog 31 #[.agg #[.int .i64 (k), str p, .int .i64 (m), str tg, .int .i64 (z)]] h (fun v h' => v = .int .i64 (fcheck k p m tg z) ∧ Ext h h') := by
 refine Cal_enter (args := [.agg #[.int .i64 (k), str p, .int .i64 (m), str tg, .int .i64 (z)]]) Tryd.func31 rfl rfl rfl (fun σ => ?_)
 refine Wr ?_
 refine L_mks (M_box rfl) rfl rfl rfl ?_
 rintro _ h1 ⟨rfl, hn1⟩
 have hk2 : Blk h1 h.size [.int .i64 (k), str p, .int .i64 (m), str tg, .int .i64 (z)] := hn1.blk
 refine Av ?_
 refine Nx ?_
 refine W_sub _ (tk2 2 1) ?_
 refine W_seq ?_
 refine W_cut (S := Unit) (fun _ => [(12, .bool (decide ((k < 0) ∨ (4 ≤ k)))), (2, .int .i64 0), (1, .pointer (some ⟨h.size, 0, none⟩))]) (fun _ h' => h' = h1) ?_ ?_
 ·refine W_region ?_
  refine Ly (Y_fieldAddr (off := 0) (by kernel_rfl) rfl rfl) ?_
  refine Ly (Y_ldblk Tryd.underlying3 rfl rfl hk2 rfl) ?_
  refine Ly (Y_lss rfl rfl) ?_
  refine Mv ?_
  refine L_splitd (d := 8) rfl (fun c3 => ?_) (fun c3 => ?_)
  ·refine Skp ?_
   refine Skp ?_
   refine Skp ?_
   refine Ly (Y_pick_t rfl rfl) ?_
   refine L_nil ?_
   exact X_cut () (sk1 12 (lkb rfl (by first | (simp only [eq_true c3, SB]; done) | (simp only [eq_true c3, SB]; rfl))) (sk1 2 rfl (tk1 1))) rfl
  refine Ly (Y_fieldAddr (off := 0) (by kernel_rfl) rfl rfl) ?_
  refine Ly (Y_ldblk Tryd.underlying3 rfl rfl hk2 rfl) ?_
  refine Ly (Y_geq rfl rfl) ?_
  refine Ly (Y_pick_f rfl rfl) ?_
  refine L_nil ?_
  exact X_cut () (sk1 12 (lkb rfl (by first | (simp only [eq_false c3, SB]; done) | (simp only [eq_false c3, SB]; rfl))) (sk1 2 rfl (tk1 1))) rfl
 rintro _ h1 rfl
 show W _ _ _ _ _ [(12, .bool (decide ((k < 0) ∨ (4 ≤ k)))), (2, .int .i64 0), (1, .pointer (some ⟨h.size, 0, none⟩))] _
 refine W_splitd rfl (fun a => ?_) (fun a => ?_)
 ·refine Wr ?_
  refine Av ?_
  refine Nx ?_
  refine W_sub _ (tk2 2 1) ?_
  refine W_ret (X_then_ret ?_)
  refine X_ret1 rfl rfl ?_
  exact ⟨by unfold fcheck; rw [if_pos (by omega)], hn1.ext⟩
 refine Ws ?_
 refine W_sub _ (tk2 2 1) ?_
 refine W_seq (W_seq (W_region ?_))
 refine Ly (Y_fieldAddr (off := 1) (by kernel_rfl) rfl rfl) ?_
 refine Ly (Y_ldblk Tryd.underlying9 rfl rfl hk2 rfl) ?_
 refine L_call (E_call (by kernel_rfl) rfl) (pathname_Check _ p (by first | omega | rfl | (simp <;> omega))) rfl rfl rfl ?_
 rintro _ h2 ⟨rfl, hx4⟩
 refine Av ?_
 refine Nx ?_
 refine W_sub _ (tk3 3 2 1) ?_
 refine Wr ?_
 refine Mv ?_
 refine Ly (Y_neq rfl rfl) ?_
 refine Nx ?_
 refine W_sub _ (tk4 17 3 2 1) ?_
 refine W_splitd rfl (fun b => ?_) (fun b => ?_)
 ·refine Wr ?_
  refine Mv ?_
  refine Av ?_
  refine Nx ?_
  refine W_sub _ (tk2 2 1) ?_
  refine W_ret (X_then_ret ?_)
  refine X_ret1 rfl rfl ?_
  exact ⟨by unfold fcheck; rw [if_neg (by omega), if_pos b], (hn1.ext.trans hx4)⟩
 refine Ws ?_
 refine W_sub _ (tk2 2 1) ?_
 refine W_seq ?_
 refine W_cut (S := Unit) (fun _ => [(36, .bool (decide (((m < 0) ∨ (4095 < m)) ∨ ((k = 2) ∧ (¬ m = 0))))), (2, .int .i64 0), (1, .pointer (some ⟨h.size, 0, none⟩))]) (fun _ h' => h' = h2) ?_ ?_
 ·refine W_region ?_
  refine Ly (Y_fieldAddr (off := 2) (by kernel_rfl) rfl rfl) ?_
  refine Ly (Y_ldblk Tryd.underlying3 rfl rfl (hk2.ext hx4) rfl) ?_
  refine Ly (Y_lss rfl rfl) ?_
  refine Mv ?_
  refine L_splitd (d := 22) rfl (fun c5 => ?_) (fun c5 => ?_)
  ·refine Skp ?_
   refine Skp ?_
   refine Skp ?_
   refine Ly (Y_pick_t rfl rfl) ?_
   refine Mv ?_
   refine Skp ?_
   refine Skp ?_
   refine Skp ?_
   refine Skp ?_
   refine Skp ?_
   refine Skp ?_
   refine Skp ?_
   refine Skp ?_
   refine Ly (Y_pick_t rfl rfl) ?_
   refine L_nil ?_
   exact X_cut () (sk1 36 (lkb rfl (by first | (simp only [eq_true c5, SB]; done) | (simp only [eq_true c5, SB]; rfl))) (sk1 2 rfl (tk1 1))) rfl
  refine Ly (Y_fieldAddr (off := 2) (by kernel_rfl) rfl rfl) ?_
  refine Ly (Y_ldblk Tryd.underlying3 rfl rfl (hk2.ext hx4) rfl) ?_
  refine Ly (Y_gtr rfl rfl) ?_
  refine Ly (Y_pick_f rfl rfl) ?_
  refine Mv ?_
  refine L_splitd (d := 27) rfl (fun c6 => ?_) (fun c6 => ?_)
  ·refine Skp ?_
   refine Skp ?_
   refine Skp ?_
   refine Skp ?_
   refine Skp ?_
   refine Skp ?_
   refine Skp ?_
   refine Skp ?_
   refine Ly (Y_pick_t rfl rfl) ?_
   refine L_nil ?_
   exact X_cut () (sk1 36 (lkb rfl (by first | (simp only [eq_false c5, eq_true c6, SB]; done) | (simp only [eq_false c5, eq_true c6, SB]; rfl))) (sk1 2 rfl (tk1 1))) rfl
  refine Ly (Y_fieldAddr (off := 0) (by kernel_rfl) rfl rfl) ?_
  refine Ly (Y_ldblk Tryd.underlying3 rfl rfl (hk2.ext hx4) rfl) ?_
  refine Ly (Y_eql rfl rfl) ?_
  refine Mv ?_
  refine L_splitd (d := 31) rfl (fun c7 => ?_) (fun c7 => ?_)
  ·refine Ly (Y_fieldAddr (off := 2) (by kernel_rfl) rfl rfl) ?_
   refine Ly (Y_ldblk Tryd.underlying3 rfl rfl (hk2.ext hx4) rfl) ?_
   refine Ly (Y_neq rfl rfl) ?_
   refine Ly (Y_pick_t rfl rfl) ?_
   refine Ly (Y_pick_f rfl rfl) ?_
   refine L_nil ?_
   exact X_cut () (sk1 36 (lkb rfl (by first | (simp only [eq_false c5, eq_false c6, eq_true c7, SB]; done) | (simp only [eq_false c5, eq_false c6, eq_true c7, SB]; rfl))) (sk1 2 rfl (tk1 1))) rfl
  refine Skp ?_
  refine Skp ?_
  refine Skp ?_
  refine Ly (Y_pick_f rfl rfl) ?_
  refine Ly (Y_pick_f rfl rfl) ?_
  refine L_nil ?_
  exact X_cut () (sk1 36 (lkb rfl (by first | (simp only [eq_false c5, eq_false c6, eq_false c7, SB]; done) | (simp only [eq_false c5, eq_false c6, eq_false c7, SB]; rfl))) (sk1 2 rfl (tk1 1))) rfl
 rintro _ h2 rfl
 show W _ _ _ _ _ [(36, .bool (decide (((m < 0) ∨ (4095 < m)) ∨ ((k = 2) ∧ (¬ m = 0))))), (2, .int .i64 0), (1, .pointer (some ⟨h.size, 0, none⟩))] _
 refine W_splitd rfl (fun c => ?_) (fun c => ?_)
 ·refine Wr ?_
  refine Av ?_
  refine Nx ?_
  refine W_sub _ (tk2 2 1) ?_
  refine W_ret (X_then_ret ?_)
  refine X_ret1 rfl rfl ?_
  exact ⟨by unfold fcheck; rw [if_neg (by omega), if_neg b, if_pos c], (hn1.ext.trans hx4)⟩
 refine Ws ?_
 refine W_sub _ (tk2 2 1) ?_
 refine W_seq (W_seq (W_region ?_))
 refine Ly (Y_ldbox (us := [.int .i64 (k), str p, .int .i64 (m), str tg, .int .i64 (z)]) Tryd.underlying27 rfl (show _ = some 5 by kernel_rfl) rfl (hk2.ext hx4) rfl) ?_
 refine L_call (E_call (by kernel_rfl) rfl) (fit_checkTarget _ (hK.ext (hn1.ext.trans hx4)) (hE.ext (hn1.ext.trans hx4)) k p m tg z (by first | omega | rfl | (simp <;> omega))) rfl rfl rfl ?_
 rintro _ h3 ⟨rfl, hx8⟩
 refine Av ?_
 refine Nx ?_
 refine W_sub _ (tk3 4 2 1) ?_
 refine Wr ?_
 refine Mv ?_
 refine Ly (Y_neq rfl rfl) ?_
 refine Nx ?_
 refine W_sub _ (tk4 40 4 2 1) ?_
 refine W_splitd rfl (fun f => ?_) (fun f => ?_)
 ·refine Wr ?_
  refine Mv ?_
  refine Av ?_
  refine Nx ?_
  refine W_sub _ (tk2 2 1) ?_
  refine W_ret (X_then_ret ?_)
  refine X_ret1 rfl rfl ?_
  exact ⟨by unfold fcheck; rw [if_neg (by omega), if_neg b, if_neg c, if_pos f], ((hn1.ext.trans hx4).trans hx8)⟩
 refine Ws ?_
 refine W_sub _ (tk2 2 1) ?_
 refine Wr ?_
 refine Ly (Y_ldbox (us := [.int .i64 (k), str p, .int .i64 (m), str tg, .int .i64 (z)]) Tryd.underlying27 rfl (show _ = some 5 by kernel_rfl) rfl (hk2.ext (hx4.trans hx8)) rfl) ?_
 refine L_call (E_call (by kernel_rfl) rfl) (fit_checkSize _ k p m tg z) rfl rfl rfl ?_
 rintro _ h4 ⟨rfl, hx9⟩
 refine Av ?_
 refine Nx ?_
 refine W_sub _ (tk1 2) ?_
 refine W_ret ?_
 refine X_ret1 rfl rfl ?_
 exact ⟨by unfold fcheck; rw [if_neg (by omega), if_neg b, if_neg c, if_neg f], (((hn1.ext.trans hx4).trans hx8).trans hx9)⟩

/-! ### Plan -/
end Go.Xp
