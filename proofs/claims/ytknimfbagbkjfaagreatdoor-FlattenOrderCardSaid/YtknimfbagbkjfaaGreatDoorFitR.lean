/- Layer 10 (fit): what Check, Plan do. -/
import Derived.Test.YtknimfbagbkjfaaGreatDoorRecF
import Derived.Test.YtknimfbagbkjfaaGreatDoorCheck
import Derived.Test.YtknimfbagbkjfaaGreatDoorEq
import Derived.Test.YtknimfbagbkjfaaGreatDoorOf
set_option linter.unusedSimpArgs false
set_option linter.unusedVariables false
set_option linter.unusedSectionVars false
namespace Go.Xp
open Go.Proofs
section
variable {P : Program} {n : Nat} {e : Env} {h : Heap} {d : Option Tmp} {t : TypeId} {pos : String} {af : Array Edge} {g : Option (Nat × Bool)}
variable {T KT E : TypeId} {x y : Operand} {b : Nat} {u v : Value} {α : Type} [DecidableEq α] {enc : α → Value} {D : TypeDesc} {m : List (α × Value)} {k : α}
theorem Y_look2s (K : Key D enc) (hT : P.underlying T = some (.map KT E)) (hK : P.underlying KT = some D) (hz : (P.info? E).bind (·.zero) = some u) (hx : ev e x = some (.map (some b))) (hy : ev e y = some (enc k)) (hb : MapK enc h b m) (hg : mget m k = some v) :
    Yld P n e h ⟨d, .lookup T x y true, t, pos, af, g⟩ (.tuple #[v, .bool true]) := by
  have := Y_look2 (P := P) (n := n) (d := d) (t := t) (pos := pos) (af := af) (g := g) K hT hK hz hx hy hb
  rw [hg] at this; exact this
theorem Y_look2n (K : Key D enc) (hT : P.underlying T = some (.map KT E)) (hK : P.underlying KT = some D) (hz : (P.info? E).bind (·.zero) = some u) (hx : ev e x = some (.map (some b))) (hy : ev e y = some (enc k)) (hb : MapK enc h b m) (hg : mget m k = none) :
    Yld P n e h ⟨d, .lookup T x y true, t, pos, af, g⟩ (.tuple #[u, .bool false]) := by
  have := Y_look2 (P := P) (n := n) (d := d) (t := t) (pos := pos) (af := af) (g := g) K hT hK hz hx hy hb
  rw [hg] at this; exact this
end
theorem Cls.bytesG {h : Heap} {b n : Nat} {l : List UInt8} (x : Cls h b (l.map bv)) (hn : n = l.length) (h0 : 0 < n) : Bytes h (.slice (some ⟨b, 0, none⟩) n n) l := by
  subst hn
  refine ⟨⟨some ⟨b, 0, none⟩, l.length, rfl, Nat.le_refl _, (fun h => by cases h), ?_⟩, by simp⟩
  intro ad ha
  cases ha
  exact ⟨fun _ => ⟨rfl, x.1⟩, fun i u hi => by simpa using x.2 i u hi⟩
theorem Own.only1 {h h' : Heap} {base z n B : Nat} {v : Value} {xs : List Value} (x : Own h base z v n xs) (y : Only [B] h h') (hB : B < base) : Own h' base z v n xs := by
  obtain ⟨h1, h2 | ⟨g, cap, extra, h2, hg, hb, hl⟩⟩ := x
  · exact ⟨h1, .inl h2⟩
  · exact ⟨h1, .inr ⟨g, cap, extra, h2, hg, hb.only y (by simp; omega), hl⟩⟩
theorem OwnB.only1 {h h' : Heap} {base B : Nat} {v : Value} {l : List UInt8} (x : OwnB h base v l) (y : Only [B] h h') (hB : B < base) : OwnB h' base v l := Own.only1 x y hB
theorem RowsO.only1 {β : Type} {S : Sch β} {h h' : Heap} {base B : Nat} {v : Value} {l : List β} (x : RowsO S h base v l) (ns : NoSl S) (y : Only [B] h h') (hB : B < base) : RowsO S h' base v l :=
  ⟨Own.only1 x.1 y hB, fun a ha => S.only (x.2 a ha) y (fun u hu b hb => by rw [ns a u hu] at hb; cases hb)⟩

/-! ### Check -/
def ftarget (k : Int) (tg : List UInt8) : Int := if k = 3 then pcheck tg else if k = 2 then rerr [108, 105, 110, 107, 112, 97, 116, 104] tg else if ¬ tg = [] then 2 else 0
def fsize (k z : Int) : Int := if k = 1 ∧ (z < 0 ∨ 1099511627776 < z) then 3 else if ¬ k = 1 ∧ ¬ z = 0 then 2 else 0
def fcheck (k : Int) (p : List UInt8) (m : Int) (tg : List UInt8) (z : Int) : Int :=
  if k < 0 ∨ 3 < k then 8 else if ¬ pcheck p = 0 then pcheck p else if (m < 0 ∨ 4095 < m) ∨ (k = 2 ∧ ¬ m = 0) then 16 else if ¬ ftarget k tg = 0 then ftarget k tg else fsize k z

set_option maxRecDepth 100000 in
theorem fit_checkTarget (h : Heap) (hK : GlbK h) (hE : GlbE h) (k : Int) (p : List UInt8) (m : Int) (tg : List UInt8) (z : Int) (ht : tg.length ≤ 140737488355328) : Cal Tryz.prog 55 #[.agg #[.int .i64 (k), str p, .int .i64 (m), str tg, .int .i64 (z)]] h (fun v h' => v = .int .i64 (ftarget k tg) ∧ Ext h h') := by
 refine Cal_enter (args := [.agg #[.int .i64 (k), str p, .int .i64 (m), str tg, .int .i64 (z)]]) Tryz.func55 rfl rfl rfl (fun σ => ?_)
 refine Wr ?_
 refine L_mks (M_box rfl) rfl rfl rfl ?_
 rintro _ h1 ⟨rfl, hn1⟩
 have hk2 : Blk h1 h.size [.int .i64 (k), str p, .int .i64 (m), str tg, .int .i64 (z)] := hn1.blk
 refine Av ?_
 refine Nx ?_
 refine W_sub _ (tk2 2 1) ?_
 refine W_seq (W_seq (W_region ?_))
 refine Ly (Y_fieldAddr (off := 0) (by kernel_rfl) rfl rfl) ?_
 refine Ly (Y_ldblk Tryz.underlying3 rfl rfl hk2 rfl) ?_
 refine Nx ?_
 refine W_sub _ (tk3 4 2 1) ?_
 refine W_block (W_seq (W_region ?_))
 refine Ly (Y_eql rfl rfl) ?_
 refine Av ?_
 refine Nx ?_
 refine W_sub _ (tk4 5 4 2 1) ?_
 refine W_splitd rfl (fun a => ?_) (fun a => ?_)
 ·refine Wr ?_
  refine Ly (Y_fieldAddr (off := 3) (by kernel_rfl) rfl rfl) ?_
  refine Ly (Y_ldblk Tryz.underlying9 rfl rfl hk2 rfl) ?_
  refine L_call (E_call (by kernel_rfl) rfl) (pathname_Check _ tg (by first | omega | rfl | (simp <;> omega))) rfl rfl rfl ?_
  rintro _ h2 ⟨rfl, hx3⟩
  refine Av ?_
  refine Nx ?_
  refine W_sub _ (tk2 2 1) ?_
  refine W_ret (X_block_ret (X_then_ret ?_))
  refine X_ret1 rfl rfl ?_
  exact ⟨by unfold ftarget; rw [if_pos a], (hn1.ext.trans hx3)⟩
 refine Wr ?_
 refine Ly (Y_eql rfl rfl) ?_
 refine Av ?_
 refine Nx ?_
 refine W_sub _ (tk3 10 2 1) ?_
 refine W_splitd rfl (fun b => ?_) (fun b => ?_)
 ·refine Wr ?_
  refine Ly (Y_fieldAddr (off := 3) (by kernel_rfl) rfl rfl) ?_
  refine Ly (Y_ldblk Tryz.underlying9 rfl rfl hk2 rfl) ?_
  refine Ly (Y_build (v := .agg #[str [108, 105, 110, 107, 112, 97, 116, 104], str tg]) (pv := [(0, str [108, 105, 110, 107, 112, 97, 116, 104]), (1, str tg)]) (evp (is := [0, 1]) (os := [.const (str [108, 105, 110, 107, 112, 97, 116, 104]), .tmp 13]) (vs := [str [108, 105, 110, 107, 112, 97, 116, 104], str tg]) rfl rfl) (fun _ => by kernel_rfl)) ?_
  refine L_call (E_call (by kernel_rfl) rfl) (rec_Check _ (hK.ext hn1.ext) (hE.ext hn1.ext) [108, 105, 110, 107, 112, 97, 116, 104] tg (by first | omega | rfl | (simp <;> omega))) rfl rfl rfl ?_
  rintro _ h3 ⟨rfl, hx4⟩
  refine Av ?_
  refine Nx ?_
  refine W_sub _ (tk2 2 1) ?_
  refine W_ret (X_block_ret (X_then_ret ?_))
  refine X_ret1 rfl rfl ?_
  exact ⟨by unfold ftarget; rw [if_neg a, if_pos b], (hn1.ext.trans hx4)⟩
 refine W_skip (X_block (X_then ?_))
 refine W_sub _ (tk2 2 1) ?_
 refine W_seq (W_seq (W_region ?_))
 refine Ly (Y_fieldAddr (off := 3) (by kernel_rfl) rfl rfl) ?_
 refine Ly (Y_ldblk Tryz.underlying9 rfl rfl hk2 rfl) ?_
 refine Ly (Y_sneq rfl rfl) ?_
 refine Nx ?_
 refine W_sub _ (tk2 18 2) ?_
 refine W_splitd rfl (fun c => ?_) (fun c => ?_)
 ·refine Wr ?_
  refine Av ?_
  refine Nx ?_
  refine W_sub _ (tk1 2) ?_
  refine W_ret (X_then_ret ?_)
  refine X_ret1 rfl rfl ?_
  exact ⟨by unfold ftarget; rw [if_neg a, if_neg b, if_pos c], hn1.ext⟩
 refine Ws ?_
 refine W_sub _ (tk1 2) ?_
 refine Wr ?_
 refine Av ?_
 refine L_nil (X_then (W_ret ?_))
 refine X_ret1 rfl rfl ?_
 exact ⟨by unfold ftarget; rw [if_neg a, if_neg b, if_neg c], hn1.ext⟩
set_option maxRecDepth 100000 in
theorem fit_checkSize (h : Heap) (k : Int) (p : List UInt8) (m : Int) (tg : List UInt8) (z : Int) : Cal Tryz.prog 56 #[.agg #[.int .i64 (k), str p, .int .i64 (m), str tg, .int .i64 (z)]] h (fun v h' => v = .int .i64 (fsize k z) ∧ Ext h h') := by
 refine Cal_enter (args := [.agg #[.int .i64 (k), str p, .int .i64 (m), str tg, .int .i64 (z)]]) Tryz.func56 rfl rfl rfl (fun σ => ?_)
 refine Wr ?_
 refine L_mks (M_box rfl) rfl rfl rfl ?_
 rintro _ h1 ⟨rfl, hn1⟩
 have hk2 : Blk h1 h.size [.int .i64 (k), str p, .int .i64 (m), str tg, .int .i64 (z)] := hn1.blk
 refine Av ?_
 refine Nx ?_
 refine W_sub _ (tk2 2 1) ?_
 refine W_seq (W_block ?_)
 refine W_cut (S := Unit) (fun _ => [(3, .bool (decide ((k = 1) ∧ ((z < 0) ∨ (1099511627776 < z))))), (2, .int .i64 0), (1, .pointer (some ⟨h.size, 0, none⟩))]) (fun _ h' => h' = h1) ?_ ?_
 ·refine W_region ?_
  refine Ly (Y_fieldAddr (off := 0) (by kernel_rfl) rfl rfl) ?_
  refine Ly (Y_ldblk Tryz.underlying3 rfl rfl hk2 rfl) ?_
  refine Ly (Y_eql rfl rfl) ?_
  refine Mv ?_
  refine L_splitd (d := 7) rfl (fun c3 => ?_) (fun c3 => ?_)
  ·refine Ly (Y_fieldAddr (off := 4) (by kernel_rfl) rfl rfl) ?_
   refine Ly (Y_ldblk Tryz.underlying2 rfl rfl hk2 rfl) ?_
   refine Ly (Y_lss rfl rfl) ?_
   refine Mv ?_
   refine L_splitd (d := 11) rfl (fun c4 => ?_) (fun c4 => ?_)
   ·refine Skp ?_
    refine Skp ?_
    refine Skp ?_
    refine Ly (Y_pick_t rfl rfl) ?_
    refine Ly (Y_pick_t rfl rfl) ?_
    refine Av ?_
    refine L_nil ?_
    exact X_cut () (sk1 3 (lkb rfl (by first | (simp only [eq_true c3, eq_true c4, SB]; done) | (simp only [eq_true c3, eq_true c4, SB]; rfl))) (sk1 2 rfl (tk1 1))) rfl
   refine Ly (Y_fieldAddr (off := 4) (by kernel_rfl) rfl rfl) ?_
   refine Ly (Y_ldblk Tryz.underlying2 rfl rfl hk2 rfl) ?_
   refine Ly (Y_gtr rfl rfl) ?_
   refine Ly (Y_pick_f rfl rfl) ?_
   refine Ly (Y_pick_t rfl rfl) ?_
   refine Av ?_
   refine L_nil ?_
   exact X_cut () (sk1 3 (lkb rfl (by first | (simp only [eq_true c3, eq_false c4, SB]; done) | (simp only [eq_true c3, eq_false c4, SB]; rfl))) (sk1 2 rfl (tk1 1))) rfl
  refine Skp ?_
  refine Skp ?_
  refine Skp ?_
  refine Skp ?_
  refine Skp ?_
  refine Skp ?_
  refine Skp ?_
  refine Skp ?_
  refine Ly (Y_pick_f rfl rfl) ?_
  refine Av ?_
  refine L_nil ?_
  exact X_cut () (sk1 3 (lkb rfl (by first | (simp only [eq_false c3, SB]; done) | (simp only [eq_false c3, SB]; rfl))) (sk1 2 rfl (tk1 1))) rfl
 rintro _ h1 rfl
 show W _ _ _ _ _ [(3, .bool (decide ((k = 1) ∧ ((z < 0) ∨ (1099511627776 < z))))), (2, .int .i64 0), (1, .pointer (some ⟨h.size, 0, none⟩))] _
 refine W_splitd rfl (fun a => ?_) (fun a => ?_)
 ·refine Wr ?_
  refine Av ?_
  refine Nx ?_
  refine W_sub _ (tk1 2) ?_
  refine W_ret (X_block_ret (X_then_ret ?_))
  refine X_ret1 rfl rfl ?_
  exact ⟨by unfold fsize; rw [if_pos a], hn1.ext⟩
 refine W_cut (S := Unit) (fun _ => [(17, .bool (decide ((¬ k = 1) ∧ (¬ z = 0)))), (2, .int .i64 0)]) (fun _ h' => h' = h1) ?_ ?_
 ·refine W_region ?_
  refine Ly (Y_fieldAddr (off := 0) (by kernel_rfl) rfl rfl) ?_
  refine Ly (Y_ldblk Tryz.underlying3 rfl rfl hk2 rfl) ?_
  refine Ly (Y_neq rfl rfl) ?_
  refine Mv ?_
  refine L_splitd (d := 21) rfl (fun c5 => ?_) (fun c5 => ?_)
  ·refine Ly (Y_fieldAddr (off := 4) (by kernel_rfl) rfl rfl) ?_
   refine Ly (Y_ldblk Tryz.underlying2 rfl rfl hk2 rfl) ?_
   refine Ly (Y_neq rfl rfl) ?_
   refine Ly (Y_pick_t rfl rfl) ?_
   refine Av ?_
   refine L_nil ?_
   exact X_cut () (sk1 17 (lkb rfl (by first | (simp only [eq_true c5, SB]; done) | (simp only [eq_true c5, SB]; rfl))) (tk1 2)) rfl
  refine Skp ?_
  refine Skp ?_
  refine Skp ?_
  refine Ly (Y_pick_f rfl rfl) ?_
  refine Av ?_
  refine L_nil ?_
  exact X_cut () (sk1 17 (lkb rfl (by first | (simp only [eq_false c5, SB]; done) | (simp only [eq_false c5, SB]; rfl))) (tk1 2)) rfl
 rintro _ h1 rfl
 show W _ _ _ _ _ [(17, .bool (decide ((¬ k = 1) ∧ (¬ z = 0)))), (2, .int .i64 0)] _
 refine W_splitd rfl (fun b => ?_) (fun b => ?_)
 ·refine Wr ?_
  refine Av ?_
  refine Nx ?_
  refine W_sub _ (tk1 2) ?_
  refine W_ret (X_block_ret (X_then_ret ?_))
  refine X_ret1 rfl rfl ?_
  exact ⟨by unfold fsize; rw [if_neg a, if_pos b], hn1.ext⟩
 refine W_skip (X_block (X_then ?_))
 refine W_sub _ (tk1 2) ?_
 refine Wr ?_
 refine Av ?_
 refine L_nil (X_then (W_ret ?_))
 refine X_ret1 rfl rfl ?_
 exact ⟨by unfold fsize; rw [if_neg a, if_neg b], hn1.ext⟩
set_option maxRecDepth 100000 in
theorem fit_Check (h : Heap) (hK : GlbK h) (hE : GlbE h) (k : Int) (p : List UInt8) (m : Int) (tg : List UInt8) (z : Int) (hp : p.length ≤ 140737488355328) (ht : tg.length ≤ 140737488355328) : Cal Tryz.prog 37 #[.agg #[.int .i64 (k), str p, .int .i64 (m), str tg, .int .i64 (z)]] h (fun v h' => v = .int .i64 (fcheck k p m tg z) ∧ Ext h h') := by
 refine Cal_enter (args := [.agg #[.int .i64 (k), str p, .int .i64 (m), str tg, .int .i64 (z)]]) Tryz.func37 rfl rfl rfl (fun σ => ?_)
 refine Wr ?_
 refine L_mks (M_box rfl) rfl rfl rfl ?_
 rintro _ h1 ⟨rfl, hn1⟩
 have hk2 : Blk h1 h.size [.int .i64 (k), str p, .int .i64 (m), str tg, .int .i64 (z)] := hn1.blk
 refine Av ?_
 refine Nx ?_
 refine W_sub _ (tk2 2 1) ?_
 refine W_seq ?_
 refine W_cut (S := Unit) (fun _ => [(12, .bool (decide ((k < 0) ∨ (4 ≤ k)))), (2, .int .i64 0), (1, .pointer (some ⟨h.size, 0, none⟩))]) (fun _ h' => h' = h1) ?_ ?_
 ·refine W_region ?_
  refine Ly (Y_fieldAddr (off := 0) (by kernel_rfl) rfl rfl) ?_
  refine Ly (Y_ldblk Tryz.underlying3 rfl rfl hk2 rfl) ?_
  refine Ly (Y_lss rfl rfl) ?_
  refine Mv ?_
  refine L_splitd (d := 8) rfl (fun c3 => ?_) (fun c3 => ?_)
  ·refine Skp ?_
   refine Skp ?_
   refine Skp ?_
   refine Ly (Y_pick_t rfl rfl) ?_
   refine L_nil ?_
   exact X_cut () (sk1 12 (lkb rfl (by first | (simp only [eq_true c3, SB]; done) | (simp only [eq_true c3, SB]; rfl))) (sk1 2 rfl (tk1 1))) rfl
  refine Ly (Y_fieldAddr (off := 0) (by kernel_rfl) rfl rfl) ?_
  refine Ly (Y_ldblk Tryz.underlying3 rfl rfl hk2 rfl) ?_
  refine Ly (Y_geq rfl rfl) ?_
  refine Ly (Y_pick_f rfl rfl) ?_
  refine L_nil ?_
  exact X_cut () (sk1 12 (lkb rfl (by first | (simp only [eq_false c3, SB]; done) | (simp only [eq_false c3, SB]; rfl))) (sk1 2 rfl (tk1 1))) rfl
 rintro _ h1 rfl
 show W _ _ _ _ _ [(12, .bool (decide ((k < 0) ∨ (4 ≤ k)))), (2, .int .i64 0), (1, .pointer (some ⟨h.size, 0, none⟩))] _
 refine W_splitd rfl (fun a => ?_) (fun a => ?_)
 ·refine Wr ?_
  refine Av ?_
  refine Nx ?_
  refine W_sub _ (tk2 2 1) ?_
  refine W_ret (X_then_ret ?_)
  refine X_ret1 rfl rfl ?_
  exact ⟨by unfold fcheck; rw [if_pos (by omega)], hn1.ext⟩
 refine Ws ?_
 refine W_sub _ (tk2 2 1) ?_
 refine W_seq (W_seq (W_region ?_))
 refine Ly (Y_fieldAddr (off := 1) (by kernel_rfl) rfl rfl) ?_
 refine Ly (Y_ldblk Tryz.underlying9 rfl rfl hk2 rfl) ?_
 refine L_call (E_call (by kernel_rfl) rfl) (pathname_Check _ p (by first | omega | rfl | (simp <;> omega))) rfl rfl rfl ?_
 rintro _ h2 ⟨rfl, hx4⟩
 refine Av ?_
 refine Nx ?_
 refine W_sub _ (tk3 3 2 1) ?_
 refine Wr ?_
 refine Mv ?_
 refine Ly (Y_neq rfl rfl) ?_
 refine Nx ?_
 refine W_sub _ (tk4 17 3 2 1) ?_
 refine W_splitd rfl (fun b => ?_) (fun b => ?_)
 ·refine Wr ?_
  refine Mv ?_
  refine Av ?_
  refine Nx ?_
  refine W_sub _ (tk2 2 1) ?_
  refine W_ret (X_then_ret ?_)
  refine X_ret1 rfl rfl ?_
  exact ⟨by unfold fcheck; rw [if_neg (by omega), if_pos b], (hn1.ext.trans hx4)⟩
 refine Ws ?_
 refine W_sub _ (tk2 2 1) ?_
 refine W_seq ?_
 refine W_cut (S := Unit) (fun _ => [(36, .bool (decide (((m < 0) ∨ (4095 < m)) ∨ ((k = 2) ∧ (¬ m = 0))))), (2, .int .i64 0), (1, .pointer (some ⟨h.size, 0, none⟩))]) (fun _ h' => h' = h2) ?_ ?_
 ·refine W_region ?_
  refine Ly (Y_fieldAddr (off := 2) (by kernel_rfl) rfl rfl) ?_
  refine Ly (Y_ldblk Tryz.underlying3 rfl rfl (hk2.ext hx4) rfl) ?_
  refine Ly (Y_lss rfl rfl) ?_
  refine Mv ?_
  refine L_splitd (d := 22) rfl (fun c5 => ?_) (fun c5 => ?_)
  ·refine Skp ?_
   refine Skp ?_
   refine Skp ?_
   refine Ly (Y_pick_t rfl rfl) ?_
   refine Mv ?_
   refine Skp ?_
   refine Skp ?_
   refine Skp ?_
   refine Skp ?_
   refine Skp ?_
   refine Skp ?_
   refine Skp ?_
   refine Skp ?_
   refine Ly (Y_pick_t rfl rfl) ?_
   refine L_nil ?_
   exact X_cut () (sk1 36 (lkb rfl (by first | (simp only [eq_true c5, SB]; done) | (simp only [eq_true c5, SB]; rfl))) (sk1 2 rfl (tk1 1))) rfl
  refine Ly (Y_fieldAddr (off := 2) (by kernel_rfl) rfl rfl) ?_
  refine Ly (Y_ldblk Tryz.underlying3 rfl rfl (hk2.ext hx4) rfl) ?_
  refine Ly (Y_gtr rfl rfl) ?_
  refine Ly (Y_pick_f rfl rfl) ?_
  refine Mv ?_
  refine L_splitd (d := 27) rfl (fun c6 => ?_) (fun c6 => ?_)
  ·refine Skp ?_
   refine Skp ?_
   refine Skp ?_
   refine Skp ?_
   refine Skp ?_
   refine Skp ?_
   refine Skp ?_
   refine Skp ?_
   refine Ly (Y_pick_t rfl rfl) ?_
   refine L_nil ?_
   exact X_cut () (sk1 36 (lkb rfl (by first | (simp only [eq_false c5, eq_true c6, SB]; done) | (simp only [eq_false c5, eq_true c6, SB]; rfl))) (sk1 2 rfl (tk1 1))) rfl
  refine Ly (Y_fieldAddr (off := 0) (by kernel_rfl) rfl rfl) ?_
  refine Ly (Y_ldblk Tryz.underlying3 rfl rfl (hk2.ext hx4) rfl) ?_
  refine Ly (Y_eql rfl rfl) ?_
  refine Mv ?_
  refine L_splitd (d := 31) rfl (fun c7 => ?_) (fun c7 => ?_)
  ·refine Ly (Y_fieldAddr (off := 2) (by kernel_rfl) rfl rfl) ?_
   refine Ly (Y_ldblk Tryz.underlying3 rfl rfl (hk2.ext hx4) rfl) ?_
   refine Ly (Y_neq rfl rfl) ?_
   refine Ly (Y_pick_t rfl rfl) ?_
   refine Ly (Y_pick_f rfl rfl) ?_
   refine L_nil ?_
   exact X_cut () (sk1 36 (lkb rfl (by first | (simp only [eq_false c5, eq_false c6, eq_true c7, SB]; done) | (simp only [eq_false c5, eq_false c6, eq_true c7, SB]; rfl))) (sk1 2 rfl (tk1 1))) rfl
  refine Skp ?_
  refine Skp ?_
  refine Skp ?_
  refine Ly (Y_pick_f rfl rfl) ?_
  refine Ly (Y_pick_f rfl rfl) ?_
  refine L_nil ?_
  exact X_cut () (sk1 36 (lkb rfl (by first | (simp only [eq_false c5, eq_false c6, eq_false c7, SB]; done) | (simp only [eq_false c5, eq_false c6, eq_false c7, SB]; rfl))) (sk1 2 rfl (tk1 1))) rfl
 rintro _ h2 rfl
 show W _ _ _ _ _ [(36, .bool (decide (((m < 0) ∨ (4095 < m)) ∨ ((k = 2) ∧ (¬ m = 0))))), (2, .int .i64 0), (1, .pointer (some ⟨h.size, 0, none⟩))] _
 refine W_splitd rfl (fun c => ?_) (fun c => ?_)
 ·refine Wr ?_
  refine Av ?_
  refine Nx ?_
  refine W_sub _ (tk2 2 1) ?_
  refine W_ret (X_then_ret ?_)
  refine X_ret1 rfl rfl ?_
  exact ⟨by unfold fcheck; rw [if_neg (by omega), if_neg b, if_pos c], (hn1.ext.trans hx4)⟩
 refine Ws ?_
 refine W_sub _ (tk2 2 1) ?_
 refine W_seq (W_seq (W_region ?_))
 refine Ly (Y_ldbox (us := [.int .i64 (k), str p, .int .i64 (m), str tg, .int .i64 (z)]) Tryz.underlying32 rfl (show _ = some 5 by kernel_rfl) rfl (hk2.ext hx4) rfl) ?_
 refine L_call (E_call (by kernel_rfl) rfl) (fit_checkTarget _ (hK.ext (hn1.ext.trans hx4)) (hE.ext (hn1.ext.trans hx4)) k p m tg z (by first | omega | rfl | (simp <;> omega))) rfl rfl rfl ?_
 rintro _ h3 ⟨rfl, hx8⟩
 refine Av ?_
 refine Nx ?_
 refine W_sub _ (tk3 4 2 1) ?_
 refine Wr ?_
 refine Mv ?_
 refine Ly (Y_neq rfl rfl) ?_
 refine Nx ?_
 refine W_sub _ (tk4 40 4 2 1) ?_
 refine W_splitd rfl (fun f => ?_) (fun f => ?_)
 ·refine Wr ?_
  refine Mv ?_
  refine Av ?_
  refine Nx ?_
  refine W_sub _ (tk2 2 1) ?_
  refine W_ret (X_then_ret ?_)
  refine X_ret1 rfl rfl ?_
  exact ⟨by unfold fcheck; rw [if_neg (by omega), if_neg b, if_neg c, if_pos f], ((hn1.ext.trans hx4).trans hx8)⟩
 refine Ws ?_
 refine W_sub _ (tk2 2 1) ?_
 refine Wr ?_
 refine Ly (Y_ldbox (us := [.int .i64 (k), str p, .int .i64 (m), str tg, .int .i64 (z)]) Tryz.underlying32 rfl (show _ = some 5 by kernel_rfl) rfl (hk2.ext (hx4.trans hx8)) rfl) ?_
 refine L_call (E_call (by kernel_rfl) rfl) (fit_checkSize _ k p m tg z) rfl rfl rfl ?_
 rintro _ h4 ⟨rfl, hx9⟩
 refine Av ?_
 refine Nx ?_
 refine W_sub _ (tk1 2) ?_
 refine W_ret ?_
 refine X_ret1 rfl rfl ?_
 exact ⟨by unfold fcheck; rw [if_neg (by omega), if_neg b, if_neg c, if_neg f], (((hn1.ext.trans hx4).trans hx8).trans hx9)⟩

/-! ### Plan -/
def ftyp (k : Int) : Int := byt [53, 48, 50, 49] k.toNat
def frecs (p tg : List UInt8) (z : Int) : List Rec :=
  (if 100 < tg.length then [⟨[108, 105, 110, 107, 112, 97, 116, 104], tg⟩] else []) ++ ((if sok p = true then [] else [⟨[112, 97, 116, 104], p⟩]) ++ (if 8589934591 < z then [⟨[115, 105, 122, 101], Lib.decDigits z.toNat⟩] else []))
def fT (c k : Int) : Int := if c = 0 then ftyp k else 0
def fN (c : Int) (p : List UInt8) : List UInt8 := if c = 0 then snam p else []
def fP (c : Int) (p : List UInt8) : List UInt8 := if c = 0 then spre p else []
def fL (c : Int) (tg : List UInt8) : List UInt8 := if c = 0 then (if 100 < tg.length then [] else tg) else []
def fM (c m : Int) : Int := if c = 0 then m else 0
def fZ (c z : Int) : Int := if c = 0 then (if 8589934591 < z then 0 else z) else 0
def fR (c : Int) (p tg : List UInt8) (z : Int) : List Rec := if c = 0 then frecs p tg z else []

theorem fcheck_kind {k m z : Int} {p tg : List UInt8} (h : fcheck k p m tg z = 0) : 0 ≤ k ∧ k ≤ 3 := by
  unfold fcheck at h
  split at h
  · cases h
  · omega
theorem fcheck_path {k m z : Int} {p tg : List UInt8} (h : fcheck k p m tg z = 0) : pcheck p = 0 := by
  unfold fcheck at h
  split at h
  · cases h
  · split at h
    · rename_i h1; exact absurd h h1
    · rename_i h1; exact Classical.not_not.1 h1

set_option maxRecDepth 100000 in
theorem fit_Plan (h : Heap) (hK : GlbK h) (hN : GlbN h) (hE : GlbE h) (hT : GlbT h) (k : Int) (p : List UInt8) (m : Int) (tg : List UInt8) (z : Int) (hp : p.length ≤ 140737488355328) (ht : tg.length ≤ 140737488355328) (hz : -9223372036854775808 ≤ z ∧ z ≤ 9223372036854775807) : Cal Tryz.prog 19 #[.agg #[.int .i64 (k), str p, .int .i64 (m), str tg, .int .i64 (z)]] h (fun v h' => ∃ s1, v = .tuple #[.agg #[.int .u8 (fT (fcheck k p m tg z) k), str (fN (fcheck k p m tg z) p), str (fP (fcheck k p m tg z) p), str (fL (fcheck k p m tg z) tg), .int .i64 (fM (fcheck k p m tg z) m), .int .i64 (fZ (fcheck k p m tg z) z)], s1, .int .i64 (fcheck k p m tg z)] ∧ RowsO recS h' h.size s1 (fR (fcheck k p m tg z) p tg z) ∧ Ext h h') := by
 refine Cal_enter (args := [.agg #[.int .i64 (k), str p, .int .i64 (m), str tg, .int .i64 (z)]]) Tryz.func19 rfl rfl rfl (fun σ => ?_)
 refine Wr ?_
 refine L_mks (M_box rfl) rfl rfl rfl ?_
 rintro _ h1 ⟨rfl, hn1⟩
 have hk2 : Blk h1 h.size [.int .i64 (k), str p, .int .i64 (m), str tg, .int .i64 (z)] := hn1.blk
 refine L_mks (M_alloc (u := .agg #[.int .u8 0, str [], str [], str [], .int .i64 0, .int .i64 0]) (by kernel_rfl)) rfl rfl rfl ?_
 rintro _ h2 ⟨rfl, hn3⟩
 have hk4 : Blk h2 h1.size [.int .u8 0, str [], str [], str [], .int .i64 0, .int .i64 0] := hn3.blk
 refine Av ?_
 refine Av ?_
 refine Nx ?_
 refine W_sub _ (tk4 4 3 2 1) ?_
 refine W_seq (W_seq (W_region ?_))
 refine Ly (Y_ldbox (us := [.int .i64 (k), str p, .int .i64 (m), str tg, .int .i64 (z)]) Tryz.underlying32 rfl (show _ = some 5 by kernel_rfl) rfl (hk2.ext hn3.ext) rfl) ?_
 refine L_call (E_call (by kernel_rfl) rfl) (fit_Check _ (hK.ext (hn1.ext.trans hn3.ext)) (hE.ext (hn1.ext.trans hn3.ext)) k p m tg z (by first | first | omega | (simp; done) | (simp; omega) | rfl | (simp <;> omega)) (by first | first | omega | (simp; done) | (simp; omega) | rfl | (simp <;> omega))) rfl rfl rfl ?_
 rintro _ h3 ⟨rfl, hx5⟩
 refine Av ?_
 refine Nx ?_
 refine W_sub _ (tk5 5 4 3 2 1) ?_
 refine Wr ?_
 refine Mv ?_
 refine Ly (Y_neq rfl rfl) ?_
 refine Nx ?_
 refine W_sub _ (tk6 17 5 4 3 2 1) ?_
 refine W_splitd rfl (fun e => ?_) (fun e => ?_)
 ·refine Wr ?_
  refine Ly (Y_build (v := .agg #[.int .u8 0, str [], str [], str [], .int .i64 0, .int .i64 0]) (pv := []) (evp (is := []) (os := []) (vs := []) rfl rfl) (fun _ => by kernel_rfl)) ?_
  refine Mv ?_
  refine L_dos (D_store (us := [.int .u8 0, str [], str [], str [], .int .i64 0, .int .i64 0]) (show _ = some 6 by kernel_rfl) rfl rfl rfl (by simp [Value.oneCell']) (hk4.ext hx5) (by simp)) rfl rfl ?_
  rintro h4 hp6
  have hk7 : Blk h4 h1.size [.int .u8 0, str [], str [], str [], .int .i64 0, .int .i64 0] := hp6.blk
  refine Av ?_
  refine Av ?_
  refine Nx ?_
  refine W_sub _ (tk4 4 3 2 1) ?_
  refine W_ret (X_then_ret ?_)
  refine X_retv3 rfl (RV.agg rfl Tryz.underlying57 rfl (show _ = some 6 by kernel_rfl) hk7) rfl rfl ?_
  have me1 := ((hn1.ext.trans hn3.ext).trans hx5).then' hp6.only (by simp) hn1.ext.size
  refine ⟨.slice none 0 0, by simp [fT, fN, fP, fL, fM, fZ, e], ?_, me1⟩
  rw [fR, if_neg e]
  exact RowsO.nil _ _ _
 refine Ws ?_
 refine W_sub _ (tk4 4 3 2 1) ?_
 have e0 : fcheck k p m tg z = 0 := Classical.not_not.1 e
 have hkk := fcheck_kind e0
 refine W_seq ?_
 refine W_pers [(4, .int .i64 0), (3, .slice none 0 0), (2, .pointer (some ⟨h1.size, 0, none⟩)), (1, .pointer (some ⟨h.size, 0, none⟩))] (tk4 4 3 2 1) (by kernel_rfl) ?_
 refine LP_op 0 (fun _ vv => .pointer (some ⟨h.size, 0 + 0, none⟩) = vv) [] rfl rfl (by kernel_rfl) (fun _ _ _ _ p => p) ?_ ?_
 ·intro h5 hx8
  refine Needs_nil ?_
  refine Stp_yld (Y_fieldAddr (off := 0) (by kernel_rfl) rfl rfl) rfl ?_
  exact rfl
 refine LP_op 1 (fun _ vv => .int .i64 (k) = vv) [(0, 20)] rfl rfl (by kernel_rfl) (fun _ _ _ _ p => p) ?_ ?_
 ·intro h6 hx9
  rintro _ rfl
  refine Needs_nil ?_
  refine Stp_yld (Y_ldblk Tryz.underlying3 rfl rfl (hk2.ext ((hn3.ext.trans hx5).trans hx9)) rfl) rfl ?_
  exact rfl
 refine LP_op 2 (fun _ vv => .pointer (some (elemAddr (.slice (some ⟨0, 0, none⟩) 4 4) ((k).toNat * 1))) = vv) [(1, 21)] rfl rfl (by kernel_rfl) (fun _ _ _ _ p => p) ?_ ?_
 ·intro h7 hx10
  rintro _ rfl
  refine Needs_nil ?_
  refine Stp_yld (Y_arraddr Tryz.underlying81 (show _ = some 1 by kernel_rfl) rfl rfl (by first | omega | (simp; done) | (simp; omega)) (by first | omega | (simp; done) | (simp; omega))) rfl ?_
  exact rfl
 refine LP_op 3 (fun _ vv => .int .u8 (byt ([53, 48, 50, 49] : List UInt8) (k).toNat) = vv) [(2, 22)] rfl rfl (by kernel_rfl) (fun _ _ _ _ p => p) ?_ ?_
 ·intro h8 hx12
  rintro _ rfl
  refine Needs_nil ?_
  refine Stp_yld (Y_ldbyte Tryz.underlying5 rfl rfl ((Cls.bytesG (l := [53, 48, 50, 49]) hT.g0 rfl (by decide)).ext (((hn1.ext.trans hn3.ext).trans hx5).trans hx12)) (by first | omega | (simp; done) | (simp; omega)) (by first | omega | (simp; done) | (simp; omega))) rfl ?_
  exact rfl
 refine LP_op 4 (fun _ vv => .pointer (some ⟨h.size, 0 + 2, none⟩) = vv) [] rfl rfl (by kernel_rfl) (fun _ _ _ _ p => p) ?_ ?_
 ·intro h9 hx13
  refine Needs_nil ?_
  refine Stp_yld (Y_fieldAddr (off := 2) (by kernel_rfl) rfl rfl) rfl ?_
  exact rfl
 refine LP_op 5 (fun _ vv => .int .i64 (m) = vv) [(4, 24)] rfl rfl (by kernel_rfl) (fun _ _ _ _ p => p) ?_ ?_
 ·intro h10 hx14
  rintro _ rfl
  refine Needs_nil ?_
  refine Stp_yld (Y_ldblk Tryz.underlying3 rfl rfl (hk2.ext ((hn3.ext.trans hx5).trans hx14)) rfl) rfl ?_
  exact rfl
 refine LP_op 6 (fun _ vv => .agg #[.int .u8 (byt ([53, 48, 50, 49] : List UInt8) (k).toNat), str [], str [], str [], .int .i64 (m), .int .i64 0] = vv) [(5, 25), (3, 23)] rfl rfl (by kernel_rfl) (fun _ _ _ _ p => p) ?_ ?_
 ·intro h11 hx15
  rintro _ rfl
  rintro _ rfl
  refine Needs_nil ?_
  refine Stp_yld (Y_build (v := .agg #[.int .u8 (byt ([53, 48, 50, 49] : List UInt8) (k).toNat), str [], str [], str [], .int .i64 (m), .int .i64 0]) (pv := [(0, .int .u8 (byt ([53, 48, 50, 49] : List UInt8) (k).toNat)), (4, .int .i64 (m))]) (evp (is := [0, 4]) (os := [.tmp 23, .tmp 25]) (vs := [.int .u8 (byt ([53, 48, 50, 49] : List UInt8) (k).toNat), .int .i64 (m)]) rfl rfl) (fun _ => by kernel_rfl)) rfl ?_
  exact rfl
 refine LP_op 7 (fun hh vv => ∃ r4_1, vv = .pointer (some ⟨r4_1, 0, none⟩) ∧ Blk hh r4_1 [.int .u8 0, str [], str [], str [], .int .i64 0, .int .i64 0] ∧ h3.size ≤ r4_1) [] rfl rfl (by kernel_rfl) (fun _ _ _ x_ p_ => by obtain ⟨r4_1, rfl, q4_1, q4_1l⟩ := p_; exact ⟨_, rfl, q4_1.ext x_, q4_1l⟩) ?_ ?_
 ·intro h12 hx16
  refine Needs_nil ?_
  refine Stp_mks (M_alloc (u := .agg #[.int .u8 0, str [], str [], str [], .int .i64 0, .int .i64 0]) (by kernel_rfl)) rfl ?_
  rintro _ h13 ⟨rfl, hn17⟩
  have hk18 : Blk h13 h12.size [.int .u8 0, str [], str [], str [], .int .i64 0, .int .i64 0] := hn17.blk
  exact ⟨hn17.ext, ⟨h12.size, rfl, hk18, hx16.size⟩⟩
 refine LP_tail rfl 8 [(6, 26), (7, 6)] rfl rfl (by kernel_rfl) (by kernel_rfl) (by kernel_rfl) rfl ?_
 intro h14 hx19
 rintro _ rfl
 rintro _ ⟨r4_1, rfl, q4_1, q4_1l⟩
 refine Needs_nil ?_
 refine L_dos (D_store (us := [.int .u8 (byt ([53, 48, 50, 49] : List UInt8) (k).toNat), str [], str [], str [], .int .i64 (m), .int .i64 0]) (show _ = some 6 by kernel_rfl) rfl rfl rfl (by simp [Value.oneCell']) q4_1 (by simp)) rfl rfl ?_
 rintro h15 hp20
 have hk21 : Blk h15 r4_1 [.int .u8 (byt ([53, 48, 50, 49] : List UInt8) (k).toNat), str [], str [], str [], .int .i64 (m), .int .i64 0] := hp20.blk
 refine Nx ?_
 refine W_sub _ (tk5 6 4 3 2 1) ?_
 refine Wr ?_
 refine L_mks (M_makeMap (α := List UInt8) (fun l : List UInt8 => str l)) rfl rfl rfl ?_
 rintro _ h16 ⟨rfl, hx22, hb23⟩
 refine Av ?_
 refine Nx ?_
 refine W_sub _ (tk6 7 6 4 3 2 1) ?_
 refine W_seq (W_seq (W_region ?_))
 refine Ly (Y_fieldAddr (off := 3) (by kernel_rfl) rfl rfl) ?_
 have me2 := ((hn3.ext.trans hx5).trans hx19).then' hp20.only (by simp) (Nat.le_trans (Nat.le_trans hn3.ext.size hx5.size) q4_1l)
 refine Ly (Y_ldblk Tryz.underlying9 rfl rfl (hk2.ext (me2.trans hx22)) rfl) ?_
 refine Ly (Y_slen Tryz.underlying9 rfl) ?_
 refine Ly (Y_gtr rfl rfl) ?_
 refine Nx ?_
 refine W_sub _ (tk7 31 7 6 4 3 2 1) ?_
 refine W_splitd rfl (fun c1 => ?_) (fun c1 => ?_)
 ·refine W_region ?_
  refine Mv ?_
  refine Ly (Y_fieldAddr (off := 3) (by kernel_rfl) rfl rfl) ?_
  refine Ly (Y_ldblk Tryz.underlying9 rfl rfl (hk2.ext (me2.trans hx22)) rfl) ?_
  refine L_dos (D_update keyS Tryz.underlying82 Tryz.underlying9 rfl rfl rfl hb23) rfl rfl ?_
  rintro h17 ⟨hx24, -, hb25⟩
  refine Nx ?_
  refine W_sub _ (tk6 7 6 4 3 2 1) ?_
  refine Wr ?_
  refine Av ?_
  refine L_nil (X_then (W_seq (W_seq (W_region ?_))))
  refine Ly (Y_fieldAddr (off := 1) (by kernel_rfl) rfl rfl) ?_
  have me3 := Nat.le_trans (Nat.le_trans hn3.ext.size hx5.size) hx19.size
  have me4 := (me2.trans hx22).then' hx24 (by simp) (Nat.le_trans me3 hp20.only.size)
  refine Ly (Y_ldblk Tryz.underlying9 rfl rfl (hk2.ext me4) rfl) ?_
  refine L_call (E_call (by kernel_rfl) rfl) (pathname_Split _ p (by first | first | omega | (simp; done) | (simp; omega) | rfl | (simp <;> omega))) rfl rfl rfl ?_
  rintro _ h17 ⟨rfl, rfl⟩
  refine Mv ?_
  refine Ly (Y_extract (v := str (spre p)) rfl rfl) ?_
  refine Ly (Y_extract (v := str (snam p)) rfl rfl) ?_
  refine Ly (Y_extract (v := .bool (sok p)) rfl rfl) ?_
  refine Ly (Y_fieldAddr (off := 2) (by kernel_rfl) rfl rfl) ?_
  refine L_dos (D_store (us := [str (spre p)]) (show _ = some 1 by kernel_rfl) rfl rfl rfl (by simp [Value.oneCell']) (hk21.ext (hx22.then' hx24 (by simp) (Nat.le_refl _))) (by simp)) rfl rfl ?_
  rintro h18 hp26
  have hk27 : Blk h18 r4_1 [.int .u8 (byt ([53, 48, 50, 49] : List UInt8) (k).toNat), str [], str (spre p), str [], .int .i64 (m), .int .i64 0] := hp26.blk
  refine Ly (Y_fieldAddr (off := 1) (by kernel_rfl) rfl rfl) ?_
  refine L_dos (D_store (us := [str (snam p)]) (show _ = some 1 by kernel_rfl) rfl rfl rfl (by simp [Value.oneCell']) hk27 (by simp)) rfl rfl ?_
  rintro h19 hp28
  have hk29 : Blk h19 r4_1 [.int .u8 (byt ([53, 48, 50, 49] : List UInt8) (k).toNat), str (snam p), str (spre p), str [], .int .i64 (m), .int .i64 0] := hp28.blk
  refine Av ?_
  refine Nx ?_
  refine W_sub _ (tk7 8 7 6 4 3 2 1) ?_
  refine Wr ?_
  refine Mv ?_
  refine Ly (Y_not rfl) ?_
  refine Nx ?_
  refine W_sub _ (tk7 48 7 6 4 3 2 1) ?_
  refine W_split rfl (fun c2 => ?_) (fun c2 => ?_)
  ·refine W_region ?_
   refine Mv ?_
   refine Ly (Y_fieldAddr (off := 1) (by kernel_rfl) rfl rfl) ?_
   have me5 := me4.then' hp26.only (by simp) (Nat.le_trans (Nat.le_trans hn3.ext.size hx5.size) q4_1l)
   have me6 := me5.then' hp28.only (by simp) (Nat.le_trans (Nat.le_trans hn3.ext.size hx5.size) q4_1l)
   refine Ly (Y_ldblk Tryz.underlying9 rfl rfl (hk2.ext me6) rfl) ?_
   have hc32 := ((hb25.only hp26.only (ni_gt (Nat.lt_of_lt_of_le q4_1.lt hp20.only.size))).only hp28.only (ni_gt (Nat.lt_of_lt_of_le q4_1.lt hp20.only.size)))
   refine L_dos (D_update keyS Tryz.underlying82 Tryz.underlying9 rfl rfl rfl hc32) rfl rfl ?_
   rintro h20 ⟨hx30, -, hb31⟩
   refine Nx ?_
   refine W_sub _ (tk6 7 6 4 3 2 1) ?_
   refine W_seq (W_seq (W_region ?_))
   refine Ly (Y_fieldAddr (off := 4) (by kernel_rfl) rfl rfl) ?_
   have me7 := me6.then' hx30 (by simp) (Nat.le_trans me3 hp20.only.size)
   refine Ly (Y_ldblk Tryz.underlying2 rfl rfl (hk2.ext me7) rfl) ?_
   refine Ly (Y_gtr rfl rfl) ?_
   refine Nx ?_
   refine W_sub _ (tk7 54 7 6 4 3 2 1) ?_
   refine W_splitd rfl (fun c3 => ?_) (fun c3 => ?_)
   ·refine W_region ?_
    refine Mv ?_
    refine Ly (Y_fieldAddr (off := 4) (by kernel_rfl) rfl rfl) ?_
    refine Ly (Y_ldblk Tryz.underlying2 rfl rfl (hk2.ext me7) rfl) ?_
    have me8 := Nat.le_trans (Nat.le_trans hn1.ext.size hn3.ext.size) hx5.size
    have me9 := (((hn1.ext.trans hn3.ext).trans hx5).trans hx19).then' hp20.only (by simp) (Nat.le_trans me8 q4_1l)
    have me10 := (me9.trans hx22).then' hx24 (by simp) (Nat.le_trans (Nat.le_trans me8 hx19.size) hp20.only.size)
    have me11 := (me10.then' hp26.only (by simp) (Nat.le_trans me8 q4_1l)).then' hp28.only (by simp) (Nat.le_trans me8 q4_1l)
    have me12 := me11.then' hx30 (by simp) (Nat.le_trans (Nat.le_trans me8 hx19.size) hp20.only.size)
    refine L_call (E_call (by kernel_rfl) rfl) (strconv_FormatInt _ (hN.ext me12) z (by first | first | omega | (simp; done) | (simp; omega) | rfl | (simp <;> omega))) rfl rfl rfl ?_
    rintro _ h21 ⟨rfl, hx33⟩
    refine L_dos (D_update keyS Tryz.underlying82 Tryz.underlying9 rfl rfl rfl (hb31.ext hx33)) rfl rfl ?_
    rintro h22 ⟨hx34, -, hb35⟩
    refine Nx ?_
    refine W_sub _ (tk5 7 6 4 3 2) ?_
    refine Wr ?_
    refine Av ?_
    refine L_nil (X_then (W_seq (W_seq (W_region ?_))))
    have me13 := (me12.trans hx33).then' hx34 (by simp) (Nat.le_trans (Nat.le_trans me8 hx19.size) hp20.only.size)
    refine L_call (E_call (by kernel_rfl) rfl) (rec_Keys _ (hK.ext me13)) rfl rfl rfl ?_
    rintro s036 h23 ⟨_, rfl, hr037, hx38⟩
    refine Ly (Y_lenr Tryz.underlying86 rfl hr037) ?_
    refine Mv ?_
    refine L_nil (X_then (W_block ?_))
    refine W_rounds 4 ?_
    refine Wr ?_
    refine Ly (Y_lss rfl rfl) ?_
    refine L_nil (X_then (W_seq ?_))
    refine W_known true rfl (by exact decide_eq_true (by decide)) ?_
    refine W_skip (X_then (W_seq (W_block (W_seq (W_region ?_)))))
    refine Ly (Y_idxr Tryz.underlying86 (show _ = some 1 by kernel_rfl) rfl rfl rfl hr037 (by first | omega | (simp; done) | (simp; omega)) (by first | omega | (simp; done) | (simp; omega))) ?_
    refine Ly (Y_ldr0 (k := 0) Tryz.underlying9 rfl rfl rfl hr037 (by first | omega | (simp; done) | (simp; omega)) rfl) ?_
    refine Av ?_
    refine L_nil (X_then (W_seq (W_region ?_)))
    refine Mv ?_
    refine Mv ?_
    have hg39 : mget (mset (mset (mset ([] : List (List UInt8 × Value)) [108, 105, 110, 107, 112, 97, 116, 104] (str tg)) [112, 97, 116, 104] (str p)) [115, 105, 122, 101] (str (Lib.itoa z))) [108, 105, 110, 107, 112, 97, 116, 104] = some (str tg) := by rfl
    refine Ly (Y_look2s keyS Tryz.underlying82 Tryz.underlying9 (u := (str [])) (by kernel_rfl) rfl rfl (hb35.ext hx38) hg39) ?_
    refine Mv ?_
    refine Ly (Y_extract (v := str tg) rfl rfl) ?_
    refine Ly (Y_extract (v := .bool true) rfl rfl) ?_
    refine Av ?_
    refine Av ?_
    refine L_nil (X_then (W_seq (W_region ?_)))
    refine Mv ?_
    refine Nx ?_
    refine W_true rfl ?_
    refine W_region ?_
    refine Mv ?_
    refine Mv ?_
    refine Mv ?_
    refine Ly (Y_build (v := .agg #[str [108, 105, 110, 107, 112, 97, 116, 104], str tg]) (pv := [(0, str [108, 105, 110, 107, 112, 97, 116, 104]), (1, str tg)]) (evp (is := [0, 1]) (os := [.tmp 76, .tmp 77]) (vs := [str [108, 105, 110, 107, 112, 97, 116, 104], str tg]) rfl rfl) (fun _ => by kernel_rfl)) ?_
    refine L_mks (M_litr (S := recS) (l := [⟨[108, 105, 110, 107, 112, 97, 116, 104], tg⟩]) (cells := [str [108, 105, 110, 107, 112, 97, 116, 104], str tg]) (pv := [(0, .agg #[str [108, 105, 110, 107, 112, 97, 116, 104], str tg])]) (E := 89) (evp (is := [0]) (os := [.tmp 78]) (vs := [.agg #[str [108, 105, 110, 107, 112, 97, 116, 104], str tg]]) rfl rfl) rfl rfl (fun _ => by kernel_rfl) (by simp only [List.mem_cons, List.not_mem_nil, or_false, forall_eq_or_imp, forall_eq]; exact trivial)) rfl rfl rfl ?_
    rintro v40 h24 ⟨ho41, hx42⟩
    refine L_mks (M_appr0 nsRec (z := 2) (bytes := 32) (z0 := (.agg #[str [], str []])) Tryz.underlying58 (by unfold elemRow; kernel_rfl) rfl rfl (by decide) rfl rfl (RowsO.nil recS _ h24.size) ho41.rows (Nat.le_refl _) (by first | (simp; done) | (simp; omega))) rfl rfl rfl ?_
    rintro v43 h25 ha44
    refine Av ?_
    refine L_nil (X_block (X_then (W_region ?_)))
    refine Ly (Y_addl (r := 1) rfl rfl (by decide) (by decide) (by decide)) ?_
    refine Mv ?_
    refine L_nil ?_
    refine X_round ?_
    refine Wr ?_
    refine Ly (Y_lss rfl rfl) ?_
    refine L_nil (X_then (W_seq ?_))
    refine W_known true rfl (by exact decide_eq_true (by decide)) ?_
    refine W_skip (X_then (W_seq (W_block (W_seq (W_region ?_)))))
    refine Ly (Y_idxr Tryz.underlying86 (show _ = some 1 by kernel_rfl) rfl rfl rfl (hr037.ext (hx42.then' ha44.only ha44.ge hx42.size)) (by first | omega | (simp; done) | (simp; omega)) (by first | omega | (simp; done) | (simp; omega))) ?_
    refine Ly (Y_ldr0 (k := 1) Tryz.underlying9 rfl rfl rfl (hr037.ext (hx42.then' ha44.only ha44.ge hx42.size)) (by first | omega | (simp; done) | (simp; omega)) rfl) ?_
    refine Av ?_
    refine L_nil (X_then (W_seq (W_region ?_)))
    refine Mv ?_
    refine Mv ?_
    have hg45 : mget (mset (mset (mset ([] : List (List UInt8 × Value)) [108, 105, 110, 107, 112, 97, 116, 104] (str tg)) [112, 97, 116, 104] (str p)) [115, 105, 122, 101] (str (Lib.itoa z))) [112, 97, 116, 104] = some (str p) := by rfl
    have me14 := (hx38.trans hx42).then' ha44.only ha44.ge (Nat.le_trans hx38.size hx42.size)
    refine Ly (Y_look2s keyS Tryz.underlying82 Tryz.underlying9 (u := (str [])) (by kernel_rfl) rfl rfl (hb35.ext me14) hg45) ?_
    refine Mv ?_
    refine Ly (Y_extract (v := str p) rfl rfl) ?_
    refine Ly (Y_extract (v := .bool true) rfl rfl) ?_
    refine Av ?_
    refine Av ?_
    refine L_nil (X_then (W_seq (W_region ?_)))
    refine Mv ?_
    refine Nx ?_
    refine W_true rfl ?_
    refine W_region ?_
    refine Mv ?_
    refine Mv ?_
    refine Mv ?_
    refine Ly (Y_build (v := .agg #[str [112, 97, 116, 104], str p]) (pv := [(0, str [112, 97, 116, 104]), (1, str p)]) (evp (is := [0, 1]) (os := [.tmp 76, .tmp 77]) (vs := [str [112, 97, 116, 104], str p]) rfl rfl) (fun _ => by kernel_rfl)) ?_
    refine L_mks (M_litr (S := recS) (l := [⟨[112, 97, 116, 104], p⟩]) (cells := [str [112, 97, 116, 104], str p]) (pv := [(0, .agg #[str [112, 97, 116, 104], str p])]) (E := 89) (evp (is := [0]) (os := [.tmp 78]) (vs := [.agg #[str [112, 97, 116, 104], str p]]) rfl rfl) rfl rfl (fun _ => by kernel_rfl) (by simp only [List.mem_cons, List.not_mem_nil, or_false, forall_eq_or_imp, forall_eq]; exact trivial)) rfl rfl rfl ?_
    rintro v46 h26 ⟨ho47, hx48⟩
    refine L_mks (M_appr0 nsRec (z := 2) (bytes := 32) (z0 := (.agg #[str [], str []])) Tryz.underlying58 (by unfold elemRow; kernel_rfl) rfl rfl (by decide) rfl rfl (ha44.own.ext hx48) ho47.rows (Nat.le_trans ha44.only.size hx48.size) (by first | (simp; done) | (simp; omega))) rfl rfl rfl ?_
    rintro v49 h27 ha50
    refine Av ?_
    refine L_nil (X_block (X_then (W_region ?_)))
    refine Ly (Y_addl (r := 2) rfl rfl (by decide) (by decide) (by decide)) ?_
    refine Mv ?_
    refine L_nil ?_
    refine X_round ?_
    refine Wr ?_
    refine Ly (Y_lss rfl rfl) ?_
    refine L_nil (X_then (W_seq ?_))
    refine W_known true rfl (by exact decide_eq_true (by decide)) ?_
    refine W_skip (X_then (W_seq (W_block (W_seq (W_region ?_)))))
    have me15 := ((hx42.then' ha44.only ha44.ge hx42.size).trans hx48).then' ha50.only ha50.ge hx42.size
    refine Ly (Y_idxr Tryz.underlying86 (show _ = some 1 by kernel_rfl) rfl rfl rfl (hr037.ext me15) (by first | omega | (simp; done) | (simp; omega)) (by first | omega | (simp; done) | (simp; omega))) ?_
    refine Ly (Y_ldr0 (k := 2) Tryz.underlying9 rfl rfl rfl (hr037.ext me15) (by first | omega | (simp; done) | (simp; omega)) rfl) ?_
    refine Av ?_
    refine L_nil (X_then (W_seq (W_region ?_)))
    refine Mv ?_
    refine Mv ?_
    have hg51 : mget (mset (mset (mset ([] : List (List UInt8 × Value)) [108, 105, 110, 107, 112, 97, 116, 104] (str tg)) [112, 97, 116, 104] (str p)) [115, 105, 122, 101] (str (Lib.itoa z))) [115, 105, 122, 101] = some (str (Lib.itoa z)) := by rfl
    have me16 := (me14.trans hx48).then' ha50.only ha50.ge (Nat.le_trans hx38.size hx42.size)
    refine Ly (Y_look2s keyS Tryz.underlying82 Tryz.underlying9 (u := (str [])) (by kernel_rfl) rfl rfl (hb35.ext me16) hg51) ?_
    refine Mv ?_
    refine Ly (Y_extract (v := str (Lib.itoa z)) rfl rfl) ?_
    refine Ly (Y_extract (v := .bool true) rfl rfl) ?_
    refine Av ?_
    refine Av ?_
    refine L_nil (X_then (W_seq (W_region ?_)))
    refine Mv ?_
    refine Nx ?_
    refine W_true rfl ?_
    refine W_region ?_
    refine Mv ?_
    refine Mv ?_
    refine Mv ?_
    refine Ly (Y_build (v := .agg #[str [115, 105, 122, 101], str (Lib.itoa z)]) (pv := [(0, str [115, 105, 122, 101]), (1, str (Lib.itoa z))]) (evp (is := [0, 1]) (os := [.tmp 76, .tmp 77]) (vs := [str [115, 105, 122, 101], str (Lib.itoa z)]) rfl rfl) (fun _ => by kernel_rfl)) ?_
    refine L_mks (M_litr (S := recS) (l := [⟨[115, 105, 122, 101], Lib.itoa z⟩]) (cells := [str [115, 105, 122, 101], str (Lib.itoa z)]) (pv := [(0, .agg #[str [115, 105, 122, 101], str (Lib.itoa z)])]) (E := 89) (evp (is := [0]) (os := [.tmp 78]) (vs := [.agg #[str [115, 105, 122, 101], str (Lib.itoa z)]]) rfl rfl) rfl rfl (fun _ => by kernel_rfl) (by simp only [List.mem_cons, List.not_mem_nil, or_false, forall_eq_or_imp, forall_eq]; exact trivial)) rfl rfl rfl ?_
    rintro v52 h28 ⟨ho53, hx54⟩
    have me17 := Nat.le_trans (Nat.le_trans ha44.only.size hx48.size) ha50.only.size
    refine L_mks (M_appr0 nsRec (z := 2) (bytes := 32) (z0 := (.agg #[str [], str []])) Tryz.underlying58 (by unfold elemRow; kernel_rfl) rfl rfl (by decide) rfl rfl (ha50.own.ext hx54) ho53.rows (Nat.le_trans me17 hx54.size) (by first | (simp; done) | (simp; omega))) rfl rfl rfl ?_
    rintro v55 h29 ha56
    refine Av ?_
    refine L_nil (X_block (X_then (W_region ?_)))
    refine Ly (Y_addl (r := 3) rfl rfl (by decide) (by decide) (by decide)) ?_
    refine Mv ?_
    refine L_nil ?_
    refine X_round ?_
    refine Wr ?_
    refine Ly (Y_lss rfl rfl) ?_
    refine L_nil (X_then (W_seq ?_))
    refine W_known false rfl (by exact decide_eq_false (by decide)) ?_
    refine W_exit ?_
    refine X_then_exit (X_then_exit ?_)
    refine X_block_hit ?_
    refine X_then ?_
    refine W_sub _ (tk5 9 6 4 3 2) ?_
    refine Wr ?_
    have me18 := Nat.le_trans (Nat.le_trans hp20.only.size hx22.size) hx24.size
    have me19 := Nat.le_trans (Nat.le_trans me18 hp26.only.size) hp28.only.size
    have me20 := Nat.le_trans (Nat.le_trans (Nat.le_trans me19 hx30.size) hx33.size) hx34.size
    have hc57 := ((((((((((hk29.only hx30 (ni_lt (Nat.lt_of_lt_of_le q4_1.lt hp20.only.size))).ext hx33).only hx34 (ni_lt (Nat.lt_of_lt_of_le q4_1.lt hp20.only.size))).ext hx38).ext hx42).only ha44.only (by simp [blockOf])).ext hx48).only ha50.only (fun hb_ => Nat.lt_irrefl _ (Nat.lt_of_lt_of_le (Nat.lt_of_lt_of_le q4_1.lt (Nat.le_trans (Nat.le_trans me20 hx38.size) hx42.size)) (ha50.ge _ hb_)))).ext hx54).only ha56.only (fun hb_ => Nat.lt_irrefl _ (Nat.lt_of_lt_of_le (Nat.lt_of_lt_of_le q4_1.lt (Nat.le_trans (Nat.le_trans me20 hx38.size) hx42.size)) (ha56.ge _ hb_))))
    refine Ly (Y_ldbox (us := [.int .u8 (byt ([53, 48, 50, 49] : List UInt8) (k).toNat), str (snam p), str (spre p), str [], .int .i64 (m), .int .i64 0]) Tryz.underlying57 rfl (show _ = some 6 by kernel_rfl) rfl hc57 rfl) ?_
    refine Mv ?_
    have me21 := Nat.le_trans (Nat.le_trans hx5.size hx19.size) hp20.only.size
    have me22 := (hx5.trans hx19).then' hp20.only (by simp) (Nat.le_trans hx5.size q4_1l)
    have me23 := ((me22.trans hx22).then' hx24 (by simp) me21).then' hp26.only (by simp) (Nat.le_trans hx5.size q4_1l)
    have me24 := me23.then' hp28.only (by simp) (Nat.le_trans hx5.size q4_1l)
    have me25 := ((me24.then' hx30 (by simp) me21).trans hx33).then' hx34 (by simp) me21
    have me26 := Nat.le_trans (Nat.le_trans (Nat.le_trans me21 hx22.size) hx24.size) hp26.only.size
    have me27 := Nat.le_trans (Nat.le_trans (Nat.le_trans me26 hp28.only.size) hx30.size) hx33.size
    have me28 := Nat.le_trans (Nat.le_trans (Nat.le_trans me27 hx34.size) hx38.size) hx42.size
    have me29 := ((me25.trans hx38).trans hx42).then' ha44.only ha44.ge me28
    have me30 := ((me29.trans hx48).then' ha50.only ha50.ge me28).trans hx54
    refine L_dos (D_store (us := [.int .u8 (byt ([53, 48, 50, 49] : List UInt8) (k).toNat), str (snam p), str (spre p), str [], .int .i64 (m), .int .i64 0]) (show _ = some 6 by kernel_rfl) rfl rfl rfl (by simp [Value.oneCell']) (hk4.ext (me30.then' ha56.only ha56.ge me28)) (by simp)) rfl rfl ?_
    rintro h30 hp58
    have hk59 : Blk h30 h1.size [.int .u8 (byt ([53, 48, 50, 49] : List UInt8) (k).toNat), str (snam p), str (spre p), str [], .int .i64 (m), .int .i64 0] := hp58.blk
    refine Av ?_
    refine Av ?_
    refine Nx ?_
    refine W_sub _ (tk3 4 3 2) ?_
    refine W_ret ?_
    refine X_retv3 rfl (RV.agg rfl Tryz.underlying57 rfl (show _ = some 6 by kernel_rfl) hk59) rfl rfl ?_
    have c2x : sok p = false := by simpa using c2
    have c1x : 100 < tg.length := by omega
    have me31 := Nat.le_trans (Nat.le_trans (Nat.le_trans me8 hx19.size) hp20.only.size) hx22.size
    have me32 := Nat.le_trans (Nat.le_trans (Nat.le_trans me31 hx24.size) hp26.only.size) hp28.only.size
    have me33 := Nat.le_trans (Nat.le_trans (Nat.le_trans me32 hx30.size) hx33.size) hx34.size
    have me34 := ((me13.trans hx38).trans hx42).then' ha44.only ha44.ge (Nat.le_trans (Nat.le_trans me33 hx38.size) hx42.size)
    have me35 := (me34.trans hx48).then' ha50.only ha50.ge (Nat.le_trans (Nat.le_trans me33 hx38.size) hx42.size)
    have me36 := (me35.trans hx54).then' ha56.only ha56.ge (Nat.le_trans (Nat.le_trans me33 hx38.size) hx42.size)
    refine ⟨v55, ?_, ?_, (me36.then' hp58.only (by simp) hn1.ext.size)⟩
    ·rw [e0, fT, fN, fP, fL, fM, fZ, if_pos rfl, if_pos rfl, if_pos rfl, if_pos rfl, if_pos rfl, if_pos rfl, if_pos c1x, if_pos c3]; rfl
    rw [e0, fR, if_pos rfl]; exact RowsO.congr (((ha56.own.only1 nsRec hp58.only (Nat.lt_of_lt_of_le hk4.lt me28))).low (Nat.le_trans (Nat.le_trans me33 hx38.size) hx42.size)) (by simp [frecs, c1x, c2x, c3, itoa_pos (show (0 : Int) ≤ z by omega)])
   refine W_region ?_
   refine Ly (Y_fieldAddr (off := 4) (by kernel_rfl) rfl rfl) ?_
   refine Ly (Y_ldblk Tryz.underlying2 rfl rfl (hk2.ext me7) rfl) ?_
   refine Ly (Y_fieldAddr (off := 5) (by kernel_rfl) rfl rfl) ?_
   have hc62 := (hk29.only hx30 (ni_lt (Nat.lt_of_lt_of_le q4_1.lt hp20.only.size)))
   refine L_dos (D_store (us := [.int .i64 (z)]) (show _ = some 1 by kernel_rfl) rfl rfl rfl (by simp [Value.oneCell']) hc62 (by simp)) rfl rfl ?_
   rintro h31 hp60
   have hk61 : Blk h31 r4_1 [.int .u8 (byt ([53, 48, 50, 49] : List UInt8) (k).toNat), str (snam p), str (spre p), str [], .int .i64 (m), .int .i64 (z)] := hp60.blk
   refine Nx ?_
   refine W_sub _ (tk5 7 6 4 3 2) ?_
   refine Wr ?_
   refine Av ?_
   refine L_nil (X_then (W_seq (W_seq (W_region ?_))))
   have me37 := Nat.le_trans (Nat.le_trans hn1.ext.size hn3.ext.size) hx5.size
   have me38 := (((hn1.ext.trans hn3.ext).trans hx5).trans hx19).then' hp20.only (by simp) (Nat.le_trans me37 q4_1l)
   have me39 := (me38.trans hx22).then' hx24 (by simp) (Nat.le_trans (Nat.le_trans me37 hx19.size) hp20.only.size)
   have me40 := (me39.then' hp26.only (by simp) (Nat.le_trans me37 q4_1l)).then' hp28.only (by simp) (Nat.le_trans me37 q4_1l)
   have me41 := me40.then' hx30 (by simp) (Nat.le_trans (Nat.le_trans me37 hx19.size) hp20.only.size)
   refine L_call (E_call (by kernel_rfl) rfl) (rec_Keys _ (hK.ext (me41.then' hp60.only (by simp) (Nat.le_trans me37 q4_1l)))) rfl rfl rfl ?_
   rintro s063 h32 ⟨_, rfl, hr064, hx65⟩
   refine Ly (Y_lenr Tryz.underlying86 rfl hr064) ?_
   refine Mv ?_
   refine L_nil (X_then (W_block ?_))
   refine W_rounds 4 ?_
   refine Wr ?_
   refine Ly (Y_lss rfl rfl) ?_
   refine L_nil (X_then (W_seq ?_))
   refine W_known true rfl (by exact decide_eq_true (by decide)) ?_
   refine W_skip (X_then (W_seq (W_block (W_seq (W_region ?_)))))
   refine Ly (Y_idxr Tryz.underlying86 (show _ = some 1 by kernel_rfl) rfl rfl rfl hr064 (by first | omega | (simp; done) | (simp; omega)) (by first | omega | (simp; done) | (simp; omega))) ?_
   refine Ly (Y_ldr0 (k := 0) Tryz.underlying9 rfl rfl rfl hr064 (by first | omega | (simp; done) | (simp; omega)) rfl) ?_
   refine Av ?_
   refine L_nil (X_then (W_seq (W_region ?_)))
   refine Mv ?_
   refine Mv ?_
   have hg66 : mget (mset (mset ([] : List (List UInt8 × Value)) [108, 105, 110, 107, 112, 97, 116, 104] (str tg)) [112, 97, 116, 104] (str p)) [108, 105, 110, 107, 112, 97, 116, 104] = some (str tg) := by rfl
   have hc67 := ((hb31.only hp60.only (ni_gt (Nat.lt_of_lt_of_le q4_1.lt hp20.only.size))).ext hx65)
   refine Ly (Y_look2s keyS Tryz.underlying82 Tryz.underlying9 (u := (str [])) (by kernel_rfl) rfl rfl hc67 hg66) ?_
   refine Mv ?_
   refine Ly (Y_extract (v := str tg) rfl rfl) ?_
   refine Ly (Y_extract (v := .bool true) rfl rfl) ?_
   refine Av ?_
   refine Av ?_
   refine L_nil (X_then (W_seq (W_region ?_)))
   refine Mv ?_
   refine Nx ?_
   refine W_true rfl ?_
   refine W_region ?_
   refine Mv ?_
   refine Mv ?_
   refine Mv ?_
   refine Ly (Y_build (v := .agg #[str [108, 105, 110, 107, 112, 97, 116, 104], str tg]) (pv := [(0, str [108, 105, 110, 107, 112, 97, 116, 104]), (1, str tg)]) (evp (is := [0, 1]) (os := [.tmp 76, .tmp 77]) (vs := [str [108, 105, 110, 107, 112, 97, 116, 104], str tg]) rfl rfl) (fun _ => by kernel_rfl)) ?_
   refine L_mks (M_litr (S := recS) (l := [⟨[108, 105, 110, 107, 112, 97, 116, 104], tg⟩]) (cells := [str [108, 105, 110, 107, 112, 97, 116, 104], str tg]) (pv := [(0, .agg #[str [108, 105, 110, 107, 112, 97, 116, 104], str tg])]) (E := 89) (evp (is := [0]) (os := [.tmp 78]) (vs := [.agg #[str [108, 105, 110, 107, 112, 97, 116, 104], str tg]]) rfl rfl) rfl rfl (fun _ => by kernel_rfl) (by simp only [List.mem_cons, List.not_mem_nil, or_false, forall_eq_or_imp, forall_eq]; exact trivial)) rfl rfl rfl ?_
   rintro v68 h33 ⟨ho69, hx70⟩
   refine L_mks (M_appr0 nsRec (z := 2) (bytes := 32) (z0 := (.agg #[str [], str []])) Tryz.underlying58 (by unfold elemRow; kernel_rfl) rfl rfl (by decide) rfl rfl (RowsO.nil recS _ h33.size) ho69.rows (Nat.le_refl _) (by first | (simp; done) | (simp; omega))) rfl rfl rfl ?_
   rintro v71 h34 ha72
   refine Av ?_
   refine L_nil (X_block (X_then (W_region ?_)))
   refine Ly (Y_addl (r := 1) rfl rfl (by decide) (by decide) (by decide)) ?_
   refine Mv ?_
   refine L_nil ?_
   refine X_round ?_
   refine Wr ?_
   refine Ly (Y_lss rfl rfl) ?_
   refine L_nil (X_then (W_seq ?_))
   refine W_known true rfl (by exact decide_eq_true (by decide)) ?_
   refine W_skip (X_then (W_seq (W_block (W_seq (W_region ?_)))))
   refine Ly (Y_idxr Tryz.underlying86 (show _ = some 1 by kernel_rfl) rfl rfl rfl (hr064.ext (hx70.then' ha72.only ha72.ge hx70.size)) (by first | omega | (simp; done) | (simp; omega)) (by first | omega | (simp; done) | (simp; omega))) ?_
   refine Ly (Y_ldr0 (k := 1) Tryz.underlying9 rfl rfl rfl (hr064.ext (hx70.then' ha72.only ha72.ge hx70.size)) (by first | omega | (simp; done) | (simp; omega)) rfl) ?_
   refine Av ?_
   refine L_nil (X_then (W_seq (W_region ?_)))
   refine Mv ?_
   refine Mv ?_
   have hg73 : mget (mset (mset ([] : List (List UInt8 × Value)) [108, 105, 110, 107, 112, 97, 116, 104] (str tg)) [112, 97, 116, 104] (str p)) [112, 97, 116, 104] = some (str p) := by rfl
   refine Ly (Y_look2s keyS Tryz.underlying82 Tryz.underlying9 (u := (str [])) (by kernel_rfl) rfl rfl (hc67.ext (hx70.then' ha72.only ha72.ge hx70.size)) hg73) ?_
   refine Mv ?_
   refine Ly (Y_extract (v := str p) rfl rfl) ?_
   refine Ly (Y_extract (v := .bool true) rfl rfl) ?_
   refine Av ?_
   refine Av ?_
   refine L_nil (X_then (W_seq (W_region ?_)))
   refine Mv ?_
   refine Nx ?_
   refine W_true rfl ?_
   refine W_region ?_
   refine Mv ?_
   refine Mv ?_
   refine Mv ?_
   refine Ly (Y_build (v := .agg #[str [112, 97, 116, 104], str p]) (pv := [(0, str [112, 97, 116, 104]), (1, str p)]) (evp (is := [0, 1]) (os := [.tmp 76, .tmp 77]) (vs := [str [112, 97, 116, 104], str p]) rfl rfl) (fun _ => by kernel_rfl)) ?_
   refine L_mks (M_litr (S := recS) (l := [⟨[112, 97, 116, 104], p⟩]) (cells := [str [112, 97, 116, 104], str p]) (pv := [(0, .agg #[str [112, 97, 116, 104], str p])]) (E := 89) (evp (is := [0]) (os := [.tmp 78]) (vs := [.agg #[str [112, 97, 116, 104], str p]]) rfl rfl) rfl rfl (fun _ => by kernel_rfl) (by simp only [List.mem_cons, List.not_mem_nil, or_false, forall_eq_or_imp, forall_eq]; exact trivial)) rfl rfl rfl ?_
   rintro v74 h35 ⟨ho75, hx76⟩
   refine L_mks (M_appr0 nsRec (z := 2) (bytes := 32) (z0 := (.agg #[str [], str []])) Tryz.underlying58 (by unfold elemRow; kernel_rfl) rfl rfl (by decide) rfl rfl (ha72.own.ext hx76) ho75.rows (Nat.le_trans ha72.only.size hx76.size) (by first | (simp; done) | (simp; omega))) rfl rfl rfl ?_
   rintro v77 h36 ha78
   refine Av ?_
   refine L_nil (X_block (X_then (W_region ?_)))
   refine Ly (Y_addl (r := 2) rfl rfl (by decide) (by decide) (by decide)) ?_
   refine Mv ?_
   refine L_nil ?_
   refine X_round ?_
   refine Wr ?_
   refine Ly (Y_lss rfl rfl) ?_
   refine L_nil (X_then (W_seq ?_))
   refine W_known true rfl (by exact decide_eq_true (by decide)) ?_
   refine W_skip (X_then (W_seq (W_block (W_seq (W_region ?_)))))
   have me42 := ((hx70.then' ha72.only ha72.ge hx70.size).trans hx76).then' ha78.only ha78.ge hx70.size
   refine Ly (Y_idxr Tryz.underlying86 (show _ = some 1 by kernel_rfl) rfl rfl rfl (hr064.ext me42) (by first | omega | (simp; done) | (simp; omega)) (by first | omega | (simp; done) | (simp; omega))) ?_
   refine Ly (Y_ldr0 (k := 2) Tryz.underlying9 rfl rfl rfl (hr064.ext me42) (by first | omega | (simp; done) | (simp; omega)) rfl) ?_
   refine Av ?_
   refine L_nil (X_then (W_seq (W_region ?_)))
   refine Mv ?_
   refine Mv ?_
   have hg79 : mget (mset (mset ([] : List (List UInt8 × Value)) [108, 105, 110, 107, 112, 97, 116, 104] (str tg)) [112, 97, 116, 104] (str p)) [115, 105, 122, 101] = none := by rfl
   refine Ly (Y_look2n keyS Tryz.underlying82 Tryz.underlying9 (u := (str [])) (by kernel_rfl) rfl rfl (hc67.ext me42) hg79) ?_
   refine Mv ?_
   refine Ly (Y_extract (v := str []) rfl rfl) ?_
   refine Ly (Y_extract (v := .bool false) rfl rfl) ?_
   refine Av ?_
   refine Av ?_
   refine L_nil (X_then (W_seq (W_region ?_)))
   refine Mv ?_
   refine Nx ?_
   refine W_false rfl ?_
   refine W_skip (X_block (X_then (W_region ?_)))
   refine Ly (Y_addl (r := 3) rfl rfl (by decide) (by decide) (by decide)) ?_
   refine Mv ?_
   refine L_nil ?_
   refine X_round ?_
   refine Wr ?_
   refine Ly (Y_lss rfl rfl) ?_
   refine L_nil (X_then (W_seq ?_))
   refine W_known false rfl (by exact decide_eq_false (by decide)) ?_
   refine W_exit ?_
   refine X_then_exit (X_then_exit ?_)
   refine X_block_hit ?_
   refine X_then ?_
   refine W_sub _ (tk5 9 6 4 3 2) ?_
   refine Wr ?_
   have me43 := (hx65.trans hx70).then' ha72.only ha72.ge (Nat.le_trans hx65.size hx70.size)
   have me44 := (me43.trans hx76).then' ha78.only ha78.ge (Nat.le_trans hx65.size hx70.size)
   refine Ly (Y_ldbox (us := [.int .u8 (byt ([53, 48, 50, 49] : List UInt8) (k).toNat), str (snam p), str (spre p), str [], .int .i64 (m), .int .i64 (z)]) Tryz.underlying57 rfl (show _ = some 6 by kernel_rfl) rfl (hk61.ext me44) rfl) ?_
   refine Mv ?_
   have me45 := Nat.le_trans (Nat.le_trans hx5.size hx19.size) hp20.only.size
   have me46 := (hx5.trans hx19).then' hp20.only (by simp) (Nat.le_trans hx5.size q4_1l)
   have me47 := ((me46.trans hx22).then' hx24 (by simp) me45).then' hp26.only (by simp) (Nat.le_trans hx5.size q4_1l)
   have me48 := me47.then' hp28.only (by simp) (Nat.le_trans hx5.size q4_1l)
   have me49 := (me48.then' hx30 (by simp) me45).then' hp60.only (by simp) (Nat.le_trans hx5.size q4_1l)
   have me50 := Nat.le_trans (Nat.le_trans (Nat.le_trans me45 hx22.size) hx24.size) hp26.only.size
   have me51 := Nat.le_trans (Nat.le_trans (Nat.le_trans me50 hp28.only.size) hx30.size) hp60.only.size
   have me52 := ((me49.trans hx65).trans hx70).then' ha72.only ha72.ge (Nat.le_trans (Nat.le_trans me51 hx65.size) hx70.size)
   have me53 := (me52.trans hx76).then' ha78.only ha78.ge (Nat.le_trans (Nat.le_trans me51 hx65.size) hx70.size)
   refine L_dos (D_store (us := [.int .u8 (byt ([53, 48, 50, 49] : List UInt8) (k).toNat), str (snam p), str (spre p), str [], .int .i64 (m), .int .i64 (z)]) (show _ = some 6 by kernel_rfl) rfl rfl rfl (by simp [Value.oneCell']) (hk4.ext me53) (by simp)) rfl rfl ?_
   rintro h37 hp80
   have hk81 : Blk h37 h1.size [.int .u8 (byt ([53, 48, 50, 49] : List UInt8) (k).toNat), str (snam p), str (spre p), str [], .int .i64 (m), .int .i64 (z)] := hp80.blk
   refine Av ?_
   refine Av ?_
   refine Nx ?_
   refine W_sub _ (tk3 4 3 2) ?_
   refine W_ret ?_
   refine X_retv3 rfl (RV.agg rfl Tryz.underlying57 rfl (show _ = some 6 by kernel_rfl) hk81) rfl rfl ?_
   have c2x : sok p = false := by simpa using c2
   have c1x : 100 < tg.length := by omega
   have me54 := (me41.then' hp60.only (by simp) (Nat.le_trans me37 q4_1l)).trans hx65
   have me55 := Nat.le_trans (Nat.le_trans (Nat.le_trans me37 hx19.size) hp20.only.size) hx22.size
   have me56 := Nat.le_trans (Nat.le_trans (Nat.le_trans me55 hx24.size) hp26.only.size) hp28.only.size
   have me57 := Nat.le_trans (Nat.le_trans (Nat.le_trans me56 hx30.size) hp60.only.size) hx65.size
   have me58 := (me54.trans hx70).then' ha72.only ha72.ge (Nat.le_trans me57 hx70.size)
   have me59 := (me58.trans hx76).then' ha78.only ha78.ge (Nat.le_trans me57 hx70.size)
   refine ⟨v77, ?_, ?_, (me59.then' hp80.only (by simp) hn1.ext.size)⟩
   ·rw [e0, fT, fN, fP, fL, fM, fZ, if_pos rfl, if_pos rfl, if_pos rfl, if_pos rfl, if_pos rfl, if_pos rfl, if_pos c1x, if_neg c3]; rfl
   rw [e0, fR, if_pos rfl]; exact RowsO.congr (((ha78.own.only1 nsRec hp80.only (Nat.lt_of_lt_of_le hk4.lt (Nat.le_trans (Nat.le_trans me51 hx65.size) hx70.size)))).low (Nat.le_trans me57 hx70.size)) (by simp [frecs, c1x, c2x, c3])
  refine Ws ?_
  refine W_sub _ (tk6 7 6 4 3 2 1) ?_
  refine W_seq (W_seq (W_region ?_))
  refine Ly (Y_fieldAddr (off := 4) (by kernel_rfl) rfl rfl) ?_
  have me60 := me4.then' hp26.only (by simp) (Nat.le_trans (Nat.le_trans hn3.ext.size hx5.size) q4_1l)
  have me61 := me60.then' hp28.only (by simp) (Nat.le_trans (Nat.le_trans hn3.ext.size hx5.size) q4_1l)
  refine Ly (Y_ldblk Tryz.underlying2 rfl rfl (hk2.ext me61) rfl) ?_
  refine Ly (Y_gtr rfl rfl) ?_
  refine Nx ?_
  refine W_sub _ (tk7 54 7 6 4 3 2 1) ?_
  refine W_splitd rfl (fun c3 => ?_) (fun c3 => ?_)
  ·refine W_region ?_
   refine Mv ?_
   refine Ly (Y_fieldAddr (off := 4) (by kernel_rfl) rfl rfl) ?_
   refine Ly (Y_ldblk Tryz.underlying2 rfl rfl (hk2.ext me61) rfl) ?_
   have me62 := Nat.le_trans (Nat.le_trans hn1.ext.size hn3.ext.size) hx5.size
   have me63 := (((hn1.ext.trans hn3.ext).trans hx5).trans hx19).then' hp20.only (by simp) (Nat.le_trans me62 q4_1l)
   have me64 := (me63.trans hx22).then' hx24 (by simp) (Nat.le_trans (Nat.le_trans me62 hx19.size) hp20.only.size)
   have me65 := (me64.then' hp26.only (by simp) (Nat.le_trans me62 q4_1l)).then' hp28.only (by simp) (Nat.le_trans me62 q4_1l)
   refine L_call (E_call (by kernel_rfl) rfl) (strconv_FormatInt _ (hN.ext me65) z (by first | first | omega | (simp; done) | (simp; omega) | rfl | (simp <;> omega))) rfl rfl rfl ?_
   rintro _ h38 ⟨rfl, hx82⟩
   have hc85 := (((hb25.only hp26.only (ni_gt (Nat.lt_of_lt_of_le q4_1.lt hp20.only.size))).only hp28.only (ni_gt (Nat.lt_of_lt_of_le q4_1.lt hp20.only.size))).ext hx82)
   refine L_dos (D_update keyS Tryz.underlying82 Tryz.underlying9 rfl rfl rfl hc85) rfl rfl ?_
   rintro h39 ⟨hx83, -, hb84⟩
   refine Nx ?_
   refine W_sub _ (tk5 7 6 4 3 2) ?_
   refine Wr ?_
   refine Av ?_
   refine L_nil (X_then (W_seq (W_seq (W_region ?_))))
   have me66 := (me65.trans hx82).then' hx83 (by simp) (Nat.le_trans (Nat.le_trans me62 hx19.size) hp20.only.size)
   refine L_call (E_call (by kernel_rfl) rfl) (rec_Keys _ (hK.ext me66)) rfl rfl rfl ?_
   rintro s086 h40 ⟨_, rfl, hr087, hx88⟩
   refine Ly (Y_lenr Tryz.underlying86 rfl hr087) ?_
   refine Mv ?_
   refine L_nil (X_then (W_block ?_))
   refine W_rounds 4 ?_
   refine Wr ?_
   refine Ly (Y_lss rfl rfl) ?_
   refine L_nil (X_then (W_seq ?_))
   refine W_known true rfl (by exact decide_eq_true (by decide)) ?_
   refine W_skip (X_then (W_seq (W_block (W_seq (W_region ?_)))))
   refine Ly (Y_idxr Tryz.underlying86 (show _ = some 1 by kernel_rfl) rfl rfl rfl hr087 (by first | omega | (simp; done) | (simp; omega)) (by first | omega | (simp; done) | (simp; omega))) ?_
   refine Ly (Y_ldr0 (k := 0) Tryz.underlying9 rfl rfl rfl hr087 (by first | omega | (simp; done) | (simp; omega)) rfl) ?_
   refine Av ?_
   refine L_nil (X_then (W_seq (W_region ?_)))
   refine Mv ?_
   refine Mv ?_
   have hg89 : mget (mset (mset ([] : List (List UInt8 × Value)) [108, 105, 110, 107, 112, 97, 116, 104] (str tg)) [115, 105, 122, 101] (str (Lib.itoa z))) [108, 105, 110, 107, 112, 97, 116, 104] = some (str tg) := by rfl
   refine Ly (Y_look2s keyS Tryz.underlying82 Tryz.underlying9 (u := (str [])) (by kernel_rfl) rfl rfl (hb84.ext hx88) hg89) ?_
   refine Mv ?_
   refine Ly (Y_extract (v := str tg) rfl rfl) ?_
   refine Ly (Y_extract (v := .bool true) rfl rfl) ?_
   refine Av ?_
   refine Av ?_
   refine L_nil (X_then (W_seq (W_region ?_)))
   refine Mv ?_
   refine Nx ?_
   refine W_true rfl ?_
   refine W_region ?_
   refine Mv ?_
   refine Mv ?_
   refine Mv ?_
   refine Ly (Y_build (v := .agg #[str [108, 105, 110, 107, 112, 97, 116, 104], str tg]) (pv := [(0, str [108, 105, 110, 107, 112, 97, 116, 104]), (1, str tg)]) (evp (is := [0, 1]) (os := [.tmp 76, .tmp 77]) (vs := [str [108, 105, 110, 107, 112, 97, 116, 104], str tg]) rfl rfl) (fun _ => by kernel_rfl)) ?_
   refine L_mks (M_litr (S := recS) (l := [⟨[108, 105, 110, 107, 112, 97, 116, 104], tg⟩]) (cells := [str [108, 105, 110, 107, 112, 97, 116, 104], str tg]) (pv := [(0, .agg #[str [108, 105, 110, 107, 112, 97, 116, 104], str tg])]) (E := 89) (evp (is := [0]) (os := [.tmp 78]) (vs := [.agg #[str [108, 105, 110, 107, 112, 97, 116, 104], str tg]]) rfl rfl) rfl rfl (fun _ => by kernel_rfl) (by simp only [List.mem_cons, List.not_mem_nil, or_false, forall_eq_or_imp, forall_eq]; exact trivial)) rfl rfl rfl ?_
   rintro v90 h41 ⟨ho91, hx92⟩
   refine L_mks (M_appr0 nsRec (z := 2) (bytes := 32) (z0 := (.agg #[str [], str []])) Tryz.underlying58 (by unfold elemRow; kernel_rfl) rfl rfl (by decide) rfl rfl (RowsO.nil recS _ h41.size) ho91.rows (Nat.le_refl _) (by first | (simp; done) | (simp; omega))) rfl rfl rfl ?_
   rintro v93 h42 ha94
   refine Av ?_
   refine L_nil (X_block (X_then (W_region ?_)))
   refine Ly (Y_addl (r := 1) rfl rfl (by decide) (by decide) (by decide)) ?_
   refine Mv ?_
   refine L_nil ?_
   refine X_round ?_
   refine Wr ?_
   refine Ly (Y_lss rfl rfl) ?_
   refine L_nil (X_then (W_seq ?_))
   refine W_known true rfl (by exact decide_eq_true (by decide)) ?_
   refine W_skip (X_then (W_seq (W_block (W_seq (W_region ?_)))))
   refine Ly (Y_idxr Tryz.underlying86 (show _ = some 1 by kernel_rfl) rfl rfl rfl (hr087.ext (hx92.then' ha94.only ha94.ge hx92.size)) (by first | omega | (simp; done) | (simp; omega)) (by first | omega | (simp; done) | (simp; omega))) ?_
   refine Ly (Y_ldr0 (k := 1) Tryz.underlying9 rfl rfl rfl (hr087.ext (hx92.then' ha94.only ha94.ge hx92.size)) (by first | omega | (simp; done) | (simp; omega)) rfl) ?_
   refine Av ?_
   refine L_nil (X_then (W_seq (W_region ?_)))
   refine Mv ?_
   refine Mv ?_
   have hg95 : mget (mset (mset ([] : List (List UInt8 × Value)) [108, 105, 110, 107, 112, 97, 116, 104] (str tg)) [115, 105, 122, 101] (str (Lib.itoa z))) [112, 97, 116, 104] = none := by rfl
   have me67 := (hx88.trans hx92).then' ha94.only ha94.ge (Nat.le_trans hx88.size hx92.size)
   refine Ly (Y_look2n keyS Tryz.underlying82 Tryz.underlying9 (u := (str [])) (by kernel_rfl) rfl rfl (hb84.ext me67) hg95) ?_
   refine Mv ?_
   refine Ly (Y_extract (v := str []) rfl rfl) ?_
   refine Ly (Y_extract (v := .bool false) rfl rfl) ?_
   refine Av ?_
   refine Av ?_
   refine L_nil (X_then (W_seq (W_region ?_)))
   refine Mv ?_
   refine Nx ?_
   refine W_false rfl ?_
   refine W_skip (X_block (X_then (W_region ?_)))
   refine Ly (Y_addl (r := 2) rfl rfl (by decide) (by decide) (by decide)) ?_
   refine Mv ?_
   refine L_nil ?_
   refine X_round ?_
   refine Wr ?_
   refine Ly (Y_lss rfl rfl) ?_
   refine L_nil (X_then (W_seq ?_))
   refine W_known true rfl (by exact decide_eq_true (by decide)) ?_
   refine W_skip (X_then (W_seq (W_block (W_seq (W_region ?_)))))
   refine Ly (Y_idxr Tryz.underlying86 (show _ = some 1 by kernel_rfl) rfl rfl rfl (hr087.ext (hx92.then' ha94.only ha94.ge hx92.size)) (by first | omega | (simp; done) | (simp; omega)) (by first | omega | (simp; done) | (simp; omega))) ?_
   refine Ly (Y_ldr0 (k := 2) Tryz.underlying9 rfl rfl rfl (hr087.ext (hx92.then' ha94.only ha94.ge hx92.size)) (by first | omega | (simp; done) | (simp; omega)) rfl) ?_
   refine Av ?_
   refine L_nil (X_then (W_seq (W_region ?_)))
   refine Mv ?_
   refine Mv ?_
   have hg96 : mget (mset (mset ([] : List (List UInt8 × Value)) [108, 105, 110, 107, 112, 97, 116, 104] (str tg)) [115, 105, 122, 101] (str (Lib.itoa z))) [115, 105, 122, 101] = some (str (Lib.itoa z)) := by rfl
   refine Ly (Y_look2s keyS Tryz.underlying82 Tryz.underlying9 (u := (str [])) (by kernel_rfl) rfl rfl (hb84.ext me67) hg96) ?_
   refine Mv ?_
   refine Ly (Y_extract (v := str (Lib.itoa z)) rfl rfl) ?_
   refine Ly (Y_extract (v := .bool true) rfl rfl) ?_
   refine Av ?_
   refine Av ?_
   refine L_nil (X_then (W_seq (W_region ?_)))
   refine Mv ?_
   refine Nx ?_
   refine W_true rfl ?_
   refine W_region ?_
   refine Mv ?_
   refine Mv ?_
   refine Mv ?_
   refine Ly (Y_build (v := .agg #[str [115, 105, 122, 101], str (Lib.itoa z)]) (pv := [(0, str [115, 105, 122, 101]), (1, str (Lib.itoa z))]) (evp (is := [0, 1]) (os := [.tmp 76, .tmp 77]) (vs := [str [115, 105, 122, 101], str (Lib.itoa z)]) rfl rfl) (fun _ => by kernel_rfl)) ?_
   refine L_mks (M_litr (S := recS) (l := [⟨[115, 105, 122, 101], Lib.itoa z⟩]) (cells := [str [115, 105, 122, 101], str (Lib.itoa z)]) (pv := [(0, .agg #[str [115, 105, 122, 101], str (Lib.itoa z)])]) (E := 89) (evp (is := [0]) (os := [.tmp 78]) (vs := [.agg #[str [115, 105, 122, 101], str (Lib.itoa z)]]) rfl rfl) rfl rfl (fun _ => by kernel_rfl) (by simp only [List.mem_cons, List.not_mem_nil, or_false, forall_eq_or_imp, forall_eq]; exact trivial)) rfl rfl rfl ?_
   rintro v97 h43 ⟨ho98, hx99⟩
   refine L_mks (M_appr0 nsRec (z := 2) (bytes := 32) (z0 := (.agg #[str [], str []])) Tryz.underlying58 (by unfold elemRow; kernel_rfl) rfl rfl (by decide) rfl rfl (ha94.own.ext hx99) ho98.rows (Nat.le_trans ha94.only.size hx99.size) (by first | (simp; done) | (simp; omega))) rfl rfl rfl ?_
   rintro v100 h44 ha101
   refine Av ?_
   refine L_nil (X_block (X_then (W_region ?_)))
   refine Ly (Y_addl (r := 3) rfl rfl (by decide) (by decide) (by decide)) ?_
   refine Mv ?_
   refine L_nil ?_
   refine X_round ?_
   refine Wr ?_
   refine Ly (Y_lss rfl rfl) ?_
   refine L_nil (X_then (W_seq ?_))
   refine W_known false rfl (by exact decide_eq_false (by decide)) ?_
   refine W_exit ?_
   refine X_then_exit (X_then_exit ?_)
   refine X_block_hit ?_
   refine X_then ?_
   refine W_sub _ (tk5 9 6 4 3 2) ?_
   refine Wr ?_
   have me68 := Nat.le_trans (Nat.le_trans hp20.only.size hx22.size) hx24.size
   have me69 := Nat.le_trans (Nat.le_trans me68 hp26.only.size) hp28.only.size
   have me70 := Nat.le_trans (Nat.le_trans (Nat.le_trans me69 hx82.size) hx83.size) hx88.size
   have hc102 := (((((((hk29.ext hx82).only hx83 (ni_lt (Nat.lt_of_lt_of_le q4_1.lt hp20.only.size))).ext hx88).ext hx92).only ha94.only (by simp [blockOf])).ext hx99).only ha101.only (fun hb_ => Nat.lt_irrefl _ (Nat.lt_of_lt_of_le (Nat.lt_of_lt_of_le q4_1.lt (Nat.le_trans me70 hx92.size)) (ha101.ge _ hb_))))
   refine Ly (Y_ldbox (us := [.int .u8 (byt ([53, 48, 50, 49] : List UInt8) (k).toNat), str (snam p), str (spre p), str [], .int .i64 (m), .int .i64 0]) Tryz.underlying57 rfl (show _ = some 6 by kernel_rfl) rfl hc102 rfl) ?_
   refine Mv ?_
   have me71 := Nat.le_trans (Nat.le_trans hx5.size hx19.size) hp20.only.size
   have me72 := (hx5.trans hx19).then' hp20.only (by simp) (Nat.le_trans hx5.size q4_1l)
   have me73 := ((me72.trans hx22).then' hx24 (by simp) me71).then' hp26.only (by simp) (Nat.le_trans hx5.size q4_1l)
   have me74 := me73.then' hp28.only (by simp) (Nat.le_trans hx5.size q4_1l)
   have me75 := (((me74.trans hx82).then' hx83 (by simp) me71).trans hx88).trans hx92
   have me76 := Nat.le_trans (Nat.le_trans (Nat.le_trans me71 hx22.size) hx24.size) hp26.only.size
   have me77 := Nat.le_trans (Nat.le_trans (Nat.le_trans me76 hp28.only.size) hx82.size) hx83.size
   have me78 := me75.then' ha94.only ha94.ge (Nat.le_trans (Nat.le_trans me77 hx88.size) hx92.size)
   have me79 := (me78.trans hx99).then' ha101.only ha101.ge (Nat.le_trans (Nat.le_trans me77 hx88.size) hx92.size)
   refine L_dos (D_store (us := [.int .u8 (byt ([53, 48, 50, 49] : List UInt8) (k).toNat), str (snam p), str (spre p), str [], .int .i64 (m), .int .i64 0]) (show _ = some 6 by kernel_rfl) rfl rfl rfl (by simp [Value.oneCell']) (hk4.ext me79) (by simp)) rfl rfl ?_
   rintro h45 hp103
   have hk104 : Blk h45 h1.size [.int .u8 (byt ([53, 48, 50, 49] : List UInt8) (k).toNat), str (snam p), str (spre p), str [], .int .i64 (m), .int .i64 0] := hp103.blk
   refine Av ?_
   refine Av ?_
   refine Nx ?_
   refine W_sub _ (tk3 4 3 2) ?_
   refine W_ret ?_
   refine X_retv3 rfl (RV.agg rfl Tryz.underlying57 rfl (show _ = some 6 by kernel_rfl) hk104) rfl rfl ?_
   have c2x : sok p = true := by simpa using c2
   have c1x : 100 < tg.length := by omega
   have me80 := Nat.le_trans (Nat.le_trans (Nat.le_trans me62 hx19.size) hp20.only.size) hx22.size
   have me81 := Nat.le_trans (Nat.le_trans (Nat.le_trans me80 hx24.size) hp26.only.size) hp28.only.size
   have me82 := Nat.le_trans (Nat.le_trans (Nat.le_trans me81 hx82.size) hx83.size) hx88.size
   have me83 := ((me66.trans hx88).trans hx92).then' ha94.only ha94.ge (Nat.le_trans me82 hx92.size)
   have me84 := (me83.trans hx99).then' ha101.only ha101.ge (Nat.le_trans me82 hx92.size)
   refine ⟨v100, ?_, ?_, (me84.then' hp103.only (by simp) hn1.ext.size)⟩
   ·rw [e0, fT, fN, fP, fL, fM, fZ, if_pos rfl, if_pos rfl, if_pos rfl, if_pos rfl, if_pos rfl, if_pos rfl, if_pos c1x, if_pos c3]; rfl
   rw [e0, fR, if_pos rfl]; exact RowsO.congr (((ha101.own.only1 nsRec hp103.only (Nat.lt_of_lt_of_le hk4.lt (Nat.le_trans (Nat.le_trans me77 hx88.size) hx92.size)))).low (Nat.le_trans me82 hx92.size)) (by simp [frecs, c1x, c2x, c3, itoa_pos (show (0 : Int) ≤ z by omega)])
  refine W_region ?_
  refine Ly (Y_fieldAddr (off := 4) (by kernel_rfl) rfl rfl) ?_
  refine Ly (Y_ldblk Tryz.underlying2 rfl rfl (hk2.ext me61) rfl) ?_
  refine Ly (Y_fieldAddr (off := 5) (by kernel_rfl) rfl rfl) ?_
  refine L_dos (D_store (us := [.int .i64 (z)]) (show _ = some 1 by kernel_rfl) rfl rfl rfl (by simp [Value.oneCell']) hk29 (by simp)) rfl rfl ?_
  rintro h46 hp105
  have hk106 : Blk h46 r4_1 [.int .u8 (byt ([53, 48, 50, 49] : List UInt8) (k).toNat), str (snam p), str (spre p), str [], .int .i64 (m), .int .i64 (z)] := hp105.blk
  refine Nx ?_
  refine W_sub _ (tk5 7 6 4 3 2) ?_
  refine Wr ?_
  refine Av ?_
  refine L_nil (X_then (W_seq (W_seq (W_region ?_))))
  have me85 := Nat.le_trans (Nat.le_trans hn1.ext.size hn3.ext.size) hx5.size
  have me86 := (((hn1.ext.trans hn3.ext).trans hx5).trans hx19).then' hp20.only (by simp) (Nat.le_trans me85 q4_1l)
  have me87 := (me86.trans hx22).then' hx24 (by simp) (Nat.le_trans (Nat.le_trans me85 hx19.size) hp20.only.size)
  have me88 := (me87.then' hp26.only (by simp) (Nat.le_trans me85 q4_1l)).then' hp28.only (by simp) (Nat.le_trans me85 q4_1l)
  refine L_call (E_call (by kernel_rfl) rfl) (rec_Keys _ (hK.ext (me88.then' hp105.only (by simp) (Nat.le_trans me85 q4_1l)))) rfl rfl rfl ?_
  rintro s0107 h47 ⟨_, rfl, hr0108, hx109⟩
  refine Ly (Y_lenr Tryz.underlying86 rfl hr0108) ?_
  refine Mv ?_
  refine L_nil (X_then (W_block ?_))
  refine W_rounds 4 ?_
  refine Wr ?_
  refine Ly (Y_lss rfl rfl) ?_
  refine L_nil (X_then (W_seq ?_))
  refine W_known true rfl (by exact decide_eq_true (by decide)) ?_
  refine W_skip (X_then (W_seq (W_block (W_seq (W_region ?_)))))
  refine Ly (Y_idxr Tryz.underlying86 (show _ = some 1 by kernel_rfl) rfl rfl rfl hr0108 (by first | omega | (simp; done) | (simp; omega)) (by first | omega | (simp; done) | (simp; omega))) ?_
  refine Ly (Y_ldr0 (k := 0) Tryz.underlying9 rfl rfl rfl hr0108 (by first | omega | (simp; done) | (simp; omega)) rfl) ?_
  refine Av ?_
  refine L_nil (X_then (W_seq (W_region ?_)))
  refine Mv ?_
  refine Mv ?_
  have hg110 : mget (mset ([] : List (List UInt8 × Value)) [108, 105, 110, 107, 112, 97, 116, 104] (str tg)) [108, 105, 110, 107, 112, 97, 116, 104] = some (str tg) := by rfl
  have hc111 := ((((hb25.only hp26.only (ni_gt (Nat.lt_of_lt_of_le q4_1.lt hp20.only.size))).only hp28.only (ni_gt (Nat.lt_of_lt_of_le q4_1.lt hp20.only.size))).only hp105.only (ni_gt (Nat.lt_of_lt_of_le q4_1.lt hp20.only.size))).ext hx109)
  refine Ly (Y_look2s keyS Tryz.underlying82 Tryz.underlying9 (u := (str [])) (by kernel_rfl) rfl rfl hc111 hg110) ?_
  refine Mv ?_
  refine Ly (Y_extract (v := str tg) rfl rfl) ?_
  refine Ly (Y_extract (v := .bool true) rfl rfl) ?_
  refine Av ?_
  refine Av ?_
  refine L_nil (X_then (W_seq (W_region ?_)))
  refine Mv ?_
  refine Nx ?_
  refine W_true rfl ?_
  refine W_region ?_
  refine Mv ?_
  refine Mv ?_
  refine Mv ?_
  refine Ly (Y_build (v := .agg #[str [108, 105, 110, 107, 112, 97, 116, 104], str tg]) (pv := [(0, str [108, 105, 110, 107, 112, 97, 116, 104]), (1, str tg)]) (evp (is := [0, 1]) (os := [.tmp 76, .tmp 77]) (vs := [str [108, 105, 110, 107, 112, 97, 116, 104], str tg]) rfl rfl) (fun _ => by kernel_rfl)) ?_
  refine L_mks (M_litr (S := recS) (l := [⟨[108, 105, 110, 107, 112, 97, 116, 104], tg⟩]) (cells := [str [108, 105, 110, 107, 112, 97, 116, 104], str tg]) (pv := [(0, .agg #[str [108, 105, 110, 107, 112, 97, 116, 104], str tg])]) (E := 89) (evp (is := [0]) (os := [.tmp 78]) (vs := [.agg #[str [108, 105, 110, 107, 112, 97, 116, 104], str tg]]) rfl rfl) rfl rfl (fun _ => by kernel_rfl) (by simp only [List.mem_cons, List.not_mem_nil, or_false, forall_eq_or_imp, forall_eq]; exact trivial)) rfl rfl rfl ?_
  rintro v112 h48 ⟨ho113, hx114⟩
  refine L_mks (M_appr0 nsRec (z := 2) (bytes := 32) (z0 := (.agg #[str [], str []])) Tryz.underlying58 (by unfold elemRow; kernel_rfl) rfl rfl (by decide) rfl rfl (RowsO.nil recS _ h48.size) ho113.rows (Nat.le_refl _) (by first | (simp; done) | (simp; omega))) rfl rfl rfl ?_
  rintro v115 h49 ha116
  refine Av ?_
  refine L_nil (X_block (X_then (W_region ?_)))
  refine Ly (Y_addl (r := 1) rfl rfl (by decide) (by decide) (by decide)) ?_
  refine Mv ?_
  refine L_nil ?_
  refine X_round ?_
  refine Wr ?_
  refine Ly (Y_lss rfl rfl) ?_
  refine L_nil (X_then (W_seq ?_))
  refine W_known true rfl (by exact decide_eq_true (by decide)) ?_
  refine W_skip (X_then (W_seq (W_block (W_seq (W_region ?_)))))
  refine Ly (Y_idxr Tryz.underlying86 (show _ = some 1 by kernel_rfl) rfl rfl rfl (hr0108.ext (hx114.then' ha116.only ha116.ge hx114.size)) (by first | omega | (simp; done) | (simp; omega)) (by first | omega | (simp; done) | (simp; omega))) ?_
  refine Ly (Y_ldr0 (k := 1) Tryz.underlying9 rfl rfl rfl (hr0108.ext (hx114.then' ha116.only ha116.ge hx114.size)) (by first | omega | (simp; done) | (simp; omega)) rfl) ?_
  refine Av ?_
  refine L_nil (X_then (W_seq (W_region ?_)))
  refine Mv ?_
  refine Mv ?_
  have hg117 : mget (mset ([] : List (List UInt8 × Value)) [108, 105, 110, 107, 112, 97, 116, 104] (str tg)) [112, 97, 116, 104] = none := by rfl
  refine Ly (Y_look2n keyS Tryz.underlying82 Tryz.underlying9 (u := (str [])) (by kernel_rfl) rfl rfl (hc111.ext (hx114.then' ha116.only ha116.ge hx114.size)) hg117) ?_
  refine Mv ?_
  refine Ly (Y_extract (v := str []) rfl rfl) ?_
  refine Ly (Y_extract (v := .bool false) rfl rfl) ?_
  refine Av ?_
  refine Av ?_
  refine L_nil (X_then (W_seq (W_region ?_)))
  refine Mv ?_
  refine Nx ?_
  refine W_false rfl ?_
  refine W_skip (X_block (X_then (W_region ?_)))
  refine Ly (Y_addl (r := 2) rfl rfl (by decide) (by decide) (by decide)) ?_
  refine Mv ?_
  refine L_nil ?_
  refine X_round ?_
  refine Wr ?_
  refine Ly (Y_lss rfl rfl) ?_
  refine L_nil (X_then (W_seq ?_))
  refine W_known true rfl (by exact decide_eq_true (by decide)) ?_
  refine W_skip (X_then (W_seq (W_block (W_seq (W_region ?_)))))
  refine Ly (Y_idxr Tryz.underlying86 (show _ = some 1 by kernel_rfl) rfl rfl rfl (hr0108.ext (hx114.then' ha116.only ha116.ge hx114.size)) (by first | omega | (simp; done) | (simp; omega)) (by first | omega | (simp; done) | (simp; omega))) ?_
  refine Ly (Y_ldr0 (k := 2) Tryz.underlying9 rfl rfl rfl (hr0108.ext (hx114.then' ha116.only ha116.ge hx114.size)) (by first | omega | (simp; done) | (simp; omega)) rfl) ?_
  refine Av ?_
  refine L_nil (X_then (W_seq (W_region ?_)))
  refine Mv ?_
  refine Mv ?_
  have hg118 : mget (mset ([] : List (List UInt8 × Value)) [108, 105, 110, 107, 112, 97, 116, 104] (str tg)) [115, 105, 122, 101] = none := by rfl
  refine Ly (Y_look2n keyS Tryz.underlying82 Tryz.underlying9 (u := (str [])) (by kernel_rfl) rfl rfl (hc111.ext (hx114.then' ha116.only ha116.ge hx114.size)) hg118) ?_
  refine Mv ?_
  refine Ly (Y_extract (v := str []) rfl rfl) ?_
  refine Ly (Y_extract (v := .bool false) rfl rfl) ?_
  refine Av ?_
  refine Av ?_
  refine L_nil (X_then (W_seq (W_region ?_)))
  refine Mv ?_
  refine Nx ?_
  refine W_false rfl ?_
  refine W_skip (X_block (X_then (W_region ?_)))
  refine Ly (Y_addl (r := 3) rfl rfl (by decide) (by decide) (by decide)) ?_
  refine Mv ?_
  refine L_nil ?_
  refine X_round ?_
  refine Wr ?_
  refine Ly (Y_lss rfl rfl) ?_
  refine L_nil (X_then (W_seq ?_))
  refine W_known false rfl (by exact decide_eq_false (by decide)) ?_
  refine W_exit ?_
  refine X_then_exit (X_then_exit ?_)
  refine X_block_hit ?_
  refine X_then ?_
  refine W_sub _ (tk5 9 6 4 3 2) ?_
  refine Wr ?_
  have me89 := (hx109.trans hx114).then' ha116.only ha116.ge (Nat.le_trans hx109.size hx114.size)
  refine Ly (Y_ldbox (us := [.int .u8 (byt ([53, 48, 50, 49] : List UInt8) (k).toNat), str (snam p), str (spre p), str [], .int .i64 (m), .int .i64 (z)]) Tryz.underlying57 rfl (show _ = some 6 by kernel_rfl) rfl (hk106.ext me89) rfl) ?_
  refine Mv ?_
  have me90 := Nat.le_trans (Nat.le_trans hx5.size hx19.size) hp20.only.size
  have me91 := (hx5.trans hx19).then' hp20.only (by simp) (Nat.le_trans hx5.size q4_1l)
  have me92 := ((me91.trans hx22).then' hx24 (by simp) me90).then' hp26.only (by simp) (Nat.le_trans hx5.size q4_1l)
  have me93 := me92.then' hp28.only (by simp) (Nat.le_trans hx5.size q4_1l)
  have me94 := me93.then' hp105.only (by simp) (Nat.le_trans hx5.size q4_1l)
  have me95 := Nat.le_trans (Nat.le_trans (Nat.le_trans me90 hx22.size) hx24.size) hp26.only.size
  have me96 := Nat.le_trans (Nat.le_trans me95 hp28.only.size) hp105.only.size
  have me97 := ((me94.trans hx109).trans hx114).then' ha116.only ha116.ge (Nat.le_trans (Nat.le_trans me96 hx109.size) hx114.size)
  refine L_dos (D_store (us := [.int .u8 (byt ([53, 48, 50, 49] : List UInt8) (k).toNat), str (snam p), str (spre p), str [], .int .i64 (m), .int .i64 (z)]) (show _ = some 6 by kernel_rfl) rfl rfl rfl (by simp [Value.oneCell']) (hk4.ext me97) (by simp)) rfl rfl ?_
  rintro h50 hp119
  have hk120 : Blk h50 h1.size [.int .u8 (byt ([53, 48, 50, 49] : List UInt8) (k).toNat), str (snam p), str (spre p), str [], .int .i64 (m), .int .i64 (z)] := hp119.blk
  refine Av ?_
  refine Av ?_
  refine Nx ?_
  refine W_sub _ (tk3 4 3 2) ?_
  refine W_ret ?_
  refine X_retv3 rfl (RV.agg rfl Tryz.underlying57 rfl (show _ = some 6 by kernel_rfl) hk120) rfl rfl ?_
  have c2x : sok p = true := by simpa using c2
  have c1x : 100 < tg.length := by omega
  have me98 := (me88.then' hp105.only (by simp) (Nat.le_trans me85 q4_1l)).trans hx109
  have me99 := Nat.le_trans (Nat.le_trans (Nat.le_trans me85 hx19.size) hp20.only.size) hx22.size
  have me100 := Nat.le_trans (Nat.le_trans (Nat.le_trans me99 hx24.size) hp26.only.size) hp28.only.size
  have me101 := Nat.le_trans (Nat.le_trans me100 hp105.only.size) hx109.size
  have me102 := (me98.trans hx114).then' ha116.only ha116.ge (Nat.le_trans me101 hx114.size)
  refine ⟨v115, ?_, ?_, (me102.then' hp119.only (by simp) hn1.ext.size)⟩
  ·rw [e0, fT, fN, fP, fL, fM, fZ, if_pos rfl, if_pos rfl, if_pos rfl, if_pos rfl, if_pos rfl, if_pos rfl, if_pos c1x, if_neg c3]; rfl
  rw [e0, fR, if_pos rfl]; exact RowsO.congr (((ha116.own.only1 nsRec hp119.only (Nat.lt_of_lt_of_le hk4.lt (Nat.le_trans (Nat.le_trans me96 hx109.size) hx114.size)))).low (Nat.le_trans me101 hx114.size)) (by simp [frecs, c1x, c2x, c3])
 refine W_region ?_
 refine Ly (Y_fieldAddr (off := 3) (by kernel_rfl) rfl rfl) ?_
 refine Ly (Y_ldblk Tryz.underlying9 rfl rfl (hk2.ext (me2.trans hx22)) rfl) ?_
 refine Ly (Y_fieldAddr (off := 3) (by kernel_rfl) rfl rfl) ?_
 refine L_dos (D_store (us := [str tg]) (show _ = some 1 by kernel_rfl) rfl rfl rfl (by simp [Value.oneCell']) (hk21.ext hx22) (by simp)) rfl rfl ?_
 rintro h51 hp121
 have hk122 : Blk h51 r4_1 [.int .u8 (byt ([53, 48, 50, 49] : List UInt8) (k).toNat), str [], str [], str tg, .int .i64 (m), .int .i64 0] := hp121.blk
 refine Nx ?_
 refine W_sub _ (tk6 7 6 4 3 2 1) ?_
 refine Wr ?_
 refine Av ?_
 refine L_nil (X_then (W_seq (W_seq (W_region ?_))))
 refine Ly (Y_fieldAddr (off := 1) (by kernel_rfl) rfl rfl) ?_
 have me103 := (me2.trans hx22).then' hp121.only (by simp) (Nat.le_trans (Nat.le_trans hn3.ext.size hx5.size) q4_1l)
 refine Ly (Y_ldblk Tryz.underlying9 rfl rfl (hk2.ext me103) rfl) ?_
 refine L_call (E_call (by kernel_rfl) rfl) (pathname_Split _ p (by first | first | omega | (simp; done) | (simp; omega) | rfl | (simp <;> omega))) rfl rfl rfl ?_
 rintro _ h51 ⟨rfl, rfl⟩
 refine Mv ?_
 refine Ly (Y_extract (v := str (spre p)) rfl rfl) ?_
 refine Ly (Y_extract (v := str (snam p)) rfl rfl) ?_
 refine Ly (Y_extract (v := .bool (sok p)) rfl rfl) ?_
 refine Ly (Y_fieldAddr (off := 2) (by kernel_rfl) rfl rfl) ?_
 refine L_dos (D_store (us := [str (spre p)]) (show _ = some 1 by kernel_rfl) rfl rfl rfl (by simp [Value.oneCell']) hk122 (by simp)) rfl rfl ?_
 rintro h52 hp123
 have hk124 : Blk h52 r4_1 [.int .u8 (byt ([53, 48, 50, 49] : List UInt8) (k).toNat), str [], str (spre p), str tg, .int .i64 (m), .int .i64 0] := hp123.blk
 refine Ly (Y_fieldAddr (off := 1) (by kernel_rfl) rfl rfl) ?_
 refine L_dos (D_store (us := [str (snam p)]) (show _ = some 1 by kernel_rfl) rfl rfl rfl (by simp [Value.oneCell']) hk124 (by simp)) rfl rfl ?_
 rintro h53 hp125
 have hk126 : Blk h53 r4_1 [.int .u8 (byt ([53, 48, 50, 49] : List UInt8) (k).toNat), str (snam p), str (spre p), str tg, .int .i64 (m), .int .i64 0] := hp125.blk
 refine Av ?_
 refine Nx ?_
 refine W_sub _ (tk7 8 7 6 4 3 2 1) ?_
 refine Wr ?_
 refine Mv ?_
 refine Ly (Y_not rfl) ?_
 refine Nx ?_
 refine W_sub _ (tk7 48 7 6 4 3 2 1) ?_
 refine W_split rfl (fun c2 => ?_) (fun c2 => ?_)
 ·refine W_region ?_
  refine Mv ?_
  refine Ly (Y_fieldAddr (off := 1) (by kernel_rfl) rfl rfl) ?_
  have me104 := me103.then' hp123.only (by simp) (Nat.le_trans (Nat.le_trans hn3.ext.size hx5.size) q4_1l)
  have me105 := me104.then' hp125.only (by simp) (Nat.le_trans (Nat.le_trans hn3.ext.size hx5.size) q4_1l)
  refine Ly (Y_ldblk Tryz.underlying9 rfl rfl (hk2.ext me105) rfl) ?_
  have hc129 := (((hb23.only hp121.only (ni_gt (Nat.lt_of_lt_of_le q4_1.lt hp20.only.size))).only hp123.only (ni_gt (Nat.lt_of_lt_of_le q4_1.lt hp20.only.size))).only hp125.only (ni_gt (Nat.lt_of_lt_of_le q4_1.lt hp20.only.size)))
  refine L_dos (D_update keyS Tryz.underlying82 Tryz.underlying9 rfl rfl rfl hc129) rfl rfl ?_
  rintro h54 ⟨hx127, -, hb128⟩
  refine Nx ?_
  refine W_sub _ (tk6 7 6 4 3 2 1) ?_
  refine W_seq (W_seq (W_region ?_))
  refine Ly (Y_fieldAddr (off := 4) (by kernel_rfl) rfl rfl) ?_
  have me106 := Nat.le_trans (Nat.le_trans hn3.ext.size hx5.size) hx19.size
  have me107 := me105.then' hx127 (by simp) (Nat.le_trans me106 hp20.only.size)
  refine Ly (Y_ldblk Tryz.underlying2 rfl rfl (hk2.ext me107) rfl) ?_
  refine Ly (Y_gtr rfl rfl) ?_
  refine Nx ?_
  refine W_sub _ (tk7 54 7 6 4 3 2 1) ?_
  refine W_splitd rfl (fun c3 => ?_) (fun c3 => ?_)
  ·refine W_region ?_
   refine Mv ?_
   refine Ly (Y_fieldAddr (off := 4) (by kernel_rfl) rfl rfl) ?_
   refine Ly (Y_ldblk Tryz.underlying2 rfl rfl (hk2.ext me107) rfl) ?_
   have me108 := Nat.le_trans (Nat.le_trans hn1.ext.size hn3.ext.size) hx5.size
   have me109 := Nat.le_trans (Nat.le_trans me108 hx19.size) hp20.only.size
   have me110 := (((hn1.ext.trans hn3.ext).trans hx5).trans hx19).then' hp20.only (by simp) (Nat.le_trans me108 q4_1l)
   have me111 := (me110.trans hx22).then' hp121.only (by simp) (Nat.le_trans me108 q4_1l)
   have me112 := me111.then' hp123.only (by simp) (Nat.le_trans me108 q4_1l)
   have me113 := me112.then' hp125.only (by simp) (Nat.le_trans me108 q4_1l)
   refine L_call (E_call (by kernel_rfl) rfl) (strconv_FormatInt _ (hN.ext (me113.then' hx127 (by simp) me109)) z (by first | first | omega | (simp; done) | (simp; omega) | rfl | (simp <;> omega))) rfl rfl rfl ?_
   rintro _ h55 ⟨rfl, hx130⟩
   refine L_dos (D_update keyS Tryz.underlying82 Tryz.underlying9 rfl rfl rfl (hb128.ext hx130)) rfl rfl ?_
   rintro h56 ⟨hx131, -, hb132⟩
   refine Nx ?_
   refine W_sub _ (tk5 7 6 4 3 2) ?_
   refine Wr ?_
   refine Av ?_
   refine L_nil (X_then (W_seq (W_seq (W_region ?_))))
   have me114 := ((me113.then' hx127 (by simp) me109).trans hx130).then' hx131 (by simp) me109
   refine L_call (E_call (by kernel_rfl) rfl) (rec_Keys _ (hK.ext me114)) rfl rfl rfl ?_
   rintro s0133 h57 ⟨_, rfl, hr0134, hx135⟩
   refine Ly (Y_lenr Tryz.underlying86 rfl hr0134) ?_
   refine Mv ?_
   refine L_nil (X_then (W_block ?_))
   refine W_rounds 4 ?_
   refine Wr ?_
   refine Ly (Y_lss rfl rfl) ?_
   refine L_nil (X_then (W_seq ?_))
   refine W_known true rfl (by exact decide_eq_true (by decide)) ?_
   refine W_skip (X_then (W_seq (W_block (W_seq (W_region ?_)))))
   refine Ly (Y_idxr Tryz.underlying86 (show _ = some 1 by kernel_rfl) rfl rfl rfl hr0134 (by first | omega | (simp; done) | (simp; omega)) (by first | omega | (simp; done) | (simp; omega))) ?_
   refine Ly (Y_ldr0 (k := 0) Tryz.underlying9 rfl rfl rfl hr0134 (by first | omega | (simp; done) | (simp; omega)) rfl) ?_
   refine Av ?_
   refine L_nil (X_then (W_seq (W_region ?_)))
   refine Mv ?_
   refine Mv ?_
   have hg136 : mget (mset (mset ([] : List (List UInt8 × Value)) [112, 97, 116, 104] (str p)) [115, 105, 122, 101] (str (Lib.itoa z))) [108, 105, 110, 107, 112, 97, 116, 104] = none := by rfl
   refine Ly (Y_look2n keyS Tryz.underlying82 Tryz.underlying9 (u := (str [])) (by kernel_rfl) rfl rfl (hb132.ext hx135) hg136) ?_
   refine Mv ?_
   refine Ly (Y_extract (v := str []) rfl rfl) ?_
   refine Ly (Y_extract (v := .bool false) rfl rfl) ?_
   refine Av ?_
   refine Av ?_
   refine L_nil (X_then (W_seq (W_region ?_)))
   refine Mv ?_
   refine Nx ?_
   refine W_false rfl ?_
   refine W_skip (X_block (X_then (W_region ?_)))
   refine Ly (Y_addl (r := 1) rfl rfl (by decide) (by decide) (by decide)) ?_
   refine Mv ?_
   refine L_nil ?_
   refine X_round ?_
   refine Wr ?_
   refine Ly (Y_lss rfl rfl) ?_
   refine L_nil (X_then (W_seq ?_))
   refine W_known true rfl (by exact decide_eq_true (by decide)) ?_
   refine W_skip (X_then (W_seq (W_block (W_seq (W_region ?_)))))
   refine Ly (Y_idxr Tryz.underlying86 (show _ = some 1 by kernel_rfl) rfl rfl rfl hr0134 (by first | omega | (simp; done) | (simp; omega)) (by first | omega | (simp; done) | (simp; omega))) ?_
   refine Ly (Y_ldr0 (k := 1) Tryz.underlying9 rfl rfl rfl hr0134 (by first | omega | (simp; done) | (simp; omega)) rfl) ?_
   refine Av ?_
   refine L_nil (X_then (W_seq (W_region ?_)))
   refine Mv ?_
   refine Mv ?_
   have hg137 : mget (mset (mset ([] : List (List UInt8 × Value)) [112, 97, 116, 104] (str p)) [115, 105, 122, 101] (str (Lib.itoa z))) [112, 97, 116, 104] = some (str p) := by rfl
   refine Ly (Y_look2s keyS Tryz.underlying82 Tryz.underlying9 (u := (str [])) (by kernel_rfl) rfl rfl (hb132.ext hx135) hg137) ?_
   refine Mv ?_
   refine Ly (Y_extract (v := str p) rfl rfl) ?_
   refine Ly (Y_extract (v := .bool true) rfl rfl) ?_
   refine Av ?_
   refine Av ?_
   refine L_nil (X_then (W_seq (W_region ?_)))
   refine Mv ?_
   refine Nx ?_
   refine W_true rfl ?_
   refine W_region ?_
   refine Mv ?_
   refine Mv ?_
   refine Mv ?_
   refine Ly (Y_build (v := .agg #[str [112, 97, 116, 104], str p]) (pv := [(0, str [112, 97, 116, 104]), (1, str p)]) (evp (is := [0, 1]) (os := [.tmp 76, .tmp 77]) (vs := [str [112, 97, 116, 104], str p]) rfl rfl) (fun _ => by kernel_rfl)) ?_
   refine L_mks (M_litr (S := recS) (l := [⟨[112, 97, 116, 104], p⟩]) (cells := [str [112, 97, 116, 104], str p]) (pv := [(0, .agg #[str [112, 97, 116, 104], str p])]) (E := 89) (evp (is := [0]) (os := [.tmp 78]) (vs := [.agg #[str [112, 97, 116, 104], str p]]) rfl rfl) rfl rfl (fun _ => by kernel_rfl) (by simp only [List.mem_cons, List.not_mem_nil, or_false, forall_eq_or_imp, forall_eq]; exact trivial)) rfl rfl rfl ?_
   rintro v138 h58 ⟨ho139, hx140⟩
   refine L_mks (M_appr0 nsRec (z := 2) (bytes := 32) (z0 := (.agg #[str [], str []])) Tryz.underlying58 (by unfold elemRow; kernel_rfl) rfl rfl (by decide) rfl rfl (RowsO.nil recS _ h58.size) ho139.rows (Nat.le_refl _) (by first | (simp; done) | (simp; omega))) rfl rfl rfl ?_
   rintro v141 h59 ha142
   refine Av ?_
   refine L_nil (X_block (X_then (W_region ?_)))
   refine Ly (Y_addl (r := 2) rfl rfl (by decide) (by decide) (by decide)) ?_
   refine Mv ?_
   refine L_nil ?_
   refine X_round ?_
   refine Wr ?_
   refine Ly (Y_lss rfl rfl) ?_
   refine L_nil (X_then (W_seq ?_))
   refine W_known true rfl (by exact decide_eq_true (by decide)) ?_
   refine W_skip (X_then (W_seq (W_block (W_seq (W_region ?_)))))
   refine Ly (Y_idxr Tryz.underlying86 (show _ = some 1 by kernel_rfl) rfl rfl rfl (hr0134.ext (hx140.then' ha142.only ha142.ge hx140.size)) (by first | omega | (simp; done) | (simp; omega)) (by first | omega | (simp; done) | (simp; omega))) ?_
   refine Ly (Y_ldr0 (k := 2) Tryz.underlying9 rfl rfl rfl (hr0134.ext (hx140.then' ha142.only ha142.ge hx140.size)) (by first | omega | (simp; done) | (simp; omega)) rfl) ?_
   refine Av ?_
   refine L_nil (X_then (W_seq (W_region ?_)))
   refine Mv ?_
   refine Mv ?_
   have hg143 : mget (mset (mset ([] : List (List UInt8 × Value)) [112, 97, 116, 104] (str p)) [115, 105, 122, 101] (str (Lib.itoa z))) [115, 105, 122, 101] = some (str (Lib.itoa z)) := by rfl
   have me115 := (hx135.trans hx140).then' ha142.only ha142.ge (Nat.le_trans hx135.size hx140.size)
   refine Ly (Y_look2s keyS Tryz.underlying82 Tryz.underlying9 (u := (str [])) (by kernel_rfl) rfl rfl (hb132.ext me115) hg143) ?_
   refine Mv ?_
   refine Ly (Y_extract (v := str (Lib.itoa z)) rfl rfl) ?_
   refine Ly (Y_extract (v := .bool true) rfl rfl) ?_
   refine Av ?_
   refine Av ?_
   refine L_nil (X_then (W_seq (W_region ?_)))
   refine Mv ?_
   refine Nx ?_
   refine W_true rfl ?_
   refine W_region ?_
   refine Mv ?_
   refine Mv ?_
   refine Mv ?_
   refine Ly (Y_build (v := .agg #[str [115, 105, 122, 101], str (Lib.itoa z)]) (pv := [(0, str [115, 105, 122, 101]), (1, str (Lib.itoa z))]) (evp (is := [0, 1]) (os := [.tmp 76, .tmp 77]) (vs := [str [115, 105, 122, 101], str (Lib.itoa z)]) rfl rfl) (fun _ => by kernel_rfl)) ?_
   refine L_mks (M_litr (S := recS) (l := [⟨[115, 105, 122, 101], Lib.itoa z⟩]) (cells := [str [115, 105, 122, 101], str (Lib.itoa z)]) (pv := [(0, .agg #[str [115, 105, 122, 101], str (Lib.itoa z)])]) (E := 89) (evp (is := [0]) (os := [.tmp 78]) (vs := [.agg #[str [115, 105, 122, 101], str (Lib.itoa z)]]) rfl rfl) rfl rfl (fun _ => by kernel_rfl) (by simp only [List.mem_cons, List.not_mem_nil, or_false, forall_eq_or_imp, forall_eq]; exact trivial)) rfl rfl rfl ?_
   rintro v144 h60 ⟨ho145, hx146⟩
   refine L_mks (M_appr0 nsRec (z := 2) (bytes := 32) (z0 := (.agg #[str [], str []])) Tryz.underlying58 (by unfold elemRow; kernel_rfl) rfl rfl (by decide) rfl rfl (ha142.own.ext hx146) ho145.rows (Nat.le_trans ha142.only.size hx146.size) (by first | (simp; done) | (simp; omega))) rfl rfl rfl ?_
   rintro v147 h61 ha148
   refine Av ?_
   refine L_nil (X_block (X_then (W_region ?_)))
   refine Ly (Y_addl (r := 3) rfl rfl (by decide) (by decide) (by decide)) ?_
   refine Mv ?_
   refine L_nil ?_
   refine X_round ?_
   refine Wr ?_
   refine Ly (Y_lss rfl rfl) ?_
   refine L_nil (X_then (W_seq ?_))
   refine W_known false rfl (by exact decide_eq_false (by decide)) ?_
   refine W_exit ?_
   refine X_then_exit (X_then_exit ?_)
   refine X_block_hit ?_
   refine X_then ?_
   refine W_sub _ (tk5 9 6 4 3 2) ?_
   refine Wr ?_
   have me116 := Nat.le_trans (Nat.le_trans hp20.only.size hx22.size) hp121.only.size
   have me117 := Nat.le_trans (Nat.le_trans me116 hp123.only.size) hp125.only.size
   have me118 := Nat.le_trans (Nat.le_trans (Nat.le_trans me117 hx127.size) hx130.size) hx131.size
   have hc149 := ((((((((hk126.only hx127 (ni_lt (Nat.lt_of_lt_of_le q4_1.lt hp20.only.size))).ext hx130).only hx131 (ni_lt (Nat.lt_of_lt_of_le q4_1.lt hp20.only.size))).ext hx135).ext hx140).only ha142.only (by simp [blockOf])).ext hx146).only ha148.only (fun hb_ => Nat.lt_irrefl _ (Nat.lt_of_lt_of_le (Nat.lt_of_lt_of_le q4_1.lt (Nat.le_trans (Nat.le_trans me118 hx135.size) hx140.size)) (ha148.ge _ hb_))))
   refine Ly (Y_ldbox (us := [.int .u8 (byt ([53, 48, 50, 49] : List UInt8) (k).toNat), str (snam p), str (spre p), str tg, .int .i64 (m), .int .i64 0]) Tryz.underlying57 rfl (show _ = some 6 by kernel_rfl) rfl hc149 rfl) ?_
   refine Mv ?_
   have me119 := Nat.le_trans (Nat.le_trans hx5.size hx19.size) hp20.only.size
   have me120 := (hx5.trans hx19).then' hp20.only (by simp) (Nat.le_trans hx5.size q4_1l)
   have me121 := (me120.trans hx22).then' hp121.only (by simp) (Nat.le_trans hx5.size q4_1l)
   have me122 := me121.then' hp123.only (by simp) (Nat.le_trans hx5.size q4_1l)
   have me123 := me122.then' hp125.only (by simp) (Nat.le_trans hx5.size q4_1l)
   have me124 := ((me123.then' hx127 (by simp) me119).trans hx130).then' hx131 (by simp) me119
   have me125 := Nat.le_trans (Nat.le_trans me119 hx22.size) hp121.only.size
   have me126 := Nat.le_trans (Nat.le_trans me125 hp123.only.size) hp125.only.size
   have me127 := Nat.le_trans (Nat.le_trans (Nat.le_trans me126 hx127.size) hx130.size) hx131.size
   have me128 := ((me124.trans hx135).trans hx140).then' ha142.only ha142.ge (Nat.le_trans (Nat.le_trans me127 hx135.size) hx140.size)
   have me129 := (me128.trans hx146).then' ha148.only ha148.ge (Nat.le_trans (Nat.le_trans me127 hx135.size) hx140.size)
   refine L_dos (D_store (us := [.int .u8 (byt ([53, 48, 50, 49] : List UInt8) (k).toNat), str (snam p), str (spre p), str tg, .int .i64 (m), .int .i64 0]) (show _ = some 6 by kernel_rfl) rfl rfl rfl (by simp [Value.oneCell']) (hk4.ext me129) (by simp)) rfl rfl ?_
   rintro h62 hp150
   have hk151 : Blk h62 h1.size [.int .u8 (byt ([53, 48, 50, 49] : List UInt8) (k).toNat), str (snam p), str (spre p), str tg, .int .i64 (m), .int .i64 0] := hp150.blk
   refine Av ?_
   refine Av ?_
   refine Nx ?_
   refine W_sub _ (tk3 4 3 2) ?_
   refine W_ret ?_
   refine X_retv3 rfl (RV.agg rfl Tryz.underlying57 rfl (show _ = some 6 by kernel_rfl) hk151) rfl rfl ?_
   have c2x : sok p = false := by simpa using c2
   have c1x : ¬ 100 < tg.length := by omega
   have me130 := Nat.le_trans (Nat.le_trans me109 hx22.size) hp121.only.size
   have me131 := Nat.le_trans (Nat.le_trans me130 hp123.only.size) hp125.only.size
   have me132 := Nat.le_trans (Nat.le_trans (Nat.le_trans me131 hx127.size) hx130.size) hx131.size
   have me133 := ((me114.trans hx135).trans hx140).then' ha142.only ha142.ge (Nat.le_trans (Nat.le_trans me132 hx135.size) hx140.size)
   have me134 := (me133.trans hx146).then' ha148.only ha148.ge (Nat.le_trans (Nat.le_trans me132 hx135.size) hx140.size)
   refine ⟨v147, ?_, ?_, (me134.then' hp150.only (by simp) hn1.ext.size)⟩
   ·rw [e0, fT, fN, fP, fL, fM, fZ, if_pos rfl, if_pos rfl, if_pos rfl, if_pos rfl, if_pos rfl, if_pos rfl, if_neg c1x, if_pos c3]; rfl
   rw [e0, fR, if_pos rfl]; exact RowsO.congr (((ha148.own.only1 nsRec hp150.only (Nat.lt_of_lt_of_le hk4.lt (Nat.le_trans (Nat.le_trans me127 hx135.size) hx140.size)))).low (Nat.le_trans (Nat.le_trans me132 hx135.size) hx140.size)) (by simp [frecs, c1x, c2x, c3, itoa_pos (show (0 : Int) ≤ z by omega)])
  refine W_region ?_
  refine Ly (Y_fieldAddr (off := 4) (by kernel_rfl) rfl rfl) ?_
  refine Ly (Y_ldblk Tryz.underlying2 rfl rfl (hk2.ext me107) rfl) ?_
  refine Ly (Y_fieldAddr (off := 5) (by kernel_rfl) rfl rfl) ?_
  have hc154 := (hk126.only hx127 (ni_lt (Nat.lt_of_lt_of_le q4_1.lt hp20.only.size)))
  refine L_dos (D_store (us := [.int .i64 (z)]) (show _ = some 1 by kernel_rfl) rfl rfl rfl (by simp [Value.oneCell']) hc154 (by simp)) rfl rfl ?_
  rintro h63 hp152
  have hk153 : Blk h63 r4_1 [.int .u8 (byt ([53, 48, 50, 49] : List UInt8) (k).toNat), str (snam p), str (spre p), str tg, .int .i64 (m), .int .i64 (z)] := hp152.blk
  refine Nx ?_
  refine W_sub _ (tk5 7 6 4 3 2) ?_
  refine Wr ?_
  refine Av ?_
  refine L_nil (X_then (W_seq (W_seq (W_region ?_))))
  have me135 := Nat.le_trans (Nat.le_trans hn1.ext.size hn3.ext.size) hx5.size
  have me136 := Nat.le_trans (Nat.le_trans me135 hx19.size) hp20.only.size
  have me137 := (((hn1.ext.trans hn3.ext).trans hx5).trans hx19).then' hp20.only (by simp) (Nat.le_trans me135 q4_1l)
  have me138 := (me137.trans hx22).then' hp121.only (by simp) (Nat.le_trans me135 q4_1l)
  have me139 := me138.then' hp123.only (by simp) (Nat.le_trans me135 q4_1l)
  have me140 := me139.then' hp125.only (by simp) (Nat.le_trans me135 q4_1l)
  have me141 := (me140.then' hx127 (by simp) me136).then' hp152.only (by simp) (Nat.le_trans me135 q4_1l)
  refine L_call (E_call (by kernel_rfl) rfl) (rec_Keys _ (hK.ext me141)) rfl rfl rfl ?_
  rintro s0155 h64 ⟨_, rfl, hr0156, hx157⟩
  refine Ly (Y_lenr Tryz.underlying86 rfl hr0156) ?_
  refine Mv ?_
  refine L_nil (X_then (W_block ?_))
  refine W_rounds 4 ?_
  refine Wr ?_
  refine Ly (Y_lss rfl rfl) ?_
  refine L_nil (X_then (W_seq ?_))
  refine W_known true rfl (by exact decide_eq_true (by decide)) ?_
  refine W_skip (X_then (W_seq (W_block (W_seq (W_region ?_)))))
  refine Ly (Y_idxr Tryz.underlying86 (show _ = some 1 by kernel_rfl) rfl rfl rfl hr0156 (by first | omega | (simp; done) | (simp; omega)) (by first | omega | (simp; done) | (simp; omega))) ?_
  refine Ly (Y_ldr0 (k := 0) Tryz.underlying9 rfl rfl rfl hr0156 (by first | omega | (simp; done) | (simp; omega)) rfl) ?_
  refine Av ?_
  refine L_nil (X_then (W_seq (W_region ?_)))
  refine Mv ?_
  refine Mv ?_
  have hg158 : mget (mset ([] : List (List UInt8 × Value)) [112, 97, 116, 104] (str p)) [108, 105, 110, 107, 112, 97, 116, 104] = none := by rfl
  have hc159 := ((hb128.only hp152.only (ni_gt (Nat.lt_of_lt_of_le q4_1.lt hp20.only.size))).ext hx157)
  refine Ly (Y_look2n keyS Tryz.underlying82 Tryz.underlying9 (u := (str [])) (by kernel_rfl) rfl rfl hc159 hg158) ?_
  refine Mv ?_
  refine Ly (Y_extract (v := str []) rfl rfl) ?_
  refine Ly (Y_extract (v := .bool false) rfl rfl) ?_
  refine Av ?_
  refine Av ?_
  refine L_nil (X_then (W_seq (W_region ?_)))
  refine Mv ?_
  refine Nx ?_
  refine W_false rfl ?_
  refine W_skip (X_block (X_then (W_region ?_)))
  refine Ly (Y_addl (r := 1) rfl rfl (by decide) (by decide) (by decide)) ?_
  refine Mv ?_
  refine L_nil ?_
  refine X_round ?_
  refine Wr ?_
  refine Ly (Y_lss rfl rfl) ?_
  refine L_nil (X_then (W_seq ?_))
  refine W_known true rfl (by exact decide_eq_true (by decide)) ?_
  refine W_skip (X_then (W_seq (W_block (W_seq (W_region ?_)))))
  refine Ly (Y_idxr Tryz.underlying86 (show _ = some 1 by kernel_rfl) rfl rfl rfl hr0156 (by first | omega | (simp; done) | (simp; omega)) (by first | omega | (simp; done) | (simp; omega))) ?_
  refine Ly (Y_ldr0 (k := 1) Tryz.underlying9 rfl rfl rfl hr0156 (by first | omega | (simp; done) | (simp; omega)) rfl) ?_
  refine Av ?_
  refine L_nil (X_then (W_seq (W_region ?_)))
  refine Mv ?_
  refine Mv ?_
  have hg160 : mget (mset ([] : List (List UInt8 × Value)) [112, 97, 116, 104] (str p)) [112, 97, 116, 104] = some (str p) := by rfl
  refine Ly (Y_look2s keyS Tryz.underlying82 Tryz.underlying9 (u := (str [])) (by kernel_rfl) rfl rfl hc159 hg160) ?_
  refine Mv ?_
  refine Ly (Y_extract (v := str p) rfl rfl) ?_
  refine Ly (Y_extract (v := .bool true) rfl rfl) ?_
  refine Av ?_
  refine Av ?_
  refine L_nil (X_then (W_seq (W_region ?_)))
  refine Mv ?_
  refine Nx ?_
  refine W_true rfl ?_
  refine W_region ?_
  refine Mv ?_
  refine Mv ?_
  refine Mv ?_
  refine Ly (Y_build (v := .agg #[str [112, 97, 116, 104], str p]) (pv := [(0, str [112, 97, 116, 104]), (1, str p)]) (evp (is := [0, 1]) (os := [.tmp 76, .tmp 77]) (vs := [str [112, 97, 116, 104], str p]) rfl rfl) (fun _ => by kernel_rfl)) ?_
  refine L_mks (M_litr (S := recS) (l := [⟨[112, 97, 116, 104], p⟩]) (cells := [str [112, 97, 116, 104], str p]) (pv := [(0, .agg #[str [112, 97, 116, 104], str p])]) (E := 89) (evp (is := [0]) (os := [.tmp 78]) (vs := [.agg #[str [112, 97, 116, 104], str p]]) rfl rfl) rfl rfl (fun _ => by kernel_rfl) (by simp only [List.mem_cons, List.not_mem_nil, or_false, forall_eq_or_imp, forall_eq]; exact trivial)) rfl rfl rfl ?_
  rintro v161 h65 ⟨ho162, hx163⟩
  refine L_mks (M_appr0 nsRec (z := 2) (bytes := 32) (z0 := (.agg #[str [], str []])) Tryz.underlying58 (by unfold elemRow; kernel_rfl) rfl rfl (by decide) rfl rfl (RowsO.nil recS _ h65.size) ho162.rows (Nat.le_refl _) (by first | (simp; done) | (simp; omega))) rfl rfl rfl ?_
  rintro v164 h66 ha165
  refine Av ?_
  refine L_nil (X_block (X_then (W_region ?_)))
  refine Ly (Y_addl (r := 2) rfl rfl (by decide) (by decide) (by decide)) ?_
  refine Mv ?_
  refine L_nil ?_
  refine X_round ?_
  refine Wr ?_
  refine Ly (Y_lss rfl rfl) ?_
  refine L_nil (X_then (W_seq ?_))
  refine W_known true rfl (by exact decide_eq_true (by decide)) ?_
  refine W_skip (X_then (W_seq (W_block (W_seq (W_region ?_)))))
  refine Ly (Y_idxr Tryz.underlying86 (show _ = some 1 by kernel_rfl) rfl rfl rfl (hr0156.ext (hx163.then' ha165.only ha165.ge hx163.size)) (by first | omega | (simp; done) | (simp; omega)) (by first | omega | (simp; done) | (simp; omega))) ?_
  refine Ly (Y_ldr0 (k := 2) Tryz.underlying9 rfl rfl rfl (hr0156.ext (hx163.then' ha165.only ha165.ge hx163.size)) (by first | omega | (simp; done) | (simp; omega)) rfl) ?_
  refine Av ?_
  refine L_nil (X_then (W_seq (W_region ?_)))
  refine Mv ?_
  refine Mv ?_
  have hg166 : mget (mset ([] : List (List UInt8 × Value)) [112, 97, 116, 104] (str p)) [115, 105, 122, 101] = none := by rfl
  refine Ly (Y_look2n keyS Tryz.underlying82 Tryz.underlying9 (u := (str [])) (by kernel_rfl) rfl rfl (hc159.ext (hx163.then' ha165.only ha165.ge hx163.size)) hg166) ?_
  refine Mv ?_
  refine Ly (Y_extract (v := str []) rfl rfl) ?_
  refine Ly (Y_extract (v := .bool false) rfl rfl) ?_
  refine Av ?_
  refine Av ?_
  refine L_nil (X_then (W_seq (W_region ?_)))
  refine Mv ?_
  refine Nx ?_
  refine W_false rfl ?_
  refine W_skip (X_block (X_then (W_region ?_)))
  refine Ly (Y_addl (r := 3) rfl rfl (by decide) (by decide) (by decide)) ?_
  refine Mv ?_
  refine L_nil ?_
  refine X_round ?_
  refine Wr ?_
  refine Ly (Y_lss rfl rfl) ?_
  refine L_nil (X_then (W_seq ?_))
  refine W_known false rfl (by exact decide_eq_false (by decide)) ?_
  refine W_exit ?_
  refine X_then_exit (X_then_exit ?_)
  refine X_block_hit ?_
  refine X_then ?_
  refine W_sub _ (tk5 9 6 4 3 2) ?_
  refine Wr ?_
  have me142 := (hx157.trans hx163).then' ha165.only ha165.ge (Nat.le_trans hx157.size hx163.size)
  refine Ly (Y_ldbox (us := [.int .u8 (byt ([53, 48, 50, 49] : List UInt8) (k).toNat), str (snam p), str (spre p), str tg, .int .i64 (m), .int .i64 (z)]) Tryz.underlying57 rfl (show _ = some 6 by kernel_rfl) rfl (hk153.ext me142) rfl) ?_
  refine Mv ?_
  have me143 := Nat.le_trans (Nat.le_trans hx5.size hx19.size) hp20.only.size
  have me144 := (hx5.trans hx19).then' hp20.only (by simp) (Nat.le_trans hx5.size q4_1l)
  have me145 := (me144.trans hx22).then' hp121.only (by simp) (Nat.le_trans hx5.size q4_1l)
  have me146 := me145.then' hp123.only (by simp) (Nat.le_trans hx5.size q4_1l)
  have me147 := me146.then' hp125.only (by simp) (Nat.le_trans hx5.size q4_1l)
  have me148 := (me147.then' hx127 (by simp) me143).then' hp152.only (by simp) (Nat.le_trans hx5.size q4_1l)
  have me149 := Nat.le_trans (Nat.le_trans me143 hx22.size) hp121.only.size
  have me150 := Nat.le_trans (Nat.le_trans me149 hp123.only.size) hp125.only.size
  have me151 := Nat.le_trans (Nat.le_trans me150 hx127.size) hp152.only.size
  have me152 := ((me148.trans hx157).trans hx163).then' ha165.only ha165.ge (Nat.le_trans (Nat.le_trans me151 hx157.size) hx163.size)
  refine L_dos (D_store (us := [.int .u8 (byt ([53, 48, 50, 49] : List UInt8) (k).toNat), str (snam p), str (spre p), str tg, .int .i64 (m), .int .i64 (z)]) (show _ = some 6 by kernel_rfl) rfl rfl rfl (by simp [Value.oneCell']) (hk4.ext me152) (by simp)) rfl rfl ?_
  rintro h67 hp167
  have hk168 : Blk h67 h1.size [.int .u8 (byt ([53, 48, 50, 49] : List UInt8) (k).toNat), str (snam p), str (spre p), str tg, .int .i64 (m), .int .i64 (z)] := hp167.blk
  refine Av ?_
  refine Av ?_
  refine Nx ?_
  refine W_sub _ (tk3 4 3 2) ?_
  refine W_ret ?_
  refine X_retv3 rfl (RV.agg rfl Tryz.underlying57 rfl (show _ = some 6 by kernel_rfl) hk168) rfl rfl ?_
  have c2x : sok p = false := by simpa using c2
  have c1x : ¬ 100 < tg.length := by omega
  have me153 := Nat.le_trans (Nat.le_trans me136 hx22.size) hp121.only.size
  have me154 := Nat.le_trans (Nat.le_trans me153 hp123.only.size) hp125.only.size
  have me155 := Nat.le_trans (Nat.le_trans me154 hx127.size) hp152.only.size
  have me156 := ((me141.trans hx157).trans hx163).then' ha165.only ha165.ge (Nat.le_trans (Nat.le_trans me155 hx157.size) hx163.size)
  refine ⟨v164, ?_, ?_, (me156.then' hp167.only (by simp) hn1.ext.size)⟩
  ·rw [e0, fT, fN, fP, fL, fM, fZ, if_pos rfl, if_pos rfl, if_pos rfl, if_pos rfl, if_pos rfl, if_pos rfl, if_neg c1x, if_neg c3]; rfl
  rw [e0, fR, if_pos rfl]; exact RowsO.congr (((ha165.own.only1 nsRec hp167.only (Nat.lt_of_lt_of_le hk4.lt (Nat.le_trans (Nat.le_trans me151 hx157.size) hx163.size)))).low (Nat.le_trans (Nat.le_trans me155 hx157.size) hx163.size)) (by simp [frecs, c1x, c2x, c3])
 refine Ws ?_
 refine W_sub _ (tk6 7 6 4 3 2 1) ?_
 refine W_seq (W_seq (W_region ?_))
 refine Ly (Y_fieldAddr (off := 4) (by kernel_rfl) rfl rfl) ?_
 have me157 := me103.then' hp123.only (by simp) (Nat.le_trans (Nat.le_trans hn3.ext.size hx5.size) q4_1l)
 have me158 := me157.then' hp125.only (by simp) (Nat.le_trans (Nat.le_trans hn3.ext.size hx5.size) q4_1l)
 refine Ly (Y_ldblk Tryz.underlying2 rfl rfl (hk2.ext me158) rfl) ?_
 refine Ly (Y_gtr rfl rfl) ?_
 refine Nx ?_
 refine W_sub _ (tk7 54 7 6 4 3 2 1) ?_
 refine W_splitd rfl (fun c3 => ?_) (fun c3 => ?_)
 ·refine W_region ?_
  refine Mv ?_
  refine Ly (Y_fieldAddr (off := 4) (by kernel_rfl) rfl rfl) ?_
  refine Ly (Y_ldblk Tryz.underlying2 rfl rfl (hk2.ext me158) rfl) ?_
  have me159 := Nat.le_trans (Nat.le_trans hn1.ext.size hn3.ext.size) hx5.size
  have me160 := (((hn1.ext.trans hn3.ext).trans hx5).trans hx19).then' hp20.only (by simp) (Nat.le_trans me159 q4_1l)
  have me161 := (me160.trans hx22).then' hp121.only (by simp) (Nat.le_trans me159 q4_1l)
  have me162 := me161.then' hp123.only (by simp) (Nat.le_trans me159 q4_1l)
  have me163 := me162.then' hp125.only (by simp) (Nat.le_trans me159 q4_1l)
  refine L_call (E_call (by kernel_rfl) rfl) (strconv_FormatInt _ (hN.ext me163) z (by first | first | omega | (simp; done) | (simp; omega) | rfl | (simp <;> omega))) rfl rfl rfl ?_
  rintro _ h68 ⟨rfl, hx169⟩
  have hc172 := ((((hb23.only hp121.only (ni_gt (Nat.lt_of_lt_of_le q4_1.lt hp20.only.size))).only hp123.only (ni_gt (Nat.lt_of_lt_of_le q4_1.lt hp20.only.size))).only hp125.only (ni_gt (Nat.lt_of_lt_of_le q4_1.lt hp20.only.size))).ext hx169)
  refine L_dos (D_update keyS Tryz.underlying82 Tryz.underlying9 rfl rfl rfl hc172) rfl rfl ?_
  rintro h69 ⟨hx170, -, hb171⟩
  refine Nx ?_
  refine W_sub _ (tk5 7 6 4 3 2) ?_
  refine Wr ?_
  refine Av ?_
  refine L_nil (X_then (W_seq (W_seq (W_region ?_))))
  have me164 := Nat.le_trans (Nat.le_trans me159 hx19.size) hp20.only.size
  refine L_call (E_call (by kernel_rfl) rfl) (rec_Keys _ (hK.ext ((me163.trans hx169).then' hx170 (by simp) me164))) rfl rfl rfl ?_
  rintro s0173 h70 ⟨_, rfl, hr0174, hx175⟩
  refine Ly (Y_lenr Tryz.underlying86 rfl hr0174) ?_
  refine Mv ?_
  refine L_nil (X_then (W_block ?_))
  refine W_rounds 4 ?_
  refine Wr ?_
  refine Ly (Y_lss rfl rfl) ?_
  refine L_nil (X_then (W_seq ?_))
  refine W_known true rfl (by exact decide_eq_true (by decide)) ?_
  refine W_skip (X_then (W_seq (W_block (W_seq (W_region ?_)))))
  refine Ly (Y_idxr Tryz.underlying86 (show _ = some 1 by kernel_rfl) rfl rfl rfl hr0174 (by first | omega | (simp; done) | (simp; omega)) (by first | omega | (simp; done) | (simp; omega))) ?_
  refine Ly (Y_ldr0 (k := 0) Tryz.underlying9 rfl rfl rfl hr0174 (by first | omega | (simp; done) | (simp; omega)) rfl) ?_
  refine Av ?_
  refine L_nil (X_then (W_seq (W_region ?_)))
  refine Mv ?_
  refine Mv ?_
  have hg176 : mget (mset ([] : List (List UInt8 × Value)) [115, 105, 122, 101] (str (Lib.itoa z))) [108, 105, 110, 107, 112, 97, 116, 104] = none := by rfl
  refine Ly (Y_look2n keyS Tryz.underlying82 Tryz.underlying9 (u := (str [])) (by kernel_rfl) rfl rfl (hb171.ext hx175) hg176) ?_
  refine Mv ?_
  refine Ly (Y_extract (v := str []) rfl rfl) ?_
  refine Ly (Y_extract (v := .bool false) rfl rfl) ?_
  refine Av ?_
  refine Av ?_
  refine L_nil (X_then (W_seq (W_region ?_)))
  refine Mv ?_
  refine Nx ?_
  refine W_false rfl ?_
  refine W_skip (X_block (X_then (W_region ?_)))
  refine Ly (Y_addl (r := 1) rfl rfl (by decide) (by decide) (by decide)) ?_
  refine Mv ?_
  refine L_nil ?_
  refine X_round ?_
  refine Wr ?_
  refine Ly (Y_lss rfl rfl) ?_
  refine L_nil (X_then (W_seq ?_))
  refine W_known true rfl (by exact decide_eq_true (by decide)) ?_
  refine W_skip (X_then (W_seq (W_block (W_seq (W_region ?_)))))
  refine Ly (Y_idxr Tryz.underlying86 (show _ = some 1 by kernel_rfl) rfl rfl rfl hr0174 (by first | omega | (simp; done) | (simp; omega)) (by first | omega | (simp; done) | (simp; omega))) ?_
  refine Ly (Y_ldr0 (k := 1) Tryz.underlying9 rfl rfl rfl hr0174 (by first | omega | (simp; done) | (simp; omega)) rfl) ?_
  refine Av ?_
  refine L_nil (X_then (W_seq (W_region ?_)))
  refine Mv ?_
  refine Mv ?_
  have hg177 : mget (mset ([] : List (List UInt8 × Value)) [115, 105, 122, 101] (str (Lib.itoa z))) [112, 97, 116, 104] = none := by rfl
  refine Ly (Y_look2n keyS Tryz.underlying82 Tryz.underlying9 (u := (str [])) (by kernel_rfl) rfl rfl (hb171.ext hx175) hg177) ?_
  refine Mv ?_
  refine Ly (Y_extract (v := str []) rfl rfl) ?_
  refine Ly (Y_extract (v := .bool false) rfl rfl) ?_
  refine Av ?_
  refine Av ?_
  refine L_nil (X_then (W_seq (W_region ?_)))
  refine Mv ?_
  refine Nx ?_
  refine W_false rfl ?_
  refine W_skip (X_block (X_then (W_region ?_)))
  refine Ly (Y_addl (r := 2) rfl rfl (by decide) (by decide) (by decide)) ?_
  refine Mv ?_
  refine L_nil ?_
  refine X_round ?_
  refine Wr ?_
  refine Ly (Y_lss rfl rfl) ?_
  refine L_nil (X_then (W_seq ?_))
  refine W_known true rfl (by exact decide_eq_true (by decide)) ?_
  refine W_skip (X_then (W_seq (W_block (W_seq (W_region ?_)))))
  refine Ly (Y_idxr Tryz.underlying86 (show _ = some 1 by kernel_rfl) rfl rfl rfl hr0174 (by first | omega | (simp; done) | (simp; omega)) (by first | omega | (simp; done) | (simp; omega))) ?_
  refine Ly (Y_ldr0 (k := 2) Tryz.underlying9 rfl rfl rfl hr0174 (by first | omega | (simp; done) | (simp; omega)) rfl) ?_
  refine Av ?_
  refine L_nil (X_then (W_seq (W_region ?_)))
  refine Mv ?_
  refine Mv ?_
  have hg178 : mget (mset ([] : List (List UInt8 × Value)) [115, 105, 122, 101] (str (Lib.itoa z))) [115, 105, 122, 101] = some (str (Lib.itoa z)) := by rfl
  refine Ly (Y_look2s keyS Tryz.underlying82 Tryz.underlying9 (u := (str [])) (by kernel_rfl) rfl rfl (hb171.ext hx175) hg178) ?_
  refine Mv ?_
  refine Ly (Y_extract (v := str (Lib.itoa z)) rfl rfl) ?_
  refine Ly (Y_extract (v := .bool true) rfl rfl) ?_
  refine Av ?_
  refine Av ?_
  refine L_nil (X_then (W_seq (W_region ?_)))
  refine Mv ?_
  refine Nx ?_
  refine W_true rfl ?_
  refine W_region ?_
  refine Mv ?_
  refine Mv ?_
  refine Mv ?_
  refine Ly (Y_build (v := .agg #[str [115, 105, 122, 101], str (Lib.itoa z)]) (pv := [(0, str [115, 105, 122, 101]), (1, str (Lib.itoa z))]) (evp (is := [0, 1]) (os := [.tmp 76, .tmp 77]) (vs := [str [115, 105, 122, 101], str (Lib.itoa z)]) rfl rfl) (fun _ => by kernel_rfl)) ?_
  refine L_mks (M_litr (S := recS) (l := [⟨[115, 105, 122, 101], Lib.itoa z⟩]) (cells := [str [115, 105, 122, 101], str (Lib.itoa z)]) (pv := [(0, .agg #[str [115, 105, 122, 101], str (Lib.itoa z)])]) (E := 89) (evp (is := [0]) (os := [.tmp 78]) (vs := [.agg #[str [115, 105, 122, 101], str (Lib.itoa z)]]) rfl rfl) rfl rfl (fun _ => by kernel_rfl) (by simp only [List.mem_cons, List.not_mem_nil, or_false, forall_eq_or_imp, forall_eq]; exact trivial)) rfl rfl rfl ?_
  rintro v179 h71 ⟨ho180, hx181⟩
  refine L_mks (M_appr0 nsRec (z := 2) (bytes := 32) (z0 := (.agg #[str [], str []])) Tryz.underlying58 (by unfold elemRow; kernel_rfl) rfl rfl (by decide) rfl rfl (RowsO.nil recS _ h71.size) ho180.rows (Nat.le_refl _) (by first | (simp; done) | (simp; omega))) rfl rfl rfl ?_
  rintro v182 h72 ha183
  refine Av ?_
  refine L_nil (X_block (X_then (W_region ?_)))
  refine Ly (Y_addl (r := 3) rfl rfl (by decide) (by decide) (by decide)) ?_
  refine Mv ?_
  refine L_nil ?_
  refine X_round ?_
  refine Wr ?_
  refine Ly (Y_lss rfl rfl) ?_
  refine L_nil (X_then (W_seq ?_))
  refine W_known false rfl (by exact decide_eq_false (by decide)) ?_
  refine W_exit ?_
  refine X_then_exit (X_then_exit ?_)
  refine X_block_hit ?_
  refine X_then ?_
  refine W_sub _ (tk5 9 6 4 3 2) ?_
  refine Wr ?_
  have hc184 := (((((hk126.ext hx169).only hx170 (ni_lt (Nat.lt_of_lt_of_le q4_1.lt hp20.only.size))).ext hx175).ext hx181).only ha183.only (by simp [blockOf]))
  refine Ly (Y_ldbox (us := [.int .u8 (byt ([53, 48, 50, 49] : List UInt8) (k).toNat), str (snam p), str (spre p), str tg, .int .i64 (m), .int .i64 0]) Tryz.underlying57 rfl (show _ = some 6 by kernel_rfl) rfl hc184 rfl) ?_
  refine Mv ?_
  have me165 := Nat.le_trans (Nat.le_trans hx5.size hx19.size) hp20.only.size
  have me166 := (hx5.trans hx19).then' hp20.only (by simp) (Nat.le_trans hx5.size q4_1l)
  have me167 := (me166.trans hx22).then' hp121.only (by simp) (Nat.le_trans hx5.size q4_1l)
  have me168 := me167.then' hp123.only (by simp) (Nat.le_trans hx5.size q4_1l)
  have me169 := me168.then' hp125.only (by simp) (Nat.le_trans hx5.size q4_1l)
  have me170 := ((me169.trans hx169).then' hx170 (by simp) me165).trans hx175
  have me171 := Nat.le_trans (Nat.le_trans me165 hx22.size) hp121.only.size
  have me172 := Nat.le_trans (Nat.le_trans me171 hp123.only.size) hp125.only.size
  have me173 := Nat.le_trans (Nat.le_trans (Nat.le_trans me172 hx169.size) hx170.size) hx175.size
  have me174 := (me170.trans hx181).then' ha183.only ha183.ge (Nat.le_trans me173 hx181.size)
  refine L_dos (D_store (us := [.int .u8 (byt ([53, 48, 50, 49] : List UInt8) (k).toNat), str (snam p), str (spre p), str tg, .int .i64 (m), .int .i64 0]) (show _ = some 6 by kernel_rfl) rfl rfl rfl (by simp [Value.oneCell']) (hk4.ext me174) (by simp)) rfl rfl ?_
  rintro h73 hp185
  have hk186 : Blk h73 h1.size [.int .u8 (byt ([53, 48, 50, 49] : List UInt8) (k).toNat), str (snam p), str (spre p), str tg, .int .i64 (m), .int .i64 0] := hp185.blk
  refine Av ?_
  refine Av ?_
  refine Nx ?_
  refine W_sub _ (tk3 4 3 2) ?_
  refine W_ret ?_
  refine X_retv3 rfl (RV.agg rfl Tryz.underlying57 rfl (show _ = some 6 by kernel_rfl) hk186) rfl rfl ?_
  have c2x : sok p = true := by simpa using c2
  have c1x : ¬ 100 < tg.length := by omega
  have me175 := ((me163.trans hx169).then' hx170 (by simp) me164).trans hx175
  have me176 := Nat.le_trans (Nat.le_trans me164 hx22.size) hp121.only.size
  have me177 := Nat.le_trans (Nat.le_trans me176 hp123.only.size) hp125.only.size
  have me178 := Nat.le_trans (Nat.le_trans (Nat.le_trans me177 hx169.size) hx170.size) hx175.size
  have me179 := (me175.trans hx181).then' ha183.only ha183.ge (Nat.le_trans me178 hx181.size)
  refine ⟨v182, ?_, ?_, (me179.then' hp185.only (by simp) hn1.ext.size)⟩
  ·rw [e0, fT, fN, fP, fL, fM, fZ, if_pos rfl, if_pos rfl, if_pos rfl, if_pos rfl, if_pos rfl, if_pos rfl, if_neg c1x, if_pos c3]; rfl
  rw [e0, fR, if_pos rfl]; exact RowsO.congr (((ha183.own.only1 nsRec hp185.only (Nat.lt_of_lt_of_le hk4.lt (Nat.le_trans me173 hx181.size)))).low (Nat.le_trans me178 hx181.size)) (by simp [frecs, c1x, c2x, c3, itoa_pos (show (0 : Int) ≤ z by omega)])
 refine W_region ?_
 refine Ly (Y_fieldAddr (off := 4) (by kernel_rfl) rfl rfl) ?_
 refine Ly (Y_ldblk Tryz.underlying2 rfl rfl (hk2.ext me158) rfl) ?_
 refine Ly (Y_fieldAddr (off := 5) (by kernel_rfl) rfl rfl) ?_
 refine L_dos (D_store (us := [.int .i64 (z)]) (show _ = some 1 by kernel_rfl) rfl rfl rfl (by simp [Value.oneCell']) hk126 (by simp)) rfl rfl ?_
 rintro h74 hp187
 have hk188 : Blk h74 r4_1 [.int .u8 (byt ([53, 48, 50, 49] : List UInt8) (k).toNat), str (snam p), str (spre p), str tg, .int .i64 (m), .int .i64 (z)] := hp187.blk
 refine Nx ?_
 refine W_sub _ (tk5 7 6 4 3 2) ?_
 refine Wr ?_
 refine Av ?_
 refine L_nil (X_then (W_seq (W_seq (W_region ?_))))
 have me180 := Nat.le_trans (Nat.le_trans hn1.ext.size hn3.ext.size) hx5.size
 have me181 := (((hn1.ext.trans hn3.ext).trans hx5).trans hx19).then' hp20.only (by simp) (Nat.le_trans me180 q4_1l)
 have me182 := (me181.trans hx22).then' hp121.only (by simp) (Nat.le_trans me180 q4_1l)
 have me183 := me182.then' hp123.only (by simp) (Nat.le_trans me180 q4_1l)
 have me184 := me183.then' hp125.only (by simp) (Nat.le_trans me180 q4_1l)
 have me185 := me184.then' hp187.only (by simp) (Nat.le_trans me180 q4_1l)
 refine L_call (E_call (by kernel_rfl) rfl) (rec_Keys _ (hK.ext me185)) rfl rfl rfl ?_
 rintro s0189 h75 ⟨_, rfl, hr0190, hx191⟩
 refine Ly (Y_lenr Tryz.underlying86 rfl hr0190) ?_
 refine Mv ?_
 refine L_nil (X_then (W_block ?_))
 refine W_rounds 4 ?_
 refine Wr ?_
 refine Ly (Y_lss rfl rfl) ?_
 refine L_nil (X_then (W_seq ?_))
 refine W_known true rfl (by exact decide_eq_true (by decide)) ?_
 refine W_skip (X_then (W_seq (W_block (W_seq (W_region ?_)))))
 refine Ly (Y_idxr Tryz.underlying86 (show _ = some 1 by kernel_rfl) rfl rfl rfl hr0190 (by first | omega | (simp; done) | (simp; omega)) (by first | omega | (simp; done) | (simp; omega))) ?_
 refine Ly (Y_ldr0 (k := 0) Tryz.underlying9 rfl rfl rfl hr0190 (by first | omega | (simp; done) | (simp; omega)) rfl) ?_
 refine Av ?_
 refine L_nil (X_then (W_seq (W_region ?_)))
 refine Mv ?_
 refine Mv ?_
 have hg192 : mget ([] : List (List UInt8 × Value)) [108, 105, 110, 107, 112, 97, 116, 104] = none := by rfl
 have hc193 := (((((hb23.only hp121.only (ni_gt (Nat.lt_of_lt_of_le q4_1.lt hp20.only.size))).only hp123.only (ni_gt (Nat.lt_of_lt_of_le q4_1.lt hp20.only.size))).only hp125.only (ni_gt (Nat.lt_of_lt_of_le q4_1.lt hp20.only.size))).only hp187.only (ni_gt (Nat.lt_of_lt_of_le q4_1.lt hp20.only.size))).ext hx191)
 refine Ly (Y_look2n keyS Tryz.underlying82 Tryz.underlying9 (u := (str [])) (by kernel_rfl) rfl rfl hc193 hg192) ?_
 refine Mv ?_
 refine Ly (Y_extract (v := str []) rfl rfl) ?_
 refine Ly (Y_extract (v := .bool false) rfl rfl) ?_
 refine Av ?_
 refine Av ?_
 refine L_nil (X_then (W_seq (W_region ?_)))
 refine Mv ?_
 refine Nx ?_
 refine W_false rfl ?_
 refine W_skip (X_block (X_then (W_region ?_)))
 refine Ly (Y_addl (r := 1) rfl rfl (by decide) (by decide) (by decide)) ?_
 refine Mv ?_
 refine L_nil ?_
 refine X_round ?_
 refine Wr ?_
 refine Ly (Y_lss rfl rfl) ?_
 refine L_nil (X_then (W_seq ?_))
 refine W_known true rfl (by exact decide_eq_true (by decide)) ?_
 refine W_skip (X_then (W_seq (W_block (W_seq (W_region ?_)))))
 refine Ly (Y_idxr Tryz.underlying86 (show _ = some 1 by kernel_rfl) rfl rfl rfl hr0190 (by first | omega | (simp; done) | (simp; omega)) (by first | omega | (simp; done) | (simp; omega))) ?_
 refine Ly (Y_ldr0 (k := 1) Tryz.underlying9 rfl rfl rfl hr0190 (by first | omega | (simp; done) | (simp; omega)) rfl) ?_
 refine Av ?_
 refine L_nil (X_then (W_seq (W_region ?_)))
 refine Mv ?_
 refine Mv ?_
 have hg194 : mget ([] : List (List UInt8 × Value)) [112, 97, 116, 104] = none := by rfl
 refine Ly (Y_look2n keyS Tryz.underlying82 Tryz.underlying9 (u := (str [])) (by kernel_rfl) rfl rfl hc193 hg194) ?_
 refine Mv ?_
 refine Ly (Y_extract (v := str []) rfl rfl) ?_
 refine Ly (Y_extract (v := .bool false) rfl rfl) ?_
 refine Av ?_
 refine Av ?_
 refine L_nil (X_then (W_seq (W_region ?_)))
 refine Mv ?_
 refine Nx ?_
 refine W_false rfl ?_
 refine W_skip (X_block (X_then (W_region ?_)))
 refine Ly (Y_addl (r := 2) rfl rfl (by decide) (by decide) (by decide)) ?_
 refine Mv ?_
 refine L_nil ?_
 refine X_round ?_
 refine Wr ?_
 refine Ly (Y_lss rfl rfl) ?_
 refine L_nil (X_then (W_seq ?_))
 refine W_known true rfl (by exact decide_eq_true (by decide)) ?_
 refine W_skip (X_then (W_seq (W_block (W_seq (W_region ?_)))))
 refine Ly (Y_idxr Tryz.underlying86 (show _ = some 1 by kernel_rfl) rfl rfl rfl hr0190 (by first | omega | (simp; done) | (simp; omega)) (by first | omega | (simp; done) | (simp; omega))) ?_
 refine Ly (Y_ldr0 (k := 2) Tryz.underlying9 rfl rfl rfl hr0190 (by first | omega | (simp; done) | (simp; omega)) rfl) ?_
 refine Av ?_
 refine L_nil (X_then (W_seq (W_region ?_)))
 refine Mv ?_
 refine Mv ?_
 have hg195 : mget ([] : List (List UInt8 × Value)) [115, 105, 122, 101] = none := by rfl
 refine Ly (Y_look2n keyS Tryz.underlying82 Tryz.underlying9 (u := (str [])) (by kernel_rfl) rfl rfl hc193 hg195) ?_
 refine Mv ?_
 refine Ly (Y_extract (v := str []) rfl rfl) ?_
 refine Ly (Y_extract (v := .bool false) rfl rfl) ?_
 refine Av ?_
 refine Av ?_
 refine L_nil (X_then (W_seq (W_region ?_)))
 refine Mv ?_
 refine Nx ?_
 refine W_false rfl ?_
 refine W_skip (X_block (X_then (W_region ?_)))
 refine Ly (Y_addl (r := 3) rfl rfl (by decide) (by decide) (by decide)) ?_
 refine Mv ?_
 refine L_nil ?_
 refine X_round ?_
 refine Wr ?_
 refine Ly (Y_lss rfl rfl) ?_
 refine L_nil (X_then (W_seq ?_))
 refine W_known false rfl (by exact decide_eq_false (by decide)) ?_
 refine W_exit ?_
 refine X_then_exit (X_then_exit ?_)
 refine X_block_hit ?_
 refine X_then ?_
 refine W_sub _ (tk5 9 6 4 3 2) ?_
 refine Wr ?_
 refine Ly (Y_ldbox (us := [.int .u8 (byt ([53, 48, 50, 49] : List UInt8) (k).toNat), str (snam p), str (spre p), str tg, .int .i64 (m), .int .i64 (z)]) Tryz.underlying57 rfl (show _ = some 6 by kernel_rfl) rfl (hk188.ext hx191) rfl) ?_
 refine Mv ?_
 have me186 := (hx5.trans hx19).then' hp20.only (by simp) (Nat.le_trans hx5.size q4_1l)
 have me187 := (me186.trans hx22).then' hp121.only (by simp) (Nat.le_trans hx5.size q4_1l)
 have me188 := me187.then' hp123.only (by simp) (Nat.le_trans hx5.size q4_1l)
 have me189 := me188.then' hp125.only (by simp) (Nat.le_trans hx5.size q4_1l)
 have me190 := me189.then' hp187.only (by simp) (Nat.le_trans hx5.size q4_1l)
 refine L_dos (D_store (us := [.int .u8 (byt ([53, 48, 50, 49] : List UInt8) (k).toNat), str (snam p), str (spre p), str tg, .int .i64 (m), .int .i64 (z)]) (show _ = some 6 by kernel_rfl) rfl rfl rfl (by simp [Value.oneCell']) (hk4.ext (me190.trans hx191)) (by simp)) rfl rfl ?_
 rintro h76 hp196
 have hk197 : Blk h76 h1.size [.int .u8 (byt ([53, 48, 50, 49] : List UInt8) (k).toNat), str (snam p), str (spre p), str tg, .int .i64 (m), .int .i64 (z)] := hp196.blk
 refine Av ?_
 refine Av ?_
 refine Nx ?_
 refine W_sub _ (tk3 4 3 2) ?_
 refine W_ret ?_
 refine X_retv3 rfl (RV.agg rfl Tryz.underlying57 rfl (show _ = some 6 by kernel_rfl) hk197) rfl rfl ?_
 have c2x : sok p = true := by simpa using c2
 have c1x : ¬ 100 < tg.length := by omega
 have me191 := (me185.trans hx191).then' hp196.only (by simp) hn1.ext.size
 refine ⟨(.slice none 0 0), ?_, ?_, me191⟩
 ·rw [e0, fT, fN, fP, fL, fM, fZ, if_pos rfl, if_pos rfl, if_pos rfl, if_pos rfl, if_pos rfl, if_pos rfl, if_neg c1x, if_neg c3]; rfl
 rw [e0, fR, if_pos rfl]; exact (RowsO.nil recS _ _).congr (by simp [frecs, c1x, c2x, c3])
end Go.Xp

/- Layer 10 (fit): the reference, and the laws' helpers. -/
set_option linter.unusedSimpArgs false
set_option linter.unusedVariables false
set_option linter.unusedSectionVars false
namespace Go.Xp
open Go.Proofs

theorem sok_nil {p : List UInt8} (h : sok p = false) : snam p = [] ∧ spre p = [] := by
  unfold sok at h
  simp only [Bool.or_eq_false_iff, decide_eq_false_iff_not, Bool.not_eq_false'] at h
  unfold snam spre
  exact ⟨by rw [if_neg h.1, if_pos h.2], by rw [if_neg h.1, if_pos h.2]⟩
end Go.Xp
