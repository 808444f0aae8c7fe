/- Layer 10 (fit): what Check, Plan do. -/
import Derived.Test.YtdmhigknppkniaaGreatDoorRecF
import Derived.Test.YtdmhigknppkniaaGreatDoorCheck
import Derived.Test.YtdmhigknppkniaaGreatDoorRec
set_option linter.unusedSimpArgs false
set_option linter.unusedVariables false
set_option linter.unusedSectionVars false
set_option maxRecDepth 100000
namespace Go.Xp
open Go.Proofs
section
variable {P : Program} {n : Nat} {e : Env} {h : Heap} {d : Option Tmp} {t : TypeId} {pos : String} {af : Array Edge} {g : Option (Nat × Bool)}
variable {T KT E : TypeId} {x y : Operand} {b : Nat} {u v : Value} {α : Type} [DecidableEq α] {enc : α → Value} {D : TypeDesc} {m : List (α × Value)} {k : α}
theorem Y_look2s (K : Key D enc) (hT : P.underlying T = some (.map KT E)) (hK : P.underlying KT = some D) (hz : (P.info? E).bind (·.zero) = some u) (hx : ev e x = some (.map (some b))) (hy : ev e y = some (enc k)) (hb : MapK enc h b m) (hg : mget m k = some v) :
    Yld P n e h ⟨d, .lookup T x y true, t, pos, af, g⟩ (.tuple #[v, .bool true]) := by
  have := Y_look2 (P := P) (n := n) (d := d) (t := t) (pos := pos) (af := af) (g := g) K hT hK hz hx hy hb
  rw [hg] at this; exact this
theorem Y_look2n (K : Key D enc) (hT : P.underlying T = some (.map KT E)) (hK : P.underlying KT = some D) (hz : (P.info? E).bind (·.zero) = some u) (hx : ev e x = some (.map (some b))) (hy : ev e y = some (enc k)) (hb : MapK enc h b m) (hg : mget m k = none) :
    Yld P n e h ⟨d, .lookup T x y true, t, pos, af, g⟩ (.tuple #[u, .bool false]) := by
  have := Y_look2 (P := P) (n := n) (d := d) (t := t) (pos := pos) (af := af) (g := g) K hT hK hz hx hy hb
  rw [hg] at this; exact this
end
theorem Cls.bytesG {h : Heap} {b n : Nat} {l : List UInt8} (x : Cls h b (l.map bv)) (hn : n = l.length) (h0 : 0 < n) : Bytes h (.slice (some ⟨b, 0, none⟩) n n) l := by
  subst hn
  refine ⟨⟨some ⟨b, 0, none⟩, l.length, rfl, Nat.le_refl _, (fun h => by cases h), ?_⟩, by simp⟩
  intro ad ha
  cases ha
  exact ⟨fun _ => ⟨rfl, x.1⟩, fun i u hi => by simpa using x.2 i u hi⟩
theorem Own.only1 {h h' : Heap} {base z n B : Nat} {v : Value} {xs : List Value} (x : Own h base z v n xs) (y : Only [B] h h') (hB : B < base) : Own h' base z v n xs := by
  obtain ⟨h1, h2 | ⟨g, cap, extra, h2, hg, hb, hl⟩⟩ := x
  · exact ⟨h1, .inl h2⟩
  · exact ⟨h1, .inr ⟨g, cap, extra, h2, hg, hb.only y (by simp; omega), hl⟩⟩
theorem OwnB.only1 {h h' : Heap} {base B : Nat} {v : Value} {l : List UInt8} (x : OwnB h base v l) (y : Only [B] h h') (hB : B < base) : OwnB h' base v l := Own.only1 x y hB
theorem RowsO.only1 {β : Type} {S : Sch β} {h h' : Heap} {base B : Nat} {v : Value} {l : List β} (x : RowsO S h base v l) (ns : NoSl S) (y : Only [B] h h') (hB : B < base) : RowsO S h' base v l :=
  ⟨Own.only1 x.1 y hB, fun a ha => S.only (x.2 a ha) y (fun u hu b hb => by rw [ns a u hu] at hb; cases hb)⟩

/-! ### Check -/
def ftarget (k : Int) (tg : List UInt8) : Int := if k = 3 then pcheck tg else if k = 2 then rerr [108, 105, 110, 107, 112, 97, 116, 104] tg else if ¬ tg = [] then 2 else 0
def fsize (k z : Int) : Int := if k = 1 ∧ (z < 0 ∨ 1099511627776 < z) then 3 else if ¬ k = 1 ∧ ¬ z = 0 then 2 else 0
def fcheck (k : Int) (p : List UInt8) (m : Int) (tg : List UInt8) (z : Int) : Int :=
  if k < 0 ∨ 3 < k then 8 else if ¬ pcheck p = 0 then pcheck p else if (m < 0 ∨ 4095 < m) ∨ (k = 2 ∧ ¬ m = 0) then 16 else if ¬ ftarget k tg = 0 then ftarget k tg else fsize k z

theorem fit_checkTarget (h : Heap) (hK : GlbK h) (hE : GlbE h) (k : Int) (p : List UInt8) (m : Int) (tg : List UInt8) (z : Int) (ht : tg.length ≤ 140737488355328) : Cal Tryz.prog 38 #[.agg #[.int .i64 (k), str p, .int .i64 (m), str tg, .int .i64 (z)]] h (fun v h' => v = .int .i64 (ftarget k tg) ∧ Ext h h') := by
 refine Ce Tryz.func38 fun σ => ?_
 refine Wr ?_
 refine L_mks (M_box rfl) rfl rfl rfl ?_
 rintro _ h1 ⟨rfl, hn1⟩
 have hk2 : Blk h1 h.size [.int .i64 (k), str p, .int .i64 (m), str tg, .int .i64 (z)] := hn1.blk
 refine Av ?_
 refine Ln (Xt (Wq (Wq (Wg ?_))))
 refine Lf 0 ?_
 refine Lb Tryz.underlying3 hk2 ?_
 refine Ln (Xt (Wb (Wq (Wg ?_))))
 refine Ly Yeq ?_
 refine An ?_
 refine Sd (fun a => ?_) fun a => ?_
 ·refine Wr ?_
  refine Lf 3 ?_
  refine Lb Tryz.underlying9 hk2 ?_
  refine Lc (pathname_Check _ tg (by first | omega | rfl | (simp <;> omega))) ?_
  rintro _ h2 ⟨rfl, hx3⟩
  refine An ?_
  refine Wu _ (tk2 2 1) ?_
  refine Wt (Yr (Xr ?_))
  refine Xv1 ?_
  exact ⟨by unfold ftarget; rw [if_pos a], (hn1.ext.trans hx3)⟩
 refine Wr ?_
 refine Ly Yeq ?_
 refine An ?_
 refine Wu _ (tk3 10 2 1) ?_
 refine Sd (fun b => ?_) fun b => ?_
 ·refine Wr ?_
  refine Lf 3 ?_
  refine Lb Tryz.underlying9 hk2 ?_
  refine Ly (Yb (.agg #[str [108, 105, 110, 107, 112, 97, 116, 104], str tg]) [0, 1] [.const (str [108, 105, 110, 107, 112, 97, 116, 104]), .tmp 13] [str [108, 105, 110, 107, 112, 97, 116, 104], str tg]) ?_
  refine Lc (rec_Check _ (hK.ext hn1.ext) (hE.ext hn1.ext) [108, 105, 110, 107, 112, 97, 116, 104] tg (by first | omega | rfl | (simp <;> omega))) ?_
  rintro _ h3 ⟨rfl, hx4⟩
  refine Av ?_
  refine Ln (Xt (Wt (Yr (Xr ?_))))
  refine Xv1 ?_
  exact ⟨by unfold ftarget; rw [if_neg a, if_pos b], (hn1.ext.trans hx4)⟩
 refine Wk (Xb (Xt (Wq (Wq (Wg ?_)))))
 refine Lf 3 ?_
 refine Lb Tryz.underlying9 hk2 ?_
 refine Ly (Y_sneq rfl rfl) ?_
 refine Nx ?_
 refine Sd (fun c => ?_) fun c => ?_
 ·refine Wa ?_
  refine Ln (Xt (Wt (Xr ?_)))
  refine Xv1 ?_
  exact ⟨by unfold ftarget; rw [if_neg a, if_neg b, if_pos c], hn1.ext⟩
 refine Wk (Xt (Wq (Wg ?_)))
 refine Av ?_
 refine Ln (Xt (Wt ?_))
 refine Xv1 ?_
 exact ⟨by unfold ftarget; rw [if_neg a, if_neg b, if_neg c], hn1.ext⟩
theorem fit_checkSize (h : Heap) (k : Int) (p : List UInt8) (m : Int) (tg : List UInt8) (z : Int) : Cal Tryz.prog 39 #[.agg #[.int .i64 (k), str p, .int .i64 (m), str tg, .int .i64 (z)]] h (fun v h' => v = .int .i64 (fsize k z) ∧ Ext h h') := by
 refine Ce Tryz.func39 fun σ => ?_
 refine Wr ?_
 refine L_mks (M_box rfl) rfl rfl rfl ?_
 rintro _ h1 ⟨rfl, hn1⟩
 have hk2 : Blk h1 h.size [.int .i64 (k), str p, .int .i64 (m), str tg, .int .i64 (z)] := hn1.blk
 refine Av ?_
 refine Ln (Xt (Wq (Wb ?_)))
 refine Wc [(3, .bool (decide ((k = 1) ∧ ((z < 0) ∨ (1099511627776 < z))))), (2, .int .i64 0), (1, .pointer (some ⟨h.size, 0, none⟩))] (fun h' => h' = h1) ?_ ?_
 ·refine Wg ?_
  refine Lf 0 ?_
  refine Lb Tryz.underlying3 hk2 ?_
  refine Ly Yeq ?_
  refine Mv ?_
  refine L_splitd (d := 7) rfl (fun c3 => ?_) (fun c3 => ?_)
  ·refine Lf 4 ?_
   refine Lb Tryz.underlying2 hk2 ?_
   refine Ly Yls ?_
   refine Mv ?_
   refine L_splitd (d := 11) rfl (fun c4 => ?_) (fun c4 => ?_)
   ·refine Sk2 ?_
    refine Skp ?_
    refine Ly Ypt ?_
    refine Ly Ypt ?_
    refine Av ?_
    refine Ln ?_
    exact X_cut () (sk1 3 (lkb rfl (by first | (simp only [eq_true c3, eq_true c4, SB]; done) | (simp only [eq_true c3, eq_true c4, SB]; rfl))) (sk1 2 rfl (tk1 1))) rfl
   refine Lf 4 ?_
   refine Lb Tryz.underlying2 hk2 ?_
   refine Ly (Y_gtr rfl rfl) ?_
   refine Ly Ypf ?_
   refine Ly Ypt ?_
   refine Av ?_
   refine Ln ?_
   exact X_cut () (sk1 3 (lkb rfl (by first | (simp only [eq_true c3, eq_false c4, SB]; done) | (simp only [eq_true c3, eq_false c4, SB]; rfl))) (sk1 2 rfl (tk1 1))) rfl
  refine Sk2 ?_
  refine Sk2 ?_
  refine Sk2 ?_
  refine Sk2 ?_
  refine Ly Ypf ?_
  refine Av ?_
  refine Ln ?_
  exact X_cut () (sk1 3 (lkb rfl (by first | (simp only [eq_false c3, SB]; done) | (simp only [eq_false c3, SB]; rfl))) (sk1 2 rfl (tk1 1))) rfl
 rintro h1 rfl
 refine Sd (fun a => ?_) fun a => ?_
 ·refine Wa ?_
  refine Ln (Xt (Wt (Yr (Xr ?_))))
  refine Xv1 ?_
  exact ⟨by unfold fsize; rw [if_pos a], hn1.ext⟩
 refine Wc [(17, .bool (decide ((¬ k = 1) ∧ (¬ z = 0)))), (2, .int .i64 0)] (fun h' => h' = h1) ?_ ?_
 ·refine Wg ?_
  refine Lf 0 ?_
  refine Lb Tryz.underlying3 hk2 ?_
  refine Ly Yne ?_
  refine Mv ?_
  refine L_splitd (d := 21) rfl (fun c5 => ?_) (fun c5 => ?_)
  ·refine Lf 4 ?_
   refine Lb Tryz.underlying2 hk2 ?_
   refine Ly Yne ?_
   refine Ly Ypt ?_
   refine Av ?_
   refine Ln ?_
   exact X_cut () (sk1 17 (lkb rfl (by first | (simp only [eq_true c5, SB]; done) | (simp only [eq_true c5, SB]; rfl))) (tk1 2)) rfl
  refine Sk2 ?_
  refine Skp ?_
  refine Ly Ypf ?_
  refine Av ?_
  refine Ln ?_
  exact X_cut () (sk1 17 (lkb rfl (by first | (simp only [eq_false c5, SB]; done) | (simp only [eq_false c5, SB]; rfl))) (tk1 2)) rfl
 rintro h1 rfl
 refine Sd (fun b => ?_) fun b => ?_
 ·refine Wa ?_
  refine Ln (Xt (Wt (Yr (Xr ?_))))
  refine Xv1 ?_
  exact ⟨by unfold fsize; rw [if_neg a, if_pos b], hn1.ext⟩
 refine Wk (Xb (Xt (Wq (Wg ?_))))
 refine Av ?_
 refine Ln (Xt (Wt ?_))
 refine Xv1 ?_
 exact ⟨by unfold fsize; rw [if_neg a, if_neg b], hn1.ext⟩
theorem fit_Check (h : Heap) (hK : GlbK h) (hE : GlbE h) (k : Int) (p : List UInt8) (m : Int) (tg : List UInt8) (z : Int) (hp : p.length ≤ 140737488355328) (ht : tg.length ≤ 140737488355328) : Cal Tryz.prog 16 #[.agg #[.int .i64 (k), str p, .int .i64 (m), str tg, .int .i64 (z)]] h (fun v h' => v = .int .i64 (fcheck k p m tg z) ∧ Ext h h') := by
 refine Ce Tryz.func16 fun σ => ?_
 refine Wr ?_
 refine L_mks (M_box rfl) rfl rfl rfl ?_
 rintro _ h1 ⟨rfl, hn1⟩
 have hk2 : Blk h1 h.size [.int .i64 (k), str p, .int .i64 (m), str tg, .int .i64 (z)] := hn1.blk
 refine Av ?_
 refine Ln (Xt (Wq ?_))
 refine Wc [(12, .bool (decide ((k < 0) ∨ (4 ≤ k)))), (2, .int .i64 0), (1, .pointer (some ⟨h.size, 0, none⟩))] (fun h' => h' = h1) ?_ ?_
 ·refine Wg ?_
  refine Lf 0 ?_
  refine Lb Tryz.underlying3 hk2 ?_
  refine Ly Yls ?_
  refine Mv ?_
  refine L_splitd (d := 8) rfl (fun c3 => ?_) (fun c3 => ?_)
  ·refine Sk2 ?_
   refine Skp ?_
   refine Ly Ypt ?_
   refine Ln ?_
   exact X_cut () (sk1 12 (lkb rfl (by first | (simp only [eq_true c3, SB]; done) | (simp only [eq_true c3, SB]; rfl))) (sk1 2 rfl (tk1 1))) rfl
  refine Lf 0 ?_
  refine Lb Tryz.underlying3 hk2 ?_
  refine Ly (Y_geq rfl rfl) ?_
  refine Ly Ypf ?_
  refine Ln ?_
  exact X_cut () (sk1 12 (lkb rfl (by first | (simp only [eq_false c3, SB]; done) | (simp only [eq_false c3, SB]; rfl))) (sk1 2 rfl (tk1 1))) rfl
 rintro h1 rfl
 refine Sd (fun a => ?_) fun a => ?_
 ·refine Wa ?_
  refine Ln (Xt (Wt (Xr ?_)))
  refine Xv1 ?_
  exact ⟨by unfold fcheck; rw [if_pos (by omega)], hn1.ext⟩
 refine Wk (Xt (Wq (Wq (Wg ?_))))
 refine Lf 1 ?_
 refine Lb Tryz.underlying9 hk2 ?_
 refine Lc (pathname_Check _ p (by first | omega | rfl | (simp <;> omega))) ?_
 rintro _ h2 ⟨rfl, hx4⟩
 refine Av ?_
 refine Ln (Xt (Wq (Wg ?_)))
 refine Mv ?_
 refine Ly Yne ?_
 refine Nx ?_
 refine Sd (fun b => ?_) fun b => ?_
 ·refine Wm ?_
  refine An ?_
  refine Wu _ (tk2 2 1) ?_
  refine Wt (Xr ?_)
  refine Xv1 ?_
  exact ⟨by unfold fcheck; rw [if_neg (by omega), if_pos b], (hn1.ext.trans hx4)⟩
 refine Ws ?_
 refine Wu _ (tk2 2 1) ?_
 refine Wq ?_
 refine Wc [(36, .bool (decide (((m < 0) ∨ (4095 < m)) ∨ ((k = 2) ∧ (¬ m = 0))))), (2, .int .i64 0), (1, .pointer (some ⟨h.size, 0, none⟩))] (fun h' => h' = h2) ?_ ?_
 ·refine Wg ?_
  refine Lf 2 ?_
  refine Lb Tryz.underlying3 (hk2.ext hx4) ?_
  refine Ly Yls ?_
  refine Mv ?_
  refine L_splitd (d := 22) rfl (fun c5 => ?_) (fun c5 => ?_)
  ·refine Sk2 ?_
   refine Skp ?_
   refine Ly Ypt ?_
   refine Mv ?_
   refine Sk2 ?_
   refine Sk2 ?_
   refine Sk2 ?_
   refine Sk2 ?_
   refine Ly Ypt ?_
   refine Ln ?_
   exact X_cut () (sk1 36 (lkb rfl (by first | (simp only [eq_true c5, SB]; done) | (simp only [eq_true c5, SB]; rfl))) (sk1 2 rfl (tk1 1))) rfl
  refine Lf 2 ?_
  refine Lb Tryz.underlying3 (hk2.ext hx4) ?_
  refine Ly (Y_gtr rfl rfl) ?_
  refine Ly Ypf ?_
  refine Mv ?_
  refine L_splitd (d := 27) rfl (fun c6 => ?_) (fun c6 => ?_)
  ·refine Sk2 ?_
   refine Sk2 ?_
   refine Sk2 ?_
   refine Sk2 ?_
   refine Ly Ypt ?_
   refine Ln ?_
   exact X_cut () (sk1 36 (lkb rfl (by first | (simp only [eq_false c5, eq_true c6, SB]; done) | (simp only [eq_false c5, eq_true c6, SB]; rfl))) (sk1 2 rfl (tk1 1))) rfl
  refine Lf 0 ?_
  refine Lb Tryz.underlying3 (hk2.ext hx4) ?_
  refine Ly Yeq ?_
  refine Mv ?_
  refine L_splitd (d := 31) rfl (fun c7 => ?_) (fun c7 => ?_)
  ·refine Lf 2 ?_
   refine Lb Tryz.underlying3 (hk2.ext hx4) ?_
   refine Ly Yne ?_
   refine Ly Ypt ?_
   refine Ly Ypf ?_
   refine Ln ?_
   exact X_cut () (sk1 36 (lkb rfl (by first | (simp only [eq_false c5, eq_false c6, eq_true c7, SB]; done) | (simp only [eq_false c5, eq_false c6, eq_true c7, SB]; rfl))) (sk1 2 rfl (tk1 1))) rfl
  refine Sk2 ?_
  refine Skp ?_
  refine Ly Ypf ?_
  refine Ly Ypf ?_
  refine Ln ?_
  exact X_cut () (sk1 36 (lkb rfl (by first | (simp only [eq_false c5, eq_false c6, eq_false c7, SB]; done) | (simp only [eq_false c5, eq_false c6, eq_false c7, SB]; rfl))) (sk1 2 rfl (tk1 1))) rfl
 rintro h2 rfl
 refine Sd (fun c => ?_) fun c => ?_
 ·refine Wa ?_
  refine Ln (Xt (Wt (Xr ?_)))
  refine Xv1 ?_
  exact ⟨by unfold fcheck; rw [if_neg (by omega), if_neg b, if_pos c], (hn1.ext.trans hx4)⟩
 refine Wk (Xt (Wq (Wq (Wg ?_))))
 refine Lg Tryz.underlying37 (hk2.ext hx4) ?_
 refine Lc (fit_checkTarget _ (hK.ext (hn1.ext.trans hx4)) (hE.ext (hn1.ext.trans hx4)) k p m tg z (by first | omega | rfl | (simp <;> omega))) ?_
 rintro _ h3 ⟨rfl, hx8⟩
 refine Av ?_
 refine Ln (Xt (Wq (Wg ?_)))
 refine Mv ?_
 refine Ly Yne ?_
 refine Nx ?_
 refine Sd (fun f => ?_) fun f => ?_
 ·refine Wm ?_
  refine An ?_
  refine Wu _ (tk2 2 1) ?_
  refine Wt (Xr ?_)
  refine Xv1 ?_
  exact ⟨by unfold fcheck; rw [if_neg (by omega), if_neg b, if_neg c, if_pos f], ((hn1.ext.trans hx4).trans hx8)⟩
 refine Ws ?_
 refine Wu _ (tk2 2 1) ?_
 refine Wr ?_
 refine Lg Tryz.underlying37 (hk2.ext (hx4.trans hx8)) ?_
 refine Lc (fit_checkSize _ k p m tg z) ?_
 rintro _ h4 ⟨rfl, hx9⟩
 refine Av ?_
 refine Ln (Xt (Wt ?_))
 refine Xv1 ?_
 exact ⟨by unfold fcheck; rw [if_neg (by omega), if_neg b, if_neg c, if_neg f], (((hn1.ext.trans hx4).trans hx8).trans hx9)⟩

/-! ### Plan -/
def ftyp (k : Int) : Int := byt [53, 48, 50, 49] k.toNat
def frecs (p tg : List UInt8) (z : Int) : List Rec :=
  (if 100 < tg.length then [⟨[108, 105, 110, 107, 112, 97, 116, 104], tg⟩] else []) ++ ((if sok p = true then [] else [⟨[112, 97, 116, 104], p⟩]) ++ (if 8589934591 < z then [⟨[115, 105, 122, 101], Lib.decDigits z.toNat⟩] else []))
def fT (c k : Int) : Int := if c = 0 then ftyp k else 0
def fN (c : Int) (p : List UInt8) : List UInt8 := if c = 0 then snam p else []
def fP (c : Int) (p : List UInt8) : List UInt8 := if c = 0 then spre p else []
def fL (c : Int) (tg : List UInt8) : List UInt8 := if c = 0 then (if 100 < tg.length then [] else tg) else []
def fM (c m : Int) : Int := if c = 0 then m else 0
def fZ (c z : Int) : Int := if c = 0 then (if 8589934591 < z then 0 else z) else 0
def fR (c : Int) (p tg : List UInt8) (z : Int) : List Rec := if c = 0 then frecs p tg z else []

theorem fcheck_kind {k m z : Int} {p tg : List UInt8} (h : fcheck k p m tg z = 0) : 0 ≤ k ∧ k ≤ 3 := by
  unfold fcheck at h
  split at h
  · cases h
  · omega
theorem fcheck_path {k m z : Int} {p tg : List UInt8} (h : fcheck k p m tg z = 0) : pcheck p = 0 := by
  unfold fcheck at h
  split at h
  · cases h
  · split at h
    · rename_i h1; exact absurd h h1
    · rename_i h1; exact Classical.not_not.1 h1

abbrev enS : List UInt8 → Value := fun l => str l
def pm1 (tg : List UInt8) : List (List UInt8 × Value) := if 100 < tg.length then mset [] [108, 105, 110, 107, 112, 97, 116, 104] (str tg) else []
def pm2 (tg p : List UInt8) : List (List UInt8 × Value) := if sok p = true then pm1 tg else mset (pm1 tg) [112, 97, 116, 104] (str p)
def pm3 (tg p : List UInt8) (z : Int) : List (List UInt8 × Value) := if 8589934591 < z then mset (pm2 tg p) [115, 105, 122, 101] (str (Lib.itoa z)) else pm2 tg p
theorem pm1_get (tg k : List UInt8) : mget (pm1 tg) k = if 100 < tg.length then (if k = [108, 105, 110, 107, 112, 97, 116, 104] then some (str tg) else none) else none := by
  unfold pm1; split
  · rw [mget_mset]; rfl
  · rfl
theorem pm2_get (tg p k : List UInt8) : mget (pm2 tg p) k = if sok p = true then mget (pm1 tg) k else (if k = [112, 97, 116, 104] then some (str p) else mget (pm1 tg) k) := by
  unfold pm2; split
  · rfl
  · rw [mget_mset]
theorem pm3_get (tg p k : List UInt8) (z : Int) : mget (pm3 tg p z) k = if 8589934591 < z then (if k = [115, 105, 122, 101] then some (str (Lib.itoa z)) else mget (pm2 tg p) k) else mget (pm2 tg p) k := by
  unfold pm3; split
  · rw [mget_mset]
  · rfl
section
variable {tg p : List UInt8} {z : Int}
theorem pm3_lk : mget (pm3 tg p z) [108, 105, 110, 107, 112, 97, 116, 104] = if 100 < tg.length then some (str tg) else none := by
  rw [pm3_get, pm2_get, pm1_get, if_neg (show ¬ ([108, 105, 110, 107, 112, 97, 116, 104] : List UInt8) = [115, 105, 122, 101] by decide), if_neg (show ¬ ([108, 105, 110, 107, 112, 97, 116, 104] : List UInt8) = [112, 97, 116, 104] by decide), if_pos rfl]
  simp only [ite_self]
theorem pm3_pt : mget (pm3 tg p z) [112, 97, 116, 104] = if sok p = true then none else some (str p) := by
  rw [pm3_get, pm2_get, pm1_get, if_neg (show ¬ ([112, 97, 116, 104] : List UInt8) = [115, 105, 122, 101] by decide), if_pos rfl, if_neg (show ¬ ([112, 97, 116, 104] : List UInt8) = [108, 105, 110, 107, 112, 97, 116, 104] by decide)]
  simp only [ite_self]
theorem pm3_sz : mget (pm3 tg p z) [115, 105, 122, 101] = if 8589934591 < z then some (str (Lib.itoa z)) else none := by
  rw [pm3_get, pm2_get, pm1_get, if_pos rfl, if_neg (show ¬ ([115, 105, 122, 101] : List UInt8) = [112, 97, 116, 104] by decide), if_neg (show ¬ ([115, 105, 122, 101] : List UInt8) = [108, 105, 110, 107, 112, 97, 116, 104] by decide)]
  simp only [ite_self]
end
def pr1 (tg : List UInt8) : List Rec := if 100 < tg.length then [⟨[108, 105, 110, 107, 112, 97, 116, 104], tg⟩] else []
def pr2 (tg p : List UInt8) : List Rec := pr1 tg ++ (if sok p = true then [] else [⟨[112, 97, 116, 104], p⟩])
def pr3 (tg p : List UInt8) (z : Int) : List Rec := pr2 tg p ++ (if 8589934591 < z then [⟨[115, 105, 122, 101], Lib.itoa z⟩] else [])
theorem pr1_len (tg : List UInt8) : (pr1 tg).length ≤ 1 := by unfold pr1; split <;> simp
theorem pr2_len (tg p : List UInt8) : (pr2 tg p).length ≤ 2 := by
  have := pr1_len tg
  unfold pr2
  rw [List.length_append]
  split <;> simp <;> omega
theorem pr3_recs {tg p : List UInt8} {z : Int} : pr3 tg p z = frecs p tg z := by
  unfold pr3 pr2 pr1 frecs
  rw [List.append_assoc]
  by_cases b3 : 8589934591 < z
  · rw [if_pos b3, if_pos b3, itoa_pos (show (0 : Int) ≤ z by omega)]
  · rw [if_neg b3, if_neg b3]
theorem fit_Plan (h : Heap) (hK : GlbK h) (hN : GlbN h) (hE : GlbE h) (hT : GlbT h) (k : Int) (p : List UInt8) (m : Int) (tg : List UInt8) (z : Int) (hp : p.length ≤ 140737488355328) (ht : tg.length ≤ 140737488355328) (hz : -9223372036854775808 ≤ z ∧ z ≤ 9223372036854775807) : Cal Tryz.prog 31 #[.agg #[.int .i64 (k), str p, .int .i64 (m), str tg, .int .i64 (z)]] h (fun v h' => ∃ s1, v = .tuple #[.agg #[.int .u8 (fT (fcheck k p m tg z) k), str (fN (fcheck k p m tg z) p), str (fP (fcheck k p m tg z) p), str (fL (fcheck k p m tg z) tg), .int .i64 (fM (fcheck k p m tg z) m), .int .i64 (fZ (fcheck k p m tg z) z)], s1, .int .i64 (fcheck k p m tg z)] ∧ RowsO recS h' h.size s1 (fR (fcheck k p m tg z) p tg z) ∧ Ext h h') := by
 refine Ce Tryz.func31 fun σ => ?_
 refine Wr ?_
 refine L_mks (M_box rfl) rfl rfl rfl ?_
 rintro _ h1 ⟨rfl, hn1⟩
 have hk2 : Blk h1 h.size [.int .i64 (k), str p, .int .i64 (m), str tg, .int .i64 (z)] := hn1.blk
 refine L_mks (M_alloc (u := .agg #[.int .u8 0, str [], str [], str [], .int .i64 0, .int .i64 0]) (by kernel_rfl)) rfl rfl rfl ?_
 rintro _ h2 ⟨rfl, hn3⟩
 have hk4 : Blk h2 h1.size [.int .u8 0, str [], str [], str [], .int .i64 0, .int .i64 0] := hn3.blk
 refine A2 ?_
 refine Ln (Xt (Wq (Wq (Wg ?_))))
 refine Lg Tryz.underlying37 (hk2.ext hn3.ext) ?_
 refine Lc (fit_Check _ (hK.ext (hn1.ext.trans hn3.ext)) (hE.ext (hn1.ext.trans hn3.ext)) k p m tg z (by first | first | omega | (simp; done) | (simp; omega) | rfl | (simp <;> omega)) (by first | first | omega | (simp; done) | (simp; omega) | rfl | (simp <;> omega))) ?_
 rintro _ h3 ⟨rfl, hx5⟩
 refine Av ?_
 refine Ln (Xt (Wq (Wg ?_)))
 refine Mv ?_
 refine Ly Yne ?_
 refine Nx ?_
 refine Sd (fun e => ?_) fun e => ?_
 ·refine Wr ?_
  refine Ly (Yb (.agg #[.int .u8 0, str [], str [], str [], .int .i64 0, .int .i64 0]) [] [] []) ?_
  refine Mv ?_
  refine Lds [.int .u8 0, str [], str [], str [], .int .i64 0, .int .i64 0] (hk4.ext hx5) ?_
  rintro h4 hp6
  have hk7 : Blk h4 h1.size [.int .u8 0, str [], str [], str [], .int .i64 0, .int .i64 0] := hp6.blk
  refine A2 ?_
  refine Nx ?_
  refine Wu _ (tk4 4 3 2 1) ?_
  refine Wt (Xr ?_)
  refine X_retv3 rfl (RVa Tryz.underlying71 hk7) rfl rfl ?_
  have me1 := ((hn1.ext.trans hn3.ext).trans hx5).then' hp6.only (by simp) hn1.ext.size
  refine ⟨.slice none 0 0, by simp [fT, fN, fP, fL, fM, fZ, e], ?_, me1⟩
  rw [fR, if_neg e]
  exact RowsO.nil _ _ _
 refine Ws ?_
 refine Wu _ (tk4 4 3 2 1) ?_
 have e0 : fcheck k p m tg z = 0 := Classical.not_not.1 e
 have hkk := fcheck_kind e0
 refine Wq ?_
 refine W_pers [(4, .int .i64 0), (3, .slice none 0 0), (2, .pointer (some ⟨h1.size, 0, none⟩)), (1, .pointer (some ⟨h.size, 0, none⟩))] (tk4 4 3 2 1) (by kernel_rfl) ?_
 refine LPc 0 (.pointer (some ⟨h.size, 0 + 0, none⟩)) [] ?_ ?_
 ·intro h5 hx8
  exact Sf 0
 refine LPc 1 (.int .i64 (k)) [(0, 20)] ?_ ?_
 ·intro h6 hx9
  rintro _ rfl
  exact Sb Tryz.underlying3 (hk2.ext ((hn3.ext.trans hx5).trans hx9))
 refine LPc 2 (.pointer (some (elemAddr (.slice (some ⟨6, 0, none⟩) 4 4) ((k).toNat * 1)))) [(1, 21)] ?_ ?_
 ·intro h7 hx10
  rintro _ rfl
  exact Sy (Y_arraddr Tryz.underlying131 (show _ = some 1 by kernel_rfl) rfl rfl (by first | omega | (simp; done) | (simp; omega)) (by first | omega | (simp; done) | (simp; omega)))
 refine LPc 3 (.int .u8 (byt ([53, 48, 50, 49] : List UInt8) (k).toNat)) [(2, 22)] ?_ ?_
 ·intro h8 hx12
  rintro _ rfl
  exact Sy (Y_ldbyte Tryz.underlying5 rfl rfl ((Cls.bytesG (l := [53, 48, 50, 49]) hT.g0 rfl (by decide)).ext (((hn1.ext.trans hn3.ext).trans hx5).trans hx12)) (by first | omega | (simp; done) | (simp; omega)) (by first | omega | (simp; done) | (simp; omega)))
 refine LPc 4 (.pointer (some ⟨h.size, 0 + 2, none⟩)) [] ?_ ?_
 ·intro h9 hx13
  exact Sf 2
 refine LPc 5 (.int .i64 (m)) [(4, 24)] ?_ ?_
 ·intro h10 hx14
  rintro _ rfl
  exact Sb Tryz.underlying3 (hk2.ext ((hn3.ext.trans hx5).trans hx14))
 refine LPc 6 (.agg #[.int .u8 (byt ([53, 48, 50, 49] : List UInt8) (k).toNat), str [], str [], str [], .int .i64 (m), .int .i64 0]) [(5, 25), (3, 23)] ?_ ?_
 ·intro h11 hx15
  rintro _ rfl
  rintro _ rfl
  exact Sy (Y_build (v := .agg #[.int .u8 (byt ([53, 48, 50, 49] : List UInt8) (k).toNat), str [], str [], str [], .int .i64 (m), .int .i64 0]) (pv := [(0, .int .u8 (byt ([53, 48, 50, 49] : List UInt8) (k).toNat)), (4, .int .i64 (m))]) (evp (is := [0, 4]) (os := [.tmp 23, .tmp 25]) (vs := [.int .u8 (byt ([53, 48, 50, 49] : List UInt8) (k).toNat), .int .i64 (m)]) rfl rfl) (fun _ => by kernel_rfl))
 refine LP_op 7 (fun hh vv => ∃ r4_1, vv = .pointer (some ⟨r4_1, 0, none⟩) ∧ Blk hh r4_1 [.int .u8 0, str [], str [], str [], .int .i64 0, .int .i64 0] ∧ h3.size ≤ r4_1) [] rfl rfl (by kernel_rfl) (fun _ _ _ x_ p_ => by obtain ⟨r4_1, rfl, q4_1, q4_1l⟩ := p_; exact ⟨_, rfl, q4_1.ext x_, q4_1l⟩) ?_ ?_
 ·intro h12 hx16
  refine Nn ?_
  refine Stp_mks (M_alloc (u := .agg #[.int .u8 0, str [], str [], str [], .int .i64 0, .int .i64 0]) (by kernel_rfl)) rfl ?_
  rintro _ h13 ⟨rfl, hn17⟩
  have hk18 : Blk h13 h12.size [.int .u8 0, str [], str [], str [], .int .i64 0, .int .i64 0] := hn17.blk
  exact ⟨hn17.ext, ⟨h12.size, rfl, hk18, hx16.size⟩⟩
 refine LP_tail rfl 8 [(6, 26), (7, 6)] rfl rfl (by kernel_rfl) (by kernel_rfl) (by kernel_rfl) rfl ?_
 intro h14 hx19
 rintro _ rfl
 rintro _ ⟨r4_1, rfl, q4_1, q4_1l⟩
 refine Nn ?_
 refine Lds [.int .u8 (byt ([53, 48, 50, 49] : List UInt8) (k).toNat), str [], str [], str [], .int .i64 (m), .int .i64 0] q4_1 ?_
 rintro h15 hp20
 have hk21 : Blk h15 r4_1 [.int .u8 (byt ([53, 48, 50, 49] : List UInt8) (k).toNat), str [], str [], str [], .int .i64 (m), .int .i64 0] := hp20.blk
 refine Ln (Xt (Wq (Wg ?_)))
 refine L_mks (M_makeMap (α := List UInt8) (fun l : List UInt8 => str l)) rfl rfl rfl ?_
 rintro _ h16 ⟨rfl, hx22, hb23⟩
 refine An ?_
 have hg67 : ∀ b ∈ [r4_1, h15.size], h3.size ≤ b := by intro b hb; simp only [List.mem_cons, List.not_mem_nil, or_false] at hb; rcases hb with hb | hb; exact hb ▸ q4_1l; exact hb ▸ (nt hx19.size hp20.only.size)
 refine W_cut (S := Unit) (fun _u => [(7, .map (some h15.size)), (6, .pointer (some ⟨r4_1, 0, none⟩)), (4, .int .i64 0), (3, .slice none 0 0), (2, .pointer (some ⟨h1.size, 0, none⟩)), (1, .pointer (some ⟨h.size, 0, none⟩))]) (fun _u h' => Only [r4_1, h15.size] h16 h' ∧ Blk h' (r4_1) [.int .u8 (ftyp k), str [], str [], str (if 100 < tg.length then [] else tg), .int .i64 m, .int .i64 0] ∧ MapK enS h' (h15.size) (pm1 tg)) ?_ ?_
 ·refine Wr ?_
  refine Lf 3 ?_
  have me2 := ((hn3.ext.trans hx5).trans hx19).then' hp20.only (by simp) (nt (nt hn3.ext.size hx5.size) q4_1l)
  refine Lb Tryz.underlying9 (hk2.ext (me2.trans hx22)) ?_
  refine Ly (Y_slen Tryz.underlying9 rfl) ?_
  refine Ly (Y_gtr rfl rfl) ?_
  refine Nx ?_
  refine Sd (fun c1 => ?_) fun c1 => ?_
  ·refine Wg ?_
   refine Mv ?_
   refine Lf 3 ?_
   refine Lb Tryz.underlying9 (hk2.ext (me2.trans hx22)) ?_
   refine L_dos (D_update keyS Tryz.underlying156 Tryz.underlying9 rfl rfl rfl hb23) rfl rfl ?_
   rintro h17 ⟨hx24, -, hb25⟩
   refine Ln ?_
   refine X_cut (()) (tk6 7 6 4 3 2 1) ?_
   exact ⟨(Only.trans (Only.refl _ _) hx24 (fun _ hb_ => .inl (by simp only [List.mem_cons, List.not_mem_nil, or_false] at hb_ ⊢; simp [hb_]))), by rw [if_pos (show 100 < tg.length by omega)]; exact (hk21.ext (hx22.then' hx24 (by simp) (Nat.le_refl _))), MapK.congr hb25 (if_pos (show 100 < tg.length by omega)).symm⟩
  refine Wg ?_
  refine Lf 3 ?_
  refine Lb Tryz.underlying9 (hk2.ext (me2.trans hx22)) ?_
  refine Lf 3 ?_
  refine Lds [str tg] (hk21.ext hx22) ?_
  rintro h18 hp26
  have hk27 : Blk h18 r4_1 [.int .u8 (byt ([53, 48, 50, 49] : List UInt8) (k).toNat), str [], str [], str tg, .int .i64 (m), .int .i64 0] := hp26.blk
  refine Ln ?_
  refine X_cut (()) (tk6 7 6 4 3 2 1) ?_
  have hc28 := (hb23.only hp26.only (ni_gt (ntl q4_1.lt hp20.only.size)))
  exact ⟨(Only.trans (Only.refl _ _) hp26.only (fun _ hb_ => .inl (by simp only [List.mem_cons, List.not_mem_nil, or_false] at hb_ ⊢; simp [hb_]))), by rw [if_neg (show ¬ 100 < tg.length by omega)]; exact hk27, MapK.congr hc28 (if_neg (show ¬ 100 < tg.length by omega)).symm⟩
 rintro _u h19 ⟨hoA, hbA, hmA⟩
 show W _ _ _ _ _ [(7, .map (some h15.size)), (6, .pointer (some ⟨r4_1, 0, none⟩)), (4, .int .i64 0), (3, .slice none 0 0), (2, .pointer (some ⟨h1.size, 0, none⟩)), (1, .pointer (some ⟨h.size, 0, none⟩))] _
 refine Wa ?_
 refine Nx ?_
 refine W_cut (S := Unit) (fun _u => [(7, .map (some h15.size)), (6, .pointer (some ⟨r4_1, 0, none⟩)), (4, .int .i64 0), (3, .slice none 0 0), (2, .pointer (some ⟨h1.size, 0, none⟩)), (1, .pointer (some ⟨h.size, 0, none⟩))]) (fun _u h' => Only [r4_1, h15.size] h19 h' ∧ Blk h' (r4_1) [.int .u8 (ftyp k), str (snam p), str (spre p), str (if 100 < tg.length then [] else tg), .int .i64 m, .int .i64 0] ∧ MapK enS h' (h15.size) (pm2 tg p)) ?_ ?_
 ·refine Wr ?_
  refine Lf 1 ?_
  have me3 := ((hn3.ext.trans hx5).trans hx19).then' hp20.only (by simp) (nt (nt hn3.ext.size hx5.size) q4_1l)
  have me4 := (me3.trans hx22).then' hoA hg67 (nt hn3.ext.size hx5.size)
  refine Lb Tryz.underlying9 (hk2.ext me4) ?_
  refine Lc (pathname_Split _ p (by first | first | omega | (simp; done) | (simp; omega) | rfl | (simp <;> omega))) ?_
  rintro _ h19 ⟨rfl, rfl⟩
  refine Mx ?_
  refine Lx ?_
  refine Lf 2 ?_
  refine Lds [str (spre p)] hbA ?_
  rintro h20 hp29
  have hk30 : Blk h20 r4_1 [.int .u8 (ftyp k), str [], str (spre p), str (if 100 < tg.length then [] else tg), .int .i64 (m), .int .i64 0] := hp29.blk
  refine Lf 1 ?_
  refine Lds [str (snam p)] hk30 ?_
  rintro h21 hp31
  have hk32 : Blk h21 r4_1 [.int .u8 (ftyp k), str (snam p), str (spre p), str (if 100 < tg.length then [] else tg), .int .i64 (m), .int .i64 0] := hp31.blk
  refine An ?_
  refine Wu _ (tk7 8 7 6 4 3 2 1) ?_
  refine Wm ?_
  refine Ly (Y_not rfl) ?_
  refine Nx ?_
  refine W_split rfl (fun c2 => ?_) (fun c2 => ?_)
  ·refine Wg ?_
   refine Mv ?_
   refine Lf 1 ?_
   have me5 := me4.then' hp29.only (by simp) (nt (nt hn3.ext.size hx5.size) q4_1l)
   have me6 := me5.then' hp31.only (by simp) (nt (nt hn3.ext.size hx5.size) q4_1l)
   refine Lb Tryz.underlying9 (hk2.ext me6) ?_
   have hc35 := ((hmA.only hp29.only (ni_gt (ntl q4_1.lt hp20.only.size))).only hp31.only (ni_gt (ntl q4_1.lt hp20.only.size)))
   refine L_dos (D_update keyS Tryz.underlying156 Tryz.underlying9 rfl rfl rfl hc35) rfl rfl ?_
   rintro h22 ⟨hx33, -, hb34⟩
   refine Ln ?_
   refine X_cut (()) (tk6 7 6 4 3 2 1) ?_
   have hc36 := (hk32.only hx33 (ni_lt (ntl q4_1.lt hp20.only.size)))
   exact ⟨(Only.trans (Only.trans (Only.trans (Only.refl _ _) hp29.only (fun _ hb_ => .inl (by simp only [List.mem_cons, List.not_mem_nil, or_false] at hb_ ⊢; simp [hb_]))) hp31.only (fun _ hb_ => .inl (by simp only [List.mem_cons, List.not_mem_nil, or_false] at hb_ ⊢; simp [hb_]))) hx33 (fun _ hb_ => .inl (by simp only [List.mem_cons, List.not_mem_nil, or_false] at hb_ ⊢; simp [hb_]))), hc36, MapK.congr hb34 (if_neg (by simpa using c2)).symm⟩
  refine Wk ?_
  refine X_cut (()) (tk6 7 6 4 3 2 1) ?_
  have hc37 := ((hmA.only hp29.only (ni_gt (ntl q4_1.lt hp20.only.size))).only hp31.only (ni_gt (ntl q4_1.lt hp20.only.size)))
  exact ⟨(Only.trans (Only.trans (Only.refl _ _) hp29.only (fun _ hb_ => .inl (by simp only [List.mem_cons, List.not_mem_nil, or_false] at hb_ ⊢; simp [hb_]))) hp31.only (fun _ hb_ => .inl (by simp only [List.mem_cons, List.not_mem_nil, or_false] at hb_ ⊢; simp [hb_]))), hk32, MapK.congr hc37 (if_pos (by simpa using c2)).symm⟩
 rintro _u h23 ⟨hoB, hbB, hmB⟩
 show W _ _ _ _ _ [(7, .map (some h15.size)), (6, .pointer (some ⟨r4_1, 0, none⟩)), (4, .int .i64 0), (3, .slice none 0 0), (2, .pointer (some ⟨h1.size, 0, none⟩)), (1, .pointer (some ⟨h.size, 0, none⟩))] _
 refine W_cut (S := Unit) (fun _u => [(7, .map (some h15.size)), (6, .pointer (some ⟨r4_1, 0, none⟩)), (4, .int .i64 0), (3, .slice none 0 0), (2, .pointer (some ⟨h1.size, 0, none⟩))]) (fun _u h' => Only [r4_1, h15.size] h23 h' ∧ Blk h' (r4_1) [.int .u8 (ftyp k), str (snam p), str (spre p), str (if 100 < tg.length then [] else tg), .int .i64 m, .int .i64 (if 8589934591 < z then 0 else z)] ∧ MapK enS h' (h15.size) (pm3 tg p z)) ?_ ?_
 ·refine Wr ?_
  refine Lf 4 ?_
  have me7 := ((hn3.ext.trans hx5).trans hx19).then' hp20.only (by simp) (nt (nt hn3.ext.size hx5.size) q4_1l)
  have me8 := (me7.trans hx22).then' hoA hg67 (nt hn3.ext.size hx5.size)
  refine Lb Tryz.underlying2 (hk2.ext (me8.then' hoB hg67 (nt hn3.ext.size hx5.size))) ?_
  refine Ly (Y_gtr rfl rfl) ?_
  refine Nx ?_
  refine Sd (fun c3 => ?_) fun c3 => ?_
  ·refine Wg ?_
   refine Mv ?_
   refine Lf 4 ?_
   refine Lb Tryz.underlying2 (hk2.ext (me8.then' hoB hg67 (nt hn3.ext.size hx5.size))) ?_
   have me9 := (((hn1.ext.trans hn3.ext).trans hx5).trans hx19).then' hp20.only (by simp) (nt (nt (nt hn1.ext.size hn3.ext.size) hx5.size) q4_1l)
   have me10 := (me9.trans hx22).then' hoA hg67 (nt (nt hn1.ext.size hn3.ext.size) hx5.size)
   have me11 := me10.then' hoB hg67 (nt (nt hn1.ext.size hn3.ext.size) hx5.size)
   refine Lc (strconv_FormatInt _ (hN.ext me11) z (by first | first | omega | (simp; done) | (simp; omega) | rfl | (simp <;> omega))) ?_
   rintro _ h24 ⟨rfl, hx38⟩
   refine L_dos (D_update keyS Tryz.underlying156 Tryz.underlying9 rfl rfl rfl (hmB.ext hx38)) rfl rfl ?_
   rintro h25 ⟨hx39, -, hb40⟩
   refine Ln ?_
   refine X_cut (()) (tk5 7 6 4 3 2) ?_
   have hc41 := ((hbB.ext hx38).only hx39 (ni_lt (ntl q4_1.lt hp20.only.size)))
   exact ⟨(Only.trans (Only.trans (Only.refl _ _) hx38 (fun _ hb_ => by cases hb_)) hx39 (fun _ hb_ => .inl (by simp only [List.mem_cons, List.not_mem_nil, or_false] at hb_ ⊢; simp [hb_]))), by rw [if_pos c3]; exact hc41, MapK.congr hb40 (if_pos c3).symm⟩
  refine Wg ?_
  refine Lf 4 ?_
  refine Lb Tryz.underlying2 (hk2.ext (me8.then' hoB hg67 (nt hn3.ext.size hx5.size))) ?_
  refine Lf 5 ?_
  refine Lds [.int .i64 (z)] hbB ?_
  rintro h26 hp42
  have hk43 : Blk h26 r4_1 [.int .u8 (ftyp k), str (snam p), str (spre p), str (if 100 < tg.length then [] else tg), .int .i64 (m), .int .i64 (z)] := hp42.blk
  refine Ln ?_
  refine X_cut (()) (tk5 7 6 4 3 2) ?_
  have hc44 := (hmB.only hp42.only (ni_gt (ntl q4_1.lt hp20.only.size)))
  exact ⟨(Only.trans (Only.refl _ _) hp42.only (fun _ hb_ => .inl (by simp only [List.mem_cons, List.not_mem_nil, or_false] at hb_ ⊢; simp [hb_]))), by rw [if_neg c3]; exact hk43, MapK.congr hc44 (if_neg c3).symm⟩
 rintro _u h27 ⟨hoC, hbC, hmC⟩
 show W _ _ _ _ _ [(7, .map (some h15.size)), (6, .pointer (some ⟨r4_1, 0, none⟩)), (4, .int .i64 0), (3, .slice none 0 0), (2, .pointer (some ⟨h1.size, 0, none⟩))] _
 refine Wa ?_
 refine Ln (Xt (Wq (Wq (Wg ?_))))
 have me12 := (((hn1.ext.trans hn3.ext).trans hx5).trans hx19).then' hp20.only (by simp) (nt (nt (nt hn1.ext.size hn3.ext.size) hx5.size) q4_1l)
 have me13 := (me12.trans hx22).then' hoA hg67 (nt (nt hn1.ext.size hn3.ext.size) hx5.size)
 have me14 := me13.then' hoB hg67 (nt (nt hn1.ext.size hn3.ext.size) hx5.size)
 have me15 := me14.then' hoC hg67 (nt (nt hn1.ext.size hn3.ext.size) hx5.size)
 refine Lc (rec_Keys _ (hK.ext me15)) ?_
 rintro s045 h28 ⟨_, rfl, hr046, hx47⟩
 refine Ly (Y_lenr Tryz.underlying160 rfl hr046) ?_
 refine Mv ?_
 refine Ln (Xt (Wb ?_))
 refine W_rounds 4 ?_
 refine Wr ?_
 refine Ly Yls ?_
 refine Ln (Xt (Wq ?_))
 refine W_known true rfl (by exact decide_eq_true (by decide)) ?_
 refine Ws ?_
 refine W_cut (S := Value) (fun u1 => [(65, .bool (decide (0 < (rkeys.length : Int)))), (64, .int .i64 0), (63, .int .i64 ((rkeys.length : Int))), (62, s045), (7, .map (some h15.size)), (6, .pointer (some ⟨r4_1, 0, none⟩)), (4, .int .i64 0), (3, .slice none 0 0), (2, .pointer (some ⟨h1.size, 0, none⟩)), (9, u1)]) (fun u1 h' => RowsO recS h' h28.size u1 (pr1 tg) ∧ Ext h28 h') ?_ ?_
 ·refine Wb (Wq (Wg ?_))
  refine Ly (Y_idxr Tryz.underlying160 (show _ = some 1 by kernel_rfl) rfl rfl rfl hr046 (by first | omega | (simp; done) | (simp; omega)) (by first | omega | (simp; done) | (simp; omega))) ?_
  refine Ly (Y_ldr0 (k := 0) Tryz.underlying9 rfl rfl rfl hr046 (by first | omega | (simp; done) | (simp; omega)) rfl) ?_
  refine An ?_
  by_cases b1 : 100 < tg.length
  ·refine Wm ?_
   refine Mv ?_
   have hg48 : mget (pm3 tg p z) [108, 105, 110, 107, 112, 97, 116, 104] = some (str tg) := by rw [pm3_lk, if_pos b1]
   refine Ly (Y_look2s keyS Tryz.underlying156 Tryz.underlying9 (u := (str [])) (by kernel_rfl) rfl rfl (hmC.ext hx47) hg48) ?_
   refine Mx ?_
   refine A2 ?_
   refine Ln (Xt (Wq (Wg ?_)))
   refine Mv ?_
   refine Nx ?_
   refine W_true rfl ?_
   refine Wg ?_
   refine M2 ?_
   refine Mv ?_
   refine Ly (Yb (.agg #[str [108, 105, 110, 107, 112, 97, 116, 104], str tg]) [0, 1] [.tmp 76, .tmp 77] [str [108, 105, 110, 107, 112, 97, 116, 104], str tg]) ?_
   refine L_mks (M_litr (S := recS) (l := [⟨[108, 105, 110, 107, 112, 97, 116, 104], tg⟩]) (cells := [str [108, 105, 110, 107, 112, 97, 116, 104], str tg]) (pv := [(0, .agg #[str [108, 105, 110, 107, 112, 97, 116, 104], str tg])]) (E := 139) (evp (is := [0]) (os := [.tmp 78]) (vs := [.agg #[str [108, 105, 110, 107, 112, 97, 116, 104], str tg]]) rfl rfl) rfl rfl (fun _ => by kernel_rfl) (by simp only [List.mem_cons, List.not_mem_nil, or_false, forall_eq_or_imp, forall_eq]; exact trivial)) rfl rfl rfl ?_
   rintro v49 h29 ⟨ho50, hx51⟩
   refine L_mks (M_appr0 nsRec (z := 2) (bytes := 32) (z0 := (.agg #[str [], str []])) Tryz.underlying74 (by unfold elemRow; kernel_rfl) rfl rfl (by decide) rfl rfl (RowsO.nil recS _ h29.size) ho50.rows (Nat.le_refl _) (by first | (simp only [List.length_cons, List.length_nil]; omega) | (simp; done) | (simp; omega))) rfl rfl rfl ?_
   rintro v52 h30 ha53
   refine Av ?_
   refine Ln (Xb ?_)
   refine X_cut (v52) (sk2 65 64 rfl rfl (tk8 63 62 7 6 4 3 2 9)) ?_
   exact ⟨by rw [pr1, if_pos b1]; exact (ha53.own).low hx51.size, (hx51.then' ha53.only ha53.ge hx51.size)⟩
  refine Wm ?_
  refine Mv ?_
  have hg54 : mget (pm3 tg p z) [108, 105, 110, 107, 112, 97, 116, 104] = none := by rw [pm3_lk, if_neg b1]
  refine Ly (Y_look2n keyS Tryz.underlying156 Tryz.underlying9 (u := (str [])) (by kernel_rfl) rfl rfl (hmC.ext hx47) hg54) ?_
  refine Mx ?_
  refine A2 ?_
  refine Ln (Xt (Wq (Wg ?_)))
  refine Mv ?_
  refine Nx ?_
  refine W_false rfl ?_
  refine Wk (Xb ?_)
  refine X_cut (.slice none 0 0) (sk2 65 64 rfl rfl (tk8 63 62 7 6 4 3 2 9)) ?_
  exact ⟨by rw [pr1, if_neg b1]; exact RowsO.nil _ _ _, (Ext.refl _)⟩
 rintro u1 h31 ⟨ho1, hx1⟩
 show W _ _ _ _ _ [(65, .bool (decide (0 < (rkeys.length : Int)))), (64, .int .i64 0), (63, .int .i64 ((rkeys.length : Int))), (62, s045), (7, .map (some h15.size)), (6, .pointer (some ⟨r4_1, 0, none⟩)), (4, .int .i64 0), (3, .slice none 0 0), (2, .pointer (some ⟨h1.size, 0, none⟩)), (9, u1)] _
 refine Wg ?_
 refine Ly (Y_addl (r := 1) rfl rfl (by decide) (by decide) (by decide)) ?_
 refine Mv ?_
 refine Ln ?_
 refine X_round ?_
 refine Wr ?_
 refine Ly Yls ?_
 refine Ln (Xt (Wq ?_))
 refine W_known true rfl (by exact decide_eq_true (by decide)) ?_
 refine Ws ?_
 have hR1 := pr1_len tg
 have hge1 : ∀ b ∈ (blockOf u1).toList, h28.size ≤ b := fun b hb => (Own.lt ho1.1 b (by simpa using hb)).1
 refine W_cut (S := Value) (fun u2 => [(65, .bool (decide (1 < (rkeys.length : Int)))), (64, .int .i64 1), (81, .int .i64 1), (63, .int .i64 ((rkeys.length : Int))), (62, s045), (7, .map (some h15.size)), (6, .pointer (some ⟨r4_1, 0, none⟩)), (4, .int .i64 0), (3, .slice none 0 0), (2, .pointer (some ⟨h1.size, 0, none⟩)), (9, u2)]) (fun u2 h' => RowsO recS h' h28.size u2 (pr2 tg p) ∧ Only (blockOf u1).toList h31 h') ?_ ?_
 ·refine Wb (Wq (Wg ?_))
  refine Ly (Y_idxr Tryz.underlying160 (show _ = some 1 by kernel_rfl) rfl rfl rfl (hr046.ext hx1) (by first | omega | (simp; done) | (simp; omega)) (by first | omega | (simp; done) | (simp; omega))) ?_
  refine Ly (Y_ldr0 (k := 1) Tryz.underlying9 rfl rfl rfl (hr046.ext hx1) (by first | omega | (simp; done) | (simp; omega)) rfl) ?_
  refine An ?_
  by_cases b2 : sok p = true
  ·refine Wm ?_
   refine Mv ?_
   have hg55 : mget (pm3 tg p z) [112, 97, 116, 104] = none := by rw [pm3_pt, if_pos b2]
   refine Ly (Y_look2n keyS Tryz.underlying156 Tryz.underlying9 (u := (str [])) (by kernel_rfl) rfl rfl (hmC.ext (hx47.trans hx1)) hg55) ?_
   refine Mx ?_
   refine A2 ?_
   refine Ln (Xt (Wq (Wg ?_)))
   refine Mv ?_
   refine Nx ?_
   refine W_false rfl ?_
   refine Wk (Xb ?_)
   refine X_cut (u1) (sk3 65 64 81 rfl rfl rfl (tk8 63 62 7 6 4 3 2 9)) ?_
   exact ⟨RowsO.congr ho1 (by rw [pr2, if_pos b2, List.append_nil]), (Only.refl _ _)⟩
  refine Wm ?_
  refine Mv ?_
  have hg56 : mget (pm3 tg p z) [112, 97, 116, 104] = some (str p) := by rw [pm3_pt, if_neg b2]
  refine Ly (Y_look2s keyS Tryz.underlying156 Tryz.underlying9 (u := (str [])) (by kernel_rfl) rfl rfl (hmC.ext (hx47.trans hx1)) hg56) ?_
  refine Mx ?_
  refine A2 ?_
  refine Ln (Xt (Wq (Wg ?_)))
  refine Mv ?_
  refine Nx ?_
  refine W_true rfl ?_
  refine Wg ?_
  refine M2 ?_
  refine Mv ?_
  refine Ly (Yb (.agg #[str [112, 97, 116, 104], str p]) [0, 1] [.tmp 76, .tmp 77] [str [112, 97, 116, 104], str p]) ?_
  refine L_mks (M_litr (S := recS) (l := [⟨[112, 97, 116, 104], p⟩]) (cells := [str [112, 97, 116, 104], str p]) (pv := [(0, .agg #[str [112, 97, 116, 104], str p])]) (E := 139) (evp (is := [0]) (os := [.tmp 78]) (vs := [.agg #[str [112, 97, 116, 104], str p]]) rfl rfl) rfl rfl (fun _ => by kernel_rfl) (by simp only [List.mem_cons, List.not_mem_nil, or_false, forall_eq_or_imp, forall_eq]; exact trivial)) rfl rfl rfl ?_
  rintro v57 h32 ⟨ho58, hx59⟩
  refine L_mks (M_appr0 nsRec (z := 2) (bytes := 32) (z0 := (.agg #[str [], str []])) Tryz.underlying74 (by unfold elemRow; kernel_rfl) rfl rfl (by decide) rfl rfl (ho1.ext hx59) ho58.rows (nt hx1.size hx59.size) (by first | (simp only [List.length_cons, List.length_nil]; omega) | (simp; done) | (simp; omega))) rfl rfl rfl ?_
  rintro v60 h33 ha61
  refine Av ?_
  refine Ln (Xb ?_)
  refine X_cut (v60) (sk3 65 64 81 rfl rfl rfl (tk8 63 62 7 6 4 3 2 9)) ?_
  exact ⟨RowsO.congr ha61.own (by rw [pr2, if_neg b2]), (Only.trans (Only.trans (Only.refl _ _) hx59 (fun _ hb_ => by cases hb_)) ha61.only (fun _ hb_ => .inl (by first | exact hb_ | exact List.mem_append_right _ hb_ | simp [blockOf] at hb_)))⟩
 rintro u2 h34 ⟨ho2, hx2⟩
 show W _ _ _ _ _ [(65, .bool (decide (1 < (rkeys.length : Int)))), (64, .int .i64 1), (81, .int .i64 1), (63, .int .i64 ((rkeys.length : Int))), (62, s045), (7, .map (some h15.size)), (6, .pointer (some ⟨r4_1, 0, none⟩)), (4, .int .i64 0), (3, .slice none 0 0), (2, .pointer (some ⟨h1.size, 0, none⟩)), (9, u2)] _
 refine Wg ?_
 refine Ly (Y_addl (r := 2) rfl rfl (by decide) (by decide) (by decide)) ?_
 refine Mv ?_
 refine Ln ?_
 refine X_round ?_
 refine Wr ?_
 refine Ly Yls ?_
 refine Ln (Xt (Wq ?_))
 refine W_known true rfl (by exact decide_eq_true (by decide)) ?_
 refine Ws ?_
 have hR2 := pr2_len tg p
 have hge2 : ∀ b ∈ (blockOf u2).toList, h28.size ≤ b := fun b hb => (Own.lt ho2.1 b (by simpa using hb)).1
 refine W_cut (S := Value) (fun u3 => [(65, .bool (decide (2 < (rkeys.length : Int)))), (64, .int .i64 2), (81, .int .i64 2), (63, .int .i64 ((rkeys.length : Int))), (62, s045), (7, .map (some h15.size)), (6, .pointer (some ⟨r4_1, 0, none⟩)), (4, .int .i64 0), (3, .slice none 0 0), (2, .pointer (some ⟨h1.size, 0, none⟩)), (9, u3)]) (fun u3 h' => RowsO recS h' h28.size u3 (pr3 tg p z) ∧ Only (blockOf u2).toList h34 h') ?_ ?_
 ·refine Wb (Wq (Wg ?_))
  refine Ly (Y_idxr Tryz.underlying160 (show _ = some 1 by kernel_rfl) rfl rfl rfl (hr046.ext (hx1.then' hx2 hge1 (Nat.le_refl _))) (by first | omega | (simp; done) | (simp; omega)) (by first | omega | (simp; done) | (simp; omega))) ?_
  refine Ly (Y_ldr0 (k := 2) Tryz.underlying9 rfl rfl rfl (hr046.ext (hx1.then' hx2 hge1 (Nat.le_refl _))) (by first | omega | (simp; done) | (simp; omega)) rfl) ?_
  refine An ?_
  by_cases b3 : 8589934591 < z
  ·refine Wm ?_
   refine Mv ?_
   have hg62 : mget (pm3 tg p z) [115, 105, 122, 101] = some (str (Lib.itoa z)) := by rw [pm3_sz, if_pos b3]
   refine Ly (Y_look2s keyS Tryz.underlying156 Tryz.underlying9 (u := (str [])) (by kernel_rfl) rfl rfl (hmC.ext ((hx47.trans hx1).then' hx2 hge1 hx47.size)) hg62) ?_
   refine Mx ?_
   refine A2 ?_
   refine Ln (Xt (Wq (Wg ?_)))
   refine Mv ?_
   refine Nx ?_
   refine W_true rfl ?_
   refine Wg ?_
   refine M2 ?_
   refine Mv ?_
   refine Ly (Yb (.agg #[str [115, 105, 122, 101], str (Lib.itoa z)]) [0, 1] [.tmp 76, .tmp 77] [str [115, 105, 122, 101], str (Lib.itoa z)]) ?_
   refine L_mks (M_litr (S := recS) (l := [⟨[115, 105, 122, 101], Lib.itoa z⟩]) (cells := [str [115, 105, 122, 101], str (Lib.itoa z)]) (pv := [(0, .agg #[str [115, 105, 122, 101], str (Lib.itoa z)])]) (E := 139) (evp (is := [0]) (os := [.tmp 78]) (vs := [.agg #[str [115, 105, 122, 101], str (Lib.itoa z)]]) rfl rfl) rfl rfl (fun _ => by kernel_rfl) (by simp only [List.mem_cons, List.not_mem_nil, or_false, forall_eq_or_imp, forall_eq]; exact trivial)) rfl rfl rfl ?_
   rintro v63 h35 ⟨ho64, hx65⟩
   refine L_mks (M_appr0 nsRec (z := 2) (bytes := 32) (z0 := (.agg #[str [], str []])) Tryz.underlying74 (by unfold elemRow; kernel_rfl) rfl rfl (by decide) rfl rfl (ho2.ext hx65) ho64.rows (nt (nt hx1.size hx2.size) hx65.size) (by first | (simp only [List.length_cons, List.length_nil]; omega) | (simp; done) | (simp; omega))) rfl rfl rfl ?_
   rintro v66 h36 ha67
   refine Av ?_
   refine Ln (Xb ?_)
   refine X_cut (v66) (sk3 65 64 81 rfl rfl rfl (tk8 63 62 7 6 4 3 2 9)) ?_
   exact ⟨RowsO.congr ha67.own (by rw [pr3, if_pos b3]), (Only.trans (Only.trans (Only.refl _ _) hx65 (fun _ hb_ => by cases hb_)) ha67.only (fun _ hb_ => .inl (by first | exact hb_ | exact List.mem_append_right _ hb_ | simp [blockOf] at hb_)))⟩
  refine Wm ?_
  refine Mv ?_
  have hg68 : mget (pm3 tg p z) [115, 105, 122, 101] = none := by rw [pm3_sz, if_neg b3]
  refine Ly (Y_look2n keyS Tryz.underlying156 Tryz.underlying9 (u := (str [])) (by kernel_rfl) rfl rfl (hmC.ext ((hx47.trans hx1).then' hx2 hge1 hx47.size)) hg68) ?_
  refine Mx ?_
  refine A2 ?_
  refine Ln (Xt (Wq (Wg ?_)))
  refine Mv ?_
  refine Nx ?_
  refine W_false rfl ?_
  refine Wk (Xb ?_)
  refine X_cut (u2) (sk3 65 64 81 rfl rfl rfl (tk8 63 62 7 6 4 3 2 9)) ?_
  exact ⟨RowsO.congr ho2 (by rw [pr3, if_neg b3, List.append_nil]), (Only.refl _ _)⟩
 rintro u3 h37 ⟨ho3, hx3⟩
 show W _ _ _ _ _ [(65, .bool (decide (2 < (rkeys.length : Int)))), (64, .int .i64 2), (81, .int .i64 2), (63, .int .i64 ((rkeys.length : Int))), (62, s045), (7, .map (some h15.size)), (6, .pointer (some ⟨r4_1, 0, none⟩)), (4, .int .i64 0), (3, .slice none 0 0), (2, .pointer (some ⟨h1.size, 0, none⟩)), (9, u3)] _
 refine Wg ?_
 refine Ly (Y_addl (r := 3) rfl rfl (by decide) (by decide) (by decide)) ?_
 refine Mv ?_
 refine Ln ?_
 refine X_round ?_
 refine Wr ?_
 refine Ly Yls ?_
 refine Ln (Xt (Wq ?_))
 refine W_known false rfl (by exact decide_eq_false (by decide)) ?_
 refine W_exit ?_
 refine Xe (Xe ?_)
 refine X_block_hit ?_
 refine Xt ?_
 refine Wu _ (tk5 6 4 3 2 9) ?_
 refine Wr ?_
 have me16 := ((hx47.trans hx1).then' hx2 hge1 hx47.size).then' hx3 hge2 hx47.size
 refine Lg Tryz.underlying71 (hbC.ext me16) ?_
 refine Mv ?_
 have me17 := (hx5.trans hx19).then' hp20.only (by simp) (nt hx5.size q4_1l)
 have me18 := ((me17.trans hx22).then' hoA hg67 hx5.size).then' hoB hg67 hx5.size
 have me19 := nt (nt (nt (nt hx5.size hx19.size) hp20.only.size) hx22.size) hoA.size
 have me20 := (((me18.then' hoC hg67 hx5.size).trans hx47).trans hx1).then' hx2 hge1 (nt (nt (nt me19 hoB.size) hoC.size) hx47.size)
 have me21 := me20.then' hx3 hge2 (nt (nt (nt me19 hoB.size) hoC.size) hx47.size)
 refine Lds [.int .u8 (ftyp k), str (snam p), str (spre p), str (if 100 < tg.length then [] else tg), .int .i64 (m), .int .i64 ((if 8589934591 < z then 0 else z))] (hk4.ext me21) ?_
 rintro h38 hp69
 have hk70 : Blk h38 h1.size [.int .u8 (ftyp k), str (snam p), str (spre p), str (if 100 < tg.length then [] else tg), .int .i64 (m), .int .i64 ((if 8589934591 < z then 0 else z))] := hp69.blk
 refine A2 ?_
 refine Ln (Xt (Wt ?_))
 refine X_retv3 rfl (RVa Tryz.underlying71 hk70) rfl rfl ?_
 have me22 := nt (nt (nt (nt hn1.ext.size hn3.ext.size) hx5.size) hx19.size) hp20.only.size
 have me23 := nt (nt (nt (nt me22 hx22.size) hoA.size) hoB.size) hoC.size
 have me24 := ((me15.trans hx47).trans hx1).then' hx2 hge1 (nt me23 hx47.size)
 have me25 := (me24.then' hx3 hge2 (nt me23 hx47.size)).then' hp69.only (by simp) hn1.ext.size
 refine ⟨u3, ?_, ?_, me25⟩
 ·rw [e0, fT, fN, fP, fL, fM, fZ, if_pos rfl, if_pos rfl, if_pos rfl, if_pos rfl, if_pos rfl, if_pos rfl]
 rw [e0, fR, if_pos rfl]; exact RowsO.congr (((ho3.only1 nsRec hp69.only (ntl hk4.lt (nt (nt (nt me19 hoB.size) hoC.size) hx47.size)))).low (nt me23 hx47.size)) (pr3_recs)
end Go.Xp
