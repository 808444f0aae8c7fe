/- Layer 15 (rebuild): the Builder: New, Check. -/
import Derived.Test.YtknimfbagbkjfaaDoorFit
import Derived.Laws.Pointers
import Derived.Test.YtknimfbagbkjfaaDoorFlaL
import Derived.Test.YtknimfbagbkjfaaDoorPath
import Derived.Test.YtknimfbagbkjfaaDoorMapI
import Derived.Test.YtknimfbagbkjfaaDoorTreeP
set_option linter.unusedSimpArgs false
set_option linter.unusedVariables false
set_option linter.unusedSectionVars false
namespace Go.Xp
open Go.Proofs

section
variable {P : Program} {n : Nat} {e : Env} {h : Heap} {d : Option Tmp} {t : TypeId} {pos : String} {af : Array Edge} {g : Option (Nat × Bool)} {T T' : TypeId} {x y : Operand}
theorem Y_pnil {ad : Option Addr} (hT : P.underlying T = some (.pointer (P.pointee T))) (hx : ev e x = some (.pointer ad)) (hy : ev e y = some (.pointer none)) : Yld P n e h ⟨d, .binOp .eql T x y T', t, pos, af, g⟩ (.bool ad.isNone) := fun w a _ he => by
  simp only [execOp, he.eval hx, he.eval hy, eqGuard, Sem.run_bind, Sem.run_pure, Result.andThen_ok, run_eql_pointer_nil w T ad hT, Bool.not_true, Bool.not_false, Bool.false_eq_true, if_false, ite_self]
end
abbrev MapF (h : Heap) (m : Nat) (F : List (List UInt8 × Int)) : Prop := MapA (fun l : List UInt8 => str l) (fun z : Int => .int .i64 z) h m F
/-- What Check of a Builder says. -/
def achk (L : List Nod) (D : List (List UInt8)) (F : List (List UInt8 × Int)) (k : Int) (p : List UInt8) (m : Int) (tg : List UInt8) (z : Int) : Int :=
  if ¬ fcheck k p m tg z = 0 then fcheck k p m tg z else if 0 < L.length ∧ 0 ≤ pcmp (at_nod L (L.length - 1)).path p then 12 else if ¬ pparent p ∈ D then 13
  else if k = 3 ∧ (¬ (aget F tg).isSome = true ∨ ¬ (at_nod L ((aget F tg).getD 0).toNat).mode = m) then 15 else 0

section
variable {L : List Nod} {D : List (List UInt8)} {F : List (List UInt8 × Int)} {k m z : Int} {p tg : List UInt8}
theorem achk1 (e : ¬ fcheck k p m tg z = 0) : achk L D F k p m tg z = fcheck k p m tg z := if_pos e
theorem achk12 (e : ¬ ¬ fcheck k p m tg z = 0) (n : 0 < (L.length : Int)) (w : 0 ≤ pcmp (at_nod L ((L.length : Int) - 1).toNat).path p) : achk L D F k p m tg z = 12 := by
  rw [show ((L.length : Int) - 1).toNat = L.length - 1 by omega] at w
  unfold achk; rw [if_neg e, if_pos ⟨by omega, w⟩]
theorem achkq {n : ¬ 0 < (L.length : Int) ∨ ¬ 0 ≤ pcmp (at_nod L ((L.length : Int) - 1).toNat).path p} : ¬ (0 < L.length ∧ 0 ≤ pcmp (at_nod L (L.length - 1)).path p) := fun q => by
  rcases n with n | n
  · exact n (by omega)
  · rw [show ((L.length : Int) - 1).toNat = L.length - 1 by omega] at n; exact n q.2
theorem achk13 (n : ¬ 0 < (L.length : Int) ∨ ¬ 0 ≤ pcmp (at_nod L ((L.length : Int) - 1).toNat).path p) (e : ¬ ¬ fcheck k p m tg z = 0) (d : ¬ pparent p ∈ D) : achk L D F k p m tg z = 13 := by
  unfold achk; rw [if_neg e, if_neg (achkq (n := n)), if_pos d]
theorem achk15 (n : ¬ 0 < (L.length : Int) ∨ ¬ 0 ≤ pcmp (at_nod L ((L.length : Int) - 1).toNat).path p) (e : ¬ ¬ fcheck k p m tg z = 0) (d : ¬ ¬ pparent p ∈ D) (k3 : k = 3) (o : ¬ (aget F tg).isSome = true ∨ ¬ (at_nod L ((aget F tg).getD 0).toNat).mode = m) : achk L D F k p m tg z = 15 := by
  unfold achk; rw [if_neg e, if_neg (achkq (n := n)), if_neg d, if_pos ⟨k3, o⟩]
theorem achk0 (n : ¬ 0 < (L.length : Int) ∨ ¬ 0 ≤ pcmp (at_nod L ((L.length : Int) - 1).toNat).path p) (e : ¬ ¬ fcheck k p m tg z = 0) (d : ¬ ¬ pparent p ∈ D) (o : ¬ (k = 3 ∧ (¬ (aget F tg).isSome = true ∨ ¬ (at_nod L ((aget F tg).getD 0).toNat).mode = m))) : achk L D F k p m tg z = 0 := by
  unfold achk; rw [if_neg e, if_neg (achkq (n := n)), if_neg d, if_neg o]
end
/-- What Add of a Builder says, and what it adds. -/
def aerr (L : List Nod) (D : List (List UInt8)) (F : List (List UInt8 × Int)) (k : Int) (p : List UInt8) (m : Int) (tg : List UInt8) (z : Int) (dat : List UInt8) : Int :=
  if ¬ achk L D F k p m tg z = 0 then achk L D F k p m tg z else if ¬ (dat.length : Int) = z then 2 else 0
def anod (L : List Nod) (F : List (List UInt8 × Int)) (k : Int) (p : List UInt8) (m : Int) (tg : List UInt8) (dv : Value) (dat : List UInt8) : Nod :=
  if k = 1 then ⟨k, p, m, tg, dv, dat, (L.length : Int) + 1⟩
  else if k = 3 then ⟨1, p, m, [], (at_nod L ((aget F tg).getD 0).toNat).dv, (at_nod L ((aget F tg).getD 0).toNat).data, (at_nod L ((aget F tg).getD 0).toNat).cls⟩
  else ⟨k, p, m, tg, dv, dat, 0⟩
def adir (D : List (List UInt8)) (k : Int) (p : List UInt8) : List (List UInt8) := if k = 0 then kins D p else D
def afil (L : List Nod) (F : List (List UInt8 × Int)) (k : Int) (p : List UInt8) : List (List UInt8 × Int) := if k = 1 then aset F p L.length else F
set_option maxRecDepth 100000 in
theorem rebuild_New (h : Heap) : Cal Tryd.prog 17 #[] h (fun v h' => ∃ b m1 m2, v = .pointer (some ⟨b, 0, none⟩) ∧ (h.size ≤ b ∧ h.size ≤ m1 ∧ h.size ≤ m2) ∧ Blk h' b [.slice none 0 0, .map (some m1), .map (some m2)] ∧ SetK h' m1 [[]] ∧ MapF h' m2 [] ∧ Ext h h') := by
 refine Cal_enter (args := []) Tryd.func17 rfl rfl rfl (fun σ => ?_)
 refine Wr ?_
 refine Av ?_
 refine L_nil (X_then (W_seq (W_region ?_)))
 refine L_mks (M_makeMap (α := List UInt8) (fun l : List UInt8 => str l)) rfl rfl rfl ?_
 rintro _ h1 ⟨rfl, hx1, hb2⟩
 refine L_dos (D_insert keyS Tryd.underlying60 Tryd.underlying9 rfl rfl rfl hb2) rfl rfl ?_
 rintro h2 ⟨hx3, -, hb4⟩
 refine Mv ?_
 refine L_mks (M_makeMapA (enc := (fun l : List UInt8 => str l)) (evl := (fun z : Int => .int .i64 z))) rfl rfl rfl ?_
 rintro _ h3 ⟨rfl, hx5, hb6⟩
 refine Ly (Y_build (v := .agg #[.slice none 0 0, .map (some h.size), .map (some h2.size)]) (pv := [(1, .map (some h.size)), (2, .map (some h2.size))]) (evp (is := [1, 2]) (os := [.tmp 2, .tmp 3]) (vs := [.map (some h.size), .map (some h2.size)]) rfl rfl) (fun _ => by kernel_rfl)) ?_
 refine L_mks (M_box rfl) rfl rfl rfl ?_
 rintro _ h4 ⟨rfl, hn7⟩
 have hk8 : Blk h4 h3.size [.slice none 0 0, .map (some h.size), .map (some h2.size)] := hn7.blk
 refine Av ?_
 refine Nx ?_
 refine W_sub _ (tk1 0) ?_
 refine W_ret ?_
 refine X_ret1 rfl rfl ?_
 have me1 := ((hx1.then' hx3 (by simp) (Nat.le_refl _)).trans hx5).trans hn7.ext
 exact ⟨_, _, _, rfl, ⟨(Nat.le_trans (Nat.le_trans hx1.size hx3.size) hx5.size), (Nat.le_refl _), (Nat.le_trans hx1.size hx3.size)⟩, hk8, (hb4.ext (hx5.trans hn7.ext)), (hb6.ext hn7.ext), me1⟩

set_option maxRecDepth 100000 in
theorem builder_Check (h : Heap) (hK : GlbK h) (hE : GlbE h) (b : Nat) (v : Value) (L : List Nod) (hL : Rows nodS h v L) (m1 : Nat) (D : List (List UInt8)) (hD : SetK h m1 D) (m2 : Nat) (F : List (List UInt8 × Int)) (hF : MapF h m2 F) (hb : Blk h b [v, .map (some m1), .map (some m2)]) (k : Int) (p : List UInt8) (m : Int) (tg : List UInt8) (z : Int) (hm : L.length ≤ 1000000000) (hx : ∀ q i, aget F q = some i → 0 ≤ i ∧ i < L.length) (hp : p.length ≤ 140737488355328) (ht : tg.length ≤ 140737488355328) : Cal Tryd.prog 13 #[.pointer (some ⟨b, 0, none⟩), .agg #[.int .i64 (k), str p, .int .i64 (m), str tg, .int .i64 (z)]] h (fun v h' => v = .int .i64 (achk L D F k p m tg z) ∧ Ext h h') := by
 have hx' : (aget F tg).isSome = true → 0 ≤ (aget F tg).getD 0 ∧ (aget F tg).getD 0 < L.length := fun q => by obtain ⟨i, h9⟩ := Option.isSome_iff_exists.1 q; rw [h9]; exact hx _ _ h9
 refine Cal_enter (args := [.pointer (some ⟨b, 0, none⟩), .agg #[.int .i64 (k), str p, .int .i64 (m), str tg, .int .i64 (z)]]) Tryd.func13 rfl rfl rfl (fun σ => ?_)
 refine Wr ?_
 refine L_mks (M_box rfl) rfl rfl rfl ?_
 rintro _ h1 ⟨rfl, hn1⟩
 have hk2 : Blk h1 h.size [.int .i64 (k), str p, .int .i64 (m), str tg, .int .i64 (z)] := hn1.blk
 refine Av ?_
 refine Nx ?_
 refine W_sub _ (tk3 4 3 0) ?_
 refine W_seq (W_seq (W_region ?_))
 refine Mv ?_
 refine Ly (Y_pnil (ad := some ⟨b, 0, none⟩) (show _ = some (TypeDesc.pointer (Tryd.prog.pointee 23)) by kernel_rfl) rfl rfl) ?_
 refine Nx ?_
 refine W_sub _ (tk4 10 4 3 0) ?_
 refine W_false rfl ?_
 refine Ws ?_
 refine W_sub _ (tk3 4 3 0) ?_
 refine W_seq (W_seq (W_region ?_))
 refine Ly (Y_ldbox (us := [.int .i64 (k), str p, .int .i64 (m), str tg, .int .i64 (z)]) Tryd.underlying27 rfl (show _ = some 5 by kernel_rfl) rfl hk2 rfl) ?_
 refine L_call (E_call (by kernel_rfl) rfl) (fit_Check _ (hK.ext hn1.ext) (hE.ext hn1.ext) k p m tg z (by first | omega | rfl | (simp <;> omega)) (by first | omega | rfl | (simp <;> omega))) rfl rfl rfl ?_
 rintro _ h2 ⟨rfl, hx3⟩
 refine Av ?_
 refine Nx ?_
 refine W_sub _ (tk4 5 4 3 0) ?_
 refine Wr ?_
 refine Mv ?_
 refine Ly (Y_neq rfl rfl) ?_
 refine Nx ?_
 refine W_sub _ (tk5 14 5 4 3 0) ?_
 refine W_splitd rfl (fun e => ?_) (fun e => ?_)
 ·refine Wr ?_
  refine Mv ?_
  refine Av ?_
  refine Nx ?_
  refine W_sub _ (tk3 4 3 0) ?_
  refine W_ret (X_then_ret ?_)
  refine X_ret1 rfl rfl ?_
  exact ⟨congrArg (Value.int IntKind.i64) (achk1 e).symm, (hn1.ext.trans hx3)⟩
 refine Ws ?_
 refine W_sub _ (tk3 4 3 0) ?_
 refine W_seq (W_seq (W_region ?_))
 refine Mv ?_
 refine Ly (Y_nilCheck rfl) ?_
 refine Ly (Y_fieldAddr (off := 0) (by kernel_rfl) rfl rfl) ?_
 refine Ly (Y_ldblk Tryd.underlying32 rfl rfl (hb.ext (hn1.ext.trans hx3)) rfl) ?_
 refine Ly (Y_lenr Tryd.underlying32 rfl (hL.ext (hn1.ext.trans hx3))) ?_
 refine Av ?_
 refine Nx ?_
 refine W_sub _ (tk4 6 4 3 0) ?_
 refine W_seq ?_
 refine W_quiet (fun h' => h' = h2) (by kernel_rfl) (by kernel_rfl) rfl ?_
 refine LQ_yld (fun h_ hI_ => by subst hI_; exact Y_move rfl) rfl rfl rfl ?_
 refine LQ_yld (fun h_ hI_ => by subst hI_; exact Y_gtr rfl rfl) rfl rfl rfl ?_
 refine LQ_yld (fun h_ hI_ => by subst hI_; exact Y_move rfl) rfl rfl rfl ?_
 refine LQ_splitd (d := 23) rfl (fun n => ?_) (fun n => ?_)
 ·refine LQ_yld (fun h_ hI_ => by subst hI_; exact Y_move rfl) rfl rfl rfl ?_
  refine LQ_yld (fun h_ hI_ => by subst hI_; exact Y_nilCheck rfl) rfl rfl rfl ?_
  refine LQ_yld (fun h_ hI_ => by subst hI_; exact Y_fieldAddr (off := 0) (by kernel_rfl) rfl rfl) rfl rfl rfl ?_
  refine LQ_yld (fun h_ hI_ => by subst hI_; exact Y_ldblk Tryd.underlying32 rfl rfl (hb.ext (hn1.ext.trans hx3)) rfl) rfl rfl rfl ?_
  refine LQ_yld (fun h_ hI_ => by subst hI_; exact Y_move rfl) rfl rfl rfl ?_
  refine LQ_yld (fun h_ hI_ => by subst hI_; exact Y_sub rfl rfl (by omega) (by omega)) rfl rfl rfl ?_
  refine LQ_yld (fun h_ hI_ => by subst hI_; exact Y_idxr Tryd.underlying32 (show _ = some 6 by kernel_rfl) rfl rfl rfl (hL.ext (hn1.ext.trans hx3)) (by first | omega | (have := hx' (by simpa using o); omega)) (by first | omega | (have := hx' (by simpa using o); omega))) rfl rfl rfl ?_
  refine LQ_yld (fun h_ hI_ => by subst hI_; exact Y_fldr (k := ((L.length : Int) - 1).toNat) (off := 1) (by kernel_rfl) rfl (hL.ext (hn1.ext.trans hx3)) (by first | omega | (have := hx' (by simpa using o); omega))) rfl rfl rfl ?_
  refine LQ_yld (fun h_ hI_ => by subst hI_; exact Y_ldr1 (off := 1) (k := ((L.length : Int) - 1).toNat) (u := str ((at_nod L ((L.length : Int) - 1).toNat).path)) Tryd.underlying9 rfl rfl rfl (hL.ext (hn1.ext.trans hx3)) (by first | omega | (have := hx' (by simpa using o); omega)) rfl) rfl rfl rfl ?_
  refine LQ_yld (fun h_ hI_ => by subst hI_; exact Y_fieldAddr (off := 1) (by kernel_rfl) rfl rfl) rfl rfl rfl ?_
  refine LQ_yld (fun h_ hI_ => by subst hI_; exact Y_ldblk Tryd.underlying9 rfl rfl (hk2.ext hx3) rfl) rfl rfl rfl ?_
  refine LQ_call (v := .int .i64 (pcmp ((at_nod L ((L.length : Int) - 1).toNat).path) p)) (fun _ _ => E_call (by kernel_rfl) rfl) (fun h_ hI_ => by subst hI_; exact (pathname_Compare _ ((at_nod L ((L.length : Int) - 1).toNat).path) p)) rfl rfl rfl ?_
  refine LQ_yld (fun h_ hI_ => by subst hI_; exact Y_geq rfl rfl) rfl rfl rfl ?_
  refine LQ_yld (fun h_ hI_ => by subst hI_; exact Y_pick_t rfl rfl) rfl rfl rfl ?_
  refine LQ_nil ?_
  rintro h2 rfl
  refine X_then ?_
  refine W_sub _ (tk4 37 4 3 0) ?_
  refine W_splitd rfl (fun w => ?_) (fun w => ?_)
  ·refine Wr ?_
   refine Av ?_
   refine Nx ?_
   refine W_sub _ (tk3 4 3 0) ?_
   refine W_ret (X_then_ret ?_)
   refine X_ret1 rfl rfl ?_
   exact ⟨congrArg (Value.int IntKind.i64) (achk12 e n w).symm, (hn1.ext.trans hx3)⟩
  refine Ws ?_
  refine W_sub _ (tk3 4 3 0) ?_
  refine W_seq (W_seq ?_)
  refine W_quiet (fun h' => h' = h2) (by kernel_rfl) (by kernel_rfl) rfl ?_
  refine LQ_yld (fun h_ hI_ => by subst hI_; exact Y_move rfl) rfl rfl rfl ?_
  refine LQ_yld (fun h_ hI_ => by subst hI_; exact Y_nilCheck rfl) rfl rfl rfl ?_
  refine LQ_yld (fun h_ hI_ => by subst hI_; exact Y_fieldAddr (off := 1) (by kernel_rfl) rfl rfl) rfl rfl rfl ?_
  refine LQ_yld (fun h_ hI_ => by subst hI_; exact Y_ldblk Tryd.underlying60 rfl rfl (hb.ext (hn1.ext.trans hx3)) rfl) rfl rfl rfl ?_
  refine LQ_yld (fun h_ hI_ => by subst hI_; exact Y_fieldAddr (off := 1) (by kernel_rfl) rfl rfl) rfl rfl rfl ?_
  refine LQ_yld (fun h_ hI_ => by subst hI_; exact Y_ldblk Tryd.underlying9 rfl rfl (hk2.ext hx3) rfl) rfl rfl rfl ?_
  refine LQ_call (v := str (pparent p)) (fun _ _ => E_call (by kernel_rfl) rfl) (fun h_ hI_ => by subst hI_; exact (pathname_Parent _ p (by first | omega | rfl | (simp <;> omega)))) rfl rfl rfl ?_
  refine LQ_yld (fun h_ hI_ => by subst hI_; exact Y_lookset Tryd.underlying60 Tryd.underlying9 (by kernel_rfl) rfl rfl (hD.ext (hn1.ext.trans hx3))) rfl rfl rfl ?_
  refine LQ_yld (fun h_ hI_ => by subst hI_; exact Y_notd rfl) rfl rfl rfl ?_
  refine LQ_nil ?_
  rintro h2 rfl
  refine X_then ?_
  refine W_sub _ (tk4 46 4 3 0) ?_
  refine W_splitd rfl (fun d => ?_) (fun d => ?_)
  ·refine Wr ?_
   refine Av ?_
   refine Nx ?_
   refine W_sub _ (tk3 4 3 0) ?_
   refine W_ret (X_then_ret ?_)
   refine X_ret1 rfl rfl ?_
   exact ⟨congrArg (Value.int IntKind.i64) (achk13 (.inr w) e d).symm, (hn1.ext.trans hx3)⟩
  refine Ws ?_
  refine W_sub _ (tk3 4 3 0) ?_
  refine W_seq (W_seq (W_region ?_))
  refine Ly (Y_fieldAddr (off := 0) (by kernel_rfl) rfl rfl) ?_
  refine Ly (Y_ldblk Tryd.underlying3 rfl rfl (hk2.ext hx3) rfl) ?_
  refine Ly (Y_eql rfl rfl) ?_
  refine Nx ?_
  refine W_sub _ (tk4 49 4 3 0) ?_
  refine W_splitd rfl (fun k3 => ?_) (fun k3 => ?_)
  ·refine W_seq ?_
   refine W_quiet (fun h' => h' = h2) (by kernel_rfl) (by kernel_rfl) rfl ?_
   refine LQ_yld (fun h_ hI_ => by subst hI_; exact Y_move rfl) rfl rfl rfl ?_
   refine LQ_yld (fun h_ hI_ => by subst hI_; exact Y_nilCheck rfl) rfl rfl rfl ?_
   refine LQ_yld (fun h_ hI_ => by subst hI_; exact Y_fieldAddr (off := 2) (by kernel_rfl) rfl rfl) rfl rfl rfl ?_
   refine LQ_yld (fun h_ hI_ => by subst hI_; exact Y_ldblk Tryd.underlying61 rfl rfl (hb.ext (hn1.ext.trans hx3)) rfl) rfl rfl rfl ?_
   refine LQ_yld (fun h_ hI_ => by subst hI_; exact Y_fieldAddr (off := 3) (by kernel_rfl) rfl rfl) rfl rfl rfl ?_
   refine LQ_yld (fun h_ hI_ => by subst hI_; exact Y_ldblk Tryd.underlying9 rfl rfl (hk2.ext hx3) rfl) rfl rfl rfl ?_
   refine LQ_yld (fun h_ hI_ => by subst hI_; exact Y_look2A (evl := (fun z : Int => .int .i64 z)) (k := tg) (u := (0 : Int)) keyS Tryd.underlying61 Tryd.underlying9 (by kernel_rfl) rfl rfl (hF.ext (hn1.ext.trans hx3))) rfl rfl rfl ?_
   refine LQ_yld (fun h_ hI_ => by subst hI_; exact Y_move rfl) rfl rfl rfl ?_
   refine LQ_yld (fun h_ hI_ => by subst hI_; exact Y_extract (v := .int .i64 ((aget F tg).getD (0 : Int))) rfl rfl) rfl rfl rfl ?_
   refine LQ_yld (fun h_ hI_ => by subst hI_; exact Y_extract (v := .bool ((aget F tg).isSome)) rfl rfl) rfl rfl rfl ?_
   refine LQ_yld (fun h_ hI_ => by subst hI_; exact Y_assign rfl) rfl rfl rfl ?_
   refine LQ_yld (fun h_ hI_ => by subst hI_; exact Y_assign rfl) rfl rfl rfl ?_
   refine LQ_nil ?_
   rintro h2 rfl
   refine X_then ?_
   refine W_sub _ (tk5 8 7 4 3 0) ?_
   refine W_seq ?_
   refine W_quiet (fun h' => h' = h2) (by kernel_rfl) (by kernel_rfl) rfl ?_
   refine LQ_yld (fun h_ hI_ => by subst hI_; exact Y_move rfl) rfl rfl rfl ?_
   refine LQ_yld (fun h_ hI_ => by subst hI_; exact Y_not rfl) rfl rfl rfl ?_
   refine LQ_yld (fun h_ hI_ => by subst hI_; exact Y_move rfl) rfl rfl rfl ?_
   refine LQ_split (d := 62) rfl (fun o => ?_) (fun o => ?_)
   ·refine LQ_skip rfl rfl rfl ?_
    refine LQ_skip rfl rfl rfl ?_
    refine LQ_skip rfl rfl rfl ?_
    refine LQ_skip rfl rfl rfl ?_
    refine LQ_skip rfl rfl rfl ?_
    refine LQ_skip rfl rfl rfl ?_
    refine LQ_skip rfl rfl rfl ?_
    refine LQ_skip rfl rfl rfl ?_
    refine LQ_skip rfl rfl rfl ?_
    refine LQ_skip rfl rfl rfl ?_
    refine LQ_skip rfl rfl rfl ?_
    refine LQ_yld (fun h_ hI_ => by subst hI_; exact Y_pick_t rfl rfl) rfl rfl rfl ?_
    refine LQ_nil ?_
    rintro h2 rfl
    refine X_then ?_
    refine W_sub _ (tk2 74 4) ?_
    refine W_true rfl ?_
    refine Wr ?_
    refine Av ?_
    refine Nx ?_
    refine W_sub _ (tk1 4) ?_
    refine W_ret (X_then_ret ?_)
    refine X_ret1 rfl rfl ?_
    exact ⟨congrArg (Value.int IntKind.i64) (achk15 (.inr w) e d k3 (.inl (by simpa using o))).symm, (hn1.ext.trans hx3)⟩
   refine LQ_yld (fun h_ hI_ => by subst hI_; exact Y_move rfl) rfl rfl rfl ?_
   refine LQ_yld (fun h_ hI_ => by subst hI_; exact Y_nilCheck rfl) rfl rfl rfl ?_
   refine LQ_yld (fun h_ hI_ => by subst hI_; exact Y_fieldAddr (off := 0) (by kernel_rfl) rfl rfl) rfl rfl rfl ?_
   refine LQ_yld (fun h_ hI_ => by subst hI_; exact Y_ldblk Tryd.underlying32 rfl rfl (hb.ext (hn1.ext.trans hx3)) rfl) rfl rfl rfl ?_
   refine LQ_yld (fun h_ hI_ => by subst hI_; exact Y_move rfl) rfl rfl rfl ?_
   refine LQ_yld (fun h_ hI_ => by subst hI_; exact Y_idxr Tryd.underlying32 (show _ = some 6 by kernel_rfl) rfl rfl rfl (hL.ext (hn1.ext.trans hx3)) (by first | omega | (have := hx' (by simpa using o); omega)) (by first | omega | (have := hx' (by simpa using o); omega))) rfl rfl rfl ?_
   refine LQ_yld (fun h_ hI_ => by subst hI_; exact Y_fldr (k := ((aget F tg).getD (0 : Int)).toNat) (off := 2) (by kernel_rfl) rfl (hL.ext (hn1.ext.trans hx3)) (by first | omega | (have := hx' (by simpa using o); omega))) rfl rfl rfl ?_
   refine LQ_yld (fun h_ hI_ => by subst hI_; exact Y_ldr1 (off := 2) (k := ((aget F tg).getD (0 : Int)).toNat) (u := .int .i64 ((at_nod L ((aget F tg).getD (0 : Int)).toNat).mode)) Tryd.underlying3 rfl rfl rfl (hL.ext (hn1.ext.trans hx3)) (by first | omega | (have := hx' (by simpa using o); omega)) rfl) rfl rfl rfl ?_
   refine LQ_yld (fun h_ hI_ => by subst hI_; exact Y_fieldAddr (off := 2) (by kernel_rfl) rfl rfl) rfl rfl rfl ?_
   refine LQ_yld (fun h_ hI_ => by subst hI_; exact Y_ldblk Tryd.underlying3 rfl rfl (hk2.ext hx3) rfl) rfl rfl rfl ?_
   refine LQ_yld (fun h_ hI_ => by subst hI_; exact Y_neq rfl rfl) rfl rfl rfl ?_
   refine LQ_yld (fun h_ hI_ => by subst hI_; exact Y_pick_f rfl rfl) rfl rfl rfl ?_
   refine LQ_nil ?_
   rintro h2 rfl
   refine X_then ?_
   refine W_sub _ (tk2 74 4) ?_
   refine W_splitd rfl (fun y => ?_) (fun y => ?_)
   ·refine Wr ?_
    refine Av ?_
    refine Nx ?_
    refine W_sub _ (tk1 4) ?_
    refine W_ret (X_then_ret ?_)
    refine X_ret1 rfl rfl ?_
    exact ⟨congrArg (Value.int IntKind.i64) (achk15 (.inr w) e d k3 (.inr y)).symm, (hn1.ext.trans hx3)⟩
   refine Ws ?_
   refine W_sub _ (tk1 4) ?_
   refine Wr ?_
   refine Av ?_
   refine L_nil (X_then (W_ret ?_))
   refine X_ret1 rfl rfl ?_
   exact ⟨congrArg (Value.int IntKind.i64) (achk0 (.inr w) e d (fun q => q.2.elim (fun r => r (by simpa using o)) y)).symm, (hn1.ext.trans hx3)⟩
  refine Ws ?_
  refine W_sub _ (tk1 4) ?_
  refine Wr ?_
  refine Av ?_
  refine L_nil (X_then (W_ret ?_))
  refine X_ret1 rfl rfl ?_
  exact ⟨congrArg (Value.int IntKind.i64) (achk0 (.inr w) e d (fun q => k3 q.1)).symm, (hn1.ext.trans hx3)⟩
 refine LQ_skip rfl rfl rfl ?_
 refine LQ_skip rfl rfl rfl ?_
 refine LQ_skip rfl rfl rfl ?_
 refine LQ_skip rfl rfl rfl ?_
 refine LQ_skip rfl rfl rfl ?_
 refine LQ_skip rfl rfl rfl ?_
 refine LQ_skip rfl rfl rfl ?_
 refine LQ_skip rfl rfl rfl ?_
 refine LQ_skip rfl rfl rfl ?_
 refine LQ_skip rfl rfl rfl ?_
 refine LQ_skip rfl rfl rfl ?_
 refine LQ_skip rfl rfl rfl ?_
 refine LQ_skip rfl rfl rfl ?_
 refine LQ_yld (fun h_ hI_ => by subst hI_; exact Y_pick_f rfl rfl) rfl rfl rfl ?_
 refine LQ_nil ?_
 rintro h2 rfl
 refine X_then ?_
 refine W_sub _ (tk4 37 4 3 0) ?_
 refine W_false rfl ?_
 refine Ws ?_
 refine W_sub _ (tk3 4 3 0) ?_
 refine W_seq (W_seq ?_)
 refine W_quiet (fun h' => h' = h2) (by kernel_rfl) (by kernel_rfl) rfl ?_
 refine LQ_yld (fun h_ hI_ => by subst hI_; exact Y_move rfl) rfl rfl rfl ?_
 refine LQ_yld (fun h_ hI_ => by subst hI_; exact Y_nilCheck rfl) rfl rfl rfl ?_
 refine LQ_yld (fun h_ hI_ => by subst hI_; exact Y_fieldAddr (off := 1) (by kernel_rfl) rfl rfl) rfl rfl rfl ?_
 refine LQ_yld (fun h_ hI_ => by subst hI_; exact Y_ldblk Tryd.underlying60 rfl rfl (hb.ext (hn1.ext.trans hx3)) rfl) rfl rfl rfl ?_
 refine LQ_yld (fun h_ hI_ => by subst hI_; exact Y_fieldAddr (off := 1) (by kernel_rfl) rfl rfl) rfl rfl rfl ?_
 refine LQ_yld (fun h_ hI_ => by subst hI_; exact Y_ldblk Tryd.underlying9 rfl rfl (hk2.ext hx3) rfl) rfl rfl rfl ?_
 refine LQ_call (v := str (pparent p)) (fun _ _ => E_call (by kernel_rfl) rfl) (fun h_ hI_ => by subst hI_; exact (pathname_Parent _ p (by first | omega | rfl | (simp <;> omega)))) rfl rfl rfl ?_
 refine LQ_yld (fun h_ hI_ => by subst hI_; exact Y_lookset Tryd.underlying60 Tryd.underlying9 (by kernel_rfl) rfl rfl (hD.ext (hn1.ext.trans hx3))) rfl rfl rfl ?_
 refine LQ_yld (fun h_ hI_ => by subst hI_; exact Y_notd rfl) rfl rfl rfl ?_
 refine LQ_nil ?_
 rintro h2 rfl
 refine X_then ?_
 refine W_sub _ (tk4 46 4 3 0) ?_
 refine W_splitd rfl (fun d => ?_) (fun d => ?_)
 ·refine Wr ?_
  refine Av ?_
  refine Nx ?_
  refine W_sub _ (tk3 4 3 0) ?_
  refine W_ret (X_then_ret ?_)
  refine X_ret1 rfl rfl ?_
  exact ⟨congrArg (Value.int IntKind.i64) (achk13 (.inl n) e d).symm, (hn1.ext.trans hx3)⟩
 refine Ws ?_
 refine W_sub _ (tk3 4 3 0) ?_
 refine W_seq (W_seq (W_region ?_))
 refine Ly (Y_fieldAddr (off := 0) (by kernel_rfl) rfl rfl) ?_
 refine Ly (Y_ldblk Tryd.underlying3 rfl rfl (hk2.ext hx3) rfl) ?_
 refine Ly (Y_eql rfl rfl) ?_
 refine Nx ?_
 refine W_sub _ (tk4 49 4 3 0) ?_
 refine W_splitd rfl (fun k3 => ?_) (fun k3 => ?_)
 ·refine W_seq ?_
  refine W_quiet (fun h' => h' = h2) (by kernel_rfl) (by kernel_rfl) rfl ?_
  refine LQ_yld (fun h_ hI_ => by subst hI_; exact Y_move rfl) rfl rfl rfl ?_
  refine LQ_yld (fun h_ hI_ => by subst hI_; exact Y_nilCheck rfl) rfl rfl rfl ?_
  refine LQ_yld (fun h_ hI_ => by subst hI_; exact Y_fieldAddr (off := 2) (by kernel_rfl) rfl rfl) rfl rfl rfl ?_
  refine LQ_yld (fun h_ hI_ => by subst hI_; exact Y_ldblk Tryd.underlying61 rfl rfl (hb.ext (hn1.ext.trans hx3)) rfl) rfl rfl rfl ?_
  refine LQ_yld (fun h_ hI_ => by subst hI_; exact Y_fieldAddr (off := 3) (by kernel_rfl) rfl rfl) rfl rfl rfl ?_
  refine LQ_yld (fun h_ hI_ => by subst hI_; exact Y_ldblk Tryd.underlying9 rfl rfl (hk2.ext hx3) rfl) rfl rfl rfl ?_
  refine LQ_yld (fun h_ hI_ => by subst hI_; exact Y_look2A (evl := (fun z : Int => .int .i64 z)) (k := tg) (u := (0 : Int)) keyS Tryd.underlying61 Tryd.underlying9 (by kernel_rfl) rfl rfl (hF.ext (hn1.ext.trans hx3))) rfl rfl rfl ?_
  refine LQ_yld (fun h_ hI_ => by subst hI_; exact Y_move rfl) rfl rfl rfl ?_
  refine LQ_yld (fun h_ hI_ => by subst hI_; exact Y_extract (v := .int .i64 ((aget F tg).getD (0 : Int))) rfl rfl) rfl rfl rfl ?_
  refine LQ_yld (fun h_ hI_ => by subst hI_; exact Y_extract (v := .bool ((aget F tg).isSome)) rfl rfl) rfl rfl rfl ?_
  refine LQ_yld (fun h_ hI_ => by subst hI_; exact Y_assign rfl) rfl rfl rfl ?_
  refine LQ_yld (fun h_ hI_ => by subst hI_; exact Y_assign rfl) rfl rfl rfl ?_
  refine LQ_nil ?_
  rintro h2 rfl
  refine X_then ?_
  refine W_sub _ (tk5 8 7 4 3 0) ?_
  refine W_seq ?_
  refine W_quiet (fun h' => h' = h2) (by kernel_rfl) (by kernel_rfl) rfl ?_
  refine LQ_yld (fun h_ hI_ => by subst hI_; exact Y_move rfl) rfl rfl rfl ?_
  refine LQ_yld (fun h_ hI_ => by subst hI_; exact Y_not rfl) rfl rfl rfl ?_
  refine LQ_yld (fun h_ hI_ => by subst hI_; exact Y_move rfl) rfl rfl rfl ?_
  refine LQ_split (d := 62) rfl (fun o => ?_) (fun o => ?_)
  ·refine LQ_skip rfl rfl rfl ?_
   refine LQ_skip rfl rfl rfl ?_
   refine LQ_skip rfl rfl rfl ?_
   refine LQ_skip rfl rfl rfl ?_
   refine LQ_skip rfl rfl rfl ?_
   refine LQ_skip rfl rfl rfl ?_
   refine LQ_skip rfl rfl rfl ?_
   refine LQ_skip rfl rfl rfl ?_
   refine LQ_skip rfl rfl rfl ?_
   refine LQ_skip rfl rfl rfl ?_
   refine LQ_skip rfl rfl rfl ?_
   refine LQ_yld (fun h_ hI_ => by subst hI_; exact Y_pick_t rfl rfl) rfl rfl rfl ?_
   refine LQ_nil ?_
   rintro h2 rfl
   refine X_then ?_
   refine W_sub _ (tk2 74 4) ?_
   refine W_true rfl ?_
   refine Wr ?_
   refine Av ?_
   refine Nx ?_
   refine W_sub _ (tk1 4) ?_
   refine W_ret (X_then_ret ?_)
   refine X_ret1 rfl rfl ?_
   exact ⟨congrArg (Value.int IntKind.i64) (achk15 (.inl n) e d k3 (.inl (by simpa using o))).symm, (hn1.ext.trans hx3)⟩
  refine LQ_yld (fun h_ hI_ => by subst hI_; exact Y_move rfl) rfl rfl rfl ?_
  refine LQ_yld (fun h_ hI_ => by subst hI_; exact Y_nilCheck rfl) rfl rfl rfl ?_
  refine LQ_yld (fun h_ hI_ => by subst hI_; exact Y_fieldAddr (off := 0) (by kernel_rfl) rfl rfl) rfl rfl rfl ?_
  refine LQ_yld (fun h_ hI_ => by subst hI_; exact Y_ldblk Tryd.underlying32 rfl rfl (hb.ext (hn1.ext.trans hx3)) rfl) rfl rfl rfl ?_
  refine LQ_yld (fun h_ hI_ => by subst hI_; exact Y_move rfl) rfl rfl rfl ?_
  refine LQ_yld (fun h_ hI_ => by subst hI_; exact Y_idxr Tryd.underlying32 (show _ = some 6 by kernel_rfl) rfl rfl rfl (hL.ext (hn1.ext.trans hx3)) (by first | omega | (have := hx' (by simpa using o); omega)) (by first | omega | (have := hx' (by simpa using o); omega))) rfl rfl rfl ?_
  refine LQ_yld (fun h_ hI_ => by subst hI_; exact Y_fldr (k := ((aget F tg).getD (0 : Int)).toNat) (off := 2) (by kernel_rfl) rfl (hL.ext (hn1.ext.trans hx3)) (by first | omega | (have := hx' (by simpa using o); omega))) rfl rfl rfl ?_
  refine LQ_yld (fun h_ hI_ => by subst hI_; exact Y_ldr1 (off := 2) (k := ((aget F tg).getD (0 : Int)).toNat) (u := .int .i64 ((at_nod L ((aget F tg).getD (0 : Int)).toNat).mode)) Tryd.underlying3 rfl rfl rfl (hL.ext (hn1.ext.trans hx3)) (by first | omega | (have := hx' (by simpa using o); omega)) rfl) rfl rfl rfl ?_
  refine LQ_yld (fun h_ hI_ => by subst hI_; exact Y_fieldAddr (off := 2) (by kernel_rfl) rfl rfl) rfl rfl rfl ?_
  refine LQ_yld (fun h_ hI_ => by subst hI_; exact Y_ldblk Tryd.underlying3 rfl rfl (hk2.ext hx3) rfl) rfl rfl rfl ?_
  refine LQ_yld (fun h_ hI_ => by subst hI_; exact Y_neq rfl rfl) rfl rfl rfl ?_
  refine LQ_yld (fun h_ hI_ => by subst hI_; exact Y_pick_f rfl rfl) rfl rfl rfl ?_
  refine LQ_nil ?_
  rintro h2 rfl
  refine X_then ?_
  refine W_sub _ (tk2 74 4) ?_
  refine W_splitd rfl (fun y => ?_) (fun y => ?_)
  ·refine Wr ?_
   refine Av ?_
   refine Nx ?_
   refine W_sub _ (tk1 4) ?_
   refine W_ret (X_then_ret ?_)
   refine X_ret1 rfl rfl ?_
   exact ⟨congrArg (Value.int IntKind.i64) (achk15 (.inl n) e d k3 (.inr y)).symm, (hn1.ext.trans hx3)⟩
  refine Ws ?_
  refine W_sub _ (tk1 4) ?_
  refine Wr ?_
  refine Av ?_
  refine L_nil (X_then (W_ret ?_))
  refine X_ret1 rfl rfl ?_
  exact ⟨congrArg (Value.int IntKind.i64) (achk0 (.inl n) e d (fun q => q.2.elim (fun r => r (by simpa using o)) y)).symm, (hn1.ext.trans hx3)⟩
 refine Ws ?_
 refine W_sub _ (tk1 4) ?_
 refine Wr ?_
 refine Av ?_
 refine L_nil (X_then (W_ret ?_))
 refine X_ret1 rfl rfl ?_
 exact ⟨congrArg (Value.int IntKind.i64) (achk0 (.inl n) e d (fun q => k3 q.1)).symm, (hn1.ext.trans hx3)⟩
end Go.Xp
