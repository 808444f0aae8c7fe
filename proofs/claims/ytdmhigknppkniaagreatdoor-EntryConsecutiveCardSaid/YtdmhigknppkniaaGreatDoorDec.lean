/- What the program's package variables hold when the call begins. -/
import Derived.Test.YtdmhigknppkniaaGreatDoorArr
import Derived.Test.YtdmhigknppkniaaGreatDoorNum
import Derived.Test.YtdmhigknppkniaaGreatDoorRune
import Derived.Lib.SmallJoins
import Derived.WideLaws
namespace Go.Xp
/-- What the package variables hold. -/
structure Glb (h : Heap) : Prop where
  g0 : Cls h 1 [.int .i64 0, .int .i64 100]
  g1 : Cls h 4 [.int .i64 100, .int .i64 8]
  g2 : Cls h 8 [.int .i64 108, .int .i64 8]
  g3 : Cls h 9 [.int .i64 116, .int .i64 8]
  g4 : Cls h 5 [.int .i64 124, .int .i64 12]
  g5 : Cls h 10 [.int .i64 136, .int .i64 12]
  g6 : Cls h 0 [.int .i64 156, .int .i64 1]
  g7 : Cls h 2 [.int .i64 157, .int .i64 100]
  g8 : Cls h 7 [.int .i64 257, .int .i64 8]
  g9 : Cls h 11 [.int .i64 329, .int .i64 8]
  g10 : Cls h 12 [.int .i64 337, .int .i64 8]
  g11 : Cls h 3 [.int .i64 345, .int .i64 155]
theorem Glb.ext {h h' : Heap} (x : Glb h) (y : Ext h h') : Glb h' := ⟨x.g0.ext y, x.g1.ext y, x.g2.ext y, x.g3.ext y, x.g4.ext y, x.g5.ext y, x.g6.ext y, x.g7.ext y, x.g8.ext y, x.g9.ext y, x.g10.ext y, x.g11.ext y⟩
/-- What the package variables hold. -/
structure GlbK (h : Heap) : Prop where
  g0 : Cls h 13 [str [108, 105, 110, 107, 112, 97, 116, 104], str [112, 97, 116, 104], str [115, 105, 122, 101]]
theorem GlbK.ext {h h' : Heap} (x : GlbK h) (y : Ext h h') : GlbK h' := ⟨x.g0.ext y⟩
/-- What the package variables hold. -/
structure GlbT (h : Heap) : Prop where
  g0 : Cls h 6 [.int .u8 53, .int .u8 48, .int .u8 50, .int .u8 49]
theorem GlbT.ext {h h' : Heap} (x : GlbT h) (y : Ext h h') : GlbT h' := ⟨x.g0.ext y⟩
end Go.Xp

/- Decimal numbers: their parsing, on both sides. -/
set_option linter.unusedSimpArgs false
set_option linter.unusedVariables false
set_option linter.unusedSectionVars false
set_option maxRecDepth 100000
namespace Go.Xp
open Go.Proofs Go.RowKit

def decN (l : List UInt8) : Nat := l.foldl (fun n c => n * 10 + (c.toNat - 48)) 0
def decOk (l : List UInt8) : Bool := l.all (fun c => 48 ≤ c && c ≤ 57)
/-- What is wrong with a number's text, where at most 'm' is allowed. -/
def nerr (s : List UInt8) (m : Int) : Int := if decOk s = false ∨ s = [] ∨ (byt s 0 = 48 ∧ ¬ s = [48]) then 6 else if m < decN s then 3 else 0
def nnum (s : List UInt8) (m : Int) : Int := if nerr s m = 0 then (decN s : Int) else 0

theorem decN_snoc (l : List UInt8) (c : UInt8) : decN (l ++ [c]) = decN l * 10 + (c.toNat - 48) := by simp [decN]
theorem decN_step {l : List UInt8} {i : Nat} (h : i < l.length) : decN (l.take (i + 1)) = decN (l.take i) * 10 + ((byt l i).toNat - 48) := by
  rw [List.take_succ_eq_append_getElem h, decN_snoc, byt_eq h]; try rfl
theorem decOk_iff {l : List UInt8} : decOk l = true ↔ ∀ k, k < l.length → 48 ≤ byt l k ∧ byt l k ≤ 57 := by
  unfold decOk
  rw [List.all_eq_true]
  constructor
  · intro h k hk
    have := h _ (List.getElem_mem hk)
    rw [byt_eq hk]
    simp only [Bool.and_eq_true, decide_eq_true_eq, UInt8.le_iff_toNat_le] at this
    have e1 : (48 : UInt8).toNat = 48 := rfl
    have e2 : (57 : UInt8).toNat = 57 := rfl
    omega
  · intro h x hx
    obtain ⟨k, hk, rfl⟩ := List.getElem_of_mem hx
    have := h k hk
    rw [byt_eq hk] at this
    simp only [Bool.and_eq_true, decide_eq_true_eq, UInt8.le_iff_toNat_le]
    have e1 : (48 : UInt8).toNat = 48 := rfl
    have e2 : (57 : UInt8).toNat = 57 := rfl
    omega
theorem parseM {M : Nat} (hM : M ≤ 18446744073709551615) : ∀ (l : List UInt8) (acc : Nat), decOk l = true → acc ≤ M → Lib.parseUintM M acc l = if l.foldl (fun n c => n * 10 + (c.toNat - 48)) acc ≤ M then .ok (l.foldl (fun n c => n * 10 + (c.toNat - 48)) acc) else .range
  | [], acc, _, ha => by simp [Lib.parseUintM, ha]
  | c :: r, acc, hd, ha => by
    have h0 := decOk_iff.1 hd 0 (by simp)
    have hr : decOk r = true := by unfold decOk at hd ⊢; simp only [List.all_cons, Bool.and_eq_true] at hd; exact hd.2
    have hc : 48 ≤ c.toNat ∧ c.toNat ≤ 57 := by simp [byt] at h0; omega
    have hge : ∀ (r : List UInt8) (a : Nat), a ≤ r.foldl (fun n c => n * 10 + (c.toNat - 48)) a := by
      intro r
      induction r with
      | nil => intro a; exact Nat.le_refl _
      | cons c r ih => intro a; simp only [List.foldl_cons]; exact nt (by omega) (ih _)
    show Lib.parseUintM M acc (c :: r) = if r.foldl (fun n c => n * 10 + (c.toNat - 48)) (acc * 10 + (c.toNat - 48)) ≤ M then .ok (r.foldl (fun n c => n * 10 + (c.toNat - 48)) (acc * 10 + (c.toNat - 48))) else .range
    rw [Lib.parseUintM, if_pos hc]
    have hg := hge r (acc * 10 + (c.toNat - 48))
    by_cases h1 : 1844674407370955162 ≤ acc
    · rw [if_pos h1, if_neg (by omega)]
    · rw [if_neg h1]
      by_cases h2 : M < acc * 10 + (c.toNat - 48)
      · rw [if_pos h2, if_neg (by omega)]
      · rw [if_neg h2, parseM hM r _ hr (by omega)]
theorem parseI {s : List UInt8} (hd : decOk s = true) (hne : s ≠ []) : Lib.parseIntB 64 s = if decN s < 9223372036854775808 then .ok (decN s : Int) else .range := by
  cases s with
  | nil => exact absurd rfl hne
  | cons c r =>
    have h0 := decOk_iff.1 hd 0 (by simp)
    have hc : 48 ≤ c.toNat ∧ c.toNat ≤ 57 := by simp [byt] at h0; omega
    rw [Lib.parseIntB_plain 64 c r (by omega) (by omega)]
    unfold Lib.parseUintB
    rw [if_neg (by simp), parseM (by decide) _ 0 hd (by decide)]
    show Lib.signlessC (2 ^ (64 - 1)) (if decN (c :: r) ≤ 2 ^ 64 - 1 then _ else _) = _
    have e : (2 : Nat) ^ (64 - 1) = 9223372036854775808 := by decide
    have e' : (2 : Nat) ^ 64 - 1 = 18446744073709551615 := by decide
    rw [e, e']
    by_cases h1 : decN (c :: r) ≤ 18446744073709551615
    · rw [if_pos h1]
      show (if _ then _ else _) = _
      by_cases h2 : decN (c :: r) < 9223372036854775808
      · rw [if_neg (by show ¬ 9223372036854775808 ≤ decN (c :: r); omega), if_pos h2]; rfl
      · rw [if_pos (by show 9223372036854775808 ≤ decN (c :: r); omega), if_neg h2]
    · rw [if_neg h1, if_neg (by omega)]; rfl
/-- An interface value that is an error, or none. -/
def ErrIs (h : Heap) (u : Value) (b : Bool) : Prop := if b then ∃ t p, u = .iface t p else u = .nilIface
theorem ErrIs.ext {h h' : Heap} {u : Value} {b : Bool} (x : ErrIs h u b) (y : Ext h h') : ErrIs h' u b := x
def psat (s : List UInt8) : Int := if decN s < 9223372036854775808 then (decN s : Int) else 9223372036854775807
theorem strconv_ParseInt (h : Heap) (hE : GlbE h) (s : List UInt8) (hd : decOk s = true) (hne : s ≠ []) (hl : s.length ≤ 140737488355328) :
    Cal Tryz.prog 100 #[str s, .int .i64 10, .int .i64 64] h (fun v h' => ∃ u, v = .tuple #[.int .i64 (psat s), u] ∧ ErrIs h' u (decide (9223372036854775808 ≤ decN s)) ∧ Ext h h') := fun w hw => by
  have hsz : (⟨s.toArray⟩ : ByteArray).size = s.length := by simp [ByteArray.size]
  have hp := parseI hd hne
  by_cases h1 : decN s < 9223372036854775808
  · rw [if_pos h1] at hp
    refine (Tryz.strconv_ParseInt_10_at64_ok ⟨s.toArray⟩ (by rw [hsz]; omega) _ hp w).mono ?_
    rintro e w' ⟨rfl, hw'⟩
    have hb : Below w.heap.size w w' := by
      rcases hw' with rfl | ⟨t, rfl⟩
      · exact Below.refl _ _
      · exact Go.Joins.below_bytesWorld _ _ _ _ (Nat.le_refl _)
    refine ⟨_, rfl, by unfold std; rw [hb.os, hb.tape, hb.output], .nilIface, ?_, ?_, hw ▸ (⟨hb.size, fun k hk _ => hb.block k hk⟩ : Ext w.heap w'.heap)⟩
    · unfold psat; rw [if_pos h1]
    · unfold ErrIs; rw [if_neg (by simpa using h1)]
  · rw [if_neg h1] at hp
    obtain ⟨te, pe, he⟩ := hE.i0.2
    refine (Tryz.strconv_ParseInt_10_at64_range ⟨s.toArray⟩ (by rw [hsz]; omega) hp (.iface te pe) w (by rw [cell?_cellAt, hw]; exact he) (.inr ⟨te, pe, rfl⟩)).mono ?_
    rintro e w' ⟨N, rfl, _, _, hb⟩
    refine ⟨_, rfl, by unfold std; rw [hb.os, hb.tape, hb.output], .iface 238 (.pointer (some ⟨N, 0, none⟩)), ?_, ?_, hw ▸ (⟨hb.size, fun k hk _ => hb.block k hk⟩ : Ext w.heap w'.heap)⟩
    · unfold psat; rw [if_neg h1]
      cases s with
      | nil => exact absurd rfl hne
      | cons c r =>
        have h0 := decOk_iff.1 hd 0 (by simp)
        have hc : 48 ≤ c.toNat ∧ c.toNat ≤ 57 := by simp [byt] at h0; omega
        show Value.tuple #[.int .i64 (Lib.intSat 64 (c :: r)), _] = _
        rw [Lib.intSat_other 64 c r (by omega)]; rfl
    · unfold ErrIs; rw [if_pos (by simpa using Nat.not_lt.1 h1)]; exact ⟨_, _, rfl⟩
section
variable {P : Program} {n : Nat} {e : Env} {h : Heap} {d : Option Tmp} {t : TypeId} {pos : String} {af : Array Edge} {g : Option (Nat × Bool)}
variable {T : TypeId} {x y : Operand}
theorem Y_ifcneq {T' : TypeId} {u : Value} {b : Bool} (hT : P.underlying T = some (.interface (P.methodsAt T))) (hx : ev e x = some u) (hu : ErrIs h u b) : Yld P n e h ⟨d, .binOp .neq T x (.const .nilIface) T', t, pos, af, g⟩ (.bool b) := fun w a _ he => by
  unfold ErrIs at hu
  have h3 : a.eval (.const .nilIface) = .nilIface := rfl
  cases b with
  | true =>
    obtain ⟨te, pe, rfl⟩ := hu
    simp only [execOp, he.eval hx, h3, eqGuard, Sem.run_bind, Sem.run_pure, Result.andThen_ok, run_neq_held_nil w T te pe hT, Bool.not_true, Bool.false_eq_true, if_false, ite_self]
  | false =>
    simp only [Bool.false_eq_true, if_false] at hu
    subst hu
    have hm : ((Operand.const Value.nilIface) matches .const _) = true := rfl
    simp only [execOp, he.eval hx, h3, eqGuard, Sem.run_bind, Sem.run_pure, Result.andThen_ok, run_neq_nil_nil w T hT, Bool.not_true, Bool.false_eq_true, if_false, ite_self, Bool.or_true, if_true]
    try rfl
end

theorem pos_of_ne {s : List UInt8} (h : ¬ s = []) : 0 < s.length := List.length_pos_iff.2 h
theorem rec_number (h : Heap) (hE : GlbE h) (s : List UInt8) (m : Int) (hs : s.length ≤ 140737488355328) (hm : m ≤ 9223372036854775806) : Cal Tryz.prog 118 #[str s, .int .i64 (m)] h (fun v h' => v = .tuple #[.int .i64 (nnum s m), .int .i64 (nerr s m)] ∧ Ext h h') := by
 refine Ce Tryz.func118 fun σ => ?_
 refine Wa ?_
 refine Av ?_
 refine Ln (Xt (Wq ?_))
 refine Wc [(20, .bool (decide ((s = []) ∨ (((byt s 0) = 48) ∧ (¬ s = [48]))))), (5, .int .i64 0), (4, .int .i64 0), (0, str s), (1, .int .i64 (m))] (fun h' => h' = h) ?_ ?_
 ·refine Wg ?_
  refine Mv ?_
  refine Ly (Y_seql rfl rfl) ?_
  refine Mv ?_
  refine L_splitd (d := 12) rfl (fun c1 => ?_) (fun c1 => ?_)
  ·refine Sk2 ?_
   refine Sk2 ?_
   refine Sk2 ?_
   refine Skp ?_
   refine Ly Ypt ?_
   refine Ln ?_
   exact X_cut () (sk1 20 (lkb rfl (by first | (simp only [eq_true c1, SB]; done) | (simp only [eq_true c1, SB]; rfl))) (sk1 5 rfl (sk1 4 rfl (sk1 0 rfl (tk1 1))))) rfl
  refine Ly (Y_move rfl) ?_
  refine Ly (Y_sidx Tryz.underlying9 rfl rfl (by first | omega | (have := pos_of_ne (by assumption); omega)) (by first | omega | (have := pos_of_ne (by assumption); omega))) ?_
  refine Ly Yeq ?_
  refine Mv ?_
  refine L_splitd (d := 16) rfl (fun c2 => ?_) (fun c2 => ?_)
  ·have c2 : (byt s 0) = 48 := c2
   refine Mv ?_
   refine Ly (Y_sneq rfl rfl) ?_
   refine Ly Ypt ?_
   refine Ly Ypf ?_
   refine Ln ?_
   exact X_cut () (sk1 20 (lkb rfl (by first | (simp only [eq_false c1, eq_true c2, SB]; done) | (simp only [eq_false c1, eq_true c2, SB]; rfl))) (sk1 5 rfl (sk1 4 rfl (sk1 0 rfl (tk1 1))))) rfl
  have c2 : ¬ ((byt s 0) = 48) := c2
  refine Sk2 ?_
  refine Ly Ypf ?_
  refine Ly Ypf ?_
  refine Ln ?_
  exact X_cut () (sk1 20 (lkb rfl (by first | (simp only [eq_false c1, eq_false c2, SB]; done) | (simp only [eq_false c1, eq_false c2, SB]; rfl))) (sk1 5 rfl (sk1 4 rfl (sk1 0 rfl (tk1 1))))) rfl
 rintro h rfl
 refine Sd (fun g => ?_) fun g => ?_
 ·have g : (s = []) ∨ (((byt s 0) = 48) ∧ (¬ s = [48])) := g
  refine Wa ?_
  refine Av ?_
  refine Ln (Xt (Wt (Xr ?_)))
  refine Xv2 ?_
  have he : nerr s m = 6 := by unfold nerr; rw [if_pos (g.elim (fun g => .inr (.inl g)) (fun g => .inr (.inr ⟨by simpa [byt] using g.1, g.2⟩)))]
  exact ⟨by simp [nnum, he], (Ext.refl _)⟩
 have g : ¬ ((s = []) ∨ (((byt s 0) = 48) ∧ (¬ s = [48]))) := g
 refine Wk (Xt (Wq (Wq (Wg ?_))))
 refine Mv ?_
 refine L_mks (M_rangestr Tryz.underlying9 rfl) rfl rfl rfl ?_
 rintro _ h1 ⟨rfl, hx3, hb4⟩
 refine Ln (Xt (Wb ?_))
 refine W_loop (S := Nat) (fun i => [(22, .pointer (some ⟨h.size, 0, none⟩)), (0, str s), (1, .int .i64 (m))]) (fun i h' => i ≤ s.length ∧ (∀ k, k < i → 48 ≤ byt s k ∧ byt s k ≤ 57) ∧ StrIt h' h.size s i ∧ Ext h h') (fun i => s.length - i) 0 (tk3 22 0 1) ?_ ?_
 ·exact ⟨by omega, (fun k hk => absurd hk (Nat.not_lt_zero _)), hb4, hx3⟩
 rintro i h2 ⟨hi, hd, hit, hx⟩
 show W _ _ _ _ _ [(22, .pointer (some ⟨h.size, 0, none⟩)), (0, str s), (1, .int .i64 (m))] _
 refine Wr ?_
 refine L_mks (M_nextstr rfl hit) rfl rfl rfl ?_
 rintro _ h3 (⟨he, rfl, hx5⟩ | ⟨c, w, hr, rfl, hx5, -, hb6⟩)
 ·refine Lx ?_
  refine Ln (Xt (Wq ?_))
  refine W_false rfl ?_
  refine W_exit ?_
  refine Xe (Xe ?_)
  refine X_block_hit ?_
  refine Xt ?_
  have hok : decOk s = true := decOk_iff.2 (fun k hk => hd k (by omega))
  have hg1 : ¬ s = [] := fun e => g (.inl e)
  have hg2 : ¬ (byt s 0 = 48 ∧ ¬ s = [48]) := fun e => g (.inr e)
  refine Wm ?_
  refine Lc (strconv_ParseInt _ (hE.ext (hx.trans hx5)) s hok hg1 hs) ?_
  rintro _ h4 ⟨s17, rfl, hr18, hx9⟩
  refine Mx ?_
  refine A2 ?_
  refine Nx ?_
  refine Wu _ (tk3 9 8 1) ?_
  refine Wq ?_
  refine Wc [(43, .bool (decide (((9223372036854775808 ≤ decN s)) ∨ (m < (psat s))))), (8, .int .i64 (psat s))] (fun h' => h' = h4) ?_ ?_
  ·refine Wg ?_
   refine Mv ?_
   refine Ly (Y_ifcneq (show Tryz.prog.underlying 106 = some (.interface (Tryz.prog.methodsAt 106)) by kernel_rfl) rfl (show ErrIs _ _ _ from hr18)) ?_
   refine Mv ?_
   refine L_splitd (d := 39) rfl (fun c10 => ?_) (fun c10 => ?_)
   ·refine Sk2 ?_
    refine Skp ?_
    refine Ly Ypt ?_
    refine Ln ?_
    exact X_cut () (sk1 43 (lkb rfl (by first | (simp only [eq_true c10, SB]; done) | (simp only [eq_true c10, SB]; rfl))) (tk1 8)) rfl
   refine Ly (Y_move rfl) ?_
   refine Mv ?_
   refine Ly (Y_gtr rfl rfl) ?_
   refine Ly Ypf ?_
   refine Ln ?_
   exact X_cut () (sk1 43 (lkb rfl (by first | (simp only [eq_false c10, SB]; done) | (simp only [eq_false c10, SB]; rfl))) (tk1 8)) rfl
  rintro h4 rfl
  refine Sd (fun b => ?_) fun b => ?_
  ·refine Wa ?_
   refine Av ?_
   refine Ln (Xt (Wt (Xr ?_)))
   refine Xv2 ?_
   have he : nerr s m = 3 := by unfold nerr; rw [if_neg (by rw [hok]; simp [hg1]; simpa using hg2), if_pos (by unfold psat at b; split at b <;> omega)]
   exact ⟨by simp [nnum, he], ((hx.trans hx5).trans hx9)⟩
  refine Wk (Xt (Wq (Wg ?_)))
  refine Mv ?_
  refine A2 ?_
  refine Ln (Xt (Wt ?_))
  refine Xv2 ?_
  have he : nerr s m = 0 := by unfold nerr; rw [if_neg (by rw [hok]; simp [hg1]; simpa using hg2), if_neg (by unfold psat at b; split at b <;> omega)]
  exact ⟨by simp only [nnum, he, if_pos]; unfold psat; rw [if_pos (by omega)], ((hx.trans hx5).trans hx9)⟩
 refine Lx ?_
 refine Ln (Xt (Wq ?_))
 refine W_true rfl ?_
 refine Wk (Xt (Wb (Wq (Wg ?_))))
 refine Lx ?_
 refine An ?_
 refine Wc [(31, .bool (decide ((c < 48) ∨ (57 < c)))), (22, .pointer (some ⟨h.size, 0, none⟩)), (0, str s), (1, .int .i64 (m))] (fun h' => h' = h3) ?_ ?_
 ·refine Wg ?_
  refine Mv ?_
  refine Ly Yls ?_
  refine Mv ?_
  refine L_splitd (d := 28) rfl (fun c11 => ?_) (fun c11 => ?_)
  ·refine Sk2 ?_
   refine Ly Ypt ?_
   refine Ln ?_
   exact X_cut () (sk1 31 (lkb rfl (by first | (simp only [eq_true c11, SB]; done) | (simp only [eq_true c11, SB]; rfl))) (sk1 22 rfl (sk1 0 rfl (tk1 1)))) rfl
  refine Ly (Y_move rfl) ?_
  refine Ly (Y_gtr rfl rfl) ?_
  refine Ly Ypf ?_
  refine Ln ?_
  exact X_cut () (sk1 31 (lkb rfl (by first | (simp only [eq_false c11, SB]; done) | (simp only [eq_false c11, SB]; rfl))) (sk1 22 rfl (sk1 0 rfl (tk1 1)))) rfl
 rintro h3 rfl
 refine Sd (fun z => ?_) fun z => ?_
 ·refine Wa ?_
  refine Av ?_
  refine Ln (Xt (Wt (Yr (Xr (Yr (Xr ?_))))))
  refine Xv2 ?_
  have he : nerr s m = 6 := by unfold nerr; rw [if_pos (.inl (by rw [Bool.eq_false_iff]; exact fun e => hr.2.2.1 (by omega) (decOk_iff.1 e i hr.1)))]
  exact ⟨by simp [nnum, he], (hx.then' hx5 (by simp) (Nat.le_refl _))⟩
 refine Wk (Xb ?_)
 refine X_loop (i + 1) (tk3 22 0 1) ?_ ?_
 ·have h7 := hr.2.1 (by omega)
  exact ⟨hr.1, step_ne hd (by have := h7.1; omega), by have := hb6; rw [h7.2] at this; exact this, (hx.then' hx5 (by simp) (Nat.le_refl _))⟩
 (try dsimp only)
 have := hr.1; omega

theorem decDigits_step {a : Nat} (h : 10 ≤ a) : Lib.decDigits a = Lib.decDigits (a / 10) ++ [UInt8.ofNat (48 + a % 10)] := by
  rw [Lib.decDigits, dif_neg (by omega)]
theorem decDigits_len {a : Nat} (h : a < 18446744073709551616) : (Lib.decDigits a).length ≤ 20 := by rw [Lib.decDigits_length]; exact nDigits_le h

end Go.Xp
