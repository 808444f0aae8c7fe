/- Layer 10 (fit): Merge. -/
import Derived.Test.YtdmhigknppkniaaGreatDoorFitA
import Derived.Test.YtdmhigknppkniaaGreatDoorRt
import Derived.Lib.SmallJoins
set_option linter.unusedSimpArgs false
set_option linter.unusedVariables false
set_option linter.unusedSectionVars false
set_option maxRecDepth 100000
namespace Go.Xp
open Go.Proofs Go.RowKit

/-- strconv.ParseInt at every text. -/
def pint (s : List UInt8) : Int := match Lib.parseIntB 64 s with | .ok v => v | .syntax => 0 | .range => Lib.intSat 64 s
def pbad (s : List UInt8) : Bool := match Lib.parseIntB 64 s with | .ok _ => false | _ => true
structure GlbS (h : Heap) : Prop where
  i0 : 16 < h.size ∧ IfcH h 16
theorem GlbS.ext {h h' : Heap} (x : GlbS h) (y : Ext h h') : GlbS h' := ⟨ntl x.i0.1 y.size, x.i0.2.ext x.i0.1 y⟩
theorem strconv_ParseIntA (h : Heap) (hE : GlbE h) (hS : GlbS h) (s : List UInt8) (hl : s.length ≤ 140737488355328) :
    Cal Tryz.prog 100 #[str s, .int .i64 10, .int .i64 64] h (fun v h' => ∃ u, v = .tuple #[.int .i64 (pint s), u] ∧ ErrIs h' u (pbad s) ∧ Ext h h') := fun w hw => by
  have hsz : (⟨s.toArray⟩ : ByteArray).size = s.length := by simp [ByteArray.size]
  cases hp : Lib.parseIntB 64 s with
  | ok v =>
    refine (Tryz.strconv_ParseInt_10_at64_ok ⟨s.toArray⟩ (by rw [hsz]; omega) v hp w).mono ?_
    rintro e w' ⟨rfl, hw'⟩
    have hb : Below w.heap.size w w' := by
      rcases hw' with rfl | ⟨t, rfl⟩
      · exact Below.refl _ _
      · exact Go.Joins.below_bytesWorld _ _ _ _ (Nat.le_refl _)
    refine ⟨_, rfl, by unfold std; rw [hb.os, hb.tape, hb.output], .nilIface, ?_, ?_, hw ▸ (⟨hb.size, fun k hk _ => hb.block k hk⟩ : Ext w.heap w'.heap)⟩
    · unfold pint; rw [hp]
    · unfold pbad ErrIs; rw [hp]; rfl
  | «syntax» =>
    obtain ⟨te, pe, he⟩ := hS.i0.2
    refine (Tryz.strconv_ParseInt_10_at64_syntax ⟨s.toArray⟩ (by rw [hsz]; omega) hp (.iface te pe) w (by rw [cell?_cellAt, hw]; exact he) (.inr ⟨te, pe, rfl⟩)).mono ?_
    rintro e w' ⟨N, rfl, _, _, hb⟩
    refine ⟨_, rfl, by unfold std; rw [hb.os, hb.tape, hb.output], .iface 238 (.pointer (some ⟨N, 0, none⟩)), ?_, ?_, hw ▸ (⟨hb.size, fun k hk _ => hb.block k hk⟩ : Ext w.heap w'.heap)⟩
    · unfold pint; rw [hp]
    · unfold pbad ErrIs; rw [hp]; exact ⟨_, _, rfl⟩
  | range =>
    obtain ⟨te, pe, he⟩ := hE.i0.2
    refine (Tryz.strconv_ParseInt_10_at64_range ⟨s.toArray⟩ (by rw [hsz]; omega) hp (.iface te pe) w (by rw [cell?_cellAt, hw]; exact he) (.inr ⟨te, pe, rfl⟩)).mono ?_
    rintro e w' ⟨N, rfl, _, _, hb⟩
    refine ⟨_, rfl, by unfold std; rw [hb.os, hb.tape, hb.output], .iface 238 (.pointer (some ⟨N, 0, none⟩)), ?_, ?_, hw ▸ (⟨hb.size, fun k hk _ => hb.block k hk⟩ : Ext w.heap w'.heap)⟩
    · unfold pint; rw [hp]
    · unfold pbad ErrIs; rw [hp]; exact ⟨_, _, rfl⟩
theorem bld_target (h : Heap) (B : Nat) (k : Int) (p : List UInt8) (m : Int) (tg : List UInt8) (z : Int) (hb : Blk h B [.int .i64 k, str p, .int .i64 m, str tg, .int .i64 z]) (x : List UInt8) : Cal Tryz.prog 60 #[.pointer (some ⟨B, 0, none⟩), str x] h (fun v h' => v = .bool true ∧ Only [B] h h' ∧ Blk h' B [.int .i64 (k), str p, .int .i64 (m), str x, .int .i64 (z)]) := by
 refine Ce Tryz.func60 fun σ => ?_
 refine Wa ?_
 refine Ln (Xt (Wq (Wg ?_)))
 refine M2 ?_
 refine Ly (Y_nilCheck rfl) ?_
 refine Lf 0 ?_
 refine Lf 3 ?_
 refine Lds [str x] hb ?_
 rintro h1 hp1
 have hk2 : Blk h1 B [.int .i64 (k), str p, .int .i64 (m), str x, .int .i64 (z)] := hp1.blk
 refine Nx ?_
 refine Wu _ (tk1 4) ?_
 refine Wa ?_
 refine Ln (Xt (Wt ?_))
 refine Xv1 ?_
 exact ⟨rfl, (Only.trans (Only.refl _ _) hp1.only (fun b_ hb_ => .inl (by simp only [List.mem_cons, List.not_mem_nil, or_false] at hb_ ⊢; omega))), hk2⟩
theorem bld_path (h : Heap) (B : Nat) (k : Int) (p : List UInt8) (m : Int) (tg : List UInt8) (z : Int) (hb : Blk h B [.int .i64 k, str p, .int .i64 m, str tg, .int .i64 z]) (x : List UInt8) : Cal Tryz.prog 61 #[.pointer (some ⟨B, 0, none⟩), str x] h (fun v h' => v = .bool true ∧ Only [B] h h' ∧ Blk h' B [.int .i64 (k), str x, .int .i64 (m), str tg, .int .i64 (z)]) := by
 refine Ce Tryz.func61 fun σ => ?_
 refine Wa ?_
 refine Ln (Xt (Wq (Wg ?_)))
 refine M2 ?_
 refine Ly (Y_nilCheck rfl) ?_
 refine Lf 0 ?_
 refine Lf 1 ?_
 refine Lds [str x] hb ?_
 rintro h1 hp1
 have hk2 : Blk h1 B [.int .i64 (k), str x, .int .i64 (m), str tg, .int .i64 (z)] := hp1.blk
 refine Nx ?_
 refine Wu _ (tk1 4) ?_
 refine Wa ?_
 refine Ln (Xt (Wt ?_))
 refine Xv1 ?_
 exact ⟨rfl, (Only.trans (Only.refl _ _) hp1.only (fun b_ hb_ => .inl (by simp only [List.mem_cons, List.not_mem_nil, or_false] at hb_ ⊢; omega))), hk2⟩
theorem lite_HasPrefix (h : Heap) (s : List UInt8) (u : List UInt8) (hl : s.length ≤ 140737488355328) : Cal Tryz.prog 89 #[str s, str u] h (fun v h' => v = .bool (decide (s.take u.length = u)) ∧ h' = h) := by
 refine Ce Tryz.func89 fun σ => ?_
 refine Wa ?_
 refine Ln (Xt (Wq (Wg ?_)))
 refine Mv ?_
 refine Ly (Y_slen Tryz.underlying9 rfl) ?_
 refine Mv ?_
 refine Ly (Y_slen Tryz.underlying9 rfl) ?_
 refine Ly (Y_geq rfl rfl) ?_
 refine Mv ?_
 refine L_splitd (d := 10) rfl (fun g => ?_) (fun g => ?_)
 ·refine Ly (Y_move rfl) ?_
  refine Mv ?_
  refine Ly (Y_slen Tryz.underlying9 rfl) ?_
  refine Ly (Y_sslice_h Tryz.underlying9 rfl rfl (by omega) (by omega)) ?_
  refine Mv ?_
  refine Ly (Y_seql rfl rfl) ?_
  refine Ly Ypt ?_
  refine An ?_
  refine Wu _ (tk1 4) ?_
  refine Wt ?_
  refine Xv1 ?_
  exact ⟨by simp only [Int.toNat_natCast], rfl⟩
 refine Sk2 ?_
 refine Sk2 ?_
 refine Sk2 ?_
 refine Ly Ypf ?_
 refine An ?_
 refine Wu _ (tk1 4) ?_
 refine Wt ?_
 refine Xv1 ?_
 exact ⟨congrArg Value.bool (decide_eq_false (fun e => by have := congrArg List.length e; rw [List.length_take] at this; omega)).symm, rfl⟩
theorem strings_HasPrefix (h : Heap) (s : List UInt8) (u : List UInt8) (hl : s.length ≤ 140737488355328) : Cal Tryz.prog 41 #[str s, str u] h (fun v h' => v = .bool (decide (s.take u.length = u)) ∧ h' = h) := by
 refine Ce Tryz.func41 fun σ => ?_
 refine Wa ?_
 refine Ln (Xt (Wq (Wg ?_)))
 refine M2 ?_
 refine Lc (lite_HasPrefix _ s u (by first | omega | rfl | (simp <;> omega))) ?_
 rintro _ h ⟨rfl, rfl⟩
 refine Av ?_
 refine Ln (Xt (Wt ?_))
 refine Xv1 ?_
 exact ⟨rfl, rfl⟩
theorem Y_ifceql {P : Program} {n : Nat} {e : Env} {h : Heap} {d : Option Tmp} {t : TypeId} {pos : String} {af : Array Edge} {g : Option (Nat × Bool)} {T T' : TypeId} {x : Operand} {u : Value} {b : Bool} (hT : P.underlying T = some (.interface (P.methodsAt T))) (hx : ev e x = some u) (hu : ErrIs h u b) : Yld P n e h ⟨d, .binOp .eql T x (.const .nilIface) T', t, pos, af, g⟩ (.bool (!b)) := fun w a _ he => by
  unfold ErrIs at hu
  have h3 : a.eval (.const .nilIface) = .nilIface := rfl
  cases b with
  | true =>
    obtain ⟨te, pe, rfl⟩ := hu
    simp only [execOp, he.eval hx, h3, eqGuard, Sem.run_bind, Sem.run_pure, Result.andThen_ok, run_eql_held_nil w T te pe hT, Bool.not_true, Bool.not_false, Bool.false_eq_true, if_false, ite_self]
  | false =>
    simp only [Bool.false_eq_true, if_false] at hu
    subst hu
    simp only [execOp, he.eval hx, h3, eqGuard, Sem.run_bind, Sem.run_pure, Result.andThen_ok, run_eql_nil_nil w T hT, Bool.not_true, Bool.not_false, Bool.false_eq_true, if_false, ite_self, Bool.or_true, if_true]
    try rfl
def psz_ok (s : List UInt8) : Bool := !pbad s && !decide (s.take 1 = [43])
theorem bld_size (h : Heap) (hE : GlbE h) (hS : GlbS h) (B : Nat) (k : Int) (p : List UInt8) (m : Int) (tg : List UInt8) (z : Int) (hb : Blk h B [.int .i64 k, str p, .int .i64 m, str tg, .int .i64 z]) (x : List UInt8) (hl : x.length ≤ 140737488355328) : Cal Tryz.prog 62 #[.pointer (some ⟨B, 0, none⟩), str x] h (fun v h' => v = .bool (psz_ok x) ∧ Only [B] h h' ∧ Blk h' B [.int .i64 (k), str p, .int .i64 (m), str tg, .int .i64 (pint x)]) := by
 refine Ce Tryz.func62 fun σ => ?_
 refine Wa ?_
 refine Ln (Xt (Wq (Wg ?_)))
 refine Mv ?_
 refine Lc (strconv_ParseIntA _ hE hS x (by first | omega | rfl | (simp <;> omega))) ?_
 rintro _ h1 ⟨s11, rfl, hr12, hx3⟩
 refine Mx ?_
 refine A2 ?_
 refine Ln (Xt (Wq (Wg ?_)))
 refine M2 ?_
 refine Ly (Y_nilCheck rfl) ?_
 refine Lf 0 ?_
 refine Lf 4 ?_
 refine Lds [.int .i64 (pint x)] (hb.ext hx3) ?_
 rintro h2 hp4
 have hk5 : Blk h2 B [.int .i64 (k), str p, .int .i64 (m), str tg, .int .i64 (pint x)] := hp4.blk
 refine Nx ?_
 refine Wu _ (tk3 6 4 1) ?_
 refine Wm ?_
 refine Ly (Y_ifceql (show Tryz.prog.underlying 106 = some (.interface (Tryz.prog.methodsAt 106)) by kernel_rfl) rfl (show ErrIs _ _ _ from hr12)) ?_
 refine Mv ?_
 refine L_split (d := 19) rfl (fun g => ?_) (fun g => ?_)
 ·refine Ly (Y_move rfl) ?_
  refine Lc (strings_HasPrefix _ x [43] (by first | omega | rfl | (simp <;> omega))) ?_
  rintro _ h2 ⟨rfl, rfl⟩
  refine Ly (Y_notd rfl) ?_
  refine Ly Ypt ?_
  refine An ?_
  refine Wu _ (tk1 4) ?_
  refine Wt ?_
  refine Xv1 ?_
  exact ⟨by rw [psz_ok, g, Bool.true_and]; simp, (Only.trans (Only.trans (Only.refl _ _) hx3 (fun _ hb_ => by cases hb_)) hp4.only (fun b_ hb_ => .inl (by simp only [List.mem_cons, List.not_mem_nil, or_false] at hb_ ⊢; omega))), hk5⟩
 refine Sk2 ?_
 refine Skp ?_
 refine Ly Ypf ?_
 refine An ?_
 refine Wu _ (tk1 4) ?_
 refine Wt ?_
 refine Xv1 ?_
 exact ⟨by rw [psz_ok, g, Bool.false_and], (Only.trans (Only.trans (Only.refl _ _) hx3 (fun _ hb_ => by cases hb_)) hp4.only (fun b_ hb_ => .inl (by simp only [List.mem_cons, List.not_mem_nil, or_false] at hb_ ⊢; omega))), hk5⟩
theorem Y_makeFunc1 {P : Program} {n : Nat} {e : Env} {h : Heap} {d : Option Tmp} {t : TypeId} {pos : String} {af : Array Edge} {g : Option (Nat × Bool)} {f : FuncId} {x : Operand} {v : Value} (hx : ev e x = some v) : Yld P n e h ⟨d, .makeFunc (.func f) #[x] #[], t, pos, af, g⟩ (.func (.func f) #[v] #[]) :=
  Y_makeFunc (vs := #[v]) (us := #[]) (fun a he => by simp [he.eval hx]) (fun a he => by simp)
theorem slices_IndexB (h : Heap) (v : Value) (l : List UInt8) (hb : Bytes h v l) (c : Int) (hc : 0 ≤ c ∧ c ≤ 255) (hn : l.length ≤ 140737488355328) : Cal Tryz.prog 58 #[v, .int .u8 (c)] h (fun v h' => v = .int .i64 (Lib.indexByte l c.toNat.toUInt8) ∧ h' = h) := by
 have hcb := u8_back hc
 refine Ce Tryz.func58 fun σ => ?_
 refine Wa ?_
 refine Ln (Xt (Wq (Wq (Wg ?_))))
 refine Mv ?_
 refine Ly (Y_len Tryz.underlying22 rfl hb) ?_
 refine Mv ?_
 refine Ln (Xt (Wb ?_))
 refine W_loop (S := Nat) (fun i => [(7, .int .i64 ((l.length : Int))), (0, v), (1, .int .u8 (c)), (8, .int .i64 ((i : Int)))]) (fun i h' => i ≤ l.length ∧ (∀ k, k < i → ¬ byt l k = c) ∧ h' = h) (fun i => l.length - i) 0 (tk4 7 0 1 8) ?_ ?_
 ·exact ⟨Nat.zero_le _, (fun _ hk => absurd hk (Nat.not_lt_zero _)), rfl⟩
 rintro i h ⟨hi, hip, rfl⟩
 show W _ _ _ _ _ [(7, .int .i64 ((l.length : Int))), (0, v), (1, .int .u8 (c)), (8, .int .i64 ((i : Int)))] _
 refine Wr ?_
 refine Ly Yls ?_
 refine Ln (Xt (Wq ?_))
 refine Sd (fun hl2 => ?_) fun hl2 => ?_
 ·refine Wk (Xt (Wq (Wb (Wq (Wg ?_)))))
  refine Mv ?_
  refine Av ?_
  refine Ln (Xt (Wq (Wg ?_)))
  refine M2 ?_
  refine Mv ?_
  refine Ly (Y_idx Tryz.underlying22 (show _ = some 1 by kernel_rfl) rfl rfl hb (by omega) (by omega)) ?_
  refine Ly (Y_ldbyte Tryz.underlying5 rfl rfl hb (by omega) (by omega)) ?_
  refine Ly Yeq ?_
  refine Nx ?_
  refine Wu _ (tk6 16 5 7 0 1 8) ?_
  refine Sd (fun hne => ?_) fun hne => ?_
  ·refine Wm ?_
   refine Av ?_
   refine Ln (Xt (Wt (Yr (Xr (Xr (Yr (Xr ?_)))))))
   refine Xv1 ?_
   rw [Int.toNat_natCast] at hne
   exact ⟨by rw [indexByte_found (m := i) (fun k hk => by rw [hcb]; exact hip k hk) (by omega) (by rw [hcb]; exact hne.symm)], rfl⟩
  refine Wk (Xb (Xt (Wg ?_)))
  refine Lad ?_
  refine Mv ?_
  refine Ln ?_
  refine X_loop (i + 1) (tk4 7 0 1 8) ?_ ?_
  ·exact ⟨by omega, (step_ne hip (fun e => hne (by rw [Int.toNat_natCast]; exact e.symm))), rfl⟩
  (try dsimp only)
  omega
 refine W_exit ?_
 refine Xe (Xe ?_)
 refine X_block_hit ?_
 refine Xt (Wq (Wg ?_))
 refine Av ?_
 refine Ln (Xt (Wt ?_))
 refine Xv1 ?_
 have hi9 : i = l.length := by omega
 exact ⟨by rw [indexByte_nil (fun k hk => by rw [hcb]; exact hip k (by omega))], rfl⟩
end Go.Xp
