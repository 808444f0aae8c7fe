/- Layer 10 (fit): Merge. -/
import Derived.Test.YtkcgabodpcfohaaDoorFitA
import Derived.Test.YtkcgabodpcfohaaDoorFitJ
import Derived.Lib.SmallJoins
set_option linter.unusedSimpArgs false
set_option linter.unusedVariables false
set_option linter.unusedSectionVars false
namespace Go.Xp
open Go.Proofs Go.RowKit

/-- strconv.ParseInt at every text. -/
def pint (s : List UInt8) : Int := match Lib.parseIntB 64 s with | .ok v => v | .syntax => 0 | .range => Lib.intSat 64 s
def pbad (s : List UInt8) : Bool := match Lib.parseIntB 64 s with | .ok _ => false | _ => true
structure GlbS (h : Heap) : Prop where
  i0 : 7 < h.size ∧ IfcH h 7
theorem GlbS.ext {h h' : Heap} (x : GlbS h) (y : Ext h h') : GlbS h' := ⟨Nat.lt_of_lt_of_le x.i0.1 y.size, x.i0.2.ext x.i0.1 y⟩
theorem strconv_ParseIntA (h : Heap) (hE : GlbE h) (hS : GlbS h) (s : List UInt8) (hl : s.length ≤ 140737488355328) :
    Cal Tryd.prog 78 #[str s, .int .i64 10, .int .i64 64] h (fun v h' => ∃ u, v = .tuple #[.int .i64 (pint s), u] ∧ ErrIs h' u (pbad s) ∧ Ext h h') := fun w hw => by
  have hsz : (⟨s.toArray⟩ : ByteArray).size = s.length := by simp [ByteArray.size]
  cases hp : Lib.parseIntB 64 s with
  | ok v =>
    refine (Tryd.strconv_ParseInt_10_at64_ok ⟨s.toArray⟩ (by rw [hsz]; omega) v hp w).mono ?_
    rintro e w' ⟨rfl, hw'⟩
    have hb : Below w.heap.size w w' := by
      rcases hw' with rfl | ⟨t, rfl⟩
      · exact Below.refl _ _
      · exact Go.Joins.below_bytesWorld _ _ _ _ (Nat.le_refl _)
    refine ⟨_, rfl, by unfold std; rw [hb.os, hb.tape, hb.output], .nilIface, ?_, ?_, hw ▸ (⟨hb.size, fun k hk _ => hb.block k hk⟩ : Ext w.heap w'.heap)⟩
    · unfold pint; rw [hp]
    · unfold pbad ErrIs; rw [hp]; rfl
  | «syntax» =>
    obtain ⟨te, pe, he⟩ := hS.i0.2
    refine (Tryd.strconv_ParseInt_10_at64_syntax ⟨s.toArray⟩ (by rw [hsz]; omega) hp (.iface te pe) w (by rw [cell?_cellAt, hw]; exact he) (.inr ⟨te, pe, rfl⟩)).mono ?_
    rintro e w' ⟨N, rfl, _, _, hb⟩
    refine ⟨_, rfl, by unfold std; rw [hb.os, hb.tape, hb.output], .iface 166 (.pointer (some ⟨N, 0, none⟩)), ?_, ?_, hw ▸ (⟨hb.size, fun k hk _ => hb.block k hk⟩ : Ext w.heap w'.heap)⟩
    · unfold pint; rw [hp]
    · unfold pbad ErrIs; rw [hp]; exact ⟨_, _, rfl⟩
  | range =>
    obtain ⟨te, pe, he⟩ := hE.i0.2
    refine (Tryd.strconv_ParseInt_10_at64_range ⟨s.toArray⟩ (by rw [hsz]; omega) hp (.iface te pe) w (by rw [cell?_cellAt, hw]; exact he) (.inr ⟨te, pe, rfl⟩)).mono ?_
    rintro e w' ⟨N, rfl, _, _, hb⟩
    refine ⟨_, rfl, by unfold std; rw [hb.os, hb.tape, hb.output], .iface 166 (.pointer (some ⟨N, 0, none⟩)), ?_, ?_, hw ▸ (⟨hb.size, fun k hk _ => hb.block k hk⟩ : Ext w.heap w'.heap)⟩
    · unfold pint; rw [hp]
    · unfold pbad ErrIs; rw [hp]; exact ⟨_, _, rfl⟩
set_option maxRecDepth 100000 in
theorem bld_target (h : Heap) (B : Nat) (k : Int) (p : List UInt8) (m : Int) (tg : List UInt8) (z : Int) (hb : Blk h B [.int .i64 k, str p, .int .i64 m, str tg, .int .i64 z]) (x : List UInt8) : Cal Tryd.prog 68 #[.pointer (some ⟨B, 0, none⟩), str x] h (fun v h' => v = .bool true ∧ Only [B] h h' ∧ Blk h' B [.int .i64 (k), str p, .int .i64 (m), str x, .int .i64 (z)]) := by
  refine Cal_enter (args := [.pointer (some ⟨B, 0, none⟩), str x]) Tryd.func68 rfl rfl rfl (fun σ => ?_)
  refine W_seq ?_
  refine W_region ?_
  refine L_yld (Y_assign rfl) rfl rfl rfl ?_
  refine L_nil ?_
  refine X_then ?_
  refine W_seq ?_
  refine W_region ?_
  refine L_yld (Y_move rfl) rfl rfl rfl ?_
  refine L_yld (Y_move rfl) rfl rfl rfl ?_
  refine L_yld (Y_nilCheck rfl) rfl rfl rfl ?_
  refine L_yld (Y_fieldAddr (off := 0) (by kernel_rfl) rfl rfl) rfl rfl rfl ?_
  refine L_yld (Y_fieldAddr (off := 3) (by kernel_rfl) rfl rfl) rfl rfl rfl ?_
  refine L_dos (D_store (us := [str x]) (show _ = some 1 by kernel_rfl) rfl rfl rfl (by simp [Value.oneCell']) hb (by simp)) rfl rfl ?_
  rintro h1 hp1
  have hk2 : Blk h1 B [.int .i64 (k), str p, .int .i64 (m), str x, .int .i64 (z)] := hp1.blk
  refine L_nil ?_
  refine X_then ?_
  refine W_sub _ (.cons (i := 4) rfl (.nil _)) ?_
  refine W_seq ?_
  refine W_region ?_
  refine L_yld (Y_assign rfl) rfl rfl rfl ?_
  refine L_nil ?_
  refine X_then ?_
  refine W_ret ?_
  refine X_ret1 rfl rfl ?_
  exact ⟨rfl, (Only.trans (Only.refl _ _) hp1.only (fun _ hb_ => .inl hb_)), hk2⟩
set_option maxRecDepth 100000 in
theorem bld_path (h : Heap) (B : Nat) (k : Int) (p : List UInt8) (m : Int) (tg : List UInt8) (z : Int) (hb : Blk h B [.int .i64 k, str p, .int .i64 m, str tg, .int .i64 z]) (x : List UInt8) : Cal Tryd.prog 69 #[.pointer (some ⟨B, 0, none⟩), str x] h (fun v h' => v = .bool true ∧ Only [B] h h' ∧ Blk h' B [.int .i64 (k), str x, .int .i64 (m), str tg, .int .i64 (z)]) := by
  refine Cal_enter (args := [.pointer (some ⟨B, 0, none⟩), str x]) Tryd.func69 rfl rfl rfl (fun σ => ?_)
  refine W_seq ?_
  refine W_region ?_
  refine L_yld (Y_assign rfl) rfl rfl rfl ?_
  refine L_nil ?_
  refine X_then ?_
  refine W_seq ?_
  refine W_region ?_
  refine L_yld (Y_move rfl) rfl rfl rfl ?_
  refine L_yld (Y_move rfl) rfl rfl rfl ?_
  refine L_yld (Y_nilCheck rfl) rfl rfl rfl ?_
  refine L_yld (Y_fieldAddr (off := 0) (by kernel_rfl) rfl rfl) rfl rfl rfl ?_
  refine L_yld (Y_fieldAddr (off := 1) (by kernel_rfl) rfl rfl) rfl rfl rfl ?_
  refine L_dos (D_store (us := [str x]) (show _ = some 1 by kernel_rfl) rfl rfl rfl (by simp [Value.oneCell']) hb (by simp)) rfl rfl ?_
  rintro h1 hp1
  have hk2 : Blk h1 B [.int .i64 (k), str x, .int .i64 (m), str tg, .int .i64 (z)] := hp1.blk
  refine L_nil ?_
  refine X_then ?_
  refine W_sub _ (.cons (i := 4) rfl (.nil _)) ?_
  refine W_seq ?_
  refine W_region ?_
  refine L_yld (Y_assign rfl) rfl rfl rfl ?_
  refine L_nil ?_
  refine X_then ?_
  refine W_ret ?_
  refine X_ret1 rfl rfl ?_
  exact ⟨rfl, (Only.trans (Only.refl _ _) hp1.only (fun _ hb_ => .inl hb_)), hk2⟩
set_option maxRecDepth 100000 in
theorem lite_HasPrefix (h : Heap) (s : List UInt8) (u : List UInt8) (hl : s.length ≤ 140737488355328) : Cal Tryd.prog 82 #[str s, str u] h (fun v h' => v = .bool (decide (s.take u.length = u)) ∧ h' = h) := by
  refine Cal_enter (args := [str s, str u]) Tryd.func82 rfl rfl rfl (fun σ => ?_)
  refine W_seq ?_
  refine W_region ?_
  refine L_yld (Y_assign rfl) rfl rfl rfl ?_
  refine L_nil ?_
  refine X_then ?_
  refine W_seq ?_
  refine W_region ?_
  refine L_yld (Y_move rfl) rfl rfl rfl ?_
  refine L_yld (Y_slen Tryd.underlying9 rfl) rfl rfl rfl ?_
  refine L_yld (Y_move rfl) rfl rfl rfl ?_
  refine L_yld (Y_slen Tryd.underlying9 rfl) rfl rfl rfl ?_
  refine L_yld (Y_geq rfl rfl) rfl rfl rfl ?_
  refine L_yld (Y_move rfl) rfl rfl rfl ?_
  refine L_splitd (d := 10) rfl (fun g => ?_) (fun g => ?_)
  · refine L_yld (Y_move rfl) rfl rfl rfl ?_
    refine L_yld (Y_move rfl) rfl rfl rfl ?_
    refine L_yld (Y_slen Tryd.underlying9 rfl) rfl rfl rfl ?_
    refine L_yld (Y_sslice_h Tryd.underlying9 rfl rfl (by omega) (by omega)) rfl rfl rfl ?_
    refine L_yld (Y_move rfl) rfl rfl rfl ?_
    refine L_yld (Y_seql rfl rfl) rfl rfl rfl ?_
    refine L_yld (Y_pick_t rfl rfl) rfl rfl rfl ?_
    refine L_yld (Y_assign rfl) rfl rfl rfl ?_
    refine L_nil ?_
    refine X_then ?_
    refine W_sub _ (.cons (i := 4) rfl (.nil _)) ?_
    refine W_ret ?_
    refine X_ret1 rfl rfl ?_
    exact ⟨by simp only [Int.toNat_natCast], rfl⟩
  · refine L_skip rfl rfl rfl ?_
    refine L_skip rfl rfl rfl ?_
    refine L_skip rfl rfl rfl ?_
    refine L_skip rfl rfl rfl ?_
    refine L_skip rfl rfl rfl ?_
    refine L_skip rfl rfl rfl ?_
    refine L_yld (Y_pick_f rfl rfl) rfl rfl rfl ?_
    refine L_yld (Y_assign rfl) rfl rfl rfl ?_
    refine L_nil ?_
    refine X_then ?_
    refine W_sub _ (.cons (i := 4) rfl (.nil _)) ?_
    refine W_ret ?_
    refine X_ret1 rfl rfl ?_
    exact ⟨congrArg Value.bool (decide_eq_false (fun e => by have := congrArg List.length e; rw [List.length_take] at this; omega)).symm, rfl⟩
set_option maxRecDepth 100000 in
theorem strings_HasPrefix (h : Heap) (s : List UInt8) (u : List UInt8) (hl : s.length ≤ 140737488355328) : Cal Tryd.prog 53 #[str s, str u] h (fun v h' => v = .bool (decide (s.take u.length = u)) ∧ h' = h) := by
  refine Cal_enter (args := [str s, str u]) Tryd.func53 rfl rfl rfl (fun σ => ?_)
  refine W_seq ?_
  refine W_region ?_
  refine L_yld (Y_assign rfl) rfl rfl rfl ?_
  refine L_nil ?_
  refine X_then ?_
  refine W_seq ?_
  refine W_region ?_
  refine L_yld (Y_move rfl) rfl rfl rfl ?_
  refine L_yld (Y_move rfl) rfl rfl rfl ?_
  refine L_call (E_call (by kernel_rfl) rfl) (lite_HasPrefix _ s u (by first | omega | rfl | (simp <;> omega))) rfl rfl rfl ?_
  rintro _ h ⟨rfl, rfl⟩
  refine L_yld (Y_assign rfl) rfl rfl rfl ?_
  refine L_nil ?_
  refine X_then ?_
  refine W_sub _ (.cons (i := 4) rfl (.nil _)) ?_
  refine W_ret ?_
  refine X_ret1 rfl rfl ?_
  exact ⟨rfl, rfl⟩
theorem Y_ifceql {P : Program} {n : Nat} {e : Env} {h : Heap} {d : Option Tmp} {t : TypeId} {pos : String} {af : Array Edge} {g : Option (Nat × Bool)} {T T' : TypeId} {x : Operand} {u : Value} {b : Bool} (hT : P.underlying T = some (.interface (P.methodsAt T))) (hx : ev e x = some u) (hu : ErrIs h u b) : Yld P n e h ⟨d, .binOp .eql T x (.const .nilIface) T', t, pos, af, g⟩ (.bool (!b)) := fun w a _ he => by
  unfold ErrIs at hu
  have h3 : a.eval (.const .nilIface) = .nilIface := rfl
  cases b with
  | true =>
    obtain ⟨te, pe, rfl⟩ := hu
    simp only [execOp, he.eval hx, h3, eqGuard, Sem.run_bind, Sem.run_pure, Result.andThen_ok, run_eql_held_nil w T te pe hT, Bool.not_true, Bool.not_false, Bool.false_eq_true, if_false, ite_self]
  | false =>
    simp only [Bool.false_eq_true, if_false] at hu
    subst hu
    simp only [execOp, he.eval hx, h3, eqGuard, Sem.run_bind, Sem.run_pure, Result.andThen_ok, run_eql_nil_nil w T hT, Bool.not_true, Bool.not_false, Bool.false_eq_true, if_false, ite_self, Bool.or_true, if_true]
    try rfl
def psz_ok (s : List UInt8) : Bool := !pbad s && !decide (s.take 1 = [43])
set_option maxRecDepth 100000 in
theorem bld_size (h : Heap) (hE : GlbE h) (hS : GlbS h) (B : Nat) (k : Int) (p : List UInt8) (m : Int) (tg : List UInt8) (z : Int) (hb : Blk h B [.int .i64 k, str p, .int .i64 m, str tg, .int .i64 z]) (x : List UInt8) (hl : x.length ≤ 140737488355328) : Cal Tryd.prog 70 #[.pointer (some ⟨B, 0, none⟩), str x] h (fun v h' => v = .bool (psz_ok x) ∧ Only [B] h h' ∧ Blk h' B [.int .i64 (k), str p, .int .i64 (m), str tg, .int .i64 (pint x)]) := by
  refine Cal_enter (args := [.pointer (some ⟨B, 0, none⟩), str x]) Tryd.func70 rfl rfl rfl (fun σ => ?_)
  refine W_seq ?_
  refine W_region ?_
  refine L_yld (Y_assign rfl) rfl rfl rfl ?_
  refine L_nil ?_
  refine X_then ?_
  refine W_seq ?_
  refine W_region ?_
  refine L_yld (Y_move rfl) rfl rfl rfl ?_
  refine L_call (E_call (by kernel_rfl) rfl) (strconv_ParseIntA _ hE hS x (by first | omega | rfl | (simp <;> omega))) rfl rfl rfl ?_
  rintro _ h1 ⟨s11, rfl, hr12, hx3⟩
  refine L_yld (Y_move rfl) rfl rfl rfl ?_
  refine L_yld (Y_extract (v := .int .i64 (pint x)) rfl rfl) rfl rfl rfl ?_
  refine L_yld (Y_extract (v := s11) rfl rfl) rfl rfl rfl ?_
  refine L_yld (Y_assign rfl) rfl rfl rfl ?_
  refine L_yld (Y_assign rfl) rfl rfl rfl ?_
  refine L_nil ?_
  refine X_then ?_
  refine W_sub _ (.cons (i := 6) rfl (.cons (i := 5) rfl (.cons (i := 4) rfl (.cons (i := 0) rfl (.cons (i := 1) rfl (.nil _)))))) ?_
  refine W_seq ?_
  refine W_region ?_
  refine L_yld (Y_move rfl) rfl rfl rfl ?_
  refine L_yld (Y_move rfl) rfl rfl rfl ?_
  refine L_yld (Y_nilCheck rfl) rfl rfl rfl ?_
  refine L_yld (Y_fieldAddr (off := 0) (by kernel_rfl) rfl rfl) rfl rfl rfl ?_
  refine L_yld (Y_fieldAddr (off := 4) (by kernel_rfl) rfl rfl) rfl rfl rfl ?_
  refine L_dos (D_store (us := [.int .i64 (pint x)]) (show _ = some 1 by kernel_rfl) rfl rfl rfl (by simp [Value.oneCell']) (hb.ext hx3) (by simp)) rfl rfl ?_
  rintro h2 hp4
  have hk5 : Blk h2 B [.int .i64 (k), str p, .int .i64 (m), str tg, .int .i64 (pint x)] := hp4.blk
  refine L_nil ?_
  refine X_then ?_
  refine W_sub _ (.cons (i := 6) rfl (.cons (i := 4) rfl (.cons (i := 1) rfl (.nil _)))) ?_
  refine W_seq ?_
  refine W_region ?_
  refine L_yld (Y_move rfl) rfl rfl rfl ?_
  refine L_yld (Y_ifceql (show Tryd.prog.underlying 99 = some (.interface (Tryd.prog.methodsAt 99)) by kernel_rfl) rfl (show ErrIs _ _ _ from hr12)) rfl rfl rfl ?_
  refine L_yld (Y_move rfl) rfl rfl rfl ?_
  refine L_split (d := 19) rfl (fun g => ?_) (fun g => ?_)
  · refine L_yld (Y_move rfl) rfl rfl rfl ?_
    refine L_call (E_call (by kernel_rfl) rfl) (strings_HasPrefix _ x [43] (by first | omega | rfl | (simp <;> omega))) rfl rfl rfl ?_
    rintro _ h2 ⟨rfl, rfl⟩
    refine L_yld (Y_notd rfl) rfl rfl rfl ?_
    refine L_yld (Y_pick_t rfl rfl) rfl rfl rfl ?_
    refine L_yld (Y_assign rfl) rfl rfl rfl ?_
    refine L_nil ?_
    refine X_then ?_
    refine W_sub _ (.cons (i := 4) rfl (.nil _)) ?_
    refine W_ret ?_
    refine X_ret1 rfl rfl ?_
    exact ⟨by rw [psz_ok, g, Bool.true_and]; simp, (Only.trans (Only.trans (Only.refl _ _) hx3 (fun _ hb_ => by cases hb_)) hp4.only (fun _ hb_ => .inl hb_)), hk5⟩
  · refine L_skip rfl rfl rfl ?_
    refine L_skip rfl rfl rfl ?_
    refine L_skip rfl rfl rfl ?_
    refine L_yld (Y_pick_f rfl rfl) rfl rfl rfl ?_
    refine L_yld (Y_assign rfl) rfl rfl rfl ?_
    refine L_nil ?_
    refine X_then ?_
    refine W_sub _ (.cons (i := 4) rfl (.nil _)) ?_
    refine W_ret ?_
    refine X_ret1 rfl rfl ?_
    exact ⟨by rw [psz_ok, g, Bool.false_and], (Only.trans (Only.trans (Only.refl _ _) hx3 (fun _ hb_ => by cases hb_)) hp4.only (fun _ hb_ => .inl hb_)), hk5⟩
theorem Y_makeFunc1 {P : Program} {n : Nat} {e : Env} {h : Heap} {d : Option Tmp} {t : TypeId} {pos : String} {af : Array Edge} {g : Option (Nat × Bool)} {f : FuncId} {x : Operand} {v : Value} (hx : ev e x = some v) : Yld P n e h ⟨d, .makeFunc (.func f) #[x] #[], t, pos, af, g⟩ (.func (.func f) #[v] #[]) :=
  Y_makeFunc (vs := #[v]) (us := #[]) (fun a he => by simp [he.eval hx]) (fun a he => by simp)
set_option maxRecDepth 100000 in
theorem slices_IndexB (h : Heap) (v : Value) (l : List UInt8) (hb : Bytes h v l) (c : Int) (hc : 0 ≤ c ∧ c ≤ 255) (hn : l.length ≤ 140737488355328) : Cal Tryd.prog 66 #[v, .int .u8 (c)] h (fun v h' => v = .int .i64 (Lib.indexByte l c.toNat.toUInt8) ∧ h' = h) := by
  have hcb := u8_back hc
  refine Cal_enter (args := [v, .int .u8 (c)]) Tryd.func66 rfl rfl rfl (fun σ => ?_)
  refine W_seq ?_
  refine W_region ?_
  refine L_yld (Y_assign rfl) rfl rfl rfl ?_
  refine L_nil ?_
  refine X_then ?_
  refine W_seq ?_
  refine W_seq ?_
  refine W_region ?_
  refine L_yld (Y_move rfl) rfl rfl rfl ?_
  refine L_yld (Y_len Tryd.underlying23 rfl hb) rfl rfl rfl ?_
  refine L_yld (Y_move rfl) rfl rfl rfl ?_
  refine L_nil ?_
  refine X_then ?_
  refine W_sub _ (.cons (i := 8) rfl (.cons (i := 7) rfl (.cons (i := 4) rfl (.cons (i := 0) rfl (.cons (i := 1) rfl (.nil _)))))) ?_
  refine W_block ?_
  refine W_loop (S := Nat) (fun i => [(7, .int .i64 ((l.length : Int))), (0, v), (1, .int .u8 (c)), (8, .int .i64 ((i : Int)))]) (fun i h' => i ≤ l.length ∧ (∀ k, k < i → ¬ byt l k = c) ∧ h' = h) (fun i => l.length - i) 0 (.cons (i := 7) rfl (.cons (i := 0) rfl (.cons (i := 1) rfl (.cons (i := 8) rfl (.nil _))))) ?_ ?_
  · exact ⟨Nat.zero_le _, (fun _ hk => absurd hk (Nat.not_lt_zero _)), rfl⟩
  rintro i h ⟨hi, hip, rfl⟩
  show W _ _ _ _ _ [(7, .int .i64 ((l.length : Int))), (0, v), (1, .int .u8 (c)), (8, .int .i64 ((i : Int)))] _
  refine W_seq ?_
  refine W_region ?_
  refine L_yld (Y_lss rfl rfl) rfl rfl rfl ?_
  refine L_nil ?_
  refine X_then ?_
  refine W_seq ?_
  refine W_splitd rfl (fun hl2 => ?_) (fun hl2 => ?_)
  · refine W_skip ?_
    refine X_then ?_
    refine W_sub _ (.cons (i := 7) rfl (.cons (i := 0) rfl (.cons (i := 1) rfl (.cons (i := 8) rfl (.nil _))))) ?_
    refine W_seq ?_
    refine W_block ?_
    refine W_seq ?_
    refine W_region ?_
    refine L_yld (Y_move rfl) rfl rfl rfl ?_
    refine L_yld (Y_assign rfl) rfl rfl rfl ?_
    refine L_nil ?_
    refine X_then ?_
    refine W_sub _ (.cons (i := 5) rfl (.cons (i := 7) rfl (.cons (i := 0) rfl (.cons (i := 1) rfl (.cons (i := 8) rfl (.nil _)))))) ?_
    refine W_seq ?_
    refine W_region ?_
    refine L_yld (Y_move rfl) rfl rfl rfl ?_
    refine L_yld (Y_move rfl) rfl rfl rfl ?_
    refine L_yld (Y_move rfl) rfl rfl rfl ?_
    refine L_yld (Y_idx Tryd.underlying23 (show _ = some 1 by kernel_rfl) rfl rfl hb (by omega) (by omega)) rfl rfl rfl ?_
    refine L_yld (Y_ldbyte Tryd.underlying5 rfl rfl hb (by omega) (by omega)) rfl rfl rfl ?_
    refine L_yld (Y_eql rfl rfl) rfl rfl rfl ?_
    refine L_nil ?_
    refine X_then ?_
    refine W_sub _ (.cons (i := 16) rfl (.cons (i := 5) rfl (.cons (i := 7) rfl (.cons (i := 0) rfl (.cons (i := 1) rfl (.cons (i := 8) rfl (.nil _))))))) ?_
    refine W_splitd rfl (fun hne => ?_) (fun hne => ?_)
    · refine W_seq ?_
      refine W_region ?_
      refine L_yld (Y_move rfl) rfl rfl rfl ?_
      refine L_yld (Y_assign rfl) rfl rfl rfl ?_
      refine L_nil ?_
      refine X_then ?_
      refine W_sub _ (.cons (i := 4) rfl (.cons (i := 7) rfl (.cons (i := 0) rfl (.cons (i := 1) rfl (.cons (i := 8) rfl (.nil _)))))) ?_
      refine W_ret ?_
      refine X_block_ret ?_
      refine X_then_ret ?_
      refine X_then_ret ?_
      refine X_block_ret ?_
      refine X_then_ret ?_
      refine X_ret1 rfl rfl ?_
      rw [Int.toNat_natCast] at hne
      exact ⟨by rw [indexByte_found (m := i) (fun k hk => by rw [hcb]; exact hip k hk) (by omega) (by rw [hcb]; exact hne.symm)], rfl⟩
    · refine W_skip ?_
      refine X_block ?_
      refine X_then ?_
      refine W_sub _ (.cons (i := 7) rfl (.cons (i := 0) rfl (.cons (i := 1) rfl (.cons (i := 8) rfl (.nil _))))) ?_
      refine W_region ?_
      refine L_yld (Y_add rfl rfl (by omega) (by omega)) rfl rfl rfl ?_
      refine L_yld (Y_move rfl) rfl rfl rfl ?_
      refine L_nil ?_
      refine X_loop (i + 1) (.cons (i := 7) rfl (.cons (i := 0) rfl (.cons (i := 1) rfl (.cons (i := 8) rfl (.nil _))))) ?_ ?_
      · exact ⟨by omega, (step_ne hip (fun e => hne (by rw [Int.toNat_natCast]; exact e.symm))), rfl⟩
      · (try dsimp only)
        omega
  · refine W_exit ?_
    refine X_then_exit ?_
    refine X_then_exit ?_
    refine X_block_hit ?_
    refine X_then ?_
    refine W_sub _ (.nil _) ?_
    refine W_seq ?_
    refine W_region ?_
    refine L_yld (Y_assign rfl) rfl rfl rfl ?_
    refine L_nil ?_
    refine X_then ?_
    refine W_ret ?_
    refine X_ret1 rfl rfl ?_
    have hi9 : i = l.length := by omega
    exact ⟨by rw [indexByte_nil (fun k hk => by rw [hcb]; exact hip k (by omega))], rfl⟩
end Go.Xp
