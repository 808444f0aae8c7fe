/- What each operation of a function's text yields, as facts for the judgement of the base: whole numbers, truth values, strings, rows of cells, variables in blocks of their own. -/
import Derived.Test.YtknimfbagbkjfaaDoorCore
import Derived.WalkKit
set_option linter.unusedSimpArgs false
set_option linter.unusedVariables false
namespace Go.Xp

/-- A text as its list of bytes. -/
abbrev str (l : List UInt8) : Value := .string ⟨l.toArray⟩
/-- A byte as a value. -/
abbrev bv (b : UInt8) : Value := .int .u8 (b.toNat : Int)

section
variable {σ : Std} {P : Program} {n : Nat} {Q : Exit → Act → World → Prop} {e : Env} {h : Heap} {ops : Array Oper} {rest : List Oper}
variable {d : Option Tmp} {t : TypeId} {pos : String} {af : Array Edge} {g : Option (Nat × Bool)}

theorem Y_move {x : Operand} {v : Value} (hx : ev e x = some v) : Yld P n e h ⟨d, .move x, t, pos, af, g⟩ v := fun w a _ he => by simp [execOp, he.eval hx]
theorem Y_assign {x : Operand} {v : Value} (hx : ev e x = some v) : Yld P n e h ⟨d, .assign x, t, pos, af, g⟩ v := fun w a _ he => by simp [execOp, he.eval hx]
theorem Y_pick_t {c x y : Operand} {v : Value} (hc : ev e c = some (.bool true)) (hx : ev e x = some v) : Yld P n e h ⟨d, .pick c x y, t, pos, af, g⟩ v := fun w a _ he => by simp [execOp, he.eval hc, he.eval hx, asBool]
theorem Y_pick_f {c x y : Operand} {v : Value} (hc : ev e c = some (.bool false)) (hy : ev e y = some v) : Yld P n e h ⟨d, .pick c x y, t, pos, af, g⟩ v := fun w a _ he => by simp [execOp, he.eval hc, he.eval hy, asBool]
theorem Y_extract {x : Operand} {vs : Array Value} {i : Nat} {v : Value} (hx : ev e x = some (.tuple vs)) (hi : vs[i]? = some v) : Yld P n e h ⟨d, .extract x i, t, pos, af, g⟩ v := fun w a _ he => by simp [execOp, he.eval hx, Instr.extract, hi]
theorem Y_nilCheck {x : Operand} {b : Addr} (hx : ev e x = some (.pointer (some b))) : Yld P n e h ⟨d, .nilCheck x, t, pos, af, g⟩ (.pointer (some b)) := fun w a _ he => by simp [execOp, he.eval hx]

/-! ### Whole numbers -/
section
variable {T T' : TypeId} {x y : Operand} {k : IntKind} {p q : Int}
theorem Y_addw (hx : ev e x = some (.int k p)) (hy : ev e y = some (.int k q)) : Yld P n e h ⟨d, .binOp .add T x y T', t, pos, af, g⟩ (.int k (k.wrap (p + q))) := fun w a _ he => by
  simp [execOp, he.eval hx, he.eval hy, eqGuard, binOp, Op.intArith]
theorem Y_subw (hx : ev e x = some (.int k p)) (hy : ev e y = some (.int k q)) : Yld P n e h ⟨d, .binOp .sub T x y T', t, pos, af, g⟩ (.int k (k.wrap (p - q))) := fun w a _ he => by
  simp [execOp, he.eval hx, he.eval hy, eqGuard, binOp, Op.intArith]
theorem Y_mulw (hx : ev e x = some (.int k p)) (hy : ev e y = some (.int k q)) : Yld P n e h ⟨d, .binOp .mul T x y T', t, pos, af, g⟩ (.int k (k.wrap (p * q))) := fun w a _ he => by
  simp [execOp, he.eval hx, he.eval hy, eqGuard, binOp, Op.intArith]
theorem wrap_i64 {z : Int} (h0 : -9223372036854775808 ≤ z) (h1 : z ≤ 9223372036854775807) : IntKind.i64.wrap z = z := by
  rw [IntKind.wrap_i64]; omega
theorem wrap_u8 {z : Int} (h0 : 0 ≤ z) (h1 : z ≤ 255) : IntKind.u8.wrap z = z := by
  rw [IntKind.wrap_u8]; omega
theorem Y_add (hx : ev e x = some (.int .i64 p)) (hy : ev e y = some (.int .i64 q)) (h0 : -9223372036854775808 ≤ p + q) (h1 : p + q ≤ 9223372036854775807) : Yld P n e h ⟨d, .binOp .add T x y T', t, pos, af, g⟩ (.int .i64 (p + q)) := by
  have := Y_addw (P := P) (n := n) (h := h) (d := d) (t := t) (pos := pos) (af := af) (g := g) (T := T) (T' := T') hx hy
  rwa [wrap_i64 h0 h1] at this
theorem Y_sub (hx : ev e x = some (.int .i64 p)) (hy : ev e y = some (.int .i64 q)) (h0 : -9223372036854775808 ≤ p - q) (h1 : p - q ≤ 9223372036854775807) : Yld P n e h ⟨d, .binOp .sub T x y T', t, pos, af, g⟩ (.int .i64 (p - q)) := by
  have := Y_subw (P := P) (n := n) (h := h) (d := d) (t := t) (pos := pos) (af := af) (g := g) (T := T) (T' := T') hx hy
  rwa [wrap_i64 h0 h1] at this
theorem Y_mul (hx : ev e x = some (.int .i64 p)) (hy : ev e y = some (.int .i64 q)) (h0 : -9223372036854775808 ≤ p * q) (h1 : p * q ≤ 9223372036854775807) : Yld P n e h ⟨d, .binOp .mul T x y T', t, pos, af, g⟩ (.int .i64 (p * q)) := by
  have := Y_mulw (P := P) (n := n) (h := h) (d := d) (t := t) (pos := pos) (af := af) (g := g) (T := T) (T' := T') hx hy
  rwa [wrap_i64 h0 h1] at this
theorem Y_lss (hx : ev e x = some (.int k p)) (hy : ev e y = some (.int k q)) : Yld P n e h ⟨d, .binOp .lss T x y T', t, pos, af, g⟩ (.bool (decide (p < q))) := fun w a _ he => by
  simp [execOp, he.eval hx, he.eval hy, eqGuard, binOp, Op.intCmp]
theorem Y_leq (hx : ev e x = some (.int k p)) (hy : ev e y = some (.int k q)) : Yld P n e h ⟨d, .binOp .leq T x y T', t, pos, af, g⟩ (.bool (decide (p ≤ q))) := fun w a _ he => by
  simp [execOp, he.eval hx, he.eval hy, eqGuard, binOp, Op.intCmp]
theorem Y_gtr (hx : ev e x = some (.int k p)) (hy : ev e y = some (.int k q)) : Yld P n e h ⟨d, .binOp .gtr T x y T', t, pos, af, g⟩ (.bool (decide (q < p))) := fun w a _ he => by
  simp [execOp, he.eval hx, he.eval hy, eqGuard, binOp, Op.intCmp]
theorem Y_geq (hx : ev e x = some (.int k p)) (hy : ev e y = some (.int k q)) : Yld P n e h ⟨d, .binOp .geq T x y T', t, pos, af, g⟩ (.bool (decide (q ≤ p))) := fun w a _ he => by
  simp [execOp, he.eval hx, he.eval hy, eqGuard, binOp, Op.intCmp]
theorem Y_eql (hx : ev e x = some (.int k p)) (hy : ev e y = some (.int k q)) : Yld P n e h ⟨d, .binOp .eql T x y T', t, pos, af, g⟩ (.bool (decide (p = q))) := fun w a _ he => by
  have hb : (p == q) = decide (p = q) := by rw [Bool.eq_iff_iff]; simp
  simp [execOp, he.eval hx, he.eval hy, eqGuard, binOp, Op.intCmp, hb]
theorem Y_neq (hx : ev e x = some (.int k p)) (hy : ev e y = some (.int k q)) : Yld P n e h ⟨d, .binOp .neq T x y T', t, pos, af, g⟩ (.bool (decide (¬ p = q))) := fun w a _ he => by
  have hb : (p != q) = decide (¬ p = q) := by rw [Bool.eq_iff_iff]; simp
  simp [execOp, he.eval hx, he.eval hy, eqGuard, binOp, Op.intCmp, hb]
theorem Y_conv {k' : IntKind} (hT : P.underlying T = some (.int k)) (hT' : P.underlying T' = some (.int k')) (hx : ev e x = some (.int k p)) : Yld P n e h ⟨d, .convert T T' x, t, pos, af, g⟩ (.int k' (k'.wrap p)) := fun w a _ he => by
  simp [execOp, he.eval hx, convert, run_underlying hT, run_underlying hT', Conv.intToInt]
end

/-! ### Truth values -/
section
variable {T T' : TypeId} {x y : Operand} {b c : Bool}
theorem Y_not (hx : ev e x = some (.bool b)) : Yld P n e h ⟨d, .unOp .not T x, t, pos, af, g⟩ (.bool (!b)) := fun w a _ he => by
  simp [execOp, he.eval hx, Op.unary]
theorem Y_notd {p : Prop} {i : Decidable p} (hx : ev e x = some (.bool (decide p))) : Yld P n e h ⟨d, .unOp .not T x, t, pos, af, g⟩ (.bool (decide (¬ p))) := fun w a _ he => by
  have hb : (!decide p) = decide (¬ p) := by rw [Bool.eq_iff_iff]; simp
  simp only [execOp, he.eval hx, Op.unary, hb, Sem.run_bind, Sem.run_pure, Result.andThen_ok]
end

/-! ### Texts -/
section
variable {T T' : TypeId} {x y : Operand} {l m : List UInt8}
theorem Y_seql (hx : ev e x = some (str l)) (hy : ev e y = some (str m)) : Yld P n e h ⟨d, .binOp .eql T x y T', t, pos, af, g⟩ (.bool (decide (l = m))) := fun w a _ he => by
  have hb : (l == m) = decide (l = m) := by rw [Bool.eq_iff_iff]; simp
  simp [execOp, he.eval hx, he.eval hy, eqGuard, binOp, Op.stringOp, hb]
theorem Y_sneq (hx : ev e x = some (str l)) (hy : ev e y = some (str m)) : Yld P n e h ⟨d, .binOp .neq T x y T', t, pos, af, g⟩ (.bool (decide (¬ l = m))) := fun w a _ he => by
  have hb : (!(l == m)) = decide (¬ l = m) := by rw [Bool.eq_iff_iff]; simp
  simp [execOp, he.eval hx, he.eval hy, eqGuard, binOp, Op.stringOp, hb]
theorem Y_slss (hx : ev e x = some (str l)) (hy : ev e y = some (str m)) : Yld P n e h ⟨d, .binOp .lss T x y T', t, pos, af, g⟩ (.bool (Op.bytesLess l m)) := fun w a _ he => by
  simp [execOp, he.eval hx, he.eval hy, eqGuard, binOp, Op.stringOp]
theorem Y_sgtr (hx : ev e x = some (str l)) (hy : ev e y = some (str m)) : Yld P n e h ⟨d, .binOp .gtr T x y T', t, pos, af, g⟩ (.bool !(Op.bytesLess l m || l == m)) := fun w a _ he => by
  simp [execOp, he.eval hx, he.eval hy, eqGuard, binOp, Op.stringOp]
theorem run_blt {ρ : Operand → Value} {b : Builtin} {as : Array Operand} {A : Array TypeId} {w w' : World} {v : Value} {s : Sem Value} (hb : builtin b A t (as.map fun | .const _ => true | _ => false) (as.map ρ) = (do pure (.value (← s)))) (hs : s.run P w = .ok v w') :
    (execOp ρ ⟨d, .call { callee := .builtin b, args := as, argTypes := A }, t, pos, af, g⟩).run P w = .ok (.value v) w' := by
  show (builtin b A t (as.map fun | .const _ => true | _ => false) (as.map ρ)).run P w = _
  rw [hb]; simp [hs]
theorem Y_slen (hT : P.underlying T = some .string) (hx : ev e x = some (str l)) : Yld P n e h ⟨d, .call { callee := .builtin .len, args := #[x], argTypes := #[T] }, t, pos, af, g⟩ (.int .i64 (l.length : Int)) := fun w a _ he => by
  have hs : (⟨l.toArray⟩ : ByteArray).size = l.length := by simp [ByteArray.size]
  refine run_blt rfl ?_
  have := run_len_string (P := P) (w := w) T t ⟨l.toArray⟩ hT
  rw [hs] at this
  simpa [he.eval hx, goInt] using this
theorem Y_sindex {k : IntKind} {p : Int} (hT : P.underlying T = some .string) (hx : ev e x = some (str l)) (hy : ev e y = some (.int k p)) (h0 : 0 ≤ p) (h1 : p < l.length) : Yld P n e h ⟨d, .index T x y, t, pos, af, g⟩ (bv (l[p.toNat]'(by omega))) := fun w a _ he => by
  have hi : p.toNat < l.length := by omega
  have hs : (⟨l.toArray⟩ : ByteArray).size = l.length := by simp [ByteArray.size]
  have h3 : (⟨l.toArray⟩ : ByteArray)[p.toNat]? = some (l[p.toNat]) := by
    rw [ByteArray.getElem?_lt' _ _ (by rw [hs]; exact hi)]
    rfl
  simp only [execOp, he.eval hx, he.eval hy, Instr.index, asIntOf, Sem.run_bind, Sem.run_pure, Result.andThen_ok, run_underlying hT, if_pos h0, h3]
/-- 's[lo:hi]', either bound open. -/
theorem extract_list (l : List UInt8) (a b : Nat) : (⟨l.toArray⟩ : ByteArray).extract a b = ⟨((l.take b).drop a).toArray⟩ := by
  rw [ByteArray.extract_mk, List.drop_take]
theorem Y_sslice {lo hi : Operand} {k k' : IntKind} {p q : Int} (hT : P.underlying T = some .string) (hx : ev e x = some (str l)) (hl : ev e lo = some (.int k p)) (hh : ev e hi = some (.int k' q)) (h0 : 0 ≤ p) (h1 : p ≤ q) (h2 : q ≤ l.length) :
    Yld P n e h ⟨d, .slice T x (some lo) (some hi) none, t, pos, af, g⟩ (str ((l.take q.toNat).drop p.toNat)) := fun w a _ he => by
  have hs : (⟨l.toArray⟩ : ByteArray).size = l.length := by simp [ByteArray.size]
  have e1 : 0 ≤ q ∧ q ≤ ((l.length : Nat) : Int) := ⟨by omega, h2⟩
  have e2 : 0 ≤ p ∧ p ≤ ((q.toNat : Nat) : Int) := ⟨h0, by omega⟩
  simp only [execOp, he.eval hx, Option.map, he.eval hl, he.eval hh, run_sliceAt_string w T _ _ _ _ hT, Instr.slice, Instr.sliceBounds, Instr.sliceBound, asIntOf, hs, extract_list, Sem.run_bind, Sem.run_pure, Result.andThen_ok, run_underlying hT, Sem.run_ite, if_pos e1, if_pos e2, Option.isSome, Bool.false_eq_true, if_false]
theorem Y_sslice_l {lo : Operand} {k : IntKind} {p : Int} (hT : P.underlying T = some .string) (hx : ev e x = some (str l)) (hl : ev e lo = some (.int k p)) (h0 : 0 ≤ p) (h1 : p ≤ l.length) :
    Yld P n e h ⟨d, .slice T x (some lo) none none, t, pos, af, g⟩ (str (l.drop p.toNat)) := fun w a _ he => by
  have hs : (⟨l.toArray⟩ : ByteArray).size = l.length := by simp [ByteArray.size]
  have e2 : 0 ≤ p ∧ p ≤ ((l.length : Nat) : Int) := ⟨h0, h1⟩
  have e3 : l.take l.length = l := List.take_length
  simp only [execOp, he.eval hx, Option.map, he.eval hl, run_sliceAt_string w T _ _ _ _ hT, Instr.slice, Instr.sliceBounds, Instr.sliceBound, asIntOf, hs, extract_list, Sem.run_bind, Sem.run_pure, Result.andThen_ok, run_underlying hT, Sem.run_ite, if_pos e2, e3, Option.isSome, Bool.false_eq_true, if_false]
theorem Y_sslice_h {hi : Operand} {k' : IntKind} {q : Int} (hT : P.underlying T = some .string) (hx : ev e x = some (str l)) (hh : ev e hi = some (.int k' q)) (h0 : 0 ≤ q) (h2 : q ≤ l.length) :
    Yld P n e h ⟨d, .slice T x none (some hi) none, t, pos, af, g⟩ (str (l.take q.toNat)) := fun w a _ he => by
  have hs : (⟨l.toArray⟩ : ByteArray).size = l.length := by simp [ByteArray.size]
  have e1 : 0 ≤ q ∧ q ≤ ((l.length : Nat) : Int) := ⟨h0, h2⟩
  simp only [execOp, he.eval hx, Option.map, he.eval hh, run_sliceAt_string w T _ _ _ _ hT, Instr.slice, Instr.sliceBounds, Instr.sliceBound, asIntOf, hs, extract_list, Sem.run_bind, Sem.run_pure, Result.andThen_ok, run_underlying hT, Sem.run_ite, if_pos e1, List.drop_zero, Option.isSome, Bool.false_eq_true, if_false]
end
end
section
variable {σ : Std} {P : Program} {n : Nat} {Q : Exit → Act → World → Prop} {e : Env} {h : Heap} {ops : Array Oper} {rest : List Oper}
variable {dt : Option Tmp} {t : TypeId} {pos : String} {af : Array Edge} {g : Option (Nat × Bool)} {x : Operand} {v : Value} {d : Nat}
/-- A move, as a step of a region. -/
theorem Lm (hx : ev e x = some v) (hd : (⟨dt, .move x, t, pos, af, g⟩ : Oper).dst = some d) (hn : Nat.blt d n = true) (hg : gd ops e (⟨dt, .move x, t, pos, af, g⟩ : Oper).guard = some true) (k : L σ P ops n Q rest ((d, v) :: e) h) : L σ P ops n Q (⟨dt, .move x, t, pos, af, g⟩ :: rest) e h := L_yld (Y_move hx) hd hn hg k
/-- An assignment, as a step of a region. -/
theorem La (hx : ev e x = some v) (hd : (⟨dt, .assign x, t, pos, af, g⟩ : Oper).dst = some d) (hn : Nat.blt d n = true) (hg : gd ops e (⟨dt, .assign x, t, pos, af, g⟩ : Oper).guard = some true) (k : L σ P ops n Q rest ((d, v) :: e) h) : L σ P ops n Q (⟨dt, .assign x, t, pos, af, g⟩ :: rest) e h := L_yld (Y_assign hx) hd hn hg k
/-- Steps whose side conditions close themselves. -/
theorem Mv (k : L σ P ops n Q rest ((d, v) :: e) h) (hx : ev e x = some v := by exact rfl) (hd : (⟨dt, .move x, t, pos, af, g⟩ : Oper).dst = some d := by exact rfl) (hn : Nat.blt d n = true := by exact rfl) (hg : gd ops e (⟨dt, .move x, t, pos, af, g⟩ : Oper).guard = some true := by exact rfl) : L σ P ops n Q (⟨dt, .move x, t, pos, af, g⟩ :: rest) e h := Lm hx hd hn hg k
theorem Av (k : L σ P ops n Q rest ((d, v) :: e) h) (hx : ev e x = some v := by exact rfl) (hd : (⟨dt, .assign x, t, pos, af, g⟩ : Oper).dst = some d := by exact rfl) (hn : Nat.blt d n = true := by exact rfl) (hg : gd ops e (⟨dt, .assign x, t, pos, af, g⟩ : Oper).guard = some true := by exact rfl) : L σ P ops n Q (⟨dt, .assign x, t, pos, af, g⟩ :: rest) e h := La hx hd hn hg k
theorem Ly {o : Oper} (hy : Yld P n e h o v) (k : L σ P ops n Q rest ((d, v) :: e) h) (hd : o.dst = some d := by exact rfl) (hn : Nat.blt d n = true := by exact rfl) (hg : gd ops e o.guard = some true := by exact rfl) : L σ P ops n Q (o :: rest) e h := L_yld hy hd hn hg k
theorem Skp {o : Oper} (k : L σ P ops n Q rest ((d, undef) :: e) h) (hd : o.dst = some d := by exact rfl) (hn : Nat.blt d n = true := by exact rfl) (hg : gd ops e o.guard = some false := by exact rfl) : L σ P ops n Q (o :: rest) e h := L_skip hd hn hg k
theorem Nx {y : Code} (k : W σ P n y Q e h) : L σ P ops n (Exit.then (y.wp P Q) Q) [] e h := L_nil (X_then k)
theorem Wr {id : Nat} {l : List Oper} {y : Code} (k : L σ P l.toArray n (Exit.then (y.wp P Q) Q) l e h) : W σ P n (.seq (.region id l.toArray false) y) Q e h := W_seq (W_region k)
theorem Ws {y : Code} (k : W σ P n y Q e h) : W σ P n .skip (Exit.then (y.wp P Q) Q) e h := W_skip (X_then k)
end
/-- What a truth value with known parts comes to. -/
theorem SB : (∀ p : Prop, (True ∧ p) = p) ∧ (∀ p : Prop, (p ∧ True) = p) ∧ (∀ p : Prop, (False ∧ p) = False) ∧ (∀ p : Prop, (p ∧ False) = False) ∧ (∀ p : Prop, (True ∨ p) = True) ∧ (∀ p : Prop, (p ∨ True) = True) ∧ (∀ p : Prop, (False ∨ p) = p) ∧ (∀ p : Prop, (p ∨ False) = p) ∧ ((¬ True) = False) ∧ ((¬ False) = True) ∧ (∀ q : Decidable True, @decide True q = true) ∧ (∀ q : Decidable False, @decide False q = false) ∧ ((true = false) = False) ∧ ((false = true) = False) ∧ (∀ (α : Type) (a : α), (a = a) = True) ∧ (∀ (b : Bool) (q : Decidable (b = true)), @decide (b = true) q = b) :=
  ⟨by simp, by simp, by simp, by simp, by simp, by simp, by simp, by simp, by simp, by simp, by simp, by simp, by simp, by simp, by simp, fun b q => by cases b <;> simp⟩
end Go.Xp
