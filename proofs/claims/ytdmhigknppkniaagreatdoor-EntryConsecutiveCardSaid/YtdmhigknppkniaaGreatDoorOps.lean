/- What each operation of a function's text yields, as facts for the judgement of the base: whole numbers, truth values, strings, rows of cells, variables in blocks of their own. -/
import Derived.Test.YtdmhigknppkniaaGreatDoorCore
import Derived.WalkKit
set_option linter.unusedSimpArgs false
set_option linter.unusedVariables false
namespace Go.Xp

/-- A text as its list of bytes. -/
abbrev str (l : List UInt8) : Value := .string ⟨l.toArray⟩
/-- A byte as a value. -/
abbrev bv (b : UInt8) : Value := .int .u8 (b.toNat : Int)

section
variable {σ : Std} {P : Program} {n : Nat} {Q : Exit → Act → World → Prop} {e : Env} {h : Heap} {ops : Array Oper} {rest : List Oper}
variable {d : Option Tmp} {t : TypeId} {pos : String} {af : Array Edge} {g : Option (Nat × Bool)}

theorem Y_move {x : Operand} {v : Value} (hx : ev e x = some v) : Yld P n e h ⟨d, .move x, t, pos, af, g⟩ v := fun w a _ he => by simp [execOp, he.eval hx]
theorem Y_assign {x : Operand} {v : Value} (hx : ev e x = some v) : Yld P n e h ⟨d, .assign x, t, pos, af, g⟩ v := fun w a _ he => by simp [execOp, he.eval hx]
theorem Y_pick_t {c x y : Operand} {v : Value} (hc : ev e c = some (.bool true)) (hx : ev e x = some v) : Yld P n e h ⟨d, .pick c x y, t, pos, af, g⟩ v := fun w a _ he => by simp [execOp, he.eval hc, he.eval hx, asBool]
theorem Y_pick_f {c x y : Operand} {v : Value} (hc : ev e c = some (.bool false)) (hy : ev e y = some v) : Yld P n e h ⟨d, .pick c x y, t, pos, af, g⟩ v := fun w a _ he => by simp [execOp, he.eval hc, he.eval hy, asBool]
theorem Y_extract {x : Operand} {vs : Array Value} {i : Nat} {v : Value} (hx : ev e x = some (.tuple vs)) (hi : vs[i]? = some v) : Yld P n e h ⟨d, .extract x i, t, pos, af, g⟩ v := fun w a _ he => by simp [execOp, he.eval hx, Instr.extract, hi]
theorem Y_makeFunc {fn : Fn} {f c : Array Operand} {vs us : Array Value} (hf : ∀ a, EOk n e a → f.map a.eval = vs) (hc : ∀ a, EOk n e a → c.map a.eval = us) : Yld P n e h ⟨d, .makeFunc fn f c, t, pos, af, g⟩ (.func fn vs us) := fun w a _ he => by
  simp [execOp, Instr.makeFunc, hf a he, hc a he]
theorem Y_nilCheck {x : Operand} {b : Addr} (hx : ev e x = some (.pointer (some b))) : Yld P n e h ⟨d, .nilCheck x, t, pos, af, g⟩ (.pointer (some b)) := fun w a _ he => by simp [execOp, he.eval hx]

/-! ### Whole numbers -/
section
variable {T T' : TypeId} {x y : Operand} {k : IntKind} {p q : Int}
theorem Y_addw (hx : ev e x = some (.int k p)) (hy : ev e y = some (.int k q)) : Yld P n e h ⟨d, .binOp .add T x y T', t, pos, af, g⟩ (.int k (k.wrap (p + q))) := fun w a _ he => by
  simp [execOp, he.eval hx, he.eval hy, eqGuard, binOp, Op.intArith]
theorem Y_subw (hx : ev e x = some (.int k p)) (hy : ev e y = some (.int k q)) : Yld P n e h ⟨d, .binOp .sub T x y T', t, pos, af, g⟩ (.int k (k.wrap (p - q))) := fun w a _ he => by
  simp [execOp, he.eval hx, he.eval hy, eqGuard, binOp, Op.intArith]
theorem Y_mulw (hx : ev e x = some (.int k p)) (hy : ev e y = some (.int k q)) : Yld P n e h ⟨d, .binOp .mul T x y T', t, pos, af, g⟩ (.int k (k.wrap (p * q))) := fun w a _ he => by
  simp [execOp, he.eval hx, he.eval hy, eqGuard, binOp, Op.intArith]
theorem wrap_i64 {z : Int} (h0 : -9223372036854775808 ≤ z) (h1 : z ≤ 9223372036854775807) : IntKind.i64.wrap z = z := by
  rw [IntKind.wrap_i64]; omega
theorem wrap_u8 {z : Int} (h0 : 0 ≤ z) (h1 : z ≤ 255) : IntKind.u8.wrap z = z := by
  rw [IntKind.wrap_u8]; omega
theorem Y_add (hx : ev e x = some (.int .i64 p)) (hy : ev e y = some (.int .i64 q)) (h0 : -9223372036854775808 ≤ p + q) (h1 : p + q ≤ 9223372036854775807) : Yld P n e h ⟨d, .binOp .add T x y T', t, pos, af, g⟩ (.int .i64 (p + q)) := by
  have := Y_addw (P := P) (n := n) (h := h) (d := d) (t := t) (pos := pos) (af := af) (g := g) (T := T) (T' := T') hx hy
  rwa [wrap_i64 h0 h1] at this
theorem Y_sub (hx : ev e x = some (.int .i64 p)) (hy : ev e y = some (.int .i64 q)) (h0 : -9223372036854775808 ≤ p - q) (h1 : p - q ≤ 9223372036854775807) : Yld P n e h ⟨d, .binOp .sub T x y T', t, pos, af, g⟩ (.int .i64 (p - q)) := by
  have := Y_subw (P := P) (n := n) (h := h) (d := d) (t := t) (pos := pos) (af := af) (g := g) (T := T) (T' := T') hx hy
  rwa [wrap_i64 h0 h1] at this
theorem Y_mul (hx : ev e x = some (.int .i64 p)) (hy : ev e y = some (.int .i64 q)) (h0 : -9223372036854775808 ≤ p * q) (h1 : p * q ≤ 9223372036854775807) : Yld P n e h ⟨d, .binOp .mul T x y T', t, pos, af, g⟩ (.int .i64 (p * q)) := by
  have := Y_mulw (P := P) (n := n) (h := h) (d := d) (t := t) (pos := pos) (af := af) (g := g) (T := T) (T' := T') hx hy
  rwa [wrap_i64 h0 h1] at this
theorem Y_quow (hx : ev e x = some (.int k p)) (hy : ev e y = some (.int k q)) (hq : q ≠ 0) : Yld P n e h ⟨d, .binOp .quo T x y T', t, pos, af, g⟩ (.int k (k.wrap (p.tdiv q))) := fun w a _ he => by
  simp [execOp, he.eval hx, he.eval hy, eqGuard, binOp, Op.intDiv, hq]
theorem Y_remw (hx : ev e x = some (.int k p)) (hy : ev e y = some (.int k q)) (hq : q ≠ 0) : Yld P n e h ⟨d, .binOp .rem T x y T', t, pos, af, g⟩ (.int k (p.tmod q)) := fun w a _ he => by
  simp [execOp, he.eval hx, he.eval hy, eqGuard, binOp, Op.intDiv, hq]
/-- '/' of numbers that are not negative. -/
theorem Y_quo (hx : ev e x = some (.int .i64 p)) (hy : ev e y = some (.int .i64 q)) (hp : 0 ≤ p) (hp' : p ≤ 9223372036854775807) (hq : 0 < q) : Yld P n e h ⟨d, .binOp .quo T x y T', t, pos, af, g⟩ (.int .i64 (p / q)) := by
  have := Y_quow (P := P) (n := n) (h := h) (d := d) (t := t) (pos := pos) (af := af) (g := g) (T := T) (T' := T') hx hy (by omega)
  have h2 : 0 ≤ p / q := Int.ediv_nonneg hp (by omega)
  have h3 : p / q ≤ p := Int.ediv_le_self q hp
  rwa [Int.tdiv_eq_ediv_of_nonneg hp, wrap_i64 (by omega) (by omega)] at this
theorem Y_rem (hx : ev e x = some (.int k p)) (hy : ev e y = some (.int k q)) (hp : 0 ≤ p) (hq : 0 < q) : Yld P n e h ⟨d, .binOp .rem T x y T', t, pos, af, g⟩ (.int k (p % q)) := by
  have := Y_remw (P := P) (n := n) (h := h) (d := d) (t := t) (pos := pos) (af := af) (g := g) (T := T) (T' := T') hx hy (by omega)
  rwa [Int.tmod_eq_emod_of_nonneg hp] at this
theorem Y_lss (hx : ev e x = some (.int k p)) (hy : ev e y = some (.int k q)) : Yld P n e h ⟨d, .binOp .lss T x y T', t, pos, af, g⟩ (.bool (decide (p < q))) := fun w a _ he => by
  simp [execOp, he.eval hx, he.eval hy, eqGuard, binOp, Op.intCmp]
theorem Y_leq (hx : ev e x = some (.int k p)) (hy : ev e y = some (.int k q)) : Yld P n e h ⟨d, .binOp .leq T x y T', t, pos, af, g⟩ (.bool (decide (p ≤ q))) := fun w a _ he => by
  simp [execOp, he.eval hx, he.eval hy, eqGuard, binOp, Op.intCmp]
theorem Y_gtr (hx : ev e x = some (.int k p)) (hy : ev e y = some (.int k q)) : Yld P n e h ⟨d, .binOp .gtr T x y T', t, pos, af, g⟩ (.bool (decide (q < p))) := fun w a _ he => by
  simp [execOp, he.eval hx, he.eval hy, eqGuard, binOp, Op.intCmp]
theorem Y_geq (hx : ev e x = some (.int k p)) (hy : ev e y = some (.int k q)) : Yld P n e h ⟨d, .binOp .geq T x y T', t, pos, af, g⟩ (.bool (decide (q ≤ p))) := fun w a _ he => by
  simp [execOp, he.eval hx, he.eval hy, eqGuard, binOp, Op.intCmp]
theorem Y_eql (hx : ev e x = some (.int k p)) (hy : ev e y = some (.int k q)) : Yld P n e h ⟨d, .binOp .eql T x y T', t, pos, af, g⟩ (.bool (decide (p = q))) := fun w a _ he => by
  have hb : (p == q) = decide (p = q) := by rw [Bool.eq_iff_iff]; simp
  simp [execOp, he.eval hx, he.eval hy, eqGuard, binOp, Op.intCmp, hb]
theorem Y_neq (hx : ev e x = some (.int k p)) (hy : ev e y = some (.int k q)) : Yld P n e h ⟨d, .binOp .neq T x y T', t, pos, af, g⟩ (.bool (decide (¬ p = q))) := fun w a _ he => by
  have hb : (p != q) = decide (¬ p = q) := by rw [Bool.eq_iff_iff]; simp
  simp [execOp, he.eval hx, he.eval hy, eqGuard, binOp, Op.intCmp, hb]
theorem Y_conv {k' : IntKind} (hT : P.underlying T = some (.int k)) (hT' : P.underlying T' = some (.int k')) (hx : ev e x = some (.int k p)) : Yld P n e h ⟨d, .convert T T' x, t, pos, af, g⟩ (.int k' (k'.wrap p)) := fun w a _ he => by
  simp [execOp, he.eval hx, convert, run_underlying hT, run_underlying hT', Conv.intToInt]
theorem Y_max {A : Array TypeId} (hx : ev e x = some (.int k p)) (hy : ev e y = some (.int k q)) : Yld P n e h ⟨d, .call { callee := .builtin .max, args := #[x, y], argTypes := A }, t, pos, af, g⟩ (.int k (max p q)) := fun w a _ he => by
  have : (if q > p then q else p) = max p q := by rw [Int.max_def]; split <;> split <;> omega
  simp [execOp, resolve, invoke, builtin, he.eval hx, he.eval hy, Builtin.max_, Builtin.max2, this]
theorem Y_min {A : Array TypeId} (hx : ev e x = some (.int k p)) (hy : ev e y = some (.int k q)) : Yld P n e h ⟨d, .call { callee := .builtin .min, args := #[x, y], argTypes := A }, t, pos, af, g⟩ (.int k (min p q)) := fun w a _ he => by
  have : (if q < p then q else p) = min p q := by rw [Int.min_def]; split <;> split <;> omega
  simp [execOp, resolve, invoke, builtin, he.eval hx, he.eval hy, Builtin.min_, Builtin.min2, this]
end

/-! ### Truth values -/
section
variable {T T' : TypeId} {x y : Operand} {b c : Bool}
theorem Y_not (hx : ev e x = some (.bool b)) : Yld P n e h ⟨d, .unOp .not T x, t, pos, af, g⟩ (.bool (!b)) := fun w a _ he => by
  simp [execOp, he.eval hx, Op.unary]
theorem Y_notd {p : Prop} {i : Decidable p} (hx : ev e x = some (.bool (decide p))) : Yld P n e h ⟨d, .unOp .not T x, t, pos, af, g⟩ (.bool (decide (¬ p))) := fun w a _ he => by
  have hb : (!decide p) = decide (¬ p) := by rw [Bool.eq_iff_iff]; simp
  simp only [execOp, he.eval hx, Op.unary, hb, Sem.run_bind, Sem.run_pure, Result.andThen_ok]
end

/-! ### Texts -/
section
variable {T T' : TypeId} {x y : Operand} {l m : List UInt8}
theorem Y_seql (hx : ev e x = some (str l)) (hy : ev e y = some (str m)) : Yld P n e h ⟨d, .binOp .eql T x y T', t, pos, af, g⟩ (.bool (decide (l = m))) := fun w a _ he => by
  have hb : (l == m) = decide (l = m) := by rw [Bool.eq_iff_iff]; simp
  simp [execOp, he.eval hx, he.eval hy, eqGuard, binOp, Op.stringOp, hb]
theorem Y_sneq (hx : ev e x = some (str l)) (hy : ev e y = some (str m)) : Yld P n e h ⟨d, .binOp .neq T x y T', t, pos, af, g⟩ (.bool (decide (¬ l = m))) := fun w a _ he => by
  have hb : (!(l == m)) = decide (¬ l = m) := by rw [Bool.eq_iff_iff]; simp
  simp [execOp, he.eval hx, he.eval hy, eqGuard, binOp, Op.stringOp, hb]
theorem Y_sleq (hx : ev e x = some (str l)) (hy : ev e y = some (str m)) : Yld P n e h ⟨d, .binOp .leq T x y T', t, pos, af, g⟩ (.bool (Op.bytesLess l m || l == m)) := fun w a _ he => by
  simp [execOp, he.eval hx, he.eval hy, eqGuard, binOp, Op.stringOp]
theorem Y_sadd (hx : ev e x = some (str l)) (hy : ev e y = some (str m)) (hl : l.length + m.length ≤ 9223372036854775807) : Yld P n e h ⟨d, .binOp .add T x y T', t, pos, af, g⟩ (str (l ++ m)) := fun w a _ he => by
  have h1 : (⟨l.toArray⟩ : ByteArray).size = l.length := by simp [ByteArray.size]
  have h2 : (⟨m.toArray⟩ : ByteArray).size = m.length := by simp [ByteArray.size]
  have h4 : IntKind.i64.max = 9223372036854775807 := rfl
  have h3 : ¬ (((⟨l.toArray⟩ : ByteArray).size + (⟨m.toArray⟩ : ByteArray).size : Nat) : Int) > IntKind.i64.max := by
    rw [h1, h2, h4]; omega
  have h5 : (⟨l.toArray⟩ : ByteArray) ++ ⟨m.toArray⟩ = ⟨(l ++ m).toArray⟩ := by
    apply ByteArray.ext; simp
  simp only [execOp, he.eval hx, he.eval hy, eqGuard, binOp, Op.stringOp, if_neg h3, h5]
  simp
theorem run_blt {ρ : Operand → Value} {b : Builtin} {as : Array Operand} {A : Array TypeId} {w w' : World} {v : Value} {s : Sem Value} (hb : builtin b A t (as.map fun | .const _ => true | _ => false) (as.map ρ) = (do pure (.value (← s)))) (hs : s.run P w = .ok v w') :
    (execOp ρ ⟨d, .call { callee := .builtin b, args := as, argTypes := A }, t, pos, af, g⟩).run P w = .ok (.value v) w' := by
  show (builtin b A t (as.map fun | .const _ => true | _ => false) (as.map ρ)).run P w = _
  rw [hb]; simp [hs]
theorem Y_slen (hT : P.underlying T = some .string) (hx : ev e x = some (str l)) : Yld P n e h ⟨d, .call { callee := .builtin .len, args := #[x], argTypes := #[T] }, t, pos, af, g⟩ (.int .i64 (l.length : Int)) := fun w a _ he => by
  have hs : (⟨l.toArray⟩ : ByteArray).size = l.length := by simp [ByteArray.size]
  refine run_blt rfl ?_
  have := run_len_string (P := P) (w := w) T t ⟨l.toArray⟩ hT
  rw [hs] at this
  simpa [he.eval hx, goInt] using this
theorem Y_sindex {k : IntKind} {p : Int} (hT : P.underlying T = some .string) (hx : ev e x = some (str l)) (hy : ev e y = some (.int k p)) (h0 : 0 ≤ p) (h1 : p < l.length) : Yld P n e h ⟨d, .index T x y, t, pos, af, g⟩ (bv (l[p.toNat]'(by omega))) := fun w a _ he => by
  have hi : p.toNat < l.length := by omega
  have hs : (⟨l.toArray⟩ : ByteArray).size = l.length := by simp [ByteArray.size]
  have h3 : (⟨l.toArray⟩ : ByteArray)[p.toNat]? = some (l[p.toNat]) := by
    rw [ByteArray.getElem?_lt' _ _ (by rw [hs]; exact hi)]
    rfl
  simp only [execOp, he.eval hx, he.eval hy, Instr.index, asIntOf, Sem.run_bind, Sem.run_pure, Result.andThen_ok, run_underlying hT, if_pos h0, h3]
/-- 's[lo:hi]', either bound open. -/
theorem extract_list (l : List UInt8) (a b : Nat) : (⟨l.toArray⟩ : ByteArray).extract a b = ⟨((l.take b).drop a).toArray⟩ := by
  rw [ByteArray.extract_mk, List.drop_take]
theorem Y_sslice_l {lo : Operand} {k : IntKind} {p : Int} (hT : P.underlying T = some .string) (hx : ev e x = some (str l)) (hl : ev e lo = some (.int k p)) (h0 : 0 ≤ p) (h1 : p ≤ l.length) :
    Yld P n e h ⟨d, .slice T x (some lo) none none, t, pos, af, g⟩ (str (l.drop p.toNat)) := fun w a _ he => by
  have hs : (⟨l.toArray⟩ : ByteArray).size = l.length := by simp [ByteArray.size]
  have e2 : 0 ≤ p ∧ p ≤ ((l.length : Nat) : Int) := ⟨h0, h1⟩
  have e3 : l.take l.length = l := List.take_length
  simp only [execOp, he.eval hx, Option.map, he.eval hl, run_sliceAt_string w T _ _ _ _ hT, Instr.slice, Instr.sliceBounds, Instr.sliceBound, asIntOf, hs, extract_list, Sem.run_bind, Sem.run_pure, Result.andThen_ok, run_underlying hT, Sem.run_ite, if_pos e2, e3, Option.isSome, Bool.false_eq_true, if_false]
theorem Y_sslice_h {hi : Operand} {k' : IntKind} {q : Int} (hT : P.underlying T = some .string) (hx : ev e x = some (str l)) (hh : ev e hi = some (.int k' q)) (h0 : 0 ≤ q) (h2 : q ≤ l.length) :
    Yld P n e h ⟨d, .slice T x none (some hi) none, t, pos, af, g⟩ (str (l.take q.toNat)) := fun w a _ he => by
  have hs : (⟨l.toArray⟩ : ByteArray).size = l.length := by simp [ByteArray.size]
  have e1 : 0 ≤ q ∧ q ≤ ((l.length : Nat) : Int) := ⟨h0, h2⟩
  simp only [execOp, he.eval hx, Option.map, he.eval hh, run_sliceAt_string w T _ _ _ _ hT, Instr.slice, Instr.sliceBounds, Instr.sliceBound, asIntOf, hs, extract_list, Sem.run_bind, Sem.run_pure, Result.andThen_ok, run_underlying hT, Sem.run_ite, if_pos e1, List.drop_zero, Option.isSome, Bool.false_eq_true, if_false]
end
end
section
variable {σ : Std} {P : Program} {n : Nat} {Q : Exit → Act → World → Prop} {e : Env} {h : Heap} {ops : Array Oper} {rest : List Oper}
variable {dt : Option Tmp} {t : TypeId} {pos : String} {af : Array Edge} {g : Option (Nat × Bool)} {x : Operand} {v : Value} {d : Nat}
/-- A move, as a step of a region. -/
theorem Lm (hx : ev e x = some v) (hd : (⟨dt, .move x, t, pos, af, g⟩ : Oper).dst = some d) (hn : Nat.blt d n = true) (hg : gd ops e (⟨dt, .move x, t, pos, af, g⟩ : Oper).guard = some true) (k : L σ P ops n Q rest ((d, v) :: e) h) : L σ P ops n Q (⟨dt, .move x, t, pos, af, g⟩ :: rest) e h := L_yld (Y_move hx) hd hn hg k
/-- An assignment, as a step of a region. -/
theorem La (hx : ev e x = some v) (hd : (⟨dt, .assign x, t, pos, af, g⟩ : Oper).dst = some d) (hn : Nat.blt d n = true) (hg : gd ops e (⟨dt, .assign x, t, pos, af, g⟩ : Oper).guard = some true) (k : L σ P ops n Q rest ((d, v) :: e) h) : L σ P ops n Q (⟨dt, .assign x, t, pos, af, g⟩ :: rest) e h := L_yld (Y_assign hx) hd hn hg k
/-- Steps whose side conditions close themselves. -/
theorem Mv (k : L σ P ops n Q rest ((d, v) :: e) h) (hx : ev e x = some v := by exact rfl) (hd : (⟨dt, .move x, t, pos, af, g⟩ : Oper).dst = some d := by exact rfl) (hn : Nat.blt d n = true := by exact rfl) (hg : gd ops e (⟨dt, .move x, t, pos, af, g⟩ : Oper).guard = some true := by exact rfl) : L σ P ops n Q (⟨dt, .move x, t, pos, af, g⟩ :: rest) e h := Lm hx hd hn hg k
theorem Av (k : L σ P ops n Q rest ((d, v) :: e) h) (hx : ev e x = some v := by exact rfl) (hd : (⟨dt, .assign x, t, pos, af, g⟩ : Oper).dst = some d := by exact rfl) (hn : Nat.blt d n = true := by exact rfl) (hg : gd ops e (⟨dt, .assign x, t, pos, af, g⟩ : Oper).guard = some true := by exact rfl) : L σ P ops n Q (⟨dt, .assign x, t, pos, af, g⟩ :: rest) e h := La hx hd hn hg k
theorem Ly {o : Oper} (hy : Yld P n e h o v) (k : L σ P ops n Q rest ((d, v) :: e) h) (hd : o.dst = some d := by exact rfl) (hn : Nat.blt d n = true := by exact rfl) (hg : gd ops e o.guard = some true := by exact rfl) : L σ P ops n Q (o :: rest) e h := L_yld hy hd hn hg k
theorem Lx {vs : List Value} {i : Nat} (k : L σ P ops n Q rest ((d, v) :: e) h) (hx : ev e x = some (.tuple vs.toArray) := by exact rfl) (hi : vs[i]? = some v := by exact rfl) (hd : (⟨dt, .extract x i, t, pos, af, g⟩ : Oper).dst = some d := by exact rfl) (hn : Nat.blt d n = true := by exact rfl) (hg : gd ops e (⟨dt, .extract x i, t, pos, af, g⟩ : Oper).guard = some true := by exact rfl) : L σ P ops n Q (⟨dt, .extract x i, t, pos, af, g⟩ :: rest) e h := L_yld (Y_extract hx (by simpa using hi)) hd hn hg k
theorem Lad {T T' : TypeId} {y : Operand} {p q : Int} (k : L σ P ops n Q rest ((d, .int .i64 (p + q)) :: e) h) (hx : ev e x = some (.int .i64 p) := by exact rfl) (hy : ev e y = some (.int .i64 q) := by exact rfl) (h0 : -9223372036854775808 ≤ p + q := by first | omega | (simp; omega)) (h1 : p + q ≤ 9223372036854775807 := by first | omega | (simp; omega)) (hd : (⟨dt, .binOp .add T x y T', t, pos, af, g⟩ : Oper).dst = some d := by exact rfl) (hn : Nat.blt d n = true := by exact rfl) (hg : gd ops e (⟨dt, .binOp .add T x y T', t, pos, af, g⟩ : Oper).guard = some true := by exact rfl) : L σ P ops n Q (⟨dt, .binOp .add T x y T', t, pos, af, g⟩ :: rest) e h := L_yld (Y_add hx hy h0 h1) hd hn hg k
theorem Qy {h0 : Heap} {o : Oper} (hy : Yld P n e h0 o v) (k : LQ σ P ops n (fun h' => h' = h0) Q rest ((d, v) :: e)) (hd : o.dst = some d := by exact rfl) (hn : Nat.blt d n = true := by exact rfl) (hg : gd ops e o.guard = some true := by exact rfl) : LQ σ P ops n (fun h' => h' = h0) Q (o :: rest) e := LQ_yld (fun h_ hI_ => by subst hI_; exact hy) hd hn hg k
theorem Qm {h0 : Heap} (k : LQ σ P ops n (fun h' => h' = h0) Q rest ((d, v) :: e)) (hx : ev e x = some v := by exact rfl) (hd : (⟨dt, .move x, t, pos, af, g⟩ : Oper).dst = some d := by exact rfl) (hn : Nat.blt d n = true := by exact rfl) (hg : gd ops e (⟨dt, .move x, t, pos, af, g⟩ : Oper).guard = some true := by exact rfl) : LQ σ P ops n (fun h' => h' = h0) Q (⟨dt, .move x, t, pos, af, g⟩ :: rest) e := Qy (Y_move hx) k hd hn hg
theorem Qa {h0 : Heap} (k : LQ σ P ops n (fun h' => h' = h0) Q rest ((d, v) :: e)) (hx : ev e x = some v := by exact rfl) (hd : (⟨dt, .assign x, t, pos, af, g⟩ : Oper).dst = some d := by exact rfl) (hn : Nat.blt d n = true := by exact rfl) (hg : gd ops e (⟨dt, .assign x, t, pos, af, g⟩ : Oper).guard = some true := by exact rfl) : LQ σ P ops n (fun h' => h' = h0) Q (⟨dt, .assign x, t, pos, af, g⟩ :: rest) e := Qy (Y_assign hx) k hd hn hg
theorem Skp {o : Oper} (k : L σ P ops n Q rest ((d, undef) :: e) h) (hd : o.dst = some d := by exact rfl) (hn : Nat.blt d n = true := by exact rfl) (hg : gd ops e o.guard = some false := by exact rfl) : L σ P ops n Q (o :: rest) e h := L_skip hd hn hg k
theorem Nx {y : Code} (k : W σ P n y Q e h) : L σ P ops n (Exit.then (y.wp P Q) Q) [] e h := Ln (Xt k)
theorem Wr {id : Nat} {l : List Oper} {y : Code} (k : L σ P l.toArray n (Exit.then (y.wp P Q) Q) l e h) : W σ P n (.seq (.region id l.toArray false) y) Q e h := Wq (Wg k)
theorem Ws {y : Code} (k : W σ P n y Q e h) : W σ P n .skip (Exit.then (y.wp P Q) Q) e h := Wk (Xt k)
theorem M2 {dt1 dt2 : Option Tmp} {t1 t2 : TypeId} {pos1 pos2 : String} {af1 af2 : Array Edge} {g1 g2 : Option (Nat × Bool)} {x1 x2 : Operand} {v1 v2 : Value} {d1 d2 : Nat} (k : L σ P ops n Q rest ((d2, v2) :: (d1, v1) :: e) h) (h1 : ev e x1 = some v1 := by exact rfl) (a1 : (⟨dt1, .move x1, t1, pos1, af1, g1⟩ : Oper).dst = some d1 := by exact rfl) (b1 : Nat.blt d1 n = true := by exact rfl) (c1 : gd ops e (⟨dt1, .move x1, t1, pos1, af1, g1⟩ : Oper).guard = some true := by exact rfl) (h2 : ev ((d1, v1) :: e) x2 = some v2 := by exact rfl) (a2 : (⟨dt2, .move x2, t2, pos2, af2, g2⟩ : Oper).dst = some d2 := by exact rfl) (b2 : Nat.blt d2 n = true := by exact rfl) (c2 : gd ops ((d1, v1) :: e) (⟨dt2, .move x2, t2, pos2, af2, g2⟩ : Oper).guard = some true := by exact rfl) : L σ P ops n Q (⟨dt1, .move x1, t1, pos1, af1, g1⟩ :: ⟨dt2, .move x2, t2, pos2, af2, g2⟩ :: rest) e h := Mv (Mv k h2 a2 b2 c2) h1 a1 b1 c1
theorem A2 {dt1 dt2 : Option Tmp} {t1 t2 : TypeId} {pos1 pos2 : String} {af1 af2 : Array Edge} {g1 g2 : Option (Nat × Bool)} {x1 x2 : Operand} {v1 v2 : Value} {d1 d2 : Nat} (k : L σ P ops n Q rest ((d2, v2) :: (d1, v1) :: e) h) (h1 : ev e x1 = some v1 := by exact rfl) (a1 : (⟨dt1, .assign x1, t1, pos1, af1, g1⟩ : Oper).dst = some d1 := by exact rfl) (b1 : Nat.blt d1 n = true := by exact rfl) (c1 : gd ops e (⟨dt1, .assign x1, t1, pos1, af1, g1⟩ : Oper).guard = some true := by exact rfl) (h2 : ev ((d1, v1) :: e) x2 = some v2 := by exact rfl) (a2 : (⟨dt2, .assign x2, t2, pos2, af2, g2⟩ : Oper).dst = some d2 := by exact rfl) (b2 : Nat.blt d2 n = true := by exact rfl) (c2 : gd ops ((d1, v1) :: e) (⟨dt2, .assign x2, t2, pos2, af2, g2⟩ : Oper).guard = some true := by exact rfl) : L σ P ops n Q (⟨dt1, .assign x1, t1, pos1, af1, g1⟩ :: ⟨dt2, .assign x2, t2, pos2, af2, g2⟩ :: rest) e h := Av (Av k h2 a2 b2 c2) h1 a1 b1 c1
theorem An {y : Code} (k : W σ P n y Q ((d, v) :: e) h) (hx : ev e x = some v := by exact rfl) (hd : (⟨dt, .assign x, t, pos, af, g⟩ : Oper).dst = some d := by exact rfl) (hn : Nat.blt d n = true := by exact rfl) (hg : gd ops e (⟨dt, .assign x, t, pos, af, g⟩ : Oper).guard = some true := by exact rfl) : L σ P ops n (Exit.then (y.wp P Q) Q) [⟨dt, .assign x, t, pos, af, g⟩] e h := Av (Nx k) hx hd hn hg
theorem Wm {id : Nat} {l : List Oper} {y : Code} (k : L σ P (⟨dt, .move x, t, pos, af, g⟩ :: l).toArray n (Exit.then (y.wp P Q) Q) l ((d, v) :: e) h) (hx : ev e x = some v := by exact rfl) (hd : (⟨dt, .move x, t, pos, af, g⟩ : Oper).dst = some d := by exact rfl) (hn : Nat.blt d n = true := by exact rfl) (hg : gd (⟨dt, .move x, t, pos, af, g⟩ :: l).toArray e (⟨dt, .move x, t, pos, af, g⟩ : Oper).guard = some true := by exact rfl) : W σ P n (.seq (.region id (⟨dt, .move x, t, pos, af, g⟩ :: l).toArray false) y) Q e h := Wr (Mv k hx hd hn hg)
theorem Lxx {dt1 dt2 : Option Tmp} {t1 t2 : TypeId} {pos1 pos2 : String} {af1 af2 : Array Edge} {g1 g2 : Option (Nat × Bool)} {x1 x2 : Operand} {vs1 vs2 : List Value} {i1 i2 : Nat} {v1 v2 : Value} {d1 d2 : Nat} (k : L σ P ops n Q rest ((d2, v2) :: (d1, v1) :: e) h) (h1 : ev e x1 = some (.tuple vs1.toArray) := by exact rfl) (j1 : vs1[i1]? = some v1 := by exact rfl) (a1 : (⟨dt1, .extract x1 i1, t1, pos1, af1, g1⟩ : Oper).dst = some d1 := by exact rfl) (b1 : Nat.blt d1 n = true := by exact rfl) (c1 : gd ops e (⟨dt1, .extract x1 i1, t1, pos1, af1, g1⟩ : Oper).guard = some true := by exact rfl) (h2 : ev ((d1, v1) :: e) x2 = some (.tuple vs2.toArray) := by exact rfl) (j2 : vs2[i2]? = some v2 := by exact rfl) (a2 : (⟨dt2, .extract x2 i2, t2, pos2, af2, g2⟩ : Oper).dst = some d2 := by exact rfl) (b2 : Nat.blt d2 n = true := by exact rfl) (c2 : gd ops ((d1, v1) :: e) (⟨dt2, .extract x2 i2, t2, pos2, af2, g2⟩ : Oper).guard = some true := by exact rfl) : L σ P ops n Q (⟨dt1, .extract x1 i1, t1, pos1, af1, g1⟩ :: ⟨dt2, .extract x2 i2, t2, pos2, af2, g2⟩ :: rest) e h := Lx (Lx k h2 j2 a2 b2 c2) h1 j1 a1 b1 c1
theorem Mx {dt1 dt2 : Option Tmp} {t1 t2 : TypeId} {pos1 pos2 : String} {af1 af2 : Array Edge} {g1 g2 : Option (Nat × Bool)} {x1 x2 : Operand} {vs1 vs2 : List Value} {i1 i2 : Nat} {v1 v2 : Value} {d1 d2 : Nat} (k : L σ P ops n Q rest ((d2, v2) :: (d1, v1) :: (d, v) :: e) h) (hx : ev e x = some v := by exact rfl) (hd : (⟨dt, .move x, t, pos, af, g⟩ : Oper).dst = some d := by exact rfl) (hn : Nat.blt d n = true := by exact rfl) (hg : gd ops e (⟨dt, .move x, t, pos, af, g⟩ : Oper).guard = some true := by exact rfl) (h1 : ev ((d, v) :: e) x1 = some (.tuple vs1.toArray) := by exact rfl) (j1 : vs1[i1]? = some v1 := by exact rfl) (a1 : (⟨dt1, .extract x1 i1, t1, pos1, af1, g1⟩ : Oper).dst = some d1 := by exact rfl) (b1 : Nat.blt d1 n = true := by exact rfl) (c1 : gd ops ((d, v) :: e) (⟨dt1, .extract x1 i1, t1, pos1, af1, g1⟩ : Oper).guard = some true := by exact rfl) (h2 : ev ((d1, v1) :: (d, v) :: e) x2 = some (.tuple vs2.toArray) := by exact rfl) (j2 : vs2[i2]? = some v2 := by exact rfl) (a2 : (⟨dt2, .extract x2 i2, t2, pos2, af2, g2⟩ : Oper).dst = some d2 := by exact rfl) (b2 : Nat.blt d2 n = true := by exact rfl) (c2 : gd ops ((d1, v1) :: (d, v) :: e) (⟨dt2, .extract x2 i2, t2, pos2, af2, g2⟩ : Oper).guard = some true := by exact rfl) : L σ P ops n Q (⟨dt, .move x, t, pos, af, g⟩ :: ⟨dt1, .extract x1 i1, t1, pos1, af1, g1⟩ :: ⟨dt2, .extract x2 i2, t2, pos2, af2, g2⟩ :: rest) e h := Mv (Lxx k h1 j1 a1 b1 c1 h2 j2 a2 b2 c2) hx hd hn hg
theorem Sk2 {o1 o2 : Oper} {d1 d2 : Nat} (k : L σ P ops n Q rest ((d2, undef) :: (d1, undef) :: e) h) (a1 : o1.dst = some d1 := by exact rfl) (b1 : Nat.blt d1 n = true := by exact rfl) (c1 : gd ops e o1.guard = some false := by exact rfl) (a2 : o2.dst = some d2 := by exact rfl) (b2 : Nat.blt d2 n = true := by exact rfl) (c2 : gd ops ((d1, undef) :: e) o2.guard = some false := by exact rfl) : L σ P ops n Q (o1 :: o2 :: rest) e h := Skp (Skp k a2 b2 c2) a1 b1 c1
section
variable {T T' : TypeId} {y : Operand} {k : IntKind} {p q : Int} {d : Option Tmp}
theorem Yne (hx : ev e x = some (.int k p) := by exact rfl) (hy : ev e y = some (.int k q) := by exact rfl) : Yld P n e h ⟨d, .binOp .neq T x y T', t, pos, af, g⟩ (.bool (decide (¬ p = q))) := Y_neq hx hy
theorem Yeq (hx : ev e x = some (.int k p) := by exact rfl) (hy : ev e y = some (.int k q) := by exact rfl) : Yld P n e h ⟨d, .binOp .eql T x y T', t, pos, af, g⟩ (.bool (decide (p = q))) := Y_eql hx hy
theorem Yls (hx : ev e x = some (.int k p) := by exact rfl) (hy : ev e y = some (.int k q) := by exact rfl) : Yld P n e h ⟨d, .binOp .lss T x y T', t, pos, af, g⟩ (.bool (decide (p < q))) := Y_lss hx hy
theorem Ypt {c : Operand} (hc : ev e c = some (.bool true) := by exact rfl) (hx : ev e x = some v := by exact rfl) : Yld P n e h ⟨d, .pick c x y, t, pos, af, g⟩ v := Y_pick_t hc hx
theorem Ypf {c : Operand} (hc : ev e c = some (.bool false) := by exact rfl) (hy : ev e y = some v := by exact rfl) : Yld P n e h ⟨d, .pick c x y, t, pos, af, g⟩ v := Y_pick_f hc hy
end
theorem Wa {id : Nat} {l : List Oper} {y : Code} (k : L σ P (⟨dt, .assign x, t, pos, af, g⟩ :: l).toArray n (Exit.then (y.wp P Q) Q) l ((d, v) :: e) h) (hx : ev e x = some v := by exact rfl) (hd : (⟨dt, .assign x, t, pos, af, g⟩ : Oper).dst = some d := by exact rfl) (hn : Nat.blt d n = true := by exact rfl) (hg : gd (⟨dt, .assign x, t, pos, af, g⟩ :: l).toArray e (⟨dt, .assign x, t, pos, af, g⟩ : Oper).guard = some true := by exact rfl) : W σ P n (.seq (.region id (⟨dt, .assign x, t, pos, af, g⟩ :: l).toArray false) y) Q e h := Wr (Av k hx hd hn hg)
end
/-- What a truth value with known parts comes to. -/
theorem SB : (∀ p : Prop, (True ∧ p) = p) ∧ (∀ p : Prop, (p ∧ True) = p) ∧ (∀ p : Prop, (False ∧ p) = False) ∧ (∀ p : Prop, (p ∧ False) = False) ∧ (∀ p : Prop, (True ∨ p) = True) ∧ (∀ p : Prop, (p ∨ True) = True) ∧ (∀ p : Prop, (False ∨ p) = p) ∧ (∀ p : Prop, (p ∨ False) = p) ∧ ((¬ True) = False) ∧ ((¬ False) = True) ∧ (∀ q : Decidable True, @decide True q = true) ∧ (∀ q : Decidable False, @decide False q = false) ∧ ((true = false) = False) ∧ ((false = true) = False) ∧ (∀ (α : Type) (a : α), (a = a) = True) ∧ (∀ (b : Bool) (q : Decidable (b = true)), @decide (b = true) q = b) :=
  ⟨by simp, by simp, by simp, by simp, by simp, by simp, by simp, by simp, by simp, by simp, by simp, by simp, by simp, by simp, by simp, fun b q => by cases b <;> simp⟩
end Go.Xp
