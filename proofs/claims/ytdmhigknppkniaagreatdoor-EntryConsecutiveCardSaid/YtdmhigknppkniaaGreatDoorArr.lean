/- Arrays of bytes by value and behind a pointer, parts of them as slices, package variables, loops of a known number of rounds, results in any mixture. -/
import Derived.Test.YtdmhigknppkniaaGreatDoorDraw
import Derived.Test.YtdmhigknppkniaaGreatDoorUstE
import Derived.LoopN
import Derived.Lib.SliceRun
set_option linter.unusedSimpArgs false
set_option linter.unusedVariables false
namespace Go.Xp

/-! ### Loops, unrolled -/
section
variable {σ : Std} {P : Program} {n : Nat} {Q : Exit → Act → World → Prop} {e : Env} {h : Heap} {fn : Func} {R : Value → Heap → Prop}
def Rounds (P : Program) (c : Code) (Q : Exit → Act → World → Prop) (k : Nat) : Act → World → Prop := Code.rounds P c Q k
theorem W_rounds {c : Code} (k : Nat) (x : W σ P n c (Exit.then (Rounds P c Q k) Q) e h) : W σ P n (.loop c) Q e h := fun w a hs hh he => wp_loop_rounds (k + 1) (x w a hs hh he)
theorem X_round {c : Code} {k : Nat} (x : W σ P n c (Exit.then (Rounds P c Q k) Q) e h) : X σ n (Exit.then (Rounds P c Q (k + 1)) Q) .normal e h := x

/-! ### Results -/
def rvS (tmps : Array Value) : ResultVar → Sem Value
  | .tmp t => pure (tmps.getD t undef)
  | .cell a t => do loadVar t (← asAddr (tmps.getD a undef))
theorem results_rvS (fn : Func) (tmps : Array Value) : results fn tmps = (do let vs ← fn.results.mapM (rvS tmps); pure (if h : vs.size = 1 then vs[0] else .tuple vs)) := by
  unfold results
  congr 1
theorem X_retv2 {r1 r2 : ResultVar} {v1 v2 : Value} (hr : fn.results = #[r1, r2]) (x1 : RV P e h r1 v1) (x2 : RV P e h r2 v2) (k : R (.tuple #[v1, v2]) h) : X σ n (bodyPost P fn (Post σ R)) .ret e h := fun w a hs hh he => by
  refine ⟨he.1, _, ?_, _, rfl, hs, hh ▸ k⟩
  cases r1 with
  | tmp t1 =>
    have y1 := RV.tmp he x1; rw [Array.getD_eq_getD_getElem?] at y1
    cases r2 with
    | tmp t2 => have y2 := RV.tmp he x2; rw [Array.getD_eq_getD_getElem?] at y2; simp [results, hr, y1, y2]
    | cell b T => obtain ⟨c, o, h1, h2⟩ := x2.cell he hh; rw [Array.getD_eq_getD_getElem?] at h1; simp [results, hr, y1, h1, asAddr, h2]
  | cell b1 T1 =>
    obtain ⟨c1, o1, g1, g2⟩ := x1.cell he hh; rw [Array.getD_eq_getD_getElem?] at g1
    cases r2 with
    | tmp t2 => have y2 := RV.tmp he x2; rw [Array.getD_eq_getD_getElem?] at y2; simp [results, hr, y2, g1, asAddr, g2]
    | cell b T => obtain ⟨c, o, h1, h2⟩ := x2.cell he hh; rw [Array.getD_eq_getD_getElem?] at h1; simp [results, hr, g1, g2, h1, asAddr, h2]
theorem X_retv3 {r1 r2 r3 : ResultVar} {v1 v2 v3 : Value} (hr : fn.results = #[r1, r2, r3]) (x1 : RV P e h r1 v1) (x2 : RV P e h r2 v2) (x3 : RV P e h r3 v3) (k : R (.tuple #[v1, v2, v3]) h) : X σ n (bodyPost P fn (Post σ R)) .ret e h := fun w a hs hh he => by
  refine ⟨he.1, _, ?_, _, rfl, hs, hh ▸ k⟩
  have key : ∀ r v, RV P e h r v → (rvS a.tmps r).run P w = .ok v w := by
    intro r v x
    cases r with
    | tmp t => have := RV.tmp he x; show (pure (a.tmps.getD t undef) : Sem Value).run P w = _; rw [this]; rfl
    | cell b T =>
      obtain ⟨b', o, h1, h2⟩ := x.cell he hh
      show (do loadVar T (← asAddr (a.tmps.getD b undef)) : Sem Value).run P w = _
      simp only [h1, asAddr, Sem.run_bind, Sem.run_pure, Result.andThen_ok, h2]
  have k1 := key _ _ x1
  have k2 := key _ _ x2
  have k3 := key _ _ x3
  rw [results_rvS, hr]
  simp [k1, k2, k3]
end

/-! ### Blocks that are read only -/
/-- Block 'b' holds these cells at its begin. -/
def Cls (h : Heap) (b : Nat) (vs : List Value) : Prop := b < h.size ∧ ∀ i u, vs[i]? = some u → cellAt h b i = some u
theorem Cls.ext {h h' : Heap} {b : Nat} {vs : List Value} (x : Cls h b vs) (y : Ext h h') : Cls h' b vs := ⟨ntl x.1 y.size, fun i u hi => by rw [y.cellAt x.1 (by simp)]; exact x.2 i u hi⟩
theorem Cls.only {bs : List Nat} {h h' : Heap} {b : Nat} {vs : List Value} (x : Cls h b vs) (y : Only bs h h') (hb : b ∉ bs) : Cls h' b vs := ⟨ntl x.1 y.size, fun i u hi => by rw [y.cellAt x.1 hb]; exact x.2 i u hi⟩
theorem Blk.cls {h : Heap} {b : Nat} {vs : List Value} (x : Blk h b vs) : Cls h b vs := ⟨x.lt, fun i u hi => by rw [x.cell]; exact hi⟩

section
variable {P : Program} {n : Nat} {e : Env} {h : Heap} {d : Option Tmp} {t : TypeId} {pos : String} {af : Array Edge} {g : Option (Nat × Bool)}
variable {T T' E : TypeId} {x y : Operand} {v u : Value} {z b o m : Nat} {l l2 : List UInt8} {D : TypeDesc} {vs us : List Value}
theorem Y_ldclsA (hT : P.underlying T = some D) (hD : isAggD D = true) (hz : (P.info? T).map (·.size) = some us.length) (hx : ev e x = some (.pointer (some ⟨b, o, none⟩))) (hb : Cls h b vs) (hu : us = (vs.drop o).take us.length) :
    Yld P n e h ⟨d, .load T x, t, pos, af, g⟩ (.agg us.toArray) :=
  Y_ldagg hT hD hz hx rfl (fun i u hi => by
    refine hb.2 _ _ ?_
    rw [hu, List.getElem?_take] at hi
    split at hi
    · rw [List.getElem?_drop] at hi; exact hi
    · cases hi)

theorem add_none_ (b o i : Nat) : (⟨b, o, none⟩ : Addr).add i = ⟨b, o + i, none⟩ := by
  unfold Addr.add; split <;> simp_all
/-! ### Arrays of bytes -/
def arrv (l : List UInt8) : Value := .agg (l.map bv).toArray
theorem arrv_cells (l : List UInt8) : (arrv l).cells.toList = l.map bv := by simp [arrv, Value.cells]
/-- An array in a variable of its own. -/
theorem M_boxarr (hx : ev e x = some (arrv l)) : Mks P n e h ⟨d, .box T x, t, pos, af, g⟩ (fun u h' => u = .pointer (some ⟨h.size, 0, none⟩) ∧ Ext h h' ∧ Buf h' h.size l) := fun w a hh he => by
  obtain ⟨v, w', k1, k2, k3, k4⟩ := M_box (P := P) (n := n) (d := d) (T := T) (t := t) (pos := pos) (af := af) (g := g) hx w a hh he
  refine ⟨v, w', k1, k2, k3, k4.ext, ?_⟩
  have := k4.blk
  rwa [arrv_cells] at this
theorem M_allocarr (hz : (P.info? T).bind (·.zero) = some (arrv l)) : Mks P n e h ⟨d, .alloc T, t, pos, af, g⟩ (fun u h' => u = .pointer (some ⟨h.size, 0, none⟩) ∧ Ext h h' ∧ Buf h' h.size l) := fun w a hh he => by
  obtain ⟨v, w', k1, k2, k3, k4⟩ := M_alloc (P := P) (n := n) (e := e) (d := d) (t := t) (pos := pos) (af := af) (g := g) hz w a hh he
  refine ⟨v, w', k1, k2, k3, k4.ext, ?_⟩
  have := k4.blk
  rwa [arrv_cells] at this
theorem Y_ldarr (hT : P.underlying T = some (.array m E)) (hz : (P.info? T).map (·.size) = some l.length) (hx : ev e x = some (.pointer (some ⟨b, 0, none⟩))) (hb : Buf h b l) :
    Yld P n e h ⟨d, .load T x, t, pos, af, g⟩ (arrv l) := by
  have := Y_ldagg (P := P) (n := n) (e := e) (h := h) (d := d) (t := t) (pos := pos) (af := af) (g := g) (us := l.map bv) hT rfl (by rw [hz]; simp) hx rfl (fun i u hi => by
    rw [Blk.cell (show Blk h b (l.map bv) from hb)]; simpa using hi)
  exact this
theorem D_starr (hz : (P.info? T).map (·.size) = some l.length) (hx : ev e x = some (.pointer (some ⟨b, 0, none⟩))) (hy : ev e y = some (arrv l2)) (hb : Buf h b l) (hl : l2.length = l.length) :
    Dos P n e h ⟨d, .store T x y, t, pos, af, g⟩ (fun h' => Only [b] h h' ∧ h'.size = h.size ∧ Buf h' b l2) := fun w a hh he => by
  obtain ⟨w', k1, k2, k3⟩ := D_store (P := P) (n := n) (d := d) (t := t) (pos := pos) (af := af) (g := g) (us := l2.map bv) (by rw [hz]; simp [hl]) hx hy (arrv_cells l2) (fun u hu => by obtain ⟨b, _, rfl⟩ := List.mem_map.1 hu; rfl) hb (by simp [hl]) w a hh he
  refine ⟨w', k1, k2, k3.only, k3.size, ?_⟩
  have := k3.blk
  unfold Buf
  rwa [List.take_zero, List.nil_append, Nat.zero_add, List.drop_of_length_le (by simp [hl]), List.append_nil] at this
/-- 'a[i]' of an array value. -/
theorem Y_arridx {k : IntKind} {p : Int} (hT : P.underlying T = some (.array m E)) (hE : P.underlying E = some (.int .u8)) (hE1 : (P.info? E).map (·.size) = some 1) (hx : ev e x = some (arrv l)) (hy : ev e y = some (.int k p)) (hm : l.length = m) (h0 : 0 ≤ p) (h1 : p < m) :
    Yld P n e h ⟨d, .index T x y, t, pos, af, g⟩ (.int .u8 (byt l p.toNat)) := fun w a _ he => by
  have e1 : 0 ≤ p ∧ p < ((m : Nat) : Int) := ⟨h0, h1⟩
  have e2 : (l.map bv).toArray[p.toNat * 1]? = some (.int .u8 (byt l p.toNat)) := by
    rw [Nat.mul_one, byt_eq (by omega)]
    simp [show p.toNat < l.length by omega]
  simp only [execOp, he.eval hx, he.eval hy, Instr.index, arrv, asIntOf, Sem.run_bind, Sem.run_pure, Result.andThen_ok, run_underlying hT, Sem.run_ite, if_pos e1, run_sizeOf w hE1, part, run_isAgg w hE, isAggD, Bool.false_eq_true, if_false, e2]
/-- '&a[i]' behind a pointer to an array. -/
theorem Y_arraddr {k : IntKind} {p : Int} (hT : P.underlying T = some (.array m E)) (hE1 : (P.info? E).map (·.size) = some 1) (hx : ev e x = some (.pointer (some ⟨b, 0, none⟩))) (hy : ev e y = some (.int k p)) (h0 : 0 ≤ p) (h1 : p < m) :
    Yld P n e h ⟨d, .indexAddr T x y, t, pos, af, g⟩ (.pointer (some (elemAddr (.slice (some ⟨b, 0, none⟩) m m) (p.toNat * 1)))) := fun w a _ he => by
  have e1 : 0 ≤ p ∧ p < ((m : Nat) : Int) := ⟨h0, h1⟩
  have e2 : (⟨b, 0, none⟩ : Addr).add (p.toNat * 1) = elemAddr (.slice (some ⟨b, 0, none⟩) m m) (p.toNat * 1) := by
    rw [add_none_]; simp [elemAddr]
  simp only [execOp, he.eval hx, he.eval hy, Instr.indexAt, Instr.sureAddr, asIntOf, Sem.run_bind, Sem.run_pure, Result.andThen_ok, run_underlying hT, Sem.run_ite, if_pos e1, run_sizeOf w hE1, e2]
/-- The part of an array in a variable. -/
theorem Y_arrslice {lo hi : Operand} {k k' : IntKind} {p q : Int} (hT : P.underlying T = some (.array m E)) (hE1 : (P.info? E).map (·.size) = some 1) (hx : ev e x = some (.pointer (some ⟨b, 0, none⟩))) (hl : ev e lo = some (.int k p)) (hh : ev e hi = some (.int k' q)) (h0 : 0 ≤ p) (h1 : p ≤ q) (h2 : q ≤ m) :
    Yld P n e h ⟨d, .slice T x (some lo) (some hi) none, t, pos, af, g⟩ (slcut 1 p.toNat q.toNat (.slice (some ⟨b, 0, none⟩) m m)) := fun w a _ he => by
  have e1 : 0 ≤ q ∧ q ≤ ((m : Nat) : Int) := ⟨by omega, by omega⟩
  have e2 : 0 ≤ p ∧ p ≤ ((q.toNat : Nat) : Int) := ⟨h0, by omega⟩
  simp only [execOp, he.eval hx, Option.map, he.eval hl, he.eval hh, Instr.sliceAt, Instr.sureAddr, Instr.sliceBounds, Instr.sliceBound, asIntOf, Sem.run_bind, Sem.run_pure, Result.andThen_ok, run_underlying hT, Sem.run_ite, if_pos e1, if_pos e2, run_sizeOf w hE1, Option.isSome, Bool.false_eq_true, if_false, if_true, slcut]
  by_cases hm : m = p.toNat <;> simp [hm]
theorem Y_arrslice_h {hi : Operand} {k' : IntKind} {q : Int} (hT : P.underlying T = some (.array m E)) (hE1 : (P.info? E).map (·.size) = some 1) (hx : ev e x = some (.pointer (some ⟨b, 0, none⟩))) (hh : ev e hi = some (.int k' q)) (h1 : 0 ≤ q) (h2 : q ≤ m) :
    Yld P n e h ⟨d, .slice T x none (some hi) none, t, pos, af, g⟩ (slcut 1 0 q.toNat (.slice (some ⟨b, 0, none⟩) m m)) := fun w a _ he => by
  have e1 : 0 ≤ q ∧ q ≤ ((m : Nat) : Int) := ⟨by omega, by omega⟩
  simp only [execOp, he.eval hx, Option.map, he.eval hh, Instr.sliceAt, Instr.sureAddr, Instr.sliceBounds, Instr.sliceBound, asIntOf, Sem.run_bind, Sem.run_pure, Result.andThen_ok, run_underlying hT, Sem.run_ite, if_pos e1, run_sizeOf w hE1, Option.isSome, Bool.false_eq_true, if_false, if_true, slcut]
  by_cases hm : m = 0 <;> simp [hm]
theorem Y_arrall (hT : P.underlying T = some (.array m E)) (hE1 : (P.info? E).map (·.size) = some 1) (hm : m ≠ 0) (hx : ev e x = some (.pointer (some ⟨b, 0, none⟩))) :
    Yld P n e h ⟨d, .slice T x none none none, t, pos, af, g⟩ (.slice (some ⟨b, 0, none⟩) m m) := fun w a _ he => by
  have e2 : (⟨b, 0, none⟩ : Addr).add (0 * 1) = ⟨b, 0, none⟩ := by unfold Addr.add; split <;> simp_all
  simp only [execOp, he.eval hx, Option.map, Instr.sliceAt, Instr.sureAddr, Instr.sliceBounds, Instr.sliceBound, asIntOf, Sem.run_bind, Sem.run_pure, Result.andThen_ok, run_underlying hT, Sem.run_ite, if_neg hm, run_sizeOf w hE1, Option.isSome, Bool.false_eq_true, if_false, if_true, e2, Nat.sub_zero]
/-- '(*[m]byte)(s)': where the slice begins. -/
def begin? : Value → Option Addr
  | .slice a _ _ => a
  | _ => none
theorem Y_toarr (hT : P.underlying T = some (.array m E)) (hx : ev e x = some v) (hb : Bytes h v l) (hm : m ≤ l.length) : Yld P n e h ⟨d, .sliceToArrayPointer T x, t, pos, af, g⟩ (.pointer (begin? v)) := fun w a _ he => by
  obtain ⟨⟨a0, cap, rfl, k1, k2, k3⟩, _⟩ := hb
  have h1 : ¬ l.length < m := by omega
  simp only [execOp, he.eval hx, Instr.arrayAt, Sem.run_bind, Sem.run_pure, Result.andThen_ok, run_underlying hT, Sem.run_ite, if_neg h1, begin?]
theorem Y_ldtoarr (hT : P.underlying T = some (.array m E)) (hz : (P.info? T).map (·.size) = some l.length) (hx : ev e x = some (.pointer (begin? v))) (hb : Bytes h v l) (hl : 0 < l.length) : Yld P n e h ⟨d, .load T x, t, pos, af, g⟩ (arrv l) := by
  obtain ⟨⟨a0, cap, rfl, k1, k2, k3⟩, k4⟩ := hb
  cases a0 with
  | none => have := k2 rfl; exact absurd hl (by omega)
  | some ad =>
    obtain ⟨j1, j3⟩ := k3 ad rfl
    exact Y_ldagg (us := l.map bv) hT rfl (by rw [hz]; simp) hx (j1 hl).1 j3

theorem Y_addl {p q r : Int} (hx : ev e x = some (.int .i64 p)) (hy : ev e y = some (.int .i64 q)) (h0 : -9223372036854775808 ≤ p + q) (h1 : p + q ≤ 9223372036854775807) (hr : p + q = r) : Yld P n e h ⟨d, .binOp .add T x y T', t, pos, af, g⟩ (.int .i64 r) := hr ▸ Y_add hx hy h0 h1
theorem ni_lt {a b : Nat} (h : a < b) : a ∉ [b] := by simp; omega
theorem ni_gt {a b : Nat} (h : b < a) : a ∉ [b] := by simp; omega
theorem Y_lensl {a0 : Option Addr} {c : Nat} (hT : P.underlying T = some (.slice E)) (hx : ev e x = some (.slice a0 m c)) : Yld P n e h ⟨d, .call { callee := .builtin .len, args := #[x], argTypes := #[T] }, t, pos, af, g⟩ (.int .i64 (m : Int)) := fun w a _ he => by
  refine run_blt rfl ?_
  simp [he.eval hx, Builtin.len_, run_underlying hT, goInt]
theorem Y_idxlit {k : IntKind} {p : Int} {off c : Nat} (hT : P.underlying T = some (.slice E)) (hE : (P.info? E).map (·.size) = some z) (hx : ev e x = some (.slice (some ⟨b, 0, none⟩) m c)) (hy : ev e y = some (.int k p)) (h0 : 0 ≤ p) (h1 : p < m) (ho : p.toNat * z = off) :
    Yld P n e h ⟨d, .indexAddr T x y, t, pos, af, g⟩ (.pointer (some ⟨b, off, none⟩)) := fun w a _ he => by
  have e2 : 0 ≤ p ∧ p < ((m : Nat) : Int) := ⟨h0, h1⟩
  have e1 : (⟨b, 0, none⟩ : Addr).add (p.toNat * z) = ⟨b, off, none⟩ := by rw [add_none_, ho, Nat.zero_add]
  simp only [execOp, he.eval hx, he.eval hy, Instr.indexAt, asIntOf, Sem.run_bind, Sem.run_pure, Result.andThen_ok, run_underlying hT, run_sizeOf w hE, Sem.run_ite, if_pos e2, e1]
theorem RV.arr {a T : Nat} (ha : lk e a = some (.pointer (some ⟨b, 0, none⟩))) (hT : P.underlying T = some (.array m E)) (hz : (P.info? T).map (·.size) = some z) (hl : l.length = z) (hb : Buf h b l) : RV P e h (.cell a T) (arrv l) :=
  ⟨b, 0, ha, fun w hw => run_loadVarA (us := l.map bv) hT rfl (by rw [hz]; simp [hl]) w (fun i u hi => by rw [hw, Blk.cell (show Blk h b (l.map bv) from hb), Nat.zero_add]; exact hi)⟩
/-! ### copy to a part of a block of bytes -/
theorem slcut_buf {b N p q : Nat} (h1 : p ≤ q) (h2 : q ≤ N) (h3 : p < N) : slcut 1 p q (.slice (some ⟨b, 0, none⟩) N N) = .slice (some ⟨b, p, none⟩) (q - p) (N - p) := by
  have : (⟨b, 0, none⟩ : Addr).add (p * 1) = ⟨b, p, none⟩ := by unfold Addr.add; split <;> simp_all
  simp only [slcut, if_neg (show ¬ N = p by omega), Option.map_some, this]
theorem M_copysubs {N p q : Nat} {old : List UInt8} (hT : P.underlying T = some (.slice E)) (hE : (P.info? E).map (·.size) = some 1) (hx : ev e x = some (slcut 1 p q (.slice (some ⟨b, 0, none⟩) N N))) (hy : ev e y = some (str l)) (hb : Buf h b old) (h1 : p ≤ q) (h2 : q ≤ N) (h3 : p < N) (ho : old.length = N) :
    Mks P n e h ⟨d, .call { callee := .builtin .copy, args := #[x, y], argTypes := #[T, T'] }, t, pos, af, g⟩ (fun r h' => r = .int .i64 (Nat.min l.length (q - p) : Nat) ∧ Only [b] h h' ∧ h'.size = h.size ∧ Buf h' b (old.take p ++ l.take (q - p) ++ old.drop (p + Nat.min l.length (q - p)))) := by
  rw [slcut_buf h1 h2 h3] at hx
  exact M_copys hT hE hx hy hb (by omega)
theorem M_copysubb {N p q : Nat} {old : List UInt8} (hT : P.underlying T = some (.slice E)) (hE : (P.info? E).map (·.size) = some 1) (hx : ev e x = some (slcut 1 p q (.slice (some ⟨b, 0, none⟩) N N))) (hy : ev e y = some u) (hu : Bytes h u l) (hb : Buf h b old) (h1 : p ≤ q) (h2 : q ≤ N) (h3 : p < N) (ho : old.length = N) :
    Mks P n e h ⟨d, .call { callee := .builtin .copy, args := #[x, y], argTypes := #[T, T'] }, t, pos, af, g⟩ (fun r h' => r = .int .i64 (Nat.min l.length (q - p) : Nat) ∧ Only [b] h h' ∧ h'.size = h.size ∧ Buf h' b (old.take p ++ l.take (q - p) ++ old.drop (p + Nat.min l.length (q - p)))) := by
  rw [slcut_buf h1 h2 h3] at hx
  exact M_copyb hT hE hx hy hu hb (by omega)
/-- 's == nil'. -/
def isNilS : Value → Bool
  | .slice none _ _ => true
  | _ => false
theorem Y_slnil (hT : P.underlying T = some (.slice E)) (hx : ev e x = some v) (hb : Bytes h v l) : Yld P n e h ⟨d, .binOp .eql T x (.const (.slice none 0 0)) T', t, pos, af, g⟩ (.bool (isNilS v)) := fun w a _ he => by
  obtain ⟨⟨a0, cap, rfl, k1, k2, k3⟩, k4⟩ := hb
  have h1 := Lib.run_eql_slice_nil (P := P) w T E a0 l.length cap 0 0 hT
  have h2 : isNilS (.slice a0 l.length cap) = a0.isNone := by cases a0 <;> rfl
  rw [h2]
  have h3 : a.eval (.const (.slice none 0 0)) = .slice none 0 0 := rfl
  simp only [execOp, he.eval hx, h3, eqGuard, Sem.run_bind, Sem.run_pure, Result.andThen_ok, h1, Bool.not_true, Bool.false_eq_true, if_false, ite_self]
theorem isNil_nil (hb : Bytes h v l) (hn : isNilS v = true) : l = [] := by
  obtain ⟨⟨a0, cap, rfl, k1, k2, k3⟩, k4⟩ := hb
  cases a0 with
  | none => have := k2 rfl; exact List.eq_nil_of_length_eq_zero (by omega)
  | some ad => cases hn
end
end Go.Xp
