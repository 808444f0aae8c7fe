/- Shifts and bit operations of numbers that are not negative; a byte stored into a row that the call made. -/
import Derived.Test.YtdmhigknppkniaaGreatDoorLib
import Derived.Test.YtdmhigknppkniaaGreatDoorDraw
import Derived.Test.YtdmhigknppkniaaGreatDoorProg
import Derived.LoopN
import Derived.Lib.SliceRun
set_option linter.unusedSimpArgs false
set_option linter.unusedVariables false
namespace Go.Xp
section
variable {P : Program} {n : Nat} {e : Env} {h : Heap} {d : Option Tmp} {t : TypeId} {pos : String} {af : Array Edge} {g : Option (Nat × Bool)}
variable {T T' : TypeId} {x y : Operand} {k k' : IntKind} {p q : Int}
theorem Y_shrw (hx : ev e x = some (.int k p)) (hy : ev e y = some (.int k' q)) (hq : 0 ≤ q) : Yld P n e h ⟨d, .binOp .shr T x y T', t, pos, af, g⟩ (.int k (p.fdiv (2 ^ (min q.toNat k.bits)))) := fun w a _ he => by
  simp [execOp, he.eval hx, he.eval hy, eqGuard, binOp, Op.shift, show ¬ q < 0 by omega]
theorem Y_shlw (hx : ev e x = some (.int k p)) (hy : ev e y = some (.int k' q)) (hq : 0 ≤ q) : Yld P n e h ⟨d, .binOp .shl T x y T', t, pos, af, g⟩ (.int k (k.wrap (p * 2 ^ (min q.toNat k.bits)))) := fun w a _ he => by
  simp [execOp, he.eval hx, he.eval hy, eqGuard, binOp, Op.shift, show ¬ q < 0 by omega]
theorem Y_shr (hx : ev e x = some (.int .i64 p)) (hy : ev e y = some (.int k' q)) (hq : 0 ≤ q) (hq' : q ≤ 64) : Yld P n e h ⟨d, .binOp .shr T x y T', t, pos, af, g⟩ (.int .i64 (p / 2 ^ q.toNat)) := by
  have := Y_shrw (P := P) (n := n) (h := h) (d := d) (t := t) (pos := pos) (af := af) (g := g) (T := T) (T' := T') hx hy hq
  rw [Nat.min_eq_left (show q.toNat ≤ IntKind.i64.bits by show q.toNat ≤ 64; omega), Int.fdiv_eq_ediv_of_nonneg p (Int.le_of_lt (Int.pow_pos (by decide)))] at this
  exact this
theorem Y_shl (hx : ev e x = some (.int .i64 p)) (hy : ev e y = some (.int k' q)) (hq : 0 ≤ q) (hq' : q ≤ 64) (h0 : 0 ≤ p * 2 ^ q.toNat) (h1 : p * 2 ^ q.toNat ≤ 9223372036854775807) : Yld P n e h ⟨d, .binOp .shl T x y T', t, pos, af, g⟩ (.int .i64 (p * 2 ^ q.toNat)) := by
  have := Y_shlw (P := P) (n := n) (h := h) (d := d) (t := t) (pos := pos) (af := af) (g := g) (T := T) (T' := T') hx hy hq
  rw [Nat.min_eq_left (show q.toNat ≤ IntKind.i64.bits by show q.toNat ≤ 64; omega), wrap_i64 (by omega) h1] at this
  exact this
theorem Y_shlu (hx : ev e x = some (.int .u64 p)) (hy : ev e y = some (.int k' q)) (hq : 0 ≤ q) (hq' : q ≤ 64) (h0 : 0 ≤ p * 2 ^ q.toNat) (h1 : p * 2 ^ q.toNat ≤ 18446744073709551615) : Yld P n e h ⟨d, .binOp .shl T x y T', t, pos, af, g⟩ (.int .u64 (p * 2 ^ q.toNat)) := by
  have := Y_shlw (P := P) (n := n) (h := h) (d := d) (t := t) (pos := pos) (af := af) (g := g) (T := T) (T' := T') hx hy hq
  rw [Nat.min_eq_left (show q.toNat ≤ IntKind.u64.bits by show q.toNat ≤ 64; omega), IntKind.wrap_u64, Int.emod_eq_of_lt h0 (by omega)] at this
  exact this
theorem ofInt_toNat {z : Int} (h0 : 0 ≤ z) (h1 : z ≤ 9223372036854775807) : (BitVec.ofInt 64 z).toNat = z.toNat := by
  rw [BitVec.toNat_ofInt, Int.emod_eq_of_lt h0 (by simp; omega)]
theorem Y_and7 (hx : ev e x = some (.int .i64 p)) (hy : ev e y = some (.int .i64 7)) (h0 : 0 ≤ p) (h1 : p ≤ 9223372036854775807) : Yld P n e h ⟨d, .binOp .and T x y T', t, pos, af, g⟩ (.int .i64 (p % 8)) := fun w a _ he => by
  have hb : (BitVec.ofInt 64 p &&& BitVec.ofInt 64 7).toNat = p.toNat % 8 := by
    rw [BitVec.toNat_and, ofInt_toNat h0 h1, ofInt_toNat (by decide) (by decide)]
    exact Nat.and_two_pow_sub_one_eq_mod p.toNat 3
  have hw : IntKind.i64.wrap (((BitVec.ofInt 64 p &&& BitVec.ofInt 64 7).toNat : Nat) : Int) = p % 8 := by
    rw [hb, wrap_i64 (by omega) (by omega)]; omega
  simp only [execOp, he.eval hx, he.eval hy, eqGuard, binOp, Op.intBits]
  show Sem.run P _ w = _
  simp [hw, IntKind.bits]
  exact hw
theorem Y_or8 {m c : Int} (hx : ev e x = some (.int .i64 (m * 2 ^ (Int.toNat 3)))) (hy : ev e y = some (.int .i64 c)) (h0 : 0 ≤ m) (h1 : 0 ≤ c) (h2 : c ≤ 7) (h3 : m * 8 + c ≤ 9223372036854775807) : Yld P n e h ⟨d, .binOp .or T x y T', t, pos, af, g⟩ (.int .i64 (m * 8 + c)) := fun w a _ he => by
  have e8 : m * 2 ^ (Int.toNat 3) = m * 8 := rfl
  have hb : (BitVec.ofInt 64 (m * 2 ^ (Int.toNat 3)) ||| BitVec.ofInt 64 c).toNat = m.toNat * 8 + c.toNat := by
    rw [BitVec.toNat_or, e8, ofInt_toNat (by omega) (by omega), ofInt_toNat h1 (by omega)]
    have := Nat.two_pow_add_eq_or_of_lt (b := c.toNat) (i := 3) (by omega) m.toNat
    rw [show (m * 8).toNat = 2 ^ 3 * m.toNat by omega, ← this]; omega
  have hw : IntKind.i64.wrap (((BitVec.ofInt 64 (m * 2 ^ (Int.toNat 3)) ||| BitVec.ofInt 64 c).toNat : Nat) : Int) = m * 8 + c := by
    rw [hb, wrap_i64 (by omega) (by omega)]; omega
  simp only [execOp, he.eval hx, he.eval hy, eqGuard, binOp, Op.intBits]
  show Sem.run P _ w = _
  simp [IntKind.bits]
  rw [e8] at hw
  exact hw
/-- 's[i] = c' in a row of bytes that the call made. -/
theorem D_storeb {b k : Nat} {l : List UInt8} {c : Int} (hz : (P.info? T).map (·.size) = some 1) (hx : ev e x = some (.pointer (some ⟨b, k, none⟩))) (hy : ev e y = some (.int .u8 c)) (hc : 0 ≤ c ∧ c ≤ 255) (hb : Buf h b l) (hk : k < l.length) :
    Dos P n e h ⟨none, .store T x y, t, pos, af, g⟩ (fun h' => Only [b] h h' ∧ h'.size = h.size ∧ Buf h' b (l.set k c.toNat.toUInt8)) := fun w a hh he => by
  obtain ⟨w', k1, k2, k3⟩ := D_store (P := P) (n := n) (t := t) (pos := pos) (af := af) (g := g) (us := [.int .u8 c]) hz hx hy rfl (by intro u hu; rw [List.mem_singleton.1 hu]; rfl) hb (by simp; omega) w a hh he
  refine ⟨w', k1, k2, k3.only, k3.size, ?_⟩
  have h1 := k3.blk
  unfold Buf
  rw [List.map_set, ← bv_of hc, List.set_eq_take_append_cons_drop, if_pos (by simpa using hk)]
  simpa using h1
theorem D_storee {b k N M : Nat} {l : List UInt8} {c : Int} (hz : (P.info? T).map (·.size) = some 1) (hx : ev e x = some (.pointer (some (elemAddr (.slice (some ⟨b, 0, none⟩) N M) (k * 1))))) (hy : ev e y = some (.int .u8 c)) (hc : 0 ≤ c ∧ c ≤ 255) (hb : Buf h b l) (hk : k < l.length) :
    Dos P n e h ⟨none, .store T x y, t, pos, af, g⟩ (fun h' => Only [b] h h' ∧ h'.size = h.size ∧ Buf h' b (l.set k c.toNat.toUInt8)) := by
  have e1 : elemAddr (.slice (some ⟨b, 0, none⟩) N M) (k * 1) = ⟨b, k, none⟩ := by simp [elemAddr]
  rw [e1] at hx
  exact D_storeb hz hx hy hc hb hk
theorem Y_addu8 (hx : ev e x = some (.int .u8 p)) (hy : ev e y = some (.int .u8 q)) (h0 : 0 ≤ p + q) (h1 : p + q ≤ 255) : Yld P n e h ⟨d, .binOp .add T x y T', t, pos, af, g⟩ (.int .u8 (p + q)) := by
  have := Y_addw (P := P) (n := n) (h := h) (d := d) (t := t) (pos := pos) (af := af) (g := g) (T := T) (T' := T') hx hy
  rwa [wrap_u8 h0 h1] at this
theorem Y_subu8 (hx : ev e x = some (.int .u8 p)) (hy : ev e y = some (.int .u8 q)) (h0 : 0 ≤ p - q) (h1 : p - q ≤ 255) : Yld P n e h ⟨d, .binOp .sub T x y T', t, pos, af, g⟩ (.int .u8 (p - q)) := by
  have := Y_subw (P := P) (n := n) (h := h) (d := d) (t := t) (pos := pos) (af := af) (g := g) (T := T) (T' := T') hx hy
  rwa [wrap_u8 h0 h1] at this
end
end Go.Xp

/- Variables in blocks of their own: structs in a box, their fields, results that lie in cells. -/
namespace Go.Xp

theorem Blk.congr {h : Heap} {b : Nat} {vs us : List Value} (x : Blk h b vs) (e : vs = us) : Blk h b us := e ▸ x
theorem run_loadVar1 {P : Program} {T : TypeId} {D : TypeDesc} {b o : Nat} {u : Value} (hT : P.underlying T = some D) (hD : isAggD D = false) (w : World) (hc : cellAt w.heap b o = some u) : (loadVar T ⟨b, o, none⟩).run P w = .ok u w := by
  have hc' : w.cell? ⟨b, o, none⟩ = some u := by rw [cell?_cellAt]; exact hc
  simp [loadVar, run_isAgg w hT, hD, hc']
theorem run_loadVarA {P : Program} {T : TypeId} {D : TypeDesc} {b o : Nat} {us : List Value} (hT : P.underlying T = some D) (hD : isAggD D = true) (hz : (P.info? T).map (·.size) = some us.length) (w : World) (hc : ∀ i u, us[i]? = some u → cellAt w.heap b (o + i) = some u) : (loadVar T ⟨b, o, none⟩).run P w = .ok (.agg us.toArray) w := by
  have hc' : ∀ j v, us[j]? = some v → w.cell? ((⟨b, o, none⟩ : Addr).add j) = some v := fun j v hj => by
    have : (⟨b, o, none⟩ : Addr).add j = ⟨b, o + j, none⟩ := by unfold Addr.add; split <;> simp_all
    rw [this, cell?_cellAt]; exact hc j v hj
  have := run_loadCells_list (P := P) (w := w) ⟨b, o, none⟩ us hc'
  simp [loadVar, run_isAgg w hT, hD, run_sizeOf w hz, this]
/-- What a result comes to: a slot, or a variable in a cell. -/
def RV (P : Program) (e : Env) (h : Heap) : ResultVar → Value → Prop
  | .tmp t, v => lk e t = some v
  | .cell a T, v => ∃ b o, lk e a = some (.pointer (some ⟨b, o, none⟩)) ∧ ∀ w : World, w.heap = h → (loadVar T ⟨b, o, none⟩).run P w = .ok v w
theorem RV.one {P : Program} {e : Env} {h : Heap} {a T : Nat} {D : TypeDesc} {b o : Nat} {vs : List Value} {u : Value} (ha : lk e a = some (.pointer (some ⟨b, o, none⟩))) (hT : P.underlying T = some D) (hD : isAggD D = false) (hb : Blk h b vs) (hk : vs[o]? = some u) : RV P e h (.cell a T) u :=
  ⟨b, o, ha, fun w hw => run_loadVar1 hT hD w (by rw [hw, hb.cell]; exact hk)⟩
theorem RV.agg {P : Program} {e : Env} {h : Heap} {a T : Nat} {D : TypeDesc} {b : Nat} {vs : List Value} (ha : lk e a = some (.pointer (some ⟨b, 0, none⟩))) (hT : P.underlying T = some D) (hD : isAggD D = true) (hz : (P.info? T).map (·.size) = some vs.length) (hb : Blk h b vs) : RV P e h (.cell a T) (.agg vs.toArray) :=
  ⟨b, 0, ha, fun w hw => run_loadVarA hT hD hz w (fun i u hi => by rw [hw, hb.cell, Nat.zero_add]; exact hi)⟩
theorem RVa {P : Program} {e : Env} {h : Heap} {a T : Nat} {D : TypeDesc} {b : Nat} {vs : List Value} (hT : P.underlying T = some D) (hb : Blk h b vs) (ha : lk e a = some (.pointer (some ⟨b, 0, none⟩)) := by exact rfl) (hD : isAggD D = true := by exact rfl) (hz : (P.info? T).map (·.size) = some vs.length := by kernel_rfl) : RV P e h (.cell a T) (.agg vs.toArray) := RV.agg ha hT hD hz hb
section
variable {σ : Std} {P : Program} {n : Nat} {Q : Exit → Act → World → Prop} {e : Env} {h : Heap} {fn : Func} {R : Value → Heap → Prop}
theorem RV.tmp {a : Act} {t : Tmp} {v : Value} (he : EOk n e a) (x : RV P e h (.tmp t) v) : a.tmps.getD t undef = v := by
  have h1 := he.2.2 t v x
  rw [Array.getD_eq_getD_getElem?, h1]; rfl
theorem RV.cell {a : Act} {w : World} {t T : Nat} {v : Value} (he : EOk n e a) (hh : w.heap = h) (x : RV P e h (.cell t T) v) : ∃ b o, a.tmps.getD t undef = .pointer (some ⟨b, o, none⟩) ∧ (loadVar T ⟨b, o, none⟩).run P w = .ok v w := by
  obtain ⟨g, o, h1, h2⟩ := x
  have h3 := he.2.2 t _ h1
  exact ⟨g, o, by rw [Array.getD_eq_getD_getElem?, h3]; rfl, h2 w hh⟩
theorem X_retv1 {t T : Nat} {v : Value} (hr : fn.results = #[.cell t T]) (x : RV P e h (.cell t T) v) (k : R v h) : X σ n (bodyPost P fn (Post σ R)) .ret e h := fun w a hs hh he => by
  refine ⟨he.1, v, ?_, v, rfl, hs, hh ▸ k⟩
  obtain ⟨b, o, h1, h2⟩ := x.cell he hh
  rw [Array.getD_eq_getD_getElem?] at h1
  simp [results, hr, h1, asAddr, h2]
theorem Y_ldbox {d : Option Tmp} {t : TypeId} {pos : String} {af : Array Edge} {g : Option (Nat × Bool)} {T : TypeId} {x : Operand} {D : TypeDesc} {b o : Nat} {vs us : List Value} (hT : P.underlying T = some D) (hD : isAggD D = true) (hz : (P.info? T).map (·.size) = some us.length) (hx : ev e x = some (.pointer (some ⟨b, o, none⟩))) (hb : Blk h b vs) (hu : us = (vs.drop o).take us.length) :
    Yld P n e h ⟨d, .load T x, t, pos, af, g⟩ (.agg us.toArray) :=
  Y_ldagg hT hD hz hx rfl (fun i u hi => by
    rw [hb.cell]
    rw [hu, List.getElem?_take] at hi
    split at hi
    · rw [List.getElem?_drop] at hi; exact hi
    · cases hi)
end
section
variable {σ : Std} {P : Program} {n : Nat} {Q : Exit → Act → World → Prop} {e : Env} {h : Heap} {ops : Array Oper} {rest : List Oper}
variable {dt : Option Tmp} {t : TypeId} {pos : String} {af : Array Edge} {g : Option (Nat × Bool)} {x : Operand} {d : Nat}
theorem Lg {T : TypeId} {D : TypeDesc} {b : Nat} {us : List Value} (hT : P.underlying T = some D) (hb : Blk h b us) (k : L σ P ops n Q rest ((d, .agg us.toArray) :: e) h) (hD : isAggD D = true := by exact rfl) (hz : (P.info? T).map (·.size) = some us.length := by kernel_rfl) (hx : ev e x = some (.pointer (some ⟨b, 0, none⟩)) := by exact rfl) (hd : (⟨dt, .load T x, t, pos, af, g⟩ : Oper).dst = some d := by exact rfl) (hn : Nat.blt d n = true := by exact rfl) (hg : gd ops e (⟨dt, .load T x, t, pos, af, g⟩ : Oper).guard = some true := by exact rfl) : L σ P ops n Q (⟨dt, .load T x, t, pos, af, g⟩ :: rest) e h := L_yld (Y_ldbox (o := 0) hT hD hz hx hb (by simp)) hd hn hg k
end
end Go.Xp

/- A header, said in the reference's type. -/
set_option linter.unusedSectionVars false
namespace Go.Xp
open Go.Proofs

end Go.Xp

/- Arrays of bytes by value and behind a pointer, parts of them as slices, package variables, loops of a known number of rounds, results in any mixture. -/
namespace Go.Xp

/-! ### Loops, unrolled -/
section
variable {σ : Std} {P : Program} {n : Nat} {Q : Exit → Act → World → Prop} {e : Env} {h : Heap} {fn : Func} {R : Value → Heap → Prop}
def Rounds (P : Program) (c : Code) (Q : Exit → Act → World → Prop) (k : Nat) : Act → World → Prop := Code.rounds P c Q k
theorem W_rounds {c : Code} (k : Nat) (x : W σ P n c (Exit.then (Rounds P c Q k) Q) e h) : W σ P n (.loop c) Q e h := fun w a hs hh he => wp_loop_rounds (k + 1) (x w a hs hh he)
theorem X_round {c : Code} {k : Nat} (x : W σ P n c (Exit.then (Rounds P c Q k) Q) e h) : X σ n (Exit.then (Rounds P c Q (k + 1)) Q) .normal e h := x

/-! ### Results -/
def rvS (tmps : Array Value) : ResultVar → Sem Value
  | .tmp t => pure (tmps.getD t undef)
  | .cell a t => do loadVar t (← asAddr (tmps.getD a undef))
theorem results_rvS (fn : Func) (tmps : Array Value) : results fn tmps = (do let vs ← fn.results.mapM (rvS tmps); pure (if h : vs.size = 1 then vs[0] else .tuple vs)) := by
  unfold results
  congr 1
theorem X_retv2 {r1 r2 : ResultVar} {v1 v2 : Value} (hr : fn.results = #[r1, r2]) (x1 : RV P e h r1 v1) (x2 : RV P e h r2 v2) (k : R (.tuple #[v1, v2]) h) : X σ n (bodyPost P fn (Post σ R)) .ret e h := fun w a hs hh he => by
  refine ⟨he.1, _, ?_, _, rfl, hs, hh ▸ k⟩
  cases r1 with
  | tmp t1 =>
    have y1 := RV.tmp he x1; rw [Array.getD_eq_getD_getElem?] at y1
    cases r2 with
    | tmp t2 => have y2 := RV.tmp he x2; rw [Array.getD_eq_getD_getElem?] at y2; simp [results, hr, y1, y2]
    | cell b T => obtain ⟨c, o, h1, h2⟩ := x2.cell he hh; rw [Array.getD_eq_getD_getElem?] at h1; simp [results, hr, y1, h1, asAddr, h2]
  | cell b1 T1 =>
    obtain ⟨c1, o1, g1, g2⟩ := x1.cell he hh; rw [Array.getD_eq_getD_getElem?] at g1
    cases r2 with
    | tmp t2 => have y2 := RV.tmp he x2; rw [Array.getD_eq_getD_getElem?] at y2; simp [results, hr, y2, g1, asAddr, g2]
    | cell b T => obtain ⟨c, o, h1, h2⟩ := x2.cell he hh; rw [Array.getD_eq_getD_getElem?] at h1; simp [results, hr, g1, g2, h1, asAddr, h2]
theorem X_retv3 {r1 r2 r3 : ResultVar} {v1 v2 v3 : Value} (hr : fn.results = #[r1, r2, r3]) (x1 : RV P e h r1 v1) (x2 : RV P e h r2 v2) (x3 : RV P e h r3 v3) (k : R (.tuple #[v1, v2, v3]) h) : X σ n (bodyPost P fn (Post σ R)) .ret e h := fun w a hs hh he => by
  refine ⟨he.1, _, ?_, _, rfl, hs, hh ▸ k⟩
  have key : ∀ r v, RV P e h r v → (rvS a.tmps r).run P w = .ok v w := by
    intro r v x
    cases r with
    | tmp t => have := RV.tmp he x; show (pure (a.tmps.getD t undef) : Sem Value).run P w = _; rw [this]; rfl
    | cell b T =>
      obtain ⟨b', o, h1, h2⟩ := x.cell he hh
      show (do loadVar T (← asAddr (a.tmps.getD b undef)) : Sem Value).run P w = _
      simp only [h1, asAddr, Sem.run_bind, Sem.run_pure, Result.andThen_ok, h2]
  have k1 := key _ _ x1
  have k2 := key _ _ x2
  have k3 := key _ _ x3
  rw [results_rvS, hr]
  simp [k1, k2, k3]
end

/-! ### Blocks that are read only -/
/-- Block 'b' holds these cells at its begin. -/
def Cls (h : Heap) (b : Nat) (vs : List Value) : Prop := b < h.size ∧ ∀ i u, vs[i]? = some u → cellAt h b i = some u
theorem Cls.ext {h h' : Heap} {b : Nat} {vs : List Value} (x : Cls h b vs) (y : Ext h h') : Cls h' b vs := ⟨ntl x.1 y.size, fun i u hi => by rw [y.cellAt x.1 (by simp)]; exact x.2 i u hi⟩
theorem Cls.only {bs : List Nat} {h h' : Heap} {b : Nat} {vs : List Value} (x : Cls h b vs) (y : Only bs h h') (hb : b ∉ bs) : Cls h' b vs := ⟨ntl x.1 y.size, fun i u hi => by rw [y.cellAt x.1 hb]; exact x.2 i u hi⟩
theorem Blk.cls {h : Heap} {b : Nat} {vs : List Value} (x : Blk h b vs) : Cls h b vs := ⟨x.lt, fun i u hi => by rw [x.cell]; exact hi⟩

section
variable {P : Program} {n : Nat} {e : Env} {h : Heap} {d : Option Tmp} {t : TypeId} {pos : String} {af : Array Edge} {g : Option (Nat × Bool)}
variable {T T' E : TypeId} {x y : Operand} {v u : Value} {z b o m : Nat} {l l2 : List UInt8} {D : TypeDesc} {vs us : List Value}
theorem Y_ldclsA (hT : P.underlying T = some D) (hD : isAggD D = true) (hz : (P.info? T).map (·.size) = some us.length) (hx : ev e x = some (.pointer (some ⟨b, o, none⟩))) (hb : Cls h b vs) (hu : us = (vs.drop o).take us.length) :
    Yld P n e h ⟨d, .load T x, t, pos, af, g⟩ (.agg us.toArray) :=
  Y_ldagg hT hD hz hx rfl (fun i u hi => by
    refine hb.2 _ _ ?_
    rw [hu, List.getElem?_take] at hi
    split at hi
    · rw [List.getElem?_drop] at hi; exact hi
    · cases hi)

theorem add_none_ (b o i : Nat) : (⟨b, o, none⟩ : Addr).add i = ⟨b, o + i, none⟩ := by
  unfold Addr.add; split <;> simp_all
/-! ### Arrays of bytes -/
def arrv (l : List UInt8) : Value := .agg (l.map bv).toArray
theorem arrv_cells (l : List UInt8) : (arrv l).cells.toList = l.map bv := by simp [arrv, Value.cells]
/-- An array in a variable of its own. -/
theorem M_boxarr (hx : ev e x = some (arrv l)) : Mks P n e h ⟨d, .box T x, t, pos, af, g⟩ (fun u h' => u = .pointer (some ⟨h.size, 0, none⟩) ∧ Ext h h' ∧ Buf h' h.size l) := fun w a hh he => by
  obtain ⟨v, w', k1, k2, k3, k4⟩ := M_box (P := P) (n := n) (d := d) (T := T) (t := t) (pos := pos) (af := af) (g := g) hx w a hh he
  refine ⟨v, w', k1, k2, k3, k4.ext, ?_⟩
  have := k4.blk
  rwa [arrv_cells] at this
theorem M_allocarr (hz : (P.info? T).bind (·.zero) = some (arrv l)) : Mks P n e h ⟨d, .alloc T, t, pos, af, g⟩ (fun u h' => u = .pointer (some ⟨h.size, 0, none⟩) ∧ Ext h h' ∧ Buf h' h.size l) := fun w a hh he => by
  obtain ⟨v, w', k1, k2, k3, k4⟩ := M_alloc (P := P) (n := n) (e := e) (d := d) (t := t) (pos := pos) (af := af) (g := g) hz w a hh he
  refine ⟨v, w', k1, k2, k3, k4.ext, ?_⟩
  have := k4.blk
  rwa [arrv_cells] at this
theorem Y_ldarr (hT : P.underlying T = some (.array m E)) (hz : (P.info? T).map (·.size) = some l.length) (hx : ev e x = some (.pointer (some ⟨b, 0, none⟩))) (hb : Buf h b l) :
    Yld P n e h ⟨d, .load T x, t, pos, af, g⟩ (arrv l) := by
  have := Y_ldagg (P := P) (n := n) (e := e) (h := h) (d := d) (t := t) (pos := pos) (af := af) (g := g) (us := l.map bv) hT rfl (by rw [hz]; simp) hx rfl (fun i u hi => by
    rw [Blk.cell (show Blk h b (l.map bv) from hb)]; simpa using hi)
  exact this
theorem D_starr (hz : (P.info? T).map (·.size) = some l.length) (hx : ev e x = some (.pointer (some ⟨b, 0, none⟩))) (hy : ev e y = some (arrv l2)) (hb : Buf h b l) (hl : l2.length = l.length) :
    Dos P n e h ⟨d, .store T x y, t, pos, af, g⟩ (fun h' => Only [b] h h' ∧ h'.size = h.size ∧ Buf h' b l2) := fun w a hh he => by
  obtain ⟨w', k1, k2, k3⟩ := D_store (P := P) (n := n) (d := d) (t := t) (pos := pos) (af := af) (g := g) (us := l2.map bv) (by rw [hz]; simp [hl]) hx hy (arrv_cells l2) (fun u hu => by obtain ⟨b, _, rfl⟩ := List.mem_map.1 hu; rfl) hb (by simp [hl]) w a hh he
  refine ⟨w', k1, k2, k3.only, k3.size, ?_⟩
  have := k3.blk
  unfold Buf
  rwa [List.take_zero, List.nil_append, Nat.zero_add, List.drop_of_length_le (by simp [hl]), List.append_nil] at this
/-- 'a[i]' of an array value. -/
theorem Y_arridx {k : IntKind} {p : Int} (hT : P.underlying T = some (.array m E)) (hE : P.underlying E = some (.int .u8)) (hE1 : (P.info? E).map (·.size) = some 1) (hx : ev e x = some (arrv l)) (hy : ev e y = some (.int k p)) (hm : l.length = m) (h0 : 0 ≤ p) (h1 : p < m) :
    Yld P n e h ⟨d, .index T x y, t, pos, af, g⟩ (.int .u8 (byt l p.toNat)) := fun w a _ he => by
  have e1 : 0 ≤ p ∧ p < ((m : Nat) : Int) := ⟨h0, h1⟩
  have e2 : (l.map bv).toArray[p.toNat * 1]? = some (.int .u8 (byt l p.toNat)) := by
    rw [Nat.mul_one, byt_eq (by omega)]
    simp [show p.toNat < l.length by omega]
  simp only [execOp, he.eval hx, he.eval hy, Instr.index, arrv, asIntOf, Sem.run_bind, Sem.run_pure, Result.andThen_ok, run_underlying hT, Sem.run_ite, if_pos e1, run_sizeOf w hE1, part, run_isAgg w hE, isAggD, Bool.false_eq_true, if_false, e2]
/-- '&a[i]' behind a pointer to an array. -/
theorem Y_arraddr {k : IntKind} {p : Int} (hT : P.underlying T = some (.array m E)) (hE1 : (P.info? E).map (·.size) = some 1) (hx : ev e x = some (.pointer (some ⟨b, 0, none⟩))) (hy : ev e y = some (.int k p)) (h0 : 0 ≤ p) (h1 : p < m) :
    Yld P n e h ⟨d, .indexAddr T x y, t, pos, af, g⟩ (.pointer (some (elemAddr (.slice (some ⟨b, 0, none⟩) m m) (p.toNat * 1)))) := fun w a _ he => by
  have e1 : 0 ≤ p ∧ p < ((m : Nat) : Int) := ⟨h0, h1⟩
  have e2 : (⟨b, 0, none⟩ : Addr).add (p.toNat * 1) = elemAddr (.slice (some ⟨b, 0, none⟩) m m) (p.toNat * 1) := by
    rw [add_none_]; simp [elemAddr]
  simp only [execOp, he.eval hx, he.eval hy, Instr.indexAt, Instr.sureAddr, asIntOf, Sem.run_bind, Sem.run_pure, Result.andThen_ok, run_underlying hT, Sem.run_ite, if_pos e1, run_sizeOf w hE1, e2]
/-- The part of an array in a variable. -/
theorem Y_arrslice {lo hi : Operand} {k k' : IntKind} {p q : Int} (hT : P.underlying T = some (.array m E)) (hE1 : (P.info? E).map (·.size) = some 1) (hx : ev e x = some (.pointer (some ⟨b, 0, none⟩))) (hl : ev e lo = some (.int k p)) (hh : ev e hi = some (.int k' q)) (h0 : 0 ≤ p) (h1 : p ≤ q) (h2 : q ≤ m) :
    Yld P n e h ⟨d, .slice T x (some lo) (some hi) none, t, pos, af, g⟩ (slcut 1 p.toNat q.toNat (.slice (some ⟨b, 0, none⟩) m m)) := fun w a _ he => by
  have e1 : 0 ≤ q ∧ q ≤ ((m : Nat) : Int) := ⟨by omega, by omega⟩
  have e2 : 0 ≤ p ∧ p ≤ ((q.toNat : Nat) : Int) := ⟨h0, by omega⟩
  simp only [execOp, he.eval hx, Option.map, he.eval hl, he.eval hh, Instr.sliceAt, Instr.sureAddr, Instr.sliceBounds, Instr.sliceBound, asIntOf, Sem.run_bind, Sem.run_pure, Result.andThen_ok, run_underlying hT, Sem.run_ite, if_pos e1, if_pos e2, run_sizeOf w hE1, Option.isSome, Bool.false_eq_true, if_false, if_true, slcut]
  by_cases hm : m = p.toNat <;> simp [hm]
theorem Y_arrslice_h {hi : Operand} {k' : IntKind} {q : Int} (hT : P.underlying T = some (.array m E)) (hE1 : (P.info? E).map (·.size) = some 1) (hx : ev e x = some (.pointer (some ⟨b, 0, none⟩))) (hh : ev e hi = some (.int k' q)) (h1 : 0 ≤ q) (h2 : q ≤ m) :
    Yld P n e h ⟨d, .slice T x none (some hi) none, t, pos, af, g⟩ (slcut 1 0 q.toNat (.slice (some ⟨b, 0, none⟩) m m)) := fun w a _ he => by
  have e1 : 0 ≤ q ∧ q ≤ ((m : Nat) : Int) := ⟨by omega, by omega⟩
  simp only [execOp, he.eval hx, Option.map, he.eval hh, Instr.sliceAt, Instr.sureAddr, Instr.sliceBounds, Instr.sliceBound, asIntOf, Sem.run_bind, Sem.run_pure, Result.andThen_ok, run_underlying hT, Sem.run_ite, if_pos e1, run_sizeOf w hE1, Option.isSome, Bool.false_eq_true, if_false, if_true, slcut]
  by_cases hm : m = 0 <;> simp [hm]
theorem Y_arrall (hT : P.underlying T = some (.array m E)) (hE1 : (P.info? E).map (·.size) = some 1) (hm : m ≠ 0) (hx : ev e x = some (.pointer (some ⟨b, 0, none⟩))) :
    Yld P n e h ⟨d, .slice T x none none none, t, pos, af, g⟩ (.slice (some ⟨b, 0, none⟩) m m) := fun w a _ he => by
  have e2 : (⟨b, 0, none⟩ : Addr).add (0 * 1) = ⟨b, 0, none⟩ := by unfold Addr.add; split <;> simp_all
  simp only [execOp, he.eval hx, Option.map, Instr.sliceAt, Instr.sureAddr, Instr.sliceBounds, Instr.sliceBound, asIntOf, Sem.run_bind, Sem.run_pure, Result.andThen_ok, run_underlying hT, Sem.run_ite, if_neg hm, run_sizeOf w hE1, Option.isSome, Bool.false_eq_true, if_false, if_true, e2, Nat.sub_zero]
/-- '(*[m]byte)(s)': where the slice begins. -/
def begin? : Value → Option Addr
  | .slice a _ _ => a
  | _ => none
theorem Y_toarr (hT : P.underlying T = some (.array m E)) (hx : ev e x = some v) (hb : Bytes h v l) (hm : m ≤ l.length) : Yld P n e h ⟨d, .sliceToArrayPointer T x, t, pos, af, g⟩ (.pointer (begin? v)) := fun w a _ he => by
  obtain ⟨⟨a0, cap, rfl, k1, k2, k3⟩, _⟩ := hb
  have h1 : ¬ l.length < m := by omega
  simp only [execOp, he.eval hx, Instr.arrayAt, Sem.run_bind, Sem.run_pure, Result.andThen_ok, run_underlying hT, Sem.run_ite, if_neg h1, begin?]
theorem Y_ldtoarr (hT : P.underlying T = some (.array m E)) (hz : (P.info? T).map (·.size) = some l.length) (hx : ev e x = some (.pointer (begin? v))) (hb : Bytes h v l) (hl : 0 < l.length) : Yld P n e h ⟨d, .load T x, t, pos, af, g⟩ (arrv l) := by
  obtain ⟨⟨a0, cap, rfl, k1, k2, k3⟩, k4⟩ := hb
  cases a0 with
  | none => have := k2 rfl; exact absurd hl (by omega)
  | some ad =>
    obtain ⟨j1, j3⟩ := k3 ad rfl
    exact Y_ldagg (us := l.map bv) hT rfl (by rw [hz]; simp) hx (j1 hl).1 j3

theorem Y_addl {p q r : Int} (hx : ev e x = some (.int .i64 p)) (hy : ev e y = some (.int .i64 q)) (h0 : -9223372036854775808 ≤ p + q) (h1 : p + q ≤ 9223372036854775807) (hr : p + q = r) : Yld P n e h ⟨d, .binOp .add T x y T', t, pos, af, g⟩ (.int .i64 r) := hr ▸ Y_add hx hy h0 h1
theorem ni_lt {a b : Nat} (h : a < b) : a ∉ [b] := by simp; omega
theorem ni_gt {a b : Nat} (h : b < a) : a ∉ [b] := by simp; omega
theorem Y_lensl {a0 : Option Addr} {c : Nat} (hT : P.underlying T = some (.slice E)) (hx : ev e x = some (.slice a0 m c)) : Yld P n e h ⟨d, .call { callee := .builtin .len, args := #[x], argTypes := #[T] }, t, pos, af, g⟩ (.int .i64 (m : Int)) := fun w a _ he => by
  refine run_blt rfl ?_
  simp [he.eval hx, Builtin.len_, run_underlying hT, goInt]
theorem Y_idxlit {k : IntKind} {p : Int} {off c : Nat} (hT : P.underlying T = some (.slice E)) (hE : (P.info? E).map (·.size) = some z) (hx : ev e x = some (.slice (some ⟨b, 0, none⟩) m c)) (hy : ev e y = some (.int k p)) (h0 : 0 ≤ p) (h1 : p < m) (ho : p.toNat * z = off) :
    Yld P n e h ⟨d, .indexAddr T x y, t, pos, af, g⟩ (.pointer (some ⟨b, off, none⟩)) := fun w a _ he => by
  have e2 : 0 ≤ p ∧ p < ((m : Nat) : Int) := ⟨h0, h1⟩
  have e1 : (⟨b, 0, none⟩ : Addr).add (p.toNat * z) = ⟨b, off, none⟩ := by rw [add_none_, ho, Nat.zero_add]
  simp only [execOp, he.eval hx, he.eval hy, Instr.indexAt, asIntOf, Sem.run_bind, Sem.run_pure, Result.andThen_ok, run_underlying hT, run_sizeOf w hE, Sem.run_ite, if_pos e2, e1]
theorem RV.arr {a T : Nat} (ha : lk e a = some (.pointer (some ⟨b, 0, none⟩))) (hT : P.underlying T = some (.array m E)) (hz : (P.info? T).map (·.size) = some z) (hl : l.length = z) (hb : Buf h b l) : RV P e h (.cell a T) (arrv l) :=
  ⟨b, 0, ha, fun w hw => run_loadVarA (us := l.map bv) hT rfl (by rw [hz]; simp [hl]) w (fun i u hi => by rw [hw, Blk.cell (show Blk h b (l.map bv) from hb), Nat.zero_add]; exact hi)⟩
/-! ### copy to a part of a block of bytes -/
theorem slcut_buf {b N p q : Nat} (h1 : p ≤ q) (h2 : q ≤ N) (h3 : p < N) : slcut 1 p q (.slice (some ⟨b, 0, none⟩) N N) = .slice (some ⟨b, p, none⟩) (q - p) (N - p) := by
  have : (⟨b, 0, none⟩ : Addr).add (p * 1) = ⟨b, p, none⟩ := by unfold Addr.add; split <;> simp_all
  simp only [slcut, if_neg (show ¬ N = p by omega), Option.map_some, this]
theorem M_copysubs {N p q : Nat} {old : List UInt8} (hT : P.underlying T = some (.slice E)) (hE : (P.info? E).map (·.size) = some 1) (hx : ev e x = some (slcut 1 p q (.slice (some ⟨b, 0, none⟩) N N))) (hy : ev e y = some (str l)) (hb : Buf h b old) (h1 : p ≤ q) (h2 : q ≤ N) (h3 : p < N) (ho : old.length = N) :
    Mks P n e h ⟨d, .call { callee := .builtin .copy, args := #[x, y], argTypes := #[T, T'] }, t, pos, af, g⟩ (fun r h' => r = .int .i64 (Nat.min l.length (q - p) : Nat) ∧ Only [b] h h' ∧ h'.size = h.size ∧ Buf h' b (old.take p ++ l.take (q - p) ++ old.drop (p + Nat.min l.length (q - p)))) := by
  rw [slcut_buf h1 h2 h3] at hx
  exact M_copys hT hE hx hy hb (by omega)
theorem M_copysubb {N p q : Nat} {old : List UInt8} (hT : P.underlying T = some (.slice E)) (hE : (P.info? E).map (·.size) = some 1) (hx : ev e x = some (slcut 1 p q (.slice (some ⟨b, 0, none⟩) N N))) (hy : ev e y = some u) (hu : Bytes h u l) (hb : Buf h b old) (h1 : p ≤ q) (h2 : q ≤ N) (h3 : p < N) (ho : old.length = N) :
    Mks P n e h ⟨d, .call { callee := .builtin .copy, args := #[x, y], argTypes := #[T, T'] }, t, pos, af, g⟩ (fun r h' => r = .int .i64 (Nat.min l.length (q - p) : Nat) ∧ Only [b] h h' ∧ h'.size = h.size ∧ Buf h' b (old.take p ++ l.take (q - p) ++ old.drop (p + Nat.min l.length (q - p)))) := by
  rw [slcut_buf h1 h2 h3] at hx
  exact M_copyb hT hE hx hy hu hb (by omega)
/-- 's == nil'. -/
def isNilS : Value → Bool
  | .slice none _ _ => true
  | _ => false
theorem Y_slnil (hT : P.underlying T = some (.slice E)) (hx : ev e x = some v) (hb : Bytes h v l) : Yld P n e h ⟨d, .binOp .eql T x (.const (.slice none 0 0)) T', t, pos, af, g⟩ (.bool (isNilS v)) := fun w a _ he => by
  obtain ⟨⟨a0, cap, rfl, k1, k2, k3⟩, k4⟩ := hb
  have h1 := Lib.run_eql_slice_nil (P := P) w T E a0 l.length cap 0 0 hT
  have h2 : isNilS (.slice a0 l.length cap) = a0.isNone := by cases a0 <;> rfl
  rw [h2]
  have h3 : a.eval (.const (.slice none 0 0)) = .slice none 0 0 := rfl
  simp only [execOp, he.eval hx, h3, eqGuard, Sem.run_bind, Sem.run_pure, Result.andThen_ok, h1, Bool.not_true, Bool.false_eq_true, if_false, ite_self]
theorem isNil_nil (hb : Bytes h v l) (hn : isNilS v = true) : l = [] := by
  obtain ⟨⟨a0, cap, rfl, k1, k2, k3⟩, k4⟩ := hb
  cases a0 with
  | none => have := k2 rfl; exact List.eq_nil_of_length_eq_zero (by omega)
  | some ad => cases hn
end
end Go.Xp

/- What the program's package variables hold when the call begins. -/
namespace Go.Xp
/-- What the package variables hold. -/
structure Glb (h : Heap) : Prop where
  g0 : Cls h 1 [.int .i64 0, .int .i64 100]
  g1 : Cls h 4 [.int .i64 100, .int .i64 8]
  g2 : Cls h 8 [.int .i64 108, .int .i64 8]
  g3 : Cls h 9 [.int .i64 116, .int .i64 8]
  g4 : Cls h 5 [.int .i64 124, .int .i64 12]
  g5 : Cls h 10 [.int .i64 136, .int .i64 12]
  g6 : Cls h 0 [.int .i64 156, .int .i64 1]
  g7 : Cls h 2 [.int .i64 157, .int .i64 100]
  g8 : Cls h 7 [.int .i64 257, .int .i64 8]
  g9 : Cls h 11 [.int .i64 329, .int .i64 8]
  g10 : Cls h 12 [.int .i64 337, .int .i64 8]
  g11 : Cls h 3 [.int .i64 345, .int .i64 155]
theorem Glb.ext {h h' : Heap} (x : Glb h) (y : Ext h h') : Glb h' := ⟨x.g0.ext y, x.g1.ext y, x.g2.ext y, x.g3.ext y, x.g4.ext y, x.g5.ext y, x.g6.ext y, x.g7.ext y, x.g8.ext y, x.g9.ext y, x.g10.ext y, x.g11.ext y⟩
/-- What the package variables hold. -/
structure GlbK (h : Heap) : Prop where
  g0 : Cls h 13 [str [108, 105, 110, 107, 112, 97, 116, 104], str [112, 97, 116, 104], str [115, 105, 122, 101]]
theorem GlbK.ext {h h' : Heap} (x : GlbK h) (y : Ext h h') : GlbK h' := ⟨x.g0.ext y⟩
/-- What the package variables hold. -/
structure GlbT (h : Heap) : Prop where
  g0 : Cls h 6 [.int .u8 53, .int .u8 48, .int .u8 50, .int .u8 49]
theorem GlbT.ext {h h' : Heap} (x : GlbT h) (y : Ext h h') : GlbT h' := ⟨x.g0.ext y⟩
end Go.Xp
