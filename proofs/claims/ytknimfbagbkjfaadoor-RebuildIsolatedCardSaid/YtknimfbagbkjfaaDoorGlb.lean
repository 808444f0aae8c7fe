/- append(xs, make([]byte, n)...), which the machine takes as one step: n zero bytes behind. -/
import Derived.Test.YtknimfbagbkjfaaDoorRow
import Derived.Test.YtknimfbagbkjfaaDoorDraw
import Derived.Test.YtknimfbagbkjfaaDoorProg
import Derived.LoopN
import Derived.Lib.SliceRun
set_option linter.unusedSimpArgs false
set_option linter.unusedVariables false
namespace Go.Xp

section
variable {P : Program}
variable {n : Nat} {e : Env} {h : Heap} {d : Option Tmp} {t : TypeId} {pos : String} {af : Array Edge} {g : Option (Nat × Bool)}
end
end Go.Xp

/- Shifts and bit operations of numbers that are not negative; a byte stored into a row that the call made. -/
set_option linter.unusedSimpArgs false
set_option linter.unusedVariables false
namespace Go.Xp
section
variable {P : Program} {n : Nat} {e : Env} {h : Heap} {d : Option Tmp} {t : TypeId} {pos : String} {af : Array Edge} {g : Option (Nat × Bool)}
variable {T T' : TypeId} {x y : Operand} {k k' : IntKind} {p q : Int}
theorem Y_shrw (hx : ev e x = some (.int k p)) (hy : ev e y = some (.int k' q)) (hq : 0 ≤ q) : Yld P n e h ⟨d, .binOp .shr T x y T', t, pos, af, g⟩ (.int k (p.fdiv (2 ^ (min q.toNat k.bits)))) := fun w a _ he => by
  simp [execOp, he.eval hx, he.eval hy, eqGuard, binOp, Op.shift, show ¬ q < 0 by omega]
end
end Go.Xp

/- A byte stored into a row that an append has left; the exclusive or of bytes. -/
set_option linter.unusedSimpArgs false
set_option linter.unusedVariables false
set_option linter.unusedSectionVars false
namespace Go.Xp
def ux (p q : Int) : Int := ((BitVec.ofInt 8 p ^^^ BitVec.ofInt 8 q).toNat : Int)
theorem ux_le (p q : Int) : 0 ≤ ux p q ∧ ux p q ≤ 255 := by
  have := (BitVec.ofInt 8 p ^^^ BitVec.ofInt 8 q).isLt
  unfold ux; omega
section
variable {P : Program} {n : Nat} {e : Env} {h : Heap} {d : Option Tmp} {t : TypeId} {pos : String} {af : Array Edge} {g : Option (Nat × Bool)}
variable {T T' : TypeId} {x y : Operand} {p q : Int}
theorem Y_xoru8 (hx : ev e x = some (.int .u8 p)) (hy : ev e y = some (.int .u8 q)) : Yld P n e h ⟨d, .binOp .xor T x y T', t, pos, af, g⟩ (.int .u8 (ux p q)) := fun w a _ he => by
  have hw : IntKind.u8.wrap (((BitVec.ofInt 8 p ^^^ BitVec.ofInt 8 q).toNat : Nat) : Int) = ux p q := wrap_u8 (ux_le p q).1 (ux_le p q).2
  simp only [execOp, he.eval hx, he.eval hy, eqGuard, binOp, Op.intBits]
  show Sem.run P _ w = _
  simp [IntKind.bits]
  exact hw
theorem D_storeo {base k : Nat} {v : Value} {l : List UInt8} {c : Int} (hz : (P.info? T).map (·.size) = some 1) (hx : ev e x = some (.pointer (some (elemAddr v (k * 1))))) (hy : ev e y = some (.int .u8 c)) (hc : 0 ≤ c ∧ c ≤ 255) (ho : OwnB h base v l) (hk : k < l.length) :
    Dos P n e h ⟨none, .store T x y, t, pos, af, g⟩ (fun h' => AppB h h' base v v (l.set k c.toNat.toUInt8)) := fun w a hh he => by
  have hge := ho.ge
  obtain ⟨o1, ⟨rfl, o2⟩ | ⟨B, cap, extra, rfl, o3, o4, o5, o6⟩⟩ := ho
  · omega
  · have e1 : elemAddr (.slice (some ⟨B, 0, none⟩) l.length cap) (k * 1) = ⟨B, k, none⟩ := by simp [elemAddr]
    rw [e1] at hx
    obtain ⟨w', k1, k2, k3⟩ := D_store (P := P) (n := n) (t := t) (pos := pos) (af := af) (g := g) (us := [.int .u8 c]) hz hx hy rfl (by intro u hu; rw [List.mem_singleton.1 hu]; rfl) o4 (by simp; omega) w a hh he
    refine ⟨w', k1, k2, ⟨by simp, .inr ⟨B, cap, extra, by simp, o3, ?_, by simpa using o5, by simpa using o6⟩⟩, by simpa [blockOf] using k3.only, hge⟩
    have h1 := k3.blk
    have h2 : ((l.map bv ++ extra).take k ++ [Value.int .u8 c] ++ (l.map bv ++ extra).drop (k + 1)) = (l.set k c.toNat.toUInt8).map bv ++ extra := by
      rw [List.map_set, ← bv_of hc, List.set_eq_take_append_cons_drop, if_pos (by simpa using hk), List.take_append_of_le_length (by simp; omega), List.drop_append_of_le_length (by simp; omega)]
      simp
    rw [← h2]
    exact h1
end
end Go.Xp

/- Variables in blocks of their own: structs in a box, their fields, results that lie in cells. -/
set_option linter.unusedSimpArgs false
set_option linter.unusedVariables false
namespace Go.Xp

theorem Blk.congr {h : Heap} {b : Nat} {vs us : List Value} (x : Blk h b vs) (e : vs = us) : Blk h b us := e ▸ x
theorem run_loadVar1 {P : Program} {T : TypeId} {D : TypeDesc} {b o : Nat} {u : Value} (hT : P.underlying T = some D) (hD : isAggD D = false) (w : World) (hc : cellAt w.heap b o = some u) : (loadVar T ⟨b, o, none⟩).run P w = .ok u w := by
  have hc' : w.cell? ⟨b, o, none⟩ = some u := by rw [cell?_cellAt]; exact hc
  simp [loadVar, run_isAgg w hT, hD, hc']
theorem run_loadVarA {P : Program} {T : TypeId} {D : TypeDesc} {b o : Nat} {us : List Value} (hT : P.underlying T = some D) (hD : isAggD D = true) (hz : (P.info? T).map (·.size) = some us.length) (w : World) (hc : ∀ i u, us[i]? = some u → cellAt w.heap b (o + i) = some u) : (loadVar T ⟨b, o, none⟩).run P w = .ok (.agg us.toArray) w := by
  have hc' : ∀ j v, us[j]? = some v → w.cell? ((⟨b, o, none⟩ : Addr).add j) = some v := fun j v hj => by
    have : (⟨b, o, none⟩ : Addr).add j = ⟨b, o + j, none⟩ := by unfold Addr.add; split <;> simp_all
    rw [this, cell?_cellAt]; exact hc j v hj
  have := run_loadCells_list (P := P) (w := w) ⟨b, o, none⟩ us hc'
  simp [loadVar, run_isAgg w hT, hD, run_sizeOf w hz, this]
/-- What a result comes to: a slot, or a variable in a cell. -/
def RV (P : Program) (e : Env) (h : Heap) : ResultVar → Value → Prop
  | .tmp t, v => lk e t = some v
  | .cell a T, v => ∃ b o, lk e a = some (.pointer (some ⟨b, o, none⟩)) ∧ ∀ w : World, w.heap = h → (loadVar T ⟨b, o, none⟩).run P w = .ok v w
theorem RV.one {P : Program} {e : Env} {h : Heap} {a T : Nat} {D : TypeDesc} {b o : Nat} {vs : List Value} {u : Value} (ha : lk e a = some (.pointer (some ⟨b, o, none⟩))) (hT : P.underlying T = some D) (hD : isAggD D = false) (hb : Blk h b vs) (hk : vs[o]? = some u) : RV P e h (.cell a T) u :=
  ⟨b, o, ha, fun w hw => run_loadVar1 hT hD w (by rw [hw, hb.cell]; exact hk)⟩
theorem RV.agg {P : Program} {e : Env} {h : Heap} {a T : Nat} {D : TypeDesc} {b : Nat} {vs : List Value} (ha : lk e a = some (.pointer (some ⟨b, 0, none⟩))) (hT : P.underlying T = some D) (hD : isAggD D = true) (hz : (P.info? T).map (·.size) = some vs.length) (hb : Blk h b vs) : RV P e h (.cell a T) (.agg vs.toArray) :=
  ⟨b, 0, ha, fun w hw => run_loadVarA hT hD hz w (fun i u hi => by rw [hw, hb.cell, Nat.zero_add]; exact hi)⟩
section
variable {σ : Std} {P : Program} {n : Nat} {Q : Exit → Act → World → Prop} {e : Env} {h : Heap} {fn : Func} {R : Value → Heap → Prop}
theorem RV.tmp {a : Act} {t : Tmp} {v : Value} (he : EOk n e a) (x : RV P e h (.tmp t) v) : a.tmps.getD t undef = v := by
  have h1 := he.2.2 t v x
  rw [Array.getD_eq_getD_getElem?, h1]; rfl
theorem RV.cell {a : Act} {w : World} {t T : Nat} {v : Value} (he : EOk n e a) (hh : w.heap = h) (x : RV P e h (.cell t T) v) : ∃ b o, a.tmps.getD t undef = .pointer (some ⟨b, o, none⟩) ∧ (loadVar T ⟨b, o, none⟩).run P w = .ok v w := by
  obtain ⟨g, o, h1, h2⟩ := x
  have h3 := he.2.2 t _ h1
  exact ⟨g, o, by rw [Array.getD_eq_getD_getElem?, h3]; rfl, h2 w hh⟩
theorem X_retv1 {t T : Nat} {v : Value} (hr : fn.results = #[.cell t T]) (x : RV P e h (.cell t T) v) (k : R v h) : X σ n (bodyPost P fn (Post σ R)) .ret e h := fun w a hs hh he => by
  refine ⟨he.1, v, ?_, v, rfl, hs, hh ▸ k⟩
  obtain ⟨b, o, h1, h2⟩ := x.cell he hh
  rw [Array.getD_eq_getD_getElem?] at h1
  simp [results, hr, h1, asAddr, h2]
theorem Y_ldbox {d : Option Tmp} {t : TypeId} {pos : String} {af : Array Edge} {g : Option (Nat × Bool)} {T : TypeId} {x : Operand} {D : TypeDesc} {b o : Nat} {vs us : List Value} (hT : P.underlying T = some D) (hD : isAggD D = true) (hz : (P.info? T).map (·.size) = some us.length) (hx : ev e x = some (.pointer (some ⟨b, o, none⟩))) (hb : Blk h b vs) (hu : us = (vs.drop o).take us.length) :
    Yld P n e h ⟨d, .load T x, t, pos, af, g⟩ (.agg us.toArray) :=
  Y_ldagg hT hD hz hx rfl (fun i u hi => by
    rw [hb.cell]
    rw [hu, List.getElem?_take] at hi
    split at hi
    · rw [List.getElem?_drop] at hi; exact hi
    · cases hi)
end
end Go.Xp

/- A header, said in the reference's type. -/
set_option linter.unusedSimpArgs false
set_option linter.unusedVariables false
set_option linter.unusedSectionVars false
namespace Go.Xp
open Go.Proofs

end Go.Xp

/- Arrays of bytes by value and behind a pointer, parts of them as slices, package variables, loops of a known number of rounds, results in any mixture. -/
set_option linter.unusedSimpArgs false
set_option linter.unusedVariables false
namespace Go.Xp

/-! ### Loops, unrolled -/
section
variable {σ : Std} {P : Program} {n : Nat} {Q : Exit → Act → World → Prop} {e : Env} {h : Heap} {fn : Func} {R : Value → Heap → Prop}
/-! ### Results -/
end

/-! ### Blocks that are read only -/
/-- Block 'b' holds these cells at its begin. -/
def Cls (h : Heap) (b : Nat) (vs : List Value) : Prop := b < h.size ∧ ∀ i u, vs[i]? = some u → cellAt h b i = some u
theorem Cls.ext {h h' : Heap} {b : Nat} {vs : List Value} (x : Cls h b vs) (y : Ext h h') : Cls h' b vs := ⟨Nat.lt_of_lt_of_le x.1 y.size, fun i u hi => by rw [y.cellAt x.1 (by simp)]; exact x.2 i u hi⟩
theorem Cls.only {bs : List Nat} {h h' : Heap} {b : Nat} {vs : List Value} (x : Cls h b vs) (y : Only bs h h') (hb : b ∉ bs) : Cls h' b vs := ⟨Nat.lt_of_lt_of_le x.1 y.size, fun i u hi => by rw [y.cellAt x.1 hb]; exact x.2 i u hi⟩
theorem Blk.cls {h : Heap} {b : Nat} {vs : List Value} (x : Blk h b vs) : Cls h b vs := ⟨x.lt, fun i u hi => by rw [x.cell]; exact hi⟩

section
variable {P : Program} {n : Nat} {e : Env} {h : Heap} {d : Option Tmp} {t : TypeId} {pos : String} {af : Array Edge} {g : Option (Nat × Bool)}
variable {T T' E : TypeId} {x y : Operand} {v u : Value} {z b o m : Nat} {l l2 : List UInt8} {D : TypeDesc} {vs us : List Value}
theorem add_none_ (b o i : Nat) : (⟨b, o, none⟩ : Addr).add i = ⟨b, o + i, none⟩ := by
  unfold Addr.add; split <;> simp_all
/-! ### Arrays of bytes -/
theorem Y_arrall (hT : P.underlying T = some (.array m E)) (hE1 : (P.info? E).map (·.size) = some 1) (hm : m ≠ 0) (hx : ev e x = some (.pointer (some ⟨b, 0, none⟩))) :
    Yld P n e h ⟨d, .slice T x none none none, t, pos, af, g⟩ (.slice (some ⟨b, 0, none⟩) m m) := fun w a _ he => by
  have e2 : (⟨b, 0, none⟩ : Addr).add (0 * 1) = ⟨b, 0, none⟩ := by unfold Addr.add; split <;> simp_all
  simp only [execOp, he.eval hx, Option.map, Instr.sliceAt, Instr.sureAddr, Instr.sliceBounds, Instr.sliceBound, asIntOf, Sem.run_bind, Sem.run_pure, Result.andThen_ok, run_underlying hT, Sem.run_ite, if_neg hm, run_sizeOf w hE1, Option.isSome, Bool.false_eq_true, if_false, if_true, e2, Nat.sub_zero]
theorem ni_lt {a b : Nat} (h : a < b) : a ∉ [b] := by simp; omega
theorem ni_gt {a b : Nat} (h : b < a) : a ∉ [b] := by simp; omega
theorem Y_idxlit {k : IntKind} {p : Int} {off c : Nat} (hT : P.underlying T = some (.slice E)) (hE : (P.info? E).map (·.size) = some z) (hx : ev e x = some (.slice (some ⟨b, 0, none⟩) m c)) (hy : ev e y = some (.int k p)) (h0 : 0 ≤ p) (h1 : p < m) (ho : p.toNat * z = off) :
    Yld P n e h ⟨d, .indexAddr T x y, t, pos, af, g⟩ (.pointer (some ⟨b, off, none⟩)) := fun w a _ he => by
  have e2 : 0 ≤ p ∧ p < ((m : Nat) : Int) := ⟨h0, h1⟩
  have e1 : (⟨b, 0, none⟩ : Addr).add (p.toNat * z) = ⟨b, off, none⟩ := by rw [add_none_, ho, Nat.zero_add]
  simp only [execOp, he.eval hx, he.eval hy, Instr.indexAt, asIntOf, Sem.run_bind, Sem.run_pure, Result.andThen_ok, run_underlying hT, run_sizeOf w hE, Sem.run_ite, if_pos e2, e1]
/-! ### copy to a part of a block of bytes -/
/-- 's == nil'. -/
def isNilS : Value → Bool
  | .slice none _ _ => true
  | _ => false
theorem Y_slnil (hT : P.underlying T = some (.slice E)) (hx : ev e x = some v) (hb : Bytes h v l) : Yld P n e h ⟨d, .binOp .eql T x (.const (.slice none 0 0)) T', t, pos, af, g⟩ (.bool (isNilS v)) := fun w a _ he => by
  obtain ⟨⟨a0, cap, rfl, k1, k2, k3⟩, k4⟩ := hb
  have h1 := Lib.run_eql_slice_nil (P := P) w T E a0 l.length cap 0 0 hT
  have h2 : isNilS (.slice a0 l.length cap) = a0.isNone := by cases a0 <;> rfl
  rw [h2]
  have h3 : a.eval (.const (.slice none 0 0)) = .slice none 0 0 := rfl
  simp only [execOp, he.eval hx, h3, eqGuard, Sem.run_bind, Sem.run_pure, Result.andThen_ok, h1, Bool.not_true, Bool.false_eq_true, if_false, ite_self]
theorem isNil_nil (hb : Bytes h v l) (hn : isNilS v = true) : l = [] := by
  obtain ⟨⟨a0, cap, rfl, k1, k2, k3⟩, k4⟩ := hb
  cases a0 with
  | none => have := k2 rfl; exact List.eq_nil_of_length_eq_zero (by omega)
  | some ad => cases hn
end
end Go.Xp

/- What the program's package variables hold when the call begins. -/
namespace Go.Xp
/-- What the package variables hold. -/
structure GlbK (h : Heap) : Prop where
  g0 : Cls h 0 [str [108, 105, 110, 107, 112, 97, 116, 104], str [112, 97, 116, 104], str [115, 105, 122, 101]]
theorem GlbK.ext {h h' : Heap} (x : GlbK h) (y : Ext h h') : GlbK h' := ⟨x.g0.ext y⟩
end Go.Xp
