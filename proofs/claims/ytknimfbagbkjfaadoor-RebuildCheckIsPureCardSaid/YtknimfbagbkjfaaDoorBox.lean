/- append(xs, make([]byte, n)...), which the machine takes as one step: n zero bytes behind. -/
import Derived.Test.YtknimfbagbkjfaaDoorRow
set_option linter.unusedSimpArgs false
set_option linter.unusedVariables false
namespace Go.Xp

section
variable {P : Program}
variable {n : Nat} {e : Env} {h : Heap} {d : Option Tmp} {t : TypeId} {pos : String} {af : Array Edge} {g : Option (Nat × Bool)}
end
end Go.Xp

/- Shifts and bit operations of numbers that are not negative; a byte stored into a row that the call made. -/
set_option linter.unusedSimpArgs false
set_option linter.unusedVariables false
namespace Go.Xp
section
variable {P : Program} {n : Nat} {e : Env} {h : Heap} {d : Option Tmp} {t : TypeId} {pos : String} {af : Array Edge} {g : Option (Nat × Bool)}
variable {T T' : TypeId} {x y : Operand} {k k' : IntKind} {p q : Int}
theorem Y_shrw (hx : ev e x = some (.int k p)) (hy : ev e y = some (.int k' q)) (hq : 0 ≤ q) : Yld P n e h ⟨d, .binOp .shr T x y T', t, pos, af, g⟩ (.int k (p.fdiv (2 ^ (min q.toNat k.bits)))) := fun w a _ he => by
  simp [execOp, he.eval hx, he.eval hy, eqGuard, binOp, Op.shift, show ¬ q < 0 by omega]
end
end Go.Xp

/- Variables in blocks of their own: structs in a box, their fields, results that lie in cells. -/
set_option linter.unusedSimpArgs false
set_option linter.unusedVariables false
namespace Go.Xp

theorem Blk.congr {h : Heap} {b : Nat} {vs us : List Value} (x : Blk h b vs) (e : vs = us) : Blk h b us := e ▸ x
theorem run_loadVar1 {P : Program} {T : TypeId} {D : TypeDesc} {b o : Nat} {u : Value} (hT : P.underlying T = some D) (hD : isAggD D = false) (w : World) (hc : cellAt w.heap b o = some u) : (loadVar T ⟨b, o, none⟩).run P w = .ok u w := by
  have hc' : w.cell? ⟨b, o, none⟩ = some u := by rw [cell?_cellAt]; exact hc
  simp [loadVar, run_isAgg w hT, hD, hc']
theorem run_loadVarA {P : Program} {T : TypeId} {D : TypeDesc} {b o : Nat} {us : List Value} (hT : P.underlying T = some D) (hD : isAggD D = true) (hz : (P.info? T).map (·.size) = some us.length) (w : World) (hc : ∀ i u, us[i]? = some u → cellAt w.heap b (o + i) = some u) : (loadVar T ⟨b, o, none⟩).run P w = .ok (.agg us.toArray) w := by
  have hc' : ∀ j v, us[j]? = some v → w.cell? ((⟨b, o, none⟩ : Addr).add j) = some v := fun j v hj => by
    have : (⟨b, o, none⟩ : Addr).add j = ⟨b, o + j, none⟩ := by unfold Addr.add; split <;> simp_all
    rw [this, cell?_cellAt]; exact hc j v hj
  have := run_loadCells_list (P := P) (w := w) ⟨b, o, none⟩ us hc'
  simp [loadVar, run_isAgg w hT, hD, run_sizeOf w hz, this]
/-- What a result comes to: a slot, or a variable in a cell. -/
def RV (P : Program) (e : Env) (h : Heap) : ResultVar → Value → Prop
  | .tmp t, v => lk e t = some v
  | .cell a T, v => ∃ b o, lk e a = some (.pointer (some ⟨b, o, none⟩)) ∧ ∀ w : World, w.heap = h → (loadVar T ⟨b, o, none⟩).run P w = .ok v w
theorem RV.one {P : Program} {e : Env} {h : Heap} {a T : Nat} {D : TypeDesc} {b o : Nat} {vs : List Value} {u : Value} (ha : lk e a = some (.pointer (some ⟨b, o, none⟩))) (hT : P.underlying T = some D) (hD : isAggD D = false) (hb : Blk h b vs) (hk : vs[o]? = some u) : RV P e h (.cell a T) u :=
  ⟨b, o, ha, fun w hw => run_loadVar1 hT hD w (by rw [hw, hb.cell]; exact hk)⟩
theorem RV.agg {P : Program} {e : Env} {h : Heap} {a T : Nat} {D : TypeDesc} {b : Nat} {vs : List Value} (ha : lk e a = some (.pointer (some ⟨b, 0, none⟩))) (hT : P.underlying T = some D) (hD : isAggD D = true) (hz : (P.info? T).map (·.size) = some vs.length) (hb : Blk h b vs) : RV P e h (.cell a T) (.agg vs.toArray) :=
  ⟨b, 0, ha, fun w hw => run_loadVarA hT hD hz w (fun i u hi => by rw [hw, hb.cell, Nat.zero_add]; exact hi)⟩
section
variable {σ : Std} {P : Program} {n : Nat} {Q : Exit → Act → World → Prop} {e : Env} {h : Heap} {fn : Func} {R : Value → Heap → Prop}
theorem RV.tmp {a : Act} {t : Tmp} {v : Value} (he : EOk n e a) (x : RV P e h (.tmp t) v) : a.tmps.getD t undef = v := by
  have h1 := he.2.2 t v x
  rw [Array.getD_eq_getD_getElem?, h1]; rfl
theorem RV.cell {a : Act} {w : World} {t T : Nat} {v : Value} (he : EOk n e a) (hh : w.heap = h) (x : RV P e h (.cell t T) v) : ∃ b o, a.tmps.getD t undef = .pointer (some ⟨b, o, none⟩) ∧ (loadVar T ⟨b, o, none⟩).run P w = .ok v w := by
  obtain ⟨g, o, h1, h2⟩ := x
  have h3 := he.2.2 t _ h1
  exact ⟨g, o, by rw [Array.getD_eq_getD_getElem?, h3]; rfl, h2 w hh⟩
theorem X_retv1 {t T : Nat} {v : Value} (hr : fn.results = #[.cell t T]) (x : RV P e h (.cell t T) v) (k : R v h) : X σ n (bodyPost P fn (Post σ R)) .ret e h := fun w a hs hh he => by
  refine ⟨he.1, v, ?_, v, rfl, hs, hh ▸ k⟩
  obtain ⟨b, o, h1, h2⟩ := x.cell he hh
  rw [Array.getD_eq_getD_getElem?] at h1
  simp [results, hr, h1, asAddr, h2]
theorem Y_ldbox {d : Option Tmp} {t : TypeId} {pos : String} {af : Array Edge} {g : Option (Nat × Bool)} {T : TypeId} {x : Operand} {D : TypeDesc} {b o : Nat} {vs us : List Value} (hT : P.underlying T = some D) (hD : isAggD D = true) (hz : (P.info? T).map (·.size) = some us.length) (hx : ev e x = some (.pointer (some ⟨b, o, none⟩))) (hb : Blk h b vs) (hu : us = (vs.drop o).take us.length) :
    Yld P n e h ⟨d, .load T x, t, pos, af, g⟩ (.agg us.toArray) :=
  Y_ldagg hT hD hz hx rfl (fun i u hi => by
    rw [hb.cell]
    rw [hu, List.getElem?_take] at hi
    split at hi
    · rw [List.getElem?_drop] at hi; exact hi
    · cases hi)
end
end Go.Xp
