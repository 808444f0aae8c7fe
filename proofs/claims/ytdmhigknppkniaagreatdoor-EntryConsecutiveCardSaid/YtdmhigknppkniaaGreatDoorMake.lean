/- Calls, and the operations that make or write memory, for the walks. -/
import Derived.Test.YtdmhigknppkniaaGreatDoorMem
set_option linter.unusedSimpArgs false
set_option linter.unusedVariables false
namespace Go.Xp

/-! ### Calls -/
def evs (e : Env) : List Operand → Option (List Value)
  | [] => some []
  | x :: xs => match ev e x, evs e xs with
    | some v, some vs => some (v :: vs)
    | _, _ => none
theorem evs_map {n : Nat} {e : Env} {a : Act} (he : EOk n e a) : ∀ (l : List Operand) (vs : List Value), evs e l = some vs → l.map a.eval = vs
  | [], vs, h => by simp [evs] at h; subst h; rfl
  | x :: xs, vs, h => by
    simp only [evs] at h
    cases hx : ev e x with
    | none => rw [hx] at h; cases h
    | some v =>
      rw [hx] at h
      cases hxs : evs e xs with
      | none => rw [hxs] at h; cases h
      | some us =>
        rw [hxs] at h
        simp only [Option.some.injEq] at h
        rw [← h, List.map_cons, he.eval hx, evs_map he xs us hxs]
/-- Function 'f' has a text of its own. -/
def entr (P : Program) (f : FuncId) : Bool := match P.funcs[f]? with
  | some fn => !(fn.name == "runtime.NumGoroutine") && fn.body.isSome
  | none => false
theorem run_enter {P : Program} {f : FuncId} (hf : entr P f = true) (args : Array Value) (w : World) : (callFunc f args).run P w = .ok (.enter f args) w := by
  unfold entr at hf
  cases hfn : P.funcs[f]? with
  | none => rw [hfn] at hf; cases hf
  | some fn =>
    rw [hfn] at hf
    simp only [Bool.and_eq_true, Bool.not_eq_true'] at hf
    obtain ⟨h1, h2⟩ := hf
    have h3 : fn.body.isNone = false := by cases hb : fn.body <;> simp_all
    simp only [callFunc, program, Sem.run_bind]
    simp only [Sem.run, Result.andThen_ok, hfn, h1, h3, Bool.false_eq_true, if_false, Sem.run_pure]

section
variable {σ : Std} {P : Program} {n : Nat} {Q : Exit → Act → World → Prop} {e : Env} {h : Heap} {ops : Array Oper} {rest : List Oper}
variable {d : Option Tmp} {t : TypeId} {pos : String} {af : Array Edge} {g : Option (Nat × Bool)}
variable {T T' E : TypeId} {x y : Operand} {v : Value} {z : Nat} {cs : List Value} {m : Nat}

theorem E_call {f : FuncId} {as : List Operand} {A : Array TypeId} {vs : List Value} (hf : entr P f = true) (ha : evs e as = some vs) : Ent P n e h ⟨d, .call { callee := .value (.func f), args := as.toArray, argTypes := A }, t, pos, af, g⟩ f vs.toArray := fun w a _ he => by
  have h1 : as.toArray.map a.eval = vs.toArray := by rw [List.map_toArray, evs_map he as vs ha]
  have h2 : (execOp a.eval ⟨d, .call { callee := .value (.func f), args := as.toArray, argTypes := A }, t, pos, af, g⟩ : Sem Next) = callFunc f ((#[] ++ as.toArray.map a.eval) ++ #[]) := rfl
  rw [h2, h1, Array.append_empty, Array.empty_append]
  exact run_enter hf _ w
/-- The call of a function value. -/
theorem E_callv {f : FuncId} {as : List Operand} {A : Array TypeId} {vs fs cs : List Value} (hf : entr P f = true) (hx : ev e x = some (.func (.func f) fs.toArray cs.toArray)) (ha : evs e as = some vs) : Ent P n e h ⟨d, .call { callee := .value x, args := as.toArray, argTypes := A }, t, pos, af, g⟩ f (fs ++ vs ++ cs).toArray := fun w a _ he => by
  have h1 : as.toArray.map a.eval = vs.toArray := by rw [List.map_toArray, evs_map he as vs ha]
  have h2 : (execOp a.eval ⟨d, .call { callee := .value x, args := as.toArray, argTypes := A }, t, pos, af, g⟩ : Sem Next) = (do let dd ← Deferred.ofValue (a.eval x) (as.toArray.map a.eval); invoke dd.target dd.args) := rfl
  rw [h2, h1, he.eval hx]
  have h3 : (do let dd ← Deferred.ofValue (.func (.func f) fs.toArray cs.toArray) vs.toArray; invoke dd.target dd.args) = callFunc f ((fs.toArray ++ vs.toArray) ++ cs.toArray) := rfl
  rw [h3, run_enter hf]
  simp

/-! ### New variables -/
theorem heap_push (h : Heap) (o : Obj) : Ext h (h.push o) ∧ (h.push o).size = h.size + 1 ∧ (h.push o)[h.size]? = some o := by
  refine ⟨⟨by simp, fun k hk _ => ?_⟩, by simp, by simp⟩
  rw [Array.getElem?_push, if_neg (by omega)]
/-- What is known behind a new block of cells. -/
structure New (h h' : Heap) (cs : List Value) : Prop where
  ext : Ext h h'
  size : h'.size = h.size + 1
  blk : Blk h' h.size cs
theorem new_push (h : Heap) (cs : List Value) (T : TypeId) : New h (h.push (.cells cs.toArray T)) cs := by
  obtain ⟨h1, h2, h3⟩ := heap_push h (.cells cs.toArray T)
  exact ⟨h1, h2, T, 0, 0, h3, fun i _ => by omega⟩
theorem run_newRow {P : Program} (w : World) (E : TypeId) (cs : Array Value) : (newRow E cs).run P w = .ok ⟨w.heap.size, 0, none⟩ { w with heap := w.heap.push (.cells cs E) } := by
  simp [newRow, newObj, Sem.run]
theorem M_box (hx : ev e x = some v) : Mks P n e h ⟨d, .box T x, t, pos, af, g⟩ (fun u h' => u = .pointer (some ⟨h.size, 0, none⟩) ∧ New h h' v.cells.toList) := fun w a hh he => by
  subst hh
  refine ⟨_, { w with heap := w.heap.push (.cells v.cells T) }, ?_, rfl, rfl, ?_⟩
  · simp [execOp, he.eval hx, Instr.box, newVar, run_newRow]
  · have := new_push w.heap v.cells.toList T
    simpa using this
theorem M_alloc {u : Value} (hz : (P.info? T).bind (·.zero) = some u) : Mks P n e h ⟨d, .alloc T, t, pos, af, g⟩ (fun v' h' => v' = .pointer (some ⟨h.size, 0, none⟩) ∧ New h h' u.cells.toList) := fun w a hh he => by
  subst hh
  refine ⟨_, { w with heap := w.heap.push (.cells u.cells T) }, ?_, rfl, rfl, ?_⟩
  · cases hi : P.info? T with
    | none => rw [hi] at hz; cases hz
    | some i =>
      rw [hi] at hz
      simp only [Option.bind_some] at hz
      simp [execOp, Instr.alloc, zeroValue, typeInfo, hi, hz, newVar, run_newRow]
  · have := new_push w.heap u.cells.toList T
    simpa using this

/-! ### Stores -/
/-- Behind a write into block 'b'. -/
structure Put (h h' : Heap) (b : Nat) (cs : List Value) : Prop where
  only : Only [b] h h'
  size : h'.size = h.size
  blk : Blk h' b cs
theorem put_setCell {w : World} {b o : Nat} {vs : List Value} {u : Value} (x : Blk w.heap b vs) (ho : o < vs.length) : (w.frozen? ⟨b, o, none⟩ = false) ∧ Put w.heap (w.setCell ⟨b, o, none⟩ u).heap b (vs.set o u) := by
  have hlt := x.lt
  obtain ⟨T, lo, hi, h1, h2⟩ := x
  constructor
  · simp only [World.frozen?, h1]
    have := h2 o ho
    simp only [Bool.and_eq_false_imp, decide_eq_true_eq, decide_eq_false_iff_not]
    omega
  · refine ⟨⟨by simp [World.setCell], fun k hk hb => ?_⟩, by simp [World.setCell], T, lo, hi, ?_, ?_⟩
    · simp only [World.setCell, Array.getElem?_modify]
      rw [if_neg (by intro e; subst e; simp at hb)]
    · simp only [World.setCell, Array.getElem?_modify, if_pos, h1, Option.map_some]
      simp
    · intro i hi'; simp at hi'; exact h2 i hi'
theorem run_storeCells_put {P : Program} : ∀ (us : List Value) (b o i : Nat) (w : World) (vs : List Value), Blk w.heap b vs → o + i + us.length ≤ vs.length → (∀ u ∈ us, u.oneCell' = true) →
    ∃ w', (storeCells ⟨b, o, none⟩ us i).run P w = .ok () w' ∧ std w' = std w ∧ Put w.heap w'.heap b (vs.take (o + i) ++ us ++ vs.drop (o + i + us.length))
  | [], b, o, i, w, vs, hb, _, _ => ⟨w, by simp [storeCells], rfl, Only.refl _ _, rfl, by simpa using hb⟩
  | u :: us, b, o, i, w, vs, hb, hl, h1 => by
    simp only [List.length_cons] at hl
    have e0 : (⟨b, o, none⟩ : Addr).add i = ⟨b, o + i, none⟩ := by unfold Addr.add; split <;> simp_all
    obtain ⟨hf, hp⟩ := put_setCell (w := w) (o := o + i) (u := u) hb (by omega)
    have hcell : w.cell? ⟨b, o + i, none⟩ = some vs[o + i] := by rw [cell?_cellAt, hb.cell, List.getElem?_eq_getElem (by omega)]
    obtain ⟨w', k1, k2, k3⟩ := run_storeCells_put (P := P) us b o (i + 1) (w.setCell ⟨b, o + i, none⟩ u) (vs.set (o + i) u) hp.blk (by simp; omega) (fun v hv => h1 v (by simp [hv]))
    have hst : (store ⟨b, o + i, none⟩ u).run P w = .ok () (w.setCell ⟨b, o + i, none⟩ u) := by
      have := h1 u (by simp)
      cases u <;> simp [store, Sem.run, hcell, hf, Value.oneCell'] at this ⊢
    refine ⟨w', ?_, k2.trans rfl, ?_⟩
    · simp only [storeCells, e0, Sem.run_bind, hst, Result.andThen_ok, k1]
    · refine ⟨hp.only.trans k3.only (fun c hc => .inl hc), k3.size.trans hp.size, ?_⟩
      have e1 : (vs.set (o + i) u).take (o + (i + 1)) ++ us ++ (vs.set (o + i) u).drop (o + (i + 1) + us.length) = vs.take (o + i) ++ u :: us ++ vs.drop (o + i + (us.length + 1)) := by
        have a1 : (vs.set (o + i) u).drop (o + (i + 1) + us.length) = vs.drop (o + i + (us.length + 1)) := by
          rw [List.drop_set_of_lt (by omega)]; congr 1; omega
        have a2 : (vs.set (o + i) u).take (o + (i + 1)) = vs.take (o + i) ++ [u] := by
          rw [show o + (i + 1) = (o + i) + 1 from by omega, List.take_succ_eq_append_getElem (by simp; omega)]
          simp [List.take_set_of_le]
        rw [a1, a2]; simp
      rw [List.length_cons, ← e1]; exact k3.blk
/-- A store into a block that is known whole. -/
theorem D_store {b o : Nat} {vs us : List Value} (hz : (P.info? T).map (·.size) = some us.length) (hx : ev e x = some (.pointer (some ⟨b, o, none⟩))) (hy : ev e y = some v) (hv : v.cells.toList = us) (h1 : ∀ u ∈ us, u.oneCell' = true) (hb : Blk h b vs) (ho : o + us.length ≤ vs.length) :
    Dos P n e h ⟨d, .store T x y, t, pos, af, g⟩ (fun h' => Put h h' b (vs.take o ++ us ++ vs.drop (o + us.length))) := fun w a hh he => by
  subst hh
  obtain ⟨w', k1, k2, k3⟩ := run_storeCells_put (P := P) us b o 0 w vs hb (by omega) h1
  refine ⟨w', ?_, k2, by simpa using k3⟩
  have e2 : v.cells.size = us.length := by rw [← hv]; simp
  simp only [execOp, he.eval hx, he.eval hy, Instr.storeAt, Instr.sureAddr, storeVar, Sem.run_bind, Sem.run_pure, Result.andThen_ok, run_sizeOf w hz, Sem.run_ite]
  rw [if_neg (by rw [e2]; simp), hv]
  simp only [Result.andThen_ok, k1]
end
section
variable {σ : Std} {P : Program} {n : Nat} {Q : Exit → Act → World → Prop} {e : Env} {h : Heap} {ops : Array Oper} {rest : List Oper}
variable {dt : Option Tmp} {t : TypeId} {pos : String} {af : Array Edge} {g : Option (Nat × Bool)} {x y : Operand} {v : Value} {d : Nat}
theorem Lc {f : FuncId} {R : Value → Heap → Prop} {as : List Operand} {A : Array TypeId} {vs : List Value} (c : Cal P f vs.toArray h R) (k : ∀ v h', R v h' → L σ P ops n Q rest ((d, v) :: e) h') (hf : entr P f = true := by kernel_rfl) (ha : evs e as = some vs := by exact rfl) (hd : (⟨dt, .call { callee := .value (.func f), args := as.toArray, argTypes := A }, t, pos, af, g⟩ : Oper).dst = some d := by exact rfl) (hn : Nat.blt d n = true := by exact rfl) (hg : gd ops e (⟨dt, .call { callee := .value (.func f), args := as.toArray, argTypes := A }, t, pos, af, g⟩ : Oper).guard = some true := by exact rfl) : L σ P ops n Q (⟨dt, .call { callee := .value (.func f), args := as.toArray, argTypes := A }, t, pos, af, g⟩ :: rest) e h := L_call (E_call hf ha) c hd hn hg k
theorem Lds (us : List Value) {T : TypeId} {b o : Nat} {vs : List Value} (hb : Blk h b vs) (k : ∀ h', Put h h' b (vs.take o ++ us ++ vs.drop (o + us.length)) → L σ P ops n Q rest e h') (hx : ev e x = some (.pointer (some ⟨b, o, none⟩)) := by exact rfl) (hy : ev e y = some v := by exact rfl) (hz : (P.info? T).map (·.size) = some us.length := by kernel_rfl) (hv : v.cells.toList = us := by exact rfl) (h1 : ∀ u ∈ us, u.oneCell' = true := by simp [Value.oneCell']) (ho : o + us.length ≤ vs.length := by simp) (hd : (⟨dt, .store T x y, t, pos, af, g⟩ : Oper).dst = none := by exact rfl) (hg : gd ops e (⟨dt, .store T x y, t, pos, af, g⟩ : Oper).guard = some true := by exact rfl) : L σ P ops n Q (⟨dt, .store T x y, t, pos, af, g⟩ :: rest) e h := L_dos (D_store hz hx hy hv h1 hb ho) hd hg k
end
end Go.Xp
