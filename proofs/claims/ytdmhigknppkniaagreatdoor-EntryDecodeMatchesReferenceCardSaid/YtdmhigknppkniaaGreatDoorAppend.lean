/- Calls, and the operations that make or write memory, for the walks. -/
import Derived.Test.YtdmhigknppkniaaGreatDoorMem
set_option linter.unusedSimpArgs false
set_option linter.unusedVariables false
namespace Go.Xp

/-! ### Calls -/
def evs (e : Env) : List Operand → Option (List Value)
  | [] => some []
  | x :: xs => match ev e x, evs e xs with
    | some v, some vs => some (v :: vs)
    | _, _ => none
theorem evs_map {n : Nat} {e : Env} {a : Act} (he : EOk n e a) : ∀ (l : List Operand) (vs : List Value), evs e l = some vs → l.map a.eval = vs
  | [], vs, h => by simp [evs] at h; subst h; rfl
  | x :: xs, vs, h => by
    simp only [evs] at h
    cases hx : ev e x with
    | none => rw [hx] at h; cases h
    | some v =>
      rw [hx] at h
      cases hxs : evs e xs with
      | none => rw [hxs] at h; cases h
      | some us =>
        rw [hxs] at h
        simp only [Option.some.injEq] at h
        rw [← h, List.map_cons, he.eval hx, evs_map he xs us hxs]
/-- Function 'f' has a text of its own. -/
def entr (P : Program) (f : FuncId) : Bool := match P.funcs[f]? with
  | some fn => !(fn.name == "runtime.NumGoroutine") && fn.body.isSome
  | none => false
theorem run_enter {P : Program} {f : FuncId} (hf : entr P f = true) (args : Array Value) (w : World) : (callFunc f args).run P w = .ok (.enter f args) w := by
  unfold entr at hf
  cases hfn : P.funcs[f]? with
  | none => rw [hfn] at hf; cases hf
  | some fn =>
    rw [hfn] at hf
    simp only [Bool.and_eq_true, Bool.not_eq_true'] at hf
    obtain ⟨h1, h2⟩ := hf
    have h3 : fn.body.isNone = false := by cases hb : fn.body <;> simp_all
    simp only [callFunc, program, Sem.run_bind]
    simp only [Sem.run, Result.andThen_ok, hfn, h1, h3, Bool.false_eq_true, if_false, Sem.run_pure]

section
variable {σ : Std} {P : Program} {n : Nat} {Q : Exit → Act → World → Prop} {e : Env} {h : Heap} {ops : Array Oper} {rest : List Oper}
variable {d : Option Tmp} {t : TypeId} {pos : String} {af : Array Edge} {g : Option (Nat × Bool)}
variable {T T' E : TypeId} {x y : Operand} {v : Value} {z : Nat} {cs : List Value} {m : Nat}

theorem E_call {f : FuncId} {as : List Operand} {A : Array TypeId} {vs : List Value} (hf : entr P f = true) (ha : evs e as = some vs) : Ent P n e h ⟨d, .call { callee := .value (.func f), args := as.toArray, argTypes := A }, t, pos, af, g⟩ f vs.toArray := fun w a _ he => by
  have h1 : as.toArray.map a.eval = vs.toArray := by rw [List.map_toArray, evs_map he as vs ha]
  have h2 : (execOp a.eval ⟨d, .call { callee := .value (.func f), args := as.toArray, argTypes := A }, t, pos, af, g⟩ : Sem Next) = callFunc f ((#[] ++ as.toArray.map a.eval) ++ #[]) := rfl
  rw [h2, h1, Array.append_empty, Array.empty_append]
  exact run_enter hf _ w
/-- The call of a function value. -/
theorem E_callv {f : FuncId} {as : List Operand} {A : Array TypeId} {vs fs cs : List Value} (hf : entr P f = true) (hx : ev e x = some (.func (.func f) fs.toArray cs.toArray)) (ha : evs e as = some vs) : Ent P n e h ⟨d, .call { callee := .value x, args := as.toArray, argTypes := A }, t, pos, af, g⟩ f (fs ++ vs ++ cs).toArray := fun w a _ he => by
  have h1 : as.toArray.map a.eval = vs.toArray := by rw [List.map_toArray, evs_map he as vs ha]
  have h2 : (execOp a.eval ⟨d, .call { callee := .value x, args := as.toArray, argTypes := A }, t, pos, af, g⟩ : Sem Next) = (do let dd ← Deferred.ofValue (a.eval x) (as.toArray.map a.eval); invoke dd.target dd.args) := rfl
  rw [h2, h1, he.eval hx]
  have h3 : (do let dd ← Deferred.ofValue (.func (.func f) fs.toArray cs.toArray) vs.toArray; invoke dd.target dd.args) = callFunc f ((fs.toArray ++ vs.toArray) ++ cs.toArray) := rfl
  rw [h3, run_enter hf]
  simp

/-! ### New variables -/
theorem heap_push (h : Heap) (o : Obj) : Ext h (h.push o) ∧ (h.push o).size = h.size + 1 ∧ (h.push o)[h.size]? = some o := by
  refine ⟨⟨by simp, fun k hk _ => ?_⟩, by simp, by simp⟩
  rw [Array.getElem?_push, if_neg (by omega)]
/-- What is known behind a new block of cells. -/
structure New (h h' : Heap) (cs : List Value) : Prop where
  ext : Ext h h'
  size : h'.size = h.size + 1
  blk : Blk h' h.size cs
theorem new_push (h : Heap) (cs : List Value) (T : TypeId) : New h (h.push (.cells cs.toArray T)) cs := by
  obtain ⟨h1, h2, h3⟩ := heap_push h (.cells cs.toArray T)
  exact ⟨h1, h2, T, 0, 0, h3, fun i _ => by omega⟩
theorem run_newRow {P : Program} (w : World) (E : TypeId) (cs : Array Value) : (newRow E cs).run P w = .ok ⟨w.heap.size, 0, none⟩ { w with heap := w.heap.push (.cells cs E) } := by
  simp [newRow, newObj, Sem.run]
theorem M_box (hx : ev e x = some v) : Mks P n e h ⟨d, .box T x, t, pos, af, g⟩ (fun u h' => u = .pointer (some ⟨h.size, 0, none⟩) ∧ New h h' v.cells.toList) := fun w a hh he => by
  subst hh
  refine ⟨_, { w with heap := w.heap.push (.cells v.cells T) }, ?_, rfl, rfl, ?_⟩
  · simp [execOp, he.eval hx, Instr.box, newVar, run_newRow]
  · have := new_push w.heap v.cells.toList T
    simpa using this
theorem M_alloc {u : Value} (hz : (P.info? T).bind (·.zero) = some u) : Mks P n e h ⟨d, .alloc T, t, pos, af, g⟩ (fun v' h' => v' = .pointer (some ⟨h.size, 0, none⟩) ∧ New h h' u.cells.toList) := fun w a hh he => by
  subst hh
  refine ⟨_, { w with heap := w.heap.push (.cells u.cells T) }, ?_, rfl, rfl, ?_⟩
  · cases hi : P.info? T with
    | none => rw [hi] at hz; cases hz
    | some i =>
      rw [hi] at hz
      simp only [Option.bind_some] at hz
      simp [execOp, Instr.alloc, zeroValue, typeInfo, hi, hz, newVar, run_newRow]
  · have := new_push w.heap u.cells.toList T
    simpa using this

/-! ### Stores -/
/-- Behind a write into block 'b'. -/
structure Put (h h' : Heap) (b : Nat) (cs : List Value) : Prop where
  only : Only [b] h h'
  size : h'.size = h.size
  blk : Blk h' b cs
theorem put_setCell {w : World} {b o : Nat} {vs : List Value} {u : Value} (x : Blk w.heap b vs) (ho : o < vs.length) : (w.frozen? ⟨b, o, none⟩ = false) ∧ Put w.heap (w.setCell ⟨b, o, none⟩ u).heap b (vs.set o u) := by
  have hlt := x.lt
  obtain ⟨T, lo, hi, h1, h2⟩ := x
  constructor
  · simp only [World.frozen?, h1]
    have := h2 o ho
    simp only [Bool.and_eq_false_imp, decide_eq_true_eq, decide_eq_false_iff_not]
    omega
  · refine ⟨⟨by simp [World.setCell], fun k hk hb => ?_⟩, by simp [World.setCell], T, lo, hi, ?_, ?_⟩
    · simp only [World.setCell, Array.getElem?_modify]
      rw [if_neg (by intro e; subst e; simp at hb)]
    · simp only [World.setCell, Array.getElem?_modify, if_pos, h1, Option.map_some]
      simp
    · intro i hi'; simp at hi'; exact h2 i hi'
theorem run_storeCells_put {P : Program} : ∀ (us : List Value) (b o i : Nat) (w : World) (vs : List Value), Blk w.heap b vs → o + i + us.length ≤ vs.length → (∀ u ∈ us, u.oneCell' = true) →
    ∃ w', (storeCells ⟨b, o, none⟩ us i).run P w = .ok () w' ∧ std w' = std w ∧ Put w.heap w'.heap b (vs.take (o + i) ++ us ++ vs.drop (o + i + us.length))
  | [], b, o, i, w, vs, hb, _, _ => ⟨w, by simp [storeCells], rfl, Only.refl _ _, rfl, by simpa using hb⟩
  | u :: us, b, o, i, w, vs, hb, hl, h1 => by
    simp only [List.length_cons] at hl
    have e0 : (⟨b, o, none⟩ : Addr).add i = ⟨b, o + i, none⟩ := by unfold Addr.add; split <;> simp_all
    obtain ⟨hf, hp⟩ := put_setCell (w := w) (o := o + i) (u := u) hb (by omega)
    have hcell : w.cell? ⟨b, o + i, none⟩ = some vs[o + i] := by rw [cell?_cellAt, hb.cell, List.getElem?_eq_getElem (by omega)]
    obtain ⟨w', k1, k2, k3⟩ := run_storeCells_put (P := P) us b o (i + 1) (w.setCell ⟨b, o + i, none⟩ u) (vs.set (o + i) u) hp.blk (by simp; omega) (fun v hv => h1 v (by simp [hv]))
    have hst : (store ⟨b, o + i, none⟩ u).run P w = .ok () (w.setCell ⟨b, o + i, none⟩ u) := by
      have := h1 u (by simp)
      cases u <;> simp [store, Sem.run, hcell, hf, Value.oneCell'] at this ⊢
    refine ⟨w', ?_, k2.trans rfl, ?_⟩
    · simp only [storeCells, e0, Sem.run_bind, hst, Result.andThen_ok, k1]
    · refine ⟨hp.only.trans k3.only (fun c hc => .inl hc), k3.size.trans hp.size, ?_⟩
      have e1 : (vs.set (o + i) u).take (o + (i + 1)) ++ us ++ (vs.set (o + i) u).drop (o + (i + 1) + us.length) = vs.take (o + i) ++ u :: us ++ vs.drop (o + i + (us.length + 1)) := by
        have a1 : (vs.set (o + i) u).drop (o + (i + 1) + us.length) = vs.drop (o + i + (us.length + 1)) := by
          rw [List.drop_set_of_lt (by omega)]; congr 1; omega
        have a2 : (vs.set (o + i) u).take (o + (i + 1)) = vs.take (o + i) ++ [u] := by
          rw [show o + (i + 1) = (o + i) + 1 from by omega, List.take_succ_eq_append_getElem (by simp; omega)]
          simp [List.take_set_of_le]
        rw [a1, a2]; simp
      rw [List.length_cons, ← e1]; exact k3.blk
/-- A store into a block that is known whole. -/
theorem D_store {b o : Nat} {vs us : List Value} (hz : (P.info? T).map (·.size) = some us.length) (hx : ev e x = some (.pointer (some ⟨b, o, none⟩))) (hy : ev e y = some v) (hv : v.cells.toList = us) (h1 : ∀ u ∈ us, u.oneCell' = true) (hb : Blk h b vs) (ho : o + us.length ≤ vs.length) :
    Dos P n e h ⟨d, .store T x y, t, pos, af, g⟩ (fun h' => Put h h' b (vs.take o ++ us ++ vs.drop (o + us.length))) := fun w a hh he => by
  subst hh
  obtain ⟨w', k1, k2, k3⟩ := run_storeCells_put (P := P) us b o 0 w vs hb (by omega) h1
  refine ⟨w', ?_, k2, by simpa using k3⟩
  have e2 : v.cells.size = us.length := by rw [← hv]; simp
  simp only [execOp, he.eval hx, he.eval hy, Instr.storeAt, Instr.sureAddr, storeVar, Sem.run_bind, Sem.run_pure, Result.andThen_ok, run_sizeOf w hz, Sem.run_ite]
  rw [if_neg (by rw [e2]; simp), hv]
  simp only [Result.andThen_ok, k1]
end
section
variable {σ : Std} {P : Program} {n : Nat} {Q : Exit → Act → World → Prop} {e : Env} {h : Heap} {ops : Array Oper} {rest : List Oper}
variable {dt : Option Tmp} {t : TypeId} {pos : String} {af : Array Edge} {g : Option (Nat × Bool)} {x y : Operand} {v : Value} {d : Nat}
theorem Lc {f : FuncId} {R : Value → Heap → Prop} {as : List Operand} {A : Array TypeId} {vs : List Value} (c : Cal P f vs.toArray h R) (k : ∀ v h', R v h' → L σ P ops n Q rest ((d, v) :: e) h') (hf : entr P f = true := by kernel_rfl) (ha : evs e as = some vs := by exact rfl) (hd : (⟨dt, .call { callee := .value (.func f), args := as.toArray, argTypes := A }, t, pos, af, g⟩ : Oper).dst = some d := by exact rfl) (hn : Nat.blt d n = true := by exact rfl) (hg : gd ops e (⟨dt, .call { callee := .value (.func f), args := as.toArray, argTypes := A }, t, pos, af, g⟩ : Oper).guard = some true := by exact rfl) : L σ P ops n Q (⟨dt, .call { callee := .value (.func f), args := as.toArray, argTypes := A }, t, pos, af, g⟩ :: rest) e h := L_call (E_call hf ha) c hd hn hg k
theorem Lds (us : List Value) {T : TypeId} {b o : Nat} {vs : List Value} (hb : Blk h b vs) (k : ∀ h', Put h h' b (vs.take o ++ us ++ vs.drop (o + us.length)) → L σ P ops n Q rest e h') (hx : ev e x = some (.pointer (some ⟨b, o, none⟩)) := by exact rfl) (hy : ev e y = some v := by exact rfl) (hz : (P.info? T).map (·.size) = some us.length := by kernel_rfl) (hv : v.cells.toList = us := by exact rfl) (h1 : ∀ u ∈ us, u.oneCell' = true := by simp [Value.oneCell']) (ho : o + us.length ≤ vs.length := by simp) (hd : (⟨dt, .store T x y, t, pos, af, g⟩ : Oper).dst = none := by exact rfl) (hg : gd ops e (⟨dt, .store T x y, t, pos, af, g⟩ : Oper).guard = some true := by exact rfl) : L σ P ops n Q (⟨dt, .store T x y, t, pos, af, g⟩ :: rest) e h := L_dos (D_store hz hx hy hv h1 hb ho) hd hg k
end
end Go.Xp

/- make, append, copy, slice and struct literals, []byte(s): what they leave, for the walks. -/
namespace Go.Xp

/-- The slice 'v' is nil, or lies at the head of a block of the call's own (number 'base' or above), which may be written to its end; its elements are the cells 'xs'. -/
def Own (h : Heap) (base z : Nat) (v : Value) (n : Nat) (xs : List Value) : Prop :=
  xs.length = n * z ∧ ((v = .slice none 0 0 ∧ n = 0) ∨ ∃ g cap extra, v = .slice (some ⟨g, 0, none⟩) n cap ∧ base ≤ g ∧ Blk h g (xs ++ extra) ∧ (xs ++ extra).length = cap * z ∧ n ≤ cap)
theorem Own.row {h : Heap} {base z n : Nat} {v : Value} {xs : List Value} (x : Own h base z v n xs) : Row h z v n xs := by
  obtain ⟨h1, ⟨rfl, rfl⟩ | ⟨g, cap, extra, rfl, hg, hb, hl, hn⟩⟩ := x
  · have : xs = [] := List.eq_nil_of_length_eq_zero (by simpa using h1)
    subst this; exact Row.nil h z
  · refine Row.of_blk hb hn h1 (fun i u hi => ?_)
    rw [List.getElem?_append_left (List.getElem?_eq_some_iff.1 hi).1]; exact hi
theorem Own.nil (h : Heap) (base z : Nat) : Own h base z (.slice none 0 0) 0 [] := ⟨by simp, .inl ⟨rfl, rfl⟩⟩
theorem Own.of_blk {h : Heap} {base z g n cap : Nat} {xs extra : List Value} (hb : Blk h g (xs ++ extra)) (hg : base ≤ g) (hx : xs.length = n * z) (hl : (xs ++ extra).length = cap * z) (hn : n ≤ cap) : Own h base z (.slice (some ⟨g, 0, none⟩) n cap) n xs :=
  ⟨hx, .inr ⟨g, cap, extra, rfl, hg, hb, hl, hn⟩⟩
theorem Own.only {bs : List Nat} {h h' : Heap} {base z n : Nat} {v : Value} {xs : List Value} (x : Own h base z v n xs) (y : Only bs h h') (hb : ∀ b, blockOf v = some b → b ∉ bs) : Own h' base z v n xs := by
  obtain ⟨h1, ⟨rfl, rfl⟩ | ⟨g, cap, extra, rfl, hg, hbk, hl, hn⟩⟩ := x
  · exact ⟨h1, .inl ⟨rfl, rfl⟩⟩
  · exact ⟨h1, .inr ⟨g, cap, extra, rfl, hg, hbk.only y (hb g rfl), hl, hn⟩⟩
theorem Own.ext {h h' : Heap} {base z n : Nat} {v : Value} {xs : List Value} (x : Own h base z v n xs) (y : Ext h h') : Own h' base z v n xs := x.only y (by simp)
theorem Own.lt {h : Heap} {base z n : Nat} {v : Value} {xs : List Value} (x : Own h base z v n xs) : ∀ b, blockOf v = some b → base ≤ b ∧ b < h.size := by
  obtain ⟨h1, ⟨rfl, rfl⟩ | ⟨g, cap, extra, rfl, hg, hbk, hl, hn⟩⟩ := x
  · intro b hb; cases hb
  · intro b hb; cases hb; exact ⟨hg, hbk.lt⟩

theorem nextslicecap_le {need old : Nat} (h : old < need) : Builtin.nextslicecap need old ≤ 2 * need := by
  have hg : ∀ rounds c, c ≤ 2 * need → (c < need → c + (c + 768) / 4 ≤ 2 * need ∨ c < 256) → 256 ≤ c → Builtin.growBy need rounds c ≤ 2 * need := by
    intro rounds
    induction rounds with
    | zero => intro c h1 _ _; exact h1
    | succ r ih =>
      intro c h1 h2 h3
      unfold Builtin.growBy
      split
      · exact h1
      · rename_i hlt
        have hlt' : c < need := by omega
        refine ih _ ?_ ?_ ?_
        · omega
        · intro _; left; omega
        · omega
  unfold Builtin.nextslicecap
  split
  · omega
  · split
    · omega
    · refine hg 4 old (by omega) (fun _ => ?_) (by omega)
      left; omega

section
variable {P : Program}
theorem run_typeInfo {T : TypeId} {i : TypeInfo} (w : World) (hi : P.info? T = some i) : (typeInfo T).run P w = .ok i w := by simp [typeInfo, hi]
theorem run_askRoom (k : Nat) (w : World) : (askRoom k).run P w = .ok () w := by
  unfold askRoom; split <;> simp [mark, Sem.run]

def capOf : Value → Nat
  | .slice _ _ c => c
  | _ => 0
/-- append, whatever is appended. 'isI': the second argument's type is no whole number (the make-append of gc). -/
theorem run_append {T T2 E ty : TypeId} {i : TypeInfo} {z0 v x : Value} {z n m base : Nat} {xs news : List Value} (h : Heap) (w : World) (hh : w.heap = h)
    (hT : P.underlying T = some (.slice E)) (hT2 : P.underlying T2 = some (.slice E) ∨ P.underlying T2 = some .string) (hi : P.info? E = some i) (hz : i.size = z) (hz0 : i.zero = some z0) (hzz : z0.cells.size = z)
    (hlen : ∀ w, (Builtin.lenOf x).run P w = .ok m w) (hx : ∀ w, w.heap = h → (Builtin.firstCells z m x).run P w = .ok news.toArray w) (hnl : news.length = m * z) (h1 : ∀ u ∈ news, u.oneCell' = true)
    (hrow : Row h z v n xs) (hown' : n + m ≤ capOf v → Own h base z v n xs) (hbase : base ≤ h.size) (hb : (n + m) * i.bytes ≤ 140737488355328) (hbp : 0 < i.bytes) :
    ∃ v' w', (Builtin.append_ #[T, T2] ty #[v, x]).run P w = .ok v' w' ∧ std w' = std w ∧ Own w'.heap base z v' (n + m) (xs ++ news) ∧ Only (blockOf v).toList h w'.heap ∧ (blockOf v' = blockOf v ∨ blockOf v' = some h.size) ∧ (0 < n + m → (blockOf v').isSome = true) := by
  rcases hT2 with hT2 | hT2
  all_goals
    have hnm : n + m ≤ 140737488355328 := by
      refine nt ?_ hb
      exact Nat.le_mul_of_pos_right _ hbp
    obtain ⟨base', cap, hv⟩ : ∃ base' cap, v = .slice base' n cap := by
      obtain ⟨⟨a0, cap, rfl, _⟩, _⟩ := hrow
      exact ⟨_, _, rfl⟩
    have hxl := hrow.len
    -- the cells that are there
    have hold : ∀ w, w.heap = h → (Builtin.firstCells z n v).run P w = .ok xs.toArray w := by
      intro w hw
      obtain ⟨⟨a0, cap0, hv0, k1, k2, k3⟩, k4⟩ := hrow
      subst hv0
      cases a0 with
      | none =>
        have : n = 0 := by have := k2 rfl; omega
        subst this
        have : xs = [] := List.eq_nil_of_length_eq_zero (by simpa using hxl)
        subst this
        simp [Builtin.firstCells]
      | some ad =>
        obtain ⟨j1, j3⟩ := k3 ad rfl
        obtain ⟨b, o, sp⟩ := ad
        have := run_loadCells_list (P := P) (w := w) ⟨b, o, sp⟩ xs (fun j u hj => by
          have hj' := (List.getElem?_eq_some_iff.1 hj).1
          obtain ⟨j1, -⟩ := j1 (Nat.pos_of_ne_zero (fun h0 => by subst h0; simp at hxl; subst hxl; simp at hj'))
          simp only at j1 j3
          subst j1
          have e0 : (⟨b, o, none⟩ : Addr).add j = ⟨b, o + j, none⟩ := by unfold Addr.add; split <;> simp_all
          rw [e0, cell?_cellAt, hw]; exact j3 j u hj)
        simp only [Builtin.firstCells]
        rw [← hxl]; exact this
    subst hv
    by_cases hroom : n + m ≤ cap
    · -- there is room
      obtain ⟨_, ⟨hv, hn0⟩ | ⟨g, cap', extra, hv, hg, hbk, hl, hn⟩⟩ := hown' hroom
      · simp only [Value.slice.injEq] at hv
        obtain ⟨rfl, rfl, rfl⟩ := hv
        have hm0 : m = 0 := by omega
        subst hm0
        have : xs = [] := List.eq_nil_of_length_eq_zero (by simpa using hxl)
        subst this
        have : news = [] := List.eq_nil_of_length_eq_zero (by simpa using hnl)
        subst this
        refine ⟨.slice none 0 0, w, ?_, rfl, Own.nil _ _ _, hh ▸ Only.refl _ _, .inl rfl, by simp⟩
        simp only [Builtin.append_, List.getElem?_toArray, List.getElem?_cons_zero, List.getElem?_cons_succ, Sem.run_bind, run_underlying hT, run_underlying hT2, Result.andThen_ok, run_sizeOf w (show (P.info? E).map (·.size) = some z by rw [hi]; simp [hz]), Sem.run_pure, Bool.false_eq_true, if_false, Sem.run_ite, hlen, Nat.zero_add, Nat.le_refl, if_true, Bool.not_false, hx w hh]
      · simp only [Value.slice.injEq] at hv
        obtain ⟨rfl, -, rfl⟩ := hv
        subst hh
        have hfit : n * z + 0 + news.length ≤ (xs ++ extra).length := by rw [hl, hnl, Nat.add_zero, ← Nat.add_mul]; exact Nat.mul_le_mul_right _ hroom
        obtain ⟨w', k1, k2, k3⟩ := run_storeCells_put (P := P) news g (n * z) 0 w (xs ++ extra) hbk hfit h1
        have e1 : (xs ++ extra).take (n * z + 0) ++ news ++ (xs ++ extra).drop (n * z + 0 + news.length) = (xs ++ news) ++ extra.drop news.length := by
          rw [Nat.add_zero, ← hxl, List.take_left, List.drop_append]
          simp [List.drop_eq_nil_of_le]
        rw [e1] at k3
        have e2 : (⟨g, 0, none⟩ : Addr).add (n * z) = ⟨g, n * z, none⟩ := by unfold Addr.add; split <;> simp_all
        refine ⟨.slice (some ⟨g, 0, none⟩) (n + m) cap, w', ?_, k2, Own.of_blk k3.blk hg (by rw [List.length_append, hxl, hnl, Nat.add_mul]) ?_ hroom, k3.only, .inl rfl, fun _ => rfl⟩
        · simp only [Builtin.append_, List.getElem?_toArray, List.getElem?_cons_zero, List.getElem?_cons_succ, Sem.run_bind, run_underlying hT, run_underlying hT2, Result.andThen_ok, run_sizeOf w (show (P.info? E).map (·.size) = some z by rw [hi]; simp [hz]), Sem.run_pure, Bool.false_eq_true, if_false, Sem.run_ite, hlen, hroom, if_true, Bool.not_false, hx w rfl, e2, k1]
        · have e3 := congrArg List.length e1
          simp only [List.length_append, List.length_take, List.length_drop] at e3 hl hfit ⊢
          omega
    · -- it grows
      have hcap : cap < n + m := by omega
      have hns : Builtin.nextslicecap (n + m) cap * i.bytes ≤ 281474976710656 := by
        have := nextslicecap_le hcap
        have h2 : Builtin.nextslicecap (n + m) cap * i.bytes ≤ 2 * (n + m) * i.bytes := Nat.mul_le_mul_right _ this
        rw [Nat.mul_assoc] at h2
        omega
      obtain ⟨newCap, hnc, w1, hch, hw1, hstd⟩ : ∃ newCap, n + m ≤ newCap ∧ ∃ w1, (choose (.appendCap (n + m) cap E)).run P w = .ok newCap w1 ∧ w1.heap = h ∧ std w1 = std w := by
        refine ⟨(n + m) + w.tape w.drawn (.appendCap (n + m) cap E) % (2 ^ 63 - (n + m)), by omega, { w with drawn := w.drawn + 1 }, ?_, hh, rfl⟩
        simp [choose, Sem.run, Question.forced, Question.cut]
      have e4 : ((n + m : Nat) : Int) > IntKind.i64.max ∧ ((false = true) ∨ i.bytes = 0) ↔ False := by
        have : IntKind.i64.max = 9223372036854775807 := rfl
        simp only [this]; constructor
        · rintro ⟨h1, _⟩; omega
        · intro h; cases h
      have e5 : ¬ (Builtin.nextslicecap (n + m) cap * i.bytes > 2 ^ 48) := by
        have : (2 : Nat) ^ 48 = 281474976710656 := by decide
        omega
      refine ⟨.slice (some ⟨h.size, 0, none⟩) (n + m) newCap, { w1 with heap := w1.heap.push (.cells (xs.toArray ++ news.toArray ++ Builtin.zeroCells z0.cells (newCap - (n + m))) E) }, ?_, hstd, ?_, ?_, .inr rfl, fun _ => rfl⟩
      · have hzv : ∀ w, (zeroValue E).run P w = .ok z0 w := by intro w; simp [zeroValue, typeInfo, hi, hz0]
        simp only [Builtin.append_, List.getElem?_toArray, List.getElem?_cons_zero, List.getElem?_cons_succ, Sem.run_bind, run_underlying hT, run_underlying hT2, Result.andThen_ok, run_sizeOf w (show (P.info? E).map (·.size) = some z by rw [hi]; simp [hz]), Sem.run_pure, Bool.false_eq_true, Sem.run_ite, if_false, hlen, if_neg hroom, run_typeInfo w hi, run_typeInfo w1 hi, hch, run_askRoom, hold w1 hw1, hx w1 hw1, hzv, run_newRow, hw1, Bool.not_false, if_true]
        have e6 : ¬ (((n + m : Nat) : Int) > IntKind.i64.max ∧ (False ∨ i.bytes = 0)) := by rintro ⟨_, h | h⟩ <;> omega
        rw [if_neg e6, if_neg e5]
      · have hzl : (Builtin.zeroCells z0.cells (newCap - (n + m))).toList.length = (newCap - (n + m)) * z := by
          simp [Builtin.zeroCells, hzz]
        have hpn := new_push h (xs ++ news ++ (Builtin.zeroCells z0.cells (newCap - (n + m))).toList) E
        have e7 : (xs ++ news ++ (Builtin.zeroCells z0.cells (newCap - (n + m))).toList).toArray = xs.toArray ++ news.toArray ++ Builtin.zeroCells z0.cells (newCap - (n + m)) := by simp
        rw [e7] at hpn
        simp only [hw1]
        refine Own.of_blk hpn.blk hbase (by rw [List.length_append, hxl, hnl, Nat.add_mul]) ?_ hnc
        rw [List.length_append, List.length_append, hxl, hnl, hzl, ← Nat.add_mul, ← Nat.add_mul]
        congr 1; omega
      · simp only [hw1]
        exact ((heap_push h _).1).mono (by simp)

/-- What an append leaves. -/
structure App (h h' : Heap) (base z : Nat) (v u : Value) (n m : Nat) (xs news : List Value) : Prop where
  own : Own h' base z u (n + m) (xs ++ news)
  only : Only (blockOf v).toList h h'
  lies : blockOf u = blockOf v ∨ blockOf u = some h.size
  some : 0 < n + m → (blockOf u).isSome = true
/-- The element type's row of the table. -/
def elemRow (P : Program) (E : TypeId) (z bytes : Nat) (z0 : Value) : Prop := (P.info? E).map (fun i => (i.size, i.bytes, i.zero)) = some (z, bytes, Option.some z0)

section
variable {σ : Std} {n : Nat} {Q : Exit → Act → World → Prop} {e : Env} {h : Heap} {ops : Array Oper} {rest : List Oper}
variable {d : Option Tmp} {t : TypeId} {pos : String} {af : Array Edge} {g : Option (Nat × Bool)}
variable {T T' E : TypeId} {x y : Operand} {v : Value} {z : Nat} {cs : List Value} {m : Nat}
theorem firstCells_row {P : Program} {h : Heap} {z m : Nat} {v : Value} {cs : List Value} (r : Row h z v m cs) (w : World) (hw : w.heap = h) : (Builtin.firstCells z m v).run P w = .ok cs.toArray w := by
  obtain ⟨⟨a0, cap0, rfl, k1, k2, k3⟩, k4⟩ := r
  cases a0 with
  | none =>
    have : m = 0 := by have := k2 rfl; omega
    subst this
    have : cs = [] := List.eq_nil_of_length_eq_zero (by simpa using k4)
    subst this
    simp [Builtin.firstCells]
  | some ad =>
    obtain ⟨j1, j3⟩ := k3 ad rfl
    obtain ⟨b, o, sp⟩ := ad
    by_cases hm : m = 0
    · subst hm
      have : cs = [] := List.eq_nil_of_length_eq_zero (by simpa using k4)
      subst this
      simp [Builtin.firstCells, loadCells, loadCellsFrom]
    obtain ⟨j1, -⟩ := j1 (by omega)
    simp only at j1 j3
    subst j1
    have := run_loadCells_list (P := P) (w := w) ⟨b, o, none⟩ cs (fun j u hj => by
      have e0 : (⟨b, o, none⟩ : Addr).add j = ⟨b, o + j, none⟩ := by unfold Addr.add; split <;> simp_all
      rw [e0, cell?_cellAt, hw]; exact j3 j u hj)
    simp only [Builtin.firstCells]
    rw [← k4]; exact this
theorem lenOf_row {h : Heap} {z m : Nat} {v : Value} {cs : List Value} (r : Row h z v m cs) (w : World) : (Builtin.lenOf v).run P w = .ok m w := by
  obtain ⟨⟨a0, cap0, rfl, k1, k2, k3⟩, k4⟩ := r
  rfl
theorem M_append' {bytes k base : Nat} {z0 u : Value} {xs news : List Value} (hT : P.underlying T = some (.slice E)) (hT2 : P.underlying T' = some (.slice E) ∨ P.underlying T' = some .string) (hE : elemRow P E z bytes z0) (hzz : z0.cells.size = z) (hbp : 0 < bytes)
    (hs : ev e x = some v) (hx : ev e y = some u) (hrow : Row h z v k xs) (hown : k + m ≤ capOf v → Own h base z v k xs) (hlen : ∀ w, (Builtin.lenOf u).run P w = .ok m w) (hfc : ∀ w, w.heap = h → (Builtin.firstCells z m u).run P w = .ok news.toArray w)
    (hnl : news.length = m * z) (h1 : ∀ u ∈ news, u.oneCell' = true) (hbase : base ≤ h.size) (hb : (k + m) * bytes ≤ 140737488355328) :
    Mks P n e h ⟨d, .call { callee := .builtin .append, args := #[x, y], argTypes := #[T, T'] }, t, pos, af, g⟩ (fun r h' => App h h' base z v r k m xs news) := fun w a hh he => by
  unfold elemRow at hE
  cases hi : P.info? E with
  | none => rw [hi] at hE; cases hE
  | some i =>
    rw [hi] at hE
    simp only [Option.map_some, Option.some.injEq, Prod.mk.injEq] at hE
    obtain ⟨hz, hby, hz0⟩ := hE
    obtain ⟨v', w', k1, k2, k3, k4, k5, k6⟩ := run_append (P := P) (ty := t) h w hh hT hT2 hi hz hz0 hzz hlen hfc hnl h1 hrow hown hbase (by rw [hby]; exact hb) (by rw [hby]; exact hbp)
    refine ⟨v', w', run_blt rfl ?_, k2, k3, k4, k5, k6⟩
    simpa [he.eval hs, he.eval hx] using k1
/-- append(xs, ys...), xs the call's own. -/
theorem M_append {bytes k base : Nat} {z0 u : Value} {xs news : List Value} (hT : P.underlying T = some (.slice E)) (hE : elemRow P E z bytes z0) (hzz : z0.cells.size = z) (hbp : 0 < bytes)
    (hs : ev e x = some v) (hx : ev e y = some u) (hown : Own h base z v k xs) (hr : Row h z u m news) (h1 : ∀ u ∈ news, u.oneCell' = true) (hbase : base ≤ h.size) (hb : (k + m) * bytes ≤ 140737488355328) :
    Mks P n e h ⟨d, .call { callee := .builtin .append, args := #[x, y], argTypes := #[T, T] }, t, pos, af, g⟩ (fun r h' => App h h' base z v r k m xs news) :=
  M_append' hT (.inl hT) hE hzz hbp hs hx hown.row (fun _ => hown) (lenOf_row hr) (firstCells_row hr) hr.len h1 hbase hb
/-- append(xs, s...), s a text. -/
theorem M_append_str {k base : Nat} {xs : List Value} {l : List UInt8} (hT : P.underlying T = some (.slice E)) (hT' : P.underlying T' = some .string) (hE : elemRow P E 1 1 (.int .u8 0))
    (hs : ev e x = some v) (hx : ev e y = some (str l)) (hown : Own h base 1 v k xs) (hbase : base ≤ h.size) (hb : k + l.length ≤ 140737488355328) :
    Mks P n e h ⟨d, .call { callee := .builtin .append, args := #[x, y], argTypes := #[T, T'] }, t, pos, af, g⟩ (fun r h' => App h h' base 1 v r k l.length xs (l.map bv)) := by
  have hsz : (⟨l.toArray⟩ : ByteArray).size = l.length := by simp [ByteArray.size]
  refine M_append' hT (.inr hT') hE rfl (by decide) hs hx hown.row (fun _ => hown) (fun w => ?_) (fun w hw => ?_) (by simp) ?_ hbase (by omega)
  · simp [Builtin.lenOf, hsz]
  · have e1 : (⟨l.toArray⟩ : ByteArray).extract 0 l.length = ⟨l.toArray⟩ := by rw [extract_list]; simp
    simp only [Builtin.firstCells, e1, Sem.run_pure]
    simp
  · intro u hu; obtain ⟨b, _, rfl⟩ := List.mem_map.1 hu; rfl
end
end
end Go.Xp
