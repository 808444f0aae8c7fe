/- Memory for the walks: cells of a heap, blocks known whole, rows of cells behind a slice; what the loading, storing and making operations do to them. -/
import Derived.Test.YtdmhigknppkniaaGreatDoorOps
import Derived.KernelRfl
set_option linter.unusedSimpArgs false
set_option linter.unusedVariables false
namespace Go.Xp

/-! ### Heaps -/
def cellAt (h : Heap) (b o : Nat) : Option Value := match h[b]? with
  | some (.cells c _ _) => c[o]?
  | _ => none
theorem cell?_cellAt (w : World) (b o : Nat) : w.cell? ⟨b, o, none⟩ = cellAt w.heap b o := by
  unfold World.cell? cellAt
  cases hb : w.heap[b]? with
  | none => rfl
  | some x => cases x <;> rfl

/-- 'h'' is 'h' with new blocks, and with changes in the blocks 'bs' alone. -/
structure Only (bs : List Nat) (h h' : Heap) : Prop where
  size : h.size ≤ h'.size
  same : ∀ k, k < h.size → k ∉ bs → h'[k]? = h[k]?
abbrev Ext (h h' : Heap) : Prop := Only [] h h'
theorem Only.refl (bs : List Nat) (h : Heap) : Only bs h h := ⟨Nat.le_refl _, fun _ _ _ => rfl⟩
theorem Ext.refl (h : Heap) : Ext h h := Only.refl [] h
theorem Only.trans {bs cs : List Nat} {h h' h'' : Heap} (x : Only bs h h') (y : Only cs h' h'') (hc : ∀ b ∈ cs, b ∈ bs ∨ h.size ≤ b) : Only bs h h'' :=
  ⟨nt x.size y.size, fun k hk hb => (y.same k (ntl hk x.size) (fun hm => (hc k hm).elim hb (fun hh => absurd hk (by omega)))).trans (x.same k hk hb)⟩
theorem Ext.trans {h h' h'' : Heap} (x : Ext h h') (y : Ext h' h'') : Ext h h'' := Only.trans x y (fun _ hb => by cases hb)
theorem Only.mono {bs cs : List Nat} {h h' : Heap} (x : Only bs h h') (hc : ∀ b ∈ bs, b ∈ cs) : Only cs h h' := ⟨x.size, fun k hk hb => x.same k hk (fun hm => hb (hc k hm))⟩
/-- What is written lies in blocks that are newer than 'h'. -/
theorem Ext.then {bs : List Nat} {h h' h'' : Heap} (x : Ext h h') (y : Only bs h' h'') (hb : ∀ b ∈ bs, h.size ≤ b) : Ext h h'' := Only.trans x y (fun b hm => .inr (hb b hm))
theorem Only.cellAt {bs : List Nat} {h h' : Heap} (x : Only bs h h') {b o : Nat} (hb : b < h.size) (hn : b ∉ bs) : cellAt h' b o = cellAt h b o := by
  unfold Go.Xp.cellAt; rw [x.same b hb hn]
theorem cellAt_lt {h : Heap} {b o : Nat} {v : Value} (hc : cellAt h b o = some v) : b < h.size := by
  unfold cellAt at hc
  cases hb : h[b]? with
  | none => rw [hb] at hc; cases hc
  | some x => exact (Array.getElem?_eq_some_iff.1 hb).1

/-- Block 'b' holds just these cells, and they may be written. -/
def Blk (h : Heap) (b : Nat) (vs : List Value) : Prop := ∃ T lo hi, h[b]? = some (.cells vs.toArray T (lo, hi)) ∧ ∀ i, i < vs.length → ¬ (lo ≤ i ∧ i < hi)
theorem Blk.lt {h : Heap} {b : Nat} {vs : List Value} (x : Blk h b vs) : b < h.size := by
  obtain ⟨T, lo, hi, h1, _⟩ := x
  exact (Array.getElem?_eq_some_iff.1 h1).1
theorem Blk.cell {h : Heap} {b : Nat} {vs : List Value} (x : Blk h b vs) (o : Nat) : cellAt h b o = vs[o]? := by
  obtain ⟨T, lo, hi, h1, _⟩ := x
  unfold cellAt; rw [h1]; simp
theorem Blk.only {bs : List Nat} {h h' : Heap} {b : Nat} {vs : List Value} (x : Blk h b vs) (y : Only bs h h') (hn : b ∉ bs) : Blk h' b vs := by
  have := x.lt
  obtain ⟨T, lo, hi, h1, h2⟩ := x
  exact ⟨T, lo, hi, (y.same b this hn).trans h1, h2⟩
theorem Blk.ext {h h' : Heap} {b : Nat} {vs : List Value} (x : Blk h b vs) (y : Ext h h') : Blk h' b vs := x.only y (by simp)
theorem Blk.inj {h : Heap} {b : Nat} {vs us : List Value} (x : Blk h b vs) (y : Blk h b us) : vs = us := by
  obtain ⟨T, lo, hi, h1, _⟩ := x
  obtain ⟨T', lo', hi', h1', _⟩ := y
  rw [h1] at h1'
  simp only [Option.some.injEq, Obj.cells.injEq] at h1'
  simpa using h1'.1

/-- The slice 'v' of 'n' elements, 'z' cells each, reads as the cells 'cs'. -/
structure Row (h : Heap) (z : Nat) (v : Value) (n : Nat) (cs : List Value) : Prop where
  ex : ∃ a cap, v = .slice a n cap ∧ n ≤ cap ∧ (a = none → cap = 0) ∧ ∀ ad, a = some ad → (0 < n → ad.spot = none ∧ ad.block < h.size) ∧ ∀ i u, cs[i]? = some u → cellAt h ad.block (ad.off + i) = some u
  len : cs.length = n * z
/-- The block behind a slice. -/
def blockOf : Value → Option Nat
  | .slice (some a) _ _ => some a.block
  | _ => none
theorem Row.only {bs : List Nat} {h h' : Heap} {z n : Nat} {v : Value} {cs : List Value} (x : Row h z v n cs) (y : Only bs h h') (hb : ∀ b, blockOf v = some b → b ∉ bs) : Row h' z v n cs := by
  obtain ⟨⟨a, cap, rfl, h1, h2, h3⟩, h4⟩ := x
  refine ⟨⟨a, cap, rfl, h1, h2, fun ad ha => ?_⟩, h4⟩
  obtain ⟨k1, k3⟩ := h3 ad ha
  subst ha
  exact ⟨fun hn => ⟨(k1 hn).1, ntl (k1 hn).2 y.size⟩, fun i u hi => by rw [y.cellAt (cellAt_lt (k3 i u hi)) (hb _ rfl)]; exact k3 i u hi⟩
theorem Row.ext {h h' : Heap} {z n : Nat} {v : Value} {cs : List Value} (x : Row h z v n cs) (y : Ext h h') : Row h' z v n cs := x.only y (by simp)
theorem Row.nil (h : Heap) (z : Nat) : Row h z (.slice none 0 0) 0 [] := ⟨⟨none, 0, rfl, Nat.le_refl _, fun _ => rfl, fun _ h => by cases h⟩, by simp⟩
theorem Row.of_blk {h : Heap} {z b n cap : Nat} {vs cs : List Value} (x : Blk h b vs) (hn : n ≤ cap) (hc : cs.length = n * z) (hp : ∀ (i : Nat) (u : Value), cs[i]? = some u → vs[i]? = some u) : Row h z (.slice (some ⟨b, 0, none⟩) n cap) n cs :=
  by
  refine ⟨⟨_, _, rfl, hn, ?_, ?_⟩, hc⟩
  · intro h; cases h
  · intro ad ha; cases ha
    exact ⟨fun _ => ⟨rfl, x.lt⟩, fun i u hi => by rw [x.cell]; simpa using hp i u hi⟩
/-- The address of cell 'k' behind a slice. -/
def elemAddr (v : Value) (k : Nat) : Addr := match v with
  | .slice (some ad) _ _ => ⟨ad.block, ad.off + k, none⟩
  | _ => ⟨0, 0, none⟩
theorem Row.at {h : Heap} {z n : Nat} {v : Value} {cs : List Value} (x : Row h z v n cs) {k : Nat} {u : Value} (hk : cs[k]? = some u) : (elemAddr v k).spot = none ∧ cellAt h (elemAddr v k).block (elemAddr v k).off = some u := by
  obtain ⟨⟨a, cap, rfl, h1, h2, h3⟩, h4⟩ := x
  have hlt : k < cs.length := (List.getElem?_eq_some_iff.1 hk).1
  cases a with
  | none =>
    have : n = 0 := by have := h2 rfl; omega
    subst this
    simp at h4; subst h4; simp at hlt
  | some ad =>
    exact ⟨rfl, (h3 ad rfl).2 k u hk⟩
/-- The part '[lo:hi]' of a slice, as the machine makes it. -/
def slcut (z lo hi : Nat) : Value → Value
  | .slice a _ cap => .slice (if cap = lo then a else a.map (·.add (lo * z))) (hi - lo) (cap - lo)
  | v => v
theorem Row.cut {h : Heap} {z n : Nat} {v : Value} {cs : List Value} (x : Row h z v n cs) {lo hi : Nat} (h1 : lo ≤ hi) (h2 : hi ≤ n) : Row h z (slcut z lo hi v) (hi - lo) ((cs.take (hi * z)).drop (lo * z)) := by
  obtain ⟨⟨a, cap, rfl, k1, k2, k3⟩, k4⟩ := x
  have hm : hi * z ≤ n * z := Nat.mul_le_mul_right z h2
  refine ⟨⟨_, _, rfl, by omega, fun ha => ?_, fun ad ha => ?_⟩, by rw [List.length_drop, List.length_take, k4, Nat.min_eq_left hm, Nat.sub_mul]⟩
  · split at ha
    · omega
    · cases a with
      | none => have := k2 rfl; omega
      | some ad => cases ha
  · split at ha
    · subst ha
      obtain ⟨j1, j3⟩ := k3 ad rfl
      refine ⟨fun h0 => j1 (by omega), fun i u hi' => ?_⟩
      have hl : lo = hi := by omega
      subst hl
      rw [List.drop_eq_nil_of_le (by simp; omega)] at hi'
      cases hi'
    · cases a with
      | none => cases ha
      | some a0 =>
        obtain ⟨j1, j3⟩ := k3 a0 rfl
        have e1 : a0.add (lo * z) = ad := by simpa using ha
        have hb : ad.block = a0.block := by rw [← e1]; unfold Addr.add; split <;> rfl
        have ho : ad.off = a0.off + lo * z := by rw [← e1]; unfold Addr.add; split <;> simp_all
        refine ⟨fun h0 => ⟨by rw [← e1]; unfold Addr.add; split; exact (j1 (by omega)).1; rfl, by rw [hb]; exact (j1 (by omega)).2⟩, fun i u hi' => ?_⟩
        rw [hb, ho]
        have := j3 (lo * z + i) u (by
          rw [List.getElem?_drop] at hi'
          rw [List.getElem?_take] at hi'
          split at hi'
          · exact hi'
          · cases hi')
        rwa [Nat.add_assoc]

/-- A slice of bytes. -/
def Bytes (h : Heap) (v : Value) (l : List UInt8) : Prop := Row h 1 v l.length (l.map bv)
theorem Bytes.ext {h h' : Heap} {v : Value} {l : List UInt8} (x : Bytes h v l) (y : Ext h h') : Bytes h' v l := Row.ext x y
theorem Bytes.only {bs : List Nat} {h h' : Heap} {v : Value} {l : List UInt8} (x : Bytes h v l) (y : Only bs h h') (hb : ∀ b, blockOf v = some b → b ∉ bs) : Bytes h' v l := Row.only x y hb
theorem Bytes.nil (h : Heap) : Bytes h (.slice none 0 0) [] := Row.nil h 1
theorem Bytes.cut {h : Heap} {v : Value} {l : List UInt8} (x : Bytes h v l) {lo hi : Nat} (h1 : lo ≤ hi) (h2 : hi ≤ l.length) : Bytes h (slcut 1 lo hi v) ((l.take hi).drop lo) := by
  have := Row.cut x h1 h2
  unfold Bytes
  rw [List.length_drop, List.length_take, Nat.min_eq_left h2]
  simpa [List.map_drop, List.map_take] using this

/-! ### Operations -/
def isAggD : TypeDesc → Bool
  | .struct _ | .array _ _ => true
  | _ => false
theorem run_isAgg {P : Program} {T : TypeId} {D : TypeDesc} (w : World) (hT : P.underlying T = some D) : (isAgg T).run P w = .ok (isAggD D) w := by
  unfold isAgg
  rw [Sem.run_bind, run_underlying hT, Result.andThen_ok]
  cases D <;> rfl
theorem run_sizeOf {P : Program} {T : TypeId} {z : Nat} (w : World) (hz : (P.info? T).map (·.size) = some z) : (sizeOf T).run P w = .ok z w := by
  cases hi : P.info? T with
  | none => rw [hi] at hz; cases hz
  | some i =>
    rw [hi] at hz
    simp only [Option.map_some, Option.some.injEq] at hz
    simp [sizeOf, typeInfo, hi, hz]

section
variable {σ : Std} {P : Program} {n : Nat} {Q : Exit → Act → World → Prop} {e : Env} {h : Heap} {ops : Array Oper} {rest : List Oper}
variable {d : Option Tmp} {t : TypeId} {pos : String} {af : Array Edge} {g : Option (Nat × Bool)}
variable {T T' E : TypeId} {x y : Operand} {v : Value} {z : Nat} {cs : List Value} {m : Nat}

theorem elem_underlying {T E : TypeId} (hT : P.underlying T = some (.slice E)) : P.underlying T = some (.slice (P.elem T)) := by
  rw [hT]; simp [Program.elem, hT]

/-- 'len(x)' of a slice. -/
theorem Y_len (hT : P.underlying T = some (.slice E)) (hx : ev e x = some v) (hr : Row h z v m cs) : Yld P n e h ⟨d, .call { callee := .builtin .len, args := #[x], argTypes := #[T] }, t, pos, af, g⟩ (.int .i64 (m : Int)) := fun w a _ he => by
  obtain ⟨⟨a0, cap, rfl, _⟩, _⟩ := hr
  refine run_blt rfl ?_
  simp [he.eval hx, Builtin.len_, run_underlying hT, goInt]
/-- '&x[i]'. -/
theorem Y_idx {k : IntKind} {p : Int} (hT : P.underlying T = some (.slice E)) (hE : (P.info? E).map (·.size) = some z) (hx : ev e x = some v) (hy : ev e y = some (.int k p)) (hr : Row h z v m cs) (h0 : 0 ≤ p) (h1 : p < m) :
    Yld P n e h ⟨d, .indexAddr T x y, t, pos, af, g⟩ (.pointer (some (elemAddr v (p.toNat * z)))) := fun w a _ he => by
  obtain ⟨⟨a0, cap, rfl, k1, k2, k3⟩, _⟩ := hr
  cases a0 with
  | none => have := k2 rfl; omega
  | some ad =>
    obtain ⟨j1, -⟩ := k3 ad rfl
    obtain ⟨j1, -⟩ := j1 (by omega)
    have e1 : ad.add (p.toNat * z) = elemAddr (.slice (some ad) m cap) (p.toNat * z) := by
      unfold Addr.add elemAddr
      split
      · rename_i h'; cases ad; simp_all
      · cases ad; simp_all
    have e2 : 0 ≤ p ∧ p < ((m : Nat) : Int) := ⟨h0, h1⟩
    simp only [execOp, he.eval hx, he.eval hy, Instr.indexAt, asIntOf, Sem.run_bind, Sem.run_pure, Result.andThen_ok, run_underlying hT, run_sizeOf w hE, Sem.run_ite, if_pos e2, e1]
/-- The load of one cell. -/
theorem Y_ld {D : TypeDesc} {ad : Addr} {u : Value} (hT : P.underlying T = some D) (hD : isAggD D = false) (hx : ev e x = some (.pointer (some ad))) (hs : ad.spot = none) (hc : cellAt h ad.block ad.off = some u) :
    Yld P n e h ⟨d, .load T x, t, pos, af, g⟩ u := fun w a hh he => by
  obtain ⟨b, o, sp⟩ := ad
  simp only at hs hc
  subst hs
  have hc' : w.cell? ⟨b, o, none⟩ = some u := by rw [cell?_cellAt, hh]; exact hc
  simp [execOp, he.eval hx, Instr.loadAt, Instr.sureAddr, loadVar, run_isAgg w hT, hD, hc']
theorem Y_ldrow {D : TypeDesc} {u : Value} {k : Nat} (hT : P.underlying T = some D) (hD : isAggD D = false) (hx : ev e x = some (.pointer (some (elemAddr v k)))) (hr : Row h z v m cs) (hk : cs[k]? = some u) :
    Yld P n e h ⟨d, .load T x, t, pos, af, g⟩ u := Y_ld hT hD hx (hr.at hk).1 (hr.at hk).2
theorem Y_ldblk {D : TypeDesc} {u : Value} {b o : Nat} {vs : List Value} (hT : P.underlying T = some D) (hD : isAggD D = false) (hx : ev e x = some (.pointer (some ⟨b, o, none⟩))) (hb : Blk h b vs) (hk : vs[o]? = some u) :
    Yld P n e h ⟨d, .load T x, t, pos, af, g⟩ u := Y_ld hT hD hx rfl (by rw [hb.cell]; exact hk)
/-- The load of a struct or an array. -/
theorem Y_ldagg {D : TypeDesc} {ad : Addr} {us : List Value} (hT : P.underlying T = some D) (hD : isAggD D = true) (hz : (P.info? T).map (·.size) = some us.length) (hx : ev e x = some (.pointer (some ad))) (hs : ad.spot = none)
    (hc : ∀ i u, us[i]? = some u → cellAt h ad.block (ad.off + i) = some u) : Yld P n e h ⟨d, .load T x, t, pos, af, g⟩ (.agg us.toArray) := fun w a hh he => by
  obtain ⟨b, o, sp⟩ := ad
  simp only at hs hc
  subst hs
  have hc' : ∀ j v, us[j]? = some v → w.cell? ((⟨b, o, none⟩ : Addr).add j) = some v := fun j v hj => by
    have : (⟨b, o, none⟩ : Addr).add j = ⟨b, o + j, none⟩ := by unfold Addr.add; split <;> simp_all
    rw [this, cell?_cellAt, hh]; exact hc j v hj
  have := run_loadCells_list (P := P) (w := w) ⟨b, o, none⟩ us hc'
  simp [execOp, he.eval hx, Instr.loadAt, Instr.sureAddr, loadVar, run_isAgg w hT, hD, run_sizeOf w hz, this]
/-- The number of cells before field 'f' of struct type 'S' (a field that takes room). -/
def fld (P : Program) (S f : Nat) : Option Nat := match P.underlying S with
  | some (.struct fs) => match fs[f]? with
    | some fd => match P.info? fd.type with
      | some i => if i.size = 0 then none else some fd.offset
      | none => none
    | none => none
  | _ => none
theorem Y_fieldAddr {S f off : Nat} {ad : Addr} (hf : fld P S f = some off) (hx : ev e x = some (.pointer (some ad))) (hs : ad.spot = none) : Yld P n e h ⟨d, .fieldAddr S x f, t, pos, af, g⟩ (.pointer (some ⟨ad.block, ad.off + off, none⟩)) := fun w a _ he => by
  unfold fld at hf
  cases hS : P.underlying S with
  | none => rw [hS] at hf; cases hf
  | some D =>
    rw [hS] at hf
    cases D with
    | struct fs =>
      simp only at hf
      cases hfd : fs[f]? with
      | none => rw [hfd] at hf; cases hf
      | some fd =>
        rw [hfd] at hf
        simp only at hf
        cases hi : P.info? fd.type with
        | none => rw [hi] at hf; cases hf
        | some i =>
          rw [hi] at hf
          simp only at hf
          split at hf
          · cases hf
          · rename_i hz
            simp only [Option.some.injEq] at hf
            subst hf
            have e1 : ad.add fd.offset = ⟨ad.block, ad.off + fd.offset, none⟩ := by
              unfold Addr.add
              split
              · rename_i h'; cases ad; simp_all
              · cases ad; simp_all
            simp [execOp, he.eval hx, Instr.fieldAt, run_underlying hS, hfd, Instr.sureAddr, fieldPlace, run_sizeOf w (show (P.info? fd.type).map (·.size) = some i.size by rw [hi]; rfl), hz, e1]
    | _ => simp at hf
/-- 'x[lo:hi]' of a slice. -/
theorem Y_cut {lo hi : Operand} {k k' : IntKind} {p q : Int} (hT : P.underlying T = some (.slice E)) (hE : (P.info? E).map (·.size) = some z) (hx : ev e x = some v) (hr : Row h z v m cs) (hl : ev e lo = some (.int k p)) (hh : ev e hi = some (.int k' q)) (h0 : 0 ≤ p) (h1 : p ≤ q) (h2 : q ≤ m) :
    Yld P n e h ⟨d, .slice T x (some lo) (some hi) none, t, pos, af, g⟩ (slcut z p.toNat q.toNat v) := fun w a _ he => by
  obtain ⟨⟨a0, cap, rfl, k1, k2, k3⟩, _⟩ := hr
  have e1 : 0 ≤ q ∧ q ≤ ((cap : Nat) : Int) := ⟨by omega, by omega⟩
  have e2 : 0 ≤ p ∧ p ≤ ((q.toNat : Nat) : Int) := ⟨h0, by omega⟩
  simp only [execOp, he.eval hx, Option.map, he.eval hl, he.eval hh, run_sliceAt_slice w T _ _ _ _ (elem_underlying hT), Instr.slice, Instr.sliceBounds, Instr.sliceBound, asIntOf, Sem.run_bind, Sem.run_pure, Result.andThen_ok, run_underlying hT, Sem.run_ite, if_pos e1, if_pos e2, run_sizeOf w hE, Option.isSome, Bool.false_eq_true, if_false, if_true]
  rfl
theorem Y_cut_l {lo : Operand} {k : IntKind} {p : Int} (hT : P.underlying T = some (.slice E)) (hE : (P.info? E).map (·.size) = some z) (hx : ev e x = some v) (hr : Row h z v m cs) (hl : ev e lo = some (.int k p)) (h0 : 0 ≤ p) (h1 : p ≤ m) :
    Yld P n e h ⟨d, .slice T x (some lo) none none, t, pos, af, g⟩ (slcut z p.toNat m v) := fun w a _ he => by
  obtain ⟨⟨a0, cap, rfl, k1, k2, k3⟩, _⟩ := hr
  have e2 : 0 ≤ p ∧ p ≤ ((m : Nat) : Int) := ⟨h0, by omega⟩
  simp only [execOp, he.eval hx, Option.map, he.eval hl, run_sliceAt_slice w T _ _ _ _ (elem_underlying hT), Instr.slice, Instr.sliceBounds, Instr.sliceBound, asIntOf, Sem.run_bind, Sem.run_pure, Result.andThen_ok, run_underlying hT, Sem.run_ite, if_pos e2, run_sizeOf w hE, Option.isSome, Bool.false_eq_true, if_false, if_true]
  rfl
theorem Y_cut_h {hi : Operand} {k' : IntKind} {q : Int} (hT : P.underlying T = some (.slice E)) (hE : (P.info? E).map (·.size) = some z) (hx : ev e x = some v) (hr : Row h z v m cs) (hh : ev e hi = some (.int k' q)) (h1 : 0 ≤ q) (h2 : q ≤ m) :
    Yld P n e h ⟨d, .slice T x none (some hi) none, t, pos, af, g⟩ (slcut z 0 q.toNat v) := fun w a _ he => by
  obtain ⟨⟨a0, cap, rfl, k1, k2, k3⟩, _⟩ := hr
  have e1 : 0 ≤ q ∧ q ≤ ((cap : Nat) : Int) := ⟨by omega, by omega⟩
  simp only [execOp, he.eval hx, Option.map, he.eval hh, run_sliceAt_slice w T _ _ _ _ (elem_underlying hT), Instr.slice, Instr.sliceBounds, Instr.sliceBound, asIntOf, Sem.run_bind, Sem.run_pure, Result.andThen_ok, run_underlying hT, Sem.run_ite, if_pos e1, run_sizeOf w hE, Option.isSome, Bool.false_eq_true, if_false, if_true]
  rfl
/-- 'string(b)'. -/
theorem Y_bytes_str {l : List UInt8} (hT : P.underlying T = some (.slice E)) (hE : P.underlying E = some (.int .u8)) (hT' : P.underlying T' = some .string) (hx : ev e x = some v) (hr : Bytes h v l) :
    Yld P n e h ⟨d, .convert T T' x, t, pos, af, g⟩ (str l) := fun w a hh he => by
  obtain ⟨⟨a0, cap, rfl, k1, k2, k3⟩, _⟩ := hr
  cases a0 with
  | none =>
    have : cap = 0 := k2 rfl
    have hl : l = [] := List.eq_nil_of_length_eq_zero (by omega)
    subst hl
    simp [execOp, he.eval hx, convert, run_underlying hT, run_underlying hT', run_underlying hE, Conv.bytesToString]
    rfl
  | some ad =>
    obtain ⟨j1, j3⟩ := k3 ad rfl
    obtain ⟨b, o, sp⟩ := ad
    have hc : ∀ (j : Nat) v, ((l.map (fun c => (c.toNat : Int))).map (Value.int .u8))[j]? = some v → w.cell? ((⟨b, o, sp⟩ : Addr).add j) = some v := fun j v hj => by
      have hj' := (List.getElem?_eq_some_iff.1 hj).1
      simp only [List.length_map] at hj'
      obtain ⟨j1, -⟩ := j1 (by omega)
      simp only at j1 j3
      subst j1
      have e0 : (⟨b, o, none⟩ : Addr).add j = ⟨b, o + j, none⟩ := by unfold Addr.add; split <;> simp_all
      rw [e0, cell?_cellAt, hh]
      exact j3 j v (by simpa using hj)
    have hload := run_loadCells_list (P := P) (w := w) ⟨b, o, sp⟩ ((l.map (fun c => (c.toNat : Int))).map (Value.int .u8)) hc
    simp only [List.length_map] at hload
    have hrun := run_bytesToString (P := P) w ⟨b, o, sp⟩ l.length cap (l.map (fun c => (c.toNat : Int))) hload
    have e1 : (l.map (fun c => (c.toNat : Int))).foldl (fun r n => r.push (UInt8.ofNat n.toNat)) ByteArray.empty = ⟨l.toArray⟩ := by
      rw [foldl_push_bytes]
      have : (ByteArray.empty).data = #[] := rfl
      rw [this]
      congr 1
      simp [List.map_map, Function.comp_def]
    rw [e1] at hrun
    simp only [execOp, he.eval hx, convert, Sem.run_bind, Sem.run_pure, Result.andThen_ok, run_underlying hT, run_underlying hT', run_underlying hE]
    rw [hrun]
    simp only [Result.andThen_ok]
end
section
variable {σ : Std} {P : Program} {n : Nat} {Q : Exit → Act → World → Prop} {e : Env} {h : Heap} {ops : Array Oper} {rest : List Oper}
variable {dt : Option Tmp} {t : TypeId} {pos : String} {af : Array Edge} {g : Option (Nat × Bool)} {x : Operand} {v : Value} {d : Nat}
theorem Lf (off : Nat) {S f : Nat} {ad : Addr} (k : L σ P ops n Q rest ((d, .pointer (some ⟨ad.block, ad.off + off, none⟩)) :: e) h) (hx : ev e x = some (.pointer (some ad)) := by exact rfl) (hf : fld P S f = some off := by kernel_rfl) (hs : ad.spot = none := by exact rfl) (hd : (⟨dt, .fieldAddr S x f, t, pos, af, g⟩ : Oper).dst = some d := by exact rfl) (hn : Nat.blt d n = true := by exact rfl) (hg : gd ops e (⟨dt, .fieldAddr S x f, t, pos, af, g⟩ : Oper).guard = some true := by exact rfl) : L σ P ops n Q (⟨dt, .fieldAddr S x f, t, pos, af, g⟩ :: rest) e h := L_yld (Y_fieldAddr hf hx hs) hd hn hg k
theorem Lb {T : TypeId} {D : TypeDesc} {b o : Nat} {vs : List Value} (hT : P.underlying T = some D) (hb : Blk h b vs) (k : L σ P ops n Q rest ((d, v) :: e) h) (hD : isAggD D = false := by exact rfl) (hx : ev e x = some (.pointer (some ⟨b, o, none⟩)) := by exact rfl) (hk : vs[o]? = some v := by exact rfl) (hd : (⟨dt, .load T x, t, pos, af, g⟩ : Oper).dst = some d := by exact rfl) (hn : Nat.blt d n = true := by exact rfl) (hg : gd ops e (⟨dt, .load T x, t, pos, af, g⟩ : Oper).guard = some true := by exact rfl) : L σ P ops n Q (⟨dt, .load T x, t, pos, af, g⟩ :: rest) e h := L_yld (Y_ldblk hT hD hx hb hk) hd hn hg k
end
end Go.Xp
