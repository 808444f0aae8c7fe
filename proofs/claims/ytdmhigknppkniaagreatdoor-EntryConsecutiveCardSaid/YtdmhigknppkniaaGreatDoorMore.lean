/- Forms of the walks' facts in which the program that prints them wants them. -/
import Derived.Test.YtdmhigknppkniaaGreatDoorAppend
import Derived.Lib.BytesEntry
set_option linter.unusedSimpArgs false
set_option linter.unusedVariables false
namespace Go.Xp

/-- Byte 'k' of a text as a number. -/
def byt (l : List UInt8) (k : Nat) : Int := ((l.getD k 0).toNat : Int)
theorem byt_lt (l : List UInt8) (k : Nat) : 0 ≤ byt l k ∧ byt l k ≤ 255 := by
  have h : (l.getD k 0).toNat < 256 := UInt8.toNat_lt _
  unfold byt; omega
theorem byt_eq {l : List UInt8} {k : Nat} (h : k < l.length) : byt l k = (l[k].toNat : Int) := by
  unfold byt; rw [List.getD_eq_getElem?_getD, List.getElem?_eq_getElem h]; rfl

theorem lki {e : Env} {i : Nat} {k : IntKind} {p q : Int} (hl : lk e i = some (.int k p)) (hb : p = q) : lk e i = some (.int k q) := hb ▸ hl
theorem lkb {e : Env} {i : Nat} {b b' : Bool} (hl : lk e i = some (.bool b)) (hb : b = b') : lk e i = some (.bool b') := hb ▸ hl

section
variable {σ : Std} {P : Program} {n : Nat} {Q : Exit → Act → World → Prop} {e : Env} {h : Heap} {ops : Array Oper} {rest : List Oper}
variable {d : Option Tmp} {t : TypeId} {pos : String} {af : Array Edge} {g : Option (Nat × Bool)}
variable {T T' E : TypeId} {x y : Operand} {v : Value} {z : Nat} {cs : List Value} {m : Nat} {l : List UInt8}

theorem Y_sidx {k : IntKind} {p : Int} (hT : P.underlying T = some .string) (hx : ev e x = some (str l)) (hy : ev e y = some (.int k p)) (h0 : 0 ≤ p) (h1 : p < l.length) : Yld P n e h ⟨d, .index T x y, t, pos, af, g⟩ (.int .u8 (byt l p.toNat)) := by
  have := Y_sindex (P := P) (n := n) (h := h) (d := d) (t := t) (pos := pos) (af := af) (g := g) hT hx hy h0 h1
  rw [byt_eq (show p.toNat < l.length by omega)]
  exact this
theorem Y_ldbyte {D : TypeDesc} {k : Nat} (hT : P.underlying T = some D) (hD : isAggD D = false) (hx : ev e x = some (.pointer (some (elemAddr v (k * 1))))) (hr : Bytes h v l) (h0 : 0 ≤ (k : Int)) (hk : (k : Int) < l.length) :
    Yld P n e h ⟨d, .load T x, t, pos, af, g⟩ (.int .u8 (byt l k)) := by
  have hk' : k < l.length := by omega
  refine Y_ldrow hT hD hx hr ?_
  rw [Nat.mul_one, byt_eq hk']
  simp [hk']
theorem Y_convs {k : IntKind} {k' : IntKind} {p : Int} (hT : P.underlying T = some (.int k)) (hT' : P.underlying T' = some (.int k')) (hx : ev e x = some (.int k p)) (hw : k'.wrap p = p) : Yld P n e h ⟨d, .convert T T' x, t, pos, af, g⟩ (.int k' p) := by
  have := Y_conv (P := P) (n := n) (h := h) (d := d) (t := t) (pos := pos) (af := af) (g := g) hT hT' hx
  rwa [hw] at this
theorem Bytes.cutb (hb : Bytes h v l) {p q : Int} (h0 : 0 ≤ p ∧ p ≤ q) (h1 : q ≤ l.length) : Bytes h (slcut 1 p.toNat q.toNat v) ((l.take q.toNat).drop p.toNat) := hb.cut (by omega) (by omega)
theorem Bytes.cutl (hb : Bytes h v l) {p : Int} (h1 : 0 ≤ p ∧ p ≤ l.length) : Bytes h (slcut 1 p.toNat l.length v) (l.drop p.toNat) := by
  have := hb.cut (lo := p.toNat) (hi := l.length) (by omega) (Nat.le_refl _)
  rwa [List.take_length] at this
theorem Bytes.cuth (hb : Bytes h v l) {q : Int} (h1 : 0 ≤ q ∧ q ≤ l.length) : Bytes h (slcut 1 0 q.toNat v) (l.take q.toNat) := by
  have := hb.cut (lo := 0) (hi := q.toNat) (Nat.zero_le _) (by omega)
  rwa [List.drop_zero] at this
end
end Go.Xp

/- make, copy, slice literals, []byte(s), library functions without a text: for the walks. -/
namespace Go.Xp

section
variable {σ : Std} {P : Program} {n : Nat} {Q : Exit → Act → World → Prop} {e : Env} {h : Heap} {ops : Array Oper} {rest : List Oper}
variable {d : Option Tmp} {t : TypeId} {pos : String} {af : Array Edge} {g : Option (Nat × Bool)}
variable {T T' E : TypeId} {x y : Operand} {v : Value} {z : Nat} {cs : List Value} {m : Nat} {l : List UInt8}

/-- The call of a library function that has no text. -/
theorem Y_ext {f : FuncId} {as : List Operand} {A : Array TypeId} {vs : List Value} (ha : evs e as = some vs) (hr : ∀ w, w.heap = h → (callFunc f vs.toArray).run P w = .ok (.value v) w) : Yld P n e h ⟨d, .call { callee := .value (.func f), args := as.toArray, argTypes := A }, t, pos, af, g⟩ v := fun w a hh he => by
  have h1 : as.toArray.map a.eval = vs.toArray := by rw [List.map_toArray, evs_map he as vs ha]
  have h2 : (execOp a.eval ⟨d, .call { callee := .value (.func f), args := as.toArray, argTypes := A }, t, pos, af, g⟩ : Sem Next) = callFunc f ((#[] ++ as.toArray.map a.eval) ++ #[]) := rfl
  rw [h2, h1, Array.append_empty, Array.empty_append]
  exact hr w hh

/-! ### Rows of bytes that the call itself makes -/
/-- Block 'b' holds just these bytes. -/
def Buf (h : Heap) (b : Nat) (l : List UInt8) : Prop := Blk h b (l.map bv)
theorem Buf.lt {b : Nat} (x : Buf h b l) : b < h.size := Blk.lt x
theorem Buf.ext {h' : Heap} {b : Nat} (x : Buf h b l) (y : Ext h h') : Buf h' b l := Blk.ext x y
theorem Buf.only {h' : Heap} {b : Nat} {bs : List Nat} (x : Buf h b l) (y : Only bs h h') (hn : b ∉ bs) : Buf h' b l := Blk.only x y hn
theorem Buf.bytes {b : Nat} (x : Buf h b l) {k : Nat} (hk : k = l.length) : Bytes h (.slice (some ⟨b, 0, none⟩) k k) l := by
  subst hk
  exact Row.of_blk x (Nat.le_refl _) (by simp) (fun _ _ hi => hi)
theorem Buf.own {b base : Nat} (x : Buf h b l) (hb : base ≤ b) {k : Nat} (hk : k = l.length) : Own h base 1 (.slice (some ⟨b, 0, none⟩) k k) k (l.map bv) := by
  subst hk
  exact Own.of_blk (extra := []) (by rw [List.append_nil]; exact x) hb (by simp) (by simp) (Nat.le_refl _)
/-- Behind a make: a new block. -/
structure Mk (h h' : Heap) (cs : List Value) : Prop where
  ext : Ext h h'
  blk : Blk h' h.size cs
theorem M_make {bytes : Nat} {z0 : Value} {lo hi : Operand} {kd kd' : IntKind} {p q : Int} (hT : P.underlying T = some (.slice E)) (hE : elemRow P E z bytes z0) (hl : ev e lo = some (.int kd p)) (hh : ev e hi = some (.int kd' q)) (hpq : p = q) (h0 : 0 ≤ p) (hb : bytes * p.toNat ≤ 281474976710656) (hb' : p ≤ 9223372036854775807) :
    Mks P n e h ⟨d, .makeSlice T lo hi, t, pos, af, g⟩ (fun u h' => u = .slice (some ⟨h.size, 0, none⟩) p.toNat p.toNat ∧ Mk h h' (madeCells z0.cells (p.toNat * z)).toList) := fun w a hw he => by
  subst hpq
  subst hw
  unfold elemRow at hE
  cases hi' : P.info? E with
  | none => rw [hi'] at hE; cases hE
  | some i =>
    rw [hi'] at hE
    simp only [Option.map_some, Option.some.injEq, Prod.mk.injEq] at hE
    obtain ⟨h1, h2, h3⟩ := hE
    obtain ⟨w', r1, r2, r3⟩ := run_make_full (P := P) w w.heap.size T E i z0 z hT hi' h3 h1 kd kd' p.toNat (by rw [h2]; exact hb) (by unfold maxLen; omega) (Nat.le_refl _)
    have hp : ((p.toNat : Nat) : Int) = p := Int.toNat_of_nonneg h0
    rw [hp] at r1
    refine ⟨_, w', by simp [execOp, he.eval hl, he.eval hh, r1], by unfold std; rw [r3.os, r3.tape, r3.output], rfl, ⟨⟨r3.size, fun k hk _ => r3.block k hk (by simp)⟩, ?_⟩⟩
    obtain ⟨k1, k2 | ⟨g', cap, cur, k2, k3, k4, k5, k6, k7, k8⟩⟩ := r2
    · cases k2.1
    · simp only [Value.slice.injEq, Option.some.injEq, Addr.mk.injEq] at k2
      obtain ⟨⟨rfl, -, -⟩, -, rfl⟩ := k2
      have : cur = (madeCells z0.cells (p.toNat * z)).toList.toArray := by
        rw [← k8, List.take_of_length_le (by simp [k7])]
      exact ⟨E, 0, 0, by rw [k4, this], fun i _ => by omega⟩
theorem madeCells_one (v : Value) (k : Nat) : (madeCells #[v] k).toList = List.replicate k v := by
  apply List.ext_getElem
  · simp [madeCells]
  · intro i h1 h2
    simp [madeCells, Nat.mod_one]
/-- make([]byte, p). -/
theorem M_makeb {lo hi : Operand} {kd kd' : IntKind} {p q : Int} (hT : P.underlying T = some (.slice E)) (hE : elemRow P E 1 1 (.int .u8 0)) (hl : ev e lo = some (.int kd p)) (hh : ev e hi = some (.int kd' q)) (hpq : p = q) (h0 : 0 ≤ p) (hb : p ≤ 281474976710656) :
    Mks P n e h ⟨d, .makeSlice T lo hi, t, pos, af, g⟩ (fun u h' => u = .slice (some ⟨h.size, 0, none⟩) p.toNat p.toNat ∧ Ext h h' ∧ Buf h' h.size (List.replicate p.toNat 0)) := fun w a hw he => by
  obtain ⟨v, w', k1, k2, k3, k4⟩ := M_make (z := 1) hT hE hl hh hpq h0 (by omega) (by omega) w a hw he
  refine ⟨v, w', k1, k2, k3, k4.ext, ?_⟩
  have := k4.blk
  unfold Buf
  rw [Nat.mul_one, show (Value.int .u8 0).cells = #[.int .u8 0] from rfl, madeCells_one] at this
  rw [List.map_replicate]; exact this

/-! ### copy -/
theorem M_copy' {u : Value} {b o k : Nat} {cap : Nat} {vs news : List Value} (hT : P.underlying T = some (.slice E)) (hE : (P.info? E).map (·.size) = some 1) (hx : ev e x = some (.slice (some ⟨b, o, none⟩) m cap)) (hy : ev e y = some u) (hlen : ∀ w, (Builtin.lenOf u).run P w = .ok k w)
    (hfc : ∀ w, w.heap = h → (Builtin.firstCells 1 (Nat.min k m) u).run P w = .ok news.toArray w) (hnl : news.length = Nat.min k m) (h1 : ∀ u ∈ news, u.oneCell' = true) (hb : Blk h b vs) (ho : o + m ≤ vs.length) :
    Mks P n e h ⟨d, .call { callee := .builtin .copy, args := #[x, y], argTypes := #[T, T'] }, t, pos, af, g⟩ (fun r h' => r = .int .i64 (Nat.min k m : Nat) ∧ Put h h' b (vs.take o ++ news ++ vs.drop (o + news.length))) := fun w a hw he => by
  have hmm : Nat.min k m ≤ m := Nat.min_le_right k m
  obtain ⟨w', k1, k2, k3⟩ := run_storeCells_put (P := P) news b o 0 w vs (hw ▸ hb) (by omega) h1
  refine ⟨.int .i64 (Nat.min k m : Nat), w', run_blt rfl ?_, k2, rfl, by simpa [hw] using k3⟩
  have h2 : (#[x, y].map a.eval) = #[.slice (some ⟨b, o, none⟩) m cap, u] := by simp [he.eval hx, he.eval hy]
  rw [h2]
  simp only [Builtin.copy_, List.getElem?_toArray, List.getElem?_cons_zero, List.getElem?_cons_succ, Sem.run_bind, run_underlying hT, Result.andThen_ok, hlen, run_sizeOf w hE, hfc w hw, k1, goInt, Sem.run_pure]
/-- copy(dst, s), s a text. -/
theorem M_copys {b o : Nat} {cap : Nat} {old : List UInt8} (hT : P.underlying T = some (.slice E)) (hE : (P.info? E).map (·.size) = some 1) (hx : ev e x = some (.slice (some ⟨b, o, none⟩) m cap)) (hy : ev e y = some (str l)) (hb : Buf h b old) (ho : o + m ≤ old.length) :
    Mks P n e h ⟨d, .call { callee := .builtin .copy, args := #[x, y], argTypes := #[T, T'] }, t, pos, af, g⟩ (fun r h' => r = .int .i64 (Nat.min l.length m : Nat) ∧ Only [b] h h' ∧ h'.size = h.size ∧ Buf h' b (old.take o ++ l.take m ++ old.drop (o + Nat.min l.length m))) := fun w a hw he => by
  have hsz : (⟨l.toArray⟩ : ByteArray).size = l.length := by simp [ByteArray.size]
  have hnl : ((l.take m).map bv).length = Nat.min l.length m := by simp [Nat.min_comm]
  obtain ⟨v, w', k1, k2, k3, k4⟩ := M_copy' (news := (l.take m).map bv) hT hE hx hy (fun w => by simp [Builtin.lenOf, hsz]) (fun w hw => by
      have e1 : (⟨l.toArray⟩ : ByteArray).extract 0 (Nat.min l.length m) = ⟨(l.take m).toArray⟩ := by
        rw [extract_list, List.drop_zero]; congr 2
        show l.take (min l.length m) = l.take m
        rw [List.take_eq_take_iff]; omega
      simp only [Builtin.firstCells, e1, Sem.run_pure]
      simp) hnl (fun u hu => by obtain ⟨b, _, rfl⟩ := List.mem_map.1 hu; rfl) hb (by simpa using ho) w a hw he
  refine ⟨v, w', k1, k2, k3, k4.only, k4.size, ?_⟩
  have := k4.blk
  rw [hnl] at this
  unfold Buf
  simpa using this
/-- copy(dst, b), b a slice of bytes. -/
theorem M_copyb {u : Value} {b o : Nat} {cap : Nat} {old : List UInt8} (hT : P.underlying T = some (.slice E)) (hE : (P.info? E).map (·.size) = some 1) (hx : ev e x = some (.slice (some ⟨b, o, none⟩) m cap)) (hy : ev e y = some u) (hu : Bytes h u l) (hb : Buf h b old) (ho : o + m ≤ old.length) :
    Mks P n e h ⟨d, .call { callee := .builtin .copy, args := #[x, y], argTypes := #[T, T'] }, t, pos, af, g⟩ (fun r h' => r = .int .i64 (Nat.min l.length m : Nat) ∧ Only [b] h h' ∧ h'.size = h.size ∧ Buf h' b (old.take o ++ l.take m ++ old.drop (o + Nat.min l.length m))) := fun w a hw he => by
  have hnl : ((l.take m).map bv).length = Nat.min l.length m := by simp [Nat.min_comm]
  obtain ⟨v, w', k1, k2, k3, k4⟩ := M_copy' (news := (l.take m).map bv) hT hE hx hy (fun w => lenOf_row hu w) (fun w hw => by
      obtain ⟨⟨a0, cap0, rfl, j1, j2, j3⟩, j4⟩ := hu
      have r : Row h 1 (.slice a0 (Nat.min l.length m) cap0) (Nat.min l.length m) ((l.take m).map bv) := by
        refine ⟨⟨a0, cap0, rfl, nt (Nat.min_le_left _ _) j1, j2, fun ad ha => ?_⟩, by simp [Nat.min_comm]⟩
        obtain ⟨i1, i3⟩ := j3 ad ha
        refine ⟨fun h0 => i1 (ntl h0 (Nat.min_le_left _ _)), fun i v hi => i3 i v ?_⟩
        rw [List.map_take, List.getElem?_take] at hi
        split at hi
        · exact hi
        · cases hi
      have h9 := firstCells_row (P := P) (v := .slice a0 (Nat.min l.length m) cap0) r w hw
      cases a0 <;> exact h9) hnl (fun u hu => by obtain ⟨b, _, rfl⟩ := List.mem_map.1 hu; rfl) hb (by simpa using ho) w a hw he
  refine ⟨v, w', k1, k2, k3, k4.only, k4.size, ?_⟩
  have := k4.blk
  rw [hnl] at this
  unfold Buf
  simpa using this

/-! ### []byte(s), []T{..} -/
/-- []T{..}: what the literal comes to is reckoned by the kernel. -/
theorem M_buildSlice {len : Nat} {ps : List (Nat × Operand)} {pv : List (Nat × Value)} {cells : List Value} (hps : ∀ a, EOk n e a → ps.map (fun (i, x) => (i, a.eval x)) = pv)
    (hf : ∀ w, (Instr.buildSlice T len pv.toArray).run P w = .ok (.slice (some ⟨w.heap.size, 0, none⟩) len len) { w with heap := w.heap.push (.cells cells.toArray E) }) :
    Mks P n e h ⟨d, .buildSlice T len ps.toArray, t, pos, af, g⟩ (fun u h' => u = .slice (some ⟨h.size, 0, none⟩) len len ∧ New h h' cells) := fun w a hw he => by
  subst hw
  refine ⟨_, { w with heap := w.heap.push (.cells cells.toArray E) }, ?_, rfl, rfl, new_push w.heap cells E⟩
  have hpa : (ps.toArray.map fun (i, x) => (i, a.eval x)) = pv.toArray := by rw [List.map_toArray, hps a he]
  simp only [execOp, Sem.run_bind, hpa, hf w, Result.andThen_ok, Sem.run_pure]
/-- T{..}. -/
theorem Y_build {ps : List (Nat × Operand)} {pv : List (Nat × Value)} (hps : ∀ a, EOk n e a → ps.map (fun (i, x) => (i, a.eval x)) = pv) (hf : ∀ w, (Instr.build T pv.toArray).run P w = .ok v w) :
    Yld P n e h ⟨d, .build T ps.toArray, t, pos, af, g⟩ v := fun w a hw he => by
  have hpa : (ps.toArray.map fun (i, x) => (i, a.eval x)) = pv.toArray := by rw [List.map_toArray, hps a he]
  simp only [execOp, Sem.run_bind, hpa, hf w, Result.andThen_ok, Sem.run_pure]
theorem evp {ps : List (Nat × Operand)} {is : List Nat} {os : List Operand} {vs : List Value} (hp : ps = is.zip os) (hv : evs e os = some vs) : ∀ a, EOk n e a → ps.map (fun (i, x) => (i, a.eval x)) = is.zip vs := fun a he => by
  have := evs_map he os vs hv
  subst hp; rw [← this]
  rw [List.zip_map_right]
  rfl
theorem Yb (v : Value) (is : List Nat) (os : List Operand) (vs : List Value) {ps : List (Nat × Operand)} (hp : ps = is.zip os := by exact rfl) (hv : evs e os = some vs := by exact rfl) (hf : ∀ w, (Instr.build T (is.zip vs).toArray).run P w = .ok v w := by intro _; kernel_rfl) : Yld P n e h ⟨d, .build T ps.toArray, t, pos, af, g⟩ v := Y_build (evp hp hv) hf
end
end Go.Xp
