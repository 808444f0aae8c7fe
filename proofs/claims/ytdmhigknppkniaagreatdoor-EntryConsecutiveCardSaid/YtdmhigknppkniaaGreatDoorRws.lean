/- Slices of structs, texts and numbers: each element a datum whose cells are known. -/
import Derived.Test.YtdmhigknppkniaaGreatDoorRune
set_option linter.unusedSimpArgs false
set_option linter.unusedVariables false
set_option linter.unusedSectionVars false
namespace Go.Xp
open MapKept

/-- How data of a type lie in cells: 'ok' what else is known of the memory behind them. -/
structure Sch (β : Type) where
  z : Nat
  pos : 0 < z
  cells : β → List Value
  len : ∀ x, (cells x).length = z
  ok : Heap → β → Prop
  one : ∀ {h : Heap} {x : β}, ok h x → ∀ u ∈ cells x, u.oneCell' = true
  only : ∀ {bs : List Nat} {h h' : Heap} {x : β}, ok h x → Only bs h h' → (∀ u ∈ cells x, ∀ b, blockOf u = some b → b ∉ bs) → ok h' x
  d : β
section
variable {β : Type} {S : Sch β}
theorem Sch.ext {h h' : Heap} {x : β} (o : S.ok h x) (y : Ext h h') : S.ok h' x := S.only o y (by simp)
/-- A slice of such data. -/
def Rows (S : Sch β) (h : Heap) (v : Value) (l : List β) : Prop := Row h S.z v l.length (l.flatMap S.cells) ∧ ∀ x ∈ l, S.ok h x
/-- A slice of such data that the call itself has made, from block 'base' on. -/
def RowsO (S : Sch β) (h : Heap) (base : Nat) (v : Value) (l : List β) : Prop := Own h base S.z v l.length (l.flatMap S.cells) ∧ ∀ x ∈ l, S.ok h x
theorem Rows.ext {h h' : Heap} {v : Value} {l : List β} (x : Rows S h v l) (y : Ext h h') : Rows S h' v l := ⟨x.1.ext y, fun b hb => S.ext (x.2 b hb) y⟩
theorem RowsO.ext {h h' : Heap} {base : Nat} {v : Value} {l : List β} (x : RowsO S h base v l) (y : Ext h h') : RowsO S h' base v l := ⟨x.1.ext y, fun b hb => S.ext (x.2 b hb) y⟩
theorem RowsO.rows {h : Heap} {base : Nat} {v : Value} {l : List β} (x : RowsO S h base v l) : Rows S h v l := ⟨x.1.row, x.2⟩
theorem RowsO.nil (S : Sch β) (h : Heap) (base : Nat) : RowsO S h base (.slice none 0 0) [] := ⟨Own.nil h base _, fun _ hx => by cases hx⟩
theorem Rows.nil (S : Sch β) (h : Heap) : Rows S h (.slice none 0 0) [] := ⟨Row.nil h _, fun _ hx => by cases hx⟩
theorem RowsO.low {h : Heap} {base base' : Nat} {v : Value} {l : List β} (o : RowsO S h base v l) (hb : base' ≤ base) : RowsO S h base' v l := by
  refine ⟨?_, o.2⟩
  obtain ⟨h1, h2 | ⟨g, cap, extra, rfl, hg, k⟩⟩ := o.1
  · exact ⟨h1, .inl h2⟩
  · exact ⟨h1, .inr ⟨g, cap, extra, rfl, nt hb hg, k⟩⟩
theorem RowsO.congr {h : Heap} {base : Nat} {v : Value} {l l' : List β} (o : RowsO S h base v l) (e : l = l') : RowsO S h base v l' := e ▸ o
theorem Rows.congr {h : Heap} {v : Value} {l l' : List β} (o : Rows S h v l) (e : l = l') : Rows S h v l' := e ▸ o
theorem flat_len (l : List β) : (l.flatMap S.cells).length = l.length * S.z := by
  induction l with
  | nil => simp
  | cons x l ih => rw [List.flatMap_cons, List.length_append, S.len, ih, List.length_cons, Nat.succ_mul]; omega
theorem flat_at : ∀ (l : List β) (i j : Nat), i < l.length → j < S.z → (l.flatMap S.cells)[i * S.z + j]? = (S.cells (l.getD i S.d))[j]?
  | x :: l, 0, j, _, hj => by
    rw [List.flatMap_cons, Nat.zero_mul, Nat.zero_add, List.getElem?_append_left (by rw [S.len]; exact hj)]; rfl
  | x :: l, i + 1, j, hi, hj => by
    rw [List.flatMap_cons, List.getElem?_append_right (by rw [S.len, Nat.succ_mul]; omega), S.len, show (i + 1) * S.z + j - S.z = i * S.z + j by rw [Nat.succ_mul]; omega, flat_at l i j (by simpa using hi) hj]
    simp
theorem flat_take (l : List β) (k : Nat) : (l.flatMap S.cells).take (k * S.z) = (l.take k).flatMap S.cells := by
  induction l generalizing k with
  | nil => simp
  | cons x l ih =>
    cases k with
    | zero => simp
    | succ k => rw [List.flatMap_cons, List.take_append, S.len, List.take_of_length_le (by rw [S.len, Nat.succ_mul]; omega), show (k + 1) * S.z - S.z = k * S.z by rw [Nat.succ_mul]; omega, ih k, List.take_succ_cons, List.flatMap_cons]
theorem flat_drop (l : List β) (k : Nat) : (l.flatMap S.cells).drop (k * S.z) = (l.drop k).flatMap S.cells := by
  induction l generalizing k with
  | nil => simp
  | cons x l ih =>
    cases k with
    | zero => simp
    | succ k => rw [List.flatMap_cons, List.drop_append, S.len, List.drop_of_length_le (by rw [S.len, Nat.succ_mul]; omega), show (k + 1) * S.z - S.z = k * S.z by rw [Nat.succ_mul]; omega, ih k, List.drop_succ_cons, List.nil_append]
theorem Rows.cut {h : Heap} {v : Value} {l : List β} (x : Rows S h v l) {lo hi : Nat} (h1 : lo ≤ hi) (h2 : hi ≤ l.length) : Rows S h (slcut S.z lo hi v) ((l.take hi).drop lo) := by
  refine ⟨?_, fun b hb => x.2 b (List.mem_of_mem_take (List.mem_of_mem_drop hb))⟩
  have := Row.cut x.1 h1 h2
  rw [List.length_drop, List.length_take, Nat.min_eq_left h2]
  rwa [flat_take, flat_drop] at this
theorem Rows.cutl {h : Heap} {v : Value} {l : List β} (x : Rows S h v l) {lo : Nat} (h1 : lo ≤ l.length) : Rows S h (slcut S.z lo l.length v) (l.drop lo) := by
  have := x.cut h1 (Nat.le_refl _)
  rwa [List.take_length] at this
theorem Rows.cuth {h : Heap} {v : Value} {l : List β} (x : Rows S h v l) {hi : Nat} (h1 : hi ≤ l.length) : Rows S h (slcut S.z 0 hi v) (l.take hi) := by
  have := x.cut (Nat.zero_le _) h1
  rwa [List.drop_zero] at this
theorem Rows.okat {h : Heap} {v : Value} {l : List β} (x : Rows S h v l) {k : Nat} (hk : k < l.length) : S.ok h (l.getD k S.d) := by
  refine x.2 _ ?_
  rw [List.getD_eq_getElem?_getD, List.getElem?_eq_getElem hk]
  exact List.getElem_mem hk

section
variable {P : Program} {n : Nat} {e : Env} {h : Heap} {d : Option Tmp} {t : TypeId} {pos : String} {af : Array Edge} {g : Option (Nat × Bool)}
variable {T T' E : TypeId} {x y : Operand} {v u : Value} {z m k off : Nat} {l l2 : List β} {D : TypeDesc}
/-- '&l[i]'. -/
theorem Y_idxr {kd : IntKind} {p : Int} (hT : P.underlying T = some (.slice E)) (hE : (P.info? E).map (·.size) = some z) (hz : z = S.z) (hx : ev e x = some v) (hy : ev e y = some (.int kd p)) (hr : Rows S h v l) (h0 : 0 ≤ p) (h1 : p < l.length) :
    Yld P n e h ⟨d, .indexAddr T x y, t, pos, af, g⟩ (.pointer (some (elemAddr v (p.toNat * z)))) := Y_idx hT hE hx hy (hz ▸ hr.1) h0 h1
/-- A field behind an element's address. -/
theorem Y_fldr {F f : Nat} {ad : Nat} (hf : fld P F f = some off) (hx : ev e x = some (.pointer (some (elemAddr v ad)))) (hr : Rows S h v l) (hk : k < l.length) : Yld P n e h ⟨d, .fieldAddr F x f, t, pos, af, g⟩ (.pointer (some (elemAddr v (ad + off)))) := by
  have hs : (elemAddr v ad).spot = none := by unfold elemAddr; split <;> rfl
  have := Y_fieldAddr (P := P) (n := n) (h := h) (d := d) (t := t) (pos := pos) (af := af) (g := g) hf hx hs
  obtain ⟨a0, cap, rfl, _, h2, h3⟩ := hr.1.ex
  cases a0 with
  | none => have := h2 rfl; omega
  | some a =>
    have e1 : (⟨(elemAddr (.slice (some a) l.length cap) ad).block, (elemAddr (.slice (some a) l.length cap) ad).off + off, none⟩ : Addr) = elemAddr (.slice (some a) l.length cap) (ad + off) := by simp [elemAddr, Nat.add_assoc]
    rw [e1] at this; exact this
/-- A cell of an element. -/
theorem Y_ldr1 (hT : P.underlying T = some D) (hD : isAggD D = false) (hz : z = S.z) (hx : ev e x = some (.pointer (some (elemAddr v (k * z + off))))) (hr : Rows S h v l) (hk : k < l.length) (hu : (S.cells (l.getD k S.d))[off]? = some u) :
    Yld P n e h ⟨d, .load T x, t, pos, af, g⟩ u := by
  subst hz
  refine Y_ldrow hT hD hx hr.1 ?_
  have hoff : off < S.z := by rw [← S.len (l.getD k S.d)]; exact (List.getElem?_eq_some_iff.1 hu).1
  rw [flat_at l k off hk hoff]; exact hu
theorem Y_ldr0 (hT : P.underlying T = some D) (hD : isAggD D = false) (hz : z = S.z) (hx : ev e x = some (.pointer (some (elemAddr v (k * z))))) (hr : Rows S h v l) (hk : k < l.length) (hu : (S.cells (l.getD k S.d))[0]? = some u) :
    Yld P n e h ⟨d, .load T x, t, pos, af, g⟩ u := Y_ldr1 (off := 0) hT hD hz hx hr hk hu
/-- A whole element. -/
theorem Y_ldrA {us : List Value} (hT : P.underlying T = some D) (hD : isAggD D = true) (hs : (P.info? T).map (·.size) = some us.length) (hz : z = S.z) (hx : ev e x = some (.pointer (some (elemAddr v (k * z + off))))) (hr : Rows S h v l) (hk : k < l.length) (hu : ((S.cells (l.getD k S.d)).drop off).take us.length = us) :
    Yld P n e h ⟨d, .load T x, t, pos, af, g⟩ (.agg us.toArray) := by
  subst hz
  have hsp : (elemAddr v (k * S.z + off)).spot = none := by unfold elemAddr; split <;> rfl
  refine Y_ldagg hT hD hs hx hsp (fun i u hi => ?_)
  have hi' := hi
  rw [← hu, List.getElem?_take] at hi
  split at hi
  · rw [List.getElem?_drop] at hi
    have hiz : off + i < S.z := by rw [← S.len (l.getD k S.d)]; exact (List.getElem?_eq_some_iff.1 hi).1
    have := hr.1.at (k := k * S.z + (off + i)) (u := u) (by rw [flat_at l k _ hk hiz]; exact hi)
    obtain ⟨a0, cap, rfl, _, h2, h3⟩ := hr.1.ex
    cases a0 with
    | none => have := h2 rfl; omega
    | some ad => simpa [elemAddr, Nat.add_assoc] using this.2
  · cases hi
theorem Y_ldrA0 {us : List Value} (hT : P.underlying T = some D) (hD : isAggD D = true) (hs : (P.info? T).map (·.size) = some us.length) (hz : z = S.z) (hx : ev e x = some (.pointer (some (elemAddr v (k * z))))) (hr : Rows S h v l) (hk : k < l.length) (hu : ((S.cells (l.getD k S.d)).drop 0).take us.length = us) :
    Yld P n e h ⟨d, .load T x, t, pos, af, g⟩ (.agg us.toArray) := Y_ldrA (off := 0) hT hD hs hz hx hr hk hu
theorem Y_slnilr (hT : P.underlying T = some (.slice E)) (hx : ev e x = some v) (hb : Rows S h v l) : Yld P n e h ⟨d, .binOp .eql T x (.const (.slice none 0 0)) T', t, pos, af, g⟩ (.bool (isNilS v)) := fun w a _ he => by
  obtain ⟨⟨a0, cap, rfl, k1, k2, k3⟩, k4⟩ := hb.1
  have h1 := Lib.run_eql_slice_nil (P := P) w T E a0 l.length cap 0 0 hT
  have h2 : isNilS (.slice a0 l.length cap) = a0.isNone := by cases a0 <;> rfl
  rw [h2]
  have h3 : a.eval (.const (.slice none 0 0)) = .slice none 0 0 := rfl
  simp only [execOp, he.eval hx, h3, eqGuard, Sem.run_bind, Sem.run_pure, Result.andThen_ok, h1, Bool.not_true, Bool.false_eq_true, if_false, ite_self]
theorem isNil_nilr (hb : Rows S h v l) (hn : isNilS v = true) : l = [] := by
  obtain ⟨⟨a0, cap, rfl, k1, k2, k3⟩, k4⟩ := hb.1
  cases a0 with
  | none => have := k2 rfl; exact List.eq_nil_of_length_eq_zero (by omega)
  | some ad => cases hn
theorem Y_lenr (hT : P.underlying T = some (.slice E)) (hx : ev e x = some v) (hr : Rows S h v l) : Yld P n e h ⟨d, .call { callee := .builtin .len, args := #[x], argTypes := #[T] }, t, pos, af, g⟩ (.int .i64 (l.length : Int)) := Y_len hT hx hr.1
/-- What an append leaves. -/
structure AppR (S : Sch β) (h h' : Heap) (base : Nat) (v u : Value) (l : List β) : Prop where
  own : RowsO S h' base u l
  only : Only (blockOf v).toList h h'
  ge : ∀ b ∈ (blockOf v).toList, base ≤ b
theorem M_appr {bytes base : Nat} {z0 : Value} (hT : P.underlying T = some (.slice E)) (hE : elemRow P E z bytes z0) (hz : z = S.z) (hzz : z0.cells.size = z) (hbp : 0 < bytes) (hs : ev e x = some v) (hx : ev e y = some u) (hown : RowsO S h base v l) (hr : Rows S h u l2)
    (hbase : base ≤ h.size) (hb : (l.length + l2.length) * bytes ≤ 140737488355328) (hf1 : ∀ x ∈ l, ∀ u ∈ S.cells x, ∀ b, blockOf u = some b → b ∉ (blockOf v).toList) (hf2 : ∀ x ∈ l2, ∀ u ∈ S.cells x, ∀ b, blockOf u = some b → b ∉ (blockOf v).toList) :
    Mks P n e h ⟨d, .call { callee := .builtin .append, args := #[x, y], argTypes := #[T, T] }, t, pos, af, g⟩ (fun r h' => AppR S h h' base v r (l ++ l2)) := fun w a hh he => by
  subst hz
  have h1 : ∀ u ∈ l2.flatMap S.cells, u.oneCell' = true := fun u hu => by
    obtain ⟨x, hx0, hx⟩ := List.mem_flatMap.1 hu
    exact S.one (hr.2 x hx0) u hx
  obtain ⟨r, w', k1, k2, k3⟩ := M_append (P := P) (n := n) (d := d) (t := t) (pos := pos) (af := af) (g := g) hT hE hzz hbp hs hx hown.1 hr.1 h1 hbase hb w a hh he
  refine ⟨r, w', k1, k2, ⟨?_, fun x hx => ?_⟩, k3.only, fun b hb => (Own.lt hown.1 b (by simpa using hb)).1⟩
  · have := k3.own
    rw [List.flatMap_append, List.length_append]; exact this
  · rcases List.mem_append.1 hx with hx | hx
    · exact S.only (hown.2 x hx) k3.only (hf1 x hx)
    · exact S.only (hr.2 x hx) k3.only (hf2 x hx)
/-- Data without slices among their cells. -/
def NoSl (S : Sch β) : Prop := ∀ x, ∀ u ∈ S.cells x, blockOf u = none
theorem M_appr0 (ns : NoSl S) {bytes base : Nat} {z0 : Value} (hT : P.underlying T = some (.slice E)) (hE : elemRow P E z bytes z0) (hz : z = S.z) (hzz : z0.cells.size = z) (hbp : 0 < bytes) (hs : ev e x = some v) (hx : ev e y = some u) (hown : RowsO S h base v l) (hr : Rows S h u l2)
    (hbase : base ≤ h.size) (hb : (l.length + l2.length) * bytes ≤ 140737488355328) :
    Mks P n e h ⟨d, .call { callee := .builtin .append, args := #[x, y], argTypes := #[T, T] }, t, pos, af, g⟩ (fun r h' => AppR S h h' base v r (l ++ l2)) :=
  M_appr hT hE hz hzz hbp hs hx hown hr hbase hb (fun x _ u hu b hb => by rw [ns x u hu] at hb; cases hb) (fun x _ u hu b hb => by rw [ns x u hu] at hb; cases hb)
/-- A literal of such data. -/
theorem M_litr {len : Nat} {ps : List (Nat × Operand)} {pv : List (Nat × Value)} {cells : List Value} (hps : ∀ a, EOk n e a → ps.map (fun (i, x) => (i, a.eval x)) = pv) (hl : l.length = len) (hc : cells = l.flatMap S.cells)
    (hf : ∀ w, (Instr.buildSlice T len pv.toArray).run P w = .ok (.slice (some ⟨w.heap.size, 0, none⟩) len len) { w with heap := w.heap.push (.cells cells.toArray E) }) (hok : ∀ x ∈ l, S.ok h x) :
    Mks P n e h ⟨d, .buildSlice T len ps.toArray, t, pos, af, g⟩ (fun u h' => RowsO S h' h.size u l ∧ Ext h h') := fun w a hh he => by
  subst hc
  obtain ⟨r, w', k1, k2, rfl, k4⟩ := M_buildSlice (P := P) (n := n) (d := d) (t := t) (pos := pos) (af := af) (g := g) (E := E) hps hf w a hh he
  refine ⟨_, w', k1, k2, ⟨?_, fun x hx => S.ext (hok x hx) k4.ext⟩, k4.ext⟩
  subst hl
  refine ⟨flat_len l, .inr ⟨h.size, l.length, [], rfl, Nat.le_refl _, by rw [List.append_nil]; exact k4.blk, by rw [List.append_nil]; exact flat_len l, Nat.le_refl _⟩⟩
end
end

/-! ### Texts and numbers -/
def strS : Sch (List UInt8) where
  z := 1
  pos := by decide
  cells l := [str l]
  len _ := rfl
  ok _ _ := True
  one _ u hu := by rw [List.mem_singleton.1 hu]; rfl
  only _ _ _ := trivial
  d := []
def intS : Sch Int where
  z := 1
  pos := by decide
  cells p := [.int .i64 p]
  len _ := rfl
  ok _ _ := True
  one _ u hu := by rw [List.mem_singleton.1 hu]; rfl
  only _ _ _ := trivial
  d := 0
theorem Cls.rowsS {h : Heap} {b n : Nat} {l : List (List UInt8)} (x : Cls h b (l.map str)) (hn : n = l.length) (h0 : 0 < n) : Rows strS h (.slice (some ⟨b, 0, none⟩) n n) l := by
  subst hn
  have e : ∀ l : List (List UInt8), l.flatMap strS.cells = l.map str := fun l => by
    show l.flatMap (fun l => [str l]) = _
    induction l with
    | nil => rfl
    | cons a r ih => simp [List.flatMap_cons, ih]
  refine ⟨⟨⟨some ⟨b, 0, none⟩, l.length, rfl, Nat.le_refl _, (fun h => by cases h), ?_⟩, ?_⟩, fun _ _ => trivial⟩
  · intro ad ha
    cases ha
    refine ⟨fun _ => ⟨rfl, x.1⟩, fun i u hi => ?_⟩
    rw [e] at hi
    simpa using x.2 i u hi
  · rw [e]; show _ = l.length * 1; simp
structure Rec where
  key : List UInt8
  val : List UInt8
  deriving DecidableEq
def recS : Sch Rec where
  z := 2
  pos := by decide
  cells r := [str r.key, str r.val]
  len _ := rfl
  ok _ _ := True
  one _ u hu := by simp at hu; rcases hu with rfl | rfl <;> rfl
  only _ _ _ := trivial
  d := ⟨[], []⟩
structure Entr where
  kind : Int
  path : List UInt8
  mode : Int
  target : List UInt8
  size : Int
  deriving DecidableEq
def entS : Sch Entr where
  z := 5
  pos := by decide
  cells x := [.int .i64 x.kind, str x.path, .int .i64 x.mode, str x.target, .int .i64 x.size]
  len _ := rfl
  ok _ _ := True
  one _ u hu := by simp at hu; rcases hu with rfl | rfl | rfl | rfl | rfl <;> rfl
  only _ _ _ := trivial
  d := ⟨0, [], 0, [], 0⟩
structure Nod where
  kind : Int
  path : List UInt8
  mode : Int
  target : List UInt8
  dv : Value
  data : List UInt8
  cls : Int
structure Mem where
  kind : Int
  path : List UInt8
  mode : Int
  target : List UInt8
  size : Int
  dv : Value
  data : List UInt8
theorem Bytes.cell1 {h : Heap} {v : Value} {l : List UInt8} (b : Bytes h v l) : v.oneCell' = true := by
  obtain ⟨⟨a, cap, rfl, _⟩, _⟩ := b; rfl
theorem nsRec : NoSl recS := fun x u hu => by simp [recS] at hu; rcases hu with rfl | rfl <;> rfl
theorem nsEnt : NoSl entS := fun x u hu => by simp [entS] at hu; rcases hu with rfl | rfl | rfl | rfl | rfl <;> rfl
theorem nsStr : NoSl strS := fun x u hu => by simp [strS] at hu; rw [hu]; rfl
theorem nsInt : NoSl intS := fun x u hu => by simp [intS] at hu; rw [hu]; rfl
def at_rec (l : List Rec) (k : Nat) : Rec := l.getD k recS.d
def at_ent (l : List Entr) (k : Nat) : Entr := l.getD k entS.d
def at_str (l : List (List UInt8)) (k : Nat) : List UInt8 := l.getD k strS.d
def at_int (l : List Int) (k : Nat) : Int := l.getD k intS.d
end Go.Xp
