/- Appending to an empty row without room: nothing that stood before is written. -/
import Derived.Test.YtdmhigknppkniaaGreatDoorRws
set_option linter.unusedSimpArgs false
set_option linter.unusedVariables false
set_option linter.unusedSectionVars false
namespace Go.Xp

theorem run_append0 {P : Program} {T E ty : TypeId} {i : TypeInfo} {z0 x : Value} {z m : Nat} {a0 : Option Addr} {news : List Value} (h : Heap) (w : World) (hh : w.heap = h)
    (hT : P.underlying T = some (.slice E)) (hi : P.info? E = some i) (hz : i.size = z) (hz0 : i.zero = some z0) (hzz : z0.cells.size = z)
    (hlen : ∀ w, (Builtin.lenOf x).run P w = .ok m w) (hx : ∀ w, w.heap = h → (Builtin.firstCells z m x).run P w = .ok news.toArray w) (hnl : news.length = m * z)
    (hb : m * i.bytes ≤ 140737488355328) (hbp : 0 < i.bytes) :
    ∃ v' w', (Builtin.append_ #[T, T] ty #[.slice a0 0 0, x]).run P w = .ok v' w' ∧ std w' = std w ∧ Ext h w'.heap ∧ ((m = 0 ∧ v' = .slice a0 0 0) ∨ Own w'.heap h.size z v' m news) := by
  have hold : ∀ w, (Builtin.firstCells z 0 (.slice a0 0 0)).run P w = .ok #[] w := by
    intro w; cases a0 <;> simp [Builtin.firstCells, loadCells, loadCellsFrom]
  by_cases hm : m = 0
  · subst hm
    have hn0 : news = [] := List.eq_nil_of_length_eq_zero (by simpa using hnl)
    subst hn0
    refine ⟨.slice a0 0 0, w, ?_, rfl, hh ▸ Ext.refl _, .inl ⟨rfl, rfl⟩⟩
    have hs0 : ∀ (q : Addr) w, (storeCells q ([] : List Value)).run P w = .ok () w := by
      intro q w; simp [storeCells]
    cases a0 with
    | none => simp only [Builtin.append_, List.getElem?_toArray, List.getElem?_cons_zero, List.getElem?_cons_succ, Sem.run_bind, run_underlying hT, Result.andThen_ok, run_sizeOf w (show (P.info? E).map (·.size) = some z by rw [hi]; simp [hz]), Sem.run_pure, Bool.false_eq_true, if_false, Sem.run_ite, hlen, Nat.zero_add, Nat.le_refl, if_true, Bool.not_false, hx w hh]
    | some ad => simp only [Builtin.append_, List.getElem?_toArray, List.getElem?_cons_zero, List.getElem?_cons_succ, Sem.run_bind, run_underlying hT, Result.andThen_ok, run_sizeOf w (show (P.info? E).map (·.size) = some z by rw [hi]; simp [hz]), Sem.run_pure, Bool.false_eq_true, if_false, Sem.run_ite, hlen, Nat.zero_add, Nat.le_refl, if_true, Bool.not_false, hx w hh, hs0, Result.andThen_ok]
  · have hroom : ¬ 0 + m ≤ 0 := by omega
    have hns : Builtin.nextslicecap (0 + m) 0 * i.bytes ≤ 281474976710656 := by
      have := nextslicecap_le (need := 0 + m) (old := 0) (by omega)
      have h2 : Builtin.nextslicecap (0 + m) 0 * i.bytes ≤ 2 * (0 + m) * i.bytes := Nat.mul_le_mul_right _ this
      rw [Nat.mul_assoc, Nat.zero_add] at h2
      rw [Nat.zero_add]; omega
    have hnm : m ≤ 140737488355328 := nt (Nat.le_mul_of_pos_right _ hbp) hb
    obtain ⟨newCap, hnc, w1, hch, hw1, hstd⟩ : ∃ newCap, 0 + m ≤ newCap ∧ ∃ w1, (choose (.appendCap (0 + m) 0 E)).run P w = .ok newCap w1 ∧ w1.heap = h ∧ std w1 = std w := by
      refine ⟨(0 + m) + w.tape w.drawn (.appendCap (0 + m) 0 E) % (2 ^ 63 - (0 + m)), by omega, { w with drawn := w.drawn + 1 }, ?_, hh, rfl⟩
      simp [choose, Sem.run, Question.forced, Question.cut]
    have e5 : ¬ (Builtin.nextslicecap (0 + m) 0 * i.bytes > 2 ^ 48) := by
      have : (2 : Nat) ^ 48 = 281474976710656 := by decide
      omega
    refine ⟨.slice (some ⟨h.size, 0, none⟩) (0 + m) newCap, { w1 with heap := w1.heap.push (.cells ((#[] : Array Value) ++ news.toArray ++ Builtin.zeroCells z0.cells (newCap - (0 + m))) E) }, ?_, hstd, ?_, .inr ?_⟩
    · have hzv : ∀ w, (zeroValue E).run P w = .ok z0 w := by intro w; simp [zeroValue, typeInfo, hi, hz0]
      simp only [Builtin.append_, List.getElem?_toArray, List.getElem?_cons_zero, List.getElem?_cons_succ, Sem.run_bind, run_underlying hT, Result.andThen_ok, run_sizeOf w (show (P.info? E).map (·.size) = some z by rw [hi]; simp [hz]), Sem.run_pure, Bool.false_eq_true, Sem.run_ite, if_false, hlen, if_neg hroom, run_typeInfo w hi, run_typeInfo w1 hi, hch, run_askRoom, hold w1, hx w1 hw1, hzv, run_newRow, hw1, Bool.not_false, if_true]
      have e6 : ¬ (((0 + m : Nat) : Int) > IntKind.i64.max ∧ (False ∨ i.bytes = 0)) := by rintro ⟨_, h | h⟩ <;> omega
      rw [if_neg e6, if_neg e5]
    · simp only [hw1]
      exact (heap_push h _).1
    · have hzl : (Builtin.zeroCells z0.cells (newCap - (0 + m))).toList.length = (newCap - (0 + m)) * z := by
        simp [Builtin.zeroCells, hzz]
      have hpn := new_push h ([] ++ news ++ (Builtin.zeroCells z0.cells (newCap - (0 + m))).toList) E
      have e7 : ([] ++ news ++ (Builtin.zeroCells z0.cells (newCap - (0 + m))).toList).toArray = (#[] : Array Value) ++ news.toArray ++ Builtin.zeroCells z0.cells (newCap - (0 + m)) := by simp
      rw [e7] at hpn
      simp only [hw1]
      have hb1 := hpn.blk
      rw [List.nil_append] at hb1
      rw [Nat.zero_add]
      rw [Nat.zero_add] at hb1 hzl hnc
      refine Own.of_blk hb1 (Nat.le_refl _) hnl ?_ hnc
      rw [List.length_append, hnl, hzl, ← Nat.add_mul]
      congr 1; omega

section
variable {P : Program} {n : Nat} {e : Env} {h : Heap} {d : Option Tmp} {t : TypeId} {pos : String} {af : Array Edge} {g : Option (Nat × Bool)}
variable {T E : TypeId} {x y : Operand} {v u : Value} {β : Type} {S : Sch β} {l2 : List β} {z base : Nat}
/-- An empty row of the call's own, without room. -/
structure RowsE (S : Sch β) (h : Heap) (base : Nat) (v : Value) : Prop where
  own : RowsO S h base v []
  cap : capOf v = 0
theorem RowsE.ext {h' : Heap} (x : RowsE S h base v) (y : Ext h h') : RowsE S h' base v := ⟨x.own.ext y, x.cap⟩
theorem RowsE.low {base' : Nat} (x : RowsE S h base v) (hb : base' ≤ base) : RowsE S h base' v := ⟨x.own.low hb, x.cap⟩
theorem M_litr0 {len : Nat} {cells : List Value} (hl : 0 = len) (hc : cells = [])
    (hf : ∀ w, (Instr.buildSlice T len #[]).run P w = .ok (.slice (some ⟨w.heap.size, 0, none⟩) len len) { w with heap := w.heap.push (.cells cells.toArray E) }) :
    Mks P n e h ⟨d, .buildSlice T len #[], t, pos, af, g⟩ (fun u h' => RowsE S h' h.size u ∧ Ext h h') := fun w a hh he => by
  subst hc
  subst hl
  obtain ⟨r, w', k1, k2, rfl, k4⟩ := M_buildSlice (P := P) (n := n) (d := d) (t := t) (pos := pos) (af := af) (g := g) (E := E) (ps := []) (pv := []) (cells := []) (fun _ _ => rfl) hf w a hh he
  refine ⟨_, w', k1, k2, ⟨⟨⟨by simp, .inr ⟨h.size, 0, [], rfl, Nat.le_refl _, k4.blk, by simp, Nat.le_refl _⟩⟩, fun _ hx => by cases hx⟩, rfl⟩, k4.ext⟩
theorem M_appe {bytes : Nat} {z0 : Value} (hT : P.underlying T = some (.slice E)) (hE : elemRow P E z bytes z0) (hz : z = S.z) (hzz : z0.cells.size = z) (hbp : 0 < bytes) (hs : ev e x = some v) (hx : ev e y = some u) (hv : RowsE S h base v) (hr : Rows S h u l2)
    (hbase : base ≤ h.size) (hb : l2.length * bytes ≤ 140737488355328) :
    Mks P n e h ⟨d, .call { callee := .builtin .append, args := #[x, y], argTypes := #[T, T] }, t, pos, af, g⟩ (fun r h' => RowsO S h' base r l2 ∧ Ext h h') := fun w a hh he => by
  subst hz
  unfold elemRow at hE
  cases hi : P.info? E with
  | none => rw [hi] at hE; cases hE
  | some i =>
    rw [hi] at hE
    simp only [Option.map_some, Option.some.injEq, Prod.mk.injEq] at hE
    obtain ⟨hz, hby, hz0⟩ := hE
    obtain ⟨⟨⟨h1, hcase⟩, hok⟩, hcap⟩ := hv
    have hform : ∃ a0, v = .slice a0 0 0 := by
      rcases hcase with ⟨rfl, -⟩ | ⟨g, cap, extra, rfl, -⟩
      · exact ⟨none, rfl⟩
      · simp only [capOf] at hcap
        subst hcap
        exact ⟨_, rfl⟩
    obtain ⟨a0, rfl⟩ := hform
    obtain ⟨v', w', k1, k2, k3, k4⟩ := run_append0 (P := P) (ty := t) (a0 := a0) h w hh hT hi hz hz0 hzz (lenOf_row hr.1) (firstCells_row hr.1) hr.1.len (by rw [hby]; exact hb) (by rw [hby]; exact hbp)
    refine ⟨v', w', run_blt rfl ?_, k2, ?_, k3⟩
    · simpa [he.eval hs, he.eval hx] using k1
    · rcases k4 with ⟨hm, rfl⟩ | k4
      · have : l2 = [] := List.eq_nil_of_length_eq_zero hm
        subst this
        exact RowsO.ext ⟨⟨h1, hcase⟩, hok⟩ k3
      · exact RowsO.low ⟨k4, fun x hx => S.ext (hr.2 x hx) k3⟩ hbase
end
end Go.Xp

/- Appends that tell where the new row lies; rows of the call's own that stand beside each other. -/
namespace Go.Xp

section
variable {P : Program} {n : Nat} {e : Env} {h : Heap} {d : Option Tmp} {t : TypeId} {pos : String} {af : Array Edge} {g : Option (Nat × Bool)}
variable {T E : TypeId} {x y : Operand} {v u : Value} {β : Type} {S : Sch β} {z base : Nat}
theorem lies_of {h : Heap} {r v : Value} (x : blockOf r = blockOf v ∨ blockOf r = some h.size) : ∀ b ∈ (blockOf r).toList, b ∈ (blockOf v).toList ∨ h.size ≤ b := fun b hb => by
  rcases x with x | x
  · rw [x] at hb; exact .inl hb
  · rw [x] at hb
    have : b = h.size := by simpa using hb
    exact .inr (by omega)
theorem M_apprL {l l2 : List β} (ns : NoSl S) {bytes : Nat} {z0 : Value} (hT : P.underlying T = some (.slice E)) (hE : elemRow P E z bytes z0) (hz : z = S.z) (hzz : z0.cells.size = z) (hbp : 0 < bytes) (hs : ev e x = some v) (hx : ev e y = some u) (hown : RowsO S h base v l) (hr : Rows S h u l2)
    (hbase : base ≤ h.size) (hb : (l.length + l2.length) * bytes ≤ 140737488355328) :
    Mks P n e h ⟨d, .call { callee := .builtin .append, args := #[x, y], argTypes := #[T, T] }, t, pos, af, g⟩ (fun r h' => AppR S h h' base v r (l ++ l2) ∧ ∀ b ∈ (blockOf r).toList, b ∈ (blockOf v).toList ∨ h.size ≤ b) := fun w a hh he => by
  subst hz
  have h1 : ∀ u ∈ l2.flatMap S.cells, u.oneCell' = true := fun u hu => by
    obtain ⟨x, hx0, hx⟩ := List.mem_flatMap.1 hu
    exact S.one (hr.2 x hx0) u hx
  obtain ⟨r, w', k1, k2, k3⟩ := M_append (P := P) (n := n) (d := d) (t := t) (pos := pos) (af := af) (g := g) hT hE hzz hbp hs hx hown.1 hr.1 h1 hbase hb w a hh he
  refine ⟨r, w', k1, k2, ⟨⟨?_, fun x hx => ?_⟩, k3.only, fun b hb => (Own.lt hown.1 b (by simpa using hb)).1⟩, lies_of k3.lies⟩
  · have := k3.own
    rw [List.flatMap_append, List.length_append]; exact this
  · rcases List.mem_append.1 hx with hx | hx
    · exact S.only (hown.2 x hx) k3.only (fun u hu b hb => by rw [ns x u hu] at hb; cases hb)
    · exact S.only (hr.2 x hx) k3.only (fun u hu b hb => by rw [ns x u hu] at hb; cases hb)
theorem M_appbL {l l2 : List UInt8} (hT : P.underlying T = some (.slice E)) (hE : elemRow P E 1 1 (.int .u8 0)) (hs : ev e x = some v) (hx : ev e y = some u) (hown : OwnB h base v l) (hr : Bytes h u l2) (hbase : base ≤ h.size) (hb : l.length + l2.length ≤ 140737488355328) :
    Mks P n e h ⟨d, .call { callee := .builtin .append, args := #[x, y], argTypes := #[T, T] }, t, pos, af, g⟩ (fun r h' => AppB h h' base v r (l ++ l2) ∧ ∀ b ∈ (blockOf r).toList, b ∈ (blockOf v).toList ∨ h.size ≤ b) := fun w a hh he => by
  obtain ⟨r, w', k1, k2, k3⟩ := M_append (P := P) (n := n) (d := d) (t := t) (pos := pos) (af := af) (g := g) hT hE rfl (by decide) hs hx hown hr (fun u hu => by obtain ⟨b, _, rfl⟩ := List.mem_map.1 hu; rfl) hbase (by omega) w a hh he
  refine ⟨r, w', k1, k2, ⟨?_, k3.only, hown.ge⟩, lies_of k3.lies⟩
  have := k3.own
  unfold OwnB
  rw [List.map_append, List.length_append]; exact this
/-- Two slices that lie in blocks apart. -/
def Dj (u v : Value) : Prop := ∀ b ∈ (blockOf u).toList, b ∉ (blockOf v).toList
theorem Dj.symm {u v : Value} (x : Dj u v) : Dj v u := fun b hb hc => x b hc hb
theorem Dj.nil {u : Value} : Dj (.slice none 0 0) u := fun b hb => by simp [blockOf] at hb
/-- The first grows; the second stood on the heap ahead. -/
theorem Dj.grow {u u' w : Value} {m : Nat} (x : Dj u w) (l : ∀ b ∈ (blockOf u').toList, b ∈ (blockOf u).toList ∨ m ≤ b) (lt : ∀ b ∈ (blockOf w).toList, b < m) : Dj u' w := fun b hb hc => by
  rcases l b hb with q | q
  · exact x b q hc
  · have := lt b hc; omega
theorem RowsO.lts {v : Value} {l : List β} (x : RowsO S h base v l) : ∀ b ∈ (blockOf v).toList, b < h.size := fun b hb => (Own.lt x.1 b (by simpa using hb)).2
theorem OwnB.lts {v : Value} {l : List UInt8} (x : OwnB h base v l) : ∀ b ∈ (blockOf v).toList, b < h.size := fun b hb => (Own.lt x b (by simpa using hb)).2
theorem RowsO.beside {h' : Heap} {v u : Value} {l : List β} (ns : NoSl S) (x : RowsO S h base v l) (y : Only (blockOf u).toList h h') (j : Dj u v) : RowsO S h' base v l :=
  ⟨Own.only x.1 y (fun b hb hM => j b hM (by simpa using hb)), fun a ha => S.only (x.2 a ha) y (fun u hu b hb => by rw [ns a u hu] at hb; cases hb)⟩
theorem OwnB.beside {h' : Heap} {v u : Value} {l : List UInt8} (x : OwnB h base v l) (y : Only (blockOf u).toList h h') (j : Dj u v) : OwnB h' base v l :=
  show Own _ _ _ _ _ _ from Own.only x y (fun b hb hM => j b hM (by simpa using hb))
end
end Go.Xp

/- A block that is a row of structs: elements read, stored, and fields stored. -/
namespace Go.Xp

/-- The block behind a slice that is not empty. -/
def blk2 : Value → Option Nat
  | .slice (some a) n _ => if n = 0 then none else some a.block
  | _ => none
theorem Row.lt2 {h : Heap} {z n : Nat} {v : Value} {cs : List Value} (x : Row h z v n cs) {b : Nat} (hb : blk2 v = some b) : b < h.size := by
  obtain ⟨⟨a, cap, rfl, h1, h2, h3⟩, h4⟩ := x
  cases a with
  | none => cases hb
  | some ad =>
    by_cases hn : n = 0
    · simp [blk2, hn] at hb
    · simp [blk2, hn] at hb
      rw [← hb]; exact ((h3 ad rfl).1 (by omega)).2
theorem Row.only2 {bs : List Nat} {h h' : Heap} {z n : Nat} {v : Value} {cs : List Value} (x : Row h z v n cs) (y : Only bs h h') (hb : ∀ b, blk2 v = some b → b ∉ bs) : Row h' z v n cs := by
  by_cases hn : n = 0
  · subst hn
    obtain ⟨⟨a, cap, rfl, h1, h2, h3⟩, h4⟩ := x
    have : cs = [] := List.eq_nil_of_length_eq_zero (by simpa using h4)
    subst this
    exact ⟨⟨a, cap, rfl, h1, h2, fun ad _ => ⟨fun q => absurd q (by omega), fun i u q => by simp at q⟩⟩, h4⟩
  · refine x.only y (fun b hb2 => hb b ?_)
    obtain ⟨⟨a, cap, rfl, h1, h2, h3⟩, h4⟩ := x
    cases a with
    | none => cases hb2
    | some ad => simp [blockOf] at hb2; simp [blk2, hn, hb2]
theorem cells_slice {h : Heap} {v : Value} {l : List UInt8} (x : Bytes h v l) : v.cells.toList = [v] := by
  obtain ⟨⟨a, cap, rfl, _⟩, _⟩ := x; rfl
class Sch2 {β : Type} (S : Sch β) : Prop where
  only2 : ∀ {bs : List Nat} {h h' : Heap} {x : β}, S.ok h x → Only bs h h' → (∀ u ∈ S.cells x, ∀ b, blk2 u = some b → b ∉ bs) → S.ok h' x
section
variable {β : Type} {S : Sch β} [Sch2 S]
/-- The blocks into which a datum points meet 'p'. -/
def Pts (S : Sch β) (p : Nat → Prop) (x : β) : Prop := ∀ u ∈ S.cells x, ∀ b, blk2 u = some b → p b
/-- Block B is a row of these data, which point into blocks that meet 'p'. -/
def RBuf (S : Sch β) (h : Heap) (B : Nat) (p : Nat → Prop) (l : List β) : Prop := Blk h B (l.flatMap S.cells) ∧ ∀ x ∈ l, S.ok h x ∧ Pts S p x
theorem RBuf.lt {h : Heap} {B : Nat} {p : Nat → Prop} {l : List β} (x : RBuf S h B p l) : B < h.size := x.1.lt
theorem RBuf.only {bs : List Nat} {h h' : Heap} {B : Nat} {p : Nat → Prop} {l : List β} (x : RBuf S h B p l) (y : Only bs h h') (h1 : B ∉ bs) (h2 : ∀ b ∈ bs, ¬ p b) : RBuf S h' B p l :=
  ⟨x.1.only y h1, fun a ha => ⟨Sch2.only2 (x.2 a ha).1 y (fun u hu b hb hm => h2 b hm ((x.2 a ha).2 u hu b hb)), (x.2 a ha).2⟩⟩
theorem RBuf.ext {h h' : Heap} {B : Nat} {p : Nat → Prop} {l : List β} (x : RBuf S h B p l) (y : Ext h h') : RBuf S h' B p l := x.only y (by simp) (by simp)
theorem RBuf.congr {h : Heap} {B : Nat} {p : Nat → Prop} {l l' : List β} (x : RBuf S h B p l) (e : l = l') : RBuf S h B p l' := e ▸ x
theorem RBuf.mono {h : Heap} {B : Nat} {p q : Nat → Prop} {l : List β} (x : RBuf S h B p l) (hq : ∀ b, p b → q b) : RBuf S h B q l := ⟨x.1, fun a ha => ⟨(x.2 a ha).1, fun u hu b hb => hq b ((x.2 a ha).2 u hu b hb)⟩⟩
theorem RBuf.rows {h : Heap} {B N : Nat} {p : Nat → Prop} {l : List β} (x : RBuf S h B p l) (hN : N = l.length) : Rows S h (.slice (some ⟨B, 0, none⟩) N N) l := by
  subst hN
  have : RowsO S h 0 (.slice (some ⟨B, 0, none⟩) l.length l.length) l := ⟨⟨flat_len l, .inr ⟨B, l.length, [], rfl, Nat.zero_le _, by rw [List.append_nil]; exact x.1, by rw [List.append_nil]; exact flat_len l, Nat.le_refl _⟩⟩, fun a ha => (x.2 a ha).1⟩
  exact this.rows
/-- What lasts of a datum of such a block. -/
def Okp (S : Sch β) (h : Heap) (p : Nat → Prop) (x : β) : Prop := S.ok h x ∧ Pts S p x
theorem Okp.ext {h h' : Heap} {p : Nat → Prop} {x : β} (o : Okp S h p x) (y : Ext h h') : Okp S h' p x := ⟨S.ext o.1 y, o.2⟩
theorem Okp.mono {h : Heap} {p q : Nat → Prop} {x : β} (o : Okp S h p x) (hq : ∀ b, p b → q b) : Okp S h q x := ⟨o.1, fun u hu b hb => hq b (o.2 u hu b hb)⟩
theorem Okp.only {h h' : Heap} {p : Nat → Prop} {x : β} {B : Nat} (o : Okp S h p x) (y : Only [B] h h') (hB : ¬ p B) : Okp S h' p x :=
  ⟨Sch2.only2 o.1 y (fun u hu b hb hm => hB (by rw [← List.mem_singleton.1 hm]; exact o.2 u hu b hb)), o.2⟩
section
variable {P : Program} {n : Nat} {e : Env} {h : Heap} {d : Option Tmp} {t : TypeId} {pos : String} {af : Array Edge} {g : Option (Nat × Bool)}
variable {T E : TypeId} {x y : Operand} {B N k z off : Nat} {v : Value} {l : List β} {p : Nat → Prop}
end
end
section
variable {P : Program} {n : Nat} {e : Env} {h : Heap} {d : Option Tmp} {t : TypeId} {pos : String} {af : Array Edge} {g : Option (Nat × Bool)}
variable {T E : TypeId} {lo hi : Operand} {bytes : Nat}
end
end Go.Xp

/- Appending to an empty row of bytes without room. -/
namespace Go.Xp
section
variable {P : Program} {n : Nat} {e : Env} {h : Heap} {d : Option Tmp} {t : TypeId} {pos : String} {af : Array Edge} {g : Option (Nat × Bool)}
variable {T E : TypeId} {x y : Operand} {v u : Value} {l2 : List UInt8} {base : Nat}
/-- No bytes, of the call's own, without room. -/
structure BytE (h : Heap) (base : Nat) (v : Value) : Prop where
  own : OwnB h base v []
  cap : capOf v = 0
theorem BytE.ext {h' : Heap} (x : BytE h base v) (y : Ext h h') : BytE h' base v := ⟨x.own.ext y, x.cap⟩
end
end Go.Xp
