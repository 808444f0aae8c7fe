/- Bytes whose block is told apart from others by the type of its first cell. -/
import Derived.Test.YtknimfbagbkjfaaDoorCanI
import Derived.Test.YtknimfbagbkjfaaDoorAppE
set_option linter.unusedSimpArgs false
set_option linter.unusedVariables false
set_option linter.unusedSectionVars false
namespace Go.Xp

theorem slice_formO {h : Heap} {v : Value} {l : List UInt8} (b : Bytes h v l) : ∃ x n c, v = .slice x n c := by
  obtain ⟨⟨a0, cap, rfl, _⟩, _⟩ := b; exact ⟨_, _, _, rfl⟩
def u8no : Value → Bool
  | .int .u8 _ => false
  | _ => true
theorem row_cells {β : Type} {S : Sch β} {h : Heap} {v : Value} {L : List β} (x : Rows S h v L) : v.cells.toList = [v] := by
  obtain ⟨⟨⟨a, cap, rfl, _⟩, _⟩, _⟩ := x; rfl
theorem row_cell1 {β : Type} {S : Sch β} {h : Heap} {v : Value} {L : List β} (x : Rows S h v L) : v.oneCell' = true := by
  obtain ⟨⟨⟨a, cap, rfl, _⟩, _⟩, _⟩ := x; rfl
/-- Bytes, the first cell of their block being a byte. -/
def Off (h : Heap) (v : Value) (l : List UInt8) : Prop := Bytes h v l ∧ ∀ d, blk2 v = some d → ∃ c, cellAt h d 0 = some (.int .u8 c)
section
variable {h h' : Heap} {v : Value} {l : List UInt8} {bs : List Nat} {B base : Nat}
theorem Off.of (o : OwnB h base v l) : Off h v l := by
  refine ⟨o.bytes, fun d hd => ?_⟩
  obtain ⟨o1, ⟨rfl, o2⟩ | ⟨g, cap, extra, rfl, o3, o4, o5, o6⟩⟩ := o
  · cases hd
  · cases l with
    | nil => simp [blk2] at hd
    | cons c l =>
      simp [blk2] at hd
      subst hd
      exact ⟨(c.toNat : Int), by rw [o4.cell]; rfl⟩
theorem Off.nil (h : Heap) : Off h (.slice none 0 0) [] := ⟨Bytes.nil _, fun d hd => by cases hd⟩
theorem cell_only {d o : Nat} (y : Only bs h h') (hd : d ∉ bs) {u : Value} (hc : cellAt h d o = some u) : cellAt h' d o = some u := by rw [y.cellAt (cellAt_lt hc) hd]; exact hc
theorem Off.only (x : Off h v l) (y : Only bs h h') (hb : ∀ d c, cellAt h d 0 = some (.int .u8 c) → d ∉ bs) : Off h' v l :=
  ⟨Row.only2 (show Bytes h v l from x.1) y (fun d hd => by obtain ⟨c, hc⟩ := x.2 d hd; exact hb d c hc), fun d hd => by
    obtain ⟨c, hc⟩ := x.2 d hd
    exact ⟨c, cell_only y (hb d c hc) hc⟩⟩
theorem Off.ext (x : Off h v l) (y : Ext h h') : Off h' v l := Off.only x (bs := []) y (fun _ _ _ q => absurd q (List.not_mem_nil))
theorem Off.box (x : Off h v l) {u : Value} {cs : List Value} (hb : Blk h B (u :: cs)) (hu : u8no u = true) (y : Only [B] h h') : Off h' v l := x.only y (fun d c hc hm => by
  rw [List.mem_singleton.1 hm, hb.cell] at hc
  simp at hc
  rw [hc] at hu; cases hu)
theorem Off.map {α : Type} [DecidableEq α] {enc : α → Value} {m : List (α × Value)} (x : Off h v l) (hm : MapK enc h B m) (y : Only [B] h h') : Off h' v l := x.only y (fun d c hc q => by
  rw [List.mem_singleton.1 q] at hc
  unfold cellAt at hc
  rw [MapK.get hm] at hc; cases hc)
theorem Off.row {w : Value} {L : List Nod} (x : Off h v l) (o : RowsO nodS h base w L) (hw : L = [] → w = .slice none 0 0) (y : Only (blockOf w).toList h h') : Off h' v l := x.only y (fun d c hc q => by
  obtain ⟨⟨o1, ⟨rfl, o2⟩ | ⟨g, cap, extra, rfl, o3, o4, o5, o6⟩⟩, -⟩ := o
  · cases q
  · cases L with
    | nil => have := hw rfl; cases this
    | cons a L =>
      simp [blockOf] at q
      subst q
      rw [o4.cell] at hc
      simp [nodS] at hc)
theorem off_app {h9 : Heap} {w : Value} {L : List Nod} {y : Nod} (h1 : ∀ x ∈ L, Off h x.dv x.data) (h2 : Off h y.dv y.data) (o : RowsO nodS h base w L) (hw : L = [] → w = .slice none 0 0) (z : Only (blockOf w).toList h h9) : ∀ a ∈ L ++ [y], Off h9 a.dv a.data := fun a q =>
  (List.mem_append.1 q).elim (fun q => (h1 a q).row o hw z) (fun q => by rw [List.mem_singleton.1 q]; exact h2.row o hw z)
theorem map_row {α : Type} [DecidableEq α] {enc : α → Value} {m : List (α × Value)} {L : List Nod} (x : RowsO nodS h base v L) (hm : MapK enc h B m) : B ∉ (blockOf v).toList := fun hM => by
  obtain ⟨o1, ⟨rfl, o2⟩ | ⟨g, cap, extra, rfl, o3, ⟨T, lo, hi, q, _⟩, o5, o6⟩⟩ := x.1
  · cases hM
  · simp [blockOf] at hM
    subst hM
    have hg := MapK.get hm
    rw [q] at hg; cases hg
theorem box_row {x y : Value} {L : List Nod} (o : RowsO nodS h base v L) (hw : L = [] → v = .slice none 0 0) (hb : Blk h B [v, x, y]) : B ∉ (blockOf v).toList := fun hM => by
  obtain ⟨⟨o1, ⟨rfl, o2⟩ | ⟨g, cap, extra, rfl, o3, o4, o5, o6⟩⟩, -⟩ := o
  · cases hM
  · simp [blockOf] at hM
    subst hM
    cases L with
    | nil => have := hw rfl; cases this
    | cons a L =>
      have := Blk.inj hb o4
      simp [nodS] at this
theorem rowsO_map {α : Type} [DecidableEq α] {enc : α → Value} {m : List (α × Value)} {L : List Nod} (x : RowsO nodS h base v L) (y : Only [B] h h') (hm : MapK enc h B m) : RowsO nodS h' base v L :=
  ⟨Own.only x.1 y (fun b hb hM => by
    obtain ⟨o1, ⟨rfl, o2⟩ | ⟨g, cap, extra, rfl, o3, ⟨T, lo, hi, q, _⟩, o5, o6⟩⟩ := x.1
    · cases hb
    · simp [blockOf] at hb
      subst hb
      rw [← List.mem_singleton.1 hM] at hm
      have hg := MapK.get hm
      rw [q] at hg; cases hg), fun a ha => Row.only2 (show Bytes h a.dv a.data from x.2 a ha) y (Row.noMap (show Bytes h a.dv a.data from x.2 a ha) (by decide) hm)⟩
theorem rowsO_box {u : Value} {cs : List Value} {L : List Nod} (x : RowsO nodS h base v L) (hL : L ≠ []) (hof : ∀ a ∈ L, Off h a.dv a.data) (hb : Blk h B (u :: cs)) (hu : ∀ k c, u ≠ .int k c) (y : Only [B] h h') : RowsO nodS h' base v L :=
  ⟨Own.only x.1 y (fun b hb2 hM => by
    obtain ⟨o1, ⟨rfl, o2⟩ | ⟨g, cap, extra, rfl, o3, o4, o5, o6⟩⟩ := x.1
    · cases hb2
    · simp [blockOf] at hb2
      subst hb2
      rw [List.mem_singleton.1 hM] at o4
      cases L with
      | nil => exact hL rfl
      | cons a L =>
        have := Blk.inj hb o4
        simp [nodS] at this
        exact hu _ _ this.1), fun a ha => ((hof a ha).box hb (by cases u <;> first | rfl | (exact absurd rfl (hu _ _))) y).1⟩
end
section
variable {P : Program} {n : Nat} {e : Env} {h : Heap} {d : Option Tmp} {t : TypeId} {pos : String} {af : Array Edge} {g : Option (Nat × Bool)}
variable {T E : TypeId} {x y : Operand} {v u : Value} {l2 : List UInt8} {base : Nat}
/-- No bytes, of the call's own, without room. -/
structure BytE (h : Heap) (base : Nat) (v : Value) : Prop where
  own : OwnB h base v []
  cap : capOf v = 0
theorem BytE.ext {h' : Heap} (x : BytE h base v) (y : Ext h h') : BytE h' base v := ⟨x.own.ext y, x.cap⟩
theorem M_litbE {len : Nat} {cells : List Value} (hl : 0 = len) (hc : cells = [])
    (hf : ∀ w, (Instr.buildSlice T len #[]).run P w = .ok (.slice (some ⟨w.heap.size, 0, none⟩) len len) { w with heap := w.heap.push (.cells cells.toArray E) }) :
    Mks P n e h ⟨d, .buildSlice T len #[], t, pos, af, g⟩ (fun u h' => BytE h' h.size u ∧ Ext h h') := fun w a hh he => by
  subst hc
  subst hl
  obtain ⟨r, w', k1, k2, rfl, k4⟩ := M_buildSlice (P := P) (n := n) (d := d) (t := t) (pos := pos) (af := af) (g := g) (E := E) (ps := []) (pv := []) (cells := []) (fun _ _ => rfl) hf w a hh he
  exact ⟨_, w', k1, k2, ⟨⟨by simp, .inr ⟨h.size, 0, [], rfl, Nat.le_refl _, k4.blk, by simp, Nat.le_refl _⟩⟩, rfl⟩, k4.ext⟩
theorem M_appeB (hT : P.underlying T = some (.slice E)) (hE : elemRow P E 1 1 (.int .u8 0)) (hs : ev e x = some v) (hx : ev e y = some u) (hv : BytE h base v) (hr : Bytes h u l2)
    (hbase : base ≤ h.size) (hb : l2.length ≤ 140737488355328) :
    Mks P n e h ⟨d, .call { callee := .builtin .append, args := #[x, y], argTypes := #[T, T] }, t, pos, af, g⟩ (fun r h' => OwnB h' base r l2 ∧ Ext h h' ∧ ∀ d, blk2 r = some d → h.size ≤ d) := fun w a hh he => by
  unfold elemRow at hE
  cases hi : P.info? E with
  | none => rw [hi] at hE; cases hE
  | some i =>
    rw [hi] at hE
    simp only [Option.map_some, Option.some.injEq, Prod.mk.injEq] at hE
    obtain ⟨hz, hby, hz0⟩ := hE
    obtain ⟨⟨h1, hcase⟩, hcap⟩ := hv
    have hform : ∃ a0, v = .slice a0 0 0 := by
      rcases hcase with ⟨rfl, -⟩ | ⟨g, cap, extra, rfl, -⟩
      · exact ⟨none, rfl⟩
      · simp only [capOf] at hcap
        subst hcap
        exact ⟨_, rfl⟩
    obtain ⟨a0, rfl⟩ := hform
    have hr' : Row h 1 u l2.length (l2.map bv) := hr
    obtain ⟨v', w', k1, k2, k3, k4⟩ := run_append0 (P := P) (ty := t) (a0 := a0) h w hh hT hi hz hz0 rfl (lenOf_row hr') (firstCells_row hr') hr'.len (by rw [hby]; omega) (by rw [hby]; decide)
    refine ⟨v', w', run_blt rfl ?_, k2, ?_, k3, ?_⟩
    · simpa [he.eval hs, he.eval hx] using k1
    · rcases k4 with ⟨hm, rfl⟩ | k4
      · have : l2 = [] := List.eq_nil_of_length_eq_zero hm
        subst this
        exact OwnB.ext (show OwnB h base _ [] from ⟨h1, hcase⟩) k3
      · exact OwnB.low (show OwnB _ h.size _ _ from k4) hbase
    · intro dd hd
      rcases k4 with ⟨hm, rfl⟩ | k4
      · cases a0 <;> simp [blk2] at hd
      · obtain ⟨o1, ⟨rfl, o2⟩ | ⟨g2, cap2, extra2, rfl, o3, o4, o5, o6⟩⟩ := k4
        · cases hd
        · simp [blk2] at hd
          omega
end
section
variable {h h' : Heap} {v : Value} {l : List UInt8} {bs : List Nat} {B base : Nat}
theorem Off.only2 (x : Off h v l) (y : Only bs h h') (hb : ∀ d, blk2 v = some d → d ∉ bs) : Off h' v l :=
  ⟨Row.only2 (show Bytes h v l from x.1) y (fun d hd => hb d hd), fun d hd => by
    obtain ⟨c, hc⟩ := x.2 d hd
    exact ⟨c, cell_only y (hb d hd) hc⟩⟩
theorem blk2_ofO {d : Nat} (h : blk2 v = some d) : blockOf v = some d := by
  unfold blk2 at h
  split at h
  · split at h
    · cases h
    · exact h
  · cases h
/-- Bytes of the call's own, not empty: their first cell. -/
theorem own_cell0 (o : OwnB h base v l) (hl : l ≠ []) {c : Nat} (hc : c ∈ (blockOf v).toList) : ∃ k, cellAt h c 0 = some (.int .u8 k) := by
  obtain ⟨o1, ⟨rfl, o2⟩ | ⟨g, cap, extra, rfl, o3, o4, o5, o6⟩⟩ := o
  · cases hc
  · cases l with
    | nil => exact absurd rfl hl
    | cons a l =>
      simp [blockOf] at hc
      subst hc
      exact ⟨(a.toNat : Int), by rw [o4.cell]; rfl⟩
/-! ### Rows of members, told apart from what a Builder holds -/
theorem mem_cells {A : List Mem} (p : RowsO memS h base v A) (hv : A = [] → v = .slice none 0 0) {c : Nat} (hc : c ∈ (blockOf v).toList) : (∃ k, cellAt h c 0 = some (.int .i64 k)) ∧ ∃ k, cellAt h c 4 = some (.int .i64 k) := by
  obtain ⟨⟨o1, ⟨rfl, o2⟩ | ⟨g, cap, extra, rfl, o3, o4, o5, o6⟩⟩, -⟩ := p
  · cases hc
  · cases A with
    | nil => have := hv rfl; cases this
    | cons a A =>
      simp [blockOf] at hc
      subst hc
      exact ⟨⟨a.kind, by rw [o4.cell]; simp [memS]⟩, ⟨a.size, by rw [o4.cell]; simp [memS]⟩⟩
theorem nod_cells {L : List Nod} (o : RowsO nodS h base v L) (hw : L = [] → v = .slice none 0 0) {c : Nat} (hc : c ∈ (blockOf v).toList) : (∃ k, cellAt h c 0 = some (.int .i64 k)) ∧ ∃ x n k, cellAt h c 4 = some (.slice x n k) := by
  obtain ⟨⟨o1, ⟨rfl, o2⟩ | ⟨g, cap, extra, rfl, o3, o4, o5, o6⟩⟩, ok⟩ := o
  · cases hc
  · cases L with
    | nil => have := hw rfl; cases this
    | cons a L =>
      simp [blockOf] at hc
      subst hc
      obtain ⟨x, n, k, e⟩ := slice_formO (show Bytes h a.dv a.data from ok a (by simp))
      exact ⟨⟨a.kind, by rw [o4.cell]; simp [nodS]⟩, ⟨x, n, k, by rw [o4.cell, ← e]; simp [nodS]⟩⟩
theorem mrow_box {A : List Mem} (p : RowsO memS h base v A) (hv : A = [] → v = .slice none 0 0) {u : Value} {cs : List Value} (hb : Blk h B (u :: cs)) (hu : ∀ k c, u ≠ .int k c) : B ∉ (blockOf v).toList := fun hc => by
  obtain ⟨⟨k, e⟩, -⟩ := mem_cells p hv hc
  rw [hb.cell] at e; simp at e; exact hu _ _ e
theorem mrow_map {A : List Mem} (p : RowsO memS h base v A) (hv : A = [] → v = .slice none 0 0) {α : Type} [DecidableEq α] {enc : α → Value} {m : List (α × Value)} (hm : MapK enc h B m) : B ∉ (blockOf v).toList := fun hc => by
  obtain ⟨⟨k, e⟩, -⟩ := mem_cells p hv hc
  unfold cellAt at e
  rw [MapK.get hm] at e; cases e
theorem mrow_row {A : List Mem} {L : List Nod} {w : Value} {base' : Nat} (p : RowsO memS h base v A) (hv : A = [] → v = .slice none 0 0) (o : RowsO nodS h base' w L) (hw : L = [] → w = .slice none 0 0) {c : Nat} (hc : c ∈ (blockOf w).toList) : c ∉ (blockOf v).toList := fun q => by
  obtain ⟨-, ⟨k, e⟩⟩ := mem_cells p hv q
  obtain ⟨-, ⟨x, n, k', e'⟩⟩ := nod_cells o hw hc
  rw [e] at e'; cases e'
end
end Go.Xp
