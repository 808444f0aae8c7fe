/- Layer 2 (cstring): the walks of the program's functions and of its reference. -/
import Derived.Test.YtknimfbagbkjfaaDoorLib
import Derived.Test.YtknimfbagbkjfaaDoorProg
import Derived.KernelRfl
import Derived.Test.YtknimfbagbkjfaaDoorShelf
import Derived.Below
import Derived.Test.YtknimfbagbkjfaaDoorGlb
import Derived.Test.YtknimfbagbkjfaaDoorRws
import Derived.Lib.AppendIntMem
import Derived.Lib.ItoaMem
import Derived.Test.YtknimfbagbkjfaaDoorOpen
import Derived.Lib.LaidTab
import Derived.LaidLaws
set_option linter.unusedSimpArgs false
set_option linter.unusedVariables false
namespace Go.Xp
open Go.Proofs

/-! ### Bytes -/
theorem byt_ne {l : List UInt8} {c : UInt8} (h : ∀ k, k < l.length → ¬ byt l k = (c.toNat : Int)) : c ∉ l := by
  intro hm
  obtain ⟨k, hk, he⟩ := List.getElem_of_mem hm
  exact h k hk (by rw [byt_eq hk, he])
theorem byt_mem {l : List UInt8} {c : UInt8} {k : Nat} (hk : k < l.length) (h : byt l k = (c.toNat : Int)) : c ∈ l := by
  rw [byt_eq hk] at h
  have : l[k] = c := UInt8.toNat_inj.1 (by omega)
  exact this ▸ List.getElem_mem hk
theorem step_ne {P : Nat → Prop} {i : Nat} (h : ∀ k, k < i → P k) (hi : P i) : ∀ k, k < i + 1 → P k := fun k hk => by
  rcases Nat.lt_succ_iff_lt_or_eq.1 hk with h1 | rfl
  · exact h k h1
  · exact hi
theorem indexByte_mem (l : List UInt8) (c : UInt8) : (0 ≤ Lib.indexByte l c) ↔ c ∈ l := by
  induction l with
  | nil => simp [Lib.indexByte]
  | cons a l ih =>
    simp only [Lib.indexByte, List.mem_cons]
    by_cases h : a = c
    · subst h; simp
    · have h2 : (a == c) = false := by simpa using h
      have h3 : ¬ c = a := fun h' => h h'.symm
      have := Lib.indexByte_ge l c
      rw [h2]
      simp only [Bool.false_eq_true, if_false, h3, false_or]
      rw [← ih]
      by_cases h1 : Lib.indexByte l c = -1
      · rw [h1]; simp
      · have h4 : (Lib.indexByte l c == -1) = false := by simpa using h1
        rw [h4]; simp only [Bool.false_eq_true, if_false]; omega

/-! ### What the layer answers -/
/-! ### Parse -/
end Go.Xp

/- strings.Repeat, by the shelf's contract. -/
set_option linter.unusedSimpArgs false
set_option linter.unusedVariables false
namespace Go.Xp
open Go.Proofs Go.RowKit

end Go.Xp

/- Layer 2 (cstring): the laws' own text. -/
set_option linter.unusedSimpArgs false
set_option linter.unusedVariables false
namespace Go.Xp
open Go.Proofs

end Go.Xp

/- Library functions on slices of bytes: slices.Clone, slices.Equal. -/
set_option linter.unusedSimpArgs false
set_option linter.unusedVariables false
namespace Go.Xp
open Go.Proofs

set_option maxRecDepth 100000 in
theorem slices_CloneB (h : Heap) (v : Value) (b : List UInt8) (hb : Bytes h v b) (hl : b.length ≤ 140737488355328) : Cal Tryd.prog 30 #[v] h (fun v h' => ∃ s0, v = s0 ∧ OwnB h' h.size s0 (b) ∧ Ext h h') := by
 refine Cal_enter (args := [v]) Tryd.func30 rfl rfl rfl (fun σ => ?_)
 refine Wr ?_
 refine Av ?_
 refine L_nil (X_then (W_seq (W_seq (W_region ?_))))
 refine Mv ?_
 refine Ly (Y_slnil Tryd.underlying28 rfl hb) ?_
 refine Nx ?_
 refine W_sub _ (tk3 4 2 0) ?_
 refine W_split rfl (fun c => ?_) (fun c => ?_)
 ·refine Wr ?_
  refine Av ?_
  refine Nx ?_
  refine W_sub _ (tk2 2 0) ?_
  refine W_ret (X_then_ret ?_)
  refine X_ret1 rfl rfl ?_
  exact ⟨_, rfl, by rw [isNil_nil hb c]; exact OwnB.nil _ _, (Ext.refl _)⟩
 refine Ws ?_
 refine W_sub _ (tk2 2 0) ?_
 refine Wr ?_
 refine L_mks (M_litb (l := ([] : List UInt8)) (cells := []) (pv := []) (E := 5) (evp (is := []) (os := []) (vs := []) rfl rfl) rfl rfl (fun _ => by kernel_rfl)) rfl rfl rfl ?_
 rintro v1 h1 ⟨ho2, hx3⟩
 refine Mv ?_
 refine L_mks (M_appb Tryd.underlying28 (by unfold elemRow; kernel_rfl) rfl rfl ho2 (hb.ext hx3) hx3.size (by first | omega | (simp; omega))) rfl rfl rfl ?_
 rintro v4 h2 ha5
 refine Av ?_
 refine Nx ?_
 refine W_sub _ (tk1 2) ?_
 refine W_ret ?_
 refine X_ret1 rfl rfl ?_
 exact ⟨_, rfl, (by simpa using (ha5.own).low (Nat.le_refl _)), (hx3.then' ha5.only ha5.ge (Nat.le_refl _))⟩

end Go.Xp

/- Decimal numbers: strconv's Itoa, FormatInt, AppendInt and ParseInt. -/
set_option linter.unusedSimpArgs false
set_option linter.unusedVariables false
set_option linter.unusedSectionVars false
namespace Go.Xp
open Go.Proofs Go.RowKit
open Go.Sort (putRow Holds)

/-- Block 'g' holds just these cells. -/
def TabH (h : Heap) (g : Nat) (vs : Array Value) : Prop := ∃ T z, h[g]? = some (.cells vs T z)
theorem TabH.ext {h h' : Heap} {g : Nat} {vs : Array Value} (x : TabH h g vs) (y : Ext h h') : TabH h' g vs := by
  obtain ⟨T, z, e⟩ := x
  exact ⟨T, z, by rw [y.same g (Array.getElem?_eq_some_iff.1 e).1 (by simp)]; exact e⟩
/-- Block 'g' holds an interface value. -/
def IfcH (h : Heap) (g : Nat) : Prop := ∃ te pe, cellAt h g 0 = some (.iface te pe)
theorem IfcH.ext {h h' : Heap} {g : Nat} (x : IfcH h g) (hg : g < h.size) (y : Ext h h') : IfcH h' g := by
  obtain ⟨te, pe, e⟩ := x
  exact ⟨te, pe, by rw [y.cellAt hg (by simp)]; exact e⟩
/-- What the numbers' functions read of the library's variables. -/
structure GlbN (h : Heap) : Prop where
  t0 : TabH h 4 ((Lib.pow10Tab.map fun z => Value.int .u64 z).toArray)
theorem GlbN.ext {h h' : Heap} (x : GlbN h) (y : Ext h h') : GlbN h' := ⟨x.t0.ext y⟩
structure GlbE (h : Heap) : Prop where
  i0 : 3 < h.size ∧ IfcH h 3
theorem GlbE.ext {h h' : Heap} (x : GlbE h) (y : Ext h h') : GlbE h' := ⟨Nat.lt_of_lt_of_le x.i0.1 y.size, x.i0.2.ext x.i0.1 y⟩
/-! ### The digits, laid into a buffer -/
theorem Buf.put {w : World} {b : Nat} {L : List UInt8} (hb : Buf w.heap b L) (d : Array UInt8) (hd : d.size ≤ L.length) (k : Nat) :
    Only [b] w.heap ((putRow (fun (b : UInt8) => Value.int .u8 (b.toNat : Int)) w b 0 d).drewN k).heap ∧ Buf ((putRow (fun (b : UInt8) => Value.int .u8 (b.toNat : Int)) w b 0 d).drewN k).heap b (d.toList ++ L.drop d.size) := by
  show Only [b] w.heap (w.heap.modify b (Go.Sort.onCells (Go.Sort.putCells (fun (b : UInt8) => Value.int .u8 (b.toNat : Int)) 0 d))) ∧ Buf (w.heap.modify b (Go.Sort.onCells (Go.Sort.putCells (fun (b : UInt8) => Value.int .u8 (b.toNat : Int)) 0 d))) b _
  refine ⟨⟨by simp, fun j hj hn => ?_⟩, ?_⟩
  · rw [Array.getElem?_modify, if_neg (fun e => hn (by simp [e]))]
  · obtain ⟨T, lo, hi, h1, h2⟩ := hb
    refine ⟨T, lo, hi, ?_, ?_⟩
    · rw [Array.getElem?_modify, if_pos rfl, h1]
      simp only [Option.map_some, Go.Sort.onCells, Option.some.injEq, Obj.cells.injEq, and_true]
      apply Array.ext_getElem?
      intro i
      simp only [Go.Sort.putCells, Array.getElem?_mapIdx, List.getElem?_toArray, List.getElem?_map, Nat.zero_le, true_and, Nat.zero_add, Nat.sub_zero]
      by_cases hi : i < d.size
      · rw [List.getElem?_append_left (by simpa using hi), List.getElem?_eq_getElem (by omega : i < L.length)]
        simp only [Option.map_some, if_pos hi, Array.getElem?_toList, Array.getElem?_eq_getElem hi, bv, getElem!_pos d i hi]
      · rw [List.getElem?_append_right (by simpa using Nat.not_lt.1 hi), List.getElem?_drop, Array.length_toList, show d.size + (i - d.size) = i by omega]
        cases L[i]? <;> simp [if_neg hi]
    · intro i hl
      refine h2 i ?_
      simp only [List.length_map, List.length_append, Array.length_toList, List.length_drop] at hl ⊢
      omega
/-! ### AppendInt -/
structure SzLe (h h' : Heap) : Prop where
  size : h.size ≤ h'.size
theorem AppB.congr {h h' : Heap} {base : Nat} {v u : Value} {l l' : List UInt8} (a : AppB h h' base v u l) (e : l = l') : AppB h h' base v u l' := e ▸ a
theorem wrap_u64b {n : Int} (h0 : 0 ≤ n) (h1 : n < 18446744073709551616) : IntKind.u64.wrap n = n := by rw [IntKind.wrap_u64]; exact Int.emod_eq_of_lt h0 (by omega)

end Go.Xp

/- What a row's inputs and variables read as: tables, errors, slices of structs. -/
set_option linter.unusedSimpArgs false
set_option linter.unusedVariables false
set_option linter.unusedSectionVars false
namespace Go.Xp
open Go.WideShapes Go.RowKit
section
variable {H : Type} {enc : TypeId × Value → H} {P : Program} {w : World} {base : Nat} {sp : Nat → Bool} {held : Bool} {R f : Nat} {u : Value} {l : DataW H}
theorem ifc_of_laid {fuel g : Nat} {name nm : String} {t : TypeId} {ms : Array (String × TypeId)} {d : DataW H} {p : List MemPlace} {cs : Array Value} (hg : P.globalNamed name = some g) (ht : P.underlying t = some (.interface ms))
    (hv : w.var? P name = some cs) (hd : DataW.trod enc P w base sp false fuel t cs.toList = some (.iface nm d, p)) : g < w.heap.size ∧ IfcH w.heap g := by
  obtain ⟨_, te, pe, h1, _⟩ := iface_of_trod ht hd
  unfold World.var? at hv
  rw [hg] at hv
  simp only [Option.bind_some] at hv
  split at hv
  · rename_i cs' T z hh
    simp only [Option.some.injEq] at hv
    subst hv
    refine ⟨(Array.getElem?_eq_some_iff.1 hh).1, te, pe, ?_⟩
    unfold cellAt
    rw [hh]
    show cs'[0]? = _
    rw [← Array.getElem?_toList, h1]; rfl
  · cases hv
/-- A slice of data of one kind. -/
theorem rd_sch {β : Type} {S : Sch β} {es : List CSh} (hz : S.z = es.length) (good : β → Prop) (hes : 0 < es.length) (h : CRead w R (f + 1) (.sl es) u l)
    (one : ∀ r : List Value, r.length = es.length → (∀ (j : Nat) (c : CSh), es[j]? = some c → ∃ (u : Value) (l : DataW H), r[j]? = some u ∧ CRead w R f c u l) → ∃ x : β, r = S.cells x ∧ S.ok w.heap x ∧ good x) :
    ∃ b : List β, Rows S w.heap u b ∧ b.length ≤ R ∧ ∀ x ∈ b, good x := by
  obtain ⟨rows, ds, h1, h2, _, _, h3⟩ := rd_rows h hes
  have key : ∀ rs : List (List Value), (∀ r ∈ rs, ∃ x : β, r = S.cells x ∧ S.ok w.heap x ∧ good x) → ∃ b : List β, b.length = rs.length ∧ rs.flatten = b.flatMap S.cells ∧ ∀ x ∈ b, S.ok w.heap x ∧ good x := by
    intro rs
    induction rs with
    | nil => intro _; exact ⟨[], rfl, rfl, fun x hx => by cases hx⟩
    | cons r rs ih =>
      intro hr
      obtain ⟨b, k1, k2, k3⟩ := ih (fun r' hr' => hr r' (by simp [hr']))
      obtain ⟨x, rfl, hx⟩ := hr r (by simp)
      refine ⟨x :: b, by simp [k1], by rw [List.flatten_cons, k2, List.flatMap_cons], fun y hy => ?_⟩
      rcases List.mem_cons.1 hy with rfl | hy
      · exact hx
      · exact k3 y hy
  obtain ⟨b, k1, k2, k3⟩ := key rows (fun r hr => by
    obtain ⟨i, hi, rfl⟩ := List.getElem_of_mem hr
    obtain ⟨d, m0, m1, m2⟩ := h3 i _ (List.getElem?_eq_getElem hi)
    exact one _ m1 (fun j c hj => by obtain ⟨u, l, n1, n2, n3⟩ := m2 j c hj; exact ⟨u, l, n1, n3⟩))
  refine ⟨b, ⟨?_, fun x hx => (k3 x hx).1⟩, by omega, fun x hx => (k3 x hx).2⟩
  rw [← k2, hz, k1]; exact h1
end
end Go.Xp

/- Inputs that are slices of nodes. -/
set_option linter.unusedSimpArgs false
set_option linter.unusedVariables false
set_option linter.unusedSectionVars false
namespace Go.Xp
open Go.WideShapes Go.RowKit
section
variable {H : Type} {enc : TypeId × Value → H} {P : Program} {w : World} {base : Nat} {sp : Nat → Bool} {held : Bool} {R f : Nat} {u : Value} {l : DataW H}
theorem rd_nodes (h : CRead w R (f + 3) (.sl [.int .i64, .str, .int .i64, .str, .sl [.int .u8], .int .i64]) u l) : ∃ b : List Nod, Rows nodS w.heap u b ∧ b.length ≤ R ∧ ∀ x ∈ b, x.path.length ≤ R ∧ x.target.length ≤ R ∧ x.data.length ≤ R :=
  rd_sch (S := nodS) rfl (fun x => x.path.length ≤ R ∧ x.target.length ≤ R ∧ x.data.length ≤ R) (by decide) h (fun r hr hc => by
    obtain ⟨u0, l0, a1, a2⟩ := hc 0 _ rfl
    obtain ⟨u1, l1, b1, b2⟩ := hc 1 _ rfl
    obtain ⟨u2, l2, c1, c2⟩ := hc 2 _ rfl
    obtain ⟨u3, l3, d1, d2⟩ := hc 3 _ rfl
    obtain ⟨u4, l4, e1, e2⟩ := hc 4 _ rfl
    obtain ⟨u5, l5, f1, f2⟩ := hc 5 _ rfl
    obtain ⟨z0, rfl, _, _⟩ := rd_int a2
    obtain ⟨s1, rfl, _, b3⟩ := rd_str b2
    obtain ⟨z2, rfl, _, _⟩ := rd_int c2
    obtain ⟨s3, rfl, _, d3⟩ := rd_str d2
    obtain ⟨y4, e3, e4⟩ := rd_bytes e2
    obtain ⟨z5, rfl, _, _⟩ := rd_int f2
    match r, hr, a1, b1, c1, d1, e1, f1 with
    | [x0, x1, x2, x3, x4, x5], _, a1, b1, c1, d1, e1, f1 =>
      simp at a1 b1 c1 d1 e1 f1
      exact ⟨⟨z0, s1, z2, s3, u4, y4, z5⟩, by rw [a1, b1, c1, d1, e1, f1]; rfl, e3, b3, d3, e4⟩)
end
section
end
/-- A row's bytes lie within what can be reached. -/
theorem row_bytes {H : Type} {enc : TypeId × Value → H} {P : Program} {w : World} {base : Nat} {spare : Nat → Bool} {held : Bool} {R : Nat} {t e : TypeId} {fuel : Nat} {cs : List Value} {d : DataW H} {p : List MemPlace} {v : Value} {β : Type} {S : Sch β} {b : List β} {hp : Heap} (hu : P.underlying t = some (.slice e)) (ht : DataW.trod enc P w base spare held fuel t cs = some (d, p)) (hw : ∀ k ∈ d.weights P t, k ≤ R) (hc : cs = [v]) (hr : Rows S hp v b) : b.length * P.bytesOf e ≤ R := by
  subst hc
  obtain ⟨⟨a0, cap0, e0, _⟩, _⟩ := hr.1
  rcases DataW.trod_slice hu ht with ⟨hv, hx⟩ | ⟨a, len, cap, elems, rest, n, hn, hv, hx, hb, hl, hcap, hel, hi, _, _⟩
  · rw [e0] at hv
    have : b.length = 0 := by simp at hv; omega
    rw [this, Nat.zero_mul]; exact Nat.zero_le _
  · rw [e0] at hv
    have hlen : b.length = len := by simp at hv; omega
    simp only [Prod.mk.injEq] at hx
    obtain ⟨rfl, rfl⟩ := hx
    have := hw ((elems.length + rest.length) * P.bytesOf e) (by simp [DataW.weights, hu])
    have h2 : elems.length = len := by simpa using hel
    rw [hlen, ← h2]
    exact Nat.le_trans (Nat.mul_le_mul_right _ (Nat.le_add_right _ _)) this
end Go.Xp
