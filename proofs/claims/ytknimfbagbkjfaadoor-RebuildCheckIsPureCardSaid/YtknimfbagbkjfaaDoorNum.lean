/- Decimal numbers: strconv's Itoa, FormatInt, AppendInt and ParseInt. -/
import Derived.Test.YtknimfbagbkjfaaDoorShelf
import Derived.Test.YtknimfbagbkjfaaDoorRws
import Derived.Test.YtknimfbagbkjfaaDoorSlc
import Derived.Lib.AppendIntMem
import Derived.Lib.ItoaMem
import Derived.Below
set_option linter.unusedSimpArgs false
set_option linter.unusedVariables false
set_option linter.unusedSectionVars false
namespace Go.Xp
open Go.Proofs Go.RowKit
open Go.Sort (putRow Holds)

/-- Block 'g' holds just these cells. -/
def TabH (h : Heap) (g : Nat) (vs : Array Value) : Prop := ∃ T z, h[g]? = some (.cells vs T z)
theorem TabH.ext {h h' : Heap} {g : Nat} {vs : Array Value} (x : TabH h g vs) (y : Ext h h') : TabH h' g vs := by
  obtain ⟨T, z, e⟩ := x
  exact ⟨T, z, by rw [y.same g (Array.getElem?_eq_some_iff.1 e).1 (by simp)]; exact e⟩
/-- Block 'g' holds an interface value. -/
def IfcH (h : Heap) (g : Nat) : Prop := ∃ te pe, cellAt h g 0 = some (.iface te pe)
theorem IfcH.ext {h h' : Heap} {g : Nat} (x : IfcH h g) (hg : g < h.size) (y : Ext h h') : IfcH h' g := by
  obtain ⟨te, pe, e⟩ := x
  exact ⟨te, pe, by rw [y.cellAt hg (by simp)]; exact e⟩
/-- What the numbers' functions read of the library's variables. -/
structure GlbN (h : Heap) : Prop where
  t0 : TabH h 4 ((Lib.pow10Tab.map fun z => Value.int .u64 z).toArray)
theorem GlbN.ext {h h' : Heap} (x : GlbN h) (y : Ext h h') : GlbN h' := ⟨x.t0.ext y⟩
structure GlbE (h : Heap) : Prop where
  i0 : 3 < h.size ∧ IfcH h 3
theorem GlbE.ext {h h' : Heap} (x : GlbE h) (y : Ext h h') : GlbE h' := ⟨Nat.lt_of_lt_of_le x.i0.1 y.size, x.i0.2.ext x.i0.1 y⟩
theorem tabIs {w : World} (x : GlbN w.heap) : Lib.TabIs Tryd.prog w "internal/strconv.uint64pow10" .u64 Lib.pow10Tab := by
  obtain ⟨T, z, e⟩ := x.t0
  unfold Lib.TabIs World.var?
  rw [show Tryd.prog.globalNamed "internal/strconv.uint64pow10" = some 4 by kernel_rfl]
  simp only [Option.bind_some, e]

theorem strconv_Itoa (h : Heap) (hN : GlbN h) (n : Int) (h0 : -9223372036854775808 ≤ n ∧ n ≤ 9223372036854775807) : Cal Tryd.prog 98 #[.int .i64 n] h (fun v h' => v = str (Lib.itoa n) ∧ Ext h h') := fun w hw => by
  refine (Tryd.strconv_Itoa n h0.1 h0.2 w (tabIs (hw ▸ hN))).mono ?_
  rintro e w' ⟨rfl, k, os, rfl⟩
  have hb := Lib.below_grow w.heap.size w (Nat.le_refl _) k os
  refine ⟨_, rfl, by unfold std; rw [hb.os, hb.tape, hb.output], rfl, hw ▸ ⟨hb.size, fun k hk _ => hb.block k hk⟩⟩
/-! ### The digits, laid into a buffer -/
theorem Buf.put {w : World} {b : Nat} {L : List UInt8} (hb : Buf w.heap b L) (d : Array UInt8) (hd : d.size ≤ L.length) (k : Nat) :
    Only [b] w.heap ((putRow (fun (b : UInt8) => Value.int .u8 (b.toNat : Int)) w b 0 d).drewN k).heap ∧ Buf ((putRow (fun (b : UInt8) => Value.int .u8 (b.toNat : Int)) w b 0 d).drewN k).heap b (d.toList ++ L.drop d.size) := by
  show Only [b] w.heap (w.heap.modify b (Go.Sort.onCells (Go.Sort.putCells (fun (b : UInt8) => Value.int .u8 (b.toNat : Int)) 0 d))) ∧ Buf (w.heap.modify b (Go.Sort.onCells (Go.Sort.putCells (fun (b : UInt8) => Value.int .u8 (b.toNat : Int)) 0 d))) b _
  refine ⟨⟨by simp, fun j hj hn => ?_⟩, ?_⟩
  · rw [Array.getElem?_modify, if_neg (fun e => hn (by simp [e]))]
  · obtain ⟨T, lo, hi, h1, h2⟩ := hb
    refine ⟨T, lo, hi, ?_, ?_⟩
    · rw [Array.getElem?_modify, if_pos rfl, h1]
      simp only [Option.map_some, Go.Sort.onCells, Option.some.injEq, Obj.cells.injEq, and_true]
      apply Array.ext_getElem?
      intro i
      simp only [Go.Sort.putCells, Array.getElem?_mapIdx, List.getElem?_toArray, List.getElem?_map, Nat.zero_le, true_and, Nat.zero_add, Nat.sub_zero]
      by_cases hi : i < d.size
      · rw [List.getElem?_append_left (by simpa using hi), List.getElem?_eq_getElem (by omega : i < L.length)]
        simp only [Option.map_some, if_pos hi, Array.getElem?_toList, Array.getElem?_eq_getElem hi, bv, getElem!_pos d i hi]
      · rw [List.getElem?_append_right (by simpa using Nat.not_lt.1 hi), List.getElem?_drop, Array.length_toList, show d.size + (i - d.size) = i by omega]
        cases L[i]? <;> simp [if_neg hi]
    · intro i hl
      refine h2 i ?_
      simp only [List.length_map, List.length_append, Array.length_toList, List.length_drop] at hl ⊢
      omega
/-! ### AppendInt -/
structure SzLe (h h' : Heap) : Prop where
  size : h.size ≤ h'.size
theorem AppB.congr {h h' : Heap} {base : Nat} {v u : Value} {l l' : List UInt8} (a : AppB h h' base v u l) (e : l = l') : AppB h h' base v u l' := e ▸ a
theorem nDigits_le {u : Nat} (h : u < 18446744073709551616) : Lib.nDigits u ≤ 20 := by
  rcases Nat.lt_or_ge u 10 with h1 | h1
  · rw [Lib.nDigits_small h1]; omega
  · rcases Nat.lt_or_ge (Lib.nDigits u) 21 with h2 | h2
    · omega
    · exfalso
      have hp : ∀ (k u : Nat), k + 1 < Lib.nDigits u → 10 ^ (k + 1) ≤ u := by
        intro k
        induction k with
        | zero => intro u hu; rcases Nat.lt_or_ge u 10 with h3 | h3
                  · rw [Lib.nDigits_small h3] at hu; omega
                  · omega
        | succ k ih =>
          intro u hu
          rcases Nat.lt_or_ge u 10 with h3 | h3
          · rw [Lib.nDigits_small h3] at hu; omega
          · rw [Lib.nDigits_big (by omega)] at hu
            have := ih (u / 10) (by omega)
            have h4 := (Nat.le_div_iff_mul_le (by omega : 0 < 10)).1 this
            rw [Nat.pow_succ]; exact h4
      have := hp 19 u (by omega)
      omega

theorem wrap_u64b {n : Int} (h0 : 0 ≤ n) (h1 : n < 18446744073709551616) : IntKind.u64.wrap n = n := by rw [IntKind.wrap_u64]; exact Int.emod_eq_of_lt h0 (by omega)

end Go.Xp
