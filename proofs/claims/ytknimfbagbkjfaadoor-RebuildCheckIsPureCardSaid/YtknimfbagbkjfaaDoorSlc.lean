/- Arrays of bytes by value and behind a pointer, parts of them as slices, package variables, loops of a known number of rounds, results in any mixture. -/
import Derived.Test.YtknimfbagbkjfaaDoorDraw
import Derived.Test.YtknimfbagbkjfaaDoorBox
import Derived.LoopN
import Derived.Lib.SliceRun
import Derived.Test.YtknimfbagbkjfaaDoorLib
import Derived.Test.YtknimfbagbkjfaaDoorProg
import Derived.KernelRfl
import Derived.Test.YtknimfbagbkjfaaDoorShelf
import Derived.Below
set_option linter.unusedSimpArgs false
set_option linter.unusedVariables false
namespace Go.Xp

/-! ### Loops, unrolled -/
section
variable {σ : Std} {P : Program} {n : Nat} {Q : Exit → Act → World → Prop} {e : Env} {h : Heap} {fn : Func} {R : Value → Heap → Prop}
/-! ### Results -/
end

/-! ### Blocks that are read only -/
/-- Block 'b' holds these cells at its begin. -/
def Cls (h : Heap) (b : Nat) (vs : List Value) : Prop := b < h.size ∧ ∀ i u, vs[i]? = some u → cellAt h b i = some u
theorem Cls.ext {h h' : Heap} {b : Nat} {vs : List Value} (x : Cls h b vs) (y : Ext h h') : Cls h' b vs := ⟨Nat.lt_of_lt_of_le x.1 y.size, fun i u hi => by rw [y.cellAt x.1 (by simp)]; exact x.2 i u hi⟩
theorem Cls.only {bs : List Nat} {h h' : Heap} {b : Nat} {vs : List Value} (x : Cls h b vs) (y : Only bs h h') (hb : b ∉ bs) : Cls h' b vs := ⟨Nat.lt_of_lt_of_le x.1 y.size, fun i u hi => by rw [y.cellAt x.1 hb]; exact x.2 i u hi⟩
theorem Blk.cls {h : Heap} {b : Nat} {vs : List Value} (x : Blk h b vs) : Cls h b vs := ⟨x.lt, fun i u hi => by rw [x.cell]; exact hi⟩

section
variable {P : Program} {n : Nat} {e : Env} {h : Heap} {d : Option Tmp} {t : TypeId} {pos : String} {af : Array Edge} {g : Option (Nat × Bool)}
variable {T T' E : TypeId} {x y : Operand} {v u : Value} {z b o m : Nat} {l l2 : List UInt8} {D : TypeDesc} {vs us : List Value}
theorem add_none_ (b o i : Nat) : (⟨b, o, none⟩ : Addr).add i = ⟨b, o + i, none⟩ := by
  unfold Addr.add; split <;> simp_all
/-! ### Arrays of bytes -/
theorem Y_arrall (hT : P.underlying T = some (.array m E)) (hE1 : (P.info? E).map (·.size) = some 1) (hm : m ≠ 0) (hx : ev e x = some (.pointer (some ⟨b, 0, none⟩))) :
    Yld P n e h ⟨d, .slice T x none none none, t, pos, af, g⟩ (.slice (some ⟨b, 0, none⟩) m m) := fun w a _ he => by
  have e2 : (⟨b, 0, none⟩ : Addr).add (0 * 1) = ⟨b, 0, none⟩ := by unfold Addr.add; split <;> simp_all
  simp only [execOp, he.eval hx, Option.map, Instr.sliceAt, Instr.sureAddr, Instr.sliceBounds, Instr.sliceBound, asIntOf, Sem.run_bind, Sem.run_pure, Result.andThen_ok, run_underlying hT, Sem.run_ite, if_neg hm, run_sizeOf w hE1, Option.isSome, Bool.false_eq_true, if_false, if_true, e2, Nat.sub_zero]
theorem ni_lt {a b : Nat} (h : a < b) : a ∉ [b] := by simp; omega
theorem ni_gt {a b : Nat} (h : b < a) : a ∉ [b] := by simp; omega
theorem Y_idxlit {k : IntKind} {p : Int} {off c : Nat} (hT : P.underlying T = some (.slice E)) (hE : (P.info? E).map (·.size) = some z) (hx : ev e x = some (.slice (some ⟨b, 0, none⟩) m c)) (hy : ev e y = some (.int k p)) (h0 : 0 ≤ p) (h1 : p < m) (ho : p.toNat * z = off) :
    Yld P n e h ⟨d, .indexAddr T x y, t, pos, af, g⟩ (.pointer (some ⟨b, off, none⟩)) := fun w a _ he => by
  have e2 : 0 ≤ p ∧ p < ((m : Nat) : Int) := ⟨h0, h1⟩
  have e1 : (⟨b, 0, none⟩ : Addr).add (p.toNat * z) = ⟨b, off, none⟩ := by rw [add_none_, ho, Nat.zero_add]
  simp only [execOp, he.eval hx, he.eval hy, Instr.indexAt, asIntOf, Sem.run_bind, Sem.run_pure, Result.andThen_ok, run_underlying hT, run_sizeOf w hE, Sem.run_ite, if_pos e2, e1]
/-! ### copy to a part of a block of bytes -/
/-- 's == nil'. -/
def isNilS : Value → Bool
  | .slice none _ _ => true
  | _ => false
theorem Y_slnil (hT : P.underlying T = some (.slice E)) (hx : ev e x = some v) (hb : Bytes h v l) : Yld P n e h ⟨d, .binOp .eql T x (.const (.slice none 0 0)) T', t, pos, af, g⟩ (.bool (isNilS v)) := fun w a _ he => by
  obtain ⟨⟨a0, cap, rfl, k1, k2, k3⟩, k4⟩ := hb
  have h1 := Lib.run_eql_slice_nil (P := P) w T E a0 l.length cap 0 0 hT
  have h2 : isNilS (.slice a0 l.length cap) = a0.isNone := by cases a0 <;> rfl
  rw [h2]
  have h3 : a.eval (.const (.slice none 0 0)) = .slice none 0 0 := rfl
  simp only [execOp, he.eval hx, h3, eqGuard, Sem.run_bind, Sem.run_pure, Result.andThen_ok, h1, Bool.not_true, Bool.false_eq_true, if_false, ite_self]
theorem isNil_nil (hb : Bytes h v l) (hn : isNilS v = true) : l = [] := by
  obtain ⟨⟨a0, cap, rfl, k1, k2, k3⟩, k4⟩ := hb
  cases a0 with
  | none => have := k2 rfl; exact List.eq_nil_of_length_eq_zero (by omega)
  | some ad => cases hn
end
end Go.Xp

/- What the program's package variables hold when the call begins. -/
namespace Go.Xp
/-- What the package variables hold. -/
structure GlbK (h : Heap) : Prop where
  g0 : Cls h 0 [str [108, 105, 110, 107, 112, 97, 116, 104], str [112, 97, 116, 104], str [115, 105, 122, 101]]
theorem GlbK.ext {h h' : Heap} (x : GlbK h) (y : Ext h h') : GlbK h' := ⟨x.g0.ext y⟩
end Go.Xp

/- Layer 2 (cstring): the walks of the program's functions and of its reference. -/
set_option linter.unusedSimpArgs false
set_option linter.unusedVariables false
namespace Go.Xp
open Go.Proofs

/-! ### Bytes -/
theorem step_ne {P : Nat → Prop} {i : Nat} (h : ∀ k, k < i → P k) (hi : P i) : ∀ k, k < i + 1 → P k := fun k hk => by
  rcases Nat.lt_succ_iff_lt_or_eq.1 hk with h1 | rfl
  · exact h k h1
  · exact hi
theorem indexByte_mem (l : List UInt8) (c : UInt8) : (0 ≤ Lib.indexByte l c) ↔ c ∈ l := by
  induction l with
  | nil => simp [Lib.indexByte]
  | cons a l ih =>
    simp only [Lib.indexByte, List.mem_cons]
    by_cases h : a = c
    · subst h; simp
    · have h2 : (a == c) = false := by simpa using h
      have h3 : ¬ c = a := fun h' => h h'.symm
      have := Lib.indexByte_ge l c
      rw [h2]
      simp only [Bool.false_eq_true, if_false, h3, false_or]
      rw [← ih]
      by_cases h1 : Lib.indexByte l c = -1
      · rw [h1]; simp
      · have h4 : (Lib.indexByte l c == -1) = false := by simpa using h1
        rw [h4]; simp only [Bool.false_eq_true, if_false]; omega

/-! ### What the layer answers -/
/-! ### Parse -/
end Go.Xp

/- strings.Repeat, by the shelf's contract. -/
set_option linter.unusedSimpArgs false
set_option linter.unusedVariables false
namespace Go.Xp
open Go.Proofs Go.RowKit

end Go.Xp

/- Layer 2 (cstring): the laws' own text. -/
set_option linter.unusedSimpArgs false
set_option linter.unusedVariables false
namespace Go.Xp
open Go.Proofs

end Go.Xp

/- Library functions on slices of bytes: slices.Clone, slices.Equal. -/
set_option linter.unusedSimpArgs false
set_option linter.unusedVariables false
namespace Go.Xp
open Go.Proofs

set_option maxRecDepth 100000 in
theorem slices_CloneB (h : Heap) (v : Value) (b : List UInt8) (hb : Bytes h v b) (hl : b.length ≤ 140737488355328) : Cal Tryd.prog 30 #[v] h (fun v h' => ∃ s0, v = s0 ∧ OwnB h' h.size s0 (b) ∧ Ext h h') := by
 refine Cal_enter (args := [v]) Tryd.func30 rfl rfl rfl (fun σ => ?_)
 refine Wr ?_
 refine Av ?_
 refine L_nil (X_then (W_seq (W_seq (W_region ?_))))
 refine Mv ?_
 refine Ly (Y_slnil Tryd.underlying28 rfl hb) ?_
 refine Nx ?_
 refine W_sub _ (tk3 4 2 0) ?_
 refine W_split rfl (fun c => ?_) (fun c => ?_)
 ·refine Wr ?_
  refine Av ?_
  refine Nx ?_
  refine W_sub _ (tk2 2 0) ?_
  refine W_ret (X_then_ret ?_)
  refine X_ret1 rfl rfl ?_
  exact ⟨_, rfl, by rw [isNil_nil hb c]; exact OwnB.nil _ _, (Ext.refl _)⟩
 refine Ws ?_
 refine W_sub _ (tk2 2 0) ?_
 refine Wr ?_
 refine L_mks (M_litb (l := ([] : List UInt8)) (cells := []) (pv := []) (E := 5) (evp (is := []) (os := []) (vs := []) rfl rfl) rfl rfl (fun _ => by kernel_rfl)) rfl rfl rfl ?_
 rintro v1 h1 ⟨ho2, hx3⟩
 refine Mv ?_
 refine L_mks (M_appb Tryd.underlying28 (by unfold elemRow; kernel_rfl) rfl rfl ho2 (hb.ext hx3) hx3.size (by first | omega | (simp; omega))) rfl rfl rfl ?_
 rintro v4 h2 ha5
 refine Av ?_
 refine Nx ?_
 refine W_sub _ (tk1 2) ?_
 refine W_ret ?_
 refine X_ret1 rfl rfl ?_
 exact ⟨_, rfl, (by simpa using (ha5.own).low (Nat.le_refl _)), (hx3.then' ha5.only ha5.ge (Nat.le_refl _))⟩

end Go.Xp
