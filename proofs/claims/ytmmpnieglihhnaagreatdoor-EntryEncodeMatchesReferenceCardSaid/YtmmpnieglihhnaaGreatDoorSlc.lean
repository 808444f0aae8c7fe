/- Library functions on slices of bytes: slices.Clone, slices.Equal. -/
import Derived.Test.YtmmpnieglihhnaaGreatDoorLib
import Derived.Test.YtmmpnieglihhnaaGreatDoorArr
import Derived.Test.YtmmpnieglihhnaaGreatDoorCstr
import Derived.Test.YtmmpnieglihhnaaGreatDoorProg
import Derived.KernelRfl
set_option linter.unusedSimpArgs false
set_option linter.unusedVariables false
namespace Go.Xp
open Go.Proofs

set_option maxRecDepth 100000 in
theorem slices_CloneB (h : Heap) (v : Value) (b : List UInt8) (hb : Bytes h v b) (hl : b.length ≤ 140737488355328) : Cal Tryz.prog 65 #[v] h (fun v h' => ∃ s0, v = s0 ∧ OwnB h' h.size s0 (b) ∧ Ext h h') := by
  refine Cal_enter (args := [v]) Tryz.func65 rfl rfl rfl (fun σ => ?_)
  refine W_seq ?_
  refine W_region ?_
  refine L_yld (Y_assign rfl) rfl rfl rfl ?_
  refine L_nil ?_
  refine X_then ?_
  refine W_seq ?_
  refine W_seq ?_
  refine W_region ?_
  refine L_yld (Y_move rfl) rfl rfl rfl ?_
  refine L_yld (Y_slnil Tryz.underlying24 rfl hb) rfl rfl rfl ?_
  refine L_nil ?_
  refine X_then ?_
  refine W_sub _ (.cons (i := 4) rfl (.cons (i := 2) rfl (.cons (i := 0) rfl (.nil _)))) ?_
  refine W_split rfl (fun c => ?_) (fun c => ?_)
  · refine W_seq ?_
    refine W_region ?_
    refine L_yld (Y_assign rfl) rfl rfl rfl ?_
    refine L_nil ?_
    refine X_then ?_
    refine W_sub _ (.cons (i := 2) rfl (.cons (i := 0) rfl (.nil _))) ?_
    refine W_ret ?_
    refine X_then_ret ?_
    refine X_ret1 rfl rfl ?_
    exact ⟨_, rfl, by rw [isNil_nil hb c]; exact OwnB.nil _ _, (Ext.refl _)⟩
  · refine W_skip ?_
    refine X_then ?_
    refine W_sub _ (.cons (i := 2) rfl (.cons (i := 0) rfl (.nil _))) ?_
    refine W_seq ?_
    refine W_region ?_
    refine L_mks (M_litb (l := ([] : List UInt8)) (cells := []) (pv := []) (E := 5) (evp (is := []) (os := []) (vs := []) rfl rfl) rfl rfl (fun _ => by kernel_rfl)) rfl rfl rfl ?_
    rintro v1 h1 ⟨ho2, hx3⟩
    refine L_yld (Y_move rfl) rfl rfl rfl ?_
    refine L_mks (M_appb Tryz.underlying24 (by unfold elemRow; kernel_rfl) rfl rfl ho2 (hb.ext hx3) hx3.size (by first | omega | (simp; omega))) rfl rfl rfl ?_
    rintro v4 h2 ha5
    refine L_yld (Y_assign rfl) rfl rfl rfl ?_
    refine L_nil ?_
    refine X_then ?_
    refine W_sub _ (.cons (i := 2) rfl (.nil _)) ?_
    refine W_ret ?_
    refine X_ret1 rfl rfl ?_
    exact ⟨_, rfl, (by simpa using (ha5.own).low (Nat.le_refl _)), (hx3.then' ha5.only ha5.ge (Nat.le_refl _))⟩

theorem byt_ext {a b : List UInt8} (hl : a.length = b.length) (h : ∀ k, k < a.length → byt a k = byt b k) : a = b := by
  apply List.ext_getElem hl
  intro i h1 h2
  have := h i h1
  rw [byt_eq h1, byt_eq h2] at this
  exact UInt8.toNat_inj.1 (by omega)


end Go.Xp
