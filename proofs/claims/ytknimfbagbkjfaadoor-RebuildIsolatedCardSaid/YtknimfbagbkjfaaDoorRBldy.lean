/- The card of 'RebuildIsolated': its row's frame, joined to the walk of the law's own text. -/
import Derived.Test.YtknimfbagbkjfaaDoorCards
import Derived.Test.YtknimfbagbkjfaaDoorTie
import Derived.Test.YtknimfbagbkjfaaDoorBldy
import Derived.Test.YtknimfbagbkjfaaDoorLaidN
import Derived.WalkKit
import Derived.ProofKit
import Derived.OpenShut
import Derived.ShutString
import Derived.ChangeOld
import Derived.Below
import Derived.SizedLaws
import Derived.Deep.DeepHandedRow
import Derived.Lib.LaidTab
namespace Go.Proofs.YtknimfbagbkjfaaDoor.rebuildIsolatedDone
open Go.ChangeShapes Go.WideShapes Go.ChangeAt Go.RowKit Go.Xp
set_option linter.unusedVariables false

theorem own : ownKnob Tryd.prog.godebug = none := by kernel_rfl
theorem laidOut : laidOutB Tryd.prog = true := by kernel_rfl

set_option maxRecDepth 100000 in
theorem glob {W : World} (h : laidMetH Tryd.prog Rows.rebuildIsolatedRow.laid W) : GlbK W.heap ∧ GlbE W.heap := by
  have h' : laidMet Tryd.prog Rows.rebuildIsolatedRow.laid W := by
    have e : (Rows.rebuildIsolatedRow.laid.filter fun x => x.2.handleName?.isSome) = [] := by rfl
    unfold laidMetH at h; rw [e] at h; exact h
  obtain ⟨ps, hl, _⟩ := h'
  obtain ⟨g0, t0, cs0, u0, p0, q0, hg0, ht0, hv0, hd0, l0, _⟩ := hl
  obtain ⟨g1, t1, cs1, u1, p1, q1, hg1, ht1, hv1, hd1, l1, _⟩ := l0
  obtain ⟨g2, t2, cs2, u2, p2, q2, hg2, ht2, hv2, hd2, l2, _⟩ := l1
  obtain ⟨g3, t3, cs3, u3, p3, q3, hg3, ht3, hv3, hd3, l3, _⟩ := l2
  obtain rfl : g3 = 3 := Option.some.inj (hg3.symm.trans (by kernel_rfl))
  obtain rfl : t3 = 107 := Option.some.inj (ht3.symm.trans (by kernel_rfl))
  have c3 := ifc_of_laid hg3 Tryd.underlying107 hv3 hd3
  obtain ⟨g4, t4, cs4, u4, p4, q4, hg4, ht4, hv4, hd4, l4, _⟩ := l3
  obtain ⟨g5, t5, cs5, u5, p5, q5, hg5, ht5, hv5, hd5, l5, _⟩ := l4
  obtain rfl : g5 = 0 := Option.some.inj (hg5.symm.trans (by kernel_rfl))
  obtain rfl : t5 = 97 := Option.some.inj (ht5.symm.trans (by kernel_rfl))
  have c5 := cls_of_laid (lits := [(.string [108, 105, 110, 107, 112, 97, 116, 104]), (.string [112, 97, 116, 104]), (.string [115, 105, 122, 101])]) hg5 (show flatT Tryd.prog 4 97 = some [.str, .str, .str] by kernel_rfl) rfl hv5 hd5 (by decide)
  exact ⟨⟨⟨cellAt_lt (b := 0) (o := 0) (by rw [← cell?_cellAt]; exact c5 0 _ rfl), fun i u hi => by rw [← cell?_cellAt]; exact c5 i u hi⟩⟩, ⟨c3⟩⟩

noncomputable def laidWorld (os : Os) : World :=
  { World.holding Tryd.prog os ⟨#[], #[], []⟩ with heap := (((((((((World.holding Tryd.prog os ⟨#[], #[], []⟩).heap.modify 5 fun | .cells _ t frozen => .cells #[.int .u8 0, .int .u8 1, .int .u8 28, .int .u8 2, .int .u8 29, .int .u8 14, .int .u8 24, .int .u8 3, .int .u8 30, .int .u8 22, .int .u8 20, .int .u8 15, .int .u8 25, .int .u8 17, .int .u8 4, .int .u8 8, .int .u8 31, .int .u8 27, .int .u8 13, .int .u8 23, .int .u8 21, .int .u8 19, .int .u8 16, .int .u8 7, .int .u8 26, .int .u8 12, .int .u8 18, .int .u8 6, .int .u8 11, .int .u8 5, .int .u8 10, .int .u8 9] t frozen | o => o).modify 6 fun | .cells _ t frozen => .cells #[.int .u8 0, .int .u8 1, .int .u8 56, .int .u8 2, .int .u8 57, .int .u8 49, .int .u8 28, .int .u8 3, .int .u8 61, .int .u8 58, .int .u8 42, .int .u8 50, .int .u8 38, .int .u8 29, .int .u8 17, .int .u8 4, .int .u8 62, .int .u8 47, .int .u8 59, .int .u8 36, .int .u8 45, .int .u8 43, .int .u8 51, .int .u8 22, .int .u8 53, .int .u8 39, .int .u8 33, .int .u8 30, .int .u8 24, .int .u8 18, .int .u8 12, .int .u8 5, .int .u8 63, .int .u8 55, .int .u8 48, .int .u8 27, .int .u8 60, .int .u8 41, .int .u8 37, .int .u8 16, .int .u8 46, .int .u8 35, .int .u8 44, .int .u8 21, .int .u8 52, .int .u8 32, .int .u8 23, .int .u8 11, .int .u8 54, .int .u8 26, .int .u8 40, .int .u8 15, .int .u8 34, .int .u8 20, .int .u8 31, .int .u8 10, .int .u8 25, .int .u8 14, .int .u8 19, .int .u8 9, .int .u8 13, .int .u8 8, .int .u8 7, .int .u8 6] t frozen | o => o).modify 4 fun | .cells _ t frozen => .cells #[.int .u64 1, .int .u64 10, .int .u64 100, .int .u64 1000, .int .u64 10000, .int .u64 100000, .int .u64 1000000, .int .u64 10000000, .int .u64 100000000, .int .u64 1000000000, .int .u64 10000000000, .int .u64 100000000000, .int .u64 1000000000000, .int .u64 10000000000000, .int .u64 100000000000000, .int .u64 1000000000000000, .int .u64 10000000000000000, .int .u64 100000000000000000, .int .u64 1000000000000000000, .int .u64 10000000000000000000] t frozen | o => o).modify 3 fun | .cells _ t frozen => .cells #[.iface 126 (.pointer (some ⟨(World.holding Tryd.prog os ⟨#[], #[], []⟩).heap.size + 0, 0, none⟩))] t frozen | o => o).modify 2 fun | .cells _ t frozen => .cells #[.iface 126 (.pointer (some ⟨(World.holding Tryd.prog os ⟨#[], #[], []⟩).heap.size + 1, 0, none⟩))] t frozen | o => o).modify 0 fun | .cells _ t frozen => .cells #[str [108, 105, 110, 107, 112, 97, 116, 104], str [112, 97, 116, 104], str [115, 105, 122, 101]] t frozen | o => o).push (.cells #[str [118, 97, 108, 117, 101, 32, 111, 117, 116, 32, 111, 102, 32, 114, 97, 110, 103, 101]] 128 (0, 0))).push (.cells #[str [105, 110, 118, 97, 108, 105, 100, 32, 115, 121, 110, 116, 97, 120]] 128 (0, 0))) }
set_option maxRecDepth 100000 in
theorem laid_met (os : Os) : laidMet Tryd.prog Rows.rebuildIsolatedRow.laid ((laidWorld os).forCall (fun _ _ => 0) ⟨#[], #[.slice none 0 0], []⟩).memory :=
  laidMet_of_run' 8 (by kernel_rfl) (by kernel_rfl)
set_option maxRecDepth 100000 in
theorem reads (os : Os) {H : Type} (enc : TypeId × Value → H) : ∃ places, DataW.whole enc Tryd.prog ((laidWorld os).forCall (fun _ _ => 0) ⟨#[], #[.slice none 0 0], []⟩).memory Tryd.f4.params.toList Rows.rebuildIsolatedSpec.vars false (#[.slice none 0 0] : Array Value).toList 8 = some ([.nil], [], places) :=
  ⟨[], by kernel_rfl⟩

set_option maxRecDepth 100000 in
theorem lifted (os : Os) (started : os.Started) (H : Type) (enc : TypeId × Value → H) (F : Stop.Interp) :
    ReturnsInHanded {} Tryd.checked os 4 .any ((OpenSpec.ofChange Rows.rebuildIsolatedSpec).preRow enc Tryd.prog Tryd.f4 Rows.rebuildIsolatedRow.domain false Rows.rebuildIsolatedRow.laid) (((OpenSpec.ofChange Rows.rebuildIsolatedSpec).at F).post enc Tryd.prog Tryd.f4 false true false false) := by
  obtain ⟨places, hx⟩ := reads os enc
  refine returnsInHanded_of_row (C := Tryd.checked) (s := (OpenSpec.ofChange Rows.rebuildIsolatedSpec)) own started (by kernel_rfl) Tryd.func4
    (witness_row_at (enc := enc) (C := Tryd.checked) false (laidWorld os) #[.slice none 0 0] rfl (by kernel_rfl) (by kernel_rfl) (by kernel_rfl)
      (OpenSpec.preRow_of_cond 8 hx (by kernel_rfl) (fun k hk => by cases hk) (by kernel_rfl) (laid_met os))) ?_
  intro W base args ds gs before hval0 hW _ hcond hsz hL _ _
  have hval : ∀ (j : Nat) t v, Tryd.f4.params[j]? = some t → args[j]? = some v → Value.okWide Tryd.prog W .any base t v := hval0
  have hW' := hW
  obtain ⟨p, q, hA0, hV, rfl, hfz, hnd⟩ := hW
  have hA : DataW.TrodAll enc Tryd.prog W 0 (fun _ => true) true Tryd.f4.params.toList args.toList ds p := hA0
  rw [Tryd.params4] at hA hval
  obtain ⟨v0, vs0, d0, ds0, p0, q0, hargs, rfl, rfl, h0, r0⟩ := trodAll_cons hA
  obtain ⟨rfl, rfl, rfl⟩ := trodAll_nil r0
  obtain rfl : args = #[v0] := by cases args; simp_all
  obtain ⟨rfl, rfl⟩ := trodVars_none hV
  simp only [List.append_nil] at hsz
  have k0 := h0
  have lt0 : ∀ x ∈ p0, x.block < W.heap.size := by obtain ⟨m, hm⟩ := k0; exact DataW.trod_lt m _ _ _ hm
  obtain ⟨fu0, hf0⟩ := h0
  obtain ⟨sa0, sl0, sc0, rfl⟩ := okWide_slice Tryd.underlying32 (hval 0 32 v0 rfl rfl)
  have rd0 := read_of (R := reachBytes) 6 32 [.sl [.int .i64, .str, .int .i64, .str, .sl [.int .u8], .int .i64]] (by kernel_rfl) fu0 _ _ _ hf0 (fun k hk => by simpa using List.all_eq_true.1 hsz k (DataW.weights_mem_each (j := 0) (t := 32) rfl rfl _ hk))
  obtain ⟨u0_0, c0_0, l0_0, m0_0, e0_0, f0_0, y0_0, z0_0⟩ := rd0.uncons
  obtain ⟨en0, _⟩ := z0_0.fin
  rw [en0] at e0_0
  obtain rfl : _ = u0_0 := by simpa [Value.cells] using e0_0
  obtain ⟨a0_0, ba0_0, wa0_0⟩ := rd_nodes y0_0
  have rba0_0 := Go.Xp.row_bytes Tryd.underlying32 hf0 (R := reachBytes) (fun k hk => by simpa using List.all_eq_true.1 hsz k (DataW.weights_mem_each (j := 0) (t := 32) rfl rfl _ hk)) rfl ba0_0
  rw [show Tryd.prog.bytesOf 48 = 80 by kernel_rfl] at rba0_0
  replace rba0_0 : a0_0.length * 80 ≤ 140737488355328 := Nat.le_trans rba0_0 (by decide)
  refine (law_of_cal (rebuildIsolated W.heap (glob hL).1 (glob hL).2 _ a0_0 ba0_0 rba0_0 (fun r hr => ⟨Nat.le_trans (wa0_0.2 r hr).1 (by decide), Nat.le_trans (wa0_0.2 r hr).2.1 (by decide), Nat.le_trans (wa0_0.2 r hr).2.2 (by decide)⟩))).mono fun e W' ⟨he, bel⟩ => ?_
  subst he
  exact ⟨_, rfl, _, _, _, [], _, [], hW', trodAll_mk1 (shut_bool Tryd.underlying4 _), (trodAll_cons_mk (Below.trod laidOut (by kernel_rfl) (of_decide_eq_true (by kernel_rfl)) k0 bel lt0) trodAll_mk0), rfl, bel.frame _, fun h => by cases h⟩

theorem said : Rows.RebuildIsolatedSaid :=
  OpenClaim.holds_of_cond 4 Tryd.f4 rfl rfl rfl rfl rfl rfl rfl ⟨rfl, rfl, rfl, rfl, rfl⟩ rfl rfl rfl rfl rfl (by kernel_rfl) Tryd.func4 (by kernel_rfl)
    (of_decide_eq_true (by kernel_rfl)) (by unfold Func.isWrapper; first | (rw [if_pos (by decide +kernel)]; kernel_rfl) | (rw [if_neg (by decide +kernel)]; exact ⟨rfl, rfl⟩))
    (fun os started H enc _ F => by rw [OpenClaim.pre_eq_preRow]; exact lifted os started H enc F)
theorem plain (f : FuncId) (fn : Func) (hf : Tryd.pinned.checked.prog.funcNamed "paxtar/paxtarlaw15.RebuildIsolated" = some f) (hfn : Tryd.pinned.checked.prog.funcs[f]? = some fn) :
    true = Tryd.pinned.checked.prog.looks [] ∧ ∀ (j : Nat) t, fn.params[j]? = some t → Tryd.pinned.checked.prog.wantsStandIn t = false := by
  obtain rfl : f = 4 := Option.some.inj ((show Tryd.prog.funcNamed "paxtar/paxtarlaw15.RebuildIsolated" = some 4 by kernel_rfl).symm.trans hf) |>.symm
  obtain rfl : fn = Tryd.f4 := (Option.some.inj (Tryd.func4.symm.trans hfn)).symm
  refine ⟨by kernel_rfl, fun j t ht => ?_⟩
  rw [Tryd.params4] at ht
  have hm := Array.mem_of_getElem? ht
  simp only [List.mem_toArray, List.mem_cons, List.not_mem_nil, or_false] at hm
  subst hm; exact (show Tryd.prog.wantsStandIn 32 = false by kernel_rfl)
theorem card : Rows.RebuildIsolatedCardSaid :=
  Claim7.holds_tied_plain_at .later [] _ _ _ _ said (fun _ h => by cases h) (by kernel_rfl) (fun _ h => by cases h) rebuildIsolated_row_tie rfl ⟨rfl, rfl⟩ (by kernel_rfl) rfl plain (by kernel_rfl)
end Go.Proofs.YtknimfbagbkjfaaDoor.rebuildIsolatedDone
namespace Go.Proofs.YtknimfbagbkjfaaDoor
theorem rebuildIsolatedProved : Rows.RebuildIsolatedCardSaid := rebuildIsolatedDone.card
end Go.Proofs.YtknimfbagbkjfaaDoor
