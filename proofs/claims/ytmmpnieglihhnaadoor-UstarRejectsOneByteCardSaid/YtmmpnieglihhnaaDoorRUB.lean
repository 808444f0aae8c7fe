/- The card of 'UstarRejectsOneByte': its row's frame, joined to the walk of the law's own text. -/
import Derived.Test.YtmmpnieglihhnaaDoorCards
import Derived.Test.YtmmpnieglihhnaaDoorTie
import Derived.Test.YtmmpnieglihhnaaDoorUstJ
import Derived.Test.YtmmpnieglihhnaaDoorLaid
import Derived.WalkKit
import Derived.ProofKit
import Derived.OpenShut
import Derived.ShutString
import Derived.ChangeOld
import Derived.Below
import Derived.SizedLaws
import Derived.Deep.DeepHandedRow
import Derived.Lib.LaidTab
namespace Go.Proofs.YtmmpnieglihhnaaDoor.ustarRejectsOneByteDone
open Go.ChangeShapes Go.WideShapes Go.ChangeAt Go.RowKit Go.Xp
set_option linter.unusedVariables false

theorem own : ownKnob Tryd.prog.godebug = none := by kernel_rfl
theorem laidOut : laidOutB Tryd.prog = true := by kernel_rfl

set_option maxRecDepth 100000 in
theorem glob {W : World} (h : laidMetH Tryd.prog Rows.ustarRejectsOneByteRow.laid W) : Glb W.heap := by
  have h' : laidMet Tryd.prog Rows.ustarRejectsOneByteRow.laid W := by
    have e : (Rows.ustarRejectsOneByteRow.laid.filter fun x => x.2.handleName?.isSome) = [] := by rfl
    unfold laidMetH at h; rw [e] at h; exact h
  obtain ⟨ps, hl, _⟩ := h'
  obtain ⟨g0, t0, cs0, u0, p0, q0, hg0, ht0, hv0, hd0, l0, _⟩ := hl
  obtain rfl : g0 = 2 := Option.some.inj (hg0.symm.trans (by kernel_rfl))
  obtain rfl : t0 = 70 := Option.some.inj (ht0.symm.trans (by kernel_rfl))
  have c0 := cls_of_laid (lits := [(.int .i64 0), (.int .i64 100)]) hg0 (show flatT Tryd.prog 4 70 = some [.int .i64, .int .i64] by kernel_rfl) rfl hv0 hd0 (by decide)
  obtain ⟨g1, t1, cs1, u1, p1, q1, hg1, ht1, hv1, hd1, l1, _⟩ := l0
  obtain rfl : g1 = 5 := Option.some.inj (hg1.symm.trans (by kernel_rfl))
  obtain rfl : t1 = 70 := Option.some.inj (ht1.symm.trans (by kernel_rfl))
  have c1 := cls_of_laid (lits := [(.int .i64 100), (.int .i64 8)]) hg1 (show flatT Tryd.prog 4 70 = some [.int .i64, .int .i64] by kernel_rfl) rfl hv1 hd1 (by decide)
  obtain ⟨g2, t2, cs2, u2, p2, q2, hg2, ht2, hv2, hd2, l2, _⟩ := l1
  obtain rfl : g2 = 8 := Option.some.inj (hg2.symm.trans (by kernel_rfl))
  obtain rfl : t2 = 70 := Option.some.inj (ht2.symm.trans (by kernel_rfl))
  have c2 := cls_of_laid (lits := [(.int .i64 108), (.int .i64 8)]) hg2 (show flatT Tryd.prog 4 70 = some [.int .i64, .int .i64] by kernel_rfl) rfl hv2 hd2 (by decide)
  obtain ⟨g3, t3, cs3, u3, p3, q3, hg3, ht3, hv3, hd3, l3, _⟩ := l2
  obtain rfl : g3 = 9 := Option.some.inj (hg3.symm.trans (by kernel_rfl))
  obtain rfl : t3 = 70 := Option.some.inj (ht3.symm.trans (by kernel_rfl))
  have c3 := cls_of_laid (lits := [(.int .i64 116), (.int .i64 8)]) hg3 (show flatT Tryd.prog 4 70 = some [.int .i64, .int .i64] by kernel_rfl) rfl hv3 hd3 (by decide)
  obtain ⟨g4, t4, cs4, u4, p4, q4, hg4, ht4, hv4, hd4, l4, _⟩ := l3
  obtain rfl : g4 = 6 := Option.some.inj (hg4.symm.trans (by kernel_rfl))
  obtain rfl : t4 = 70 := Option.some.inj (ht4.symm.trans (by kernel_rfl))
  have c4 := cls_of_laid (lits := [(.int .i64 124), (.int .i64 12)]) hg4 (show flatT Tryd.prog 4 70 = some [.int .i64, .int .i64] by kernel_rfl) rfl hv4 hd4 (by decide)
  obtain ⟨g5, t5, cs5, u5, p5, q5, hg5, ht5, hv5, hd5, l5, _⟩ := l4
  obtain rfl : g5 = 10 := Option.some.inj (hg5.symm.trans (by kernel_rfl))
  obtain rfl : t5 = 70 := Option.some.inj (ht5.symm.trans (by kernel_rfl))
  have c5 := cls_of_laid (lits := [(.int .i64 136), (.int .i64 12)]) hg5 (show flatT Tryd.prog 4 70 = some [.int .i64, .int .i64] by kernel_rfl) rfl hv5 hd5 (by decide)
  obtain ⟨g6, t6, cs6, u6, p6, q6, hg6, ht6, hv6, hd6, l6, _⟩ := l5
  obtain rfl : g6 = 1 := Option.some.inj (hg6.symm.trans (by kernel_rfl))
  obtain rfl : t6 = 70 := Option.some.inj (ht6.symm.trans (by kernel_rfl))
  have c6 := cls_of_laid (lits := [(.int .i64 156), (.int .i64 1)]) hg6 (show flatT Tryd.prog 4 70 = some [.int .i64, .int .i64] by kernel_rfl) rfl hv6 hd6 (by decide)
  obtain ⟨g7, t7, cs7, u7, p7, q7, hg7, ht7, hv7, hd7, l7, _⟩ := l6
  obtain rfl : g7 = 3 := Option.some.inj (hg7.symm.trans (by kernel_rfl))
  obtain rfl : t7 = 70 := Option.some.inj (ht7.symm.trans (by kernel_rfl))
  have c7 := cls_of_laid (lits := [(.int .i64 157), (.int .i64 100)]) hg7 (show flatT Tryd.prog 4 70 = some [.int .i64, .int .i64] by kernel_rfl) rfl hv7 hd7 (by decide)
  obtain ⟨g8, t8, cs8, u8, p8, q8, hg8, ht8, hv8, hd8, l8, _⟩ := l7
  obtain rfl : g8 = 7 := Option.some.inj (hg8.symm.trans (by kernel_rfl))
  obtain rfl : t8 = 70 := Option.some.inj (ht8.symm.trans (by kernel_rfl))
  have c8 := cls_of_laid (lits := [(.int .i64 257), (.int .i64 8)]) hg8 (show flatT Tryd.prog 4 70 = some [.int .i64, .int .i64] by kernel_rfl) rfl hv8 hd8 (by decide)
  obtain ⟨g9, t9, cs9, u9, p9, q9, hg9, ht9, hv9, hd9, l9, _⟩ := l8
  obtain rfl : g9 = 11 := Option.some.inj (hg9.symm.trans (by kernel_rfl))
  obtain rfl : t9 = 70 := Option.some.inj (ht9.symm.trans (by kernel_rfl))
  have c9 := cls_of_laid (lits := [(.int .i64 329), (.int .i64 8)]) hg9 (show flatT Tryd.prog 4 70 = some [.int .i64, .int .i64] by kernel_rfl) rfl hv9 hd9 (by decide)
  obtain ⟨g10, t10, cs10, u10, p10, q10, hg10, ht10, hv10, hd10, l10, _⟩ := l9
  obtain rfl : g10 = 12 := Option.some.inj (hg10.symm.trans (by kernel_rfl))
  obtain rfl : t10 = 70 := Option.some.inj (ht10.symm.trans (by kernel_rfl))
  have c10 := cls_of_laid (lits := [(.int .i64 337), (.int .i64 8)]) hg10 (show flatT Tryd.prog 4 70 = some [.int .i64, .int .i64] by kernel_rfl) rfl hv10 hd10 (by decide)
  obtain ⟨g11, t11, cs11, u11, p11, q11, hg11, ht11, hv11, hd11, l11, _⟩ := l10
  obtain rfl : g11 = 4 := Option.some.inj (hg11.symm.trans (by kernel_rfl))
  obtain rfl : t11 = 70 := Option.some.inj (ht11.symm.trans (by kernel_rfl))
  have c11 := cls_of_laid (lits := [(.int .i64 345), (.int .i64 155)]) hg11 (show flatT Tryd.prog 4 70 = some [.int .i64, .int .i64] by kernel_rfl) rfl hv11 hd11 (by decide)
  exact ⟨⟨cellAt_lt (b := 2) (o := 0) (by rw [← cell?_cellAt]; exact c0 0 _ rfl), fun i u hi => by rw [← cell?_cellAt]; exact c0 i u hi⟩, ⟨cellAt_lt (b := 5) (o := 0) (by rw [← cell?_cellAt]; exact c1 0 _ rfl), fun i u hi => by rw [← cell?_cellAt]; exact c1 i u hi⟩, ⟨cellAt_lt (b := 8) (o := 0) (by rw [← cell?_cellAt]; exact c2 0 _ rfl), fun i u hi => by rw [← cell?_cellAt]; exact c2 i u hi⟩, ⟨cellAt_lt (b := 9) (o := 0) (by rw [← cell?_cellAt]; exact c3 0 _ rfl), fun i u hi => by rw [← cell?_cellAt]; exact c3 i u hi⟩, ⟨cellAt_lt (b := 6) (o := 0) (by rw [← cell?_cellAt]; exact c4 0 _ rfl), fun i u hi => by rw [← cell?_cellAt]; exact c4 i u hi⟩, ⟨cellAt_lt (b := 10) (o := 0) (by rw [← cell?_cellAt]; exact c5 0 _ rfl), fun i u hi => by rw [← cell?_cellAt]; exact c5 i u hi⟩, ⟨cellAt_lt (b := 1) (o := 0) (by rw [← cell?_cellAt]; exact c6 0 _ rfl), fun i u hi => by rw [← cell?_cellAt]; exact c6 i u hi⟩, ⟨cellAt_lt (b := 3) (o := 0) (by rw [← cell?_cellAt]; exact c7 0 _ rfl), fun i u hi => by rw [← cell?_cellAt]; exact c7 i u hi⟩, ⟨cellAt_lt (b := 7) (o := 0) (by rw [← cell?_cellAt]; exact c8 0 _ rfl), fun i u hi => by rw [← cell?_cellAt]; exact c8 i u hi⟩, ⟨cellAt_lt (b := 11) (o := 0) (by rw [← cell?_cellAt]; exact c9 0 _ rfl), fun i u hi => by rw [← cell?_cellAt]; exact c9 i u hi⟩, ⟨cellAt_lt (b := 12) (o := 0) (by rw [← cell?_cellAt]; exact c10 0 _ rfl), fun i u hi => by rw [← cell?_cellAt]; exact c10 i u hi⟩, ⟨cellAt_lt (b := 4) (o := 0) (by rw [← cell?_cellAt]; exact c11 0 _ rfl), fun i u hi => by rw [← cell?_cellAt]; exact c11 i u hi⟩⟩

noncomputable def laidWorld (os : Os) : World :=
  { World.holding Tryd.prog os ⟨#[], #[], []⟩ with heap := (((((((((((((World.holding Tryd.prog os ⟨#[], #[], []⟩).heap.modify 2 fun | .cells _ t frozen => .cells #[.int .i64 0, .int .i64 100] t frozen | o => o).modify 5 fun | .cells _ t frozen => .cells #[.int .i64 100, .int .i64 8] t frozen | o => o).modify 8 fun | .cells _ t frozen => .cells #[.int .i64 108, .int .i64 8] t frozen | o => o).modify 9 fun | .cells _ t frozen => .cells #[.int .i64 116, .int .i64 8] t frozen | o => o).modify 6 fun | .cells _ t frozen => .cells #[.int .i64 124, .int .i64 12] t frozen | o => o).modify 10 fun | .cells _ t frozen => .cells #[.int .i64 136, .int .i64 12] t frozen | o => o).modify 1 fun | .cells _ t frozen => .cells #[.int .i64 156, .int .i64 1] t frozen | o => o).modify 3 fun | .cells _ t frozen => .cells #[.int .i64 157, .int .i64 100] t frozen | o => o).modify 7 fun | .cells _ t frozen => .cells #[.int .i64 257, .int .i64 8] t frozen | o => o).modify 11 fun | .cells _ t frozen => .cells #[.int .i64 329, .int .i64 8] t frozen | o => o).modify 12 fun | .cells _ t frozen => .cells #[.int .i64 337, .int .i64 8] t frozen | o => o).modify 4 fun | .cells _ t frozen => .cells #[.int .i64 345, .int .i64 155] t frozen | o => o) }
set_option maxRecDepth 100000 in
theorem laid_met (os : Os) : laidMet Tryd.prog Rows.ustarRejectsOneByteRow.laid ((laidWorld os).forCall (fun _ _ => 0) ⟨#[], #[.agg #[.int .u8 0, .string ByteArray.empty, .string ByteArray.empty, .string ByteArray.empty, .int .i64 0, .int .i64 0], .int .u16 0, .int .u8 0], []⟩).memory :=
  laidMet_of_run' 8 (by kernel_rfl) (by kernel_rfl)
set_option maxRecDepth 100000 in
theorem reads (os : Os) {H : Type} (enc : TypeId × Value → H) : ∃ places, DataW.whole enc Tryd.prog ((laidWorld os).forCall (fun _ _ => 0) ⟨#[], #[.agg #[.int .u8 0, .string ByteArray.empty, .string ByteArray.empty, .string ByteArray.empty, .int .i64 0, .int .i64 0], .int .u16 0, .int .u8 0], []⟩).memory Tryd.f6.params.toList Rows.ustarRejectsOneByteSpec.vars false (#[.agg #[.int .u8 0, .string ByteArray.empty, .string ByteArray.empty, .string ByteArray.empty, .int .i64 0, .int .i64 0], .int .u16 0, .int .u8 0] : Array Value).toList 8 = some ([.agg [.lit (.int .u8 0), .lit (.string []), .lit (.string []), .lit (.string []), .lit (.int .i64 0), .lit (.int .i64 0)], .lit (.int .u16 0), .lit (.int .u8 0)], [], places) :=
  ⟨[], by kernel_rfl⟩

set_option maxRecDepth 100000 in
theorem lifted (os : Os) (started : os.Started) (H : Type) (enc : TypeId × Value → H) (F : Stop.Interp) :
    ReturnsInHanded {} Tryd.checked os 6 .any ((OpenSpec.ofChange Rows.ustarRejectsOneByteSpec).preRow enc Tryd.prog Tryd.f6 Rows.ustarRejectsOneByteRow.domain false Rows.ustarRejectsOneByteRow.laid) (((OpenSpec.ofChange Rows.ustarRejectsOneByteSpec).at F).post enc Tryd.prog Tryd.f6 false true false false) := by
  obtain ⟨places, hx⟩ := reads os enc
  refine returnsInHanded_of_row (C := Tryd.checked) (s := (OpenSpec.ofChange Rows.ustarRejectsOneByteSpec)) own started (by kernel_rfl) Tryd.func6
    (witness_row_at (enc := enc) (C := Tryd.checked) false (laidWorld os) #[.agg #[.int .u8 0, .string ByteArray.empty, .string ByteArray.empty, .string ByteArray.empty, .int .i64 0, .int .i64 0], .int .u16 0, .int .u8 0] rfl (by kernel_rfl) (by kernel_rfl) (by kernel_rfl)
      (OpenSpec.preRow_of_cond 8 hx (by kernel_rfl) (fun k hk => by cases hk) (by kernel_rfl) (laid_met os))) ?_
  intro W base args ds gs before hval0 hW _ hcond hsz hL _ _
  have hval : ∀ (j : Nat) t v, Tryd.f6.params[j]? = some t → args[j]? = some v → Value.okWide Tryd.prog W .any base t v := hval0
  have hW' := hW
  obtain ⟨p, q, hA0, hV, rfl, hfz, hnd⟩ := hW
  have hA : DataW.TrodAll enc Tryd.prog W 0 (fun _ => true) true Tryd.f6.params.toList args.toList ds p := hA0
  rw [Tryd.params6] at hA hval
  obtain ⟨v0, vs0, d0, ds0, p0, q0, hargs, rfl, rfl, h0, r0⟩ := trodAll_cons hA
  obtain ⟨v1, vs1, d1, ds1, p1, q1, rfl, rfl, rfl, h1, r1⟩ := trodAll_cons r0
  obtain ⟨v2, vs2, d2, ds2, p2, q2, rfl, rfl, rfl, h2, r2⟩ := trodAll_cons r1
  obtain ⟨rfl, rfl, rfl⟩ := trodAll_nil r2
  obtain rfl : args = #[v0, v1, v2] := by cases args; simp_all
  obtain ⟨rfl, rfl⟩ := trodVars_none hV
  simp only [List.append_nil] at hsz
  have k0 := h0
  have lt0 : ∀ x ∈ p0, x.block < W.heap.size := by obtain ⟨m, hm⟩ := k0; exact DataW.trod_lt m _ _ _ hm
  obtain ⟨fu0, hf0⟩ := h0
  obtain ⟨cs0, rfl, _⟩ := okWide_struct Tryd.underlying32 (hval 0 32 v0 rfl rfl)
  have rd0 := read_of (R := reachBytes) 6 32 [.int .u8, .str, .str, .str, .int .i64, .int .i64] (by kernel_rfl) fu0 _ _ _ hf0 (fun k hk => by simpa using List.all_eq_true.1 hsz k (DataW.weights_mem_each (j := 0) (t := 32) rfl rfl _ hk))
  obtain ⟨u0_0, c0_0, l0_0, m0_0, e0_0, _, y0_0, z0_0⟩ := rd0.uncons
  obtain ⟨u0_1, c0_1, l0_1, m0_1, e0_1, _, y0_1, z0_1⟩ := z0_0.uncons
  obtain ⟨u0_2, c0_2, l0_2, m0_2, e0_2, _, y0_2, z0_2⟩ := z0_1.uncons
  obtain ⟨u0_3, c0_3, l0_3, m0_3, e0_3, _, y0_3, z0_3⟩ := z0_2.uncons
  obtain ⟨u0_4, c0_4, l0_4, m0_4, e0_4, _, y0_4, z0_4⟩ := z0_3.uncons
  obtain ⟨u0_5, c0_5, l0_5, m0_5, e0_5, _, y0_5, z0_5⟩ := z0_4.uncons
  obtain ⟨en0, _⟩ := z0_5.fin
  obtain ⟨cl0⟩ := cs0
  simp only [Value.cells] at e0_0
  rw [e0_1, e0_2, e0_3, e0_4, e0_5, en0] at e0_0
  subst e0_0
  obtain ⟨a0_0, rfl, _, wa0_0⟩ := rd_int y0_0
  obtain ⟨a0_1, rfl, _, wa0_1⟩ := rd_str y0_1
  obtain ⟨a0_2, rfl, _, wa0_2⟩ := rd_str y0_2
  obtain ⟨a0_3, rfl, _, wa0_3⟩ := rd_str y0_3
  obtain ⟨a0_4, rfl, _, wa0_4⟩ := rd_int y0_4
  obtain ⟨a0_5, rfl, _, wa0_5⟩ := rd_int y0_5
  have k1 := h1
  have lt1 : ∀ x ∈ p1, x.block < W.heap.size := by obtain ⟨m, hm⟩ := k1; exact DataW.trod_lt m _ _ _ hm
  obtain ⟨fu1, hf1⟩ := h1
  obtain ⟨sa1, rfl⟩ := okWide_int Tryd.underlying48 (hval 1 48 v1 rfl rfl)
  have rd1 := read_of (R := reachBytes) 6 48 [.int .u16] (by kernel_rfl) fu1 _ _ _ hf1 (fun k hk => by simpa using List.all_eq_true.1 hsz k (DataW.weights_mem_each (j := 1) (t := 48) rfl rfl _ hk))
  obtain ⟨u1_0, c1_0, l1_0, m1_0, e1_0, _, y1_0, z1_0⟩ := rd1.uncons
  obtain ⟨en1, _⟩ := z1_0.fin
  rw [en1] at e1_0
  obtain rfl : _ = u1_0 := by simpa [Value.cells] using e1_0
  obtain ⟨a1_0, qa1_0, _, wa1_0⟩ := rd_int y1_0
  obtain rfl := (Value.int.inj qa1_0).2
  have k2 := h2
  have lt2 : ∀ x ∈ p2, x.block < W.heap.size := by obtain ⟨m, hm⟩ := k2; exact DataW.trod_lt m _ _ _ hm
  obtain ⟨fu2, hf2⟩ := h2
  obtain ⟨sa2, rfl⟩ := okWide_int Tryd.underlying5 (hval 2 5 v2 rfl rfl)
  have rd2 := read_of (R := reachBytes) 6 5 [.int .u8] (by kernel_rfl) fu2 _ _ _ hf2 (fun k hk => by simpa using List.all_eq_true.1 hsz k (DataW.weights_mem_each (j := 2) (t := 5) rfl rfl _ hk))
  obtain ⟨u2_0, c2_0, l2_0, m2_0, e2_0, _, y2_0, z2_0⟩ := rd2.uncons
  obtain ⟨en2, _⟩ := z2_0.fin
  rw [en2] at e2_0
  obtain rfl : _ = u2_0 := by simpa [Value.cells] using e2_0
  obtain ⟨a2_0, qa2_0, _, wa2_0⟩ := rd_int y2_0
  obtain rfl := (Value.int.inj qa2_0).2
  refine (law_of_cal (law07_Rejects W.heap (glob hL) a0_0 a0_1 a0_2 a0_3 a0_4 a0_5 sa1 sa2 (wf_u8 wa0_0) (Nat.le_trans wa0_1 (by decide)) (Nat.le_trans wa0_2 (by decide)) (Nat.le_trans wa0_3 (by decide)) (wf_i64 wa0_4) (wf_i64 wa0_5) (wf_u16 wa1_0) (wf_u8 wa2_0))).mono fun e W' ⟨he, bel⟩ => ?_
  subst he
  exact ⟨_, rfl, _, _, _, [], _, [], hW', trodAll_mk1 (shut_bool Tryd.underlying4 _), (trodAll_cons_mk (Below.trod laidOut (by kernel_rfl) (of_decide_eq_true (by kernel_rfl)) k0 bel lt0) (trodAll_cons_mk (Below.trod laidOut (by kernel_rfl) (of_decide_eq_true (by kernel_rfl)) k1 bel lt1) (trodAll_cons_mk (Below.trod laidOut (by kernel_rfl) (of_decide_eq_true (by kernel_rfl)) k2 bel lt2) trodAll_mk0))), rfl, bel.frame _, fun h => by cases h⟩

theorem said : Rows.UstarRejectsOneByteSaid :=
  OpenClaim.holds_of_cond 6 Tryd.f6 rfl rfl rfl rfl rfl rfl rfl ⟨rfl, rfl, rfl, rfl, rfl⟩ rfl rfl rfl rfl rfl (by kernel_rfl) Tryd.func6 (by kernel_rfl)
    (of_decide_eq_true (by kernel_rfl)) (by unfold Func.isWrapper; first | (rw [if_pos (by decide +kernel)]; kernel_rfl) | (rw [if_neg (by decide +kernel)]; exact ⟨rfl, rfl⟩))
    (fun os started H enc _ F => by rw [OpenClaim.pre_eq_preRow]; exact lifted os started H enc F)
theorem plain (f : FuncId) (fn : Func) (hf : Tryd.pinned.checked.prog.funcNamed "paxtar/paxtarlaw07.UstarRejectsOneByte" = some f) (hfn : Tryd.pinned.checked.prog.funcs[f]? = some fn) :
    true = Tryd.pinned.checked.prog.looks [] ∧ ∀ (j : Nat) t, fn.params[j]? = some t → Tryd.pinned.checked.prog.wantsStandIn t = false := by
  obtain rfl : f = 6 := Option.some.inj ((show Tryd.prog.funcNamed "paxtar/paxtarlaw07.UstarRejectsOneByte" = some 6 by kernel_rfl).symm.trans hf) |>.symm
  obtain rfl : fn = Tryd.f6 := (Option.some.inj (Tryd.func6.symm.trans hfn)).symm
  refine ⟨by kernel_rfl, fun j t ht => ?_⟩
  rw [Tryd.params6] at ht
  have hm := Array.mem_of_getElem? ht
  simp only [List.mem_toArray, List.mem_cons, List.not_mem_nil, or_false] at hm
  rcases hm with rfl | rfl | rfl
  · exact (show Tryd.prog.wantsStandIn 32 = false by kernel_rfl)
  · exact (show Tryd.prog.wantsStandIn 48 = false by kernel_rfl)
  · exact (show Tryd.prog.wantsStandIn 5 = false by kernel_rfl)
theorem card : Rows.UstarRejectsOneByteCardSaid :=
  Claim7.holds_tied_plain_at .later [] _ _ _ _ said (fun _ h => by cases h) (by kernel_rfl) (fun _ h => by cases h) ustarRejectsOneByte_row_tie rfl ⟨rfl, rfl⟩ (by kernel_rfl) rfl plain (by kernel_rfl)
end Go.Proofs.YtmmpnieglihhnaaDoor.ustarRejectsOneByteDone
namespace Go.Proofs.YtmmpnieglihhnaaDoor
theorem ustarRejectsOneByteProved : Rows.UstarRejectsOneByteCardSaid := ustarRejectsOneByteDone.card
end Go.Proofs.YtmmpnieglihhnaaDoor
