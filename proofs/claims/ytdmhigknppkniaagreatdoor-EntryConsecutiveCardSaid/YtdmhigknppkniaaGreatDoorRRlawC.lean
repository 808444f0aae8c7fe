/- The card of 'EntryConsecutive': its row's frame, joined to the walk of the law's own text. -/
import Derived.Test.YtdmhigknppkniaaGreatDoorCards
import Derived.Test.YtdmhigknppkniaaGreatDoorTie
import Derived.Test.YtdmhigknppkniaaGreatDoorRlawC
import Derived.Test.YtdmhigknppkniaaGreatDoorRlawB
import Derived.WalkKit
import Derived.ProofKit
import Derived.OpenShut
import Derived.ShutString
import Derived.ChangeOld
import Derived.Below
import Derived.SizedLaws
import Derived.Deep.DeepHandedRow
import Derived.Lib.LaidTab
namespace Go.Proofs.YtdmhigknppkniaaGreatDoor.entryConsecutiveDone
open Go.ChangeShapes Go.WideShapes Go.ChangeAt Go.RowKit Go.Xp
set_option linter.unusedVariables false

theorem own : ownKnob Tryz.prog.godebug = none := by kernel_rfl
theorem laidOut : laidOutB Tryz.prog = true := by kernel_rfl

set_option maxRecDepth 100000 in
theorem glob {W : World} (h : laidMetH Tryz.prog Rows.entryConsecutiveRow.laid W) : Glb W.heap ∧ GlbK W.heap ∧ GlbN W.heap ∧ GlbE W.heap ∧ GlbT W.heap ∧ GlbS W.heap := by
  have h' : laidMet Tryz.prog Rows.entryConsecutiveRow.laid W := by
    have e : (Rows.entryConsecutiveRow.laid.filter fun x => x.2.handleName?.isSome) = [] := by rfl
    unfold laidMetH at h; rw [e] at h; exact h
  obtain ⟨ps, hl, _⟩ := h'
  obtain ⟨g0, t0, cs0, u0, p0, q0, hg0, ht0, hv0, hd0, l0, _⟩ := hl
  obtain ⟨g1, t1, cs1, u1, p1, q1, hg1, ht1, hv1, hd1, l1, _⟩ := l0
  obtain ⟨g2, t2, cs2, u2, p2, q2, hg2, ht2, hv2, hd2, l2, _⟩ := l1
  obtain rfl : g2 = 15 := Option.some.inj (hg2.symm.trans (by kernel_rfl))
  obtain rfl : t2 = 242 := Option.some.inj (ht2.symm.trans (by kernel_rfl))
  have c2 := tab_of_laid (zs := Lib.pow10Tab) hg2 Tryz.underlying242 Tryz.underlying179 (by kernel_rfl) (by kernel_rfl) hv2 hd2 (by rfl)
  obtain ⟨g3, t3, cs3, u3, p3, q3, hg3, ht3, hv3, hd3, l3, _⟩ := l2
  obtain rfl : g3 = 17 := Option.some.inj (hg3.symm.trans (by kernel_rfl))
  obtain rfl : t3 = 106 := Option.some.inj (ht3.symm.trans (by kernel_rfl))
  have c3 := ifc_of_laid hg3 Tryz.underlying106 hv3 hd3
  obtain ⟨g4, t4, cs4, u4, p4, q4, hg4, ht4, hv4, hd4, l4, _⟩ := l3
  obtain rfl : g4 = 16 := Option.some.inj (hg4.symm.trans (by kernel_rfl))
  obtain rfl : t4 = 106 := Option.some.inj (ht4.symm.trans (by kernel_rfl))
  have c4 := ifc_of_laid hg4 Tryz.underlying106 hv4 hd4
  obtain ⟨g5, t5, cs5, u5, p5, q5, hg5, ht5, hv5, hd5, l5, _⟩ := l4
  obtain rfl : g5 = 13 := Option.some.inj (hg5.symm.trans (by kernel_rfl))
  obtain rfl : t5 = 200 := Option.some.inj (ht5.symm.trans (by kernel_rfl))
  have c5 := cls_of_laid (lits := [(.string [108, 105, 110, 107, 112, 97, 116, 104]), (.string [112, 97, 116, 104]), (.string [115, 105, 122, 101])]) hg5 (show flatT Tryz.prog 4 200 = some [.str, .str, .str] by kernel_rfl) rfl hv5 hd5 (by decide)
  obtain ⟨g6, t6, cs6, u6, p6, q6, hg6, ht6, hv6, hd6, l6, _⟩ := l5
  obtain rfl : g6 = 1 := Option.some.inj (hg6.symm.trans (by kernel_rfl))
  obtain rfl : t6 = 117 := Option.some.inj (ht6.symm.trans (by kernel_rfl))
  have c6 := cls_of_laid (lits := [(.int .i64 0), (.int .i64 100)]) hg6 (show flatT Tryz.prog 4 117 = some [.int .i64, .int .i64] by kernel_rfl) rfl hv6 hd6 (by decide)
  obtain ⟨g7, t7, cs7, u7, p7, q7, hg7, ht7, hv7, hd7, l7, _⟩ := l6
  obtain rfl : g7 = 4 := Option.some.inj (hg7.symm.trans (by kernel_rfl))
  obtain rfl : t7 = 117 := Option.some.inj (ht7.symm.trans (by kernel_rfl))
  have c7 := cls_of_laid (lits := [(.int .i64 100), (.int .i64 8)]) hg7 (show flatT Tryz.prog 4 117 = some [.int .i64, .int .i64] by kernel_rfl) rfl hv7 hd7 (by decide)
  obtain ⟨g8, t8, cs8, u8, p8, q8, hg8, ht8, hv8, hd8, l8, _⟩ := l7
  obtain rfl : g8 = 8 := Option.some.inj (hg8.symm.trans (by kernel_rfl))
  obtain rfl : t8 = 117 := Option.some.inj (ht8.symm.trans (by kernel_rfl))
  have c8 := cls_of_laid (lits := [(.int .i64 108), (.int .i64 8)]) hg8 (show flatT Tryz.prog 4 117 = some [.int .i64, .int .i64] by kernel_rfl) rfl hv8 hd8 (by decide)
  obtain ⟨g9, t9, cs9, u9, p9, q9, hg9, ht9, hv9, hd9, l9, _⟩ := l8
  obtain rfl : g9 = 9 := Option.some.inj (hg9.symm.trans (by kernel_rfl))
  obtain rfl : t9 = 117 := Option.some.inj (ht9.symm.trans (by kernel_rfl))
  have c9 := cls_of_laid (lits := [(.int .i64 116), (.int .i64 8)]) hg9 (show flatT Tryz.prog 4 117 = some [.int .i64, .int .i64] by kernel_rfl) rfl hv9 hd9 (by decide)
  obtain ⟨g10, t10, cs10, u10, p10, q10, hg10, ht10, hv10, hd10, l10, _⟩ := l9
  obtain rfl : g10 = 5 := Option.some.inj (hg10.symm.trans (by kernel_rfl))
  obtain rfl : t10 = 117 := Option.some.inj (ht10.symm.trans (by kernel_rfl))
  have c10 := cls_of_laid (lits := [(.int .i64 124), (.int .i64 12)]) hg10 (show flatT Tryz.prog 4 117 = some [.int .i64, .int .i64] by kernel_rfl) rfl hv10 hd10 (by decide)
  obtain ⟨g11, t11, cs11, u11, p11, q11, hg11, ht11, hv11, hd11, l11, _⟩ := l10
  obtain rfl : g11 = 10 := Option.some.inj (hg11.symm.trans (by kernel_rfl))
  obtain rfl : t11 = 117 := Option.some.inj (ht11.symm.trans (by kernel_rfl))
  have c11 := cls_of_laid (lits := [(.int .i64 136), (.int .i64 12)]) hg11 (show flatT Tryz.prog 4 117 = some [.int .i64, .int .i64] by kernel_rfl) rfl hv11 hd11 (by decide)
  obtain ⟨g12, t12, cs12, u12, p12, q12, hg12, ht12, hv12, hd12, l12, _⟩ := l11
  obtain rfl : g12 = 0 := Option.some.inj (hg12.symm.trans (by kernel_rfl))
  obtain rfl : t12 = 117 := Option.some.inj (ht12.symm.trans (by kernel_rfl))
  have c12 := cls_of_laid (lits := [(.int .i64 156), (.int .i64 1)]) hg12 (show flatT Tryz.prog 4 117 = some [.int .i64, .int .i64] by kernel_rfl) rfl hv12 hd12 (by decide)
  obtain ⟨g13, t13, cs13, u13, p13, q13, hg13, ht13, hv13, hd13, l13, _⟩ := l12
  obtain rfl : g13 = 2 := Option.some.inj (hg13.symm.trans (by kernel_rfl))
  obtain rfl : t13 = 117 := Option.some.inj (ht13.symm.trans (by kernel_rfl))
  have c13 := cls_of_laid (lits := [(.int .i64 157), (.int .i64 100)]) hg13 (show flatT Tryz.prog 4 117 = some [.int .i64, .int .i64] by kernel_rfl) rfl hv13 hd13 (by decide)
  obtain ⟨g14, t14, cs14, u14, p14, q14, hg14, ht14, hv14, hd14, l14, _⟩ := l13
  obtain rfl : g14 = 7 := Option.some.inj (hg14.symm.trans (by kernel_rfl))
  obtain rfl : t14 = 117 := Option.some.inj (ht14.symm.trans (by kernel_rfl))
  have c14 := cls_of_laid (lits := [(.int .i64 257), (.int .i64 8)]) hg14 (show flatT Tryz.prog 4 117 = some [.int .i64, .int .i64] by kernel_rfl) rfl hv14 hd14 (by decide)
  obtain ⟨g15, t15, cs15, u15, p15, q15, hg15, ht15, hv15, hd15, l15, _⟩ := l14
  obtain rfl : g15 = 11 := Option.some.inj (hg15.symm.trans (by kernel_rfl))
  obtain rfl : t15 = 117 := Option.some.inj (ht15.symm.trans (by kernel_rfl))
  have c15 := cls_of_laid (lits := [(.int .i64 329), (.int .i64 8)]) hg15 (show flatT Tryz.prog 4 117 = some [.int .i64, .int .i64] by kernel_rfl) rfl hv15 hd15 (by decide)
  obtain ⟨g16, t16, cs16, u16, p16, q16, hg16, ht16, hv16, hd16, l16, _⟩ := l15
  obtain rfl : g16 = 12 := Option.some.inj (hg16.symm.trans (by kernel_rfl))
  obtain rfl : t16 = 117 := Option.some.inj (ht16.symm.trans (by kernel_rfl))
  have c16 := cls_of_laid (lits := [(.int .i64 337), (.int .i64 8)]) hg16 (show flatT Tryz.prog 4 117 = some [.int .i64, .int .i64] by kernel_rfl) rfl hv16 hd16 (by decide)
  obtain ⟨g17, t17, cs17, u17, p17, q17, hg17, ht17, hv17, hd17, l17, _⟩ := l16
  obtain rfl : g17 = 3 := Option.some.inj (hg17.symm.trans (by kernel_rfl))
  obtain rfl : t17 = 117 := Option.some.inj (ht17.symm.trans (by kernel_rfl))
  have c17 := cls_of_laid (lits := [(.int .i64 345), (.int .i64 155)]) hg17 (show flatT Tryz.prog 4 117 = some [.int .i64, .int .i64] by kernel_rfl) rfl hv17 hd17 (by decide)
  obtain ⟨g18, t18, cs18, u18, p18, q18, hg18, ht18, hv18, hd18, l18, _⟩ := l17
  obtain rfl : g18 = 6 := Option.some.inj (hg18.symm.trans (by kernel_rfl))
  obtain rfl : t18 = 131 := Option.some.inj (ht18.symm.trans (by kernel_rfl))
  have c18 := cls_of_laid (lits := [(.int .u8 53), (.int .u8 48), (.int .u8 50), (.int .u8 49)]) hg18 (show flatT Tryz.prog 4 131 = some [.int .u8, .int .u8, .int .u8, .int .u8] by kernel_rfl) rfl hv18 hd18 (by decide)
  exact ⟨⟨⟨cellAt_lt (b := 1) (o := 0) (by rw [← cell?_cellAt]; exact c6 0 _ rfl), fun i u hi => by rw [← cell?_cellAt]; exact c6 i u hi⟩, ⟨cellAt_lt (b := 4) (o := 0) (by rw [← cell?_cellAt]; exact c7 0 _ rfl), fun i u hi => by rw [← cell?_cellAt]; exact c7 i u hi⟩, ⟨cellAt_lt (b := 8) (o := 0) (by rw [← cell?_cellAt]; exact c8 0 _ rfl), fun i u hi => by rw [← cell?_cellAt]; exact c8 i u hi⟩, ⟨cellAt_lt (b := 9) (o := 0) (by rw [← cell?_cellAt]; exact c9 0 _ rfl), fun i u hi => by rw [← cell?_cellAt]; exact c9 i u hi⟩, ⟨cellAt_lt (b := 5) (o := 0) (by rw [← cell?_cellAt]; exact c10 0 _ rfl), fun i u hi => by rw [← cell?_cellAt]; exact c10 i u hi⟩, ⟨cellAt_lt (b := 10) (o := 0) (by rw [← cell?_cellAt]; exact c11 0 _ rfl), fun i u hi => by rw [← cell?_cellAt]; exact c11 i u hi⟩, ⟨cellAt_lt (b := 0) (o := 0) (by rw [← cell?_cellAt]; exact c12 0 _ rfl), fun i u hi => by rw [← cell?_cellAt]; exact c12 i u hi⟩, ⟨cellAt_lt (b := 2) (o := 0) (by rw [← cell?_cellAt]; exact c13 0 _ rfl), fun i u hi => by rw [← cell?_cellAt]; exact c13 i u hi⟩, ⟨cellAt_lt (b := 7) (o := 0) (by rw [← cell?_cellAt]; exact c14 0 _ rfl), fun i u hi => by rw [← cell?_cellAt]; exact c14 i u hi⟩, ⟨cellAt_lt (b := 11) (o := 0) (by rw [← cell?_cellAt]; exact c15 0 _ rfl), fun i u hi => by rw [← cell?_cellAt]; exact c15 i u hi⟩, ⟨cellAt_lt (b := 12) (o := 0) (by rw [← cell?_cellAt]; exact c16 0 _ rfl), fun i u hi => by rw [← cell?_cellAt]; exact c16 i u hi⟩, ⟨cellAt_lt (b := 3) (o := 0) (by rw [← cell?_cellAt]; exact c17 0 _ rfl), fun i u hi => by rw [← cell?_cellAt]; exact c17 i u hi⟩⟩, ⟨⟨cellAt_lt (b := 13) (o := 0) (by rw [← cell?_cellAt]; exact c5 0 _ rfl), fun i u hi => by rw [← cell?_cellAt]; exact c5 i u hi⟩⟩, ⟨c2⟩, ⟨c3⟩, ⟨⟨cellAt_lt (b := 6) (o := 0) (by rw [← cell?_cellAt]; exact c18 0 _ rfl), fun i u hi => by rw [← cell?_cellAt]; exact c18 i u hi⟩⟩, ⟨c4⟩⟩

noncomputable def laidWorld (os : Os) : World :=
  { World.holding Tryz.prog os ⟨#[], #[], []⟩ with heap := ((((((((((((((((((((((World.holding Tryz.prog os ⟨#[], #[], []⟩).heap.modify 18 fun | .cells _ t frozen => .cells #[.int .u8 0, .int .u8 1, .int .u8 28, .int .u8 2, .int .u8 29, .int .u8 14, .int .u8 24, .int .u8 3, .int .u8 30, .int .u8 22, .int .u8 20, .int .u8 15, .int .u8 25, .int .u8 17, .int .u8 4, .int .u8 8, .int .u8 31, .int .u8 27, .int .u8 13, .int .u8 23, .int .u8 21, .int .u8 19, .int .u8 16, .int .u8 7, .int .u8 26, .int .u8 12, .int .u8 18, .int .u8 6, .int .u8 11, .int .u8 5, .int .u8 10, .int .u8 9] t frozen | o => o).modify 19 fun | .cells _ t frozen => .cells #[.int .u8 0, .int .u8 1, .int .u8 56, .int .u8 2, .int .u8 57, .int .u8 49, .int .u8 28, .int .u8 3, .int .u8 61, .int .u8 58, .int .u8 42, .int .u8 50, .int .u8 38, .int .u8 29, .int .u8 17, .int .u8 4, .int .u8 62, .int .u8 47, .int .u8 59, .int .u8 36, .int .u8 45, .int .u8 43, .int .u8 51, .int .u8 22, .int .u8 53, .int .u8 39, .int .u8 33, .int .u8 30, .int .u8 24, .int .u8 18, .int .u8 12, .int .u8 5, .int .u8 63, .int .u8 55, .int .u8 48, .int .u8 27, .int .u8 60, .int .u8 41, .int .u8 37, .int .u8 16, .int .u8 46, .int .u8 35, .int .u8 44, .int .u8 21, .int .u8 52, .int .u8 32, .int .u8 23, .int .u8 11, .int .u8 54, .int .u8 26, .int .u8 40, .int .u8 15, .int .u8 34, .int .u8 20, .int .u8 31, .int .u8 10, .int .u8 25, .int .u8 14, .int .u8 19, .int .u8 9, .int .u8 13, .int .u8 8, .int .u8 7, .int .u8 6] t frozen | o => o).modify 15 fun | .cells _ t frozen => .cells #[.int .u64 1, .int .u64 10, .int .u64 100, .int .u64 1000, .int .u64 10000, .int .u64 100000, .int .u64 1000000, .int .u64 10000000, .int .u64 100000000, .int .u64 1000000000, .int .u64 10000000000, .int .u64 100000000000, .int .u64 1000000000000, .int .u64 10000000000000, .int .u64 100000000000000, .int .u64 1000000000000000, .int .u64 10000000000000000, .int .u64 100000000000000000, .int .u64 1000000000000000000, .int .u64 10000000000000000000] t frozen | o => o).modify 17 fun | .cells _ t frozen => .cells #[.iface 253 (.pointer (some ⟨(World.holding Tryz.prog os ⟨#[], #[], []⟩).heap.size + 0, 0, none⟩))] t frozen | o => o).modify 16 fun | .cells _ t frozen => .cells #[.iface 253 (.pointer (some ⟨(World.holding Tryz.prog os ⟨#[], #[], []⟩).heap.size + 1, 0, none⟩))] t frozen | o => o).modify 13 fun | .cells _ t frozen => .cells #[str [108, 105, 110, 107, 112, 97, 116, 104], str [112, 97, 116, 104], str [115, 105, 122, 101]] t frozen | o => o).modify 1 fun | .cells _ t frozen => .cells #[.int .i64 0, .int .i64 100] t frozen | o => o).modify 4 fun | .cells _ t frozen => .cells #[.int .i64 100, .int .i64 8] t frozen | o => o).modify 8 fun | .cells _ t frozen => .cells #[.int .i64 108, .int .i64 8] t frozen | o => o).modify 9 fun | .cells _ t frozen => .cells #[.int .i64 116, .int .i64 8] t frozen | o => o).modify 5 fun | .cells _ t frozen => .cells #[.int .i64 124, .int .i64 12] t frozen | o => o).modify 10 fun | .cells _ t frozen => .cells #[.int .i64 136, .int .i64 12] t frozen | o => o).modify 0 fun | .cells _ t frozen => .cells #[.int .i64 156, .int .i64 1] t frozen | o => o).modify 2 fun | .cells _ t frozen => .cells #[.int .i64 157, .int .i64 100] t frozen | o => o).modify 7 fun | .cells _ t frozen => .cells #[.int .i64 257, .int .i64 8] t frozen | o => o).modify 11 fun | .cells _ t frozen => .cells #[.int .i64 329, .int .i64 8] t frozen | o => o).modify 12 fun | .cells _ t frozen => .cells #[.int .i64 337, .int .i64 8] t frozen | o => o).modify 3 fun | .cells _ t frozen => .cells #[.int .i64 345, .int .i64 155] t frozen | o => o).modify 6 fun | .cells _ t frozen => .cells #[.int .u8 53, .int .u8 48, .int .u8 50, .int .u8 49] t frozen | o => o).push (.cells #[str [118, 97, 108, 117, 101, 32, 111, 117, 116, 32, 111, 102, 32, 114, 97, 110, 103, 101]] 255 (0, 0))).push (.cells #[str [105, 110, 118, 97, 108, 105, 100, 32, 115, 121, 110, 116, 97, 120]] 255 (0, 0))) }
set_option maxRecDepth 100000 in
theorem laid_met (os : Os) : laidMet Tryz.prog Rows.entryConsecutiveRow.laid ((laidWorld os).forCall (fun _ _ => 0) ⟨#[], #[.slice none 0 0, .agg #[.slice none 0 0, .int .i64 0]], []⟩).memory :=
  laidMet_of_run' 8 (by kernel_rfl) (by kernel_rfl)
set_option maxRecDepth 100000 in
theorem reads (os : Os) {H : Type} (enc : TypeId × Value → H) : ∃ places, DataW.whole enc Tryz.prog ((laidWorld os).forCall (fun _ _ => 0) ⟨#[], #[.slice none 0 0, .agg #[.slice none 0 0, .int .i64 0]], []⟩).memory Tryz.f6.params.toList Rows.entryConsecutiveSpec.vars false (#[.slice none 0 0, .agg #[.slice none 0 0, .int .i64 0]] : Array Value).toList 8 = some ([.nil, .agg [.nil, .lit (.int .i64 0)]], [], places) :=
  ⟨[], by kernel_rfl⟩

set_option maxRecDepth 100000 in
theorem lifted (os : Os) (started : os.Started) (H : Type) (enc : TypeId × Value → H) (F : Stop.Interp) :
    ReturnsInHanded {} Tryz.checked os 6 .any ((OpenSpec.ofChange Rows.entryConsecutiveSpec).preRow enc Tryz.prog Tryz.f6 Rows.entryConsecutiveRow.domain false Rows.entryConsecutiveRow.laid) (((OpenSpec.ofChange Rows.entryConsecutiveSpec).at F).post enc Tryz.prog Tryz.f6 false true false false) := by
  obtain ⟨places, hx⟩ := reads os enc
  refine returnsInHanded_of_row (C := Tryz.checked) (s := (OpenSpec.ofChange Rows.entryConsecutiveSpec)) own started (by kernel_rfl) Tryz.func6
    (witness_row_at (enc := enc) (C := Tryz.checked) false (laidWorld os) #[.slice none 0 0, .agg #[.slice none 0 0, .int .i64 0]] rfl (by kernel_rfl) (by kernel_rfl) (by kernel_rfl)
      (OpenSpec.preRow_of_cond 8 hx (by kernel_rfl) (fun k hk => by cases hk) (by kernel_rfl) (laid_met os))) ?_
  intro W base args ds gs before hval0 hW _ hcond hsz hL _ _
  have hval : ∀ (j : Nat) t v, Tryz.f6.params[j]? = some t → args[j]? = some v → Value.okWide Tryz.prog W .any base t v := hval0
  have hW' := hW
  obtain ⟨p, q, hA0, hV, rfl, hfz, hnd⟩ := hW
  have hA : DataW.TrodAll enc Tryz.prog W 0 (fun _ => true) true Tryz.f6.params.toList args.toList ds p := hA0
  rw [Tryz.params6] at hA hval
  obtain ⟨v0, vs0, d0, ds0, p0, q0, hargs, rfl, rfl, h0, r0⟩ := trodAll_cons hA
  obtain ⟨v1, vs1, d1, ds1, p1, q1, rfl, rfl, rfl, h1, r1⟩ := trodAll_cons r0
  obtain ⟨rfl, rfl, rfl⟩ := trodAll_nil r1
  obtain rfl : args = #[v0, v1] := by cases args; simp_all
  obtain ⟨rfl, rfl⟩ := trodVars_none hV
  simp only [List.append_nil] at hsz
  have k0 := h0
  have lt0 : ∀ x ∈ p0, x.block < W.heap.size := by obtain ⟨m, hm⟩ := k0; exact DataW.trod_lt m _ _ _ hm
  obtain ⟨fu0, hf0⟩ := h0
  obtain ⟨sa0, sl0, sc0, rfl⟩ := okWide_slice Tryz.underlying52 (hval 0 52 v0 rfl rfl)
  have rd0 := read_of (R := reachBytes) 6 52 [.sl [.int .i64, .str, .int .i64, .str, .int .i64]] (by kernel_rfl) fu0 _ _ _ hf0 (fun k hk => by simpa using List.all_eq_true.1 hsz k (DataW.weights_mem_each (j := 0) (t := 52) rfl rfl _ hk))
  obtain ⟨u0_0, c0_0, l0_0, m0_0, e0_0, f0_0, y0_0, z0_0⟩ := rd0.uncons
  obtain ⟨en0, _⟩ := z0_0.fin
  rw [en0] at e0_0
  obtain rfl : _ = u0_0 := by simpa [Value.cells] using e0_0
  obtain ⟨a0_0, ba0_0, wa0_0⟩ := rd_ents y0_0
  have k1 := h1
  have lt1 : ∀ x ∈ p1, x.block < W.heap.size := by obtain ⟨m, hm⟩ := k1; exact DataW.trod_lt m _ _ _ hm
  obtain ⟨fu1, hf1⟩ := h1
  obtain ⟨cs1, rfl, _⟩ := okWide_struct Tryz.underlying25 (hval 1 25 v1 rfl rfl)
  have rd1 := read_of (R := reachBytes) 6 25 [.sl [.int .i64], .int .i64] (by kernel_rfl) fu1 _ _ _ hf1 (fun k hk => by simpa using List.all_eq_true.1 hsz k (DataW.weights_mem_each (j := 1) (t := 25) rfl rfl _ hk))
  obtain ⟨u1_0, c1_0, l1_0, m1_0, e1_0, f1_0, y1_0, z1_0⟩ := rd1.uncons
  obtain ⟨u1_1, c1_1, l1_1, m1_1, e1_1, f1_1, y1_1, z1_1⟩ := z1_0.uncons
  obtain ⟨en1, _⟩ := z1_1.fin
  obtain ⟨cl1⟩ := cs1
  simp only [Value.cells] at e1_0
  rw [e1_1, en1] at e1_0
  subst e1_0
  obtain ⟨a1_0, ba1_0, wa1_0⟩ := rd_ints y1_0
  obtain ⟨a1_1, rfl, _, wa1_1⟩ := rd_int y1_1
  refine (law_of_cal (lawEntryConsec W.heap (glob hL).1 (glob hL).2.1 (glob hL).2.2.1 (glob hL).2.2.2.1 (glob hL).2.2.2.2.1 (glob hL).2.2.2.2.2 _ a0_0 ba0_0 _ a1_0 ba1_0 a1_1 (Nat.le_trans wa0_0.1 (by decide)) (fun r hr => ⟨Nat.le_trans (wa0_0.2 r hr).1 (by decide), Nat.le_trans (wa0_0.2 r hr).2.1 (by decide), (wa0_0.2 r hr).2.2⟩) (Nat.le_trans wa1_0 (by decide)) (wf_i64 wa1_1))).mono fun e W' ⟨he, bel⟩ => ?_
  subst he
  exact ⟨_, rfl, _, _, _, [], _, [], hW', trodAll_mk1 (shut_bool Tryz.underlying4 _), (trodAll_cons_mk (Below.trod laidOut (by kernel_rfl) (of_decide_eq_true (by kernel_rfl)) k0 bel lt0) (trodAll_cons_mk (Below.trod laidOut (by kernel_rfl) (of_decide_eq_true (by kernel_rfl)) k1 bel lt1) trodAll_mk0)), rfl, bel.frame _, fun h => by cases h⟩

theorem said : Rows.EntryConsecutiveSaid :=
  OpenClaim.holds_of_cond 6 Tryz.f6 rfl rfl rfl rfl rfl rfl rfl ⟨rfl, rfl, rfl, rfl, rfl⟩ rfl rfl rfl rfl rfl (by kernel_rfl) Tryz.func6 (by kernel_rfl)
    (of_decide_eq_true (by kernel_rfl)) (by unfold Func.isWrapper; first | (rw [if_pos (by decide +kernel)]; kernel_rfl) | (rw [if_neg (by decide +kernel)]; exact ⟨rfl, rfl⟩))
    (fun os started H enc _ F => by rw [OpenClaim.pre_eq_preRow]; exact lifted os started H enc F)
theorem plain (f : FuncId) (fn : Func) (hf : Tryz.pinned.checked.prog.funcNamed "paxtar/paxtarlaw12.EntryConsecutive" = some f) (hfn : Tryz.pinned.checked.prog.funcs[f]? = some fn) :
    true = Tryz.pinned.checked.prog.looks [] ∧ ∀ (j : Nat) t, fn.params[j]? = some t → Tryz.pinned.checked.prog.wantsStandIn t = false := by
  obtain rfl : f = 6 := Option.some.inj ((show Tryz.prog.funcNamed "paxtar/paxtarlaw12.EntryConsecutive" = some 6 by kernel_rfl).symm.trans hf) |>.symm
  obtain rfl : fn = Tryz.f6 := (Option.some.inj (Tryz.func6.symm.trans hfn)).symm
  refine ⟨by kernel_rfl, fun j t ht => ?_⟩
  rw [Tryz.params6] at ht
  have hm := Array.mem_of_getElem? ht
  simp only [List.mem_toArray, List.mem_cons, List.not_mem_nil, or_false] at hm
  rcases hm with rfl | rfl
  · exact (show Tryz.prog.wantsStandIn 52 = false by kernel_rfl)
  · exact (show Tryz.prog.wantsStandIn 25 = false by kernel_rfl)
theorem card : Rows.EntryConsecutiveCardSaid :=
  Claim7.holds_tied_plain_at .later [] _ _ _ _ said (fun _ h => by cases h) (by kernel_rfl) (fun _ h => by cases h) entryConsecutive_row_tie rfl ⟨rfl, rfl⟩ (by kernel_rfl) rfl plain (by kernel_rfl)
end Go.Proofs.YtdmhigknppkniaaGreatDoor.entryConsecutiveDone
namespace Go.Proofs.YtdmhigknppkniaaGreatDoor
theorem entryConsecutiveProved : Rows.EntryConsecutiveCardSaid := entryConsecutiveDone.card
end Go.Proofs.YtdmhigknppkniaaGreatDoor
