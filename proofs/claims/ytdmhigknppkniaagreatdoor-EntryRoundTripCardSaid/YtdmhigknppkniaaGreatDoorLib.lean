/- The functions of Go's library that look for one byte: strings and bytes. -/
import Derived.Test.YtdmhigknppkniaaGreatDoorBits
import Derived.Test.YtdmhigknppkniaaGreatDoorProg
import Derived.KernelRfl
set_option linter.unusedSimpArgs false
set_option linter.unusedVariables false
namespace Go.Xp
open Go.Proofs

theorem ext_IndexByteString {h : Heap} (l : List UInt8) (c : Int) (w : World) (_hw : w.heap = h) : (callFunc 125 #[str l, .int .u8 c]).run Tryz.prog w = .ok (.value (.int .i64 (Lib.indexByte l c.toNat.toUInt8))) w := by
  rw [run_callFunc_extern Tryz.func125 (by kernel_rfl) (by kernel_rfl) (by kernel_rfl) (e := Extern.BytealgIndexByte.indexByte) (by kernel_rfl), Lib.run_indexByteString]
  rfl
theorem run_indexByteRow {P : Program} {h : Heap} (v : Value) (l : List UInt8) (hb : Bytes h v l) (c : Int) (w : World) (hw : w.heap = h) : (Extern.BytealgIndexByte.indexByte #[v, .int .u8 c]).run P w = .ok (.int .i64 (Lib.indexByte l c.toNat.toUInt8)) w := by
  obtain ⟨⟨a0, cap, rfl, k1, k2, k3⟩, _⟩ := hb
  by_cases hl : l = []
  · subst hl
    have hs := Lib.run_indexByteNil (P := P) (w := w) 0 cap c
    cases a0 with
    | none => exact hs
    | some ad => exact hs
  · cases a0 with
    | none => exact absurd (k2 rfl) (by have := List.length_pos_iff.2 hl; omega)
    | some ad =>
      obtain ⟨j1, j3⟩ := k3 ad rfl
      obtain ⟨j1, -⟩ := j1 (List.length_pos_iff.2 hl)
      obtain ⟨b, o, sp⟩ := ad
      simp only at j1 j3
      subst j1
      have := Lib.run_indexByteSlice (P := P) (w := w) b o l.length cap (l.map (fun c => (c.toNat : Int))) (by simp) (fun i hi => by
        rw [cell?_cellAt, hw]
        refine (j3 i _ (List.getElem?_eq_getElem (by simpa using hi))).trans ?_
        simp [List.getD_eq_getElem?_getD, List.getElem?_eq_getElem hi, bv]) c
      rw [this]
      congr 3
      simp [Lib.bytesOf, List.map_map, Function.comp_def]
theorem ext_IndexByte {h : Heap} (v : Value) (l : List UInt8) (hb : Bytes h v l) (c : Int) (w : World) (hw : w.heap = h) : (callFunc 168 #[v, .int .u8 c]).run Tryz.prog w = .ok (.value (.int .i64 (Lib.indexByte l c.toNat.toUInt8))) w := by
  rw [run_callFunc_extern Tryz.func168 (by kernel_rfl) (by kernel_rfl) (by kernel_rfl) (e := Extern.BytealgIndexByte.indexByte) (by kernel_rfl), run_indexByteRow v l hb c w hw]
  rfl

set_option maxRecDepth 100000 in
theorem lite_IndexByte (h : Heap) (l : List UInt8) (c : Int) : Cal Tryz.prog 94 #[str l, .int .u8 (c)] h (fun v h' => v = .int .i64 (Lib.indexByte l c.toNat.toUInt8) ∧ h' = h) := by
 refine Cal_enter (args := [str l, .int .u8 (c)]) Tryz.func94 rfl rfl rfl (fun σ => ?_)
 refine Wa ?_
 refine Ln (Xt (Wq (Wg ?_)))
 refine M2 ?_
 refine Ly (Y_ext rfl (fun w_ h_ => ext_IndexByteString l c w_ h_)) ?_
 refine Av ?_
 refine Ln (Xt (Wt ?_))
 refine X_ret1 rfl rfl ?_
 exact ⟨rfl, rfl⟩

set_option maxRecDepth 100000 in
theorem strings_IndexByte (h : Heap) (l : List UInt8) (c : Int) : Cal Tryz.prog 52 #[str l, .int .u8 (c)] h (fun v h' => v = .int .i64 (Lib.indexByte l c.toNat.toUInt8) ∧ h' = h) := by
 refine Cal_enter (args := [str l, .int .u8 (c)]) Tryz.func52 rfl rfl rfl (fun σ => ?_)
 refine Wa ?_
 refine Ln (Xt (Wq (Wg ?_)))
 refine M2 ?_
 refine Lc (lite_IndexByte _ l c) ?_
 rintro _ h ⟨rfl, rfl⟩
 refine Av ?_
 refine Ln (Xt (Wt ?_))
 refine X_ret1 rfl rfl ?_
 exact ⟨rfl, rfl⟩

set_option maxRecDepth 100000 in
theorem bytes_IndexByte (h : Heap) (v : Value) (l : List UInt8) (hb : Bytes h v l) (c : Int) : Cal Tryz.prog 148 #[v, .int .u8 (c)] h (fun v h' => v = .int .i64 (Lib.indexByte l c.toNat.toUInt8) ∧ h' = h) := by
 refine Cal_enter (args := [v, .int .u8 (c)]) Tryz.func148 rfl rfl rfl (fun σ => ?_)
 refine Wa ?_
 refine Ln (Xt (Wq (Wg ?_)))
 refine M2 ?_
 refine Ly (Y_ext rfl (fun w_ h_ => ext_IndexByte v l hb c w_ h_)) ?_
 refine Av ?_
 refine Ln (Xt (Wt ?_))
 refine X_ret1 rfl rfl ?_
 exact ⟨rfl, rfl⟩

theorem byt_back (l : List UInt8) (k : Nat) : (byt l k).toNat.toUInt8 = l.getD k 0 := by simp [byt]
theorem indexByte_lt (l : List UInt8) (c : UInt8) : Lib.indexByte l c < l.length := by
  induction l with
  | nil => simp [Lib.indexByte]
  | cons a l ih =>
    simp only [Lib.indexByte, List.length_cons]
    split
    · omega
    · split <;> omega

/-! ### One byte looked for -/
set_option maxRecDepth 100000 in
theorem lite_Index (h : Heap) (l : List UInt8) (u : List UInt8) (hu : u.length = 1) : Cal Tryz.prog 137 #[str l, str u] h (fun v h' => v = .int .i64 (Lib.indexByte l (u.getD 0 0)) ∧ h' = h) := by
 refine Cal_enter (args := [str l, str u]) Tryz.func137 rfl rfl rfl (fun σ => ?_)
 refine Wa ?_
 refine Ln (Xt (Wq (Wg ?_)))
 refine Mv ?_
 refine Ly (Y_slen Tryz.underlying9 rfl) ?_
 refine Av ?_
 refine Ln (Xt (Wq (Wb (Wq (Wg ?_)))))
 refine Mv ?_
 refine Ly (Y_eql rfl rfl) ?_
 refine Mv ?_
 refine L_known (d := 19) false rfl (by exact decide_eq_false (by omega)) ?_
 refine M2 ?_
 refine Ly (Y_seql rfl rfl) ?_
 refine Ly (Y_pick_f rfl rfl) ?_
 refine An ?_
 refine Wu _ (tk5 16 5 4 0 1) ?_
 refine W_splitd rfl (fun g => ?_) (fun g => ?_)
 ·refine Wa ?_
  refine Ln (Xt (Wt (Yr (Xr ?_))))
  refine X_ret1 rfl rfl ?_
  refine ⟨?_, rfl⟩
  subst g
  obtain ⟨c, rfl⟩ := List.length_eq_one_iff.1 hu
  simp [Lib.indexByte]
 refine Wm ?_
 refine Ly (Y_eql rfl rfl) ?_
 refine An ?_
 refine W_known true rfl (by exact decide_eq_true (by omega)) ?_
 refine Wm ?_
 refine Mv ?_
 refine Ly (Y_sidx Tryz.underlying9 rfl rfl (by omega) (by omega)) ?_
 refine Lc (lite_IndexByte _ l (byt u 0)) ?_
 rintro _ h ⟨rfl, rfl⟩
 refine An ?_
 refine Wu _ (tk4 4 5 0 1) ?_
 refine Wt (Yr (Xr ?_))
 refine X_ret1 rfl rfl ?_
 exact ⟨by rw [byt_back], rfl⟩

set_option maxRecDepth 100000 in
theorem strings_Index (h : Heap) (l : List UInt8) (u : List UInt8) (hu : u.length = 1) : Cal Tryz.prog 111 #[str l, str u] h (fun v h' => v = .int .i64 (Lib.indexByte l (u.getD 0 0)) ∧ h' = h) := by
 refine Cal_enter (args := [str l, str u]) Tryz.func111 rfl rfl rfl (fun σ => ?_)
 refine Wa ?_
 refine Ln (Xt (Wq (Wg ?_)))
 refine M2 ?_
 refine Lc (lite_Index _ l u (by first | omega | rfl | (simp <;> omega))) ?_
 rintro _ h ⟨rfl, rfl⟩
 refine Av ?_
 refine Ln (Xt (Wt ?_))
 refine X_ret1 rfl rfl ?_
 exact ⟨rfl, rfl⟩

set_option maxRecDepth 100000 in
theorem bytes_Index (h : Heap) (v : Value) (l : List UInt8) (hb : Bytes h v l) (vu : Value) (u : List UInt8) (hbu : Bytes h vu u) (hu : u.length = 1) : Cal Tryz.prog 126 #[v, vu] h (fun v h' => v = .int .i64 (Lib.indexByte l (u.getD 0 0)) ∧ h' = h) := by
 refine Cal_enter (args := [v, vu]) Tryz.func126 rfl rfl rfl (fun σ => ?_)
 refine Wa ?_
 refine Ln (Xt (Wq (Wg ?_)))
 refine Mv ?_
 refine Ly (Y_len Tryz.underlying22 rfl hbu) ?_
 refine Av ?_
 refine Ln (Xt (Wq (Wb (Wq (Wg ?_)))))
 refine Mv ?_
 refine Ly (Y_eql rfl rfl) ?_
 refine An ?_
 refine W_known false rfl (by exact decide_eq_false (by omega)) ?_
 refine Wm ?_
 refine Ly (Y_eql rfl rfl) ?_
 refine An ?_
 refine Wu _ (tk5 25 5 4 0 1) ?_
 refine W_known true rfl (by exact decide_eq_true (by omega)) ?_
 refine Wm ?_
 refine Mv ?_
 refine Ly (Y_idx Tryz.underlying22 (show _ = some 1 by kernel_rfl) rfl rfl hbu (by omega) (by omega)) ?_
 refine Ly (Y_ldbyte Tryz.underlying5 rfl rfl hbu (by omega) (by omega)) ?_
 refine Lc (bytes_IndexByte _ v l hb (byt u 0)) ?_
 rintro _ h ⟨rfl, rfl⟩
 refine An ?_
 refine Wu _ (tk4 4 5 0 1) ?_
 refine Wt (Yr (Xr ?_))
 refine X_ret1 rfl rfl ?_
 exact ⟨by rw [byt_back], rfl⟩

/-- What Cut at one byte gives: the part ahead, the part behind, found. -/
def cutA (l : List UInt8) (c : UInt8) : List UInt8 := if 0 ≤ Lib.indexByte l c then l.take (Lib.indexByte l c).toNat else l
def cutB (l : List UInt8) (c : UInt8) : List UInt8 := if 0 ≤ Lib.indexByte l c then l.drop (Lib.indexByte l c + 1).toNat else []

set_option maxRecDepth 100000 in
theorem lite_Cut (h : Heap) (l : List UInt8) (u : List UInt8) (hu : u.length = 1) (hl : l.length ≤ 9223372036854775807) : Cal Tryz.prog 147 #[str l, str u] h (fun v h' => v = .tuple #[str (cutA l (u.getD 0 0)), str (cutB l (u.getD 0 0)), .bool (decide (0 ≤ Lib.indexByte l (u.getD 0 0)))] ∧ h' = h) := by
 have hi := indexByte_lt l (u.getD 0 0)
 refine Cal_enter (args := [str l, str u]) Tryz.func147 rfl rfl rfl (fun σ => ?_)
 refine Wa ?_
 refine A2 ?_
 refine Ln (Xt (Wq (Wq (Wg ?_))))
 refine M2 ?_
 refine Lc (lite_Index _ l u (by first | omega | rfl | (simp <;> omega))) ?_
 rintro _ h ⟨rfl, rfl⟩
 refine Av ?_
 refine Ln (Xt (Wq (Wg ?_)))
 refine Mv ?_
 refine Ly (Y_geq rfl rfl) ?_
 refine Nx ?_
 refine W_splitd rfl (fun g => ?_) (fun g => ?_)
 ·refine Wq ?_
  refine W_quiet (fun h' => h' = h) (by kernel_rfl) (by kernel_rfl) rfl ?_
  refine Qm ?_
  refine Qm ?_
  refine Qy (Y_sslice_h Tryz.underlying9 rfl rfl (by omega) (by omega)) ?_
  refine Qm ?_
  refine Qm ?_
  refine Qm ?_
  refine Qy (Y_slen Tryz.underlying9 rfl) ?_
  refine Qy (Y_add rfl rfl (by omega) (by omega)) ?_
  refine Qy (Y_sslice_l Tryz.underlying9 rfl rfl (by omega) (by omega)) ?_
  refine Qa ?_
  refine Qa ?_
  refine Qa ?_
  refine LQ_nil ?_
  rintro h rfl
  refine Xt ?_
  refine Wu _ (tk4 6 5 4 0) ?_
  refine Wt (Xr ?_)
  refine X_ret3 rfl rfl rfl rfl ?_
  exact ⟨by simp only [cutA, cutB, if_pos g, decide_eq_true g, hu]; rfl, rfl⟩
 refine Ws ?_
 refine Wu _ (tk4 6 5 4 0) ?_
 refine Wm ?_
 refine A2 ?_
 refine Av ?_
 refine Ln (Xt (Wt ?_))
 refine X_ret3 rfl rfl rfl rfl ?_
 exact ⟨by simp only [cutA, cutB, if_neg g, decide_eq_false g], rfl⟩

set_option maxRecDepth 100000 in
theorem strings_Cut (h : Heap) (l : List UInt8) (u : List UInt8) (hu : u.length = 1) (hl : l.length ≤ 9223372036854775807) : Cal Tryz.prog 122 #[str l, str u] h (fun v h' => v = .tuple #[str (cutA l (u.getD 0 0)), str (cutB l (u.getD 0 0)), .bool (decide (0 ≤ Lib.indexByte l (u.getD 0 0)))] ∧ h' = h) := by
 refine Cal_enter (args := [str l, str u]) Tryz.func122 rfl rfl rfl (fun σ => ?_)
 refine Wa ?_
 refine A2 ?_
 refine Ln (Xt (Wq (Wg ?_)))
 refine M2 ?_
 refine Lc (lite_Cut _ l u (by first | omega | rfl | (simp <;> omega)) (by first | omega | rfl | (simp <;> omega))) ?_
 rintro _ h ⟨rfl, rfl⟩
 refine Lx ?_
 refine Lx ?_
 refine Lx ?_
 refine A2 ?_
 refine An ?_
 refine Wu _ (tk3 6 5 4) ?_
 refine Wt ?_
 refine X_ret3 rfl rfl rfl rfl ?_
 exact ⟨rfl, rfl⟩

set_option maxRecDepth 100000 in
theorem bytes_Cut (h : Heap) (v : Value) (l : List UInt8) (hb : Bytes h v l) (vu : Value) (u : List UInt8) (hbu : Bytes h vu u) (hu : u.length = 1) (hl : l.length ≤ 9223372036854775807) : Cal Tryz.prog 96 #[v, vu] h (fun v h' => ∃ s0 s1, v = .tuple #[s0, s1, .bool (decide (0 ≤ Lib.indexByte l (u.getD 0 0)))] ∧ Bytes h' s0 (cutA l (u.getD 0 0)) ∧ Bytes h' s1 (cutB l (u.getD 0 0)) ∧ Ext h h') := by
 have hi := indexByte_lt l (u.getD 0 0)
 refine Cal_enter (args := [v, vu]) Tryz.func96 rfl rfl rfl (fun σ => ?_)
 refine Wa ?_
 refine A2 ?_
 refine Ln (Xt (Wq (Wq (Wg ?_))))
 refine M2 ?_
 refine Lc (bytes_Index _ v l hb vu u hbu (by first | omega | rfl | (simp <;> omega))) ?_
 rintro _ h ⟨rfl, rfl⟩
 refine Av ?_
 refine Ln (Xt (Wq (Wg ?_)))
 refine Mv ?_
 refine Ly (Y_geq rfl rfl) ?_
 refine Nx ?_
 refine W_splitd rfl (fun g => ?_) (fun g => ?_)
 ·refine Wq ?_
  refine W_quiet (fun h' => h' = h) (by kernel_rfl) (by kernel_rfl) rfl ?_
  refine Qm ?_
  refine Qm ?_
  have hb1 : Bytes h (slcut 1 0 (Lib.indexByte l (u.getD 0 0)).toNat v) (l.take (Lib.indexByte l (u.getD 0 0)).toNat) := Bytes.cuth hb (by omega) 
  refine Qy (Y_cut_h Tryz.underlying22 (show _ = some 1 by kernel_rfl) rfl hb rfl (by omega) (by omega)) ?_
  refine Qm ?_
  refine Qm ?_
  refine Qm ?_
  refine Qy (Y_len Tryz.underlying22 rfl hbu) ?_
  refine Qy (Y_add rfl rfl (by omega) (by omega)) ?_
  have hb2 : Bytes h (slcut 1 ((Lib.indexByte l (u.getD 0 0)) + (u.length : Int)).toNat l.length v) (l.drop ((Lib.indexByte l (u.getD 0 0)) + (u.length : Int)).toNat) := Bytes.cutl hb (by omega) 
  refine Qy (Y_cut_l Tryz.underlying22 (show _ = some 1 by kernel_rfl) rfl hb rfl (by omega) (by omega)) ?_
  refine Qa ?_
  refine Qa ?_
  refine Qa ?_
  refine LQ_nil ?_
  rintro h rfl
  refine Xt ?_
  refine Wu _ (tk4 6 5 4 0) ?_
  refine Wt (Xr ?_)
  refine X_ret3 rfl rfl rfl rfl ?_
  exact ⟨_, _, by rw [decide_eq_true g], (Bytes.congr hb1 (by simp only [cutA, if_pos g])), (Bytes.congr hb2 (by simp only [cutB, if_pos g, hu]; rfl)), (Ext.refl _)⟩
 refine Ws ?_
 refine Wu _ (tk4 6 5 4 0) ?_
 refine Wm ?_
 refine A2 ?_
 refine Av ?_
 refine Ln (Xt (Wt ?_))
 refine X_ret3 rfl rfl rfl rfl ?_
 exact ⟨_, _, by rw [decide_eq_false g], (Bytes.congr hb (by simp only [cutA, if_neg g])), (Bytes.congr (Bytes.nil _) (by simp only [cutB, if_neg g])), (Ext.refl _)⟩

end Go.Xp
