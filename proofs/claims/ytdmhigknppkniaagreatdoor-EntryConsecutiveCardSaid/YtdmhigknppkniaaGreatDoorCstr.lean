/- The functions of Go's library that look for one byte: strings and bytes. -/
import Derived.Test.YtdmhigknppkniaaGreatDoorBits
import Derived.Test.YtdmhigknppkniaaGreatDoorProg
import Derived.KernelRfl
set_option linter.unusedSimpArgs false
set_option linter.unusedVariables false
set_option maxRecDepth 100000
namespace Go.Xp
open Go.Proofs

theorem ext_IndexByteString {h : Heap} (l : List UInt8) (c : Int) (w : World) (_hw : w.heap = h) : (callFunc 125 #[str l, .int .u8 c]).run Tryz.prog w = .ok (.value (.int .i64 (Lib.indexByte l c.toNat.toUInt8))) w := by
  rw [run_callFunc_extern Tryz.func125 (by kernel_rfl) (by kernel_rfl) (by kernel_rfl) (e := Extern.BytealgIndexByte.indexByte) (by kernel_rfl), Lib.run_indexByteString]
  rfl
theorem run_indexByteRow {P : Program} {h : Heap} (v : Value) (l : List UInt8) (hb : Bytes h v l) (c : Int) (w : World) (hw : w.heap = h) : (Extern.BytealgIndexByte.indexByte #[v, .int .u8 c]).run P w = .ok (.int .i64 (Lib.indexByte l c.toNat.toUInt8)) w := by
  obtain ⟨⟨a0, cap, rfl, k1, k2, k3⟩, _⟩ := hb
  by_cases hl : l = []
  · subst hl
    have hs := Lib.run_indexByteNil (P := P) (w := w) 0 cap c
    cases a0 with
    | none => exact hs
    | some ad => exact hs
  · cases a0 with
    | none => exact absurd (k2 rfl) (by have := List.length_pos_iff.2 hl; omega)
    | some ad =>
      obtain ⟨j1, j3⟩ := k3 ad rfl
      obtain ⟨j1, -⟩ := j1 (List.length_pos_iff.2 hl)
      obtain ⟨b, o, sp⟩ := ad
      simp only at j1 j3
      subst j1
      have := Lib.run_indexByteSlice (P := P) (w := w) b o l.length cap (l.map (fun c => (c.toNat : Int))) (by simp) (fun i hi => by
        rw [cell?_cellAt, hw]
        refine (j3 i _ (List.getElem?_eq_getElem (by simpa using hi))).trans ?_
        simp [List.getD_eq_getElem?_getD, List.getElem?_eq_getElem hi, bv]) c
      rw [this]
      congr 3
      simp [Lib.bytesOf, List.map_map, Function.comp_def]
theorem ext_IndexByte {h : Heap} (v : Value) (l : List UInt8) (hb : Bytes h v l) (c : Int) (w : World) (hw : w.heap = h) : (callFunc 168 #[v, .int .u8 c]).run Tryz.prog w = .ok (.value (.int .i64 (Lib.indexByte l c.toNat.toUInt8))) w := by
  rw [run_callFunc_extern Tryz.func168 (by kernel_rfl) (by kernel_rfl) (by kernel_rfl) (e := Extern.BytealgIndexByte.indexByte) (by kernel_rfl), run_indexByteRow v l hb c w hw]
  rfl

theorem lite_IndexByte (h : Heap) (l : List UInt8) (c : Int) : Cal Tryz.prog 94 #[str l, .int .u8 (c)] h (fun v h' => v = .int .i64 (Lib.indexByte l c.toNat.toUInt8) ∧ h' = h) := by
 refine Ce Tryz.func94 fun σ => ?_
 refine Wa ?_
 refine Ln (Xt (Wq (Wg ?_)))
 refine M2 ?_
 refine Ly (Y_ext rfl (fun w_ h_ => ext_IndexByteString l c w_ h_)) ?_
 refine Av ?_
 refine Ln (Xt (Wt ?_))
 refine Xv1 ?_
 exact ⟨rfl, rfl⟩

theorem strings_IndexByte (h : Heap) (l : List UInt8) (c : Int) : Cal Tryz.prog 52 #[str l, .int .u8 (c)] h (fun v h' => v = .int .i64 (Lib.indexByte l c.toNat.toUInt8) ∧ h' = h) := by
 refine Ce Tryz.func52 fun σ => ?_
 refine Wa ?_
 refine Ln (Xt (Wq (Wg ?_)))
 refine M2 ?_
 refine Lc (lite_IndexByte _ l c) ?_
 rintro _ h ⟨rfl, rfl⟩
 refine Av ?_
 refine Ln (Xt (Wt ?_))
 refine Xv1 ?_
 exact ⟨rfl, rfl⟩

theorem bytes_IndexByte (h : Heap) (v : Value) (l : List UInt8) (hb : Bytes h v l) (c : Int) : Cal Tryz.prog 148 #[v, .int .u8 (c)] h (fun v h' => v = .int .i64 (Lib.indexByte l c.toNat.toUInt8) ∧ h' = h) := by
 refine Ce Tryz.func148 fun σ => ?_
 refine Wa ?_
 refine Ln (Xt (Wq (Wg ?_)))
 refine M2 ?_
 refine Ly (Y_ext rfl (fun w_ h_ => ext_IndexByte v l hb c w_ h_)) ?_
 refine Av ?_
 refine Ln (Xt (Wt ?_))
 refine Xv1 ?_
 exact ⟨rfl, rfl⟩

theorem byt_back (l : List UInt8) (k : Nat) : (byt l k).toNat.toUInt8 = l.getD k 0 := by simp [byt]
theorem indexByte_lt (l : List UInt8) (c : UInt8) : Lib.indexByte l c < l.length := by
  induction l with
  | nil => simp [Lib.indexByte]
  | cons a l ih =>
    simp only [Lib.indexByte, List.length_cons]
    split
    · omega
    · split <;> omega

/-! ### One byte looked for -/
theorem lite_Index (h : Heap) (l : List UInt8) (u : List UInt8) (hu : u.length = 1) : Cal Tryz.prog 137 #[str l, str u] h (fun v h' => v = .int .i64 (Lib.indexByte l (u.getD 0 0)) ∧ h' = h) := by
 refine Ce Tryz.func137 fun σ => ?_
 refine Wa ?_
 refine Ln (Xt (Wq (Wg ?_)))
 refine Mv ?_
 refine Ly (Y_slen Tryz.underlying9 rfl) ?_
 refine Av ?_
 refine Ln (Xt (Wq (Wb (Wq (Wg ?_)))))
 refine Mv ?_
 refine Ly Yeq ?_
 refine Mv ?_
 refine L_known (d := 19) false rfl (by exact decide_eq_false (by omega)) ?_
 refine M2 ?_
 refine Ly (Y_seql rfl rfl) ?_
 refine Ly Ypf ?_
 refine An ?_
 refine Wu _ (tk5 16 5 4 0 1) ?_
 refine Sd (fun g => ?_) fun g => ?_
 ·refine Wa ?_
  refine Ln (Xt (Wt (Yr (Xr ?_))))
  refine Xv1 ?_
  refine ⟨?_, rfl⟩
  subst g
  obtain ⟨c, rfl⟩ := List.length_eq_one_iff.1 hu
  simp [Lib.indexByte]
 refine Wm ?_
 refine Ly Yeq ?_
 refine An ?_
 refine W_known true rfl (by exact decide_eq_true (by omega)) ?_
 refine Wm ?_
 refine Mv ?_
 refine Ly (Y_sidx Tryz.underlying9 rfl rfl (by omega) (by omega)) ?_
 refine Lc (lite_IndexByte _ l (byt u 0)) ?_
 rintro _ h ⟨rfl, rfl⟩
 refine An ?_
 refine Wu _ (tk4 4 5 0 1) ?_
 refine Wt (Yr (Xr ?_))
 refine Xv1 ?_
 exact ⟨by rw [byt_back], rfl⟩

theorem strings_Index (h : Heap) (l : List UInt8) (u : List UInt8) (hu : u.length = 1) : Cal Tryz.prog 111 #[str l, str u] h (fun v h' => v = .int .i64 (Lib.indexByte l (u.getD 0 0)) ∧ h' = h) := by
 refine Ce Tryz.func111 fun σ => ?_
 refine Wa ?_
 refine Ln (Xt (Wq (Wg ?_)))
 refine M2 ?_
 refine Lc (lite_Index _ l u (by first | omega | rfl | (simp <;> omega))) ?_
 rintro _ h ⟨rfl, rfl⟩
 refine Av ?_
 refine Ln (Xt (Wt ?_))
 refine Xv1 ?_
 exact ⟨rfl, rfl⟩

theorem bytes_Index (h : Heap) (v : Value) (l : List UInt8) (hb : Bytes h v l) (vu : Value) (u : List UInt8) (hbu : Bytes h vu u) (hu : u.length = 1) : Cal Tryz.prog 126 #[v, vu] h (fun v h' => v = .int .i64 (Lib.indexByte l (u.getD 0 0)) ∧ h' = h) := by
 refine Ce Tryz.func126 fun σ => ?_
 refine Wa ?_
 refine Ln (Xt (Wq (Wg ?_)))
 refine Mv ?_
 refine Ly (Y_len Tryz.underlying22 rfl hbu) ?_
 refine Av ?_
 refine Ln (Xt (Wq (Wb (Wq (Wg ?_)))))
 refine Mv ?_
 refine Ly Yeq ?_
 refine An ?_
 refine W_known false rfl (by exact decide_eq_false (by omega)) ?_
 refine Wm ?_
 refine Ly Yeq ?_
 refine An ?_
 refine Wu _ (tk5 25 5 4 0 1) ?_
 refine W_known true rfl (by exact decide_eq_true (by omega)) ?_
 refine Wm ?_
 refine Mv ?_
 refine Ly (Y_idx Tryz.underlying22 (show _ = some 1 by kernel_rfl) rfl rfl hbu (by omega) (by omega)) ?_
 refine Ly (Y_ldbyte Tryz.underlying5 rfl rfl hbu (by omega) (by omega)) ?_
 refine Lc (bytes_IndexByte _ v l hb (byt u 0)) ?_
 rintro _ h ⟨rfl, rfl⟩
 refine An ?_
 refine Wu _ (tk4 4 5 0 1) ?_
 refine Wt (Yr (Xr ?_))
 refine Xv1 ?_
 exact ⟨by rw [byt_back], rfl⟩

/-- What Cut at one byte gives: the part ahead, the part behind, found. -/
def cutA (l : List UInt8) (c : UInt8) : List UInt8 := if 0 ≤ Lib.indexByte l c then l.take (Lib.indexByte l c).toNat else l
def cutB (l : List UInt8) (c : UInt8) : List UInt8 := if 0 ≤ Lib.indexByte l c then l.drop (Lib.indexByte l c + 1).toNat else []

theorem lite_Cut (h : Heap) (l : List UInt8) (u : List UInt8) (hu : u.length = 1) (hl : l.length ≤ 9223372036854775807) : Cal Tryz.prog 147 #[str l, str u] h (fun v h' => v = .tuple #[str (cutA l (u.getD 0 0)), str (cutB l (u.getD 0 0)), .bool (decide (0 ≤ Lib.indexByte l (u.getD 0 0)))] ∧ h' = h) := by
 have hi := indexByte_lt l (u.getD 0 0)
 refine Ce Tryz.func147 fun σ => ?_
 refine Wa ?_
 refine A2 ?_
 refine Ln (Xt (Wq (Wq (Wg ?_))))
 refine M2 ?_
 refine Lc (lite_Index _ l u (by first | omega | rfl | (simp <;> omega))) ?_
 rintro _ h ⟨rfl, rfl⟩
 refine Av ?_
 refine Ln (Xt (Wq (Wg ?_)))
 refine Mv ?_
 refine Ly (Y_geq rfl rfl) ?_
 refine Nx ?_
 refine Sd (fun g => ?_) fun g => ?_
 ·refine Wq ?_
  refine W_quiet (fun h' => h' = h) (by kernel_rfl) (by kernel_rfl) rfl ?_
  refine Qm ?_
  refine Qm ?_
  refine Qy (Y_sslice_h Tryz.underlying9 rfl rfl (by omega) (by omega)) ?_
  refine Qm ?_
  refine Qm ?_
  refine Qm ?_
  refine Qy (Y_slen Tryz.underlying9 rfl) ?_
  refine Qy (Y_add rfl rfl (by omega) (by omega)) ?_
  refine Qy (Y_sslice_l Tryz.underlying9 rfl rfl (by omega) (by omega)) ?_
  refine Qa ?_
  refine Qa ?_
  refine Qa ?_
  refine LQ_nil ?_
  rintro h rfl
  refine Xt ?_
  refine Wu _ (tk4 6 5 4 0) ?_
  refine Wt (Xr ?_)
  refine Xv3 ?_
  exact ⟨by simp only [cutA, cutB, if_pos g, decide_eq_true g, hu]; rfl, rfl⟩
 refine Ws ?_
 refine Wu _ (tk4 6 5 4 0) ?_
 refine Wm ?_
 refine A2 ?_
 refine Av ?_
 refine Ln (Xt (Wt ?_))
 refine Xv3 ?_
 exact ⟨by simp only [cutA, cutB, if_neg g, decide_eq_false g], rfl⟩

theorem strings_Cut (h : Heap) (l : List UInt8) (u : List UInt8) (hu : u.length = 1) (hl : l.length ≤ 9223372036854775807) : Cal Tryz.prog 122 #[str l, str u] h (fun v h' => v = .tuple #[str (cutA l (u.getD 0 0)), str (cutB l (u.getD 0 0)), .bool (decide (0 ≤ Lib.indexByte l (u.getD 0 0)))] ∧ h' = h) := by
 refine Ce Tryz.func122 fun σ => ?_
 refine Wa ?_
 refine A2 ?_
 refine Ln (Xt (Wq (Wg ?_)))
 refine M2 ?_
 refine Lc (lite_Cut _ l u (by first | omega | rfl | (simp <;> omega)) (by first | omega | rfl | (simp <;> omega))) ?_
 rintro _ h ⟨rfl, rfl⟩
 refine Lxx ?_
 refine Lx ?_
 refine A2 ?_
 refine An ?_
 refine Wu _ (tk3 6 5 4) ?_
 refine Wt ?_
 refine Xv3 ?_
 exact ⟨rfl, rfl⟩

theorem bytes_Cut (h : Heap) (v : Value) (l : List UInt8) (hb : Bytes h v l) (vu : Value) (u : List UInt8) (hbu : Bytes h vu u) (hu : u.length = 1) (hl : l.length ≤ 9223372036854775807) : Cal Tryz.prog 96 #[v, vu] h (fun v h' => ∃ s0 s1, v = .tuple #[s0, s1, .bool (decide (0 ≤ Lib.indexByte l (u.getD 0 0)))] ∧ Bytes h' s0 (cutA l (u.getD 0 0)) ∧ Bytes h' s1 (cutB l (u.getD 0 0)) ∧ Ext h h') := by
 have hi := indexByte_lt l (u.getD 0 0)
 refine Ce Tryz.func96 fun σ => ?_
 refine Wa ?_
 refine A2 ?_
 refine Ln (Xt (Wq (Wq (Wg ?_))))
 refine M2 ?_
 refine Lc (bytes_Index _ v l hb vu u hbu (by first | omega | rfl | (simp <;> omega))) ?_
 rintro _ h ⟨rfl, rfl⟩
 refine Av ?_
 refine Ln (Xt (Wq (Wg ?_)))
 refine Mv ?_
 refine Ly (Y_geq rfl rfl) ?_
 refine Nx ?_
 refine Sd (fun g => ?_) fun g => ?_
 ·refine Wq ?_
  refine W_quiet (fun h' => h' = h) (by kernel_rfl) (by kernel_rfl) rfl ?_
  refine Qm ?_
  refine Qm ?_
  have hb1 : Bytes h (slcut 1 0 (Lib.indexByte l (u.getD 0 0)).toNat v) (l.take (Lib.indexByte l (u.getD 0 0)).toNat) := Bytes.cuth hb (by omega) 
  refine Qy (Y_cut_h Tryz.underlying22 (show _ = some 1 by kernel_rfl) rfl hb rfl (by omega) (by omega)) ?_
  refine Qm ?_
  refine Qm ?_
  refine Qm ?_
  refine Qy (Y_len Tryz.underlying22 rfl hbu) ?_
  refine Qy (Y_add rfl rfl (by omega) (by omega)) ?_
  have hb2 : Bytes h (slcut 1 ((Lib.indexByte l (u.getD 0 0)) + (u.length : Int)).toNat l.length v) (l.drop ((Lib.indexByte l (u.getD 0 0)) + (u.length : Int)).toNat) := Bytes.cutl hb (by omega) 
  refine Qy (Y_cut_l Tryz.underlying22 (show _ = some 1 by kernel_rfl) rfl hb rfl (by omega) (by omega)) ?_
  refine Qa ?_
  refine Qa ?_
  refine Qa ?_
  refine LQ_nil ?_
  rintro h rfl
  refine Xt ?_
  refine Wu _ (tk4 6 5 4 0) ?_
  refine Wt (Xr ?_)
  refine Xv3 ?_
  exact ⟨_, _, by rw [decide_eq_true g], (Bytes.congr hb1 (by simp only [cutA, if_pos g])), (Bytes.congr hb2 (by simp only [cutB, if_pos g, hu]; rfl)), (Ext.refl _)⟩
 refine Ws ?_
 refine Wu _ (tk4 6 5 4 0) ?_
 refine Wm ?_
 refine A2 ?_
 refine Av ?_
 refine Ln (Xt (Wt ?_))
 refine Xv3 ?_
 exact ⟨_, _, by rw [decide_eq_false g], (Bytes.congr hb (by simp only [cutA, if_neg g])), (Bytes.congr (Bytes.nil _) (by simp only [cutB, if_neg g])), (Ext.refl _)⟩

end Go.Xp

/- Layer 2 (cstring): the walks of the program's functions and of its reference. -/
namespace Go.Xp
open Go.Proofs

/-! ### Bytes -/
theorem step_ne {P : Nat → Prop} {i : Nat} (h : ∀ k, k < i → P k) (hi : P i) : ∀ k, k < i + 1 → P k := fun k hk => by
  rcases Nat.lt_succ_iff_lt_or_eq.1 hk with h1 | rfl
  · exact h k h1
  · exact hi
theorem indexByte_mem (l : List UInt8) (c : UInt8) : (0 ≤ Lib.indexByte l c) ↔ c ∈ l := by
  induction l with
  | nil => simp [Lib.indexByte]
  | cons a l ih =>
    simp only [Lib.indexByte, List.mem_cons]
    by_cases h : a = c
    · subst h; simp
    · have h2 : (a == c) = false := by simpa using h
      have h3 : ¬ c = a := fun h' => h h'.symm
      have := Lib.indexByte_ge l c
      rw [h2]
      simp only [Bool.false_eq_true, if_false, h3, false_or]
      rw [← ih]
      by_cases h1 : Lib.indexByte l c = -1
      · rw [h1]; simp
      · have h4 : (Lib.indexByte l c == -1) = false := by simpa using h1
        rw [h4]; simp only [Bool.false_eq_true, if_false]; omega

/-! ### What the layer answers -/
def cerr (s : List UInt8) (w : Int) : Int := if ¬ (1 ≤ w ∧ w ≤ 256) then 2 else if 0 ∈ s then 6 else if w < s.length then 7 else 0
def cfmt (s : List UInt8) (w : Int) : List UInt8 := if cerr s w = 0 then s ++ List.replicate (w.toNat - s.length) 0 else []

theorem cstring_valid (h : Heap) (w : Int) : Cal Tryz.prog 95 #[.int .i64 (w)] h (fun v h' => v = .bool (decide (1 ≤ w ∧ w ≤ 256)) ∧ h' = h) := by
 refine Ce Tryz.func95 fun σ => ?_
 refine Wa ?_
 refine Nx ?_
 refine Wc [(2, .bool (decide ((1 ≤ w) ∧ (w ≤ 256))))] (fun h' => h' = h) ?_ ?_
 ·refine Wg ?_
  refine Mv ?_
  refine Ly (Y_geq rfl rfl) ?_
  refine Mv ?_
  refine L_splitd (d := 5) rfl (fun c1 => ?_) (fun c1 => ?_)
  ·refine Ly (Y_move rfl) ?_
   refine Ly (Y_leq rfl rfl) ?_
   refine Ly Ypt ?_
   refine Av ?_
   refine Ln ?_
   exact X_cut () (sk1 2 (lkb rfl (by first | (simp only [eq_true c1, SB]; done) | (simp only [eq_true c1, SB]; rfl))) sN) rfl
  refine Sk2 ?_
  refine Ly Ypf ?_
  refine Av ?_
  refine Ln ?_
  exact X_cut () (sk1 2 (lkb rfl (by first | (simp only [eq_false c1, SB]; done) | (simp only [eq_false c1, SB]; rfl))) sN) rfl
 rintro h rfl
 refine Wt ?_
 refine Xv1 ?_
 exact ⟨rfl, rfl⟩

theorem cstring_check (h : Heap) (s : List UInt8) (w : Int) : Cal Tryz.prog 142 #[str s, .int .i64 (w)] h (fun v h' => v = .int .i64 (cerr s w) ∧ h' = h) := by
 refine Ce Tryz.func142 fun σ => ?_
 refine Wa ?_
 refine Ln (Xt (Wq (Wb (Wq (Wg ?_)))))
 refine Mv ?_
 refine Lc (cstring_valid _ w) ?_
 rintro _ h ⟨rfl, rfl⟩
 refine Ly (Y_notd rfl) ?_
 refine An ?_
 refine Sd (fun c1 => ?_) fun c1 => ?_
 ·refine Wa ?_
  refine Nx ?_
  refine Wu _ (tk1 4) ?_
  refine Wt (Yr (Xr ?_))
  refine Xv1 ?_
  refine ⟨?_, rfl⟩
  try simp only [indexByte_mem, show (0 : Int).toNat.toUInt8 = (0 : UInt8) from rfl] at *
  simp [cerr, *]
 refine Wm ?_
 refine Lc (strings_IndexByte _ s (0 : Int)) ?_
 rintro _ h ⟨rfl, rfl⟩
 refine Ly (Y_geq rfl rfl) ?_
 refine An ?_
 refine Wu _ (tk4 9 4 0 1) ?_
 refine Sd (fun c2 => ?_) fun c2 => ?_
 ·refine Wa ?_
  refine Ln (Xt (Wt (Yr (Xr ?_))))
  refine Xv1 ?_
  refine ⟨?_, rfl⟩
  try simp only [indexByte_mem, show (0 : Int).toNat.toUInt8 = (0 : UInt8) from rfl] at *
  simp [cerr, *]
 refine Wm ?_
 refine Ly (Y_slen Tryz.underlying9 rfl) ?_
 refine Mv ?_
 refine Ly (Y_gtr rfl rfl) ?_
 refine An ?_
 refine Wu _ (tk2 13 4) ?_
 refine Sd (fun c3 => ?_) fun c3 => ?_
 ·refine Wa ?_
  refine Ln (Xt (Wt (Yr (Xr ?_))))
  refine Xv1 ?_
  refine ⟨?_, rfl⟩
  try simp only [indexByte_mem, show (0 : Int).toNat.toUInt8 = (0 : UInt8) from rfl] at *
  simp [cerr, *]
 refine Wk (Xb (Xt (Wq (Wg ?_))))
 refine Av ?_
 refine Ln (Xt (Wt ?_))
 refine Xv1 ?_
 refine ⟨?_, rfl⟩
 try simp only [indexByte_mem, show (0 : Int).toNat.toUInt8 = (0 : UInt8) from rfl] at *
 simp [cerr, *]

theorem cstring_Format (h : Heap) (s : List UInt8) (w : Int) : Cal Tryz.prog 114 #[str s, .int .i64 (w)] h (fun v h' => ∃ s0, v = .tuple #[s0, .int .i64 (cerr s w)] ∧ Bytes h' s0 (cfmt s w) ∧ Ext h h') := by
 have hc : cerr s w = 0 → 1 ≤ w ∧ w ≤ 256 ∧ s.length ≤ w := by unfold cerr; (repeat' split) <;> intro h <;> simp_all <;> omega
 refine Ce Tryz.func114 fun σ => ?_
 refine Wa ?_
 refine Av ?_
 refine Ln (Xt (Wq (Wq (Wg ?_))))
 refine M2 ?_
 refine Lc (cstring_check _ s w) ?_
 rintro _ h ⟨rfl, rfl⟩
 refine Av ?_
 refine Ln (Xt (Wq (Wg ?_)))
 refine Mv ?_
 refine Ly Yne ?_
 refine Nx ?_
 refine Sd (fun h0 => ?_) fun h0 => ?_
 ·refine Wm ?_
  refine A2 ?_
  refine Nx ?_
  refine Wu _ (tk4 5 4 0 1) ?_
  refine Wt (Xr ?_)
  refine Xv2 ?_
  exact ⟨_, rfl, by unfold cfmt; rw [if_neg h0]; exact Bytes.nil _, Ext.refl _⟩
 refine Ws ?_
 refine Wu _ (tk4 5 4 0 1) ?_
 refine Wm ?_
 refine L_mks (M_makeb Tryz.underlying22 (by unfold elemRow; kernel_rfl) rfl rfl rfl (by have := hc (by simpa using h0); omega) (by have := hc (by simpa using h0); omega)) rfl rfl rfl ?_
 rintro _ h1 ⟨rfl, hx1, hb2⟩
 refine Av ?_
 refine Ln (Xt (Wq (Wg ?_)))
 refine M2 ?_
 refine L_mks (M_copys Tryz.underlying22 (show _ = some 1 by kernel_rfl) rfl rfl hb2 (by simp)) rfl rfl rfl ?_
 rintro _ h2 ⟨rfl, hx3, hs4, hb5⟩
 have hb6 : Buf h2 h.size (s ++ List.replicate (w.toNat - s.length) 0) := Buf.congr hb5 (by have := hc (by simpa using h0); rw [List.take_of_length_le (by omega : s.length ≤ w.toNat)]; simp [Nat.min_eq_left (by omega : s.length ≤ w.toNat)])
 refine Nx ?_
 refine Wu _ (tk3 7 5 4) ?_
 refine Wm ?_
 refine A2 ?_
 refine Ln (Xt (Wt ?_))
 refine Xv2 ?_
 refine ⟨_, by rw [show cerr s w = 0 by simpa using h0], ?_, (hx1.then' hx3 (by simp) (Nat.le_refl _))⟩
 unfold cfmt
 rw [if_pos (by simpa using h0)]
 exact hb6.bytes (by have := hc (by simpa using h0); simp; omega)

/-! ### Parse -/
def perr (b : List UInt8) : Int := if ¬ (1 ≤ b.length ∧ b.length ≤ 256) then 2 else if (b.dropWhile (· != 0)).all (· == 0) = true then 0 else 6
def pstr (b : List UInt8) : List UInt8 := if perr b = 0 then b.takeWhile (· != 0) else []
theorem cutA_zero (b : List UInt8) : cutA b 0 = b.takeWhile (· != 0) := by
  unfold cutA
  induction b with
  | nil => simp [Lib.indexByte]
  | cons a l ih =>
    have hg := Lib.indexByte_ge l 0
    by_cases h : a = 0
    · subst h; simp [Lib.indexByte]
    · have h2 : (a == 0) = false := by simpa using h
      have h3 : (a != 0) = true := by simpa using h
      simp only [Lib.indexByte, h2, Bool.false_eq_true, if_false, List.takeWhile_cons, h3, if_true]
      rw [← ih]
      by_cases h1 : Lib.indexByte l 0 = -1
      · rw [h1]; simp
      · have h4 : (Lib.indexByte l 0 == -1) = false := by simpa using h1
        have h5 : 0 ≤ Lib.indexByte l 0 := by omega
        simp only [h4, Bool.false_eq_true, if_false]
        rw [if_pos (by omega : 0 ≤ Lib.indexByte l 0 + 1), if_pos h5, show (Lib.indexByte l 0 + 1).toNat = (Lib.indexByte l 0).toNat + 1 by omega, List.take_succ_cons]
theorem cutB_zero (b : List UInt8) : cutB b 0 = (b.dropWhile (· != 0)).drop 1 := by
  unfold cutB
  induction b with
  | nil => simp [Lib.indexByte]
  | cons a l ih =>
    have hg := Lib.indexByte_ge l 0
    by_cases h : a = 0
    · subst h; simp [Lib.indexByte]
    · have h2 : (a == 0) = false := by simpa using h
      have h3 : (a != 0) = true := by simpa using h
      simp only [Lib.indexByte, h2, Bool.false_eq_true, if_false, List.dropWhile_cons, h3, if_true]
      rw [← ih]
      by_cases h1 : Lib.indexByte l 0 = -1
      · rw [h1]; simp
      · have h4 : (Lib.indexByte l 0 == -1) = false := by simpa using h1
        have h5 : 0 ≤ Lib.indexByte l 0 := by omega
        simp only [h4, Bool.false_eq_true, if_false]
        rw [if_pos (by omega : 0 ≤ Lib.indexByte l 0 + 1), if_pos h5, show (Lib.indexByte l 0 + 1 + 1).toNat = (Lib.indexByte l 0 + 1).toNat + 1 by omega, List.drop_succ_cons]
theorem all_byt {l : List UInt8} : l.all (· == 0) = true ↔ ∀ k, k < l.length → byt l k = 0 := by
  rw [List.all_eq_true]
  constructor
  · intro h k hk
    have := h _ (List.getElem_mem hk)
    rw [byt_eq hk]
    have h2 : l[k] = 0 := by simpa using this
    rw [h2]; rfl
  · intro h x hx
    obtain ⟨k, hk, rfl⟩ := List.getElem_of_mem hx
    have := h k hk
    rw [byt_eq hk] at this
    have h2 : l[k] = 0 := UInt8.toNat_inj.1 (by simpa using this)
    simpa using h2
theorem dropWhile_all (b : List UInt8) : (b.dropWhile (· != 0)).all (· == 0) = ((b.dropWhile (· != 0)).drop 1).all (· == 0) := by
  induction b with
  | nil => rfl
  | cons a l ih =>
    rw [List.dropWhile_cons]
    split
    · exact ih
    · rename_i h
      have : a = 0 := by simpa using h
      subst this; simp
theorem cstring_Parse (h : Heap) (v : Value) (b : List UInt8) (hb : Bytes h v b) : Cal Tryz.prog 53 #[v] h (fun v h' => v = .tuple #[str (pstr b), .int .i64 (perr b)] ∧ Ext h h') := by
 have hcl : (cutB b ([0].getD 0 0)).length ≤ b.length := by unfold cutB; split <;> simp
 refine Ce Tryz.func53 fun σ => ?_
 refine Wa ?_
 refine Av ?_
 refine Ln (Xt (Wq (Wq (Wg ?_))))
 refine Mv ?_
 refine Ly (Y_len Tryz.underlying22 rfl hb) ?_
 refine Lc (cstring_valid _ (b.length : Int)) ?_
 rintro _ h ⟨rfl, rfl⟩
 refine Ly (Y_notd rfl) ?_
 refine Nx ?_
 refine Sd (fun hn => ?_) fun hn => ?_
 ·refine Wa ?_
  refine Av ?_
  refine Ln (Xt (Wt (Xr ?_)))
  refine Xv2 ?_
  have hp : perr b = 2 := by unfold perr; rw [if_pos (by omega)]
  exact ⟨by simp [pstr, hp], (Ext.refl _)⟩
 refine Wk (Xt (Wq (Wg ?_)))
 refine Mv ?_
 refine L_mks (M_litb (l := [0]) (cells := [.int .u8 0]) (pv := [(0, .int .u8 0)]) (E := 5) (evp (is := [0]) (os := [.const (.int .u8 0)]) (vs := [.int .u8 0]) rfl rfl) rfl rfl (fun _ => by kernel_rfl)) rfl rfl rfl ?_
 rintro v1 h1 ⟨ho2, hx3⟩
 refine Lc (bytes_Cut _ v b (hb.ext hx3) v1 [0] ho2.bytes (by first | omega | rfl | (simp <;> omega)) (by first | omega | rfl | (simp <;> omega))) ?_
 rintro _ h2 ⟨s04, s15, rfl, hr06, hr17, hx8⟩
 refine Mx ?_
 refine Lx ?_
 refine A2 ?_
 refine An ?_
 refine Wu _ (tk4 5 4 3 2) ?_
 refine Wq (Wq (Wg ?_))
 refine Mv ?_
 refine Ly (Y_len Tryz.underlying22 rfl hr17) ?_
 refine Mv ?_
 refine Ln (Xt (Wb ?_))
 refine W_loop (S := Nat) (fun i => [(21, .int .i64 (((cutB b ([0].getD 0 0)).length : Int))), (20, s15), (4, s04), (22, .int .i64 ((i : Int)))]) (fun i h' => i ≤ (cutB b ([0].getD 0 0)).length ∧ (∀ k, k < i → byt (cutB b ([0].getD 0 0)) k = 0) ∧ h' = h2) (fun i => (cutB b ([0].getD 0 0)).length - i) 0 (tk4 21 20 4 22) ?_ ?_
 ·exact ⟨Nat.zero_le _, (fun _ hk => absurd hk (Nat.not_lt_zero _)), rfl⟩
 rintro i h2 ⟨hi, hip, rfl⟩
 show W _ _ _ _ _ [(21, .int .i64 (((cutB b ([0].getD 0 0)).length : Int))), (20, s15), (4, s04), (22, .int .i64 ((i : Int)))] _
 refine Wr ?_
 refine Ly Yls ?_
 refine Ln (Xt (Wq ?_))
 refine Sd (fun hl => ?_) fun hl => ?_
 ·refine Wk (Xt (Wq (Wb (Wq (Wg ?_)))))
  refine Ly (Y_idx Tryz.underlying22 (show _ = some 1 by kernel_rfl) rfl rfl hr17 (by omega) (by omega)) ?_
  refine Ly (Y_ldbyte Tryz.underlying5 rfl rfl hr17 (by omega) (by omega)) ?_
  refine Av ?_
  refine Ln (Xt (Wq (Wg ?_)))
  refine Mv ?_
  refine Ly Yne ?_
  refine Nx ?_
  refine Sd (fun hne => ?_) fun hne => ?_
  ·refine Wa ?_
   refine An ?_
   refine Wu _ (tk6 3 2 21 20 4 22) ?_
   refine Wt (Yr (Xr (Xr (Yr (Xr ?_)))))
   refine Xv2 ?_
   have hp : perr b = 6 := by unfold perr; rw [if_neg (by omega), if_neg]; rw [dropWhile_all, ← cutB_zero]; intro h9; exact hne (all_byt.1 h9 i (by have := hl; simp at this ⊢; omega))
   exact ⟨by simp [pstr, hp], (hx3.trans hx8)⟩
  refine Wk (Xb (Xt ?_))
  refine Wu _ (tk4 21 20 4 22) ?_
  refine Wg ?_
  refine Lad ?_
  refine Mv ?_
  refine Ln ?_
  refine X_loop (i + 1) (tk4 21 20 4 22) ?_ ?_
  ·exact ⟨by omega, (step_ne hip (by simpa using hne)), rfl⟩
  (try dsimp only)
  omega
 refine W_exit ?_
 refine Xe (Xe ?_)
 refine X_block_hit ?_
 refine Xt (Wq (Wg ?_))
 refine Mv ?_
 refine Ly (Y_bytes_str Tryz.underlying22 Tryz.underlying5 Tryz.underlying9 rfl hr06) ?_
 refine A2 ?_
 refine Nx ?_
 refine Wu _ (tk2 3 2) ?_
 refine Wt ?_
 refine Xv2 ?_
 have hp : perr b = 0 := by unfold perr; rw [if_neg (by omega), if_pos]; rw [dropWhile_all, ← cutB_zero]; exact all_byt.2 (fun k hk => hip k (by simp at hl hk ⊢; omega))
 exact ⟨by unfold pstr; rw [hp, if_pos rfl, ← cutA_zero]; rfl, (hx3.trans hx8)⟩

end Go.Xp
