/- Layer 2 (cstring): the walks of the program's functions and of its reference. -/
import Derived.Test.YtdmhigknppkniaaGreatDoorLib
import Derived.Test.YtdmhigknppkniaaGreatDoorProg
import Derived.KernelRfl
set_option linter.unusedSimpArgs false
set_option linter.unusedVariables false
set_option maxRecDepth 100000
namespace Go.Xp
open Go.Proofs

/-! ### Bytes -/
theorem byt_ne {l : List UInt8} {c : UInt8} (h : ∀ k, k < l.length → ¬ byt l k = (c.toNat : Int)) : c ∉ l := by
  intro hm
  obtain ⟨k, hk, he⟩ := List.getElem_of_mem hm
  exact h k hk (by rw [byt_eq hk, he])
theorem byt_mem {l : List UInt8} {c : UInt8} {k : Nat} (hk : k < l.length) (h : byt l k = (c.toNat : Int)) : c ∈ l := by
  rw [byt_eq hk] at h
  have : l[k] = c := UInt8.toNat_inj.1 (by omega)
  exact this ▸ List.getElem_mem hk
theorem step_ne {P : Nat → Prop} {i : Nat} (h : ∀ k, k < i → P k) (hi : P i) : ∀ k, k < i + 1 → P k := fun k hk => by
  rcases Nat.lt_succ_iff_lt_or_eq.1 hk with h1 | rfl
  · exact h k h1
  · exact hi
theorem indexByte_mem (l : List UInt8) (c : UInt8) : (0 ≤ Lib.indexByte l c) ↔ c ∈ l := by
  induction l with
  | nil => simp [Lib.indexByte]
  | cons a l ih =>
    simp only [Lib.indexByte, List.mem_cons]
    by_cases h : a = c
    · subst h; simp
    · have h2 : (a == c) = false := by simpa using h
      have h3 : ¬ c = a := fun h' => h h'.symm
      have := Lib.indexByte_ge l c
      rw [h2]
      simp only [Bool.false_eq_true, if_false, h3, false_or]
      rw [← ih]
      by_cases h1 : Lib.indexByte l c = -1
      · rw [h1]; simp
      · have h4 : (Lib.indexByte l c == -1) = false := by simpa using h1
        rw [h4]; simp only [Bool.false_eq_true, if_false]; omega

/-! ### What the layer answers -/
def cerr (s : List UInt8) (w : Int) : Int := if ¬ (1 ≤ w ∧ w ≤ 256) then 2 else if 0 ∈ s then 6 else if w < s.length then 7 else 0
def cfmt (s : List UInt8) (w : Int) : List UInt8 := if cerr s w = 0 then s ++ List.replicate (w.toNat - s.length) 0 else []

theorem cstring_valid (h : Heap) (w : Int) : Cal Tryz.prog 95 #[.int .i64 (w)] h (fun v h' => v = .bool (decide (1 ≤ w ∧ w ≤ 256)) ∧ h' = h) := by
 refine Ce Tryz.func95 fun σ => ?_
 refine Wa ?_
 refine Nx ?_
 refine Wc [(2, .bool (decide ((1 ≤ w) ∧ (w ≤ 256))))] (fun h' => h' = h) ?_ ?_
 ·refine Wg ?_
  refine Mv ?_
  refine Ly (Y_geq rfl rfl) ?_
  refine Mv ?_
  refine L_splitd (d := 5) rfl (fun c1 => ?_) (fun c1 => ?_)
  ·refine Ly (Y_move rfl) ?_
   refine Ly (Y_leq rfl rfl) ?_
   refine Ly Ypt ?_
   refine Av ?_
   refine Ln ?_
   exact X_cut () (sk1 2 (lkb rfl (by first | (simp only [eq_true c1, SB]; done) | (simp only [eq_true c1, SB]; rfl))) sN) rfl
  refine Sk2 ?_
  refine Ly Ypf ?_
  refine Av ?_
  refine Ln ?_
  exact X_cut () (sk1 2 (lkb rfl (by first | (simp only [eq_false c1, SB]; done) | (simp only [eq_false c1, SB]; rfl))) sN) rfl
 rintro h rfl
 refine Wt ?_
 refine Xv1 ?_
 exact ⟨rfl, rfl⟩

theorem cstring_check (h : Heap) (s : List UInt8) (w : Int) : Cal Tryz.prog 142 #[str s, .int .i64 (w)] h (fun v h' => v = .int .i64 (cerr s w) ∧ h' = h) := by
 refine Ce Tryz.func142 fun σ => ?_
 refine Wa ?_
 refine Ln (Xt (Wq (Wb (Wq (Wg ?_)))))
 refine Mv ?_
 refine Lc (cstring_valid _ w) ?_
 rintro _ h ⟨rfl, rfl⟩
 refine Ly (Y_notd rfl) ?_
 refine An ?_
 refine Sd (fun c1 => ?_) fun c1 => ?_
 ·refine Wa ?_
  refine Nx ?_
  refine Wu _ (tk1 4) ?_
  refine Wt (Yr (Xr ?_))
  refine Xv1 ?_
  refine ⟨?_, rfl⟩
  try simp only [indexByte_mem, show (0 : Int).toNat.toUInt8 = (0 : UInt8) from rfl] at *
  simp [cerr, *]
 refine Wm ?_
 refine Lc (strings_IndexByte _ s (0 : Int)) ?_
 rintro _ h ⟨rfl, rfl⟩
 refine Ly (Y_geq rfl rfl) ?_
 refine An ?_
 refine Wu _ (tk4 9 4 0 1) ?_
 refine Sd (fun c2 => ?_) fun c2 => ?_
 ·refine Wa ?_
  refine Ln (Xt (Wt (Yr (Xr ?_))))
  refine Xv1 ?_
  refine ⟨?_, rfl⟩
  try simp only [indexByte_mem, show (0 : Int).toNat.toUInt8 = (0 : UInt8) from rfl] at *
  simp [cerr, *]
 refine Wm ?_
 refine Ly (Y_slen Tryz.underlying9 rfl) ?_
 refine Mv ?_
 refine Ly (Y_gtr rfl rfl) ?_
 refine An ?_
 refine Wu _ (tk2 13 4) ?_
 refine Sd (fun c3 => ?_) fun c3 => ?_
 ·refine Wa ?_
  refine Ln (Xt (Wt (Yr (Xr ?_))))
  refine Xv1 ?_
  refine ⟨?_, rfl⟩
  try simp only [indexByte_mem, show (0 : Int).toNat.toUInt8 = (0 : UInt8) from rfl] at *
  simp [cerr, *]
 refine Wk (Xb (Xt (Wq (Wg ?_))))
 refine Av ?_
 refine Ln (Xt (Wt ?_))
 refine Xv1 ?_
 refine ⟨?_, rfl⟩
 try simp only [indexByte_mem, show (0 : Int).toNat.toUInt8 = (0 : UInt8) from rfl] at *
 simp [cerr, *]

theorem cstring_Format (h : Heap) (s : List UInt8) (w : Int) : Cal Tryz.prog 114 #[str s, .int .i64 (w)] h (fun v h' => ∃ s0, v = .tuple #[s0, .int .i64 (cerr s w)] ∧ Bytes h' s0 (cfmt s w) ∧ Ext h h') := by
 have hc : cerr s w = 0 → 1 ≤ w ∧ w ≤ 256 ∧ s.length ≤ w := by unfold cerr; (repeat' split) <;> intro h <;> simp_all <;> omega
 refine Ce Tryz.func114 fun σ => ?_
 refine Wa ?_
 refine Av ?_
 refine Ln (Xt (Wq (Wq (Wg ?_))))
 refine M2 ?_
 refine Lc (cstring_check _ s w) ?_
 rintro _ h ⟨rfl, rfl⟩
 refine Av ?_
 refine Ln (Xt (Wq (Wg ?_)))
 refine Mv ?_
 refine Ly Yne ?_
 refine Nx ?_
 refine Sd (fun h0 => ?_) fun h0 => ?_
 ·refine Wm ?_
  refine A2 ?_
  refine Nx ?_
  refine Wu _ (tk4 5 4 0 1) ?_
  refine Wt (Xr ?_)
  refine Xv2 ?_
  exact ⟨_, rfl, by unfold cfmt; rw [if_neg h0]; exact Bytes.nil _, Ext.refl _⟩
 refine Ws ?_
 refine Wu _ (tk4 5 4 0 1) ?_
 refine Wm ?_
 refine L_mks (M_makeb Tryz.underlying22 (by unfold elemRow; kernel_rfl) rfl rfl rfl (by have := hc (by simpa using h0); omega) (by have := hc (by simpa using h0); omega)) rfl rfl rfl ?_
 rintro _ h1 ⟨rfl, hx1, hb2⟩
 refine Av ?_
 refine Ln (Xt (Wq (Wg ?_)))
 refine M2 ?_
 refine L_mks (M_copys Tryz.underlying22 (show _ = some 1 by kernel_rfl) rfl rfl hb2 (by simp)) rfl rfl rfl ?_
 rintro _ h2 ⟨rfl, hx3, hs4, hb5⟩
 have hb6 : Buf h2 h.size (s ++ List.replicate (w.toNat - s.length) 0) := Buf.congr hb5 (by have := hc (by simpa using h0); rw [List.take_of_length_le (by omega : s.length ≤ w.toNat)]; simp [Nat.min_eq_left (by omega : s.length ≤ w.toNat)])
 refine Nx ?_
 refine Wu _ (tk3 7 5 4) ?_
 refine Wm ?_
 refine A2 ?_
 refine Ln (Xt (Wt ?_))
 refine Xv2 ?_
 refine ⟨_, by rw [show cerr s w = 0 by simpa using h0], ?_, (hx1.then' hx3 (by simp) (Nat.le_refl _))⟩
 unfold cfmt
 rw [if_pos (by simpa using h0)]
 exact hb6.bytes (by have := hc (by simpa using h0); simp; omega)

theorem ref02_Format (h : Heap) (s : List UInt8) (w : Int) (hs : s.length ≤ 1048576) : Cal Tryz.prog 132 #[str s, .int .i64 (w)] h (fun v h' => ∃ s0, v = .tuple #[s0, .int .i64 (cerr s w)] ∧ Bytes h' s0 (cfmt s w) ∧ Ext h h') := by
 have hbad : ¬ (1 ≤ w ∧ w ≤ 256) → cerr s w = 2 := fun h => by unfold cerr; rw [if_pos h]
 refine Ce Tryz.func132 fun σ => ?_
 refine Wa ?_
 refine Av ?_
 refine Ln (Xt (Wq ?_))
 refine Wc [(13, .bool (decide ((w < 1) ∨ (256 < w)))), (5, .int .i64 0), (4, .slice none 0 0), (0, str s), (1, .int .i64 (w))] (fun h' => h' = h) ?_ ?_
 ·refine Wg ?_
  refine Mv ?_
  refine Ly Yls ?_
  refine Mv ?_
  refine L_splitd (d := 10) rfl (fun g1 => ?_) (fun g1 => ?_)
  ·refine Sk2 ?_
   refine Ly Ypt ?_
   refine Ln ?_
   exact X_cut () (sk1 13 (lkb rfl (by first | (simp only [eq_true g1, SB]; done) | (simp only [eq_true g1, SB]; rfl))) (sk1 5 rfl (sk1 4 rfl (sk1 0 rfl (tk1 1))))) rfl
  refine Ly (Y_move rfl) ?_
  refine Ly (Y_gtr rfl rfl) ?_
  refine Ly Ypf ?_
  refine Ln ?_
  exact X_cut () (sk1 13 (lkb rfl (by first | (simp only [eq_false g1, SB]; done) | (simp only [eq_false g1, SB]; rfl))) (sk1 5 rfl (sk1 4 rfl (sk1 0 rfl (tk1 1))))) rfl
 rintro h rfl
 refine Sd (fun g2 => ?_) fun g2 => ?_
 ·refine Wa ?_
  refine Av ?_
  refine Ln (Xt (Wt (Xr ?_)))
  refine Xv2 ?_
  refine ⟨_, by rw [hbad (by omega)], ?_, Ext.refl _⟩
  unfold cfmt
  rw [if_neg (by rw [hbad (by omega)]; decide)]
  exact Bytes.nil _
 refine Wk (Xt (Wq (Wq (Wg ?_))))
 refine Av ?_
 refine Ln (Xt (Wb ?_))
 refine W_loop (S := Nat) (fun i => [(0, str s), (1, .int .i64 (w)), (6, .int .i64 ((i : Int)))]) (fun i h' => i ≤ s.length ∧ (∀ k, k < i → ¬ byt s k = 0) ∧ h' = h) (fun i => s.length - i) 0 (tk3 0 1 6) ?_ ?_
 ·exact ⟨Nat.zero_le _, (fun _ hk => absurd hk (Nat.not_lt_zero _)), rfl⟩
 rintro i h ⟨hi, hip, rfl⟩
 show W _ _ _ _ _ [(0, str s), (1, .int .i64 (w)), (6, .int .i64 ((i : Int)))] _
 refine Wq (Wq (Wg ?_))
 refine M2 ?_
 refine Ly (Y_slen Tryz.underlying9 rfl) ?_
 refine Ly Yls ?_
 refine Nx ?_
 refine Sd (fun hl => ?_) fun hl => ?_
 ·refine Wk (Xt (Wq (Wb (Wq (Wg ?_)))))
  refine M2 ?_
  refine Ly (Y_sidx Tryz.underlying9 rfl rfl (by omega) (by omega)) ?_
  refine Ly Yeq ?_
  refine Nx ?_
  refine Wu _ (tk4 23 0 1 6) ?_
  refine Sd (fun he => ?_) fun hne => ?_
  ·refine Wa ?_
   refine Av ?_
   refine Ln (Xt (Wt (Yr (Xr (Xr (Yr (Xr ?_)))))))
   refine Xv2 ?_
   have hz : (0 : UInt8) ∈ s := byt_mem (by omega) he
   have hc : cerr s w = 6 := by unfold cerr; rw [if_neg (by omega), if_pos hz]
   refine ⟨_, by rw [hc], ?_, Ext.refl _⟩
   unfold cfmt
   rw [if_neg (by rw [hc]; decide)]
   exact Bytes.nil _
  refine Wk (Xb (Xt (Wg ?_)))
  refine Mv ?_
  refine Lad ?_
  refine Av ?_
  refine Ln ?_
  refine X_loop (i + 1) (tk3 0 1 6) ?_ ?_
  ·exact ⟨by omega, (step_ne hip hne), rfl⟩
  (try dsimp only)
  omega
 refine W_exit ?_
 refine Xe (Xe ?_)
 refine X_block_hit ?_
 refine Xt ?_
 have hz : (0 : UInt8) ∉ s := byt_ne (fun k hk => hip k (by omega))
 refine Wq (Wq (Wg ?_))
 refine Mv ?_
 refine Ly (Y_slen Tryz.underlying9 rfl) ?_
 refine Mv ?_
 refine Ly (Y_gtr rfl rfl) ?_
 refine Nx ?_
 refine Wu _ (tk3 27 0 1) ?_
 refine Sd (fun hw => ?_) fun hw => ?_
 ·refine Wa ?_
  refine Av ?_
  refine Ln (Xt (Wt (Xr ?_)))
  refine Xv2 ?_
  have hc : cerr s w = 7 := by unfold cerr; rw [if_neg (by omega), if_neg hz, if_pos hw]
  refine ⟨_, by rw [hc], ?_, Ext.refl _⟩
  unfold cfmt
  rw [if_neg (by rw [hc]; decide)]
  exact Bytes.nil _
 refine Ws ?_
 have hc : cerr s w = 0 := by unfold cerr; rw [if_neg (by omega), if_neg hz, if_neg hw]
 refine Wm ?_
 refine L_mks (M_strb Tryz.underlying9 Tryz.underlying22 Tryz.underlying5 rfl) rfl rfl rfl ?_
 rintro v1 h1 ⟨ho2, hx3⟩
 refine Av ?_
 refine Ln (Xt (Wq (Wb ?_)))
 refine W_loop (S := Value × Nat) (fun (v, m) => [(1, .int .i64 (w)), (7, v)]) (fun (v, m) h' => OwnB h' h.size v (s ++ List.replicate m 0) ∧ Ext h h' ∧ s.length + m ≤ w.toNat) (fun (v, m) => w.toNat - s.length - m) (v1, 0) (tk2 1 7) ?_ ?_
 ·exact ⟨(by simpa using ho2), hx3, by omega⟩
 rintro ⟨v, m⟩ h2 ⟨ho, hx, hm⟩
 show W _ _ _ _ _ [(1, .int .i64 (w)), (7, v)] _
 refine Wq (Wq (Wg ?_))
 refine Mv ?_
 refine Ly (Y_len Tryz.underlying22 rfl ho.bytes) ?_
 refine Mv ?_
 refine Ly Yls ?_
 refine Nx ?_
 refine Sd (fun hl => ?_) fun hl => ?_
 ·refine Wk (Xt (Wb (Wg ?_)))
  refine Mv ?_
  refine L_mks (M_litb (l := [0]) (cells := [.int .u8 0]) (pv := [(0, .int .u8 0)]) (E := 5) (evp (is := [0]) (os := [.const (.int .u8 0)]) (vs := [.int .u8 0]) rfl rfl) rfl rfl (fun _ => by kernel_rfl)) rfl rfl rfl ?_
  rintro v4 h3 ⟨ho5, hx6⟩
  refine L_mks (M_appb Tryz.underlying22 (by unfold elemRow; kernel_rfl) rfl rfl (ho.ext hx6) ho5.bytes (nt hx.size hx6.size) (by first | omega | (simp; omega))) rfl rfl rfl ?_
  rintro v7 h4 ha8
  refine Av ?_
  refine Ln (Xb ?_)
  refine X_loop ((v7, m + 1)) (tk2 1 7) ?_ ?_
  ·exact ⟨ha8.own.congr (by simp [List.replicate_succ']), ((hx.trans hx6).then' ha8.only ha8.ge (Nat.le_refl _)), (by simp at hl; omega)⟩
  (try dsimp only)
  simp at hl; omega
 refine W_exit ?_
 refine Xe (Xe ?_)
 refine X_block_hit ?_
 refine Xt (Wq (Wg ?_))
 refine Mv ?_
 refine A2 ?_
 refine Nx ?_
 refine Wu _ (tk2 5 4) ?_
 refine Wt ?_
 refine Xv2 ?_
 refine ⟨_, by rw [hc], ?_, hx⟩
 have hm' : m = w.toNat - s.length := by simp at hl; omega
 unfold cfmt
 rw [if_pos hc, ← hm']
 exact ho.bytes

/-! ### Parse -/
def perr (b : List UInt8) : Int := if ¬ (1 ≤ b.length ∧ b.length ≤ 256) then 2 else if (b.dropWhile (· != 0)).all (· == 0) = true then 0 else 6
def pstr (b : List UInt8) : List UInt8 := if perr b = 0 then b.takeWhile (· != 0) else []
theorem cutA_zero (b : List UInt8) : cutA b 0 = b.takeWhile (· != 0) := by
  unfold cutA
  induction b with
  | nil => simp [Lib.indexByte]
  | cons a l ih =>
    have hg := Lib.indexByte_ge l 0
    by_cases h : a = 0
    · subst h; simp [Lib.indexByte]
    · have h2 : (a == 0) = false := by simpa using h
      have h3 : (a != 0) = true := by simpa using h
      simp only [Lib.indexByte, h2, Bool.false_eq_true, if_false, List.takeWhile_cons, h3, if_true]
      rw [← ih]
      by_cases h1 : Lib.indexByte l 0 = -1
      · rw [h1]; simp
      · have h4 : (Lib.indexByte l 0 == -1) = false := by simpa using h1
        have h5 : 0 ≤ Lib.indexByte l 0 := by omega
        simp only [h4, Bool.false_eq_true, if_false]
        rw [if_pos (by omega : 0 ≤ Lib.indexByte l 0 + 1), if_pos h5, show (Lib.indexByte l 0 + 1).toNat = (Lib.indexByte l 0).toNat + 1 by omega, List.take_succ_cons]
theorem cutB_zero (b : List UInt8) : cutB b 0 = (b.dropWhile (· != 0)).drop 1 := by
  unfold cutB
  induction b with
  | nil => simp [Lib.indexByte]
  | cons a l ih =>
    have hg := Lib.indexByte_ge l 0
    by_cases h : a = 0
    · subst h; simp [Lib.indexByte]
    · have h2 : (a == 0) = false := by simpa using h
      have h3 : (a != 0) = true := by simpa using h
      simp only [Lib.indexByte, h2, Bool.false_eq_true, if_false, List.dropWhile_cons, h3, if_true]
      rw [← ih]
      by_cases h1 : Lib.indexByte l 0 = -1
      · rw [h1]; simp
      · have h4 : (Lib.indexByte l 0 == -1) = false := by simpa using h1
        have h5 : 0 ≤ Lib.indexByte l 0 := by omega
        simp only [h4, Bool.false_eq_true, if_false]
        rw [if_pos (by omega : 0 ≤ Lib.indexByte l 0 + 1), if_pos h5, show (Lib.indexByte l 0 + 1 + 1).toNat = (Lib.indexByte l 0 + 1).toNat + 1 by omega, List.drop_succ_cons]
theorem all_byt {l : List UInt8} : l.all (· == 0) = true ↔ ∀ k, k < l.length → byt l k = 0 := by
  rw [List.all_eq_true]
  constructor
  · intro h k hk
    have := h _ (List.getElem_mem hk)
    rw [byt_eq hk]
    have h2 : l[k] = 0 := by simpa using this
    rw [h2]; rfl
  · intro h x hx
    obtain ⟨k, hk, rfl⟩ := List.getElem_of_mem hx
    have := h k hk
    rw [byt_eq hk] at this
    have h2 : l[k] = 0 := UInt8.toNat_inj.1 (by simpa using this)
    simpa using h2
theorem dropWhile_all (b : List UInt8) : (b.dropWhile (· != 0)).all (· == 0) = ((b.dropWhile (· != 0)).drop 1).all (· == 0) := by
  induction b with
  | nil => rfl
  | cons a l ih =>
    rw [List.dropWhile_cons]
    split
    · exact ih
    · rename_i h
      have : a = 0 := by simpa using h
      subst this; simp
theorem trim_ok {b : List UInt8} {n : Nat} (hn : n ≤ b.length) (hz : ∀ k, n ≤ k → k < b.length → byt b k = 0) (h0 : (0 : UInt8) ∉ b.take n) : b.takeWhile (· != 0) = b.take n ∧ (b.dropWhile (· != 0)).all (· == 0) = true := by
  have h1 : ∀ x ∈ b.take n, (x != 0) = true := fun x hx => by
    have : x ≠ 0 := fun h => h0 (h ▸ hx)
    simpa using this
  have h2 : (b.drop n).all (· == 0) = true := all_byt.2 (fun k hk => by
    have hk' : k < b.length - n := by simpa using hk
    have := hz (n + k) (by omega) (by omega)
    rw [byt_eq (by omega)] at this
    rw [byt_eq hk]; simpa using this)
  have h3 : (b.drop n).takeWhile (· != 0) = [] ∧ (b.drop n).dropWhile (· != 0) = b.drop n := by
    cases hd : b.drop n with
    | nil => simp
    | cons a l =>
      rw [hd] at h2
      have : a = 0 := by simp at h2; exact h2.1
      subst this; simp
  constructor
  · conv => lhs; rw [← List.take_append_drop n b]
    rw [List.takeWhile_append_of_pos h1, h3.1, List.append_nil]
  · have : b.dropWhile (· != 0) = b.drop n := by
      conv => lhs; rw [← List.take_append_drop n b]
      rw [List.dropWhile_append_of_pos h1, h3.2]
    rw [this]; exact h2
theorem trim_bad {b : List UInt8} {n i : Nat} (hn : n ≤ b.length) (hl : 0 < n → ¬ byt b (n - 1) = 0) (hi : i < n) (h0 : byt b i = 0) : ¬ (b.dropWhile (· != 0)).all (· == 0) = true := by
  intro hall
  have hl' := hl (by omega)
  have hlen : (b.takeWhile (· != 0)).length ≤ i := by
    apply Nat.le_of_not_lt
    intro hlt
    have h1 : (b.takeWhile (· != 0))[i]'hlt ≠ 0 := by
      have hm := List.getElem_mem hlt
      have h5 := List.all_eq_true.1 (List.all_takeWhile (p := (· != (0 : UInt8))) (l := b)) _ hm
      simpa using h5
    have h2 : (b.takeWhile (· != 0))[i]'hlt = b[i]'(by omega) := by
      have h3 := List.takeWhile_append_dropWhile (p := (· != (0 : UInt8))) (l := b)
      have h4 : b[i]? = (b.takeWhile (· != 0))[i]? := by
        conv => lhs; rw [← h3]
        rw [List.getElem?_append_left hlt]
      rw [List.getElem?_eq_getElem hlt, List.getElem?_eq_getElem (by omega)] at h4
      exact (Option.some.inj h4).symm
    rw [byt_eq (by omega)] at h0
    exact h1 (by rw [h2]; exact UInt8.toNat_inj.1 (by simpa using h0))
  have hd : b.dropWhile (· != 0) = b.drop (b.takeWhile (· != 0)).length := by
    have h3 := List.takeWhile_append_dropWhile (p := (· != (0 : UInt8))) (l := b)
    have h9 := List.drop_left (l₁ := b.takeWhile (· != 0)) (l₂ := b.dropWhile (· != 0))
    rw [h3] at h9
    exact h9.symm
  rw [hd] at hall
  have := all_byt.1 hall (n - 1 - (b.takeWhile (· != 0)).length) (by simp; omega)
  apply hl'
  rw [byt_eq (by omega)]
  rw [byt_eq (by simp; omega)] at this
  simp only [List.getElem_drop] at this
  have he : (b.takeWhile (· != 0)).length + (n - 1 - (b.takeWhile (· != 0)).length) = n - 1 := by omega
  simp only [he] at this
  exact this

theorem cstring_Parse (h : Heap) (v : Value) (b : List UInt8) (hb : Bytes h v b) : Cal Tryz.prog 53 #[v] h (fun v h' => v = .tuple #[str (pstr b), .int .i64 (perr b)] ∧ Ext h h') := by
 have hcl : (cutB b ([0].getD 0 0)).length ≤ b.length := by unfold cutB; split <;> simp
 refine Ce Tryz.func53 fun σ => ?_
 refine Wa ?_
 refine Av ?_
 refine Ln (Xt (Wq (Wq (Wg ?_))))
 refine Mv ?_
 refine Ly (Y_len Tryz.underlying22 rfl hb) ?_
 refine Lc (cstring_valid _ (b.length : Int)) ?_
 rintro _ h ⟨rfl, rfl⟩
 refine Ly (Y_notd rfl) ?_
 refine Nx ?_
 refine Sd (fun hn => ?_) fun hn => ?_
 ·refine Wa ?_
  refine Av ?_
  refine Ln (Xt (Wt (Xr ?_)))
  refine Xv2 ?_
  have hp : perr b = 2 := by unfold perr; rw [if_pos (by omega)]
  exact ⟨by simp [pstr, hp], (Ext.refl _)⟩
 refine Wk (Xt (Wq (Wg ?_)))
 refine Mv ?_
 refine L_mks (M_litb (l := [0]) (cells := [.int .u8 0]) (pv := [(0, .int .u8 0)]) (E := 5) (evp (is := [0]) (os := [.const (.int .u8 0)]) (vs := [.int .u8 0]) rfl rfl) rfl rfl (fun _ => by kernel_rfl)) rfl rfl rfl ?_
 rintro v1 h1 ⟨ho2, hx3⟩
 refine Lc (bytes_Cut _ v b (hb.ext hx3) v1 [0] ho2.bytes (by first | omega | rfl | (simp <;> omega)) (by first | omega | rfl | (simp <;> omega))) ?_
 rintro _ h2 ⟨s04, s15, rfl, hr06, hr17, hx8⟩
 refine Mx ?_
 refine Lx ?_
 refine A2 ?_
 refine An ?_
 refine Wu _ (tk4 5 4 3 2) ?_
 refine Wq (Wq (Wg ?_))
 refine Mv ?_
 refine Ly (Y_len Tryz.underlying22 rfl hr17) ?_
 refine Mv ?_
 refine Ln (Xt (Wb ?_))
 refine W_loop (S := Nat) (fun i => [(21, .int .i64 (((cutB b ([0].getD 0 0)).length : Int))), (20, s15), (4, s04), (22, .int .i64 ((i : Int)))]) (fun i h' => i ≤ (cutB b ([0].getD 0 0)).length ∧ (∀ k, k < i → byt (cutB b ([0].getD 0 0)) k = 0) ∧ h' = h2) (fun i => (cutB b ([0].getD 0 0)).length - i) 0 (tk4 21 20 4 22) ?_ ?_
 ·exact ⟨Nat.zero_le _, (fun _ hk => absurd hk (Nat.not_lt_zero _)), rfl⟩
 rintro i h2 ⟨hi, hip, rfl⟩
 show W _ _ _ _ _ [(21, .int .i64 (((cutB b ([0].getD 0 0)).length : Int))), (20, s15), (4, s04), (22, .int .i64 ((i : Int)))] _
 refine Wr ?_
 refine Ly Yls ?_
 refine Ln (Xt (Wq ?_))
 refine Sd (fun hl => ?_) fun hl => ?_
 ·refine Wk (Xt (Wq (Wb (Wq (Wg ?_)))))
  refine Ly (Y_idx Tryz.underlying22 (show _ = some 1 by kernel_rfl) rfl rfl hr17 (by omega) (by omega)) ?_
  refine Ly (Y_ldbyte Tryz.underlying5 rfl rfl hr17 (by omega) (by omega)) ?_
  refine Av ?_
  refine Ln (Xt (Wq (Wg ?_)))
  refine Mv ?_
  refine Ly Yne ?_
  refine Nx ?_
  refine Sd (fun hne => ?_) fun hne => ?_
  ·refine Wa ?_
   refine An ?_
   refine Wu _ (tk6 3 2 21 20 4 22) ?_
   refine Wt (Yr (Xr (Xr (Yr (Xr ?_)))))
   refine Xv2 ?_
   have hp : perr b = 6 := by unfold perr; rw [if_neg (by omega), if_neg]; rw [dropWhile_all, ← cutB_zero]; intro h9; exact hne (all_byt.1 h9 i (by have := hl; simp at this ⊢; omega))
   exact ⟨by simp [pstr, hp], (hx3.trans hx8)⟩
  refine Wk (Xb (Xt ?_))
  refine Wu _ (tk4 21 20 4 22) ?_
  refine Wg ?_
  refine Lad ?_
  refine Mv ?_
  refine Ln ?_
  refine X_loop (i + 1) (tk4 21 20 4 22) ?_ ?_
  ·exact ⟨by omega, (step_ne hip (by simpa using hne)), rfl⟩
  (try dsimp only)
  omega
 refine W_exit ?_
 refine Xe (Xe ?_)
 refine X_block_hit ?_
 refine Xt (Wq (Wg ?_))
 refine Mv ?_
 refine Ly (Y_bytes_str Tryz.underlying22 Tryz.underlying5 Tryz.underlying9 rfl hr06) ?_
 refine A2 ?_
 refine Nx ?_
 refine Wu _ (tk2 3 2) ?_
 refine Wt ?_
 refine Xv2 ?_
 have hp : perr b = 0 := by unfold perr; rw [if_neg (by omega), if_pos]; rw [dropWhile_all, ← cutB_zero]; exact all_byt.2 (fun k hk => hip k (by simp at hl hk ⊢; omega))
 exact ⟨by unfold pstr; rw [hp, if_pos rfl, ← cutA_zero]; rfl, (hx3.trans hx8)⟩

theorem ref02_Parse (h : Heap) (v : Value) (b : List UInt8) (hb : Bytes h v b) : Cal Tryz.prog 67 #[v] h (fun v h' => v = .tuple #[str (pstr b), .int .i64 (perr b)] ∧ h' = h) := by
 refine Ce Tryz.func67 fun σ => ?_
 refine Wa ?_
 refine Av ?_
 refine Ln (Xt (Wq ?_))
 refine Wc [(13, .bool (decide (((b.length : Int) < 1) ∨ (256 < (b.length : Int))))), (3, .int .i64 0), (2, str []), (0, v)] (fun h' => h' = h) ?_ ?_
 ·refine Wg ?_
  refine Mv ?_
  refine Ly (Y_len Tryz.underlying22 rfl hb) ?_
  refine Ly Yls ?_
  refine Mv ?_
  refine L_splitd (d := 9) rfl (fun g1 => ?_) (fun g1 => ?_)
  ·refine Sk2 ?_
   refine Skp ?_
   refine Ly Ypt ?_
   refine Ln ?_
   exact X_cut () (sk1 13 (lkb rfl (by first | (simp only [eq_true g1, SB]; done) | (simp only [eq_true g1, SB]; rfl))) (sk1 3 rfl (sk1 2 rfl (tk1 0)))) rfl
  refine Ly (Y_move rfl) ?_
  refine Ly (Y_len Tryz.underlying22 rfl hb) ?_
  refine Ly (Y_gtr rfl rfl) ?_
  refine Ly Ypf ?_
  refine Ln ?_
  exact X_cut () (sk1 13 (lkb rfl (by first | (simp only [eq_false g1, SB]; done) | (simp only [eq_false g1, SB]; rfl))) (sk1 3 rfl (sk1 2 rfl (tk1 0)))) rfl
 rintro h rfl
 refine Sd (fun hn => ?_) fun hn => ?_
 ·refine Wa ?_
  refine Av ?_
  refine Ln (Xt (Wt (Xr ?_)))
  refine Xv2 ?_
  have hp : perr b = 2 := by unfold perr; rw [if_pos (by omega)]
  exact ⟨by simp [pstr, hp], rfl⟩
 refine Wk (Xt (Wq (Wg ?_)))
 refine Mv ?_
 refine Ly (Y_len Tryz.underlying22 rfl hb) ?_
 refine Av ?_
 refine Ln (Xt (Wq (Wb ?_)))
 refine W_loop (S := Nat) (fun n => [(3, .int .i64 0), (2, str []), (0, v), (4, .int .i64 ((n : Int)))]) (fun n h' => n ≤ b.length ∧ (∀ k, n ≤ k → k < b.length → byt b k = 0) ∧ h' = h) (fun n => n) b.length (tk4 3 2 0 4) ?_ ?_
 ·exact ⟨Nat.le_refl _, fun k h1 h2 => absurd h2 (by omega), rfl⟩
 rintro n h ⟨hnb, hz, rfl⟩
 show W _ _ _ _ _ [(3, .int .i64 0), (2, str []), (0, v), (4, .int .i64 ((n : Int)))] _
 refine Wq ?_
 refine Wc [(25, .bool (decide ((0 < (n : Int)) ∧ ((byt b ((n : Int) - 1).toNat) = 0)))), (3, .int .i64 0), (2, str []), (0, v), (4, .int .i64 ((n : Int)))] (fun h' => h' = h) ?_ ?_
 ·refine Wg ?_
  refine Mv ?_
  refine Ly (Y_gtr rfl rfl) ?_
  refine Mv ?_
  refine L_splitd (d := 18) rfl (fun g2 => ?_) (fun g2 => ?_)
  ·refine Ly (Y_move rfl) ?_
   refine Mv ?_
   refine Ly (Y_sub rfl rfl (by omega) (by omega)) ?_
   refine Ly (Y_idx Tryz.underlying22 (show _ = some 1 by kernel_rfl) rfl rfl hb (by omega) (by omega)) ?_
   refine Ly (Y_ldbyte Tryz.underlying5 rfl rfl hb (by omega) (by omega)) ?_
   refine Ly Yeq ?_
   refine Ly Ypt ?_
   refine Ln ?_
   exact X_cut () (sk1 25 (lkb rfl (by first | (simp only [eq_true g2, SB]; done) | (simp only [eq_true g2, SB]; rfl))) (sk1 3 rfl (sk1 2 rfl (sk1 0 rfl (tk1 4))))) rfl
  refine Sk2 ?_
  refine Sk2 ?_
  refine Sk2 ?_
  refine Ly Ypf ?_
  refine Ln ?_
  exact X_cut () (sk1 25 (lkb rfl (by first | (simp only [eq_false g2, SB]; done) | (simp only [eq_false g2, SB]; rfl))) (sk1 3 rfl (sk1 2 rfl (sk1 0 rfl (tk1 4))))) rfl
 rintro h rfl
 refine Sd (fun hlz => ?_) fun hlz => ?_
 ·refine Wk (Xt (Wb (Wg ?_)))
  refine Mv ?_
  refine Ly (Y_sub rfl rfl (by omega) (by omega)) ?_
  refine Av ?_
  refine Ln (Xb ?_)
  refine X_loop (n - 1) (sk3 3 2 0 rfl rfl rfl (sk1 4 (lki rfl (by omega)) sN)) ?_ ?_
  ·exact ⟨by omega, fun k h1 h2 => if h3 : k = n - 1 then by subst h3; rw [show n - 1 = ((n : Int) - 1).toNat by omega]; exact hlz.2 else hz k (by omega) h2, rfl⟩
  (try dsimp only)
  omega
 refine W_exit ?_
 refine Xe (Xe ?_)
 refine X_block_hit ?_
 refine Xt (Wq (Wq (Wg ?_)))
 refine Av ?_
 refine Ln (Xt (Wb ?_))
 refine W_loop (S := Nat) (fun i => [(0, v), (4, .int .i64 ((n : Int))), (5, .int .i64 ((i : Int)))]) (fun i h' => i ≤ n ∧ (∀ k, k < i → ¬ byt b k = 0) ∧ h' = h) (fun i => n - i) 0 (tk3 0 4 5) ?_ ?_
 ·exact ⟨Nat.zero_le _, (fun _ hk => absurd hk (Nat.not_lt_zero _)), rfl⟩
 rintro i h ⟨hi, hip, rfl⟩
 show W _ _ _ _ _ [(0, v), (4, .int .i64 ((n : Int))), (5, .int .i64 ((i : Int)))] _
 refine Wq (Wq (Wg ?_))
 refine M2 ?_
 refine Ly Yls ?_
 refine Nx ?_
 refine Sd (fun hl => ?_) fun hl => ?_
 ·refine Wk (Xt (Wq (Wb (Wq (Wg ?_)))))
  refine M2 ?_
  refine Ly (Y_idx Tryz.underlying22 (show _ = some 1 by kernel_rfl) rfl rfl hb (by omega) (by omega)) ?_
  refine Ly (Y_ldbyte Tryz.underlying5 rfl rfl hb (by omega) (by omega)) ?_
  refine Ly Yeq ?_
  refine Nx ?_
  refine Wu _ (tk4 37 0 4 5) ?_
  refine Sd (fun he => ?_) fun hne => ?_
  ·refine Wa ?_
   refine Av ?_
   refine Ln (Xt (Wt (Yr (Xr (Xr (Yr (Xr ?_)))))))
   refine Xv2 ?_
   have hp : perr b = 6 := by unfold perr; rw [if_neg (by omega), if_neg]; exact trim_bad (i := i) hnb (fun h1 h2 => hlz ⟨by omega, by rw [show ((n : Int) - 1).toNat = n - 1 by omega]; exact h2⟩) (by omega) he
   exact ⟨by rw [hp]; simp [pstr, hp], rfl⟩
  refine Wk (Xb (Xt (Wg ?_)))
  refine Mv ?_
  refine Lad ?_
  refine Av ?_
  refine Ln ?_
  refine X_loop (i + 1) (tk3 0 4 5) ?_ ?_
  ·exact ⟨by omega, (step_ne hip hne), rfl⟩
  (try dsimp only)
  omega
 refine W_exit ?_
 refine Xe (Xe ?_)
 refine X_block_hit ?_
 refine Xt (Wq (Wg ?_))
 refine M2 ?_
 have hb1 : Bytes h (slcut 1 0 ((n : Int)).toNat v) (b.take ((n : Int)).toNat) := Bytes.cuth hb (by omega) 
 refine Ly (Y_cut_h Tryz.underlying22 (show _ = some 1 by kernel_rfl) rfl hb rfl (by omega) (by omega)) ?_
 refine Ly (Y_bytes_str Tryz.underlying22 Tryz.underlying5 Tryz.underlying9 rfl hb1) ?_
 refine A2 ?_
 refine Nx ?_
 refine Wu _ (tk2 3 2) ?_
 refine Wt ?_
 refine Xv2 ?_
 have h0 : (0 : UInt8) ∉ b.take n := byt_ne (fun k hk h9 => hip k (by simp at hk; omega) (by rw [byt_eq hk] at h9; rw [byt_eq (by simp at hk; omega)]; simpa using h9))
 obtain ⟨t1, t2⟩ := trim_ok hnb hz h0
 have hp : perr b = 0 := by unfold perr; rw [if_neg (by omega), if_pos t2]
 exact ⟨by unfold pstr; rw [hp, if_pos rfl, t1]; rfl, rfl⟩

end Go.Xp
