/- Layer 9 (paxrec): keys, Check, Size. -/
import Derived.Test.YtknimfbagbkjfaaGreatDoorDec
import Derived.Test.YtknimfbagbkjfaaGreatDoorEq
import Derived.Test.YtknimfbagbkjfaaGreatDoorCstr
import Derived.Test.YtknimfbagbkjfaaGreatDoorRepeat
set_option linter.unusedSimpArgs false
set_option linter.unusedVariables false
set_option linter.unusedSectionVars false
namespace Go.Xp
open Go.Proofs

def sidx : List (List UInt8) → List UInt8 → Nat → Int
  | [], _, _ => -1
  | a :: r, x, k => if x = a then (k : Int) else sidx r x (k + 1)
theorem sidx_mem : ∀ (l : List (List UInt8)) (x : List UInt8) (k : Nat), 0 ≤ sidx l x k ↔ x ∈ l
  | [], x, k => by simp [sidx]
  | a :: r, x, k => by
    have := sidx_mem r x (k + 1)
    unfold sidx
    split
    · rename_i h; simp [h]
    · rename_i h; rw [this]; simp [h]
theorem sidx_skip {l : List (List UInt8)} {x : List UInt8} : ∀ {i : Nat}, i ≤ l.length → (∀ k, k < i → ¬ x = at_str l k) → sidx l x 0 = sidx (l.drop i) x i
  | 0, _, _ => by simp
  | i + 1, h, hd => by
    rw [sidx_skip (i := i) (by omega) (fun k hk => hd k (by omega)), List.drop_eq_getElem_cons (by omega)]
    have := hd i (by omega)
    rw [at_str, List.getD_eq_getElem?_getD, List.getElem?_eq_getElem (by omega)] at this
    rw [sidx, if_neg (by simpa using this)]
theorem sidx_at {l : List (List UInt8)} {x : List UInt8} {i : Nat} (h : i < l.length) (hd : ∀ k, k < i → ¬ x = at_str l k) (hx : x = at_str l i) : sidx l x 0 = i := by
  rw [sidx_skip (by omega) hd, List.drop_eq_getElem_cons h, sidx, if_pos]
  rw [hx, at_str, List.getD_eq_getElem?_getD, List.getElem?_eq_getElem h]; rfl

set_option maxRecDepth 100000 in
theorem slices_IndexS (h : Heap) (v : Value) (l : List (List UInt8)) (hl : Rows strS h v l) (x : List UInt8) (hn : l.length ≤ 140737488355328) : Cal Tryz.prog 89 #[v, str x] h (fun v h' => v = .int .i64 (sidx l x 0) ∧ h' = h) := by
 refine Cal_enter (args := [v, str x]) Tryz.func89 rfl rfl rfl (fun σ => ?_)
 refine Wr ?_
 refine Av ?_
 refine L_nil (X_then (W_seq (W_seq (W_region ?_))))
 refine Mv ?_
 refine Ly (Y_lenr Tryz.underlying86 rfl hl) ?_
 refine Mv ?_
 refine Nx ?_
 refine W_sub _ (tk5 8 7 4 0 1) ?_
 refine W_block ?_
 refine W_loop (S := Nat) (fun i => [(7, .int .i64 ((l.length : Int))), (0, v), (1, str x), (8, .int .i64 ((i : Int)))]) (fun i h' => i ≤ l.length ∧ (∀ k, k < i → ¬ x = at_str l k) ∧ h' = h) (fun i => l.length - i) 0 (tk4 7 0 1 8) ?_ ?_
 ·exact ⟨Nat.zero_le _, (fun _ hk => absurd hk (Nat.not_lt_zero _)), rfl⟩
 rintro i h ⟨hi, hip, rfl⟩
 show W _ _ _ _ _ [(7, .int .i64 ((l.length : Int))), (0, v), (1, str x), (8, .int .i64 ((i : Int)))] _
 refine Wr ?_
 refine Ly (Y_lss rfl rfl) ?_
 refine L_nil (X_then (W_seq ?_))
 refine W_splitd rfl (fun hl2 => ?_) (fun hl2 => ?_)
 ·refine Ws ?_
  refine W_sub _ (tk4 7 0 1 8) ?_
  refine W_seq (W_block (W_seq (W_region ?_)))
  refine Mv ?_
  refine Av ?_
  refine Nx ?_
  refine W_sub _ (tk5 5 7 0 1 8) ?_
  refine Wr ?_
  refine Mv ?_
  refine Mv ?_
  refine Mv ?_
  refine Ly (Y_idxr Tryz.underlying86 (show _ = some 1 by kernel_rfl) rfl rfl rfl hl (by omega) (by omega)) ?_
  refine Ly (Y_ldr0 (k := ((i : Int)).toNat) Tryz.underlying9 rfl rfl rfl hl (by omega) rfl) ?_
  refine Ly (Y_seql rfl rfl) ?_
  refine Nx ?_
  refine W_sub _ (tk6 16 5 7 0 1 8) ?_
  refine W_splitd rfl (fun hne => ?_) (fun hne => ?_)
  ·refine Wr ?_
   refine Mv ?_
   refine Av ?_
   refine Nx ?_
   refine W_sub _ (tk5 4 7 0 1 8) ?_
   refine W_ret (X_block_ret (X_then_ret (X_then_ret (X_block_ret (X_then_ret ?_)))))
   refine X_ret1 rfl rfl ?_
   exact ⟨by rw [sidx_at (i := i) (by omega) hip (hne)], rfl⟩
  refine W_skip (X_block (X_then ?_))
  refine W_sub _ (tk4 7 0 1 8) ?_
  refine W_region ?_
  refine Ly (Y_add rfl rfl (by omega) (by omega)) ?_
  refine Mv ?_
  refine L_nil ?_
  refine X_loop (i + 1) (tk4 7 0 1 8) ?_ ?_
  ·exact ⟨by omega, (step_ne hip (hne)), rfl⟩
  (try dsimp only)
  omega
 refine W_exit ?_
 refine X_then_exit (X_then_exit ?_)
 refine X_block_hit ?_
 refine X_then ?_
 refine W_sub _ sN ?_
 refine Wr ?_
 refine Av ?_
 refine L_nil (X_then (W_ret ?_))
 refine X_ret1 rfl rfl ?_
 have hi9 : i = l.length := by omega
 exact ⟨by rw [sidx_skip (i := i) (by omega) hip, hi9, List.drop_length]; rfl, rfl⟩
set_option maxRecDepth 100000 in
theorem slices_ContainsS (h : Heap) (v : Value) (l : List (List UInt8)) (hl : Rows strS h v l) (x : List UInt8) (hn : l.length ≤ 140737488355328) : Cal Tryz.prog 64 #[v, str x] h (fun v h' => v = .bool (decide (x ∈ l)) ∧ h' = h) := by
 refine Cal_enter (args := [v, str x]) Tryz.func64 rfl rfl rfl (fun σ => ?_)
 refine Wr ?_
 refine Av ?_
 refine L_nil (X_then (W_seq (W_region ?_)))
 refine Mv ?_
 refine Mv ?_
 refine L_call (E_call (by kernel_rfl) rfl) (slices_IndexS _ v l hl x (by first | omega | rfl | (simp <;> omega))) rfl rfl rfl ?_
 rintro _ h ⟨rfl, rfl⟩
 refine Ly (Y_geq rfl rfl) ?_
 refine Av ?_
 refine Nx ?_
 refine W_sub _ (tk1 4) ?_
 refine W_ret ?_
 refine X_ret1 rfl rfl ?_
 exact ⟨by simp only [sidx_mem], rfl⟩

/-! ### Check -/
def rerr (k v : List UInt8) : Int :=
  if k = [115, 105, 122, 101] then nerr v 1099511627776
  else if k = [108, 105, 110, 107, 112, 97, 116, 104] ∨ k = [112, 97, 116, 104] then (if 65536 < v.length then 7 else if v = [] ∨ (0 : UInt8) ∈ v then 6 else 0)
  else 17
theorem rerr_key {k v : List UInt8} (h : ¬ k ∈ [[108, 105, 110, 107, 112, 97, 116, 104], [112, 97, 116, 104], [115, 105, 122, 101]]) : rerr k v = 17 := by
  simp only [List.mem_cons, List.not_mem_nil, or_false, not_or] at h
  unfold rerr; rw [if_neg h.2.2, if_neg (fun e => e.elim h.1 h.2.1)]
theorem rerr_path {k v : List UInt8} (h : k ∈ [[108, 105, 110, 107, 112, 97, 116, 104], [112, 97, 116, 104], [115, 105, 122, 101]]) (h2 : ¬ k = [115, 105, 122, 101]) : rerr k v = (if 65536 < v.length then 7 else if v = [] ∨ (0 : UInt8) ∈ v then 6 else 0) := by
  simp only [List.mem_cons, List.not_mem_nil, or_false] at h
  unfold rerr; rw [if_neg h2, if_pos (h.elim .inl (fun h => h.elim .inr (fun h => absurd h h2)))]

set_option maxRecDepth 100000 in
theorem rec_Check (h : Heap) (hK : GlbK h) (hE : GlbE h) (kk : List UInt8) (vv : List UInt8) (h1 : vv.length ≤ 140737488355328) : Cal Tryz.prog 45 #[.agg #[str kk, str vv]] h (fun v h' => v = .int .i64 (rerr kk vv) ∧ Ext h h') := by
 refine Cal_enter (args := [.agg #[str kk, str vv]]) Tryz.func45 rfl rfl rfl (fun σ => ?_)
 refine Wr ?_
 refine L_mks (M_box rfl) rfl rfl rfl ?_
 rintro _ h1 ⟨rfl, hn1⟩
 have hk2 : Blk h1 h.size [str kk, str vv] := hn1.blk
 refine Av ?_
 refine Nx ?_
 refine W_sub _ (tk2 2 1) ?_
 refine W_seq (W_seq ?_)
 refine W_quiet (fun h' => h' = h1) (by kernel_rfl) (by kernel_rfl) rfl ?_
 have hb3 : Rows strS h1 (.slice (some ⟨14, 0, none⟩) 3 3) ([[108, 105, 110, 107, 112, 97, 116, 104], [112, 97, 116, 104], [115, 105, 122, 101]]) := Cls.rowsS (l := [[108, 105, 110, 107, 112, 97, 116, 104], [112, 97, 116, 104], [115, 105, 122, 101]]) (hK.ext hn1.ext).g0 rfl (by decide)
 refine LQ_yld (fun h_ hI_ => by subst hI_; exact Y_arrall Tryz.underlying114 (show _ = some 1 by kernel_rfl) (by decide) rfl) rfl rfl rfl ?_
 refine LQ_yld (fun h_ hI_ => by subst hI_; exact Y_fieldAddr (off := 0) (by kernel_rfl) rfl rfl) rfl rfl rfl ?_
 refine LQ_yld (fun h_ hI_ => by subst hI_; exact Y_ldblk Tryz.underlying9 rfl rfl hk2 rfl) rfl rfl rfl ?_
 refine LQ_call (v := .bool (decide (kk ∈ [[108, 105, 110, 107, 112, 97, 116, 104], [112, 97, 116, 104], [115, 105, 122, 101]]))) (fun _ _ => E_call (by kernel_rfl) rfl) (fun h_ hI_ => by subst hI_; exact (slices_ContainsS _ (.slice (some ⟨14, 0, none⟩) 3 3) [[108, 105, 110, 107, 112, 97, 116, 104], [112, 97, 116, 104], [115, 105, 122, 101]] hb3 kk (by first | omega | rfl | (simp <;> omega)))) rfl rfl rfl ?_
 refine LQ_yld (fun h_ hI_ => by subst hI_; exact Y_notd rfl) rfl rfl rfl ?_
 refine LQ_nil ?_
 rintro h1 rfl
 refine X_then ?_
 refine W_sub _ (tk3 9 2 1) ?_
 refine W_splitd rfl (fun c => ?_) (fun c => ?_)
 ·refine Wr ?_
  refine Av ?_
  refine Nx ?_
  refine W_sub _ (tk2 2 1) ?_
  refine W_ret (X_then_ret ?_)
  refine X_ret1 rfl rfl ?_
  exact ⟨by rw [rerr_key c], hn1.ext⟩
 refine Ws ?_
 refine W_sub _ (tk2 2 1) ?_
 have c' := Classical.not_not.1 c
 refine W_seq (W_seq (W_region ?_))
 refine Ly (Y_fieldAddr (off := 0) (by kernel_rfl) rfl rfl) ?_
 refine Ly (Y_ldblk Tryz.underlying9 rfl rfl hk2 rfl) ?_
 refine Ly (Y_seql rfl rfl) ?_
 refine Nx ?_
 refine W_sub _ (tk3 12 2 1) ?_
 refine W_splitd rfl (fun z => ?_) (fun z => ?_)
 ·refine Wr ?_
  refine Ly (Y_fieldAddr (off := 1) (by kernel_rfl) rfl rfl) ?_
  refine Ly (Y_ldblk Tryz.underlying9 rfl rfl hk2 rfl) ?_
  refine L_call (E_call (by kernel_rfl) rfl) (rec_number _ (hE.ext hn1.ext) vv (1099511627776 : Int) (by first | omega | rfl | (simp <;> omega)) (by first | omega | rfl | (simp <;> omega))) rfl rfl rfl ?_
  rintro _ h2 ⟨rfl, hx4⟩
  refine Mv ?_
  refine Ly (Y_extract (v := .int .i64 (nnum vv (1099511627776 : Int))) rfl rfl) ?_
  refine Ly (Y_extract (v := .int .i64 (nerr vv (1099511627776 : Int))) rfl rfl) ?_
  refine Av ?_
  refine Av ?_
  refine Nx ?_
  refine W_sub _ (tk3 4 2 1) ?_
  refine Wr ?_
  refine Mv ?_
  refine Av ?_
  refine Nx ?_
  refine W_sub _ (tk2 2 1) ?_
  refine W_ret (X_then_ret ?_)
  refine X_ret1 rfl rfl ?_
  exact ⟨by unfold rerr; rw [if_pos z], (hn1.ext.trans hx4)⟩
 refine Ws ?_
 refine W_sub _ (tk2 2 1) ?_
 refine W_seq (W_block (W_seq (W_region ?_)))
 refine Ly (Y_fieldAddr (off := 1) (by kernel_rfl) rfl rfl) ?_
 refine Ly (Y_ldblk Tryz.underlying9 rfl rfl hk2 rfl) ?_
 refine Ly (Y_slen Tryz.underlying9 rfl) ?_
 refine Ly (Y_gtr rfl rfl) ?_
 refine Av ?_
 refine Nx ?_
 refine W_sub _ (tk3 20 2 1) ?_
 refine W_splitd rfl (fun g => ?_) (fun g => ?_)
 ·refine Wr ?_
  refine Av ?_
  refine Nx ?_
  refine W_sub _ (tk1 2) ?_
  refine W_ret (X_block_ret (X_then_ret ?_))
  refine X_ret1 rfl rfl ?_
  exact ⟨by rw [rerr_path c' z, if_pos (by omega)], hn1.ext⟩
 refine W_cut (S := Unit) (fun _ => [(25, .bool (decide ((vv = []) ∨ (0 ≤ (Lib.indexByte vv (0 : Int).toNat.toUInt8))))), (2, .int .i64 0)]) (fun _ h' => h' = h1) ?_ ?_
 ·refine W_region ?_
  refine Ly (Y_fieldAddr (off := 1) (by kernel_rfl) rfl rfl) ?_
  refine Ly (Y_ldblk Tryz.underlying9 rfl rfl hk2 rfl) ?_
  refine Ly (Y_seql rfl rfl) ?_
  refine Mv ?_
  refine L_splitd (d := 29) rfl (fun c5 => ?_) (fun c5 => ?_)
  ·refine Skp ?_
   refine Skp ?_
   refine Skp ?_
   refine Skp ?_
   refine Ly (Y_pick_t rfl rfl) ?_
   refine Av ?_
   refine L_nil ?_
   exact X_cut () (sk1 25 (lkb rfl (by first | (simp only [eq_true c5, SB]; done) | (simp only [eq_true c5, SB]; rfl))) (tk1 2)) rfl
  refine Ly (Y_fieldAddr (off := 1) (by kernel_rfl) rfl rfl) ?_
  refine Ly (Y_ldblk Tryz.underlying9 rfl rfl hk2 rfl) ?_
  refine L_call (E_call (by kernel_rfl) rfl) (strings_IndexByte _ vv (0 : Int)) rfl rfl rfl ?_
  rintro _ h1 ⟨rfl, rfl⟩
  refine Ly (Y_geq rfl rfl) ?_
  refine Ly (Y_pick_f rfl rfl) ?_
  refine Av ?_
  refine L_nil ?_
  exact X_cut () (sk1 25 (lkb rfl (by first | (simp only [eq_false c5, SB]; done) | (simp only [eq_false c5, SB]; rfl))) (tk1 2)) rfl
 rintro _ h1 rfl
 show W _ _ _ _ _ [(25, .bool (decide ((vv = []) ∨ (0 ≤ (Lib.indexByte vv (0 : Int).toNat.toUInt8))))), (2, .int .i64 0)] _
 refine W_splitd rfl (fun b => ?_) (fun b => ?_)
 ·refine Wr ?_
  refine Av ?_
  refine Nx ?_
  refine W_sub _ (tk1 2) ?_
  refine W_ret (X_block_ret (X_then_ret ?_))
  refine X_ret1 rfl rfl ?_
  have b' : vv = [] ∨ (0 : UInt8) ∈ vv := b.imp id (fun b => (indexByte_mem _ _).1 b)
  exact ⟨by rw [rerr_path c' z, if_neg (by omega), if_pos b'], hn1.ext⟩
 refine W_skip (X_block (X_then ?_))
 refine W_sub _ (tk1 2) ?_
 refine Wr ?_
 refine Av ?_
 refine L_nil (X_then (W_ret ?_))
 refine X_ret1 rfl rfl ?_
 have b' : ¬ (vv = [] ∨ (0 : UInt8) ∈ vv) := fun e => b (e.imp id (fun e => (indexByte_mem _ _).2 e))
 exact ⟨by rw [rerr_path c' z, if_neg (by omega), if_neg b'], hn1.ext⟩

/-! ### Size -/
theorem nDigits_mono : ∀ {b a : Nat}, a ≤ b → Lib.nDigits a ≤ Lib.nDigits b := by
  intro b
  induction b using Nat.strongRecOn with
  | ind b ih =>
    intro a h
    rcases Nat.lt_or_ge a 10 with h1 | h1
    · rw [Lib.nDigits_small h1]; exact Lib.nDigits_pos b
    · rw [Lib.nDigits_big (by omega), Lib.nDigits_big (u := b) (by omega)]
      have := ih (b / 10) (by omega) (a := a / 10) (by omega)
      omega
def pgo (rest : Nat) : Nat → Nat → Nat
  | 0, d => d
  | f + 1, d => if Lib.nDigits (rest + d) ≤ d then d else pgo rest f (d + 1)
/-- How many digits the number of a record's length has, and that number. -/
def pdig (rest : Nat) : Nat := pgo rest 24 1
def psz (rest : Nat) : Nat := rest + pdig rest
theorem pgo_ok {rest : Nat} (hr : rest ≤ 1152921504606846976) : ∀ (f d : Nat), 24 ≤ f + d → d ≤ 25 → (∀ e, 1 ≤ e → e < d → e < Lib.nDigits (rest + e)) → d ≤ pgo rest f d ∧ pgo rest f d ≤ 25 ∧ Lib.nDigits (rest + pgo rest f d) ≤ pgo rest f d ∧ ∀ e, 1 ≤ e → e < pgo rest f d → e < Lib.nDigits (rest + e)
  | 0, d, h, h1, hd => by
    have := nDigits_le (u := rest + d) (by omega)
    exact ⟨Nat.le_refl _, h1, by unfold pgo; omega, hd⟩
  | f + 1, d, h, h1, hd => by
    by_cases hc : Lib.nDigits (rest + d) ≤ d
    · have e : pgo rest (f + 1) d = d := by rw [pgo, if_pos hc]
      rw [e]; exact ⟨Nat.le_refl _, h1, hc, hd⟩
    · have hn := nDigits_le (u := rest + d) (by omega)
      have e : pgo rest (f + 1) d = pgo rest f (d + 1) := by rw [pgo, if_neg hc]
      have := pgo_ok hr f (d + 1) (by omega) (by omega) (fun e h2 h3 => by
        rcases Nat.lt_or_ge e d with h4 | h4
        · exact hd e h2 h4
        · obtain rfl : e = d := by omega
          omega)
      rw [e]; exact ⟨by omega, this.2⟩
theorem pdig_ok {rest : Nat} (hr : rest ≤ 1152921504606846976) : 1 ≤ pdig rest ∧ pdig rest ≤ 25 ∧ Lib.nDigits (rest + pdig rest) = pdig rest ∧ ∀ e, 1 ≤ e → e < pdig rest → e < Lib.nDigits (rest + e) := by
  obtain ⟨h1, h2, h3, h4⟩ := pgo_ok hr 24 1 (by omega) (by omega) (fun e h2 h3 => by omega)
  refine ⟨h1, h2, Nat.le_antisymm h3 ?_, h4⟩
  have h5 : pgo rest 24 1 = pdig rest := rfl
  rw [h5] at h1 h4
  rcases Nat.lt_or_ge 1 (pdig rest) with h6 | h6
  · have h7 := h4 (pdig rest - 1) (by omega) (by omega)
    have h8 := nDigits_mono (a := rest + (pdig rest - 1)) (b := rest + pdig rest) (by omega)
    omega
  · have := Lib.nDigits_pos (rest + pdig rest); omega
theorem itoa_len {n : Int} (h : 0 ≤ n) : (Lib.itoa n).length = Lib.nDigits n.toNat := by
  unfold Lib.itoa; rw [if_neg (by omega), Lib.decDigits_length]
theorem itoa_pos {n : Int} (h : 0 ≤ n) : Lib.itoa n = Lib.decDigits n.toNat := by
  unfold Lib.itoa; rw [if_neg (by omega)]
/-- The length of what stands behind the number. -/
def rrest (k v : List UInt8) : Nat := k.length + v.length + 3

set_option maxRecDepth 100000 in
theorem rec_Size (h : Heap) (hN : GlbN h) (kk : List UInt8) (vv : List UInt8) (h1 : kk.length ≤ 140737488355328) (h2 : vv.length ≤ 140737488355328) : Cal Tryz.prog 47 #[.agg #[str kk, str vv]] h (fun v h' => v = .int .i64 ((psz (rrest kk vv) : Int)) ∧ Ext h h') := by
 have hr : rrest kk vv ≤ 1152921504606846976 := by unfold rrest; omega
 have hp := pdig_ok hr
 refine Cal_enter (args := [.agg #[str kk, str vv]]) Tryz.func47 rfl rfl rfl (fun σ => ?_)
 refine Wr ?_
 refine L_mks (M_box rfl) rfl rfl rfl ?_
 rintro _ h1 ⟨rfl, hn1⟩
 have hk2 : Blk h1 h.size [str kk, str vv] := hn1.blk
 refine Av ?_
 refine Nx ?_
 refine W_sub _ (tk2 2 1) ?_
 refine Wr ?_
 refine Ly (Y_fieldAddr (off := 0) (by kernel_rfl) rfl rfl) ?_
 refine Ly (Y_ldblk Tryz.underlying9 rfl rfl hk2 rfl) ?_
 refine Ly (Y_slen Tryz.underlying9 rfl) ?_
 refine Ly (Y_fieldAddr (off := 1) (by kernel_rfl) rfl rfl) ?_
 refine Ly (Y_ldblk Tryz.underlying9 rfl rfl hk2 rfl) ?_
 refine Ly (Y_slen Tryz.underlying9 rfl) ?_
 refine Ly (Y_add rfl rfl (by omega) (by omega)) ?_
 refine Ly (Y_add rfl rfl (by omega) (by omega)) ?_
 refine Av ?_
 refine Nx ?_
 refine W_sub _ (tk2 3 2) ?_
 refine Wr ?_
 refine Mv ?_
 refine Ly (Y_add rfl rfl (by omega) (by omega)) ?_
 refine Av ?_
 refine Nx ?_
 refine W_sub _ (tk3 4 3 2) ?_
 refine W_seq (W_seq (W_region ?_))
 refine Av ?_
 refine L_nil (X_then (W_block ?_))
 refine W_loop (S := Nat) (fun d => [(3, .int .i64 (((kk.length : Int) + (vv.length : Int)) + 3)), (2, .int .i64 0), (4, .int .i64 (((rrest kk vv + d : Nat) : Int))), (5, .int .i64 ((d : Int)))]) (fun d h' => 1 ≤ d ∧ d ≤ pdig (rrest kk vv) ∧ Ext h1 h') (fun d => 26 - d) 1 (sk2 3 2 rfl rfl (sk1 4 (lki rfl (by unfold rrest; omega)) (tk1 5))) ?_ ?_
 ·exact ⟨by omega, by omega, Ext.refl _⟩
 rintro d h2 ⟨hd1, hd2, hx⟩
 show W _ _ _ _ _ [(3, .int .i64 (((kk.length : Int) + (vv.length : Int)) + 3)), (2, .int .i64 0), (4, .int .i64 (((rrest kk vv + d : Nat) : Int))), (5, .int .i64 ((d : Int)))] _
 have hil := itoa_len (n := ((rrest kk vv + d : Nat) : Int)) (by omega)
 rw [Int.toNat_natCast] at hil
 refine W_seq (W_seq (W_region ?_))
 refine Mv ?_
 refine L_call (E_call (by kernel_rfl) rfl) (strconv_Itoa _ (hN.ext (hn1.ext.trans hx)) ((rrest kk vv + d : Nat) : Int) (by first | omega | rfl | (simp <;> omega))) rfl rfl rfl ?_
 rintro _ h3 ⟨rfl, hx3⟩
 refine Ly (Y_slen Tryz.underlying9 rfl) ?_
 refine Mv ?_
 refine Ly (Y_gtr rfl rfl) ?_
 refine Nx ?_
 refine W_sub _ (tk5 20 3 2 4 5) ?_
 refine W_splitd rfl (fun hl => ?_) (fun hl => ?_)
 ·refine Ws ?_
  refine W_sub _ (tk4 3 2 4 5) ?_
  have hlt : d < pdig (rrest kk vv) := by rcases Nat.lt_or_ge d (pdig (rrest kk vv)) with h9 | h9; exact h9; exfalso; obtain rfl : d = pdig (rrest kk vv) := (by omega); rw [hil] at hl; omega
  refine W_block (W_seq (W_region ?_))
  refine Mv ?_
  refine Ly (Y_add rfl rfl (by omega) (by omega)) ?_
  refine Av ?_
  refine Nx ?_
  refine W_sub _ (tk4 5 3 2 4) ?_
  refine W_region ?_
  refine Mv ?_
  refine Mv ?_
  refine Ly (Y_add rfl rfl (by omega) (by omega)) ?_
  refine Av ?_
  refine L_nil (X_block ?_)
  refine X_loop (d + 1) (sk2 3 2 rfl rfl (sk1 4 (lki rfl (by unfold rrest; omega)) (tk1 5))) ?_ ?_
  ·exact ⟨by omega, by omega, (hx.trans hx3)⟩
  (try dsimp only)
  omega
 refine W_exit ?_
 refine X_then_exit (X_then_exit ?_)
 refine X_block_hit ?_
 refine X_then ?_
 refine W_sub _ (tk2 2 4) ?_
 refine Wr ?_
 refine Mv ?_
 refine Av ?_
 refine Nx ?_
 refine W_sub _ (tk1 2) ?_
 refine W_ret ?_
 refine X_ret1 rfl rfl ?_
 have h9 : d = pdig (rrest kk vv) := by rcases Nat.lt_or_ge d (pdig (rrest kk vv)) with h9 | h9; have := hp.2.2.2 d (by omega) h9; rw [hil] at hl; omega; omega
 exact ⟨by rw [h9]; rfl, ((hn1.ext.trans hx).trans hx3)⟩

end Go.Xp

/- Layer 9 (paxrec): Format. -/
set_option linter.unusedSimpArgs false
set_option linter.unusedVariables false
set_option linter.unusedSectionVars false
namespace Go.Xp
open Go.Proofs

def sle (a b : List UInt8) : Bool := Op.bytesLess a b || a == b
def ordBad : Option (List UInt8) → List UInt8 → Bool
  | none, _ => false
  | some q, k => sle k q
/-- What is wrong with a list of records behind the key 'p'. -/
def rlerr : Option (List UInt8) → List Rec → Int
  | _, [] => 0
  | p, r :: rest => if ¬ rerr r.key r.val = 0 then rerr r.key r.val else if ordBad p r.key = true then 12 else rlerr (some r.key) rest
/-- One record's bytes. -/
def rone (r : Rec) : List UInt8 := Lib.decDigits (psz (rrest r.key r.val)) ++ ([32] ++ r.key ++ [61] ++ r.val ++ [10])
def rfmt (l : List Rec) : List UInt8 := if rlerr none l = 0 then l.flatMap rone else []
def RGood (l : List Rec) (i : Nat) : Prop := i ≤ l.length ∧ ∀ k, k < i → rerr (at_rec l k).key (at_rec l k).val = 0 ∧ (0 < k → sle (at_rec l k).key (at_rec l (k - 1)).key = false)
def rprev (l : List Rec) (i : Nat) : Option (List UInt8) := if i = 0 then none else some (at_rec l (i - 1)).key

theorem at_rec_eq {l : List Rec} {i : Nat} (h : i < l.length) : at_rec l i = l[i] := by
  rw [at_rec, List.getD_eq_getElem?_getD, List.getElem?_eq_getElem h]; rfl
theorem drop_rec {l : List Rec} {i : Nat} (h : i < l.length) : l.drop i = at_rec l i :: l.drop (i + 1) := by
  rw [at_rec_eq h]; exact List.drop_eq_getElem_cons h
theorem rlerr_skip {l : List Rec} : ∀ {i : Nat}, RGood l i → rlerr none l = rlerr (rprev l i) (l.drop i)
  | 0, _ => rfl
  | i + 1, h => by
    have hi : i < l.length := h.1
    rw [rlerr_skip (i := i) ⟨by omega, fun k hk => h.2 k (by omega)⟩, drop_rec hi]
    obtain ⟨h1, h2⟩ := h.2 i (by omega)
    rw [rlerr, if_neg (by simpa using h1)]
    have e : ordBad (rprev l i) (at_rec l i).key = false := by
      unfold rprev
      by_cases h0 : i = 0
      · rw [if_pos h0]; rfl
      · rw [if_neg h0]; exact h2 (by omega)
    rw [e, if_neg (by simp)]
    rfl
theorem rlerr_bad {l : List Rec} {i : Nat} (h : RGood l i) (hi : i < l.length) (hb : ¬ rerr (at_rec l i).key (at_rec l i).val = 0) : rlerr none l = rerr (at_rec l i).key (at_rec l i).val := by
  rw [rlerr_skip h, drop_rec hi, rlerr, if_pos hb]
theorem rlerr_order {l : List Rec} {i : Nat} (h : RGood l i) (hi : i < l.length) (h0 : 0 < i) (hb : rerr (at_rec l i).key (at_rec l i).val = 0) (ho : sle (at_rec l i).key (at_rec l (i - 1)).key = true) : rlerr none l = 12 := by
  rw [rlerr_skip h, drop_rec hi, rlerr, if_neg (by simpa using hb)]
  have e : ordBad (rprev l i) (at_rec l i).key = true := by
    unfold rprev; rw [if_neg (by omega)]; exact ho
  rw [if_pos e]
theorem rlerr_all {l : List Rec} (h : RGood l l.length) : rlerr none l = 0 := by
  rw [rlerr_skip h, List.drop_length]; rfl
theorem RGood.zero (l : List Rec) : RGood l 0 := ⟨Nat.zero_le _, fun k hk => absurd hk (Nat.not_lt_zero _)⟩
theorem RGood.succ {l : List Rec} {i : Nat} (h : RGood l i) (hi : i < l.length) (hb : rerr (at_rec l i).key (at_rec l i).val = 0) (ho : 0 < i → sle (at_rec l i).key (at_rec l (i - 1)).key = false) : RGood l (i + 1) :=
  ⟨hi, fun k hk => by
    rcases Nat.lt_succ_iff_lt_or_eq.1 hk with h1 | rfl
    · exact h.2 k h1
    · exact ⟨hb, ho⟩⟩
/-! Only three keys: no good list is longer. -/
def krank (k : List UInt8) : Nat := if k = [108, 105, 110, 107, 112, 97, 116, 104] then 0 else if k = [112, 97, 116, 104] then 1 else 2
theorem rerr_ok {k v : List UInt8} (h : rerr k v = 0) : (k = [108, 105, 110, 107, 112, 97, 116, 104] ∨ k = [112, 97, 116, 104] ∨ k = [115, 105, 122, 101]) := by
  unfold rerr at h
  split at h
  · rename_i h1; exact .inr (.inr h1)
  · split at h
    · rename_i h1; exact h1.elim .inl (fun h => .inr (.inl h))
    · cases h
theorem krank_lt {a b : List UInt8} (ha : a = [108, 105, 110, 107, 112, 97, 116, 104] ∨ a = [112, 97, 116, 104] ∨ a = [115, 105, 122, 101]) (hb : b = [108, 105, 110, 107, 112, 97, 116, 104] ∨ b = [112, 97, 116, 104] ∨ b = [115, 105, 122, 101]) (h : sle a b = false) : krank b < krank a := by
  rcases ha with rfl | rfl | rfl <;> rcases hb with rfl | rfl | rfl <;> revert h <;> decide
theorem RGood.rank {l : List Rec} : ∀ {i : Nat}, RGood l (i + 1) → i ≤ krank (at_rec l i).key
  | 0, _ => Nat.zero_le _
  | i + 1, h => by
    have h1 := RGood.rank (i := i) ⟨by have := h.1; omega, fun k hk => h.2 k (by omega)⟩
    have h2 := h.2 i (by omega)
    have h3 := h.2 (i + 1) (by omega)
    have := krank_lt (rerr_ok h3.1) (rerr_ok h2.1) (by have := h3.2 (by omega); simpa using this)
    omega
theorem krank_le (k : List UInt8) : krank k ≤ 2 := by unfold krank; split <;> (try split) <;> omega
theorem RGood.three {l : List Rec} {i : Nat} (h : RGood l i) : i ≤ 3 := by
  cases i with
  | zero => omega
  | succ i => have := h.rank; have := krank_le (at_rec l i).key; omega
theorem decN_big {s : List UInt8} (hd : decOk s = true) (h2 : 2 ≤ s.length) (h0 : ¬ (byt s 0 = 48 ∧ ¬ s = [48])) : 10 ^ (s.length - 1) ≤ decN s := by
  have hb := decOk_iff.1 hd
  have h9 : 49 ≤ byt s 0 := by
    have := hb 0 (by omega)
    rcases Int.lt_or_le (byt s 0) 49 with h2 | h2
    · exact absurd ⟨by omega, fun e => by have := congrArg List.length e; simp at this; omega⟩ h0
    · exact h2
  have key : ∀ i, i + 1 ≤ s.length → 10 ^ i ≤ decN (s.take (i + 1)) := by
    intro i
    induction i with
    | zero =>
      intro _
      rw [decN_step (by omega)]
      have : decN (s.take 0) = 0 := by simp [decN]
      omega
    | succ i ih =>
      intro h
      rw [decN_step (by omega), Nat.pow_succ]
      have := ih (by omega)
      omega
  have := key (s.length - 1) (by omega)
  rw [show s.length - 1 + 1 = s.length by omega, List.take_length] at this
  exact this
theorem rerr_len {k v : List UInt8} (h : rerr k v = 0) : k.length ≤ 8 ∧ v.length ≤ 65536 := by
  refine ⟨by rcases rerr_ok h with rfl | rfl | rfl <;> simp, ?_⟩
  unfold rerr at h
  split at h
  · have hn : nerr v 1099511627776 = 0 := h
    unfold nerr at hn
    split at hn
    · cases hn
    · rename_i h1
      simp only [not_or] at h1
      split at hn
      · cases hn
      · rename_i h2
        rcases Nat.lt_or_ge v.length 15 with h3 | h3
        · omega
        · have := decN_big (by simpa using h1.1) (by omega) h1.2.2
          have h4 : 10 ^ 14 ≤ 10 ^ (v.length - 1) := Nat.pow_le_pow_right (by decide) (by omega)
          have h5 : (10 : Nat) ^ 14 = 100000000000000 := by decide
          omega
  · split at h
    · split at h
      · cases h
      · omega
    · cases h
theorem psz_lt {r : Nat} (h : r ≤ 1152921504606846976) : psz r ≤ r + 25 := by have := pdig_ok h; unfold psz; omega
theorem rone_len {r : Rec} (h : rerr r.key r.val = 0) : (rone r).length ≤ 65600 := by
  have h1 := rerr_len h
  have h2 := psz_lt (r := rrest r.key r.val) (by unfold rrest; omega)
  have h3 := decDigits_len (a := psz (rrest r.key r.val)) (by unfold rrest at h2 ⊢; omega)
  unfold rone
  simp only [List.length_append, List.length_cons, List.length_nil]
  omega
theorem RGood.out {l : List Rec} : ∀ {i : Nat}, RGood l i → ((l.take i).flatMap rone).length ≤ 65600 * i
  | 0, _ => by simp
  | i + 1, h => by
    have h1 := RGood.out (i := i) ⟨by have := h.1; omega, fun k hk => h.2 k (by omega)⟩
    have hi : i < l.length := h.1
    have h2 := rone_len (r := at_rec l i) (h.2 i (by omega)).1
    rw [List.take_succ_eq_append_getElem hi, List.flatMap_append, List.length_append, ← at_rec_eq hi]
    simp only [List.flatMap_cons, List.flatMap_nil, List.append_nil]
    omega
theorem take_rone {l : List Rec} {i : Nat} (hi : i < l.length) : (l.take (i + 1)).flatMap rone = (l.take i).flatMap rone ++ rone (at_rec l i) := by
  rw [List.take_succ_eq_append_getElem hi, List.flatMap_append, ← at_rec_eq hi]
  simp
theorem at_rec_mem {l : List Rec} {i : Nat} (h : i < l.length) : at_rec l i ∈ l := by rw [at_rec_eq h]; exact List.getElem_mem h

set_option maxRecDepth 100000 in
theorem rec_Format (h : Heap) (hK : GlbK h) (hN : GlbN h) (hE : GlbE h) (w : Value) (l : List Rec) (hl : Rows recS h w l) (hn : l.length ≤ 140737488355328) (hs : ∀ r ∈ l, r.key.length ≤ 140737488355328 ∧ r.val.length ≤ 140737488355328) : Cal Tryz.prog 21 #[w] h (fun v h' => ∃ s0, v = .tuple #[s0, .int .i64 (rlerr none l)] ∧ OwnB h' h.size s0 (rfmt l) ∧ Ext h h') := by
 refine Cal_enter (args := [w]) Tryz.func21 rfl rfl rfl (fun σ => ?_)
 refine Wr ?_
 refine Av ?_
 refine Av ?_
 refine L_nil (X_then (W_seq (W_region ?_)))
 refine Av ?_
 refine L_nil (X_then (W_seq (W_seq (W_region ?_))))
 refine Mv ?_
 refine Ly (Y_lenr Tryz.underlying58 rfl hl) ?_
 refine Mv ?_
 refine L_nil (X_then (W_block ?_))
 refine W_loop (S := Nat × Value) (fun (i, u) => [(9, .int .i64 ((l.length : Int))), (8, w), (0, w), (4, u), (10, .int .i64 ((i : Int)))]) (fun (i, u) h' => RGood l i ∧ OwnB h' h.size u ((l.take i).flatMap rone) ∧ Ext h h') (fun (i, u) => l.length - i) (0, .slice none 0 0) (tk5 9 8 0 4 10) ?_ ?_
 ·exact ⟨RGood.zero l, OwnB.nil _ _, Ext.refl _⟩
 rintro ⟨i, u⟩ h1 ⟨hg, ho, hx⟩
 show W _ _ _ _ _ [(9, .int .i64 ((l.length : Int))), (8, w), (0, w), (4, u), (10, .int .i64 ((i : Int)))] _
 have h3 := hg.three
 have hol := hg.out
 refine Wr ?_
 refine Ly (Y_lss rfl rfl) ?_
 refine L_nil (X_then (W_seq ?_))
 refine W_splitd rfl (fun hlt => ?_) (fun hlt => ?_)
 ·refine Ws ?_
  refine W_sub _ (tk5 9 8 0 4 10) ?_
  have hmm := hs _ (at_rec_mem (l := l) (i := i) (by omega))
  refine W_seq (W_block (W_seq (W_region ?_)))
  refine Mv ?_
  refine Ly (Y_idxr Tryz.underlying58 (show _ = some 2 by kernel_rfl) rfl rfl rfl (hl.ext hx) (by first | omega | (simp only [List.length_append, List.length_cons, List.length_nil, Int.toNat_natCast]; omega) | (simp; omega)) (by first | omega | (simp only [List.length_append, List.length_cons, List.length_nil, Int.toNat_natCast]; omega) | (simp; omega))) ?_
  refine Ly (Y_ldrA0 (k := ((i : Int)).toNat) (us := [str ((at_rec l ((i : Int)).toNat).key), str ((at_rec l ((i : Int)).toNat).val)]) Tryz.underlying89 rfl (show _ = some 2 by kernel_rfl) rfl rfl (hl.ext hx) (by first | omega | (simp only [List.length_append, List.length_cons, List.length_nil, Int.toNat_natCast]; omega) | (simp; omega)) rfl) ?_
  refine L_mks (M_alloc (u := .agg #[str [], str []]) (by kernel_rfl)) rfl rfl rfl ?_
  rintro _ h2 ⟨rfl, hn1⟩
  have hk2 : Blk h2 h1.size [str [], str []] := hn1.blk
  refine Av ?_
  refine L_dos (D_store (us := [str ((at_rec l ((i : Int)).toNat).key), str ((at_rec l ((i : Int)).toNat).val)]) (show _ = some 2 by kernel_rfl) rfl rfl rfl (by simp [Value.oneCell']) hk2 (by simp)) rfl rfl ?_
  rintro h3 hp3
  have hk4 : Blk h3 h1.size [str ((at_rec l ((i : Int)).toNat).key), str ((at_rec l ((i : Int)).toNat).val)] := hp3.blk
  refine Nx ?_
  refine W_sub _ (tk7 5 6 9 8 0 4 10) ?_
  refine W_seq (W_seq (W_region ?_))
  refine Ly (Y_ldbox (us := [str ((at_rec l ((i : Int)).toNat).key), str ((at_rec l ((i : Int)).toNat).val)]) Tryz.underlying89 rfl (show _ = some 2 by kernel_rfl) rfl hk4 rfl) ?_
  refine L_call (E_call (by kernel_rfl) rfl) (rec_Check _ (hK.ext ((hx.trans hn1.ext).then' hp3.only (by simp) hx.size)) (hE.ext ((hx.trans hn1.ext).then' hp3.only (by simp) hx.size)) ((at_rec l ((i : Int)).toNat).key) ((at_rec l ((i : Int)).toNat).val) (by first | first | omega | (simp only [List.length_append, List.length_cons, List.length_nil, Int.toNat_natCast]; omega) | (simp; omega) | rfl | (simp <;> omega))) rfl rfl rfl ?_
  rintro _ h4 ⟨rfl, hx5⟩
  refine Av ?_
  refine Nx ?_
  refine W_sub _ (tk8 7 5 6 9 8 0 4 10) ?_
  refine Wr ?_
  refine Mv ?_
  refine Ly (Y_neq rfl rfl) ?_
  refine Nx ?_
  refine W_sub _ (sk1 18 rfl (tk8 7 5 6 9 8 0 4 10)) ?_
  refine W_splitd rfl (fun e => ?_) (fun e => ?_)
  ·refine Wr ?_
   refine Mv ?_
   refine Av ?_
   refine Av ?_
   refine Nx ?_
   refine W_sub _ (sk1 3 rfl (tk8 2 5 6 9 8 0 4 10)) ?_
   refine W_ret (X_then_ret (X_block_ret (X_then_ret (X_then_ret (X_block_ret (X_then_ret ?_))))))
   refine X_ret2 rfl rfl rfl ?_
   have he := rlerr_bad hg (by omega) e
   have me1 := ((hx.trans hn1.ext).then' hp3.only (by simp) hx.size).trans hx5
   refine ⟨.slice none 0 0, by first | (rw [he]; done) | (rw [he]; rfl), ?_, me1⟩
   unfold rfmt
   rw [if_neg (by rw [he]; exact e)]
   exact OwnB.nil _ _
  refine Ws ?_
  refine W_sub _ (tk7 5 6 9 8 0 4 10) ?_
  have hb0 : rerr (at_rec l i).key (at_rec l i).val = 0 := Classical.not_not.1 e
  refine W_seq (W_seq ?_)
  refine W_quiet (fun h' => h' = h4) (by kernel_rfl) (by kernel_rfl) rfl ?_
  refine LQ_yld (fun h_ hI_ => by subst hI_; exact Y_move rfl) rfl rfl rfl ?_
  refine LQ_yld (fun h_ hI_ => by subst hI_; exact Y_gtr rfl rfl) rfl rfl rfl ?_
  refine LQ_yld (fun h_ hI_ => by subst hI_; exact Y_move rfl) rfl rfl rfl ?_
  refine LQ_splitd (d := 22) rfl (fun p => ?_) (fun p => ?_)
  ·refine LQ_yld (fun h_ hI_ => by subst hI_; exact Y_fieldAddr (off := 0) (by kernel_rfl) rfl rfl) rfl rfl rfl ?_
   refine LQ_yld (fun h_ hI_ => by subst hI_; exact Y_ldblk Tryz.underlying9 rfl rfl (hk4.ext hx5) rfl) rfl rfl rfl ?_
   refine LQ_yld (fun h_ hI_ => by subst hI_; exact Y_move rfl) rfl rfl rfl ?_
   refine LQ_yld (fun h_ hI_ => by subst hI_; exact Y_move rfl) rfl rfl rfl ?_
   refine LQ_yld (fun h_ hI_ => by subst hI_; exact Y_sub rfl rfl (by first | omega | (simp only [List.length_append, List.length_cons, List.length_nil, Int.toNat_natCast]; omega) | (simp; omega)) (by first | omega | (simp only [List.length_append, List.length_cons, List.length_nil, Int.toNat_natCast]; omega) | (simp; omega))) rfl rfl rfl ?_
   refine LQ_yld (fun h_ hI_ => by subst hI_; exact Y_idxr Tryz.underlying58 (show _ = some 2 by kernel_rfl) rfl rfl rfl (hl.ext (((hx.trans hn1.ext).then' hp3.only (by simp) hx.size).trans hx5)) (by first | omega | (simp only [List.length_append, List.length_cons, List.length_nil, Int.toNat_natCast]; omega) | (simp; omega)) (by first | omega | (simp only [List.length_append, List.length_cons, List.length_nil, Int.toNat_natCast]; omega) | (simp; omega))) rfl rfl rfl ?_
   refine LQ_yld (fun h_ hI_ => by subst hI_; exact Y_fldr (k := ((i : Int) - 1).toNat) (off := 0) (by kernel_rfl) rfl (hl.ext (((hx.trans hn1.ext).then' hp3.only (by simp) hx.size).trans hx5)) (by first | omega | (simp only [List.length_append, List.length_cons, List.length_nil, Int.toNat_natCast]; omega) | (simp; omega))) rfl rfl rfl ?_
   refine LQ_yld (fun h_ hI_ => by subst hI_; exact Y_ldr1 (off := 0) (k := ((i : Int) - 1).toNat) Tryz.underlying9 rfl rfl rfl (hl.ext (((hx.trans hn1.ext).then' hp3.only (by simp) hx.size).trans hx5)) (by first | omega | (simp only [List.length_append, List.length_cons, List.length_nil, Int.toNat_natCast]; omega) | (simp; omega)) rfl) rfl rfl rfl ?_
   refine LQ_yld (fun h_ hI_ => by subst hI_; exact Y_sleq rfl rfl) rfl rfl rfl ?_
   refine LQ_yld (fun h_ hI_ => by subst hI_; exact Y_pick_t rfl rfl) rfl rfl rfl ?_
   refine LQ_nil ?_
   rintro h4 rfl
   refine X_then ?_
   refine W_sub _ (tk7 32 6 9 8 0 4 10) ?_
   refine W_split rfl (fun z => ?_) (fun z => ?_)
   ·refine Wr ?_
    refine Av ?_
    refine Av ?_
    refine Nx ?_
    refine W_sub _ (tk8 3 2 6 9 8 0 4 10) ?_
    refine W_ret (X_then_ret (X_block_ret (X_then_ret (X_then_ret (X_block_ret (X_then_ret ?_))))))
    refine X_ret2 rfl rfl rfl ?_
    have he := rlerr_order hg (by omega) (by omega) hb0 (by rw [show i - 1 = ((i : Int) - 1).toNat by omega]; exact z)
    have me2 := ((hx.trans hn1.ext).then' hp3.only (by simp) hx.size).trans hx5
    refine ⟨.slice none 0 0, by first | (rw [he]; done) | (rw [he]; rfl), ?_, me2⟩
    unfold rfmt
    rw [if_neg (by rw [he]; decide)]
    exact OwnB.nil _ _
   refine Ws ?_
   refine W_sub _ (tk6 6 9 8 0 4 10) ?_
   have hoo : 0 < i → sle (at_rec l i).key (at_rec l (i - 1)).key = false := fun _ => by rw [show i - 1 = ((i : Int) - 1).toNat by omega]; exact z
   have hgs := hg.succ (by omega) hb0 hoo
   have hl3 := rerr_len hb0
   have hps := psz_lt (r := rrest (at_rec l i).key (at_rec l i).val) (by unfold rrest; omega)
   have hrr : rrest (at_rec l i).key (at_rec l i).val ≤ 65600 := by unfold rrest; omega
   have hdl := decDigits_len (a := psz (rrest (at_rec l i).key (at_rec l i).val)) (by omega)
   refine Wr ?_
   refine Mv ?_
   refine Ly (Y_ldbox (us := [str ((at_rec l ((i : Int)).toNat).key), str ((at_rec l ((i : Int)).toNat).val)]) Tryz.underlying89 rfl (show _ = some 2 by kernel_rfl) rfl (hk4.ext hx5) rfl) ?_
   have me3 := ((hx.trans hn1.ext).then' hp3.only (by simp) hx.size).trans hx5
   refine L_call (E_call (by kernel_rfl) rfl) (rec_Size _ (hN.ext me3) ((at_rec l ((i : Int)).toNat).key) ((at_rec l ((i : Int)).toNat).val) (by first | first | omega | (simp only [List.length_append, List.length_cons, List.length_nil, Int.toNat_natCast]; omega) | (simp; omega) | rfl | (simp <;> omega)) (by first | first | omega | (simp only [List.length_append, List.length_cons, List.length_nil, Int.toNat_natCast]; omega) | (simp; omega) | rfl | (simp <;> omega))) rfl rfl rfl ?_
   rintro _ h5 ⟨rfl, hx6⟩
   have me4 := Nat.le_trans (Nat.le_trans hx.size hn1.ext.size) hp3.only.size
   have me5 := (hn1.ext.then' hp3.only (by simp) (Nat.le_refl _)).trans hx5
   refine L_call (E_call (by kernel_rfl) rfl) (strconv_AppendInt _ (hN.ext (me3.trans hx6)) u ((l.take i).flatMap rone) h (⟨(Nat.le_trans (Nat.le_trans me4 hx5.size) hx6.size)⟩) (ho.ext (me5.trans hx6)) (psz (rrest ((at_rec l ((i : Int)).toNat).key) ((at_rec l ((i : Int)).toNat).val)) : Int) (by first | first | omega | (simp only [List.length_append, List.length_cons, List.length_nil, Int.toNat_natCast]; omega) | (simp; omega) | rfl | (simp <;> omega)) (by first | first | omega | (simp only [List.length_append, List.length_cons, List.length_nil, Int.toNat_natCast]; omega) | (simp; omega) | rfl | (simp <;> omega))) rfl rfl rfl ?_
   rintro v7 h6 ha8
   refine Av ?_
   refine Nx ?_
   refine W_sub _ (tk6 4 6 9 8 0 10) ?_
   refine W_region ?_
   refine Mv ?_
   refine Ly (Y_fieldAddr (off := 0) (by kernel_rfl) rfl rfl) ?_
   have hc9 := (((hk4.ext hx5).ext hx6).only ha8.only (fun hb_ => Nat.lt_irrefl _ (Nat.lt_of_lt_of_le (Own.lt ho _ (by simpa using hb_)).2 (Nat.le_refl _))))
   refine Ly (Y_ldblk Tryz.underlying9 rfl rfl hc9 rfl) ?_
   refine Ly (Y_sadd rfl rfl (by first | first | omega | (simp only [List.length_append, List.length_cons, List.length_nil, Int.toNat_natCast]; omega) | (simp; omega) | (simp <;> omega))) ?_
   refine Ly (Y_sadd rfl rfl (by first | first | omega | (simp only [List.length_append, List.length_cons, List.length_nil, Int.toNat_natCast]; omega) | (simp; omega) | (simp <;> omega))) ?_
   refine Ly (Y_fieldAddr (off := 1) (by kernel_rfl) rfl rfl) ?_
   refine Ly (Y_ldblk Tryz.underlying9 rfl rfl hc9 rfl) ?_
   refine Ly (Y_sadd rfl rfl (by first | first | omega | (simp only [List.length_append, List.length_cons, List.length_nil, Int.toNat_natCast]; omega) | (simp; omega) | (simp <;> omega))) ?_
   refine Ly (Y_sadd rfl rfl (by first | first | omega | (simp only [List.length_append, List.length_cons, List.length_nil, Int.toNat_natCast]; omega) | (simp; omega) | (simp <;> omega))) ?_
   have me6 := Nat.le_trans (Nat.le_trans (Nat.le_trans me4 hx5.size) hx6.size) ha8.only.size
   refine L_mks (M_appbs Tryz.underlying33 Tryz.underlying9 (by unfold elemRow; kernel_rfl) rfl rfl ha8.own me6 (by first | first | omega | (simp only [List.length_append, List.length_cons, List.length_nil, Int.toNat_natCast]; omega) | (simp; omega) | (simp; first | omega | (simp only [List.length_append, List.length_cons, List.length_nil, Int.toNat_natCast]; omega) | (simp; omega)))) rfl rfl rfl ?_
   rintro v10 h7 ha11
   refine Av ?_
   refine L_nil (X_block (X_then ?_))
   refine W_sub _ (tk5 4 9 8 0 10) ?_
   refine W_region ?_
   refine Ly (Y_add rfl rfl (by first | omega | (simp only [List.length_append, List.length_cons, List.length_nil, Int.toNat_natCast]; omega) | (simp; omega)) (by first | omega | (simp only [List.length_append, List.length_cons, List.length_nil, Int.toNat_natCast]; omega) | (simp; omega))) ?_
   refine Mv ?_
   refine L_nil ?_
   refine X_loop ((i + 1, v10)) (tk5 9 8 0 4 10) ?_ ?_
   ·exact ⟨hgs, OwnB.congr (ha11.own) (by rw [take_rone (by omega), rone]; simp only [Int.toNat_natCast, List.append_assoc, List.nil_append, List.cons_append]), (((me3.trans hx6).then' ha8.only ha8.ge (Nat.le_refl _)).then' ha11.only ha11.ge (Nat.le_refl _))⟩
   (try dsimp only)
   omega
  refine LQ_skip rfl rfl rfl ?_
  refine LQ_skip rfl rfl rfl ?_
  refine LQ_skip rfl rfl rfl ?_
  refine LQ_skip rfl rfl rfl ?_
  refine LQ_skip rfl rfl rfl ?_
  refine LQ_skip rfl rfl rfl ?_
  refine LQ_skip rfl rfl rfl ?_
  refine LQ_skip rfl rfl rfl ?_
  refine LQ_skip rfl rfl rfl ?_
  refine LQ_yld (fun h_ hI_ => by subst hI_; exact Y_pick_f rfl rfl) rfl rfl rfl ?_
  refine LQ_nil ?_
  rintro h4 rfl
  refine X_then ?_
  refine W_sub _ (tk7 32 6 9 8 0 4 10) ?_
  refine W_false rfl ?_
  refine Ws ?_
  refine W_sub _ (tk6 6 9 8 0 4 10) ?_
  have hoo : 0 < i → sle (at_rec l i).key (at_rec l (i - 1)).key = false := fun h9 => absurd h9 (by omega)
  have hgs := hg.succ (by omega) hb0 hoo
  have hl3 := rerr_len hb0
  have hps := psz_lt (r := rrest (at_rec l i).key (at_rec l i).val) (by unfold rrest; omega)
  have hrr : rrest (at_rec l i).key (at_rec l i).val ≤ 65600 := by unfold rrest; omega
  have hdl := decDigits_len (a := psz (rrest (at_rec l i).key (at_rec l i).val)) (by omega)
  refine Wr ?_
  refine Mv ?_
  refine Ly (Y_ldbox (us := [str ((at_rec l ((i : Int)).toNat).key), str ((at_rec l ((i : Int)).toNat).val)]) Tryz.underlying89 rfl (show _ = some 2 by kernel_rfl) rfl (hk4.ext hx5) rfl) ?_
  have me7 := ((hx.trans hn1.ext).then' hp3.only (by simp) hx.size).trans hx5
  refine L_call (E_call (by kernel_rfl) rfl) (rec_Size _ (hN.ext me7) ((at_rec l ((i : Int)).toNat).key) ((at_rec l ((i : Int)).toNat).val) (by first | first | omega | (simp only [List.length_append, List.length_cons, List.length_nil, Int.toNat_natCast]; omega) | (simp; omega) | rfl | (simp <;> omega)) (by first | first | omega | (simp only [List.length_append, List.length_cons, List.length_nil, Int.toNat_natCast]; omega) | (simp; omega) | rfl | (simp <;> omega))) rfl rfl rfl ?_
  rintro _ h8 ⟨rfl, hx12⟩
  have me8 := Nat.le_trans (Nat.le_trans hx.size hn1.ext.size) hp3.only.size
  have me9 := (hn1.ext.then' hp3.only (by simp) (Nat.le_refl _)).trans hx5
  refine L_call (E_call (by kernel_rfl) rfl) (strconv_AppendInt _ (hN.ext (me7.trans hx12)) u ((l.take i).flatMap rone) h (⟨(Nat.le_trans (Nat.le_trans me8 hx5.size) hx12.size)⟩) (ho.ext (me9.trans hx12)) (psz (rrest ((at_rec l ((i : Int)).toNat).key) ((at_rec l ((i : Int)).toNat).val)) : Int) (by first | first | omega | (simp only [List.length_append, List.length_cons, List.length_nil, Int.toNat_natCast]; omega) | (simp; omega) | rfl | (simp <;> omega)) (by first | first | omega | (simp only [List.length_append, List.length_cons, List.length_nil, Int.toNat_natCast]; omega) | (simp; omega) | rfl | (simp <;> omega))) rfl rfl rfl ?_
  rintro v13 h9 ha14
  refine Av ?_
  refine Nx ?_
  refine W_sub _ (tk6 4 6 9 8 0 10) ?_
  refine W_region ?_
  refine Mv ?_
  refine Ly (Y_fieldAddr (off := 0) (by kernel_rfl) rfl rfl) ?_
  have hc15 := (((hk4.ext hx5).ext hx12).only ha14.only (fun hb_ => Nat.lt_irrefl _ (Nat.lt_of_lt_of_le (Own.lt ho _ (by simpa using hb_)).2 (Nat.le_refl _))))
  refine Ly (Y_ldblk Tryz.underlying9 rfl rfl hc15 rfl) ?_
  refine Ly (Y_sadd rfl rfl (by first | first | omega | (simp only [List.length_append, List.length_cons, List.length_nil, Int.toNat_natCast]; omega) | (simp; omega) | (simp <;> omega))) ?_
  refine Ly (Y_sadd rfl rfl (by first | first | omega | (simp only [List.length_append, List.length_cons, List.length_nil, Int.toNat_natCast]; omega) | (simp; omega) | (simp <;> omega))) ?_
  refine Ly (Y_fieldAddr (off := 1) (by kernel_rfl) rfl rfl) ?_
  refine Ly (Y_ldblk Tryz.underlying9 rfl rfl hc15 rfl) ?_
  refine Ly (Y_sadd rfl rfl (by first | first | omega | (simp only [List.length_append, List.length_cons, List.length_nil, Int.toNat_natCast]; omega) | (simp; omega) | (simp <;> omega))) ?_
  refine Ly (Y_sadd rfl rfl (by first | first | omega | (simp only [List.length_append, List.length_cons, List.length_nil, Int.toNat_natCast]; omega) | (simp; omega) | (simp <;> omega))) ?_
  have me10 := Nat.le_trans (Nat.le_trans (Nat.le_trans me8 hx5.size) hx12.size) ha14.only.size
  refine L_mks (M_appbs Tryz.underlying33 Tryz.underlying9 (by unfold elemRow; kernel_rfl) rfl rfl ha14.own me10 (by first | first | omega | (simp only [List.length_append, List.length_cons, List.length_nil, Int.toNat_natCast]; omega) | (simp; omega) | (simp; first | omega | (simp only [List.length_append, List.length_cons, List.length_nil, Int.toNat_natCast]; omega) | (simp; omega)))) rfl rfl rfl ?_
  rintro v16 h10 ha17
  refine Av ?_
  refine L_nil (X_block (X_then ?_))
  refine W_sub _ (tk5 4 9 8 0 10) ?_
  refine W_region ?_
  refine Ly (Y_add rfl rfl (by first | omega | (simp only [List.length_append, List.length_cons, List.length_nil, Int.toNat_natCast]; omega) | (simp; omega)) (by first | omega | (simp only [List.length_append, List.length_cons, List.length_nil, Int.toNat_natCast]; omega) | (simp; omega))) ?_
  refine Mv ?_
  refine L_nil ?_
  refine X_loop ((i + 1, v16)) (tk5 9 8 0 4 10) ?_ ?_
  ·exact ⟨hgs, OwnB.congr (ha17.own) (by rw [take_rone (by omega), rone]; simp only [Int.toNat_natCast, List.append_assoc, List.nil_append, List.cons_append]), (((me7.trans hx12).then' ha14.only ha14.ge (Nat.le_refl _)).then' ha17.only ha17.ge (Nat.le_refl _))⟩
  (try dsimp only)
  omega
 refine W_exit ?_
 refine X_then_exit (X_then_exit ?_)
 refine X_block_hit ?_
 refine X_then ?_
 refine W_sub _ (tk1 4) ?_
 refine Wr ?_
 refine Mv ?_
 refine Av ?_
 refine Av ?_
 refine Nx ?_
 refine W_sub _ (tk2 3 2) ?_
 refine W_ret ?_
 refine X_ret2 rfl rfl rfl ?_
 have hi9 : i = l.length := by have := hg.1; omega
 have he := rlerr_all (hi9 ▸ hg)
 refine ⟨_, by rw [he], ?_, hx⟩
 unfold rfmt
 rw [if_pos he]
 exact OwnB.congr ((ho).low (Nat.le_refl _)) (by rw [hi9, List.take_length])

/-! ### The keys -/
set_option maxRecDepth 100000 in
theorem slices_CloneS (h : Heap) (v : Value) (l : List (List UInt8)) (hl : Rows strS h v l) (hn : l.length ≤ 1048576) : Cal Tryz.prog 59 #[v] h (fun v h' => ∃ s0, v = s0 ∧ RowsO strS h' h.size s0 (l) ∧ Ext h h') := by
 refine Cal_enter (args := [v]) Tryz.func59 rfl rfl rfl (fun σ => ?_)
 refine Wr ?_
 refine Av ?_
 refine L_nil (X_then (W_seq (W_seq (W_region ?_))))
 refine Mv ?_
 refine Ly (Y_slnilr Tryz.underlying86 rfl hl) ?_
 refine Nx ?_
 refine W_sub _ (tk3 4 2 0) ?_
 refine W_split rfl (fun c => ?_) (fun c => ?_)
 ·refine Wr ?_
  refine Av ?_
  refine Nx ?_
  refine W_sub _ (tk2 2 0) ?_
  refine W_ret (X_then_ret ?_)
  refine X_ret1 rfl rfl ?_
  exact ⟨_, rfl, by rw [isNil_nilr hl c]; exact RowsO.nil _ _ _, (Ext.refl _)⟩
 refine Ws ?_
 refine W_sub _ (tk2 2 0) ?_
 refine Wr ?_
 refine L_mks (M_litr (S := strS) (l := ([] : List (List UInt8))) (cells := []) (pv := []) (E := 9) (evp (is := []) (os := []) (vs := []) rfl rfl) rfl rfl (fun _ => by kernel_rfl) (by simp)) rfl rfl rfl ?_
 rintro v1 h1 ⟨ho2, hx3⟩
 refine Mv ?_
 refine L_mks (M_appr0 nsStr (z := 1) (bytes := 16) (z0 := (str [])) Tryz.underlying86 (by unfold elemRow; kernel_rfl) rfl rfl (by decide) rfl rfl ho2 (hl.ext hx3) hx3.size (by simp; omega)) rfl rfl rfl ?_
 rintro v4 h2 ha5
 refine Av ?_
 refine Nx ?_
 refine W_sub _ (tk1 2) ?_
 refine W_ret ?_
 refine X_ret1 rfl rfl ?_
 exact ⟨_, rfl, RowsO.congr ((ha5.own).low (Nat.le_refl _)) (by simp), (hx3.then' ha5.only ha5.ge (Nat.le_refl _))⟩

abbrev rkeys : List (List UInt8) := [[108, 105, 110, 107, 112, 97, 116, 104], [112, 97, 116, 104], [115, 105, 122, 101]]
set_option maxRecDepth 100000 in
theorem rec_Keys (h : Heap) (hK : GlbK h) : Cal Tryz.prog 40 #[] h (fun v h' => ∃ s0, v = s0 ∧ Rows strS h' s0 (rkeys) ∧ Ext h h') := by
 refine Cal_enter (args := []) Tryz.func40 rfl rfl rfl (fun σ => ?_)
 refine Wr ?_
 refine Av ?_
 refine L_nil (X_then (W_seq (W_region ?_)))
 have hb1 : Rows strS h (.slice (some ⟨14, 0, none⟩) 3 3) ([[108, 105, 110, 107, 112, 97, 116, 104], [112, 97, 116, 104], [115, 105, 122, 101]]) := Cls.rowsS (l := [[108, 105, 110, 107, 112, 97, 116, 104], [112, 97, 116, 104], [115, 105, 122, 101]]) hK.g0 rfl (by decide)
 refine Ly (Y_arrall Tryz.underlying114 (show _ = some 1 by kernel_rfl) (by decide) rfl) ?_
 refine L_call (E_call (by kernel_rfl) rfl) (slices_CloneS _ (.slice (some ⟨14, 0, none⟩) 3 3) [[108, 105, 110, 107, 112, 97, 116, 104], [112, 97, 116, 104], [115, 105, 122, 101]] hb1 (by first | omega | rfl | (simp <;> omega))) rfl rfl rfl ?_
 rintro s02 h1 ⟨_, rfl, hr03, hx4⟩
 refine Av ?_
 refine Nx ?_
 refine W_sub _ (tk1 0) ?_
 refine W_ret ?_
 refine X_ret1 rfl rfl ?_
 exact ⟨_, rfl, (hr03).rows, hx4⟩

/-! ### The law's helpers -/
end Go.Xp
