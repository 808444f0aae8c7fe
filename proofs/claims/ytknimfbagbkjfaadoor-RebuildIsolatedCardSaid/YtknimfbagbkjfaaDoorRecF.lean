/- '==' of structs of numbers, texts and truth values. -/
import Derived.Test.YtknimfbagbkjfaaDoorRws
import Derived.Laws.StructEq
import Derived.Test.YtknimfbagbkjfaaDoorDec
import Derived.Test.YtknimfbagbkjfaaDoorLaidN
set_option linter.unusedSimpArgs false
set_option linter.unusedVariables false
set_option linter.unusedSectionVars false
namespace Go.Xp
open MapKept

section
variable {P : Program} {n : Nat} {e : Env} {h : Heap} {d : Option Tmp} {t : TypeId} {pos : String} {af : Array Edge} {g : Option (Nat × Bool)}
variable {T T' : TypeId} {x y : Operand}
end
end Go.Xp

/- Layer 9 (paxrec): keys, Check, Size. -/
set_option linter.unusedSimpArgs false
set_option linter.unusedVariables false
set_option linter.unusedSectionVars false
namespace Go.Xp
open Go.Proofs

def sidx : List (List UInt8) → List UInt8 → Nat → Int
  | [], _, _ => -1
  | a :: r, x, k => if x = a then (k : Int) else sidx r x (k + 1)
theorem sidx_mem : ∀ (l : List (List UInt8)) (x : List UInt8) (k : Nat), 0 ≤ sidx l x k ↔ x ∈ l
  | [], x, k => by simp [sidx]
  | a :: r, x, k => by
    have := sidx_mem r x (k + 1)
    unfold sidx
    split
    · rename_i h; simp [h]
    · rename_i h; rw [this]; simp [h]
theorem sidx_skip {l : List (List UInt8)} {x : List UInt8} : ∀ {i : Nat}, i ≤ l.length → (∀ k, k < i → ¬ x = at_str l k) → sidx l x 0 = sidx (l.drop i) x i
  | 0, _, _ => by simp
  | i + 1, h, hd => by
    rw [sidx_skip (i := i) (by omega) (fun k hk => hd k (by omega)), List.drop_eq_getElem_cons (by omega)]
    have := hd i (by omega)
    rw [at_str, List.getD_eq_getElem?_getD, List.getElem?_eq_getElem (by omega)] at this
    rw [sidx, if_neg (by simpa using this)]
theorem sidx_at {l : List (List UInt8)} {x : List UInt8} {i : Nat} (h : i < l.length) (hd : ∀ k, k < i → ¬ x = at_str l k) (hx : x = at_str l i) : sidx l x 0 = i := by
  rw [sidx_skip (by omega) hd, List.drop_eq_getElem_cons h, sidx, if_pos]
  rw [hx, at_str, List.getD_eq_getElem?_getD, List.getElem?_eq_getElem h]; rfl

set_option maxRecDepth 100000 in
theorem slices_IndexS (h : Heap) (v : Value) (l : List (List UInt8)) (hl : Rows strS h v l) (x : List UInt8) (hn : l.length ≤ 140737488355328) : Cal Tryd.prog 78 #[v, str x] h (fun v h' => v = .int .i64 (sidx l x 0) ∧ h' = h) := by
 refine Cal_enter (args := [v, str x]) Tryd.func78 rfl rfl rfl (fun σ => ?_)
 refine Wr ?_
 refine Av ?_
 refine L_nil (X_then (W_seq (W_seq (W_region ?_))))
 refine Mv ?_
 refine Ly (Y_lenr Tryd.underlying96 rfl hl) ?_
 refine Mv ?_
 refine Nx ?_
 refine W_sub _ (tk5 8 7 4 0 1) ?_
 refine W_block ?_
 refine W_loop (S := Nat) (fun i => [(7, .int .i64 ((l.length : Int))), (0, v), (1, str x), (8, .int .i64 ((i : Int)))]) (fun i h' => i ≤ l.length ∧ (∀ k, k < i → ¬ x = at_str l k) ∧ h' = h) (fun i => l.length - i) 0 (tk4 7 0 1 8) ?_ ?_
 ·exact ⟨Nat.zero_le _, (fun _ hk => absurd hk (Nat.not_lt_zero _)), rfl⟩
 rintro i h ⟨hi, hip, rfl⟩
 show W _ _ _ _ _ [(7, .int .i64 ((l.length : Int))), (0, v), (1, str x), (8, .int .i64 ((i : Int)))] _
 refine Wr ?_
 refine Ly (Y_lss rfl rfl) ?_
 refine L_nil (X_then (W_seq ?_))
 refine W_splitd rfl (fun hl2 => ?_) (fun hl2 => ?_)
 ·refine Ws ?_
  refine W_sub _ (tk4 7 0 1 8) ?_
  refine W_seq (W_block (W_seq (W_region ?_)))
  refine Mv ?_
  refine Av ?_
  refine Nx ?_
  refine W_sub _ (tk5 5 7 0 1 8) ?_
  refine Wr ?_
  refine Mv ?_
  refine Mv ?_
  refine Mv ?_
  refine Ly (Y_idxr Tryd.underlying96 (show _ = some 1 by kernel_rfl) rfl rfl rfl hl (by omega) (by omega)) ?_
  refine Ly (Y_ldr0 (k := ((i : Int)).toNat) Tryd.underlying9 rfl rfl rfl hl (by omega) rfl) ?_
  refine Ly (Y_seql rfl rfl) ?_
  refine Nx ?_
  refine W_sub _ (tk6 16 5 7 0 1 8) ?_
  refine W_splitd rfl (fun hne => ?_) (fun hne => ?_)
  ·refine Wr ?_
   refine Mv ?_
   refine Av ?_
   refine Nx ?_
   refine W_sub _ (tk5 4 7 0 1 8) ?_
   refine W_ret (X_block_ret (X_then_ret (X_then_ret (X_block_ret (X_then_ret ?_)))))
   refine X_ret1 rfl rfl ?_
   exact ⟨by rw [sidx_at (i := i) (by omega) hip (hne)], rfl⟩
  refine W_skip (X_block (X_then ?_))
  refine W_sub _ (tk4 7 0 1 8) ?_
  refine W_region ?_
  refine Ly (Y_add rfl rfl (by omega) (by omega)) ?_
  refine Mv ?_
  refine L_nil ?_
  refine X_loop (i + 1) (tk4 7 0 1 8) ?_ ?_
  ·exact ⟨by omega, (step_ne hip (hne)), rfl⟩
  (try dsimp only)
  omega
 refine W_exit ?_
 refine X_then_exit (X_then_exit ?_)
 refine X_block_hit ?_
 refine X_then ?_
 refine W_sub _ sN ?_
 refine Wr ?_
 refine Av ?_
 refine L_nil (X_then (W_ret ?_))
 refine X_ret1 rfl rfl ?_
 have hi9 : i = l.length := by omega
 exact ⟨by rw [sidx_skip (i := i) (by omega) hip, hi9, List.drop_length]; rfl, rfl⟩
set_option maxRecDepth 100000 in
theorem slices_ContainsS (h : Heap) (v : Value) (l : List (List UInt8)) (hl : Rows strS h v l) (x : List UInt8) (hn : l.length ≤ 140737488355328) : Cal Tryd.prog 71 #[v, str x] h (fun v h' => v = .bool (decide (x ∈ l)) ∧ h' = h) := by
 refine Cal_enter (args := [v, str x]) Tryd.func71 rfl rfl rfl (fun σ => ?_)
 refine Wr ?_
 refine Av ?_
 refine L_nil (X_then (W_seq (W_region ?_)))
 refine Mv ?_
 refine Mv ?_
 refine L_call (E_call (by kernel_rfl) rfl) (slices_IndexS _ v l hl x (by first | omega | rfl | (simp <;> omega))) rfl rfl rfl ?_
 rintro _ h ⟨rfl, rfl⟩
 refine Ly (Y_geq rfl rfl) ?_
 refine Av ?_
 refine Nx ?_
 refine W_sub _ (tk1 4) ?_
 refine W_ret ?_
 refine X_ret1 rfl rfl ?_
 exact ⟨by simp only [sidx_mem], rfl⟩

/-! ### Check -/
theorem mem0_iff {l : List UInt8} : (0 : UInt8) ∈ l ↔ ∃ i, i < l.length ∧ byt l i = 0 := by
  constructor
  · intro h
    obtain ⟨i, hi, he⟩ := List.getElem_of_mem h
    exact ⟨i, hi, by rw [byt_eq hi, he]; rfl⟩
  · rintro ⟨i, hi, he⟩
    rw [byt_eq hi] at he
    have : l[i] = 0 := UInt8.toNat_inj.1 (by show l[i].toNat = 0; omega)
    exact this ▸ List.getElem_mem hi
def rerr (k v : List UInt8) : Int :=
  if k = [115, 105, 122, 101] then nerr v 1099511627776
  else if k = [108, 105, 110, 107, 112, 97, 116, 104] ∨ k = [112, 97, 116, 104] then (if 65536 < v.length then 7 else if v = [] ∨ (0 : UInt8) ∈ v then 6 else 0)
  else 17
theorem rerr_key {k v : List UInt8} (h : ¬ k ∈ [[108, 105, 110, 107, 112, 97, 116, 104], [112, 97, 116, 104], [115, 105, 122, 101]]) : rerr k v = 17 := by
  simp only [List.mem_cons, List.not_mem_nil, or_false, not_or] at h
  unfold rerr; rw [if_neg h.2.2, if_neg (fun e => e.elim h.1 h.2.1)]
theorem rerr_path {k v : List UInt8} (h : k ∈ [[108, 105, 110, 107, 112, 97, 116, 104], [112, 97, 116, 104], [115, 105, 122, 101]]) (h2 : ¬ k = [115, 105, 122, 101]) : rerr k v = (if 65536 < v.length then 7 else if v = [] ∨ (0 : UInt8) ∈ v then 6 else 0) := by
  simp only [List.mem_cons, List.not_mem_nil, or_false] at h
  unfold rerr; rw [if_neg h2, if_pos (h.elim .inl (fun h => h.elim .inr (fun h => absurd h h2)))]

set_option maxRecDepth 100000 in
theorem rec_Check (h : Heap) (hK : GlbK h) (hE : GlbE h) (kk : List UInt8) (vv : List UInt8) (h1 : vv.length ≤ 140737488355328) : Cal Tryd.prog 62 #[.agg #[str kk, str vv]] h (fun v h' => v = .int .i64 (rerr kk vv) ∧ Ext h h') := by
 refine Cal_enter (args := [.agg #[str kk, str vv]]) Tryd.func62 rfl rfl rfl (fun σ => ?_)
 refine Wr ?_
 refine L_mks (M_box rfl) rfl rfl rfl ?_
 rintro _ h1 ⟨rfl, hn1⟩
 have hk2 : Blk h1 h.size [str kk, str vv] := hn1.blk
 refine Av ?_
 refine Nx ?_
 refine W_sub _ (tk2 2 1) ?_
 refine W_seq (W_seq ?_)
 refine W_quiet (fun h' => h' = h1) (by kernel_rfl) (by kernel_rfl) rfl ?_
 have hb3 : Rows strS h1 (.slice (some ⟨0, 0, none⟩) 3 3) ([[108, 105, 110, 107, 112, 97, 116, 104], [112, 97, 116, 104], [115, 105, 122, 101]]) := Cls.rowsS (l := [[108, 105, 110, 107, 112, 97, 116, 104], [112, 97, 116, 104], [115, 105, 122, 101]]) (hK.ext hn1.ext).g0 rfl (by decide)
 refine LQ_yld (fun h_ hI_ => by subst hI_; exact Y_arrall Tryd.underlying97 (show _ = some 1 by kernel_rfl) (by decide) rfl) rfl rfl rfl ?_
 refine LQ_yld (fun h_ hI_ => by subst hI_; exact Y_fieldAddr (off := 0) (by kernel_rfl) rfl rfl) rfl rfl rfl ?_
 refine LQ_yld (fun h_ hI_ => by subst hI_; exact Y_ldblk Tryd.underlying9 rfl rfl hk2 rfl) rfl rfl rfl ?_
 refine LQ_call (v := .bool (decide (kk ∈ [[108, 105, 110, 107, 112, 97, 116, 104], [112, 97, 116, 104], [115, 105, 122, 101]]))) (fun _ _ => E_call (by kernel_rfl) rfl) (fun h_ hI_ => by subst hI_; exact (slices_ContainsS _ (.slice (some ⟨0, 0, none⟩) 3 3) [[108, 105, 110, 107, 112, 97, 116, 104], [112, 97, 116, 104], [115, 105, 122, 101]] hb3 kk (by first | omega | rfl | (simp <;> omega)))) rfl rfl rfl ?_
 refine LQ_yld (fun h_ hI_ => by subst hI_; exact Y_notd rfl) rfl rfl rfl ?_
 refine LQ_nil ?_
 rintro h1 rfl
 refine X_then ?_
 refine W_sub _ (tk3 9 2 1) ?_
 refine W_splitd rfl (fun c => ?_) (fun c => ?_)
 ·refine Wr ?_
  refine Av ?_
  refine Nx ?_
  refine W_sub _ (tk2 2 1) ?_
  refine W_ret (X_then_ret ?_)
  refine X_ret1 rfl rfl ?_
  exact ⟨by rw [rerr_key c], hn1.ext⟩
 refine Ws ?_
 refine W_sub _ (tk2 2 1) ?_
 have c' := Classical.not_not.1 c
 refine W_seq (W_seq (W_region ?_))
 refine Ly (Y_fieldAddr (off := 0) (by kernel_rfl) rfl rfl) ?_
 refine Ly (Y_ldblk Tryd.underlying9 rfl rfl hk2 rfl) ?_
 refine Ly (Y_seql rfl rfl) ?_
 refine Nx ?_
 refine W_sub _ (tk3 12 2 1) ?_
 refine W_splitd rfl (fun z => ?_) (fun z => ?_)
 ·refine Wr ?_
  refine Ly (Y_fieldAddr (off := 1) (by kernel_rfl) rfl rfl) ?_
  refine Ly (Y_ldblk Tryd.underlying9 rfl rfl hk2 rfl) ?_
  refine L_call (E_call (by kernel_rfl) rfl) (rec_number _ (hE.ext hn1.ext) vv (1099511627776 : Int) (by first | omega | rfl | (simp <;> omega)) (by first | omega | rfl | (simp <;> omega))) rfl rfl rfl ?_
  rintro _ h2 ⟨rfl, hx4⟩
  refine Mv ?_
  refine Ly (Y_extract (v := .int .i64 (nnum vv (1099511627776 : Int))) rfl rfl) ?_
  refine Ly (Y_extract (v := .int .i64 (nerr vv (1099511627776 : Int))) rfl rfl) ?_
  refine Av ?_
  refine Av ?_
  refine Nx ?_
  refine W_sub _ (tk3 4 2 1) ?_
  refine Wr ?_
  refine Mv ?_
  refine Av ?_
  refine Nx ?_
  refine W_sub _ (tk2 2 1) ?_
  refine W_ret (X_then_ret ?_)
  refine X_ret1 rfl rfl ?_
  exact ⟨by unfold rerr; rw [if_pos z], (hn1.ext.trans hx4)⟩
 refine Ws ?_
 refine W_sub _ (tk2 2 1) ?_
 refine W_seq (W_block (W_seq (W_region ?_)))
 refine Ly (Y_fieldAddr (off := 1) (by kernel_rfl) rfl rfl) ?_
 refine Ly (Y_ldblk Tryd.underlying9 rfl rfl hk2 rfl) ?_
 refine Ly (Y_slen Tryd.underlying9 rfl) ?_
 refine Ly (Y_gtr rfl rfl) ?_
 refine Av ?_
 refine Nx ?_
 refine W_sub _ (tk3 20 2 1) ?_
 refine W_splitd rfl (fun g => ?_) (fun g => ?_)
 ·refine Wr ?_
  refine Av ?_
  refine Nx ?_
  refine W_sub _ (tk1 2) ?_
  refine W_ret (X_block_ret (X_then_ret ?_))
  refine X_ret1 rfl rfl ?_
  exact ⟨by rw [rerr_path c' z, if_pos (by omega)], hn1.ext⟩
 refine W_cut (S := Unit) (fun _ => [(25, .bool (decide ((vv = []) ∨ (0 ≤ (Lib.indexByte vv (0 : Int).toNat.toUInt8))))), (2, .int .i64 0)]) (fun _ h' => h' = h1) ?_ ?_
 ·refine W_region ?_
  refine Ly (Y_fieldAddr (off := 1) (by kernel_rfl) rfl rfl) ?_
  refine Ly (Y_ldblk Tryd.underlying9 rfl rfl hk2 rfl) ?_
  refine Ly (Y_seql rfl rfl) ?_
  refine Mv ?_
  refine L_splitd (d := 29) rfl (fun c5 => ?_) (fun c5 => ?_)
  ·refine Skp ?_
   refine Skp ?_
   refine Skp ?_
   refine Skp ?_
   refine Ly (Y_pick_t rfl rfl) ?_
   refine Av ?_
   refine L_nil ?_
   exact X_cut () (sk1 25 (lkb rfl (by first | (simp only [eq_true c5, SB]; done) | (simp only [eq_true c5, SB]; rfl))) (tk1 2)) rfl
  refine Ly (Y_fieldAddr (off := 1) (by kernel_rfl) rfl rfl) ?_
  refine Ly (Y_ldblk Tryd.underlying9 rfl rfl hk2 rfl) ?_
  refine L_call (E_call (by kernel_rfl) rfl) (strings_IndexByte _ vv (0 : Int)) rfl rfl rfl ?_
  rintro _ h1 ⟨rfl, rfl⟩
  refine Ly (Y_geq rfl rfl) ?_
  refine Ly (Y_pick_f rfl rfl) ?_
  refine Av ?_
  refine L_nil ?_
  exact X_cut () (sk1 25 (lkb rfl (by first | (simp only [eq_false c5, SB]; done) | (simp only [eq_false c5, SB]; rfl))) (tk1 2)) rfl
 rintro _ h1 rfl
 show W _ _ _ _ _ [(25, .bool (decide ((vv = []) ∨ (0 ≤ (Lib.indexByte vv (0 : Int).toNat.toUInt8))))), (2, .int .i64 0)] _
 refine W_splitd rfl (fun b => ?_) (fun b => ?_)
 ·refine Wr ?_
  refine Av ?_
  refine Nx ?_
  refine W_sub _ (tk1 2) ?_
  refine W_ret (X_block_ret (X_then_ret ?_))
  refine X_ret1 rfl rfl ?_
  have b' : vv = [] ∨ (0 : UInt8) ∈ vv := b.imp id (fun b => (indexByte_mem _ _).1 b)
  exact ⟨by rw [rerr_path c' z, if_neg (by omega), if_pos b'], hn1.ext⟩
 refine W_skip (X_block (X_then ?_))
 refine W_sub _ (tk1 2) ?_
 refine Wr ?_
 refine Av ?_
 refine L_nil (X_then (W_ret ?_))
 refine X_ret1 rfl rfl ?_
 have b' : ¬ (vv = [] ∨ (0 : UInt8) ∈ vv) := fun e => b (e.imp id (fun e => (indexByte_mem _ _).2 e))
 exact ⟨by rw [rerr_path c' z, if_neg (by omega), if_neg b'], hn1.ext⟩

/-! ### Size -/
end Go.Xp

/- Layer 9 (paxrec): Format. -/
set_option linter.unusedSimpArgs false
set_option linter.unusedVariables false
set_option linter.unusedSectionVars false
namespace Go.Xp
open Go.Proofs

def sle (a b : List UInt8) : Bool := Op.bytesLess a b || a == b
def RGood (l : List Rec) (i : Nat) : Prop := i ≤ l.length ∧ ∀ k, k < i → rerr (at_rec l k).key (at_rec l k).val = 0 ∧ (0 < k → sle (at_rec l k).key (at_rec l (k - 1)).key = false)
theorem RGood.zero (l : List Rec) : RGood l 0 := ⟨Nat.zero_le _, fun k hk => absurd hk (Nat.not_lt_zero _)⟩
theorem RGood.succ {l : List Rec} {i : Nat} (h : RGood l i) (hi : i < l.length) (hb : rerr (at_rec l i).key (at_rec l i).val = 0) (ho : 0 < i → sle (at_rec l i).key (at_rec l (i - 1)).key = false) : RGood l (i + 1) :=
  ⟨hi, fun k hk => by
    rcases Nat.lt_succ_iff_lt_or_eq.1 hk with h1 | rfl
    · exact h.2 k h1
    · exact ⟨hb, ho⟩⟩
/-! Only three keys: no good list is longer. -/
def krank (k : List UInt8) : Nat := if k = [108, 105, 110, 107, 112, 97, 116, 104] then 0 else if k = [112, 97, 116, 104] then 1 else 2
theorem rerr_ok {k v : List UInt8} (h : rerr k v = 0) : (k = [108, 105, 110, 107, 112, 97, 116, 104] ∨ k = [112, 97, 116, 104] ∨ k = [115, 105, 122, 101]) := by
  unfold rerr at h
  split at h
  · rename_i h1; exact .inr (.inr h1)
  · split at h
    · rename_i h1; exact h1.elim .inl (fun h => .inr (.inl h))
    · cases h
theorem krank_lt {a b : List UInt8} (ha : a = [108, 105, 110, 107, 112, 97, 116, 104] ∨ a = [112, 97, 116, 104] ∨ a = [115, 105, 122, 101]) (hb : b = [108, 105, 110, 107, 112, 97, 116, 104] ∨ b = [112, 97, 116, 104] ∨ b = [115, 105, 122, 101]) (h : sle a b = false) : krank b < krank a := by
  rcases ha with rfl | rfl | rfl <;> rcases hb with rfl | rfl | rfl <;> revert h <;> decide
theorem RGood.rank {l : List Rec} : ∀ {i : Nat}, RGood l (i + 1) → i ≤ krank (at_rec l i).key
  | 0, _ => Nat.zero_le _
  | i + 1, h => by
    have h1 := RGood.rank (i := i) ⟨by have := h.1; omega, fun k hk => h.2 k (by omega)⟩
    have h2 := h.2 i (by omega)
    have h3 := h.2 (i + 1) (by omega)
    have := krank_lt (rerr_ok h3.1) (rerr_ok h2.1) (by have := h3.2 (by omega); simpa using this)
    omega
theorem krank_le (k : List UInt8) : krank k ≤ 2 := by unfold krank; split <;> (try split) <;> omega
theorem RGood.three {l : List Rec} {i : Nat} (h : RGood l i) : i ≤ 3 := by
  cases i with
  | zero => omega
  | succ i => have := h.rank; have := krank_le (at_rec l i).key; omega
/-! ### The keys -/

/-! ### The law's helpers -/
end Go.Xp
