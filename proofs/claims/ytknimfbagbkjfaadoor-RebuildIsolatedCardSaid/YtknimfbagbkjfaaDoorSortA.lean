/- The library's stable sort of nodes: comparison, swaps, rotation, insertion sort: what the code does, step by step. -/
import Derived.Test.YtknimfbagbkjfaaDoorBufR
import Derived.Test.YtknimfbagbkjfaaDoorTreeP
set_option linter.unusedSimpArgs false
set_option linter.unusedVariables false
set_option linter.unusedSectionVars false
namespace Go.Xp
open Go.Proofs

def nlt (x y : Nod) : Prop := pcmp x.path y.path < 0
instance (x y : Nod) : Decidable (nlt x y) := by unfold nlt; infer_instance
def swp (L : List Nod) (i j : Nat) : List Nod := (L.set i (at_nod L j)).set j (at_nod L i)
@[simp] theorem swp_len (L : List Nod) (i j : Nat) : (swp L i j).length = L.length := by simp [swp]
def swr (L : List Nod) (a b : Nat) : Nat → List Nod
  | 0 => L
  | n + 1 => swp (swr L a b n) (a + n) (b + n)
@[simp] theorem swr_len (L : List Nod) (a b : Nat) : ∀ n, (swr L a b n).length = L.length
  | 0 => rfl
  | n + 1 => by simp [swr, swr_len L a b n]
def insf (a : Nat) : Nat → List Nod → List Nod
  | 0, L => L
  | j + 1, L => if a < j + 1 ∧ nlt (at_nod L (j + 1)) (at_nod L j) then insf a j (swp L (j + 1) j) else L
@[simp] theorem insf_len (a : Nat) : ∀ (j : Nat) (L : List Nod), (insf a j L).length = L.length
  | 0, L => rfl
  | j + 1, L => by
    unfold insf
    split
    · rw [insf_len a j]; simp
    · rfl
/-- n elements from index i on are put in. -/
def iso (a : Nat) : Nat → Nat → List Nod → List Nod
  | _, 0, L => L
  | i, n + 1, L => iso a (i + 1) n (insf a i L)
@[simp] theorem iso_len (a : Nat) : ∀ (n i : Nat) (L : List Nod), (iso a i n L).length = L.length
  | 0, _, _ => rfl
  | n + 1, i, L => by unfold iso; rw [iso_len a n]; simp
def isort (L : List Nod) (a b : Nat) : List Nod := iso a (a + 1) (b - (a + 1)) L
@[simp] theorem isort_len (L : List Nod) (a b : Nat) : (isort L a b).length = L.length := by simp [isort]
def rotf (m : Nat) : Nat → Nat → Nat → List Nod → List Nod
  | 0, _, _, L => L
  | f + 1, i, j, L => if i = j then swr L (m - i) m i else if j < i then rotf m f (i - j) j (swr L (m - i) m j) else rotf m f i (j - i) (swr L (m - i) (m + j - i) i)
@[simp] theorem rotf_len (m : Nat) : ∀ (f i j : Nat) (L : List Nod), (rotf m f i j L).length = L.length
  | 0, _, _, _ => rfl
  | f + 1, i, j, L => by
    unfold rotf
    split
    · simp
    · split
      · rw [rotf_len m f]; simp
      · rw [rotf_len m f]; simp
def rot (L : List Nod) (a m b : Nat) : List Nod := rotf m (b - a) (m - a) (b - m) L
@[simp] theorem rot_len (L : List Nod) (a m b : Nat) : (rot L a m b).length = L.length := by simp [rot]

set_option maxRecDepth 100000 in
theorem canon_cmp (h : Heap) (x : Nod) (hx0 : nodS.ok h x) (y : Nod) (hy0 : nodS.ok h y) : Cal Tryd.prog 54 #[.agg #[.int .i64 (x.kind), str x.path, .int .i64 (x.mode), str x.target, (x.dv), .int .i64 (x.cls)], .agg #[.int .i64 (y.kind), str y.path, .int .i64 (y.mode), str y.target, (y.dv), .int .i64 (y.cls)]] h (fun v h' => v = .int .i64 (pcmp x.path y.path) ∧ Ext h h') := by
 refine Cal_enter (args := [.agg #[.int .i64 (x.kind), str x.path, .int .i64 (x.mode), str x.target, (x.dv), .int .i64 (x.cls)], .agg #[.int .i64 (y.kind), str y.path, .int .i64 (y.mode), str y.target, (y.dv), .int .i64 (y.cls)]]) Tryd.func54 rfl rfl rfl (fun σ => ?_)
 refine Wr ?_
 refine L_mks (M_box rfl) rfl rfl rfl ?_
 rintro _ h1 ⟨rfl, hn1⟩
 have hk2 : Blk h1 h.size [.int .i64 (x.kind), str x.path, .int .i64 (x.mode), str x.target, (x.dv), .int .i64 (x.cls)] := hn1.blk
 refine L_mks (M_box rfl) rfl rfl rfl ?_
 rintro _ h2 ⟨rfl, hn3⟩
 have hk4 : Blk h2 h1.size [.int .i64 (y.kind), str y.path, .int .i64 (y.mode), str y.target, (y.dv), .int .i64 (y.cls)] := hn3.blk
 refine Av ?_
 refine Nx ?_
 refine W_sub _ (tk3 4 3 2) ?_
 refine Wr ?_
 refine Ly (Y_fieldAddr (off := 1) (by kernel_rfl) rfl rfl) ?_
 refine Ly (Y_ldblk Tryd.underlying9 rfl rfl (hk2.ext hn3.ext) rfl) ?_
 refine Ly (Y_fieldAddr (off := 1) (by kernel_rfl) rfl rfl) ?_
 refine Ly (Y_ldblk Tryd.underlying9 rfl rfl hk4 rfl) ?_
 refine L_call (E_call (by kernel_rfl) rfl) (cmp_Compare _ x.path y.path) rfl rfl rfl ?_
 rintro _ h2 ⟨rfl, rfl⟩
 refine Av ?_
 refine Nx ?_
 refine W_sub _ (tk1 4) ?_
 refine W_ret ?_
 refine X_ret1 rfl rfl ?_
 exact ⟨rfl, (hn1.ext.trans hn3.ext)⟩

set_option maxRecDepth 100000 in
theorem sort_swapRange (h : Heap) (B : Nat) (N : Nat) (L : List Nod) (pd : Nat → Prop) (hb : RBuf nodS h B pd L) (a : Int) (b : Int) (n : Int) (hpB : ¬ pd B) (hN : N = L.length) (hm : L.length ≤ 1000000000000) (ha : 0 ≤ a) (hb0 : 0 ≤ b) (hn0 : 0 ≤ n) (hl : a + n ≤ L.length) (hl2 : b + n ≤ L.length) : Cal Tryd.prog 84 #[.slice (some ⟨B, 0, none⟩) N N, .int .i64 (a), .int .i64 (b), .int .i64 (n), .func (.func 54) #[] #[]] h (fun v h' => v = .tuple #[] ∧ Only [B] h h' ∧ RBuf nodS h' B pd (swr L a.toNat b.toNat n.toNat)) := by
 refine Cal_enter (args := [.slice (some ⟨B, 0, none⟩) N N, .int .i64 (a), .int .i64 (b), .int .i64 (n), .func (.func 54) #[] #[]]) Tryd.func84 rfl rfl rfl (fun σ => ?_)
 refine Wr ?_
 refine Av ?_
 refine Nx ?_
 refine W_sub _ (tk5 10 0 1 2 3) ?_
 refine W_block ?_
 refine W_loop (S := Nat) (fun i => [(0, .slice (some ⟨B, 0, none⟩) N N), (1, .int .i64 (a)), (2, .int .i64 (b)), (3, .int .i64 (n)), (10, .int .i64 ((i : Int)))]) (fun i h' => (i : Int) ≤ n ∧ Only [B] h h' ∧ RBuf nodS h' B pd (swr L a.toNat b.toNat i)) (fun i => n.toNat - i) 0 (tk5 0 1 2 3 10) ?_ ?_
 ·exact ⟨by omega, (Only.refl _ _), hb⟩
 rintro i h1 ⟨hi, hx, hb1⟩
 show W _ _ _ _ _ [(0, .slice (some ⟨B, 0, none⟩) N N), (1, .int .i64 (a)), (2, .int .i64 (b)), (3, .int .i64 (n)), (10, .int .i64 ((i : Int)))] _
 refine W_seq (W_seq (W_region ?_))
 refine Mv ?_
 refine Mv ?_
 refine Ly (Y_lss rfl rfl) ?_
 refine Nx ?_
 refine W_sub _ (tk6 13 0 1 2 3 10) ?_
 refine W_splitd rfl (fun c => ?_) (fun c => ?_)
 ·refine Ws ?_
  refine W_sub _ (tk5 0 1 2 3 10) ?_
  have hL2 := swr_len L a.toNat b.toNat i
  refine W_seq (W_block ?_)
  refine W_held (fun _ => True) 24 rfl (by kernel_rfl) ?_
  refine LH_take (i := 0) rfl (fun h_ hI_ => Y_move rfl) rfl rfl rfl (by kernel_rfl) (by kernel_rfl) (by kernel_rfl) (fun _ _ _ => by rintro ⟨_, _, h_, _⟩; cases h_) trivial ?_
  refine LH_take (i := 1) rfl (fun h_ hI_ => Y_move rfl) rfl rfl rfl (by kernel_rfl) (by kernel_rfl) (by kernel_rfl) (fun _ _ _ => by rintro ⟨_, _, h_, _⟩; cases h_) trivial ?_
  refine LH_take (i := 2) rfl (fun h_ hI_ => Y_move rfl) rfl rfl rfl (by kernel_rfl) (by kernel_rfl) (by kernel_rfl) (fun _ _ _ => by rintro ⟨_, _, h_, _⟩; cases h_) trivial ?_
  refine LH_take (i := 3) rfl (fun h_ hI_ => Y_add rfl rfl (by omega) (by omega)) rfl rfl rfl (by kernel_rfl) (by kernel_rfl) (by kernel_rfl) (fun _ _ _ => by rintro ⟨_, _, h_, _⟩; cases h_) trivial ?_
  refine LH_take (i := 4) rfl (fun h_ hI_ => Y_move rfl) rfl rfl rfl (by kernel_rfl) (by kernel_rfl) (by kernel_rfl) (fun _ _ _ => by rintro ⟨_, _, h_, _⟩; cases h_) trivial ?_
  refine LH_take (i := 5) rfl (fun h_ hI_ => Y_move rfl) rfl rfl rfl (by kernel_rfl) (by kernel_rfl) (by kernel_rfl) (fun _ _ _ => by rintro ⟨_, _, h_, _⟩; cases h_) trivial ?_
  refine LH_take (i := 6) rfl (fun h_ hI_ => Y_move rfl) rfl rfl rfl (by kernel_rfl) (by kernel_rfl) (by kernel_rfl) (fun _ _ _ => by rintro ⟨_, _, h_, _⟩; cases h_) trivial ?_
  refine LH_take (i := 7) rfl (fun h_ hI_ => Y_add rfl rfl (by omega) (by omega)) rfl rfl rfl (by kernel_rfl) (by kernel_rfl) (by kernel_rfl) (fun _ _ _ => by rintro ⟨_, _, h_, _⟩; cases h_) trivial ?_
  refine LH_take (i := 8) rfl (fun h_ hI_ => Y_move rfl) rfl rfl rfl (by kernel_rfl) (by kernel_rfl) (by kernel_rfl) (fun _ _ _ => by rintro ⟨_, _, h_, _⟩; cases h_) trivial ?_
  refine LH_take (i := 9) rfl (fun h_ hI_ => Y_move rfl) rfl rfl rfl (by kernel_rfl) (by kernel_rfl) (by kernel_rfl) (fun _ _ _ => by rintro ⟨_, _, h_, _⟩; cases h_) trivial ?_
  refine LH_take (i := 10) rfl (fun h_ hI_ => Y_move rfl) rfl rfl rfl (by kernel_rfl) (by kernel_rfl) (by kernel_rfl) (fun _ _ _ => by rintro ⟨_, _, h_, _⟩; cases h_) trivial ?_
  refine LH_take (i := 11) rfl (fun h_ hI_ => Y_add rfl rfl (by omega) (by omega)) rfl rfl rfl (by kernel_rfl) (by kernel_rfl) (by kernel_rfl) (fun _ _ _ => by rintro ⟨_, _, h_, _⟩; cases h_) trivial ?_
  refine LH_take (i := 12) rfl (fun h_ hI_ => Y_idxB Tryd.underlying32 (show _ = some 6 by kernel_rfl) rfl rfl (by first | omega | (simp; omega)) (by first | omega | (simp; omega))) rfl rfl rfl (by kernel_rfl) (by kernel_rfl) (by kernel_rfl) (fun _ _ _ => by rintro ⟨_, _, h_, _⟩; cases h_) trivial ?_
  refine LH_take (i := 14) rfl (fun h_ hI_ => Y_move rfl) rfl rfl rfl (by kernel_rfl) (by kernel_rfl) (by kernel_rfl) (fun _ _ _ => by rintro ⟨_, _, h_, _⟩; cases h_) trivial ?_
  refine LH_take (i := 15) rfl (fun h_ hI_ => Y_move rfl) rfl rfl rfl (by kernel_rfl) (by kernel_rfl) (by kernel_rfl) (fun _ _ _ => by rintro ⟨_, _, h_, _⟩; cases h_) trivial ?_
  refine LH_take (i := 16) rfl (fun h_ hI_ => Y_move rfl) rfl rfl rfl (by kernel_rfl) (by kernel_rfl) (by kernel_rfl) (fun _ _ _ => by rintro ⟨_, _, h_, _⟩; cases h_) trivial ?_
  refine LH_take (i := 17) rfl (fun h_ hI_ => Y_add rfl rfl (by omega) (by omega)) rfl rfl rfl (by kernel_rfl) (by kernel_rfl) (by kernel_rfl) (fun _ _ _ => by rintro ⟨_, _, h_, _⟩; cases h_) trivial ?_
  refine LH_take (i := 18) rfl (fun h_ hI_ => Y_idxB Tryd.underlying32 (show _ = some 6 by kernel_rfl) rfl rfl (by first | omega | (simp; omega)) (by first | omega | (simp; omega))) rfl rfl rfl (by kernel_rfl) (by kernel_rfl) (by kernel_rfl) (fun _ _ _ => by rintro ⟨_, _, h_, _⟩; cases h_) trivial ?_
  refine LH_two (i := 13) (j := 19) (by kernel_rfl) ?_ ?_
  ·have hq1 : Okp nodS h1 pd (at_nod (swr L a.toNat b.toNat i) (b + (i : Int)).toNat) := hb1.okp (by first | omega | (simp; omega))
   refine LO_yld (i := 13) rfl (Y_ldrA0 (k := (b + (i : Int)).toNat) (us := [.int .i64 ((at_nod (swr L a.toNat b.toNat i) (b + (i : Int)).toNat).kind), str ((at_nod (swr L a.toNat b.toNat i) (b + (i : Int)).toNat).path), .int .i64 ((at_nod (swr L a.toNat b.toNat i) (b + (i : Int)).toNat).mode), str ((at_nod (swr L a.toNat b.toNat i) (b + (i : Int)).toNat).target), ((at_nod (swr L a.toNat b.toNat i) (b + (i : Int)).toNat).dv), .int .i64 ((at_nod (swr L a.toNat b.toNat i) (b + (i : Int)).toNat).cls)]) Tryd.underlying48 rfl (show _ = some 6 by kernel_rfl) rfl rfl (hb1.rows (by simp [hN])) (by first | omega | (simp; omega)) rfl) rfl rfl rfl trivial ?_
   refine LH_one (i := 19) (by kernel_rfl) ?_
   have hq2 : Okp nodS h1 pd (at_nod (swr L a.toNat b.toNat i) (a + (i : Int)).toNat) := hb1.okp (by first | omega | (simp; omega))
   refine LO_yld (i := 19) rfl (Y_ldrA0 (k := (a + (i : Int)).toNat) (us := [.int .i64 ((at_nod (swr L a.toNat b.toNat i) (a + (i : Int)).toNat).kind), str ((at_nod (swr L a.toNat b.toNat i) (a + (i : Int)).toNat).path), .int .i64 ((at_nod (swr L a.toNat b.toNat i) (a + (i : Int)).toNat).mode), str ((at_nod (swr L a.toNat b.toNat i) (a + (i : Int)).toNat).target), ((at_nod (swr L a.toNat b.toNat i) (a + (i : Int)).toNat).dv), .int .i64 ((at_nod (swr L a.toNat b.toNat i) (a + (i : Int)).toNat).cls)]) Tryd.underlying48 rfl (show _ = some 6 by kernel_rfl) rfl rfl (hb1.rows (by simp [hN])) (by first | omega | (simp; omega)) rfl) rfl rfl rfl trivial ?_
   refine LH_take (i := 20) rfl (fun h_ hI_ => Y_idxB Tryd.underlying32 (show _ = some 6 by kernel_rfl) rfl rfl (by first | omega | (simp; omega)) (by first | omega | (simp; omega))) rfl rfl rfl (by kernel_rfl) (by kernel_rfl) (by kernel_rfl) (fun _ _ _ => by rintro ⟨_, _, h_, _⟩; cases h_) trivial ?_
   refine LH_one (i := 21) (by kernel_rfl) ?_
   refine LO_dos (i := 21) rfl (D_rsetA (S := nodS) (us := [.int .i64 ((at_nod (swr L a.toNat b.toNat i) (b + (i : Int)).toNat).kind), str ((at_nod (swr L a.toNat b.toNat i) (b + (i : Int)).toNat).path), .int .i64 ((at_nod (swr L a.toNat b.toNat i) (b + (i : Int)).toNat).mode), str ((at_nod (swr L a.toNat b.toNat i) (b + (i : Int)).toNat).target), ((at_nod (swr L a.toNat b.toNat i) (b + (i : Int)).toNat).dv), .int .i64 ((at_nod (swr L a.toNat b.toNat i) (b + (i : Int)).toNat).cls)]) (a := (at_nod (swr L a.toNat b.toNat i) (b + (i : Int)).toNat)) (k := (a + (i : Int)).toNat) (show _ = some 6 by kernel_rfl) rfl rfl rfl rfl hb1 (by first | omega | (simp; omega)) rfl hq1.1 hq1.2 hpB) rfl rfl ?_
   rintro h2 ⟨hx3, -, hb4⟩
   refine ⟨trivial, ?_⟩
   refine LH_take (i := 22) rfl (fun h_ hI_ => Y_idxB Tryd.underlying32 (show _ = some 6 by kernel_rfl) rfl rfl (by first | omega | (simp; omega)) (by first | omega | (simp; omega))) rfl rfl rfl (by kernel_rfl) (by kernel_rfl) (by kernel_rfl) (fun _ _ _ => by rintro ⟨_, _, h_, _⟩; cases h_) trivial ?_
   refine LH_one (i := 23) (by kernel_rfl) ?_
   have hc7 := (hq2.only hx3 hpB)
   refine LO_dos (i := 23) rfl (D_rsetA (S := nodS) (us := [.int .i64 ((at_nod (swr L a.toNat b.toNat i) (a + (i : Int)).toNat).kind), str ((at_nod (swr L a.toNat b.toNat i) (a + (i : Int)).toNat).path), .int .i64 ((at_nod (swr L a.toNat b.toNat i) (a + (i : Int)).toNat).mode), str ((at_nod (swr L a.toNat b.toNat i) (a + (i : Int)).toNat).target), ((at_nod (swr L a.toNat b.toNat i) (a + (i : Int)).toNat).dv), .int .i64 ((at_nod (swr L a.toNat b.toNat i) (a + (i : Int)).toNat).cls)]) (a := (at_nod (swr L a.toNat b.toNat i) (a + (i : Int)).toNat)) (k := (b + (i : Int)).toNat) (show _ = some 6 by kernel_rfl) rfl rfl rfl rfl hb4 (by first | omega | (simp; omega)) rfl hc7.1 hc7.2 hpB) rfl rfl ?_
   rintro h3 ⟨hx5, -, hb6⟩
   refine ⟨trivial, ?_⟩
   refine LH_done (by kernel_rfl) ?_
   refine X_block (X_then ?_)
   refine W_sub _ (tk5 0 1 2 3 10) ?_
   refine W_region ?_
   refine Mv ?_
   refine Ly (Y_add rfl rfl (by omega) (by omega)) ?_
   refine Av ?_
   refine L_nil ?_
   refine X_loop (i + 1) (tk5 0 1 2 3 10) ?_ ?_
   ·exact ⟨by omega, (Only.trans (Only.trans (Only.trans (Only.refl _ _) hx (fun _ hb_ => .inl hb_)) hx3 (fun _ hb_ => .inl hb_)) hx5 (fun _ hb_ => .inl hb_)), RBuf.congr hb6 (by simp only [swr, swp, show (a + (i : Int)).toNat = a.toNat + i by omega, show (b + (i : Int)).toNat = b.toNat + i by omega])⟩
   (try dsimp only)
   omega
  have hq8 : Okp nodS h1 pd (at_nod (swr L a.toNat b.toNat i) (a + (i : Int)).toNat) := hb1.okp (by first | omega | (simp; omega))
  refine LO_yld (i := 19) rfl (Y_ldrA0 (k := (a + (i : Int)).toNat) (us := [.int .i64 ((at_nod (swr L a.toNat b.toNat i) (a + (i : Int)).toNat).kind), str ((at_nod (swr L a.toNat b.toNat i) (a + (i : Int)).toNat).path), .int .i64 ((at_nod (swr L a.toNat b.toNat i) (a + (i : Int)).toNat).mode), str ((at_nod (swr L a.toNat b.toNat i) (a + (i : Int)).toNat).target), ((at_nod (swr L a.toNat b.toNat i) (a + (i : Int)).toNat).dv), .int .i64 ((at_nod (swr L a.toNat b.toNat i) (a + (i : Int)).toNat).cls)]) Tryd.underlying48 rfl (show _ = some 6 by kernel_rfl) rfl rfl (hb1.rows (by simp [hN])) (by first | omega | (simp; omega)) rfl) rfl rfl rfl trivial ?_
  refine LH_one (i := 13) (by kernel_rfl) ?_
  have hq9 : Okp nodS h1 pd (at_nod (swr L a.toNat b.toNat i) (b + (i : Int)).toNat) := hb1.okp (by first | omega | (simp; omega))
  refine LO_yld (i := 13) rfl (Y_ldrA0 (k := (b + (i : Int)).toNat) (us := [.int .i64 ((at_nod (swr L a.toNat b.toNat i) (b + (i : Int)).toNat).kind), str ((at_nod (swr L a.toNat b.toNat i) (b + (i : Int)).toNat).path), .int .i64 ((at_nod (swr L a.toNat b.toNat i) (b + (i : Int)).toNat).mode), str ((at_nod (swr L a.toNat b.toNat i) (b + (i : Int)).toNat).target), ((at_nod (swr L a.toNat b.toNat i) (b + (i : Int)).toNat).dv), .int .i64 ((at_nod (swr L a.toNat b.toNat i) (b + (i : Int)).toNat).cls)]) Tryd.underlying48 rfl (show _ = some 6 by kernel_rfl) rfl rfl (hb1.rows (by simp [hN])) (by first | omega | (simp; omega)) rfl) rfl rfl rfl trivial ?_
  refine LH_take (i := 20) rfl (fun h_ hI_ => Y_idxB Tryd.underlying32 (show _ = some 6 by kernel_rfl) rfl rfl (by first | omega | (simp; omega)) (by first | omega | (simp; omega))) rfl rfl rfl (by kernel_rfl) (by kernel_rfl) (by kernel_rfl) (fun _ _ _ => by rintro ⟨_, _, h_, _⟩; cases h_) trivial ?_
  refine LH_one (i := 21) (by kernel_rfl) ?_
  refine LO_dos (i := 21) rfl (D_rsetA (S := nodS) (us := [.int .i64 ((at_nod (swr L a.toNat b.toNat i) (b + (i : Int)).toNat).kind), str ((at_nod (swr L a.toNat b.toNat i) (b + (i : Int)).toNat).path), .int .i64 ((at_nod (swr L a.toNat b.toNat i) (b + (i : Int)).toNat).mode), str ((at_nod (swr L a.toNat b.toNat i) (b + (i : Int)).toNat).target), ((at_nod (swr L a.toNat b.toNat i) (b + (i : Int)).toNat).dv), .int .i64 ((at_nod (swr L a.toNat b.toNat i) (b + (i : Int)).toNat).cls)]) (a := (at_nod (swr L a.toNat b.toNat i) (b + (i : Int)).toNat)) (k := (a + (i : Int)).toNat) (show _ = some 6 by kernel_rfl) rfl rfl rfl rfl hb1 (by first | omega | (simp; omega)) rfl hq9.1 hq9.2 hpB) rfl rfl ?_
  rintro h4 ⟨hx10, -, hb11⟩
  refine ⟨trivial, ?_⟩
  refine LH_take (i := 22) rfl (fun h_ hI_ => Y_idxB Tryd.underlying32 (show _ = some 6 by kernel_rfl) rfl rfl (by first | omega | (simp; omega)) (by first | omega | (simp; omega))) rfl rfl rfl (by kernel_rfl) (by kernel_rfl) (by kernel_rfl) (fun _ _ _ => by rintro ⟨_, _, h_, _⟩; cases h_) trivial ?_
  refine LH_one (i := 23) (by kernel_rfl) ?_
  have hc14 := (hq8.only hx10 hpB)
  refine LO_dos (i := 23) rfl (D_rsetA (S := nodS) (us := [.int .i64 ((at_nod (swr L a.toNat b.toNat i) (a + (i : Int)).toNat).kind), str ((at_nod (swr L a.toNat b.toNat i) (a + (i : Int)).toNat).path), .int .i64 ((at_nod (swr L a.toNat b.toNat i) (a + (i : Int)).toNat).mode), str ((at_nod (swr L a.toNat b.toNat i) (a + (i : Int)).toNat).target), ((at_nod (swr L a.toNat b.toNat i) (a + (i : Int)).toNat).dv), .int .i64 ((at_nod (swr L a.toNat b.toNat i) (a + (i : Int)).toNat).cls)]) (a := (at_nod (swr L a.toNat b.toNat i) (a + (i : Int)).toNat)) (k := (b + (i : Int)).toNat) (show _ = some 6 by kernel_rfl) rfl rfl rfl rfl hb11 (by first | omega | (simp; omega)) rfl hc14.1 hc14.2 hpB) rfl rfl ?_
  rintro h5 ⟨hx12, -, hb13⟩
  refine ⟨trivial, ?_⟩
  refine LH_done (by kernel_rfl) ?_
  refine X_block (X_then ?_)
  refine W_sub _ (tk5 0 1 2 3 10) ?_
  refine W_region ?_
  refine Mv ?_
  refine Ly (Y_add rfl rfl (by omega) (by omega)) ?_
  refine Av ?_
  refine L_nil ?_
  refine X_loop (i + 1) (tk5 0 1 2 3 10) ?_ ?_
  ·exact ⟨by omega, (Only.trans (Only.trans (Only.trans (Only.refl _ _) hx (fun _ hb_ => .inl hb_)) hx10 (fun _ hb_ => .inl hb_)) hx12 (fun _ hb_ => .inl hb_)), RBuf.congr hb13 (by simp only [swr, swp, show (a + (i : Int)).toNat = a.toNat + i by omega, show (b + (i : Int)).toNat = b.toNat + i by omega])⟩
  (try dsimp only)
  omega
 refine W_exit ?_
 refine X_then_exit (X_then_exit ?_)
 refine X_block_hit ?_
 refine X_end ?_
 refine X_end0 rfl ?_
 obtain rfl : i = n.toNat := by omega
 exact ⟨rfl, hx, hb1⟩

theorem rotf_eq {m f i : Nat} {L : List Nod} (hf : 0 < f) : rotf m f i i L = swr L (m - i) m i := by
  obtain ⟨g, rfl⟩ : ∃ g, f = g + 1 := ⟨f - 1, by omega⟩
  unfold rotf; rw [if_pos rfl]
theorem rotf_gt {m f i j : Nat} {L : List Nod} (hf : 0 < f) (h : j < i) : rotf m f i j L = rotf m (f - 1) (i - j) j (swr L (m - i) m j) := by
  obtain ⟨g, rfl⟩ : ∃ g, f = g + 1 := ⟨f - 1, by omega⟩
  conv => lhs; unfold rotf
  rw [if_neg (by omega), if_pos h]; rfl
theorem rotf_lt {m f i j : Nat} {L : List Nod} (hf : 0 < f) (h : i < j) : rotf m f i j L = rotf m (f - 1) i (j - i) (swr L (m - i) (m + j - i) i) := by
  obtain ⟨g, rfl⟩ : ∃ g, f = g + 1 := ⟨f - 1, by omega⟩
  conv => lhs; unfold rotf
  rw [if_neg (by omega), if_neg (by omega)]; rfl

set_option maxRecDepth 100000 in
theorem sort_rotate (h : Heap) (B : Nat) (N : Nat) (L : List Nod) (pd : Nat → Prop) (hb : RBuf nodS h B pd L) (a : Int) (m : Int) (b : Int) (hpB : ¬ pd B) (hN : N = L.length) (hm : L.length ≤ 1000000000000) (ha : 0 ≤ a) (h1 : a < m) (h2 : m < b) (h3 : b ≤ L.length) : Cal Tryd.prog 80 #[.slice (some ⟨B, 0, none⟩) N N, .int .i64 (a), .int .i64 (m), .int .i64 (b), .func (.func 54) #[] #[]] h (fun v h' => v = .tuple #[] ∧ Only [B] h h' ∧ RBuf nodS h' B pd (rot L a.toNat m.toNat b.toNat)) := by
 refine Cal_enter (args := [.slice (some ⟨B, 0, none⟩) N N, .int .i64 (a), .int .i64 (m), .int .i64 (b), .func (.func 54) #[] #[]]) Tryd.func80 rfl rfl rfl (fun σ => ?_)
 refine Wr ?_
 refine Mv ?_
 refine Mv ?_
 refine Ly (Y_sub rfl rfl (by omega) (by omega)) ?_
 refine Av ?_
 refine Nx ?_
 refine W_sub _ (tk5 10 0 2 3 4) ?_
 refine Wr ?_
 refine Mv ?_
 refine Mv ?_
 refine Ly (Y_sub rfl rfl (by omega) (by omega)) ?_
 refine Av ?_
 refine Nx ?_
 refine W_sub _ (tk5 11 10 0 2 4) ?_
 refine W_seq (W_block ?_)
 refine W_loop (S := Nat × Nat × Nat × List Nod) (fun (f, i, j, Lc) => [(0, .slice (some ⟨B, 0, none⟩) N N), (2, .int .i64 (m)), (4, .func (.func 54) #[] #[]), (10, .int .i64 ((i : Int))), (11, .int .i64 ((j : Int)))]) (fun (f, i, j, Lc) h' => 0 < i ∧ 0 < j ∧ i + j ≤ f ∧ (i : Int) ≤ m ∧ m + (j : Int) ≤ L.length ∧ Lc.length = L.length ∧ rotf m.toNat f i j Lc = rot L a.toNat m.toNat b.toNat ∧ Only [B] h h' ∧ RBuf nodS h' B pd Lc) (fun (f, i, j, Lc) => i + j) ((b - a).toNat, (m - a).toNat, (b - m).toNat, L) (sk3 0 2 4 rfl rfl rfl (sk1 10 (lki rfl (by omega)) (sk1 11 (lki rfl (by omega)) sN))) ?_ ?_
 ·exact ⟨by omega, by omega, by omega, by omega, by omega, rfl, by unfold rot; congr 1 <;> omega, (Only.refl _ _), hb⟩
 rintro ⟨f, i, j, Lc⟩ h1 ⟨hi, hj, hf, him, hjl, hLl, hT, hx, hb1⟩
 show W _ _ _ _ _ [(0, .slice (some ⟨B, 0, none⟩) N N), (2, .int .i64 (m)), (4, .func (.func 54) #[] #[]), (10, .int .i64 ((i : Int))), (11, .int .i64 ((j : Int)))] _
 refine W_seq (W_seq (W_region ?_))
 refine Mv ?_
 refine Mv ?_
 refine Ly (Y_neq rfl rfl) ?_
 refine Nx ?_
 refine W_sub _ (tk6 20 0 2 4 10 11) ?_
 refine W_splitd rfl (fun c => ?_) (fun c => ?_)
 ·refine Ws ?_
  refine W_sub _ (tk5 0 2 4 10 11) ?_
  refine W_block (W_seq (W_region ?_))
  refine Mv ?_
  refine Mv ?_
  refine Ly (Y_gtr rfl rfl) ?_
  refine Nx ?_
  refine W_sub _ (tk6 23 0 2 4 10 11) ?_
  refine W_splitd rfl (fun d => ?_) (fun d => ?_)
  ·refine Wr ?_
   refine Mv ?_
   refine Mv ?_
   refine Mv ?_
   refine Ly (Y_sub rfl rfl (by omega) (by omega)) ?_
   refine Mv ?_
   refine Mv ?_
   refine Mv ?_
   refine L_call (E_call (by kernel_rfl) rfl) (sort_swapRange _ B N Lc pd hb1 (m - (i : Int)) m (j : Int) (by first | omega | rfl | (simp <;> omega)) (by first | omega | rfl | (simp <;> omega)) (by first | omega | rfl | (simp <;> omega)) (by first | omega | rfl | (simp <;> omega)) (by first | omega | rfl | (simp <;> omega)) (by first | omega | rfl | (simp <;> omega)) (by first | omega | rfl | (simp <;> omega)) (by first | omega | rfl | (simp <;> omega))) rfl rfl rfl ?_
   rintro _ h2 ⟨rfl, hx1, hb2⟩
   refine Nx ?_
   refine W_sub _ (tk5 0 2 4 10 11) ?_
   refine W_region ?_
   refine Mv ?_
   refine Mv ?_
   refine Ly (Y_sub rfl rfl (by omega) (by omega)) ?_
   refine Av ?_
   refine L_nil (X_block ?_)
   refine X_loop ((f - 1, i - j, j, (swr Lc (m - (i : Int)).toNat m.toNat (j : Int).toNat))) (sk3 0 2 4 rfl rfl rfl (sk1 10 (lki rfl (by omega)) (tk1 11))) ?_ ?_
   ·exact ⟨by omega, hj, by omega, by omega, hjl, by simp [hLl], by rw [show (m - (i : Int)).toNat = m.toNat - i by omega]; exact (rotf_gt (by omega) (by omega)).symm.trans hT, (Only.trans (Only.trans (Only.refl _ _) hx (fun _ hb_ => .inl hb_)) hx1 (fun _ hb_ => .inl hb_)), hb2⟩
   (try dsimp only)
   omega
  refine Wr ?_
  refine Mv ?_
  refine Mv ?_
  refine Mv ?_
  refine Ly (Y_sub rfl rfl (by omega) (by omega)) ?_
  refine Mv ?_
  refine Mv ?_
  refine Ly (Y_add rfl rfl (by omega) (by omega)) ?_
  refine Mv ?_
  refine Ly (Y_sub rfl rfl (by omega) (by omega)) ?_
  refine Mv ?_
  refine Mv ?_
  refine L_call (E_call (by kernel_rfl) rfl) (sort_swapRange _ B N Lc pd hb1 (m - (i : Int)) ((m + (j : Int)) - (i : Int)) (i : Int) (by first | omega | rfl | (simp <;> omega)) (by first | omega | rfl | (simp <;> omega)) (by first | omega | rfl | (simp <;> omega)) (by first | omega | rfl | (simp <;> omega)) (by first | omega | rfl | (simp <;> omega)) (by first | omega | rfl | (simp <;> omega)) (by first | omega | rfl | (simp <;> omega)) (by first | omega | rfl | (simp <;> omega))) rfl rfl rfl ?_
  rintro _ h3 ⟨rfl, hx3, hb4⟩
  refine Nx ?_
  refine W_sub _ (tk5 0 2 4 10 11) ?_
  refine W_region ?_
  refine Mv ?_
  refine Mv ?_
  refine Ly (Y_sub rfl rfl (by omega) (by omega)) ?_
  refine Av ?_
  refine L_nil (X_block ?_)
  refine X_loop ((f - 1, i, j - i, (swr Lc (m - (i : Int)).toNat ((m + (j : Int)) - (i : Int)).toNat (i : Int).toNat))) (sk4 0 2 4 10 rfl rfl rfl rfl (sk1 11 (lki rfl (by omega)) sN)) ?_ ?_
  ·exact ⟨hi, by omega, by omega, him, by omega, by simp [hLl], by rw [show (m - (i : Int)).toNat = m.toNat - i by omega, show (m + (j : Int) - (i : Int)).toNat = m.toNat + j - i by omega]; exact (rotf_lt (by omega) (by omega)).symm.trans hT, (Only.trans (Only.trans (Only.refl _ _) hx (fun _ hb_ => .inl hb_)) hx3 (fun _ hb_ => .inl hb_)), hb4⟩
  (try dsimp only)
  omega
 refine W_exit ?_
 refine X_then_exit (X_then_exit ?_)
 refine X_block_hit ?_
 refine X_then ?_
 refine W_sub _ (tk4 0 2 4 10) ?_
 refine W_region ?_
 refine Mv ?_
 refine Mv ?_
 refine Mv ?_
 refine Ly (Y_sub rfl rfl (by omega) (by omega)) ?_
 refine Mv ?_
 refine Mv ?_
 refine Mv ?_
 refine L_call (E_call (by kernel_rfl) rfl) (sort_swapRange _ B N Lc pd hb1 (m - (i : Int)) m (i : Int) (by first | omega | rfl | (simp <;> omega)) (by first | omega | rfl | (simp <;> omega)) (by first | omega | rfl | (simp <;> omega)) (by first | omega | rfl | (simp <;> omega)) (by first | omega | rfl | (simp <;> omega)) (by first | omega | rfl | (simp <;> omega)) (by first | omega | rfl | (simp <;> omega)) (by first | omega | rfl | (simp <;> omega))) rfl rfl rfl ?_
 rintro _ h4 ⟨rfl, hx5, hb6⟩
 refine L_nil ?_
 refine X_end ?_
 refine X_end0 rfl ?_
 obtain rfl : i = j := by omega
 refine ⟨rfl, (Only.trans (Only.trans (Only.refl _ _) hx (fun _ hb_ => .inl hb_)) hx5 (fun _ hb_ => .inl hb_)), RBuf.congr hb6 ?_⟩
 rw [show (m - (i : Int)).toNat = m.toNat - i by omega]; exact (rotf_eq (by omega)).symm.trans hT

theorem insf_yes {a j : Nat} {L : List Nod} (h1 : a < j) (h2 : nlt (at_nod L j) (at_nod L (j - 1))) : insf a j L = insf a (j - 1) (swp L j (j - 1)) := by
  obtain ⟨g, rfl⟩ : ∃ g, j = g + 1 := ⟨j - 1, by omega⟩
  conv => lhs; unfold insf
  rw [if_pos ⟨h1, h2⟩]; rfl
theorem insf_no {a j : Nat} {L : List Nod} (h : ¬ (a < j ∧ nlt (at_nod L j) (at_nod L (j - 1)))) : insf a j L = L := by
  cases j with
  | zero => rfl
  | succ g => unfold insf; exact if_neg h
theorem iso_step {a i n : Nat} {L : List Nod} (h : 0 < n) : iso a i n L = iso a (i + 1) (n - 1) (insf a i L) := by
  obtain ⟨g, rfl⟩ : ∃ g, n = g + 1 := ⟨n - 1, by omega⟩
  rfl

set_option maxRecDepth 100000 in
theorem sort_insertion (h : Heap) (B : Nat) (N : Nat) (L : List Nod) (pd : Nat → Prop) (hb : RBuf nodS h B pd L) (a : Int) (b : Int) (hpB : ¬ pd B) (hN : N = L.length) (hm : L.length ≤ 1000000000000) (ha : 0 ≤ a) (h1 : a ≤ b) (h3 : b ≤ L.length) : Cal Tryd.prog 74 #[.slice (some ⟨B, 0, none⟩) N N, .int .i64 (a), .int .i64 (b), .func (.func 54) #[] #[]] h (fun v h' => v = .tuple #[] ∧ Only [B] h h' ∧ RBuf nodS h' B pd (isort L a.toNat b.toNat)) := by
 refine Cal_enter (args := [.slice (some ⟨B, 0, none⟩) N N, .int .i64 (a), .int .i64 (b), .func (.func 54) #[] #[]]) Tryd.func74 rfl rfl rfl (fun σ => ?_)
 refine Wr ?_
 refine Mv ?_
 refine Ly (Y_add rfl rfl (by omega) (by omega)) ?_
 refine Av ?_
 refine Nx ?_
 refine W_sub _ (tk5 8 0 1 2 3) ?_
 refine W_block ?_
 refine W_loop (S := Nat × List Nod) (fun (i, Lc) => [(0, .slice (some ⟨B, 0, none⟩) N N), (1, .int .i64 (a)), (2, .int .i64 (b)), (3, .func (.func 54) #[] #[]), (8, .int .i64 ((i : Int)))]) (fun (i, Lc) h' => a + 1 ≤ (i : Int) ∧ Lc.length = L.length ∧ iso a.toNat i (b.toNat - i) Lc = isort L a.toNat b.toNat ∧ Only [B] h h' ∧ RBuf nodS h' B pd Lc) (fun (i, Lc) => b.toNat - i) ((a + 1).toNat, L) (sk4 0 1 2 3 rfl rfl rfl rfl (sk1 8 (lki rfl (by omega)) sN)) ?_ ?_
 ·exact ⟨by omega, rfl, by unfold isort; congr 1 <;> omega, (Only.refl _ _), hb⟩
 rintro ⟨i, Lc⟩ h1 ⟨hi, hLl, hT, hx, hb1⟩
 show W _ _ _ _ _ [(0, .slice (some ⟨B, 0, none⟩) N N), (1, .int .i64 (a)), (2, .int .i64 (b)), (3, .func (.func 54) #[] #[]), (8, .int .i64 ((i : Int)))] _
 refine W_seq (W_seq (W_region ?_))
 refine Mv ?_
 refine Mv ?_
 refine Ly (Y_lss rfl rfl) ?_
 refine Nx ?_
 refine W_sub _ (tk6 14 0 1 2 3 8) ?_
 refine W_splitd rfl (fun c => ?_) (fun c => ?_)
 ·refine Ws ?_
  refine W_sub _ (tk5 0 1 2 3 8) ?_
  refine W_seq (W_block (W_seq (W_region ?_)))
  refine Mv ?_
  refine Av ?_
  refine Nx ?_
  refine W_sub _ (tk6 9 0 1 2 3 8) ?_
  refine W_block ?_
  refine W_loop (S := Nat × List Nod) (fun (j, Ld) => [(0, .slice (some ⟨B, 0, none⟩) N N), (1, .int .i64 (a)), (2, .int .i64 (b)), (3, .func (.func 54) #[] #[]), (8, .int .i64 ((i : Int))), (9, .int .i64 ((j : Int)))]) (fun (j, Ld) h' => a ≤ (j : Int) ∧ (j : Int) < b ∧ Ld.length = L.length ∧ insf a.toNat j Ld = insf a.toNat i Lc ∧ Only [B] h h' ∧ RBuf nodS h' B pd Ld) (fun (j, Ld) => j) (i, Lc) (tk6 0 1 2 3 8 9) ?_ ?_
  ·exact ⟨by omega, by omega, hLl, rfl, (Only.trans (Only.refl _ _) hx (fun _ hb_ => .inl hb_)), hb1⟩
  rintro ⟨j, Ld⟩ h2 ⟨hj, hjb, hLd, hTj, hx2, hb2⟩
  show W _ _ _ _ _ [(0, .slice (some ⟨B, 0, none⟩) N N), (1, .int .i64 (a)), (2, .int .i64 (b)), (3, .func (.func 54) #[] #[]), (8, .int .i64 ((i : Int))), (9, .int .i64 ((j : Int)))] _
  refine W_seq (W_seq ?_)
  by_cases hja : a < (j : Int)
  ·refine W_pers [(0, .slice (some ⟨B, 0, none⟩) N N), (1, .int .i64 (a)), (2, .int .i64 (b)), (3, .func (.func 54) #[] #[]), (8, .int .i64 ((i : Int))), (9, .int .i64 ((j : Int)))] (tk6 0 1 2 3 8 9) (by kernel_rfl) ?_
   refine LP_op 0 (fun _ vv => .int .i64 ((j : Int)) = vv) [] rfl rfl (by kernel_rfl) (fun _ _ _ _ p => p) ?_ ?_
   ·intro h3 hx1
    refine Needs_nil ?_
    refine Stp_yld (Y_move rfl) rfl ?_
    exact rfl
   refine LP_op 1 (fun _ vv => .int .i64 (a) = vv) [] rfl rfl (by kernel_rfl) (fun _ _ _ _ p => p) ?_ ?_
   ·intro h4 hx2
    refine Needs_nil ?_
    refine Stp_yld (Y_move rfl) rfl ?_
    exact rfl
   refine LP_op 2 (fun _ vv => .bool (decide (a < (j : Int))) = vv) [(0, 18), (1, 19)] rfl rfl (by kernel_rfl) (fun _ _ _ _ p => p) ?_ ?_
   ·intro h5 hx3
    rintro _ rfl
    rintro _ rfl
    refine Needs_nil ?_
    refine Stp_yld (Y_gtr rfl rfl) rfl ?_
    exact rfl
   refine LP_op 3 (fun _ vv => .bool true = vv) [(2, 20)] rfl rfl (by kernel_rfl) (fun _ _ _ _ p => p) ?_ ?_
   ·intro h6 hx4
    rintro _ rfl
    refine Needs_nil ?_
    refine Stp_yld (Y_move rfl) rfl ?_
    exact (congrArg Value.bool (decide_eq_true (by exact hja))).symm
   refine LP_op 4 (fun _ vv => .func (.func 54) #[] #[] = vv) [(3, 21)] rfl rfl (by kernel_rfl) (fun _ _ _ _ p => p) ?_ ?_
   ·intro h7 hx5
    rintro _ rfl
    refine Needs_nil ?_
    refine Stp_yld (Y_move rfl) rfl ?_
    exact rfl
   refine LP_op 5 (fun _ vv => .slice (some ⟨B, 0, none⟩) N N = vv) [(3, 21)] rfl rfl (by kernel_rfl) (fun _ _ _ _ p => p) ?_ ?_
   ·intro h8 hx6
    rintro _ rfl
    refine Needs_nil ?_
    refine Stp_yld (Y_move rfl) rfl ?_
    exact rfl
   refine LP_op 6 (fun _ vv => .int .i64 ((j : Int)) = vv) [(3, 21)] rfl rfl (by kernel_rfl) (fun _ _ _ _ p => p) ?_ ?_
   ·intro h9 hx7
    rintro _ rfl
    refine Needs_nil ?_
    refine Stp_yld (Y_move rfl) rfl ?_
    exact rfl
   refine LP_op 7 (fun _ vv => .pointer (some (elemAddr (.slice (some ⟨B, 0, none⟩) N N) (((j : Int)).toNat * 6))) = vv) [(6, 24), (3, 21), (5, 23)] rfl rfl (by kernel_rfl) (fun _ _ _ _ p => p) ?_ ?_
   ·intro h10 hx8
    rintro _ rfl
    rintro _ rfl
    rintro _ rfl
    refine Needs_nil ?_
    refine Stp_yld (Y_idxB Tryd.underlying32 (show _ = some 6 by kernel_rfl) rfl rfl (by first | omega | (simp; omega)) (by first | omega | (simp; omega))) rfl ?_
    exact rfl
   refine LP_op 8 (fun _ vv => .agg #[.int .i64 ((at_nod Ld ((j : Int)).toNat).kind), str ((at_nod Ld ((j : Int)).toNat).path), .int .i64 ((at_nod Ld ((j : Int)).toNat).mode), str ((at_nod Ld ((j : Int)).toNat).target), ((at_nod Ld ((j : Int)).toNat).dv), .int .i64 ((at_nod Ld ((j : Int)).toNat).cls)] = vv) [(7, 25), (3, 21)] rfl rfl (by kernel_rfl) (fun _ _ _ _ p => p) ?_ ?_
   ·intro h11 hx9
    rintro _ rfl
    rintro _ rfl
    refine Needs_nil ?_
    refine Stp_yld (Y_ldrA0 (k := ((j : Int)).toNat) (us := [.int .i64 ((at_nod Ld ((j : Int)).toNat).kind), str ((at_nod Ld ((j : Int)).toNat).path), .int .i64 ((at_nod Ld ((j : Int)).toNat).mode), str ((at_nod Ld ((j : Int)).toNat).target), ((at_nod Ld ((j : Int)).toNat).dv), .int .i64 ((at_nod Ld ((j : Int)).toNat).cls)]) Tryd.underlying48 rfl (show _ = some 6 by kernel_rfl) rfl rfl ((hb2.ext hx9).rows (by first | omega | (simp [hN]; omega))) (by first | omega | (simp; omega)) rfl) rfl ?_
    exact rfl
   refine LP_op 9 (fun _ vv => .slice (some ⟨B, 0, none⟩) N N = vv) [(3, 21)] rfl rfl (by kernel_rfl) (fun _ _ _ _ p => p) ?_ ?_
   ·intro h12 hx10
    rintro _ rfl
    refine Needs_nil ?_
    refine Stp_yld (Y_move rfl) rfl ?_
    exact rfl
   refine LP_op 10 (fun _ vv => .int .i64 ((j : Int)) = vv) [(3, 21)] rfl rfl (by kernel_rfl) (fun _ _ _ _ p => p) ?_ ?_
   ·intro h13 hx11
    rintro _ rfl
    refine Needs_nil ?_
    refine Stp_yld (Y_move rfl) rfl ?_
    exact rfl
   refine LP_op 11 (fun _ vv => .int .i64 ((j : Int) - 1) = vv) [(10, 28), (3, 21)] rfl rfl (by kernel_rfl) (fun _ _ _ _ p => p) ?_ ?_
   ·intro h14 hx12
    rintro _ rfl
    rintro _ rfl
    refine Needs_nil ?_
    refine Stp_yld (Y_sub rfl rfl (by omega) (by omega)) rfl ?_
    exact rfl
   refine LP_op 12 (fun _ vv => .pointer (some (elemAddr (.slice (some ⟨B, 0, none⟩) N N) (((j : Int) - 1).toNat * 6))) = vv) [(3, 21), (9, 27), (11, 29)] rfl rfl (by kernel_rfl) (fun _ _ _ _ p => p) ?_ ?_
   ·intro h15 hx13
    rintro _ rfl
    rintro _ rfl
    rintro _ rfl
    refine Needs_nil ?_
    refine Stp_yld (Y_idxB Tryd.underlying32 (show _ = some 6 by kernel_rfl) rfl rfl (by first | omega | (simp; omega)) (by first | omega | (simp; omega))) rfl ?_
    exact rfl
   refine LP_op 13 (fun _ vv => .agg #[.int .i64 ((at_nod Ld ((j : Int) - 1).toNat).kind), str ((at_nod Ld ((j : Int) - 1).toNat).path), .int .i64 ((at_nod Ld ((j : Int) - 1).toNat).mode), str ((at_nod Ld ((j : Int) - 1).toNat).target), ((at_nod Ld ((j : Int) - 1).toNat).dv), .int .i64 ((at_nod Ld ((j : Int) - 1).toNat).cls)] = vv) [(3, 21), (12, 30)] rfl rfl (by kernel_rfl) (fun _ _ _ _ p => p) ?_ ?_
   ·intro h16 hx14
    rintro _ rfl
    rintro _ rfl
    refine Needs_nil ?_
    refine Stp_yld (Y_ldrA0 (k := ((j : Int) - 1).toNat) (us := [.int .i64 ((at_nod Ld ((j : Int) - 1).toNat).kind), str ((at_nod Ld ((j : Int) - 1).toNat).path), .int .i64 ((at_nod Ld ((j : Int) - 1).toNat).mode), str ((at_nod Ld ((j : Int) - 1).toNat).target), ((at_nod Ld ((j : Int) - 1).toNat).dv), .int .i64 ((at_nod Ld ((j : Int) - 1).toNat).cls)]) Tryd.underlying48 rfl (show _ = some 6 by kernel_rfl) rfl rfl ((hb2.ext hx14).rows (by first | omega | (simp [hN]; omega))) (by first | omega | (simp; omega)) rfl) rfl ?_
    exact rfl
   refine LP_op 14 (fun _ vv => .int .i64 (pcmp (at_nod Ld ((j : Int)).toNat).path (at_nod Ld ((j : Int) - 1).toNat).path) = vv) [(8, 26), (3, 21), (4, 22), (13, 31)] rfl rfl (by kernel_rfl) (fun _ _ _ _ p => p) ?_ ?_
   ·intro h17 hx15
    rintro _ rfl
    rintro _ rfl
    rintro _ rfl
    rintro _ rfl
    refine Needs_nil ?_
    refine Stp_call (E_callv (fs := []) (cs := []) (by kernel_rfl) rfl rfl) (canon_cmp _ (at_nod Ld ((j : Int)).toNat) (show Bytes _ ((at_nod Ld ((j : Int)).toNat).dv) ((at_nod Ld ((j : Int)).toNat).data) from ((hb2.ext hx15).okp (k := ((j : Int)).toNat) (by first | omega | (simp; omega))).1) (at_nod Ld ((j : Int) - 1).toNat) (show Bytes _ ((at_nod Ld ((j : Int) - 1).toNat).dv) ((at_nod Ld ((j : Int) - 1).toNat).data) from ((hb2.ext hx15).okp (k := ((j : Int) - 1).toNat) (by first | omega | (simp; omega))).1)) rfl ?_
    rintro _ h18 ⟨rfl, hx16⟩
    exact ⟨hx16, rfl⟩
   refine LP_op 15 (fun _ vv => .bool (decide ((pcmp (at_nod Ld ((j : Int)).toNat).path (at_nod Ld ((j : Int) - 1).toNat).path) < 0)) = vv) [(14, 32), (3, 21)] rfl rfl (by kernel_rfl) (fun _ _ _ _ p => p) ?_ ?_
   ·intro h19 hx17
    rintro _ rfl
    rintro _ rfl
    refine Needs_nil ?_
    refine Stp_yld (Y_lss rfl rfl) rfl ?_
    exact rfl
   refine LP_op 16 (fun _ vv => .bool (decide ((pcmp (at_nod Ld ((j : Int)).toNat).path (at_nod Ld ((j : Int) - 1).toNat).path) < 0)) = vv) [(15, 33), (3, 21)] rfl rfl (by kernel_rfl) (fun _ _ _ _ p => p) ?_ ?_
   ·intro h20 hx18
    rintro _ rfl
    rintro _ rfl
    refine Needs_nil ?_
    refine Stp_yld (Y_pick_t rfl rfl) rfl ?_
    exact rfl
   refine LP_end [(16, 34)] rfl (by kernel_rfl) rfl ?_
   intro h21 hx19
   rintro _ rfl
   refine Needs_nil ?_
   refine X_then ?_
   refine W_splitd rfl (fun d => ?_) (fun d => ?_)
   ·refine Ws ?_
    refine W_sub _ (tk6 0 1 2 3 8 9) ?_
    refine W_seq (W_block ?_)
    refine W_held (fun _ => True) 18 rfl (by kernel_rfl) ?_
    refine LH_take (i := 0) rfl (fun h_ hI_ => Y_move rfl) rfl rfl rfl (by kernel_rfl) (by kernel_rfl) (by kernel_rfl) (fun _ _ _ => by rintro ⟨_, _, h_, _⟩; cases h_) trivial ?_
    refine LH_take (i := 1) rfl (fun h_ hI_ => Y_move rfl) rfl rfl rfl (by kernel_rfl) (by kernel_rfl) (by kernel_rfl) (fun _ _ _ => by rintro ⟨_, _, h_, _⟩; cases h_) trivial ?_
    refine LH_take (i := 2) rfl (fun h_ hI_ => Y_move rfl) rfl rfl rfl (by kernel_rfl) (by kernel_rfl) (by kernel_rfl) (fun _ _ _ => by rintro ⟨_, _, h_, _⟩; cases h_) trivial ?_
    refine LH_take (i := 3) rfl (fun h_ hI_ => Y_move rfl) rfl rfl rfl (by kernel_rfl) (by kernel_rfl) (by kernel_rfl) (fun _ _ _ => by rintro ⟨_, _, h_, _⟩; cases h_) trivial ?_
    refine LH_take (i := 4) rfl (fun h_ hI_ => Y_sub rfl rfl (by omega) (by omega)) rfl rfl rfl (by kernel_rfl) (by kernel_rfl) (by kernel_rfl) (fun _ _ _ => by rintro ⟨_, _, h_, _⟩; cases h_) trivial ?_
    refine LH_take (i := 5) rfl (fun h_ hI_ => Y_move rfl) rfl rfl rfl (by kernel_rfl) (by kernel_rfl) (by kernel_rfl) (fun _ _ _ => by rintro ⟨_, _, h_, _⟩; cases h_) trivial ?_
    refine LH_take (i := 6) rfl (fun h_ hI_ => Y_move rfl) rfl rfl rfl (by kernel_rfl) (by kernel_rfl) (by kernel_rfl) (fun _ _ _ => by rintro ⟨_, _, h_, _⟩; cases h_) trivial ?_
    refine LH_take (i := 7) rfl (fun h_ hI_ => Y_sub rfl rfl (by omega) (by omega)) rfl rfl rfl (by kernel_rfl) (by kernel_rfl) (by kernel_rfl) (fun _ _ _ => by rintro ⟨_, _, h_, _⟩; cases h_) trivial ?_
    refine LH_take (i := 8) rfl (fun h_ hI_ => Y_idxB Tryd.underlying32 (show _ = some 6 by kernel_rfl) rfl rfl (by first | omega | (simp; omega)) (by first | omega | (simp; omega))) rfl rfl rfl (by kernel_rfl) (by kernel_rfl) (by kernel_rfl) (fun _ _ _ => by rintro ⟨_, _, h_, _⟩; cases h_) trivial ?_
    refine LH_take (i := 10) rfl (fun h_ hI_ => Y_move rfl) rfl rfl rfl (by kernel_rfl) (by kernel_rfl) (by kernel_rfl) (fun _ _ _ => by rintro ⟨_, _, h_, _⟩; cases h_) trivial ?_
    refine LH_take (i := 11) rfl (fun h_ hI_ => Y_move rfl) rfl rfl rfl (by kernel_rfl) (by kernel_rfl) (by kernel_rfl) (fun _ _ _ => by rintro ⟨_, _, h_, _⟩; cases h_) trivial ?_
    refine LH_take (i := 12) rfl (fun h_ hI_ => Y_idxB Tryd.underlying32 (show _ = some 6 by kernel_rfl) rfl rfl (by first | omega | (simp; omega)) (by first | omega | (simp; omega))) rfl rfl rfl (by kernel_rfl) (by kernel_rfl) (by kernel_rfl) (fun _ _ _ => by rintro ⟨_, _, h_, _⟩; cases h_) trivial ?_
    refine LH_two (i := 9) (j := 13) (by kernel_rfl) ?_ ?_
    ·have hq20 : Okp nodS h21 pd (at_nod Ld ((j : Int) - 1).toNat) := (hb2.ext hx19).okp (by first | omega | (simp; omega))
     refine LO_yld (i := 9) rfl (Y_ldrA0 (k := ((j : Int) - 1).toNat) (us := [.int .i64 ((at_nod Ld ((j : Int) - 1).toNat).kind), str ((at_nod Ld ((j : Int) - 1).toNat).path), .int .i64 ((at_nod Ld ((j : Int) - 1).toNat).mode), str ((at_nod Ld ((j : Int) - 1).toNat).target), ((at_nod Ld ((j : Int) - 1).toNat).dv), .int .i64 ((at_nod Ld ((j : Int) - 1).toNat).cls)]) Tryd.underlying48 rfl (show _ = some 6 by kernel_rfl) rfl rfl ((hb2.ext hx19).rows (by first | omega | (simp [hN]; omega))) (by first | omega | (simp; omega)) rfl) rfl rfl rfl trivial ?_
     refine LH_one (i := 13) (by kernel_rfl) ?_
     have hq21 : Okp nodS h21 pd (at_nod Ld ((j : Int)).toNat) := (hb2.ext hx19).okp (by first | omega | (simp; omega))
     refine LO_yld (i := 13) rfl (Y_ldrA0 (k := ((j : Int)).toNat) (us := [.int .i64 ((at_nod Ld ((j : Int)).toNat).kind), str ((at_nod Ld ((j : Int)).toNat).path), .int .i64 ((at_nod Ld ((j : Int)).toNat).mode), str ((at_nod Ld ((j : Int)).toNat).target), ((at_nod Ld ((j : Int)).toNat).dv), .int .i64 ((at_nod Ld ((j : Int)).toNat).cls)]) Tryd.underlying48 rfl (show _ = some 6 by kernel_rfl) rfl rfl ((hb2.ext hx19).rows (by first | omega | (simp [hN]; omega))) (by first | omega | (simp; omega)) rfl) rfl rfl rfl trivial ?_
     refine LH_take (i := 14) rfl (fun h_ hI_ => Y_idxB Tryd.underlying32 (show _ = some 6 by kernel_rfl) rfl rfl (by first | omega | (simp; omega)) (by first | omega | (simp; omega))) rfl rfl rfl (by kernel_rfl) (by kernel_rfl) (by kernel_rfl) (fun _ _ _ => by rintro ⟨_, _, h_, _⟩; cases h_) trivial ?_
     refine LH_one (i := 15) (by kernel_rfl) ?_
     refine LO_dos (i := 15) rfl (D_rsetA (S := nodS) (us := [.int .i64 ((at_nod Ld ((j : Int) - 1).toNat).kind), str ((at_nod Ld ((j : Int) - 1).toNat).path), .int .i64 ((at_nod Ld ((j : Int) - 1).toNat).mode), str ((at_nod Ld ((j : Int) - 1).toNat).target), ((at_nod Ld ((j : Int) - 1).toNat).dv), .int .i64 ((at_nod Ld ((j : Int) - 1).toNat).cls)]) (a := (at_nod Ld ((j : Int) - 1).toNat)) (k := ((j : Int)).toNat) (show _ = some 6 by kernel_rfl) rfl rfl rfl rfl (hb2.ext hx19) (by first | omega | (simp; omega)) rfl hq20.1 hq20.2 hpB) rfl rfl ?_
     rintro h22 ⟨hx22, -, hb23⟩
     refine ⟨trivial, ?_⟩
     refine LH_take (i := 16) rfl (fun h_ hI_ => Y_idxB Tryd.underlying32 (show _ = some 6 by kernel_rfl) rfl rfl (by first | omega | (simp; omega)) (by first | omega | (simp; omega))) rfl rfl rfl (by kernel_rfl) (by kernel_rfl) (by kernel_rfl) (fun _ _ _ => by rintro ⟨_, _, h_, _⟩; cases h_) trivial ?_
     refine LH_one (i := 17) (by kernel_rfl) ?_
     have hc26 := (hq21.only hx22 hpB)
     refine LO_dos (i := 17) rfl (D_rsetA (S := nodS) (us := [.int .i64 ((at_nod Ld ((j : Int)).toNat).kind), str ((at_nod Ld ((j : Int)).toNat).path), .int .i64 ((at_nod Ld ((j : Int)).toNat).mode), str ((at_nod Ld ((j : Int)).toNat).target), ((at_nod Ld ((j : Int)).toNat).dv), .int .i64 ((at_nod Ld ((j : Int)).toNat).cls)]) (a := (at_nod Ld ((j : Int)).toNat)) (k := ((j : Int) - 1).toNat) (show _ = some 6 by kernel_rfl) rfl rfl rfl rfl hb23 (by first | omega | (simp; omega)) rfl hc26.1 hc26.2 hpB) rfl rfl ?_
     rintro h23 ⟨hx24, -, hb25⟩
     refine ⟨trivial, ?_⟩
     refine LH_done (by kernel_rfl) ?_
     refine X_block (X_then ?_)
     refine W_sub _ (tk6 0 1 2 3 8 9) ?_
     refine W_region ?_
     refine Mv ?_
     refine Ly (Y_sub rfl rfl (by omega) (by omega)) ?_
     refine Av ?_
     refine L_nil ?_
     refine X_loop ((j - 1, ((Ld.set (((j : Int)).toNat) (at_nod Ld ((j : Int) - 1).toNat)).set (((j : Int) - 1).toNat) (at_nod Ld ((j : Int)).toNat)))) (sk5 0 1 2 3 8 rfl rfl rfl rfl rfl (sk1 9 (lki rfl (by omega)) sN)) ?_ ?_
     ·exact ⟨by omega, by omega, by simp [hLd], by rw [show ((j : Int) - 1).toNat = j - 1 by omega] at d ⊢; exact (insf_yes (by omega) d).symm.trans hTj, (Only.trans (Only.trans (Only.trans (Only.trans (Only.refl _ _) hx2 (fun _ hb_ => .inl hb_)) hx19 (fun _ hb_ => by cases hb_)) hx22 (fun _ hb_ => .inl hb_)) hx24 (fun _ hb_ => .inl hb_)), hb25⟩
     (try dsimp only)
     omega
    have hq27 : Okp nodS h21 pd (at_nod Ld ((j : Int)).toNat) := (hb2.ext hx19).okp (by first | omega | (simp; omega))
    refine LO_yld (i := 13) rfl (Y_ldrA0 (k := ((j : Int)).toNat) (us := [.int .i64 ((at_nod Ld ((j : Int)).toNat).kind), str ((at_nod Ld ((j : Int)).toNat).path), .int .i64 ((at_nod Ld ((j : Int)).toNat).mode), str ((at_nod Ld ((j : Int)).toNat).target), ((at_nod Ld ((j : Int)).toNat).dv), .int .i64 ((at_nod Ld ((j : Int)).toNat).cls)]) Tryd.underlying48 rfl (show _ = some 6 by kernel_rfl) rfl rfl ((hb2.ext hx19).rows (by first | omega | (simp [hN]; omega))) (by first | omega | (simp; omega)) rfl) rfl rfl rfl trivial ?_
    refine LH_one (i := 9) (by kernel_rfl) ?_
    have hq28 : Okp nodS h21 pd (at_nod Ld ((j : Int) - 1).toNat) := (hb2.ext hx19).okp (by first | omega | (simp; omega))
    refine LO_yld (i := 9) rfl (Y_ldrA0 (k := ((j : Int) - 1).toNat) (us := [.int .i64 ((at_nod Ld ((j : Int) - 1).toNat).kind), str ((at_nod Ld ((j : Int) - 1).toNat).path), .int .i64 ((at_nod Ld ((j : Int) - 1).toNat).mode), str ((at_nod Ld ((j : Int) - 1).toNat).target), ((at_nod Ld ((j : Int) - 1).toNat).dv), .int .i64 ((at_nod Ld ((j : Int) - 1).toNat).cls)]) Tryd.underlying48 rfl (show _ = some 6 by kernel_rfl) rfl rfl ((hb2.ext hx19).rows (by first | omega | (simp [hN]; omega))) (by first | omega | (simp; omega)) rfl) rfl rfl rfl trivial ?_
    refine LH_take (i := 14) rfl (fun h_ hI_ => Y_idxB Tryd.underlying32 (show _ = some 6 by kernel_rfl) rfl rfl (by first | omega | (simp; omega)) (by first | omega | (simp; omega))) rfl rfl rfl (by kernel_rfl) (by kernel_rfl) (by kernel_rfl) (fun _ _ _ => by rintro ⟨_, _, h_, _⟩; cases h_) trivial ?_
    refine LH_one (i := 15) (by kernel_rfl) ?_
    refine LO_dos (i := 15) rfl (D_rsetA (S := nodS) (us := [.int .i64 ((at_nod Ld ((j : Int) - 1).toNat).kind), str ((at_nod Ld ((j : Int) - 1).toNat).path), .int .i64 ((at_nod Ld ((j : Int) - 1).toNat).mode), str ((at_nod Ld ((j : Int) - 1).toNat).target), ((at_nod Ld ((j : Int) - 1).toNat).dv), .int .i64 ((at_nod Ld ((j : Int) - 1).toNat).cls)]) (a := (at_nod Ld ((j : Int) - 1).toNat)) (k := ((j : Int)).toNat) (show _ = some 6 by kernel_rfl) rfl rfl rfl rfl (hb2.ext hx19) (by first | omega | (simp; omega)) rfl hq28.1 hq28.2 hpB) rfl rfl ?_
    rintro h24 ⟨hx29, -, hb30⟩
    refine ⟨trivial, ?_⟩
    refine LH_take (i := 16) rfl (fun h_ hI_ => Y_idxB Tryd.underlying32 (show _ = some 6 by kernel_rfl) rfl rfl (by first | omega | (simp; omega)) (by first | omega | (simp; omega))) rfl rfl rfl (by kernel_rfl) (by kernel_rfl) (by kernel_rfl) (fun _ _ _ => by rintro ⟨_, _, h_, _⟩; cases h_) trivial ?_
    refine LH_one (i := 17) (by kernel_rfl) ?_
    have hc33 := (hq27.only hx29 hpB)
    refine LO_dos (i := 17) rfl (D_rsetA (S := nodS) (us := [.int .i64 ((at_nod Ld ((j : Int)).toNat).kind), str ((at_nod Ld ((j : Int)).toNat).path), .int .i64 ((at_nod Ld ((j : Int)).toNat).mode), str ((at_nod Ld ((j : Int)).toNat).target), ((at_nod Ld ((j : Int)).toNat).dv), .int .i64 ((at_nod Ld ((j : Int)).toNat).cls)]) (a := (at_nod Ld ((j : Int)).toNat)) (k := ((j : Int) - 1).toNat) (show _ = some 6 by kernel_rfl) rfl rfl rfl rfl hb30 (by first | omega | (simp; omega)) rfl hc33.1 hc33.2 hpB) rfl rfl ?_
    rintro h25 ⟨hx31, -, hb32⟩
    refine ⟨trivial, ?_⟩
    refine LH_done (by kernel_rfl) ?_
    refine X_block (X_then ?_)
    refine W_sub _ (tk6 0 1 2 3 8 9) ?_
    refine W_region ?_
    refine Mv ?_
    refine Ly (Y_sub rfl rfl (by omega) (by omega)) ?_
    refine Av ?_
    refine L_nil ?_
    refine X_loop ((j - 1, ((Ld.set (((j : Int)).toNat) (at_nod Ld ((j : Int) - 1).toNat)).set (((j : Int) - 1).toNat) (at_nod Ld ((j : Int)).toNat)))) (sk5 0 1 2 3 8 rfl rfl rfl rfl rfl (sk1 9 (lki rfl (by omega)) sN)) ?_ ?_
    ·exact ⟨by omega, by omega, by simp [hLd], by rw [show ((j : Int) - 1).toNat = j - 1 by omega] at d ⊢; exact (insf_yes (by omega) d).symm.trans hTj, (Only.trans (Only.trans (Only.trans (Only.trans (Only.refl _ _) hx2 (fun _ hb_ => .inl hb_)) hx19 (fun _ hb_ => by cases hb_)) hx29 (fun _ hb_ => .inl hb_)) hx31 (fun _ hb_ => .inl hb_)), hb32⟩
    (try dsimp only)
    omega
   refine W_exit ?_
   refine X_then_exit (X_then_exit ?_)
   refine X_block_hit ?_
   refine X_block (X_then ?_)
   refine W_sub _ (tk5 0 1 2 3 8) ?_
   refine W_region ?_
   refine Mv ?_
   refine Ly (Y_add rfl rfl (by omega) (by omega)) ?_
   refine Av ?_
   refine L_nil ?_
   refine X_loop ((i + 1, Ld)) (tk5 0 1 2 3 8) ?_ ?_
   ·exact ⟨by omega, hLd, by rw [show ((j : Int) - 1).toNat = j - 1 by omega] at d; have e := insf_no (a := a.toNat) (j := j) (L := Ld) (fun q => d q.2); have e2 := (iso_step (a := a.toNat) (i := i) (L := Lc) (n := b.toNat - i) (by omega)).symm.trans hT; rw [← hTj, e] at e2; rw [show b.toNat - (i + 1) = b.toNat - i - 1 by omega]; exact e2, (Only.trans (Only.trans (Only.refl _ _) hx2 (fun _ hb_ => .inl hb_)) hx19 (fun _ hb_ => by cases hb_)), (hb2.ext hx19)⟩
   (try dsimp only)
   omega
  refine W_pers [(0, .slice (some ⟨B, 0, none⟩) N N), (1, .int .i64 (a)), (2, .int .i64 (b)), (3, .func (.func 54) #[] #[]), (8, .int .i64 ((i : Int))), (9, .int .i64 ((j : Int)))] (tk6 0 1 2 3 8 9) (by kernel_rfl) ?_
  refine LP_op 0 (fun _ vv => .int .i64 ((j : Int)) = vv) [] rfl rfl (by kernel_rfl) (fun _ _ _ _ p => p) ?_ ?_
  ·intro h26 hx34
   refine Needs_nil ?_
   refine Stp_yld (Y_move rfl) rfl ?_
   exact rfl
  refine LP_op 1 (fun _ vv => .int .i64 (a) = vv) [] rfl rfl (by kernel_rfl) (fun _ _ _ _ p => p) ?_ ?_
  ·intro h27 hx35
   refine Needs_nil ?_
   refine Stp_yld (Y_move rfl) rfl ?_
   exact rfl
  refine LP_op 2 (fun _ vv => .bool (decide (a < (j : Int))) = vv) [(0, 18), (1, 19)] rfl rfl (by kernel_rfl) (fun _ _ _ _ p => p) ?_ ?_
  ·intro h28 hx36
   rintro _ rfl
   rintro _ rfl
   refine Needs_nil ?_
   refine Stp_yld (Y_gtr rfl rfl) rfl ?_
   exact rfl
  refine LP_op 3 (fun _ vv => .bool false = vv) [(2, 20)] rfl rfl (by kernel_rfl) (fun _ _ _ _ p => p) ?_ ?_
  ·intro h29 hx37
   rintro _ rfl
   refine Needs_nil ?_
   refine Stp_yld (Y_move rfl) rfl ?_
   exact (congrArg Value.bool (decide_eq_false (by exact hja))).symm
  refine LP_op 4 (fun _ vv => undef = vv) [(3, 21)] rfl rfl (by kernel_rfl) (fun _ _ _ _ p => p) ?_ ?_
  ·intro h30 hx38
   rintro _ rfl
   refine Needs_nil ?_
   refine Stp_skip rfl ?_
   exact rfl
  refine LP_op 5 (fun _ vv => undef = vv) [(3, 21)] rfl rfl (by kernel_rfl) (fun _ _ _ _ p => p) ?_ ?_
  ·intro h31 hx39
   rintro _ rfl
   refine Needs_nil ?_
   refine Stp_skip rfl ?_
   exact rfl
  refine LP_op 6 (fun _ vv => undef = vv) [(3, 21)] rfl rfl (by kernel_rfl) (fun _ _ _ _ p => p) ?_ ?_
  ·intro h32 hx40
   rintro _ rfl
   refine Needs_nil ?_
   refine Stp_skip rfl ?_
   exact rfl
  refine LP_op 7 (fun _ vv => undef = vv) [(6, 24), (3, 21), (5, 23)] rfl rfl (by kernel_rfl) (fun _ _ _ _ p => p) ?_ ?_
  ·intro h33 hx41
   rintro _ rfl
   rintro _ rfl
   rintro _ rfl
   refine Needs_nil ?_
   refine Stp_skip rfl ?_
   exact rfl
  refine LP_op 8 (fun _ vv => undef = vv) [(7, 25), (3, 21)] rfl rfl (by kernel_rfl) (fun _ _ _ _ p => p) ?_ ?_
  ·intro h34 hx42
   rintro _ rfl
   rintro _ rfl
   refine Needs_nil ?_
   refine Stp_skip rfl ?_
   exact rfl
  refine LP_op 9 (fun _ vv => undef = vv) [(3, 21)] rfl rfl (by kernel_rfl) (fun _ _ _ _ p => p) ?_ ?_
  ·intro h35 hx43
   rintro _ rfl
   refine Needs_nil ?_
   refine Stp_skip rfl ?_
   exact rfl
  refine LP_op 10 (fun _ vv => undef = vv) [(3, 21)] rfl rfl (by kernel_rfl) (fun _ _ _ _ p => p) ?_ ?_
  ·intro h36 hx44
   rintro _ rfl
   refine Needs_nil ?_
   refine Stp_skip rfl ?_
   exact rfl
  refine LP_op 11 (fun _ vv => undef = vv) [(10, 28), (3, 21)] rfl rfl (by kernel_rfl) (fun _ _ _ _ p => p) ?_ ?_
  ·intro h37 hx45
   rintro _ rfl
   rintro _ rfl
   refine Needs_nil ?_
   refine Stp_skip rfl ?_
   exact rfl
  refine LP_op 12 (fun _ vv => undef = vv) [(3, 21), (9, 27), (11, 29)] rfl rfl (by kernel_rfl) (fun _ _ _ _ p => p) ?_ ?_
  ·intro h38 hx46
   rintro _ rfl
   rintro _ rfl
   rintro _ rfl
   refine Needs_nil ?_
   refine Stp_skip rfl ?_
   exact rfl
  refine LP_op 13 (fun _ vv => undef = vv) [(3, 21), (12, 30)] rfl rfl (by kernel_rfl) (fun _ _ _ _ p => p) ?_ ?_
  ·intro h39 hx47
   rintro _ rfl
   rintro _ rfl
   refine Needs_nil ?_
   refine Stp_skip rfl ?_
   exact rfl
  refine LP_op 14 (fun _ vv => undef = vv) [(8, 26), (3, 21), (4, 22), (13, 31)] rfl rfl (by kernel_rfl) (fun _ _ _ _ p => p) ?_ ?_
  ·intro h40 hx48
   rintro _ rfl
   rintro _ rfl
   rintro _ rfl
   rintro _ rfl
   refine Needs_nil ?_
   refine Stp_skip rfl ?_
   exact rfl
  refine LP_op 15 (fun _ vv => undef = vv) [(14, 32), (3, 21)] rfl rfl (by kernel_rfl) (fun _ _ _ _ p => p) ?_ ?_
  ·intro h41 hx49
   rintro _ rfl
   rintro _ rfl
   refine Needs_nil ?_
   refine Stp_skip rfl ?_
   exact rfl
  refine LP_op 16 (fun _ vv => .bool false = vv) [(15, 33), (3, 21)] rfl rfl (by kernel_rfl) (fun _ _ _ _ p => p) ?_ ?_
  ·intro h42 hx50
   rintro _ rfl
   rintro _ rfl
   refine Needs_nil ?_
   refine Stp_yld (Y_pick_f rfl rfl) rfl ?_
   exact rfl
  refine LP_end [(16, 34)] rfl (by kernel_rfl) rfl ?_
  intro h43 hx51
  rintro _ rfl
  refine Needs_nil ?_
  refine X_then ?_
  refine W_false rfl ?_
  refine W_exit ?_
  refine X_then_exit (X_then_exit ?_)
  refine X_block_hit ?_
  refine X_block (X_then ?_)
  refine W_sub _ (tk5 0 1 2 3 8) ?_
  refine W_region ?_
  refine Mv ?_
  refine Ly (Y_add rfl rfl (by omega) (by omega)) ?_
  refine Av ?_
  refine L_nil ?_
  refine X_loop ((i + 1, Ld)) (tk5 0 1 2 3 8) ?_ ?_
  ·exact ⟨by omega, hLd, by have e := insf_no (a := a.toNat) (j := j) (L := Ld) (fun q => hja (by omega)); have e2 := (iso_step (a := a.toNat) (i := i) (L := Lc) (n := b.toNat - i) (by omega)).symm.trans hT; rw [← hTj, e] at e2; rw [show b.toNat - (i + 1) = b.toNat - i - 1 by omega]; exact e2, (Only.trans (Only.trans (Only.refl _ _) hx2 (fun _ hb_ => .inl hb_)) hx51 (fun _ hb_ => by cases hb_)), (hb2.ext hx51)⟩
  (try dsimp only)
  omega
 refine W_exit ?_
 refine X_then_exit (X_then_exit ?_)
 refine X_block_hit ?_
 refine X_end ?_
 refine X_end0 rfl ?_
 refine ⟨rfl, (Only.trans (Only.refl _ _) hx (fun _ hb_ => .inl hb_)), RBuf.congr hb1 ?_⟩
 rw [← hT, show b.toNat - i = 0 by omega]; rfl

end Go.Xp
