/- The library's stable sort of nodes: comparison, swaps, rotation, insertion sort: what the code does, step by step. -/
import Derived.Test.YtknimfbagbkjfaaGreatDoorBufR
import Derived.Test.YtknimfbagbkjfaaGreatDoorTree
import Derived.Test.YtknimfbagbkjfaaGreatDoorPathLaw
set_option linter.unusedSimpArgs false
set_option linter.unusedVariables false
set_option linter.unusedSectionVars false
namespace Go.Xp
open Go.Proofs

def nlt (x y : Nod) : Prop := pcmp x.path y.path < 0
instance (x y : Nod) : Decidable (nlt x y) := by unfold nlt; infer_instance
def swp (L : List Nod) (i j : Nat) : List Nod := (L.set i (at_nod L j)).set j (at_nod L i)
@[simp] theorem swp_len (L : List Nod) (i j : Nat) : (swp L i j).length = L.length := by simp [swp]
def swr (L : List Nod) (a b : Nat) : Nat → List Nod
  | 0 => L
  | n + 1 => swp (swr L a b n) (a + n) (b + n)
@[simp] theorem swr_len (L : List Nod) (a b : Nat) : ∀ n, (swr L a b n).length = L.length
  | 0 => rfl
  | n + 1 => by simp [swr, swr_len L a b n]
def insf (a : Nat) : Nat → List Nod → List Nod
  | 0, L => L
  | j + 1, L => if a < j + 1 ∧ nlt (at_nod L (j + 1)) (at_nod L j) then insf a j (swp L (j + 1) j) else L
@[simp] theorem insf_len (a : Nat) : ∀ (j : Nat) (L : List Nod), (insf a j L).length = L.length
  | 0, L => rfl
  | j + 1, L => by
    unfold insf
    split
    · rw [insf_len a j]; simp
    · rfl
/-- n elements from index i on are put in. -/
def iso (a : Nat) : Nat → Nat → List Nod → List Nod
  | _, 0, L => L
  | i, n + 1, L => iso a (i + 1) n (insf a i L)
@[simp] theorem iso_len (a : Nat) : ∀ (n i : Nat) (L : List Nod), (iso a i n L).length = L.length
  | 0, _, _ => rfl
  | n + 1, i, L => by unfold iso; rw [iso_len a n]; simp
def isort (L : List Nod) (a b : Nat) : List Nod := iso a (a + 1) (b - (a + 1)) L
@[simp] theorem isort_len (L : List Nod) (a b : Nat) : (isort L a b).length = L.length := by simp [isort]
def rotf (m : Nat) : Nat → Nat → Nat → List Nod → List Nod
  | 0, _, _, L => L
  | f + 1, i, j, L => if i = j then swr L (m - i) m i else if j < i then rotf m f (i - j) j (swr L (m - i) m j) else rotf m f i (j - i) (swr L (m - i) (m + j - i) i)
@[simp] theorem rotf_len (m : Nat) : ∀ (f i j : Nat) (L : List Nod), (rotf m f i j L).length = L.length
  | 0, _, _, _ => rfl
  | f + 1, i, j, L => by
    unfold rotf
    split
    · simp
    · split
      · rw [rotf_len m f]; simp
      · rw [rotf_len m f]; simp
def rot (L : List Nod) (a m b : Nat) : List Nod := rotf m (b - a) (m - a) (b - m) L
@[simp] theorem rot_len (L : List Nod) (a m b : Nat) : (rot L a m b).length = L.length := by simp [rot]

set_option maxRecDepth 100000 in
theorem canon_cmp (h : Heap) (x : Nod) (hx0 : nodS.ok h x) (y : Nod) (hy0 : nodS.ok h y) : Cal Tryz.prog 33 #[.agg #[.int .i64 (x.kind), str x.path, .int .i64 (x.mode), str x.target, (x.dv), .int .i64 (x.cls)], .agg #[.int .i64 (y.kind), str y.path, .int .i64 (y.mode), str y.target, (y.dv), .int .i64 (y.cls)]] h (fun v h' => v = .int .i64 (pcmp x.path y.path) ∧ Ext h h') := by
 refine Cal_enter (args := [.agg #[.int .i64 (x.kind), str x.path, .int .i64 (x.mode), str x.target, (x.dv), .int .i64 (x.cls)], .agg #[.int .i64 (y.kind), str y.path, .int .i64 (y.mode), str y.target, (y.dv), .int .i64 (y.cls)]]) Tryz.func33 rfl rfl rfl (fun σ => ?_)
 refine Wr ?_
 refine L_mks (M_box rfl) rfl rfl rfl ?_
 rintro _ h1 ⟨rfl, hn1⟩
 have hk2 : Blk h1 h.size [.int .i64 (x.kind), str x.path, .int .i64 (x.mode), str x.target, (x.dv), .int .i64 (x.cls)] := hn1.blk
 refine L_mks (M_box rfl) rfl rfl rfl ?_
 rintro _ h2 ⟨rfl, hn3⟩
 have hk4 : Blk h2 h1.size [.int .i64 (y.kind), str y.path, .int .i64 (y.mode), str y.target, (y.dv), .int .i64 (y.cls)] := hn3.blk
 refine Av ?_
 refine Nx ?_
 refine W_sub _ (tk3 4 3 2) ?_
 refine Wr ?_
 refine Ly (Y_fieldAddr (off := 1) (by kernel_rfl) rfl rfl) ?_
 refine Ly (Y_ldblk Tryz.underlying9 rfl rfl (hk2.ext hn3.ext) rfl) ?_
 refine Ly (Y_fieldAddr (off := 1) (by kernel_rfl) rfl rfl) ?_
 refine Ly (Y_ldblk Tryz.underlying9 rfl rfl hk4 rfl) ?_
 refine L_call (E_call (by kernel_rfl) rfl) (cmp_Compare _ x.path y.path) rfl rfl rfl ?_
 rintro _ h2 ⟨rfl, rfl⟩
 refine Av ?_
 refine Nx ?_
 refine W_sub _ (tk1 4) ?_
 refine W_ret ?_
 refine X_ret1 rfl rfl ?_
 exact ⟨rfl, (hn1.ext.trans hn3.ext)⟩

set_option maxRecDepth 100000 in
theorem sort_swapRange (h : Heap) (B : Nat) (N : Nat) (L : List Nod) (pd : Nat → Prop) (hb : RBuf nodS h B pd L) (a : Int) (b : Int) (n : Int) (hpB : ¬ pd B) (hN : N = L.length) (hm : L.length ≤ 1000000000000) (ha : 0 ≤ a) (hb0 : 0 ≤ b) (hn0 : 0 ≤ n) (hl : a + n ≤ L.length) (hl2 : b + n ≤ L.length) : Cal Tryz.prog 118 #[.slice (some ⟨B, 0, none⟩) N N, .int .i64 (a), .int .i64 (b), .int .i64 (n), .func (.func 33) #[] #[]] h (fun v h' => v = .tuple #[] ∧ Only [B] h h' ∧ RBuf nodS h' B pd (swr L a.toNat b.toNat n.toNat)) := by
 refine Cal_enter (args := [.slice (some ⟨B, 0, none⟩) N N, .int .i64 (a), .int .i64 (b), .int .i64 (n), .func (.func 33) #[] #[]]) Tryz.func118 rfl rfl rfl (fun σ => ?_)
 refine Wr ?_
 refine Av ?_
 refine Nx ?_
 refine W_sub _ (tk5 10 0 1 2 3) ?_
 refine W_block ?_
 refine W_loop (S := Nat) (fun i => [(0, .slice (some ⟨B, 0, none⟩) N N), (1, .int .i64 (a)), (2, .int .i64 (b)), (3, .int .i64 (n)), (10, .int .i64 ((i : Int)))]) (fun i h' => (i : Int) ≤ n ∧ Only [B] h h' ∧ RBuf nodS h' B pd (swr L a.toNat b.toNat i)) (fun i => n.toNat - i) 0 (tk5 0 1 2 3 10) ?_ ?_
 ·exact ⟨by omega, (Only.refl _ _), hb⟩
 rintro i h1 ⟨hi, hx, hb1⟩
 show W _ _ _ _ _ [(0, .slice (some ⟨B, 0, none⟩) N N), (1, .int .i64 (a)), (2, .int .i64 (b)), (3, .int .i64 (n)), (10, .int .i64 ((i : Int)))] _
 refine W_seq (W_seq (W_region ?_))
 refine Mv ?_
 refine Mv ?_
 refine Ly (Y_lss rfl rfl) ?_
 refine Nx ?_
 refine W_sub _ (tk6 13 0 1 2 3 10) ?_
 refine W_splitd rfl (fun c => ?_) (fun c => ?_)
 ·refine Ws ?_
  refine W_sub _ (tk5 0 1 2 3 10) ?_
  have hL2 := swr_len L a.toNat b.toNat i
  refine W_seq (W_block ?_)
  refine W_held (fun _ => True) 24 rfl (by kernel_rfl) ?_
  refine LH_take (i := 0) rfl (fun h_ hI_ => Y_move rfl) rfl rfl rfl (by kernel_rfl) (by kernel_rfl) (by kernel_rfl) (fun _ _ _ => by rintro ⟨_, _, h_, _⟩; cases h_) trivial ?_
  refine LH_take (i := 1) rfl (fun h_ hI_ => Y_move rfl) rfl rfl rfl (by kernel_rfl) (by kernel_rfl) (by kernel_rfl) (fun _ _ _ => by rintro ⟨_, _, h_, _⟩; cases h_) trivial ?_
  refine LH_take (i := 2) rfl (fun h_ hI_ => Y_move rfl) rfl rfl rfl (by kernel_rfl) (by kernel_rfl) (by kernel_rfl) (fun _ _ _ => by rintro ⟨_, _, h_, _⟩; cases h_) trivial ?_
  refine LH_take (i := 3) rfl (fun h_ hI_ => Y_add rfl rfl (by omega) (by omega)) rfl rfl rfl (by kernel_rfl) (by kernel_rfl) (by kernel_rfl) (fun _ _ _ => by rintro ⟨_, _, h_, _⟩; cases h_) trivial ?_
  refine LH_take (i := 4) rfl (fun h_ hI_ => Y_move rfl) rfl rfl rfl (by kernel_rfl) (by kernel_rfl) (by kernel_rfl) (fun _ _ _ => by rintro ⟨_, _, h_, _⟩; cases h_) trivial ?_
  refine LH_take (i := 5) rfl (fun h_ hI_ => Y_move rfl) rfl rfl rfl (by kernel_rfl) (by kernel_rfl) (by kernel_rfl) (fun _ _ _ => by rintro ⟨_, _, h_, _⟩; cases h_) trivial ?_
  refine LH_take (i := 6) rfl (fun h_ hI_ => Y_move rfl) rfl rfl rfl (by kernel_rfl) (by kernel_rfl) (by kernel_rfl) (fun _ _ _ => by rintro ⟨_, _, h_, _⟩; cases h_) trivial ?_
  refine LH_take (i := 7) rfl (fun h_ hI_ => Y_add rfl rfl (by omega) (by omega)) rfl rfl rfl (by kernel_rfl) (by kernel_rfl) (by kernel_rfl) (fun _ _ _ => by rintro ⟨_, _, h_, _⟩; cases h_) trivial ?_
  refine LH_take (i := 8) rfl (fun h_ hI_ => Y_move rfl) rfl rfl rfl (by kernel_rfl) (by kernel_rfl) (by kernel_rfl) (fun _ _ _ => by rintro ⟨_, _, h_, _⟩; cases h_) trivial ?_
  refine LH_take (i := 9) rfl (fun h_ hI_ => Y_move rfl) rfl rfl rfl (by kernel_rfl) (by kernel_rfl) (by kernel_rfl) (fun _ _ _ => by rintro ⟨_, _, h_, _⟩; cases h_) trivial ?_
  refine LH_take (i := 10) rfl (fun h_ hI_ => Y_move rfl) rfl rfl rfl (by kernel_rfl) (by kernel_rfl) (by kernel_rfl) (fun _ _ _ => by rintro ⟨_, _, h_, _⟩; cases h_) trivial ?_
  refine LH_take (i := 11) rfl (fun h_ hI_ => Y_add rfl rfl (by omega) (by omega)) rfl rfl rfl (by kernel_rfl) (by kernel_rfl) (by kernel_rfl) (fun _ _ _ => by rintro ⟨_, _, h_, _⟩; cases h_) trivial ?_
  refine LH_take (i := 12) rfl (fun h_ hI_ => Y_idxB Tryz.underlying22 (show _ = some 6 by kernel_rfl) rfl rfl (by first | omega | (simp; omega)) (by first | omega | (simp; omega))) rfl rfl rfl (by kernel_rfl) (by kernel_rfl) (by kernel_rfl) (fun _ _ _ => by rintro ⟨_, _, h_, _⟩; cases h_) trivial ?_
  refine LH_take (i := 14) rfl (fun h_ hI_ => Y_move rfl) rfl rfl rfl (by kernel_rfl) (by kernel_rfl) (by kernel_rfl) (fun _ _ _ => by rintro ⟨_, _, h_, _⟩; cases h_) trivial ?_
  refine LH_take (i := 15) rfl (fun h_ hI_ => Y_move rfl) rfl rfl rfl (by kernel_rfl) (by kernel_rfl) (by kernel_rfl) (fun _ _ _ => by rintro ⟨_, _, h_, _⟩; cases h_) trivial ?_
  refine LH_take (i := 16) rfl (fun h_ hI_ => Y_move rfl) rfl rfl rfl (by kernel_rfl) (by kernel_rfl) (by kernel_rfl) (fun _ _ _ => by rintro ⟨_, _, h_, _⟩; cases h_) trivial ?_
  refine LH_take (i := 17) rfl (fun h_ hI_ => Y_add rfl rfl (by omega) (by omega)) rfl rfl rfl (by kernel_rfl) (by kernel_rfl) (by kernel_rfl) (fun _ _ _ => by rintro ⟨_, _, h_, _⟩; cases h_) trivial ?_
  refine LH_take (i := 18) rfl (fun h_ hI_ => Y_idxB Tryz.underlying22 (show _ = some 6 by kernel_rfl) rfl rfl (by first | omega | (simp; omega)) (by first | omega | (simp; omega))) rfl rfl rfl (by kernel_rfl) (by kernel_rfl) (by kernel_rfl) (fun _ _ _ => by rintro ⟨_, _, h_, _⟩; cases h_) trivial ?_
  refine LH_two (i := 13) (j := 19) (by kernel_rfl) ?_ ?_
  ·have hq1 : Okp nodS h1 pd (at_nod (swr L a.toNat b.toNat i) (b + (i : Int)).toNat) := hb1.okp (by first | omega | (simp; omega))
   refine LO_yld (i := 13) rfl (Y_ldrA0 (k := (b + (i : Int)).toNat) (us := [.int .i64 ((at_nod (swr L a.toNat b.toNat i) (b + (i : Int)).toNat).kind), str ((at_nod (swr L a.toNat b.toNat i) (b + (i : Int)).toNat).path), .int .i64 ((at_nod (swr L a.toNat b.toNat i) (b + (i : Int)).toNat).mode), str ((at_nod (swr L a.toNat b.toNat i) (b + (i : Int)).toNat).target), ((at_nod (swr L a.toNat b.toNat i) (b + (i : Int)).toNat).dv), .int .i64 ((at_nod (swr L a.toNat b.toNat i) (b + (i : Int)).toNat).cls)]) Tryz.underlying50 rfl (show _ = some 6 by kernel_rfl) rfl rfl (hb1.rows (by simp [hN])) (by first | omega | (simp; omega)) rfl) rfl rfl rfl trivial ?_
   refine LH_one (i := 19) (by kernel_rfl) ?_
   have hq2 : Okp nodS h1 pd (at_nod (swr L a.toNat b.toNat i) (a + (i : Int)).toNat) := hb1.okp (by first | omega | (simp; omega))
   refine LO_yld (i := 19) rfl (Y_ldrA0 (k := (a + (i : Int)).toNat) (us := [.int .i64 ((at_nod (swr L a.toNat b.toNat i) (a + (i : Int)).toNat).kind), str ((at_nod (swr L a.toNat b.toNat i) (a + (i : Int)).toNat).path), .int .i64 ((at_nod (swr L a.toNat b.toNat i) (a + (i : Int)).toNat).mode), str ((at_nod (swr L a.toNat b.toNat i) (a + (i : Int)).toNat).target), ((at_nod (swr L a.toNat b.toNat i) (a + (i : Int)).toNat).dv), .int .i64 ((at_nod (swr L a.toNat b.toNat i) (a + (i : Int)).toNat).cls)]) Tryz.underlying50 rfl (show _ = some 6 by kernel_rfl) rfl rfl (hb1.rows (by simp [hN])) (by first | omega | (simp; omega)) rfl) rfl rfl rfl trivial ?_
   refine LH_take (i := 20) rfl (fun h_ hI_ => Y_idxB Tryz.underlying22 (show _ = some 6 by kernel_rfl) rfl rfl (by first | omega | (simp; omega)) (by first | omega | (simp; omega))) rfl rfl rfl (by kernel_rfl) (by kernel_rfl) (by kernel_rfl) (fun _ _ _ => by rintro ⟨_, _, h_, _⟩; cases h_) trivial ?_
   refine LH_one (i := 21) (by kernel_rfl) ?_
   refine LO_dos (i := 21) rfl (D_rsetA (S := nodS) (us := [.int .i64 ((at_nod (swr L a.toNat b.toNat i) (b + (i : Int)).toNat).kind), str ((at_nod (swr L a.toNat b.toNat i) (b + (i : Int)).toNat).path), .int .i64 ((at_nod (swr L a.toNat b.toNat i) (b + (i : Int)).toNat).mode), str ((at_nod (swr L a.toNat b.toNat i) (b + (i : Int)).toNat).target), ((at_nod (swr L a.toNat b.toNat i) (b + (i : Int)).toNat).dv), .int .i64 ((at_nod (swr L a.toNat b.toNat i) (b + (i : Int)).toNat).cls)]) (a := (at_nod (swr L a.toNat b.toNat i) (b + (i : Int)).toNat)) (k := (a + (i : Int)).toNat) (show _ = some 6 by kernel_rfl) rfl rfl rfl rfl hb1 (by first | omega | (simp; omega)) rfl hq1.1 hq1.2 hpB) rfl rfl ?_
   rintro h2 ⟨hx3, -, hb4⟩
   refine ⟨trivial, ?_⟩
   refine LH_take (i := 22) rfl (fun h_ hI_ => Y_idxB Tryz.underlying22 (show _ = some 6 by kernel_rfl) rfl rfl (by first | omega | (simp; omega)) (by first | omega | (simp; omega))) rfl rfl rfl (by kernel_rfl) (by kernel_rfl) (by kernel_rfl) (fun _ _ _ => by rintro ⟨_, _, h_, _⟩; cases h_) trivial ?_
   refine LH_one (i := 23) (by kernel_rfl) ?_
   have hc7 := (hq2.only hx3 hpB)
   refine LO_dos (i := 23) rfl (D_rsetA (S := nodS) (us := [.int .i64 ((at_nod (swr L a.toNat b.toNat i) (a + (i : Int)).toNat).kind), str ((at_nod (swr L a.toNat b.toNat i) (a + (i : Int)).toNat).path), .int .i64 ((at_nod (swr L a.toNat b.toNat i) (a + (i : Int)).toNat).mode), str ((at_nod (swr L a.toNat b.toNat i) (a + (i : Int)).toNat).target), ((at_nod (swr L a.toNat b.toNat i) (a + (i : Int)).toNat).dv), .int .i64 ((at_nod (swr L a.toNat b.toNat i) (a + (i : Int)).toNat).cls)]) (a := (at_nod (swr L a.toNat b.toNat i) (a + (i : Int)).toNat)) (k := (b + (i : Int)).toNat) (show _ = some 6 by kernel_rfl) rfl rfl rfl rfl hb4 (by first | omega | (simp; omega)) rfl hc7.1 hc7.2 hpB) rfl rfl ?_
   rintro h3 ⟨hx5, -, hb6⟩
   refine ⟨trivial, ?_⟩
   refine LH_done (by kernel_rfl) ?_
   refine X_block (X_then ?_)
   refine W_sub _ (tk5 0 1 2 3 10) ?_
   refine W_region ?_
   refine Mv ?_
   refine Ly (Y_add rfl rfl (by omega) (by omega)) ?_
   refine Av ?_
   refine L_nil ?_
   refine X_loop (i + 1) (tk5 0 1 2 3 10) ?_ ?_
   ·exact ⟨by omega, (Only.trans (Only.trans (Only.trans (Only.refl _ _) hx (fun _ hb_ => .inl hb_)) hx3 (fun _ hb_ => .inl hb_)) hx5 (fun _ hb_ => .inl hb_)), RBuf.congr hb6 (by simp only [swr, swp, show (a + (i : Int)).toNat = a.toNat + i by omega, show (b + (i : Int)).toNat = b.toNat + i by omega])⟩
   (try dsimp only)
   omega
  have hq8 : Okp nodS h1 pd (at_nod (swr L a.toNat b.toNat i) (a + (i : Int)).toNat) := hb1.okp (by first | omega | (simp; omega))
  refine LO_yld (i := 19) rfl (Y_ldrA0 (k := (a + (i : Int)).toNat) (us := [.int .i64 ((at_nod (swr L a.toNat b.toNat i) (a + (i : Int)).toNat).kind), str ((at_nod (swr L a.toNat b.toNat i) (a + (i : Int)).toNat).path), .int .i64 ((at_nod (swr L a.toNat b.toNat i) (a + (i : Int)).toNat).mode), str ((at_nod (swr L a.toNat b.toNat i) (a + (i : Int)).toNat).target), ((at_nod (swr L a.toNat b.toNat i) (a + (i : Int)).toNat).dv), .int .i64 ((at_nod (swr L a.toNat b.toNat i) (a + (i : Int)).toNat).cls)]) Tryz.underlying50 rfl (show _ = some 6 by kernel_rfl) rfl rfl (hb1.rows (by simp [hN])) (by first | omega | (simp; omega)) rfl) rfl rfl rfl trivial ?_
  refine LH_one (i := 13) (by kernel_rfl) ?_
  have hq9 : Okp nodS h1 pd (at_nod (swr L a.toNat b.toNat i) (b + (i : Int)).toNat) := hb1.okp (by first | omega | (simp; omega))
  refine LO_yld (i := 13) rfl (Y_ldrA0 (k := (b + (i : Int)).toNat) (us := [.int .i64 ((at_nod (swr L a.toNat b.toNat i) (b + (i : Int)).toNat).kind), str ((at_nod (swr L a.toNat b.toNat i) (b + (i : Int)).toNat).path), .int .i64 ((at_nod (swr L a.toNat b.toNat i) (b + (i : Int)).toNat).mode), str ((at_nod (swr L a.toNat b.toNat i) (b + (i : Int)).toNat).target), ((at_nod (swr L a.toNat b.toNat i) (b + (i : Int)).toNat).dv), .int .i64 ((at_nod (swr L a.toNat b.toNat i) (b + (i : Int)).toNat).cls)]) Tryz.underlying50 rfl (show _ = some 6 by kernel_rfl) rfl rfl (hb1.rows (by simp [hN])) (by first | omega | (simp; omega)) rfl) rfl rfl rfl trivial ?_
  refine LH_take (i := 20) rfl (fun h_ hI_ => Y_idxB Tryz.underlying22 (show _ = some 6 by kernel_rfl) rfl rfl (by first | omega | (simp; omega)) (by first | omega | (simp; omega))) rfl rfl rfl (by kernel_rfl) (by kernel_rfl) (by kernel_rfl) (fun _ _ _ => by rintro ⟨_, _, h_, _⟩; cases h_) trivial ?_
  refine LH_one (i := 21) (by kernel_rfl) ?_
  refine LO_dos (i := 21) rfl (D_rsetA (S := nodS) (us := [.int .i64 ((at_nod (swr L a.toNat b.toNat i) (b + (i : Int)).toNat).kind), str ((at_nod (swr L a.toNat b.toNat i) (b + (i : Int)).toNat).path), .int .i64 ((at_nod (swr L a.toNat b.toNat i) (b + (i : Int)).toNat).mode), str ((at_nod (swr L a.toNat b.toNat i) (b + (i : Int)).toNat).target), ((at_nod (swr L a.toNat b.toNat i) (b + (i : Int)).toNat).dv), .int .i64 ((at_nod (swr L a.toNat b.toNat i) (b + (i : Int)).toNat).cls)]) (a := (at_nod (swr L a.toNat b.toNat i) (b + (i : Int)).toNat)) (k := (a + (i : Int)).toNat) (show _ = some 6 by kernel_rfl) rfl rfl rfl rfl hb1 (by first | omega | (simp; omega)) rfl hq9.1 hq9.2 hpB) rfl rfl ?_
  rintro h4 ⟨hx10, -, hb11⟩
  refine ⟨trivial, ?_⟩
  refine LH_take (i := 22) rfl (fun h_ hI_ => Y_idxB Tryz.underlying22 (show _ = some 6 by kernel_rfl) rfl rfl (by first | omega | (simp; omega)) (by first | omega | (simp; omega))) rfl rfl rfl (by kernel_rfl) (by kernel_rfl) (by kernel_rfl) (fun _ _ _ => by rintro ⟨_, _, h_, _⟩; cases h_) trivial ?_
  refine LH_one (i := 23) (by kernel_rfl) ?_
  have hc14 := (hq8.only hx10 hpB)
  refine LO_dos (i := 23) rfl (D_rsetA (S := nodS) (us := [.int .i64 ((at_nod (swr L a.toNat b.toNat i) (a + (i : Int)).toNat).kind), str ((at_nod (swr L a.toNat b.toNat i) (a + (i : Int)).toNat).path), .int .i64 ((at_nod (swr L a.toNat b.toNat i) (a + (i : Int)).toNat).mode), str ((at_nod (swr L a.toNat b.toNat i) (a + (i : Int)).toNat).target), ((at_nod (swr L a.toNat b.toNat i) (a + (i : Int)).toNat).dv), .int .i64 ((at_nod (swr L a.toNat b.toNat i) (a + (i : Int)).toNat).cls)]) (a := (at_nod (swr L a.toNat b.toNat i) (a + (i : Int)).toNat)) (k := (b + (i : Int)).toNat) (show _ = some 6 by kernel_rfl) rfl rfl rfl rfl hb11 (by first | omega | (simp; omega)) rfl hc14.1 hc14.2 hpB) rfl rfl ?_
  rintro h5 ⟨hx12, -, hb13⟩
  refine ⟨trivial, ?_⟩
  refine LH_done (by kernel_rfl) ?_
  refine X_block (X_then ?_)
  refine W_sub _ (tk5 0 1 2 3 10) ?_
  refine W_region ?_
  refine Mv ?_
  refine Ly (Y_add rfl rfl (by omega) (by omega)) ?_
  refine Av ?_
  refine L_nil ?_
  refine X_loop (i + 1) (tk5 0 1 2 3 10) ?_ ?_
  ·exact ⟨by omega, (Only.trans (Only.trans (Only.trans (Only.refl _ _) hx (fun _ hb_ => .inl hb_)) hx10 (fun _ hb_ => .inl hb_)) hx12 (fun _ hb_ => .inl hb_)), RBuf.congr hb13 (by simp only [swr, swp, show (a + (i : Int)).toNat = a.toNat + i by omega, show (b + (i : Int)).toNat = b.toNat + i by omega])⟩
  (try dsimp only)
  omega
 refine W_exit ?_
 refine X_then_exit (X_then_exit ?_)
 refine X_block_hit ?_
 refine X_end ?_
 refine X_end0 rfl ?_
 obtain rfl : i = n.toNat := by omega
 exact ⟨rfl, hx, hb1⟩

theorem rotf_eq {m f i : Nat} {L : List Nod} (hf : 0 < f) : rotf m f i i L = swr L (m - i) m i := by
  obtain ⟨g, rfl⟩ : ∃ g, f = g + 1 := ⟨f - 1, by omega⟩
  unfold rotf; rw [if_pos rfl]
theorem rotf_gt {m f i j : Nat} {L : List Nod} (hf : 0 < f) (h : j < i) : rotf m f i j L = rotf m (f - 1) (i - j) j (swr L (m - i) m j) := by
  obtain ⟨g, rfl⟩ : ∃ g, f = g + 1 := ⟨f - 1, by omega⟩
  conv => lhs; unfold rotf
  rw [if_neg (by omega), if_pos h]; rfl
theorem rotf_lt {m f i j : Nat} {L : List Nod} (hf : 0 < f) (h : i < j) : rotf m f i j L = rotf m (f - 1) i (j - i) (swr L (m - i) (m + j - i) i) := by
  obtain ⟨g, rfl⟩ : ∃ g, f = g + 1 := ⟨f - 1, by omega⟩
  conv => lhs; unfold rotf
  rw [if_neg (by omega), if_neg (by omega)]; rfl

set_option maxRecDepth 100000 in
theorem sort_rotate (h : Heap) (B : Nat) (N : Nat) (L : List Nod) (pd : Nat → Prop) (hb : RBuf nodS h B pd L) (a : Int) (m : Int) (b : Int) (hpB : ¬ pd B) (hN : N = L.length) (hm : L.length ≤ 1000000000000) (ha : 0 ≤ a) (h1 : a < m) (h2 : m < b) (h3 : b ≤ L.length) : Cal Tryz.prog 101 #[.slice (some ⟨B, 0, none⟩) N N, .int .i64 (a), .int .i64 (m), .int .i64 (b), .func (.func 33) #[] #[]] h (fun v h' => v = .tuple #[] ∧ Only [B] h h' ∧ RBuf nodS h' B pd (rot L a.toNat m.toNat b.toNat)) := by
 refine Cal_enter (args := [.slice (some ⟨B, 0, none⟩) N N, .int .i64 (a), .int .i64 (m), .int .i64 (b), .func (.func 33) #[] #[]]) Tryz.func101 rfl rfl rfl (fun σ => ?_)
 refine Wr ?_
 refine Mv ?_
 refine Mv ?_
 refine Ly (Y_sub rfl rfl (by omega) (by omega)) ?_
 refine Av ?_
 refine Nx ?_
 refine W_sub _ (tk5 10 0 2 3 4) ?_
 refine Wr ?_
 refine Mv ?_
 refine Mv ?_
 refine Ly (Y_sub rfl rfl (by omega) (by omega)) ?_
 refine Av ?_
 refine Nx ?_
 refine W_sub _ (tk5 11 10 0 2 4) ?_
 refine W_seq (W_block ?_)
 refine W_loop (S := Nat × Nat × Nat × List Nod) (fun (f, i, j, Lc) => [(0, .slice (some ⟨B, 0, none⟩) N N), (2, .int .i64 (m)), (4, .func (.func 33) #[] #[]), (10, .int .i64 ((i : Int))), (11, .int .i64 ((j : Int)))]) (fun (f, i, j, Lc) h' => 0 < i ∧ 0 < j ∧ i + j ≤ f ∧ (i : Int) ≤ m ∧ m + (j : Int) ≤ L.length ∧ Lc.length = L.length ∧ rotf m.toNat f i j Lc = rot L a.toNat m.toNat b.toNat ∧ Only [B] h h' ∧ RBuf nodS h' B pd Lc) (fun (f, i, j, Lc) => i + j) ((b - a).toNat, (m - a).toNat, (b - m).toNat, L) (sk3 0 2 4 rfl rfl rfl (sk1 10 (lki rfl (by omega)) (sk1 11 (lki rfl (by omega)) sN))) ?_ ?_
 ·exact ⟨by omega, by omega, by omega, by omega, by omega, rfl, by unfold rot; congr 1 <;> omega, (Only.refl _ _), hb⟩
 rintro ⟨f, i, j, Lc⟩ h1 ⟨hi, hj, hf, him, hjl, hLl, hT, hx, hb1⟩
 show W _ _ _ _ _ [(0, .slice (some ⟨B, 0, none⟩) N N), (2, .int .i64 (m)), (4, .func (.func 33) #[] #[]), (10, .int .i64 ((i : Int))), (11, .int .i64 ((j : Int)))] _
 refine W_seq (W_seq (W_region ?_))
 refine Mv ?_
 refine Mv ?_
 refine Ly (Y_neq rfl rfl) ?_
 refine Nx ?_
 refine W_sub _ (tk6 20 0 2 4 10 11) ?_
 refine W_splitd rfl (fun c => ?_) (fun c => ?_)
 ·refine Ws ?_
  refine W_sub _ (tk5 0 2 4 10 11) ?_
  refine W_block (W_seq (W_region ?_))
  refine Mv ?_
  refine Mv ?_
  refine Ly (Y_gtr rfl rfl) ?_
  refine Nx ?_
  refine W_sub _ (tk6 23 0 2 4 10 11) ?_
  refine W_splitd rfl (fun d => ?_) (fun d => ?_)
  ·refine Wr ?_
   refine Mv ?_
   refine Mv ?_
   refine Mv ?_
   refine Ly (Y_sub rfl rfl (by omega) (by omega)) ?_
   refine Mv ?_
   refine Mv ?_
   refine Mv ?_
   refine L_call (E_call (by kernel_rfl) rfl) (sort_swapRange _ B N Lc pd hb1 (m - (i : Int)) m (j : Int) (by first | omega | rfl | (simp <;> omega)) (by first | omega | rfl | (simp <;> omega)) (by first | omega | rfl | (simp <;> omega)) (by first | omega | rfl | (simp <;> omega)) (by first | omega | rfl | (simp <;> omega)) (by first | omega | rfl | (simp <;> omega)) (by first | omega | rfl | (simp <;> omega)) (by first | omega | rfl | (simp <;> omega))) rfl rfl rfl ?_
   rintro _ h2 ⟨rfl, hx1, hb2⟩
   refine Nx ?_
   refine W_sub _ (tk5 0 2 4 10 11) ?_
   refine W_region ?_
   refine Mv ?_
   refine Mv ?_
   refine Ly (Y_sub rfl rfl (by omega) (by omega)) ?_
   refine Av ?_
   refine L_nil (X_block ?_)
   refine X_loop ((f - 1, i - j, j, (swr Lc (m - (i : Int)).toNat m.toNat (j : Int).toNat))) (sk3 0 2 4 rfl rfl rfl (sk1 10 (lki rfl (by omega)) (tk1 11))) ?_ ?_
   ·exact ⟨by omega, hj, by omega, by omega, hjl, by simp [hLl], by rw [show (m - (i : Int)).toNat = m.toNat - i by omega]; exact (rotf_gt (by omega) (by omega)).symm.trans hT, (Only.trans (Only.trans (Only.refl _ _) hx (fun _ hb_ => .inl hb_)) hx1 (fun _ hb_ => .inl hb_)), hb2⟩
   (try dsimp only)
   omega
  refine Wr ?_
  refine Mv ?_
  refine Mv ?_
  refine Mv ?_
  refine Ly (Y_sub rfl rfl (by omega) (by omega)) ?_
  refine Mv ?_
  refine Mv ?_
  refine Ly (Y_add rfl rfl (by omega) (by omega)) ?_
  refine Mv ?_
  refine Ly (Y_sub rfl rfl (by omega) (by omega)) ?_
  refine Mv ?_
  refine Mv ?_
  refine L_call (E_call (by kernel_rfl) rfl) (sort_swapRange _ B N Lc pd hb1 (m - (i : Int)) ((m + (j : Int)) - (i : Int)) (i : Int) (by first | omega | rfl | (simp <;> omega)) (by first | omega | rfl | (simp <;> omega)) (by first | omega | rfl | (simp <;> omega)) (by first | omega | rfl | (simp <;> omega)) (by first | omega | rfl | (simp <;> omega)) (by first | omega | rfl | (simp <;> omega)) (by first | omega | rfl | (simp <;> omega)) (by first | omega | rfl | (simp <;> omega))) rfl rfl rfl ?_
  rintro _ h3 ⟨rfl, hx3, hb4⟩
  refine Nx ?_
  refine W_sub _ (tk5 0 2 4 10 11) ?_
  refine W_region ?_
  refine Mv ?_
  refine Mv ?_
  refine Ly (Y_sub rfl rfl (by omega) (by omega)) ?_
  refine Av ?_
  refine L_nil (X_block ?_)
  refine X_loop ((f - 1, i, j - i, (swr Lc (m - (i : Int)).toNat ((m + (j : Int)) - (i : Int)).toNat (i : Int).toNat))) (sk4 0 2 4 10 rfl rfl rfl rfl (sk1 11 (lki rfl (by omega)) sN)) ?_ ?_
  ·exact ⟨hi, by omega, by omega, him, by omega, by simp [hLl], by rw [show (m - (i : Int)).toNat = m.toNat - i by omega, show (m + (j : Int) - (i : Int)).toNat = m.toNat + j - i by omega]; exact (rotf_lt (by omega) (by omega)).symm.trans hT, (Only.trans (Only.trans (Only.refl _ _) hx (fun _ hb_ => .inl hb_)) hx3 (fun _ hb_ => .inl hb_)), hb4⟩
  (try dsimp only)
  omega
 refine W_exit ?_
 refine X_then_exit (X_then_exit ?_)
 refine X_block_hit ?_
 refine X_then ?_
 refine W_sub _ (tk4 0 2 4 10) ?_
 refine W_region ?_
 refine Mv ?_
 refine Mv ?_
 refine Mv ?_
 refine Ly (Y_sub rfl rfl (by omega) (by omega)) ?_
 refine Mv ?_
 refine Mv ?_
 refine Mv ?_
 refine L_call (E_call (by kernel_rfl) rfl) (sort_swapRange _ B N Lc pd hb1 (m - (i : Int)) m (i : Int) (by first | omega | rfl | (simp <;> omega)) (by first | omega | rfl | (simp <;> omega)) (by first | omega | rfl | (simp <;> omega)) (by first | omega | rfl | (simp <;> omega)) (by first | omega | rfl | (simp <;> omega)) (by first | omega | rfl | (simp <;> omega)) (by first | omega | rfl | (simp <;> omega)) (by first | omega | rfl | (simp <;> omega))) rfl rfl rfl ?_
 rintro _ h4 ⟨rfl, hx5, hb6⟩
 refine L_nil ?_
 refine X_end ?_
 refine X_end0 rfl ?_
 obtain rfl : i = j := by omega
 refine ⟨rfl, (Only.trans (Only.trans (Only.refl _ _) hx (fun _ hb_ => .inl hb_)) hx5 (fun _ hb_ => .inl hb_)), RBuf.congr hb6 ?_⟩
 rw [show (m - (i : Int)).toNat = m.toNat - i by omega]; exact (rotf_eq (by omega)).symm.trans hT

theorem insf_yes {a j : Nat} {L : List Nod} (h1 : a < j) (h2 : nlt (at_nod L j) (at_nod L (j - 1))) : insf a j L = insf a (j - 1) (swp L j (j - 1)) := by
  obtain ⟨g, rfl⟩ : ∃ g, j = g + 1 := ⟨j - 1, by omega⟩
  conv => lhs; unfold insf
  rw [if_pos ⟨h1, h2⟩]; rfl
theorem insf_no {a j : Nat} {L : List Nod} (h : ¬ (a < j ∧ nlt (at_nod L j) (at_nod L (j - 1)))) : insf a j L = L := by
  cases j with
  | zero => rfl
  | succ g => unfold insf; exact if_neg h
theorem iso_step {a i n : Nat} {L : List Nod} (h : 0 < n) : iso a i n L = iso a (i + 1) (n - 1) (insf a i L) := by
  obtain ⟨g, rfl⟩ : ∃ g, n = g + 1 := ⟨n - 1, by omega⟩
  rfl

set_option maxRecDepth 100000 in
theorem sort_insertion (h : Heap) (B : Nat) (N : Nat) (L : List Nod) (pd : Nat → Prop) (hb : RBuf nodS h B pd L) (a : Int) (b : Int) (hpB : ¬ pd B) (hN : N = L.length) (hm : L.length ≤ 1000000000000) (ha : 0 ≤ a) (h1 : a ≤ b) (h3 : b ≤ L.length) : Cal Tryz.prog 77 #[.slice (some ⟨B, 0, none⟩) N N, .int .i64 (a), .int .i64 (b), .func (.func 33) #[] #[]] h (fun v h' => v = .tuple #[] ∧ Only [B] h h' ∧ RBuf nodS h' B pd (isort L a.toNat b.toNat)) := by
 refine Cal_enter (args := [.slice (some ⟨B, 0, none⟩) N N, .int .i64 (a), .int .i64 (b), .func (.func 33) #[] #[]]) Tryz.func77 rfl rfl rfl (fun σ => ?_)
 refine Wr ?_
 refine Mv ?_
 refine Ly (Y_add rfl rfl (by omega) (by omega)) ?_
 refine Av ?_
 refine Nx ?_
 refine W_sub _ (tk5 8 0 1 2 3) ?_
 refine W_block ?_
 refine W_loop (S := Nat × List Nod) (fun (i, Lc) => [(0, .slice (some ⟨B, 0, none⟩) N N), (1, .int .i64 (a)), (2, .int .i64 (b)), (3, .func (.func 33) #[] #[]), (8, .int .i64 ((i : Int)))]) (fun (i, Lc) h' => a + 1 ≤ (i : Int) ∧ Lc.length = L.length ∧ iso a.toNat i (b.toNat - i) Lc = isort L a.toNat b.toNat ∧ Only [B] h h' ∧ RBuf nodS h' B pd Lc) (fun (i, Lc) => b.toNat - i) ((a + 1).toNat, L) (sk4 0 1 2 3 rfl rfl rfl rfl (sk1 8 (lki rfl (by omega)) sN)) ?_ ?_
 ·exact ⟨by omega, rfl, by unfold isort; congr 1 <;> omega, (Only.refl _ _), hb⟩
 rintro ⟨i, Lc⟩ h1 ⟨hi, hLl, hT, hx, hb1⟩
 show W _ _ _ _ _ [(0, .slice (some ⟨B, 0, none⟩) N N), (1, .int .i64 (a)), (2, .int .i64 (b)), (3, .func (.func 33) #[] #[]), (8, .int .i64 ((i : Int)))] _
 refine W_seq (W_seq (W_region ?_))
 refine Mv ?_
 refine Mv ?_
 refine Ly (Y_lss rfl rfl) ?_
 refine Nx ?_
 refine W_sub _ (tk6 14 0 1 2 3 8) ?_
 refine W_splitd rfl (fun c => ?_) (fun c => ?_)
 ·refine Ws ?_
  refine W_sub _ (tk5 0 1 2 3 8) ?_
  refine W_seq (W_block (W_seq (W_region ?_)))
  refine Mv ?_
  refine Av ?_
  refine Nx ?_
  refine W_sub _ (tk6 9 0 1 2 3 8) ?_
  refine W_block ?_
  refine W_loop (S := Nat × List Nod) (fun (j, Ld) => [(0, .slice (some ⟨B, 0, none⟩) N N), (1, .int .i64 (a)), (2, .int .i64 (b)), (3, .func (.func 33) #[] #[]), (8, .int .i64 ((i : Int))), (9, .int .i64 ((j : Int)))]) (fun (j, Ld) h' => a ≤ (j : Int) ∧ (j : Int) < b ∧ Ld.length = L.length ∧ insf a.toNat j Ld = insf a.toNat i Lc ∧ Only [B] h h' ∧ RBuf nodS h' B pd Ld) (fun (j, Ld) => j) (i, Lc) (tk6 0 1 2 3 8 9) ?_ ?_
  ·exact ⟨by omega, by omega, hLl, rfl, (Only.trans (Only.refl _ _) hx (fun _ hb_ => .inl hb_)), hb1⟩
  rintro ⟨j, Ld⟩ h2 ⟨hj, hjb, hLd, hTj, hx2, hb2⟩
  show W _ _ _ _ _ [(0, .slice (some ⟨B, 0, none⟩) N N), (1, .int .i64 (a)), (2, .int .i64 (b)), (3, .func (.func 33) #[] #[]), (8, .int .i64 ((i : Int))), (9, .int .i64 ((j : Int)))] _
  refine W_seq (W_seq ?_)
  by_cases hja : a < (j : Int)
  ·refine W_pers [(0, .slice (some ⟨B, 0, none⟩) N N), (1, .int .i64 (a)), (2, .int .i64 (b)), (3, .func (.func 33) #[] #[]), (8, .int .i64 ((i : Int))), (9, .int .i64 ((j : Int)))] (tk6 0 1 2 3 8 9) (by kernel_rfl) ?_
   refine LP_op 0 (fun _ vv => .int .i64 ((j : Int)) = vv) [] rfl rfl (by kernel_rfl) (fun _ _ _ _ p => p) ?_ ?_
   ·intro h3 hx1
    refine Needs_nil ?_
    refine Stp_yld (Y_move rfl) rfl ?_
    exact rfl
   refine LP_op 1 (fun _ vv => .int .i64 (a) = vv) [] rfl rfl (by kernel_rfl) (fun _ _ _ _ p => p) ?_ ?_
   ·intro h4 hx2
    refine Needs_nil ?_
    refine Stp_yld (Y_move rfl) rfl ?_
    exact rfl
   refine LP_op 2 (fun _ vv => .bool (decide (a < (j : Int))) = vv) [(0, 18), (1, 19)] rfl rfl (by kernel_rfl) (fun _ _ _ _ p => p) ?_ ?_
   ·intro h5 hx3
    rintro _ rfl
    rintro _ rfl
    refine Needs_nil ?_
    refine Stp_yld (Y_gtr rfl rfl) rfl ?_
    exact rfl
   refine LP_op 3 (fun _ vv => .bool true = vv) [(2, 20)] rfl rfl (by kernel_rfl) (fun _ _ _ _ p => p) ?_ ?_
   ·intro h6 hx4
    rintro _ rfl
    refine Needs_nil ?_
    refine Stp_yld (Y_move rfl) rfl ?_
    exact (congrArg Value.bool (decide_eq_true (by exact hja))).symm
   refine LP_op 4 (fun _ vv => .func (.func 33) #[] #[] = vv) [(3, 21)] rfl rfl (by kernel_rfl) (fun _ _ _ _ p => p) ?_ ?_
   ·intro h7 hx5
    rintro _ rfl
    refine Needs_nil ?_
    refine Stp_yld (Y_move rfl) rfl ?_
    exact rfl
   refine LP_op 5 (fun _ vv => .slice (some ⟨B, 0, none⟩) N N = vv) [(3, 21)] rfl rfl (by kernel_rfl) (fun _ _ _ _ p => p) ?_ ?_
   ·intro h8 hx6
    rintro _ rfl
    refine Needs_nil ?_
    refine Stp_yld (Y_move rfl) rfl ?_
    exact rfl
   refine LP_op 6 (fun _ vv => .int .i64 ((j : Int)) = vv) [(3, 21)] rfl rfl (by kernel_rfl) (fun _ _ _ _ p => p) ?_ ?_
   ·intro h9 hx7
    rintro _ rfl
    refine Needs_nil ?_
    refine Stp_yld (Y_move rfl) rfl ?_
    exact rfl
   refine LP_op 7 (fun _ vv => .pointer (some (elemAddr (.slice (some ⟨B, 0, none⟩) N N) (((j : Int)).toNat * 6))) = vv) [(6, 24), (3, 21), (5, 23)] rfl rfl (by kernel_rfl) (fun _ _ _ _ p => p) ?_ ?_
   ·intro h10 hx8
    rintro _ rfl
    rintro _ rfl
    rintro _ rfl
    refine Needs_nil ?_
    refine Stp_yld (Y_idxB Tryz.underlying22 (show _ = some 6 by kernel_rfl) rfl rfl (by first | omega | (simp; omega)) (by first | omega | (simp; omega))) rfl ?_
    exact rfl
   refine LP_op 8 (fun _ vv => .agg #[.int .i64 ((at_nod Ld ((j : Int)).toNat).kind), str ((at_nod Ld ((j : Int)).toNat).path), .int .i64 ((at_nod Ld ((j : Int)).toNat).mode), str ((at_nod Ld ((j : Int)).toNat).target), ((at_nod Ld ((j : Int)).toNat).dv), .int .i64 ((at_nod Ld ((j : Int)).toNat).cls)] = vv) [(7, 25), (3, 21)] rfl rfl (by kernel_rfl) (fun _ _ _ _ p => p) ?_ ?_
   ·intro h11 hx9
    rintro _ rfl
    rintro _ rfl
    refine Needs_nil ?_
    refine Stp_yld (Y_ldrA0 (k := ((j : Int)).toNat) (us := [.int .i64 ((at_nod Ld ((j : Int)).toNat).kind), str ((at_nod Ld ((j : Int)).toNat).path), .int .i64 ((at_nod Ld ((j : Int)).toNat).mode), str ((at_nod Ld ((j : Int)).toNat).target), ((at_nod Ld ((j : Int)).toNat).dv), .int .i64 ((at_nod Ld ((j : Int)).toNat).cls)]) Tryz.underlying50 rfl (show _ = some 6 by kernel_rfl) rfl rfl ((hb2.ext hx9).rows (by first | omega | (simp [hN]; omega))) (by first | omega | (simp; omega)) rfl) rfl ?_
    exact rfl
   refine LP_op 9 (fun _ vv => .slice (some ⟨B, 0, none⟩) N N = vv) [(3, 21)] rfl rfl (by kernel_rfl) (fun _ _ _ _ p => p) ?_ ?_
   ·intro h12 hx10
    rintro _ rfl
    refine Needs_nil ?_
    refine Stp_yld (Y_move rfl) rfl ?_
    exact rfl
   refine LP_op 10 (fun _ vv => .int .i64 ((j : Int)) = vv) [(3, 21)] rfl rfl (by kernel_rfl) (fun _ _ _ _ p => p) ?_ ?_
   ·intro h13 hx11
    rintro _ rfl
    refine Needs_nil ?_
    refine Stp_yld (Y_move rfl) rfl ?_
    exact rfl
   refine LP_op 11 (fun _ vv => .int .i64 ((j : Int) - 1) = vv) [(10, 28), (3, 21)] rfl rfl (by kernel_rfl) (fun _ _ _ _ p => p) ?_ ?_
   ·intro h14 hx12
    rintro _ rfl
    rintro _ rfl
    refine Needs_nil ?_
    refine Stp_yld (Y_sub rfl rfl (by omega) (by omega)) rfl ?_
    exact rfl
   refine LP_op 12 (fun _ vv => .pointer (some (elemAddr (.slice (some ⟨B, 0, none⟩) N N) (((j : Int) - 1).toNat * 6))) = vv) [(3, 21), (9, 27), (11, 29)] rfl rfl (by kernel_rfl) (fun _ _ _ _ p => p) ?_ ?_
   ·intro h15 hx13
    rintro _ rfl
    rintro _ rfl
    rintro _ rfl
    refine Needs_nil ?_
    refine Stp_yld (Y_idxB Tryz.underlying22 (show _ = some 6 by kernel_rfl) rfl rfl (by first | omega | (simp; omega)) (by first | omega | (simp; omega))) rfl ?_
    exact rfl
   refine LP_op 13 (fun _ vv => .agg #[.int .i64 ((at_nod Ld ((j : Int) - 1).toNat).kind), str ((at_nod Ld ((j : Int) - 1).toNat).path), .int .i64 ((at_nod Ld ((j : Int) - 1).toNat).mode), str ((at_nod Ld ((j : Int) - 1).toNat).target), ((at_nod Ld ((j : Int) - 1).toNat).dv), .int .i64 ((at_nod Ld ((j : Int) - 1).toNat).cls)] = vv) [(3, 21), (12, 30)] rfl rfl (by kernel_rfl) (fun _ _ _ _ p => p) ?_ ?_
   ·intro h16 hx14
    rintro _ rfl
    rintro _ rfl
    refine Needs_nil ?_
    refine Stp_yld (Y_ldrA0 (k := ((j : Int) - 1).toNat) (us := [.int .i64 ((at_nod Ld ((j : Int) - 1).toNat).kind), str ((at_nod Ld ((j : Int) - 1).toNat).path), .int .i64 ((at_nod Ld ((j : Int) - 1).toNat).mode), str ((at_nod Ld ((j : Int) - 1).toNat).target), ((at_nod Ld ((j : Int) - 1).toNat).dv), .int .i64 ((at_nod Ld ((j : Int) - 1).toNat).cls)]) Tryz.underlying50 rfl (show _ = some 6 by kernel_rfl) rfl rfl ((hb2.ext hx14).rows (by first | omega | (simp [hN]; omega))) (by first | omega | (simp; omega)) rfl) rfl ?_
    exact rfl
   refine LP_op 14 (fun _ vv => .int .i64 (pcmp (at_nod Ld ((j : Int)).toNat).path (at_nod Ld ((j : Int) - 1).toNat).path) = vv) [(8, 26), (3, 21), (4, 22), (13, 31)] rfl rfl (by kernel_rfl) (fun _ _ _ _ p => p) ?_ ?_
   ·intro h17 hx15
    rintro _ rfl
    rintro _ rfl
    rintro _ rfl
    rintro _ rfl
    refine Needs_nil ?_
    refine Stp_call (E_callv (fs := []) (cs := []) (by kernel_rfl) rfl rfl) (canon_cmp _ (at_nod Ld ((j : Int)).toNat) (show Bytes _ ((at_nod Ld ((j : Int)).toNat).dv) ((at_nod Ld ((j : Int)).toNat).data) from ((hb2.ext hx15).okp (k := ((j : Int)).toNat) (by first | omega | (simp; omega))).1) (at_nod Ld ((j : Int) - 1).toNat) (show Bytes _ ((at_nod Ld ((j : Int) - 1).toNat).dv) ((at_nod Ld ((j : Int) - 1).toNat).data) from ((hb2.ext hx15).okp (k := ((j : Int) - 1).toNat) (by first | omega | (simp; omega))).1)) rfl ?_
    rintro _ h18 ⟨rfl, hx16⟩
    exact ⟨hx16, rfl⟩
   refine LP_op 15 (fun _ vv => .bool (decide ((pcmp (at_nod Ld ((j : Int)).toNat).path (at_nod Ld ((j : Int) - 1).toNat).path) < 0)) = vv) [(14, 32), (3, 21)] rfl rfl (by kernel_rfl) (fun _ _ _ _ p => p) ?_ ?_
   ·intro h19 hx17
    rintro _ rfl
    rintro _ rfl
    refine Needs_nil ?_
    refine Stp_yld (Y_lss rfl rfl) rfl ?_
    exact rfl
   refine LP_op 16 (fun _ vv => .bool (decide ((pcmp (at_nod Ld ((j : Int)).toNat).path (at_nod Ld ((j : Int) - 1).toNat).path) < 0)) = vv) [(15, 33), (3, 21)] rfl rfl (by kernel_rfl) (fun _ _ _ _ p => p) ?_ ?_
   ·intro h20 hx18
    rintro _ rfl
    rintro _ rfl
    refine Needs_nil ?_
    refine Stp_yld (Y_pick_t rfl rfl) rfl ?_
    exact rfl
   refine LP_end [(16, 34)] rfl (by kernel_rfl) rfl ?_
   intro h21 hx19
   rintro _ rfl
   refine Needs_nil ?_
   refine X_then ?_
   refine W_splitd rfl (fun d => ?_) (fun d => ?_)
   ·refine Ws ?_
    refine W_sub _ (tk6 0 1 2 3 8 9) ?_
    refine W_seq (W_block ?_)
    refine W_held (fun _ => True) 18 rfl (by kernel_rfl) ?_
    refine LH_take (i := 0) rfl (fun h_ hI_ => Y_move rfl) rfl rfl rfl (by kernel_rfl) (by kernel_rfl) (by kernel_rfl) (fun _ _ _ => by rintro ⟨_, _, h_, _⟩; cases h_) trivial ?_
    refine LH_take (i := 1) rfl (fun h_ hI_ => Y_move rfl) rfl rfl rfl (by kernel_rfl) (by kernel_rfl) (by kernel_rfl) (fun _ _ _ => by rintro ⟨_, _, h_, _⟩; cases h_) trivial ?_
    refine LH_take (i := 2) rfl (fun h_ hI_ => Y_move rfl) rfl rfl rfl (by kernel_rfl) (by kernel_rfl) (by kernel_rfl) (fun _ _ _ => by rintro ⟨_, _, h_, _⟩; cases h_) trivial ?_
    refine LH_take (i := 3) rfl (fun h_ hI_ => Y_move rfl) rfl rfl rfl (by kernel_rfl) (by kernel_rfl) (by kernel_rfl) (fun _ _ _ => by rintro ⟨_, _, h_, _⟩; cases h_) trivial ?_
    refine LH_take (i := 4) rfl (fun h_ hI_ => Y_sub rfl rfl (by omega) (by omega)) rfl rfl rfl (by kernel_rfl) (by kernel_rfl) (by kernel_rfl) (fun _ _ _ => by rintro ⟨_, _, h_, _⟩; cases h_) trivial ?_
    refine LH_take (i := 5) rfl (fun h_ hI_ => Y_move rfl) rfl rfl rfl (by kernel_rfl) (by kernel_rfl) (by kernel_rfl) (fun _ _ _ => by rintro ⟨_, _, h_, _⟩; cases h_) trivial ?_
    refine LH_take (i := 6) rfl (fun h_ hI_ => Y_move rfl) rfl rfl rfl (by kernel_rfl) (by kernel_rfl) (by kernel_rfl) (fun _ _ _ => by rintro ⟨_, _, h_, _⟩; cases h_) trivial ?_
    refine LH_take (i := 7) rfl (fun h_ hI_ => Y_sub rfl rfl (by omega) (by omega)) rfl rfl rfl (by kernel_rfl) (by kernel_rfl) (by kernel_rfl) (fun _ _ _ => by rintro ⟨_, _, h_, _⟩; cases h_) trivial ?_
    refine LH_take (i := 8) rfl (fun h_ hI_ => Y_idxB Tryz.underlying22 (show _ = some 6 by kernel_rfl) rfl rfl (by first | omega | (simp; omega)) (by first | omega | (simp; omega))) rfl rfl rfl (by kernel_rfl) (by kernel_rfl) (by kernel_rfl) (fun _ _ _ => by rintro ⟨_, _, h_, _⟩; cases h_) trivial ?_
    refine LH_take (i := 10) rfl (fun h_ hI_ => Y_move rfl) rfl rfl rfl (by kernel_rfl) (by kernel_rfl) (by kernel_rfl) (fun _ _ _ => by rintro ⟨_, _, h_, _⟩; cases h_) trivial ?_
    refine LH_take (i := 11) rfl (fun h_ hI_ => Y_move rfl) rfl rfl rfl (by kernel_rfl) (by kernel_rfl) (by kernel_rfl) (fun _ _ _ => by rintro ⟨_, _, h_, _⟩; cases h_) trivial ?_
    refine LH_take (i := 12) rfl (fun h_ hI_ => Y_idxB Tryz.underlying22 (show _ = some 6 by kernel_rfl) rfl rfl (by first | omega | (simp; omega)) (by first | omega | (simp; omega))) rfl rfl rfl (by kernel_rfl) (by kernel_rfl) (by kernel_rfl) (fun _ _ _ => by rintro ⟨_, _, h_, _⟩; cases h_) trivial ?_
    refine LH_two (i := 9) (j := 13) (by kernel_rfl) ?_ ?_
    ·have hq20 : Okp nodS h21 pd (at_nod Ld ((j : Int) - 1).toNat) := (hb2.ext hx19).okp (by first | omega | (simp; omega))
     refine LO_yld (i := 9) rfl (Y_ldrA0 (k := ((j : Int) - 1).toNat) (us := [.int .i64 ((at_nod Ld ((j : Int) - 1).toNat).kind), str ((at_nod Ld ((j : Int) - 1).toNat).path), .int .i64 ((at_nod Ld ((j : Int) - 1).toNat).mode), str ((at_nod Ld ((j : Int) - 1).toNat).target), ((at_nod Ld ((j : Int) - 1).toNat).dv), .int .i64 ((at_nod Ld ((j : Int) - 1).toNat).cls)]) Tryz.underlying50 rfl (show _ = some 6 by kernel_rfl) rfl rfl ((hb2.ext hx19).rows (by first | omega | (simp [hN]; omega))) (by first | omega | (simp; omega)) rfl) rfl rfl rfl trivial ?_
     refine LH_one (i := 13) (by kernel_rfl) ?_
     have hq21 : Okp nodS h21 pd (at_nod Ld ((j : Int)).toNat) := (hb2.ext hx19).okp (by first | omega | (simp; omega))
     refine LO_yld (i := 13) rfl (Y_ldrA0 (k := ((j : Int)).toNat) (us := [.int .i64 ((at_nod Ld ((j : Int)).toNat).kind), str ((at_nod Ld ((j : Int)).toNat).path), .int .i64 ((at_nod Ld ((j : Int)).toNat).mode), str ((at_nod Ld ((j : Int)).toNat).target), ((at_nod Ld ((j : Int)).toNat).dv), .int .i64 ((at_nod Ld ((j : Int)).toNat).cls)]) Tryz.underlying50 rfl (show _ = some 6 by kernel_rfl) rfl rfl ((hb2.ext hx19).rows (by first | omega | (simp [hN]; omega))) (by first | omega | (simp; omega)) rfl) rfl rfl rfl trivial ?_
     refine LH_take (i := 14) rfl (fun h_ hI_ => Y_idxB Tryz.underlying22 (show _ = some 6 by kernel_rfl) rfl rfl (by first | omega | (simp; omega)) (by first | omega | (simp; omega))) rfl rfl rfl (by kernel_rfl) (by kernel_rfl) (by kernel_rfl) (fun _ _ _ => by rintro ⟨_, _, h_, _⟩; cases h_) trivial ?_
     refine LH_one (i := 15) (by kernel_rfl) ?_
     refine LO_dos (i := 15) rfl (D_rsetA (S := nodS) (us := [.int .i64 ((at_nod Ld ((j : Int) - 1).toNat).kind), str ((at_nod Ld ((j : Int) - 1).toNat).path), .int .i64 ((at_nod Ld ((j : Int) - 1).toNat).mode), str ((at_nod Ld ((j : Int) - 1).toNat).target), ((at_nod Ld ((j : Int) - 1).toNat).dv), .int .i64 ((at_nod Ld ((j : Int) - 1).toNat).cls)]) (a := (at_nod Ld ((j : Int) - 1).toNat)) (k := ((j : Int)).toNat) (show _ = some 6 by kernel_rfl) rfl rfl rfl rfl (hb2.ext hx19) (by first | omega | (simp; omega)) rfl hq20.1 hq20.2 hpB) rfl rfl ?_
     rintro h22 ⟨hx22, -, hb23⟩
     refine ⟨trivial, ?_⟩
     refine LH_take (i := 16) rfl (fun h_ hI_ => Y_idxB Tryz.underlying22 (show _ = some 6 by kernel_rfl) rfl rfl (by first | omega | (simp; omega)) (by first | omega | (simp; omega))) rfl rfl rfl (by kernel_rfl) (by kernel_rfl) (by kernel_rfl) (fun _ _ _ => by rintro ⟨_, _, h_, _⟩; cases h_) trivial ?_
     refine LH_one (i := 17) (by kernel_rfl) ?_
     have hc26 := (hq21.only hx22 hpB)
     refine LO_dos (i := 17) rfl (D_rsetA (S := nodS) (us := [.int .i64 ((at_nod Ld ((j : Int)).toNat).kind), str ((at_nod Ld ((j : Int)).toNat).path), .int .i64 ((at_nod Ld ((j : Int)).toNat).mode), str ((at_nod Ld ((j : Int)).toNat).target), ((at_nod Ld ((j : Int)).toNat).dv), .int .i64 ((at_nod Ld ((j : Int)).toNat).cls)]) (a := (at_nod Ld ((j : Int)).toNat)) (k := ((j : Int) - 1).toNat) (show _ = some 6 by kernel_rfl) rfl rfl rfl rfl hb23 (by first | omega | (simp; omega)) rfl hc26.1 hc26.2 hpB) rfl rfl ?_
     rintro h23 ⟨hx24, -, hb25⟩
     refine ⟨trivial, ?_⟩
     refine LH_done (by kernel_rfl) ?_
     refine X_block (X_then ?_)
     refine W_sub _ (tk6 0 1 2 3 8 9) ?_
     refine W_region ?_
     refine Mv ?_
     refine Ly (Y_sub rfl rfl (by omega) (by omega)) ?_
     refine Av ?_
     refine L_nil ?_
     refine X_loop ((j - 1, ((Ld.set (((j : Int)).toNat) (at_nod Ld ((j : Int) - 1).toNat)).set (((j : Int) - 1).toNat) (at_nod Ld ((j : Int)).toNat)))) (sk5 0 1 2 3 8 rfl rfl rfl rfl rfl (sk1 9 (lki rfl (by omega)) sN)) ?_ ?_
     ·exact ⟨by omega, by omega, by simp [hLd], by rw [show ((j : Int) - 1).toNat = j - 1 by omega] at d ⊢; exact (insf_yes (by omega) d).symm.trans hTj, (Only.trans (Only.trans (Only.trans (Only.trans (Only.refl _ _) hx2 (fun _ hb_ => .inl hb_)) hx19 (fun _ hb_ => by cases hb_)) hx22 (fun _ hb_ => .inl hb_)) hx24 (fun _ hb_ => .inl hb_)), hb25⟩
     (try dsimp only)
     omega
    have hq27 : Okp nodS h21 pd (at_nod Ld ((j : Int)).toNat) := (hb2.ext hx19).okp (by first | omega | (simp; omega))
    refine LO_yld (i := 13) rfl (Y_ldrA0 (k := ((j : Int)).toNat) (us := [.int .i64 ((at_nod Ld ((j : Int)).toNat).kind), str ((at_nod Ld ((j : Int)).toNat).path), .int .i64 ((at_nod Ld ((j : Int)).toNat).mode), str ((at_nod Ld ((j : Int)).toNat).target), ((at_nod Ld ((j : Int)).toNat).dv), .int .i64 ((at_nod Ld ((j : Int)).toNat).cls)]) Tryz.underlying50 rfl (show _ = some 6 by kernel_rfl) rfl rfl ((hb2.ext hx19).rows (by first | omega | (simp [hN]; omega))) (by first | omega | (simp; omega)) rfl) rfl rfl rfl trivial ?_
    refine LH_one (i := 9) (by kernel_rfl) ?_
    have hq28 : Okp nodS h21 pd (at_nod Ld ((j : Int) - 1).toNat) := (hb2.ext hx19).okp (by first | omega | (simp; omega))
    refine LO_yld (i := 9) rfl (Y_ldrA0 (k := ((j : Int) - 1).toNat) (us := [.int .i64 ((at_nod Ld ((j : Int) - 1).toNat).kind), str ((at_nod Ld ((j : Int) - 1).toNat).path), .int .i64 ((at_nod Ld ((j : Int) - 1).toNat).mode), str ((at_nod Ld ((j : Int) - 1).toNat).target), ((at_nod Ld ((j : Int) - 1).toNat).dv), .int .i64 ((at_nod Ld ((j : Int) - 1).toNat).cls)]) Tryz.underlying50 rfl (show _ = some 6 by kernel_rfl) rfl rfl ((hb2.ext hx19).rows (by first | omega | (simp [hN]; omega))) (by first | omega | (simp; omega)) rfl) rfl rfl rfl trivial ?_
    refine LH_take (i := 14) rfl (fun h_ hI_ => Y_idxB Tryz.underlying22 (show _ = some 6 by kernel_rfl) rfl rfl (by first | omega | (simp; omega)) (by first | omega | (simp; omega))) rfl rfl rfl (by kernel_rfl) (by kernel_rfl) (by kernel_rfl) (fun _ _ _ => by rintro ⟨_, _, h_, _⟩; cases h_) trivial ?_
    refine LH_one (i := 15) (by kernel_rfl) ?_
    refine LO_dos (i := 15) rfl (D_rsetA (S := nodS) (us := [.int .i64 ((at_nod Ld ((j : Int) - 1).toNat).kind), str ((at_nod Ld ((j : Int) - 1).toNat).path), .int .i64 ((at_nod Ld ((j : Int) - 1).toNat).mode), str ((at_nod Ld ((j : Int) - 1).toNat).target), ((at_nod Ld ((j : Int) - 1).toNat).dv), .int .i64 ((at_nod Ld ((j : Int) - 1).toNat).cls)]) (a := (at_nod Ld ((j : Int) - 1).toNat)) (k := ((j : Int)).toNat) (show _ = some 6 by kernel_rfl) rfl rfl rfl rfl (hb2.ext hx19) (by first | omega | (simp; omega)) rfl hq28.1 hq28.2 hpB) rfl rfl ?_
    rintro h24 ⟨hx29, -, hb30⟩
    refine ⟨trivial, ?_⟩
    refine LH_take (i := 16) rfl (fun h_ hI_ => Y_idxB Tryz.underlying22 (show _ = some 6 by kernel_rfl) rfl rfl (by first | omega | (simp; omega)) (by first | omega | (simp; omega))) rfl rfl rfl (by kernel_rfl) (by kernel_rfl) (by kernel_rfl) (fun _ _ _ => by rintro ⟨_, _, h_, _⟩; cases h_) trivial ?_
    refine LH_one (i := 17) (by kernel_rfl) ?_
    have hc33 := (hq27.only hx29 hpB)
    refine LO_dos (i := 17) rfl (D_rsetA (S := nodS) (us := [.int .i64 ((at_nod Ld ((j : Int)).toNat).kind), str ((at_nod Ld ((j : Int)).toNat).path), .int .i64 ((at_nod Ld ((j : Int)).toNat).mode), str ((at_nod Ld ((j : Int)).toNat).target), ((at_nod Ld ((j : Int)).toNat).dv), .int .i64 ((at_nod Ld ((j : Int)).toNat).cls)]) (a := (at_nod Ld ((j : Int)).toNat)) (k := ((j : Int) - 1).toNat) (show _ = some 6 by kernel_rfl) rfl rfl rfl rfl hb30 (by first | omega | (simp; omega)) rfl hc33.1 hc33.2 hpB) rfl rfl ?_
    rintro h25 ⟨hx31, -, hb32⟩
    refine ⟨trivial, ?_⟩
    refine LH_done (by kernel_rfl) ?_
    refine X_block (X_then ?_)
    refine W_sub _ (tk6 0 1 2 3 8 9) ?_
    refine W_region ?_
    refine Mv ?_
    refine Ly (Y_sub rfl rfl (by omega) (by omega)) ?_
    refine Av ?_
    refine L_nil ?_
    refine X_loop ((j - 1, ((Ld.set (((j : Int)).toNat) (at_nod Ld ((j : Int) - 1).toNat)).set (((j : Int) - 1).toNat) (at_nod Ld ((j : Int)).toNat)))) (sk5 0 1 2 3 8 rfl rfl rfl rfl rfl (sk1 9 (lki rfl (by omega)) sN)) ?_ ?_
    ·exact ⟨by omega, by omega, by simp [hLd], by rw [show ((j : Int) - 1).toNat = j - 1 by omega] at d ⊢; exact (insf_yes (by omega) d).symm.trans hTj, (Only.trans (Only.trans (Only.trans (Only.trans (Only.refl _ _) hx2 (fun _ hb_ => .inl hb_)) hx19 (fun _ hb_ => by cases hb_)) hx29 (fun _ hb_ => .inl hb_)) hx31 (fun _ hb_ => .inl hb_)), hb32⟩
    (try dsimp only)
    omega
   refine W_exit ?_
   refine X_then_exit (X_then_exit ?_)
   refine X_block_hit ?_
   refine X_block (X_then ?_)
   refine W_sub _ (tk5 0 1 2 3 8) ?_
   refine W_region ?_
   refine Mv ?_
   refine Ly (Y_add rfl rfl (by omega) (by omega)) ?_
   refine Av ?_
   refine L_nil ?_
   refine X_loop ((i + 1, Ld)) (tk5 0 1 2 3 8) ?_ ?_
   ·exact ⟨by omega, hLd, by rw [show ((j : Int) - 1).toNat = j - 1 by omega] at d; have e := insf_no (a := a.toNat) (j := j) (L := Ld) (fun q => d q.2); have e2 := (iso_step (a := a.toNat) (i := i) (L := Lc) (n := b.toNat - i) (by omega)).symm.trans hT; rw [← hTj, e] at e2; rw [show b.toNat - (i + 1) = b.toNat - i - 1 by omega]; exact e2, (Only.trans (Only.trans (Only.refl _ _) hx2 (fun _ hb_ => .inl hb_)) hx19 (fun _ hb_ => by cases hb_)), (hb2.ext hx19)⟩
   (try dsimp only)
   omega
  refine W_pers [(0, .slice (some ⟨B, 0, none⟩) N N), (1, .int .i64 (a)), (2, .int .i64 (b)), (3, .func (.func 33) #[] #[]), (8, .int .i64 ((i : Int))), (9, .int .i64 ((j : Int)))] (tk6 0 1 2 3 8 9) (by kernel_rfl) ?_
  refine LP_op 0 (fun _ vv => .int .i64 ((j : Int)) = vv) [] rfl rfl (by kernel_rfl) (fun _ _ _ _ p => p) ?_ ?_
  ·intro h26 hx34
   refine Needs_nil ?_
   refine Stp_yld (Y_move rfl) rfl ?_
   exact rfl
  refine LP_op 1 (fun _ vv => .int .i64 (a) = vv) [] rfl rfl (by kernel_rfl) (fun _ _ _ _ p => p) ?_ ?_
  ·intro h27 hx35
   refine Needs_nil ?_
   refine Stp_yld (Y_move rfl) rfl ?_
   exact rfl
  refine LP_op 2 (fun _ vv => .bool (decide (a < (j : Int))) = vv) [(0, 18), (1, 19)] rfl rfl (by kernel_rfl) (fun _ _ _ _ p => p) ?_ ?_
  ·intro h28 hx36
   rintro _ rfl
   rintro _ rfl
   refine Needs_nil ?_
   refine Stp_yld (Y_gtr rfl rfl) rfl ?_
   exact rfl
  refine LP_op 3 (fun _ vv => .bool false = vv) [(2, 20)] rfl rfl (by kernel_rfl) (fun _ _ _ _ p => p) ?_ ?_
  ·intro h29 hx37
   rintro _ rfl
   refine Needs_nil ?_
   refine Stp_yld (Y_move rfl) rfl ?_
   exact (congrArg Value.bool (decide_eq_false (by exact hja))).symm
  refine LP_op 4 (fun _ vv => undef = vv) [(3, 21)] rfl rfl (by kernel_rfl) (fun _ _ _ _ p => p) ?_ ?_
  ·intro h30 hx38
   rintro _ rfl
   refine Needs_nil ?_
   refine Stp_skip rfl ?_
   exact rfl
  refine LP_op 5 (fun _ vv => undef = vv) [(3, 21)] rfl rfl (by kernel_rfl) (fun _ _ _ _ p => p) ?_ ?_
  ·intro h31 hx39
   rintro _ rfl
   refine Needs_nil ?_
   refine Stp_skip rfl ?_
   exact rfl
  refine LP_op 6 (fun _ vv => undef = vv) [(3, 21)] rfl rfl (by kernel_rfl) (fun _ _ _ _ p => p) ?_ ?_
  ·intro h32 hx40
   rintro _ rfl
   refine Needs_nil ?_
   refine Stp_skip rfl ?_
   exact rfl
  refine LP_op 7 (fun _ vv => undef = vv) [(6, 24), (3, 21), (5, 23)] rfl rfl (by kernel_rfl) (fun _ _ _ _ p => p) ?_ ?_
  ·intro h33 hx41
   rintro _ rfl
   rintro _ rfl
   rintro _ rfl
   refine Needs_nil ?_
   refine Stp_skip rfl ?_
   exact rfl
  refine LP_op 8 (fun _ vv => undef = vv) [(7, 25), (3, 21)] rfl rfl (by kernel_rfl) (fun _ _ _ _ p => p) ?_ ?_
  ·intro h34 hx42
   rintro _ rfl
   rintro _ rfl
   refine Needs_nil ?_
   refine Stp_skip rfl ?_
   exact rfl
  refine LP_op 9 (fun _ vv => undef = vv) [(3, 21)] rfl rfl (by kernel_rfl) (fun _ _ _ _ p => p) ?_ ?_
  ·intro h35 hx43
   rintro _ rfl
   refine Needs_nil ?_
   refine Stp_skip rfl ?_
   exact rfl
  refine LP_op 10 (fun _ vv => undef = vv) [(3, 21)] rfl rfl (by kernel_rfl) (fun _ _ _ _ p => p) ?_ ?_
  ·intro h36 hx44
   rintro _ rfl
   refine Needs_nil ?_
   refine Stp_skip rfl ?_
   exact rfl
  refine LP_op 11 (fun _ vv => undef = vv) [(10, 28), (3, 21)] rfl rfl (by kernel_rfl) (fun _ _ _ _ p => p) ?_ ?_
  ·intro h37 hx45
   rintro _ rfl
   rintro _ rfl
   refine Needs_nil ?_
   refine Stp_skip rfl ?_
   exact rfl
  refine LP_op 12 (fun _ vv => undef = vv) [(3, 21), (9, 27), (11, 29)] rfl rfl (by kernel_rfl) (fun _ _ _ _ p => p) ?_ ?_
  ·intro h38 hx46
   rintro _ rfl
   rintro _ rfl
   rintro _ rfl
   refine Needs_nil ?_
   refine Stp_skip rfl ?_
   exact rfl
  refine LP_op 13 (fun _ vv => undef = vv) [(3, 21), (12, 30)] rfl rfl (by kernel_rfl) (fun _ _ _ _ p => p) ?_ ?_
  ·intro h39 hx47
   rintro _ rfl
   rintro _ rfl
   refine Needs_nil ?_
   refine Stp_skip rfl ?_
   exact rfl
  refine LP_op 14 (fun _ vv => undef = vv) [(8, 26), (3, 21), (4, 22), (13, 31)] rfl rfl (by kernel_rfl) (fun _ _ _ _ p => p) ?_ ?_
  ·intro h40 hx48
   rintro _ rfl
   rintro _ rfl
   rintro _ rfl
   rintro _ rfl
   refine Needs_nil ?_
   refine Stp_skip rfl ?_
   exact rfl
  refine LP_op 15 (fun _ vv => undef = vv) [(14, 32), (3, 21)] rfl rfl (by kernel_rfl) (fun _ _ _ _ p => p) ?_ ?_
  ·intro h41 hx49
   rintro _ rfl
   rintro _ rfl
   refine Needs_nil ?_
   refine Stp_skip rfl ?_
   exact rfl
  refine LP_op 16 (fun _ vv => .bool false = vv) [(15, 33), (3, 21)] rfl rfl (by kernel_rfl) (fun _ _ _ _ p => p) ?_ ?_
  ·intro h42 hx50
   rintro _ rfl
   rintro _ rfl
   refine Needs_nil ?_
   refine Stp_yld (Y_pick_f rfl rfl) rfl ?_
   exact rfl
  refine LP_end [(16, 34)] rfl (by kernel_rfl) rfl ?_
  intro h43 hx51
  rintro _ rfl
  refine Needs_nil ?_
  refine X_then ?_
  refine W_false rfl ?_
  refine W_exit ?_
  refine X_then_exit (X_then_exit ?_)
  refine X_block_hit ?_
  refine X_block (X_then ?_)
  refine W_sub _ (tk5 0 1 2 3 8) ?_
  refine W_region ?_
  refine Mv ?_
  refine Ly (Y_add rfl rfl (by omega) (by omega)) ?_
  refine Av ?_
  refine L_nil ?_
  refine X_loop ((i + 1, Ld)) (tk5 0 1 2 3 8) ?_ ?_
  ·exact ⟨by omega, hLd, by have e := insf_no (a := a.toNat) (j := j) (L := Ld) (fun q => hja (by omega)); have e2 := (iso_step (a := a.toNat) (i := i) (L := Lc) (n := b.toNat - i) (by omega)).symm.trans hT; rw [← hTj, e] at e2; rw [show b.toNat - (i + 1) = b.toNat - i - 1 by omega]; exact e2, (Only.trans (Only.trans (Only.refl _ _) hx2 (fun _ hb_ => .inl hb_)) hx51 (fun _ hb_ => by cases hb_)), (hb2.ext hx51)⟩
  (try dsimp only)
  omega
 refine W_exit ?_
 refine X_then_exit (X_then_exit ?_)
 refine X_block_hit ?_
 refine X_end ?_
 refine X_end0 rfl ?_
 refine ⟨rfl, (Only.trans (Only.refl _ _) hx (fun _ hb_ => .inl hb_)), RBuf.congr hb1 ?_⟩
 rw [← hT, show b.toNat - i = 0 by omega]; rfl

end Go.Xp

/- The library's stable sort of nodes: the merge in place: what the code does, step by step. -/
set_option linter.unusedSimpArgs false
set_option linter.unusedVariables false
set_option linter.unusedSectionVars false
namespace Go.Xp
open Go.Proofs

section
variable {P : Program} {n : Nat} {e : Env} {h : Heap} {d : Option Tmp} {t : TypeId} {pos : String} {af : Array Edge} {g : Option (Nat × Bool)}
variable {T T' : TypeId} {x y : Operand} {k' : IntKind} {p q : Int}
theorem Y_shru (hx : ev e x = some (.int .u64 p)) (hy : ev e y = some (.int k' q)) (hq : 0 ≤ q) (hq' : q ≤ 64) : Yld P n e h ⟨d, .binOp .shr T x y T', t, pos, af, g⟩ (.int .u64 (p / 2 ^ q.toNat)) := by
  have := Y_shrw (P := P) (n := n) (h := h) (d := d) (t := t) (pos := pos) (af := af) (g := g) (T := T) (T' := T') hx hy hq
  rw [Nat.min_eq_left (show q.toNat ≤ IntKind.u64.bits by show q.toNat ≤ 64; omega), Int.fdiv_eq_ediv_of_nonneg p (Int.le_of_lt (Int.pow_pos (by decide)))] at this
  exact this
end
theorem half_eq (i j : Nat) : ((i : Int) + (j : Int)) / 2 ^ (Int.toNat 1) = (((i + j) / 2 : Nat) : Int) := by
  show ((i : Int) + (j : Int)) / 2 = _
  omega
/-- Where the binary search ends. -/
def bsr (p : Nat → Bool) : Nat → Nat → Nat → Nat
  | 0, i, _ => i
  | f + 1, i, j => if i < j then (if p ((i + j) / 2) = true then bsr p f ((i + j) / 2 + 1) j else bsr p f i ((i + j) / 2)) else i
theorem bsr_yes {p : Nat → Bool} {f i j : Nat} (hf : 0 < f) (h : i < j) (hp : p ((i + j) / 2) = true) : bsr p f i j = bsr p (f - 1) ((i + j) / 2 + 1) j := by
  obtain ⟨g, rfl⟩ : ∃ g, f = g + 1 := ⟨f - 1, by omega⟩
  conv => lhs; unfold bsr
  rw [if_pos h, if_pos hp]; rfl
theorem bsr_no {p : Nat → Bool} {f i j : Nat} (hf : 0 < f) (h : i < j) (hp : p ((i + j) / 2) = false) : bsr p f i j = bsr p (f - 1) i ((i + j) / 2) := by
  obtain ⟨g, rfl⟩ : ∃ g, f = g + 1 := ⟨f - 1, by omega⟩
  conv => lhs; unfold bsr
  rw [if_pos h, if_neg (by simp [hp])]; rfl
theorem bsr_end {p : Nat → Bool} {f i j : Nat} (h : ¬ i < j) : bsr p f i j = i := by
  cases f with
  | zero => rfl
  | succ g => unfold bsr; rw [if_neg h]
theorem bsr_le {p : Nat → Bool} : ∀ {f i j : Nat}, i ≤ j → i ≤ bsr p f i j ∧ bsr p f i j ≤ j
  | 0, _, _, h => ⟨Nat.le_refl _, h⟩
  | f + 1, i, j, h => by
    by_cases h1 : i < j
    · cases h2 : p ((i + j) / 2)
      · rw [bsr_no (by omega) h1 h2]
        have := bsr_le (p := p) (f := f) (i := i) (j := (i + j) / 2) (by omega)
        show i ≤ bsr p f i ((i + j) / 2) ∧ _
        exact ⟨this.1, Nat.le_trans this.2 (by omega)⟩
      · rw [bsr_yes (by omega) h1 h2]
        have := bsr_le (p := p) (f := f) (i := (i + j) / 2 + 1) (j := j) (by omega)
        exact ⟨Nat.le_trans (by omega) this.1, this.2⟩
    · rw [bsr_end h1]; exact ⟨Nat.le_refl _, h⟩
def shl : Nat → Nat → List Nod → List Nod
  | _, 0, L => L
  | k, n + 1, L => shl (k + 1) n (swp L k (k + 1))
def shr : Nat → Nat → List Nod → List Nod
  | _, 0, L => L
  | k, n + 1, L => shr (k - 1) n (swp L k (k - 1))
@[simp] theorem shl_len : ∀ (n k : Nat) (L : List Nod), (shl k n L).length = L.length
  | 0, _, _ => rfl
  | n + 1, k, L => by unfold shl; rw [shl_len n]; simp
@[simp] theorem shr_len : ∀ (n k : Nat) (L : List Nod), (shr k n L).length = L.length
  | 0, _, _ => rfl
  | n + 1, k, L => by unfold shr; rw [shr_len n]; simp
theorem shl_step {k n : Nat} {L : List Nod} (h : 0 < n) : shl k n L = shl (k + 1) (n - 1) (swp L k (k + 1)) := by
  obtain ⟨g, rfl⟩ : ∃ g, n = g + 1 := ⟨n - 1, by omega⟩
  rfl
theorem shr_step {k n : Nat} {L : List Nod} (h : 0 < n) : shr k n L = shr (k - 1) (n - 1) (swp L k (k - 1)) := by
  obtain ⟨g, rfl⟩ : ∃ g, n = g + 1 := ⟨n - 1, by omega⟩
  rfl
def pl1 (L : List Nod) (a : Nat) (c : Nat) : Bool := decide (nlt (at_nod L c) (at_nod L a))
def pl2 (L : List Nod) (m : Nat) (c : Nat) : Bool := decide (¬ nlt (at_nod L m) (at_nod L c))
def pl3 (L : List Nod) (p : Nat) (c : Nat) : Bool := decide (¬ nlt (at_nod L (p - c)) (at_nod L c))
def sS0 (a m b : Nat) : Nat := if (a + b) / 2 < m then (a + b) / 2 + m - b else a
def sR0 (a m b : Nat) : Nat := if (a + b) / 2 < m then (a + b) / 2 else m
/-- Where the merge cuts the first run. -/
def sS (L : List Nod) (a m b : Nat) : Nat := bsr (pl3 L ((a + b) / 2 + m - 1)) (sR0 a m b - sS0 a m b) (sS0 a m b) (sR0 a m b)
def smf : Nat → Nat → Nat → Nat → List Nod → List Nod
  | 0, _, _, _, L => L
  | f + 1, a, m, b, L =>
    if m - a = 1 then shl a (bsr (pl1 L a) (b - m) m b - 1 - a) L
    else if b - m = 1 then shr m (m - bsr (pl2 L m) (m - a) a m) L
    else
      let s := sS L a m b
      let c := (a + b) / 2
      let e := c + m - s
      let L1 := if s < m ∧ m < e then rot L s m e else L
      let L2 := if a < s ∧ s < c then smf f a s c L1 else L1
      if c < e ∧ e < b then smf f c e b L2 else L2
@[simp] theorem smf_len : ∀ (f a m b : Nat) (L : List Nod), (smf f a m b L).length = L.length
  | 0, _, _, _, _ => rfl
  | f + 1, a, m, b, L => by
    have h1 : ∀ X : List Nod, X.length = L.length → (if a < sS L a m b ∧ sS L a m b < (a + b) / 2 then smf f a (sS L a m b) ((a + b) / 2) X else X).length = L.length := fun X hX => by
      split
      · rw [smf_len f]; exact hX
      · exact hX
    unfold smf
    split
    · simp
    · split
      · simp
      · dsimp only
        split
        · rw [smf_len f, h1]; split <;> simp
        · rw [h1]; split <;> simp
theorem smf_1 {f a m b : Nat} {L : List Nod} (h : m - a = 1) : smf (f + 1) a m b L = shl a (bsr (pl1 L a) (b - m) m b - 1 - a) L := by unfold smf; rw [if_pos h]
theorem smf_2 {f a m b : Nat} {L : List Nod} (h : ¬ m - a = 1) (h2 : b - m = 1) : smf (f + 1) a m b L = shr m (m - bsr (pl2 L m) (m - a) a m) L := by unfold smf; rw [if_neg h, if_pos h2]
theorem smf_3 {f a m b s : Nat} {L : List Nod} (h : ¬ m - a = 1) (h2 : ¬ b - m = 1) (hs : sS L a m b = s) : smf (f + 1) a m b L = if (a + b) / 2 < (a + b) / 2 + m - s ∧ (a + b) / 2 + m - s < b then smf f ((a + b) / 2) ((a + b) / 2 + m - s) b (if a < s ∧ s < (a + b) / 2 then smf f a s ((a + b) / 2) (if s < m ∧ m < (a + b) / 2 + m - s then rot L s m ((a + b) / 2 + m - s) else L) else (if s < m ∧ m < (a + b) / 2 + m - s then rot L s m ((a + b) / 2 + m - s) else L)) else (if a < s ∧ s < (a + b) / 2 then smf f a s ((a + b) / 2) (if s < m ∧ m < (a + b) / 2 + m - s then rot L s m ((a + b) / 2 + m - s) else L) else (if s < m ∧ m < (a + b) / 2 + m - s then rot L s m ((a + b) / 2 + m - s) else L)) := by
  subst hs
  conv => lhs; unfold smf
  rw [if_neg h, if_neg h2]

theorem sbnd {a m b : Nat} (h1 : a < m) (h2 : m < b) (h3 : ¬ (m : Int) - (a : Int) = 1) (h4 : ¬ (b : Int) - (m : Int) = 1) : a ≤ sS0 a m b ∧ sS0 a m b ≤ sR0 a m b ∧ sR0 a m b ≤ m ∧ sR0 a m b ≤ (a + b) / 2 ∧ (a + b) / 2 + m ≤ sS0 a m b + b := by
  unfold sS0 sR0; split <;> omega
theorem pl3_t {L : List Nod} {p c : Nat} {i : Int} (h : i.toNat = p - c) (d : ¬ pcmp (at_nod L i.toNat).path (at_nod L c).path < 0) : pl3 L p c = true := decide_eq_true (h ▸ d)
theorem pl3_f {L : List Nod} {p c : Nat} {i : Int} (h : i.toNat = p - c) (d : ¬ ¬ pcmp (at_nod L i.toNat).path (at_nod L c).path < 0) : pl3 L p c = false := decide_eq_false (h ▸ d)

set_option maxRecDepth 100000 in
theorem sort_symMerge_step (h : Heap) (B : Nat) (N : Nat) (L : List Nod) (pd : Nat → Prop) (hb : RBuf nodS h B pd L) (a : Nat) (m : Nat) (b : Nat) (hpB : ¬ pd B) (hN : N = L.length) (hm : L.length ≤ 1000000000000) (ha1 : a < m) (ha2 : m < b) (ha3 : b ≤ L.length) (f : Nat) (hf : b - a ≤ f + 1) (ih : ∀ (h : Heap) (B : Nat) (N : Nat) (L : List Nod) (pd : Nat → Prop) (hb : RBuf nodS h B pd L) (a m b : Nat) (hpB : ¬ pd B) (hN : N = L.length) (hm : L.length ≤ 1000000000000) (h1 : a < m) (h2 : m < b) (h3 : b ≤ L.length) (hf : b - a ≤ f), Cal Tryz.prog 78 #[.slice (some ⟨B, 0, none⟩) N N, .int .i64 (a : Int), .int .i64 (m : Int), .int .i64 (b : Int), .func (.func 33) #[] #[]] h (fun v h' => v = .tuple #[] ∧ Only [B] h h' ∧ RBuf nodS h' B pd (smf f a m b L))) : Cal Tryz.prog 78 #[.slice (some ⟨B, 0, none⟩) N N, .int .i64 ((a : Int)), .int .i64 ((m : Int)), .int .i64 ((b : Int)), .func (.func 33) #[] #[]] h (fun v h' => v = .tuple #[] ∧ Only [B] h h' ∧ RBuf nodS h' B pd (smf (f + 1) a m b L)) := by
 refine Cal_enter (args := [.slice (some ⟨B, 0, none⟩) N N, .int .i64 ((a : Int)), .int .i64 ((m : Int)), .int .i64 ((b : Int)), .func (.func 33) #[] #[]]) Tryz.func78 rfl rfl rfl (fun σ => ?_)
 refine W_seq (W_seq (W_region ?_))
 refine Mv ?_
 refine Mv ?_
 refine Ly (Y_sub rfl rfl (by omega) (by omega)) ?_
 refine Ly (Y_eql rfl rfl) ?_
 refine Nx ?_
 refine W_sub _ (tk6 28 0 1 2 3 4) ?_
 refine W_splitd rfl (fun q1 => ?_) (fun q1 => ?_)
 ·refine Wr ?_
  refine Mv ?_
  refine Av ?_
  refine Nx ?_
  refine W_sub _ (tk6 10 0 1 2 3 4) ?_
  refine Wr ?_
  refine Mv ?_
  refine Av ?_
  refine Nx ?_
  refine W_sub _ (tk7 11 10 0 1 2 3 4) ?_
  refine W_seq (W_block ?_)
  refine W_loop (S := Nat × Nat × Nat) (fun (g, i, j) => [(0, .slice (some ⟨B, 0, none⟩) N N), (1, .int .i64 ((a : Int))), (2, .int .i64 ((m : Int))), (3, .int .i64 ((b : Int))), (4, .func (.func 33) #[] #[]), (10, .int .i64 ((i : Int))), (11, .int .i64 ((j : Int)))]) (fun (g, i, j) h' => m ≤ i ∧ i ≤ j ∧ j ≤ b ∧ j - i ≤ g ∧ bsr (pl1 L a) g i j = bsr (pl1 L a) (b - m) m b ∧ Ext h h') (fun (g, i, j) => g) (b - m, m, b) (tk7 0 1 2 3 4 10 11) ?_ ?_
  ·exact ⟨by omega, by omega, by omega, by omega, rfl, (Ext.refl _)⟩
  rintro ⟨g, i, j⟩ h1 ⟨hi, hij, hjb, hg, hT, hx⟩
  show W _ _ _ _ _ [(0, .slice (some ⟨B, 0, none⟩) N N), (1, .int .i64 ((a : Int))), (2, .int .i64 ((m : Int))), (3, .int .i64 ((b : Int))), (4, .func (.func 33) #[] #[]), (10, .int .i64 ((i : Int))), (11, .int .i64 ((j : Int)))] _
  refine W_seq (W_seq (W_region ?_))
  refine Mv ?_
  refine Mv ?_
  refine Ly (Y_lss rfl rfl) ?_
  refine Nx ?_
  refine W_sub _ (tk8 33 0 1 2 3 4 10 11) ?_
  refine W_splitd rfl (fun c => ?_) (fun c => ?_)
  ·refine Ws ?_
   refine W_sub _ (tk7 0 1 2 3 4 10 11) ?_
   refine W_block (W_seq (W_region ?_))
   refine Mv ?_
   refine Mv ?_
   refine Ly (Y_add rfl rfl (by omega) (by omega)) ?_
   refine Ly (Y_convs Tryz.underlying3 Tryz.underlying132 rfl (wrap_u64b (by first | omega | (simp; omega)) (by first | omega | (simp; omega)))) ?_
   refine Ly (Y_shru rfl rfl (by first | omega | (simp; omega)) (by omega)) ?_
   refine Ly (Y_convs Tryz.underlying132 Tryz.underlying3 rfl (wrap_i64 (by first | omega | (simp; omega)) (by first | omega | (simp; omega)))) ?_
   refine Av ?_
   refine Nx ?_
   refine W_sub _ (tk8 12 0 1 2 3 4 10 11) ?_
   rw [half_eq]
   refine W_seq ?_
   refine W_pers [(12, .int .i64 ((((i + j) / 2 : Nat) : Int))), (0, .slice (some ⟨B, 0, none⟩) N N), (1, .int .i64 ((a : Int))), (2, .int .i64 ((m : Int))), (3, .int .i64 ((b : Int))), (4, .func (.func 33) #[] #[]), (10, .int .i64 ((i : Int))), (11, .int .i64 ((j : Int)))] (tk8 12 0 1 2 3 4 10 11) (by kernel_rfl) ?_
   refine LP_op 0 (fun _ vv => .func (.func 33) #[] #[] = vv) [] rfl rfl (by kernel_rfl) (fun _ _ _ _ p => p) ?_ ?_
   ·intro h2 hx1
    refine Needs_nil ?_
    refine Stp_yld (Y_move rfl) rfl ?_
    exact rfl
   refine LP_op 1 (fun _ vv => .slice (some ⟨B, 0, none⟩) N N = vv) [] rfl rfl (by kernel_rfl) (fun _ _ _ _ p => p) ?_ ?_
   ·intro h3 hx2
    refine Needs_nil ?_
    refine Stp_yld (Y_move rfl) rfl ?_
    exact rfl
   refine LP_op 2 (fun _ vv => .int .i64 ((((i + j) / 2 : Nat) : Int)) = vv) [] rfl rfl (by kernel_rfl) (fun _ _ _ _ p => p) ?_ ?_
   ·intro h4 hx3
    refine Needs_nil ?_
    refine Stp_yld (Y_move rfl) rfl ?_
    exact rfl
   refine LP_op 3 (fun _ vv => .pointer (some (elemAddr (.slice (some ⟨B, 0, none⟩) N N) (((((i + j) / 2 : Nat) : Int)).toNat * 6))) = vv) [(1, 41), (2, 42)] rfl rfl (by kernel_rfl) (fun _ _ _ _ p => p) ?_ ?_
   ·intro h5 hx4
    rintro _ rfl
    rintro _ rfl
    refine Needs_nil ?_
    refine Stp_yld (Y_idxB Tryz.underlying22 (show _ = some 6 by kernel_rfl) rfl rfl (by first | omega | (simp; omega)) (by first | omega | (simp; omega))) rfl ?_
    exact rfl
   refine LP_op 4 (fun _ vv => .agg #[.int .i64 ((at_nod L ((((i + j) / 2 : Nat) : Int)).toNat).kind), str ((at_nod L ((((i + j) / 2 : Nat) : Int)).toNat).path), .int .i64 ((at_nod L ((((i + j) / 2 : Nat) : Int)).toNat).mode), str ((at_nod L ((((i + j) / 2 : Nat) : Int)).toNat).target), ((at_nod L ((((i + j) / 2 : Nat) : Int)).toNat).dv), .int .i64 ((at_nod L ((((i + j) / 2 : Nat) : Int)).toNat).cls)] = vv) [(3, 43)] rfl rfl (by kernel_rfl) (fun _ _ _ _ p => p) ?_ ?_
   ·intro h6 hx5
    rintro _ rfl
    refine Needs_nil ?_
    refine Stp_yld (Y_ldrA0 (k := ((((i + j) / 2 : Nat) : Int)).toNat) (us := [.int .i64 ((at_nod L ((((i + j) / 2 : Nat) : Int)).toNat).kind), str ((at_nod L ((((i + j) / 2 : Nat) : Int)).toNat).path), .int .i64 ((at_nod L ((((i + j) / 2 : Nat) : Int)).toNat).mode), str ((at_nod L ((((i + j) / 2 : Nat) : Int)).toNat).target), ((at_nod L ((((i + j) / 2 : Nat) : Int)).toNat).dv), .int .i64 ((at_nod L ((((i + j) / 2 : Nat) : Int)).toNat).cls)]) Tryz.underlying50 rfl (show _ = some 6 by kernel_rfl) rfl rfl ((hb.ext (hx.trans hx5)).rows (by first | omega | (simp; omega))) (by first | omega | (simp; omega)) rfl) rfl ?_
    exact rfl
   refine LP_op 5 (fun _ vv => .slice (some ⟨B, 0, none⟩) N N = vv) [] rfl rfl (by kernel_rfl) (fun _ _ _ _ p => p) ?_ ?_
   ·intro h7 hx6
    refine Needs_nil ?_
    refine Stp_yld (Y_move rfl) rfl ?_
    exact rfl
   refine LP_op 6 (fun _ vv => .int .i64 ((a : Int)) = vv) [] rfl rfl (by kernel_rfl) (fun _ _ _ _ p => p) ?_ ?_
   ·intro h8 hx7
    refine Needs_nil ?_
    refine Stp_yld (Y_move rfl) rfl ?_
    exact rfl
   refine LP_op 7 (fun _ vv => .pointer (some (elemAddr (.slice (some ⟨B, 0, none⟩) N N) (((a : Int)).toNat * 6))) = vv) [(5, 45), (6, 46)] rfl rfl (by kernel_rfl) (fun _ _ _ _ p => p) ?_ ?_
   ·intro h9 hx8
    rintro _ rfl
    rintro _ rfl
    refine Needs_nil ?_
    refine Stp_yld (Y_idxB Tryz.underlying22 (show _ = some 6 by kernel_rfl) rfl rfl (by first | omega | (simp; omega)) (by first | omega | (simp; omega))) rfl ?_
    exact rfl
   refine LP_op 8 (fun _ vv => .agg #[.int .i64 ((at_nod L ((a : Int)).toNat).kind), str ((at_nod L ((a : Int)).toNat).path), .int .i64 ((at_nod L ((a : Int)).toNat).mode), str ((at_nod L ((a : Int)).toNat).target), ((at_nod L ((a : Int)).toNat).dv), .int .i64 ((at_nod L ((a : Int)).toNat).cls)] = vv) [(7, 47)] rfl rfl (by kernel_rfl) (fun _ _ _ _ p => p) ?_ ?_
   ·intro h10 hx9
    rintro _ rfl
    refine Needs_nil ?_
    refine Stp_yld (Y_ldrA0 (k := ((a : Int)).toNat) (us := [.int .i64 ((at_nod L ((a : Int)).toNat).kind), str ((at_nod L ((a : Int)).toNat).path), .int .i64 ((at_nod L ((a : Int)).toNat).mode), str ((at_nod L ((a : Int)).toNat).target), ((at_nod L ((a : Int)).toNat).dv), .int .i64 ((at_nod L ((a : Int)).toNat).cls)]) Tryz.underlying50 rfl (show _ = some 6 by kernel_rfl) rfl rfl ((hb.ext (hx.trans hx9)).rows (by first | omega | (simp; omega))) (by first | omega | (simp; omega)) rfl) rfl ?_
    exact rfl
   refine LP_op 9 (fun _ vv => .int .i64 (pcmp (at_nod L ((((i + j) / 2 : Nat) : Int)).toNat).path (at_nod L ((a : Int)).toNat).path) = vv) [(0, 40), (8, 48), (4, 44)] rfl rfl (by kernel_rfl) (fun _ _ _ _ p => p) ?_ ?_
   ·intro h11 hx10
    rintro _ rfl
    rintro _ rfl
    rintro _ rfl
    refine Needs_nil ?_
    refine Stp_call (E_callv (fs := []) (cs := []) (by kernel_rfl) rfl rfl) (canon_cmp _ (at_nod L ((((i + j) / 2 : Nat) : Int)).toNat) (show Bytes _ ((at_nod L ((((i + j) / 2 : Nat) : Int)).toNat).dv) ((at_nod L ((((i + j) / 2 : Nat) : Int)).toNat).data) from ((hb.ext (hx.trans hx10)).okp (k := ((((i + j) / 2 : Nat) : Int)).toNat) (by first | omega | (simp; omega))).1) (at_nod L ((a : Int)).toNat) (show Bytes _ ((at_nod L ((a : Int)).toNat).dv) ((at_nod L ((a : Int)).toNat).data) from ((hb.ext (hx.trans hx10)).okp (k := ((a : Int)).toNat) (by first | omega | (simp; omega))).1)) rfl ?_
    rintro _ h12 ⟨rfl, hx11⟩
    exact ⟨hx11, rfl⟩
   refine LP_op 10 (fun _ vv => .bool (decide ((pcmp (at_nod L ((((i + j) / 2 : Nat) : Int)).toNat).path (at_nod L ((a : Int)).toNat).path) < 0)) = vv) [(9, 49)] rfl rfl (by kernel_rfl) (fun _ _ _ _ p => p) ?_ ?_
   ·intro h13 hx12
    rintro _ rfl
    refine Needs_nil ?_
    refine Stp_yld (Y_lss rfl rfl) rfl ?_
    exact rfl
   refine LP_end [(10, 50)] rfl (by kernel_rfl) rfl ?_
   intro h14 hx13
   rintro _ rfl
   refine Needs_nil ?_
   refine X_then ?_
   refine W_splitd rfl (fun d => ?_) (fun d => ?_)
   ·refine W_region ?_
    refine Mv ?_
    refine Ly (Y_add rfl rfl (by omega) (by omega)) ?_
    refine Av ?_
    refine L_nil (X_block ?_)
    refine X_loop ((g - 1, (i + j) / 2 + 1, j)) (tk7 0 1 2 3 4 10 11) ?_ ?_
    ·exact ⟨by omega, by omega, by omega, by omega, (bsr_yes (by omega) (by omega) (decide_eq_true d)).symm.trans hT, (hx.trans hx13)⟩
    (try dsimp only)
    omega
   refine W_region ?_
   refine Mv ?_
   refine Av ?_
   refine L_nil (X_block ?_)
   refine X_loop ((g - 1, i, (i + j) / 2)) (tk7 0 1 2 3 4 10 11) ?_ ?_
   ·exact ⟨by omega, by omega, by omega, by omega, (bsr_no (by omega) (by omega) (decide_eq_false d)).symm.trans hT, (hx.trans hx13)⟩
   (try dsimp only)
   omega
  refine W_exit ?_
  refine X_then_exit (X_then_exit ?_)
  refine X_block_hit ?_
  refine X_then ?_
  refine W_sub _ (tk6 0 1 2 3 4 10) ?_
  refine W_seq (W_seq (W_region ?_))
  refine Mv ?_
  refine Av ?_
  refine Nx ?_
  refine W_sub _ (tk7 13 0 1 2 3 4 10) ?_
  refine W_block ?_
  refine W_loop (S := Nat × List Nod) (fun (k, Lc) => [(0, .slice (some ⟨B, 0, none⟩) N N), (1, .int .i64 ((a : Int))), (2, .int .i64 ((m : Int))), (3, .int .i64 ((b : Int))), (4, .func (.func 33) #[] #[]), (10, .int .i64 ((i : Int))), (13, .int .i64 ((k : Int)))]) (fun (k, Lc) h' => a ≤ k ∧ k ≤ i - 1 ∧ Lc.length = L.length ∧ shl k (i - 1 - k) Lc = shl a (i - 1 - a) L ∧ Only [B] h h' ∧ RBuf nodS h' B pd Lc) (fun (k, Lc) => i - 1 - k) (a, L) (tk7 0 1 2 3 4 10 13) ?_ ?_
  ·exact ⟨by omega, by omega, rfl, rfl, (Only.trans (Only.refl _ _) hx (fun _ hb_ => by cases hb_)), (hb.ext hx)⟩
  rintro ⟨k, Lc⟩ h15 ⟨hka, hki, hLl, hT2, hx2, hb1⟩
  show W _ _ _ _ _ [(0, .slice (some ⟨B, 0, none⟩) N N), (1, .int .i64 ((a : Int))), (2, .int .i64 ((m : Int))), (3, .int .i64 ((b : Int))), (4, .func (.func 33) #[] #[]), (10, .int .i64 ((i : Int))), (13, .int .i64 ((k : Int)))] _
  refine W_seq (W_seq (W_region ?_))
  refine Mv ?_
  refine Mv ?_
  refine Ly (Y_sub rfl rfl (by omega) (by omega)) ?_
  refine Ly (Y_lss rfl rfl) ?_
  refine Nx ?_
  refine W_sub _ (tk8 58 0 1 2 3 4 10 13) ?_
  refine W_splitd rfl (fun w => ?_) (fun w => ?_)
  ·refine Ws ?_
   refine W_sub _ (tk7 0 1 2 3 4 10 13) ?_
   refine W_seq (W_block ?_)
   refine W_held (fun _ => True) 18 rfl (by kernel_rfl) ?_
   refine LH_take (i := 0) rfl (fun h_ hI_ => Y_move rfl) rfl rfl rfl (by kernel_rfl) (by kernel_rfl) (by kernel_rfl) (fun _ _ _ => by rintro ⟨_, _, h_, _⟩; cases h_) trivial ?_
   refine LH_take (i := 1) rfl (fun h_ hI_ => Y_move rfl) rfl rfl rfl (by kernel_rfl) (by kernel_rfl) (by kernel_rfl) (fun _ _ _ => by rintro ⟨_, _, h_, _⟩; cases h_) trivial ?_
   refine LH_take (i := 2) rfl (fun h_ hI_ => Y_move rfl) rfl rfl rfl (by kernel_rfl) (by kernel_rfl) (by kernel_rfl) (fun _ _ _ => by rintro ⟨_, _, h_, _⟩; cases h_) trivial ?_
   refine LH_take (i := 3) rfl (fun h_ hI_ => Y_move rfl) rfl rfl rfl (by kernel_rfl) (by kernel_rfl) (by kernel_rfl) (fun _ _ _ => by rintro ⟨_, _, h_, _⟩; cases h_) trivial ?_
   refine LH_take (i := 4) rfl (fun h_ hI_ => Y_add rfl rfl (by omega) (by omega)) rfl rfl rfl (by kernel_rfl) (by kernel_rfl) (by kernel_rfl) (fun _ _ _ => by rintro ⟨_, _, h_, _⟩; cases h_) trivial ?_
   refine LH_take (i := 5) rfl (fun h_ hI_ => Y_move rfl) rfl rfl rfl (by kernel_rfl) (by kernel_rfl) (by kernel_rfl) (fun _ _ _ => by rintro ⟨_, _, h_, _⟩; cases h_) trivial ?_
   refine LH_take (i := 6) rfl (fun h_ hI_ => Y_move rfl) rfl rfl rfl (by kernel_rfl) (by kernel_rfl) (by kernel_rfl) (fun _ _ _ => by rintro ⟨_, _, h_, _⟩; cases h_) trivial ?_
   refine LH_take (i := 7) rfl (fun h_ hI_ => Y_add rfl rfl (by omega) (by omega)) rfl rfl rfl (by kernel_rfl) (by kernel_rfl) (by kernel_rfl) (fun _ _ _ => by rintro ⟨_, _, h_, _⟩; cases h_) trivial ?_
   refine LH_take (i := 8) rfl (fun h_ hI_ => Y_idxB Tryz.underlying22 (show _ = some 6 by kernel_rfl) rfl rfl (by first | omega | (simp; omega)) (by first | omega | (simp; omega))) rfl rfl rfl (by kernel_rfl) (by kernel_rfl) (by kernel_rfl) (fun _ _ _ => by rintro ⟨_, _, h_, _⟩; cases h_) trivial ?_
   refine LH_take (i := 10) rfl (fun h_ hI_ => Y_move rfl) rfl rfl rfl (by kernel_rfl) (by kernel_rfl) (by kernel_rfl) (fun _ _ _ => by rintro ⟨_, _, h_, _⟩; cases h_) trivial ?_
   refine LH_take (i := 11) rfl (fun h_ hI_ => Y_move rfl) rfl rfl rfl (by kernel_rfl) (by kernel_rfl) (by kernel_rfl) (fun _ _ _ => by rintro ⟨_, _, h_, _⟩; cases h_) trivial ?_
   refine LH_take (i := 12) rfl (fun h_ hI_ => Y_idxB Tryz.underlying22 (show _ = some 6 by kernel_rfl) rfl rfl (by first | omega | (simp; omega)) (by first | omega | (simp; omega))) rfl rfl rfl (by kernel_rfl) (by kernel_rfl) (by kernel_rfl) (fun _ _ _ => by rintro ⟨_, _, h_, _⟩; cases h_) trivial ?_
   refine LH_two (i := 9) (j := 13) (by kernel_rfl) ?_ ?_
   ·have hq14 : Okp nodS h15 pd (at_nod Lc ((k : Int) + 1).toNat) := hb1.okp (by first | omega | (simp; omega))
    refine LO_yld (i := 9) rfl (Y_ldrA0 (k := ((k : Int) + 1).toNat) (us := [.int .i64 ((at_nod Lc ((k : Int) + 1).toNat).kind), str ((at_nod Lc ((k : Int) + 1).toNat).path), .int .i64 ((at_nod Lc ((k : Int) + 1).toNat).mode), str ((at_nod Lc ((k : Int) + 1).toNat).target), ((at_nod Lc ((k : Int) + 1).toNat).dv), .int .i64 ((at_nod Lc ((k : Int) + 1).toNat).cls)]) Tryz.underlying50 rfl (show _ = some 6 by kernel_rfl) rfl rfl (hb1.rows (by first | omega | (simp; omega))) (by first | omega | (simp; omega)) rfl) rfl rfl rfl trivial ?_
    refine LH_one (i := 13) (by kernel_rfl) ?_
    have hq15 : Okp nodS h15 pd (at_nod Lc ((k : Int)).toNat) := hb1.okp (by first | omega | (simp; omega))
    refine LO_yld (i := 13) rfl (Y_ldrA0 (k := ((k : Int)).toNat) (us := [.int .i64 ((at_nod Lc ((k : Int)).toNat).kind), str ((at_nod Lc ((k : Int)).toNat).path), .int .i64 ((at_nod Lc ((k : Int)).toNat).mode), str ((at_nod Lc ((k : Int)).toNat).target), ((at_nod Lc ((k : Int)).toNat).dv), .int .i64 ((at_nod Lc ((k : Int)).toNat).cls)]) Tryz.underlying50 rfl (show _ = some 6 by kernel_rfl) rfl rfl (hb1.rows (by first | omega | (simp; omega))) (by first | omega | (simp; omega)) rfl) rfl rfl rfl trivial ?_
    refine LH_take (i := 14) rfl (fun h_ hI_ => Y_idxB Tryz.underlying22 (show _ = some 6 by kernel_rfl) rfl rfl (by first | omega | (simp; omega)) (by first | omega | (simp; omega))) rfl rfl rfl (by kernel_rfl) (by kernel_rfl) (by kernel_rfl) (fun _ _ _ => by rintro ⟨_, _, h_, _⟩; cases h_) trivial ?_
    refine LH_one (i := 15) (by kernel_rfl) ?_
    refine LO_dos (i := 15) rfl (D_rsetA (S := nodS) (us := [.int .i64 ((at_nod Lc ((k : Int) + 1).toNat).kind), str ((at_nod Lc ((k : Int) + 1).toNat).path), .int .i64 ((at_nod Lc ((k : Int) + 1).toNat).mode), str ((at_nod Lc ((k : Int) + 1).toNat).target), ((at_nod Lc ((k : Int) + 1).toNat).dv), .int .i64 ((at_nod Lc ((k : Int) + 1).toNat).cls)]) (a := (at_nod Lc ((k : Int) + 1).toNat)) (k := ((k : Int)).toNat) (show _ = some 6 by kernel_rfl) rfl rfl rfl rfl hb1 (by first | omega | (simp; omega)) rfl hq14.1 hq14.2 hpB) rfl rfl ?_
    rintro h16 ⟨hx16, -, hb17⟩
    refine ⟨trivial, ?_⟩
    refine LH_take (i := 16) rfl (fun h_ hI_ => Y_idxB Tryz.underlying22 (show _ = some 6 by kernel_rfl) rfl rfl (by first | omega | (simp; omega)) (by first | omega | (simp; omega))) rfl rfl rfl (by kernel_rfl) (by kernel_rfl) (by kernel_rfl) (fun _ _ _ => by rintro ⟨_, _, h_, _⟩; cases h_) trivial ?_
    refine LH_one (i := 17) (by kernel_rfl) ?_
    have hc20 := (hq15.only hx16 hpB)
    refine LO_dos (i := 17) rfl (D_rsetA (S := nodS) (us := [.int .i64 ((at_nod Lc ((k : Int)).toNat).kind), str ((at_nod Lc ((k : Int)).toNat).path), .int .i64 ((at_nod Lc ((k : Int)).toNat).mode), str ((at_nod Lc ((k : Int)).toNat).target), ((at_nod Lc ((k : Int)).toNat).dv), .int .i64 ((at_nod Lc ((k : Int)).toNat).cls)]) (a := (at_nod Lc ((k : Int)).toNat)) (k := ((k : Int) + 1).toNat) (show _ = some 6 by kernel_rfl) rfl rfl rfl rfl hb17 (by first | omega | (simp; omega)) rfl hc20.1 hc20.2 hpB) rfl rfl ?_
    rintro h17 ⟨hx18, -, hb19⟩
    refine ⟨trivial, ?_⟩
    refine LH_done (by kernel_rfl) ?_
    refine X_block (X_then ?_)
    refine W_sub _ (tk7 0 1 2 3 4 10 13) ?_
    refine W_region ?_
    refine Mv ?_
    refine Ly (Y_add rfl rfl (by omega) (by omega)) ?_
    refine Av ?_
    refine L_nil ?_
    refine X_loop ((k + 1, ((Lc.set (((k : Int)).toNat) (at_nod Lc ((k : Int) + 1).toNat)).set (((k : Int) + 1).toNat) (at_nod Lc ((k : Int)).toNat)))) (tk7 0 1 2 3 4 10 13) ?_ ?_
    ·exact ⟨by omega, by omega, by simp [hLl], by rw [show ((k : Int) + 1).toNat = k + 1 by omega, show i - 1 - (k + 1) = i - 1 - k - 1 by omega]; exact (shl_step (by omega)).symm.trans hT2, (Only.trans (Only.trans (Only.trans (Only.refl _ _) hx2 (fun _ hb_ => .inl hb_)) hx16 (fun _ hb_ => .inl hb_)) hx18 (fun _ hb_ => .inl hb_)), hb19⟩
    (try dsimp only)
    omega
   have hq21 : Okp nodS h15 pd (at_nod Lc ((k : Int)).toNat) := hb1.okp (by first | omega | (simp; omega))
   refine LO_yld (i := 13) rfl (Y_ldrA0 (k := ((k : Int)).toNat) (us := [.int .i64 ((at_nod Lc ((k : Int)).toNat).kind), str ((at_nod Lc ((k : Int)).toNat).path), .int .i64 ((at_nod Lc ((k : Int)).toNat).mode), str ((at_nod Lc ((k : Int)).toNat).target), ((at_nod Lc ((k : Int)).toNat).dv), .int .i64 ((at_nod Lc ((k : Int)).toNat).cls)]) Tryz.underlying50 rfl (show _ = some 6 by kernel_rfl) rfl rfl (hb1.rows (by first | omega | (simp; omega))) (by first | omega | (simp; omega)) rfl) rfl rfl rfl trivial ?_
   refine LH_one (i := 9) (by kernel_rfl) ?_
   have hq22 : Okp nodS h15 pd (at_nod Lc ((k : Int) + 1).toNat) := hb1.okp (by first | omega | (simp; omega))
   refine LO_yld (i := 9) rfl (Y_ldrA0 (k := ((k : Int) + 1).toNat) (us := [.int .i64 ((at_nod Lc ((k : Int) + 1).toNat).kind), str ((at_nod Lc ((k : Int) + 1).toNat).path), .int .i64 ((at_nod Lc ((k : Int) + 1).toNat).mode), str ((at_nod Lc ((k : Int) + 1).toNat).target), ((at_nod Lc ((k : Int) + 1).toNat).dv), .int .i64 ((at_nod Lc ((k : Int) + 1).toNat).cls)]) Tryz.underlying50 rfl (show _ = some 6 by kernel_rfl) rfl rfl (hb1.rows (by first | omega | (simp; omega))) (by first | omega | (simp; omega)) rfl) rfl rfl rfl trivial ?_
   refine LH_take (i := 14) rfl (fun h_ hI_ => Y_idxB Tryz.underlying22 (show _ = some 6 by kernel_rfl) rfl rfl (by first | omega | (simp; omega)) (by first | omega | (simp; omega))) rfl rfl rfl (by kernel_rfl) (by kernel_rfl) (by kernel_rfl) (fun _ _ _ => by rintro ⟨_, _, h_, _⟩; cases h_) trivial ?_
   refine LH_one (i := 15) (by kernel_rfl) ?_
   refine LO_dos (i := 15) rfl (D_rsetA (S := nodS) (us := [.int .i64 ((at_nod Lc ((k : Int) + 1).toNat).kind), str ((at_nod Lc ((k : Int) + 1).toNat).path), .int .i64 ((at_nod Lc ((k : Int) + 1).toNat).mode), str ((at_nod Lc ((k : Int) + 1).toNat).target), ((at_nod Lc ((k : Int) + 1).toNat).dv), .int .i64 ((at_nod Lc ((k : Int) + 1).toNat).cls)]) (a := (at_nod Lc ((k : Int) + 1).toNat)) (k := ((k : Int)).toNat) (show _ = some 6 by kernel_rfl) rfl rfl rfl rfl hb1 (by first | omega | (simp; omega)) rfl hq22.1 hq22.2 hpB) rfl rfl ?_
   rintro h18 ⟨hx23, -, hb24⟩
   refine ⟨trivial, ?_⟩
   refine LH_take (i := 16) rfl (fun h_ hI_ => Y_idxB Tryz.underlying22 (show _ = some 6 by kernel_rfl) rfl rfl (by first | omega | (simp; omega)) (by first | omega | (simp; omega))) rfl rfl rfl (by kernel_rfl) (by kernel_rfl) (by kernel_rfl) (fun _ _ _ => by rintro ⟨_, _, h_, _⟩; cases h_) trivial ?_
   refine LH_one (i := 17) (by kernel_rfl) ?_
   have hc27 := (hq21.only hx23 hpB)
   refine LO_dos (i := 17) rfl (D_rsetA (S := nodS) (us := [.int .i64 ((at_nod Lc ((k : Int)).toNat).kind), str ((at_nod Lc ((k : Int)).toNat).path), .int .i64 ((at_nod Lc ((k : Int)).toNat).mode), str ((at_nod Lc ((k : Int)).toNat).target), ((at_nod Lc ((k : Int)).toNat).dv), .int .i64 ((at_nod Lc ((k : Int)).toNat).cls)]) (a := (at_nod Lc ((k : Int)).toNat)) (k := ((k : Int) + 1).toNat) (show _ = some 6 by kernel_rfl) rfl rfl rfl rfl hb24 (by first | omega | (simp; omega)) rfl hc27.1 hc27.2 hpB) rfl rfl ?_
   rintro h19 ⟨hx25, -, hb26⟩
   refine ⟨trivial, ?_⟩
   refine LH_done (by kernel_rfl) ?_
   refine X_block (X_then ?_)
   refine W_sub _ (tk7 0 1 2 3 4 10 13) ?_
   refine W_region ?_
   refine Mv ?_
   refine Ly (Y_add rfl rfl (by omega) (by omega)) ?_
   refine Av ?_
   refine L_nil ?_
   refine X_loop ((k + 1, ((Lc.set (((k : Int)).toNat) (at_nod Lc ((k : Int) + 1).toNat)).set (((k : Int) + 1).toNat) (at_nod Lc ((k : Int)).toNat)))) (tk7 0 1 2 3 4 10 13) ?_ ?_
   ·exact ⟨by omega, by omega, by simp [hLl], by rw [show ((k : Int) + 1).toNat = k + 1 by omega, show i - 1 - (k + 1) = i - 1 - k - 1 by omega]; exact (shl_step (by omega)).symm.trans hT2, (Only.trans (Only.trans (Only.trans (Only.refl _ _) hx2 (fun _ hb_ => .inl hb_)) hx23 (fun _ hb_ => .inl hb_)) hx25 (fun _ hb_ => .inl hb_)), hb26⟩
   (try dsimp only)
   omega
  refine W_exit ?_
  refine X_then_exit (X_then_exit ?_)
  refine X_block_hit ?_
  refine X_then ?_
  refine W_sub _ (tk5 0 1 2 3 4) ?_
  refine W_ret (X_then_ret ?_)
  refine X_end0 rfl ?_
  refine ⟨rfl, (Only.trans (Only.refl _ _) hx2 (fun _ hb_ => .inl hb_)), RBuf.congr hb1 ?_⟩
  rw [smf_1 (by omega), ← hT, bsr_end (by omega), ← hT2, show i - 1 - k = 0 by omega]; rfl
 refine Ws ?_
 refine W_sub _ (tk5 0 1 2 3 4) ?_
 refine W_seq (W_seq (W_region ?_))
 refine Mv ?_
 refine Mv ?_
 refine Ly (Y_sub rfl rfl (by omega) (by omega)) ?_
 refine Ly (Y_eql rfl rfl) ?_
 refine Nx ?_
 refine W_sub _ (tk6 80 0 1 2 3 4) ?_
 refine W_splitd rfl (fun q2 => ?_) (fun q2 => ?_)
 ·refine Wr ?_
  refine Mv ?_
  refine Av ?_
  refine Nx ?_
  refine W_sub _ (tk6 14 0 1 2 3 4) ?_
  refine Wr ?_
  refine Mv ?_
  refine Av ?_
  refine Nx ?_
  refine W_sub _ (tk7 15 14 0 1 2 3 4) ?_
  refine W_seq (W_block ?_)
  refine W_loop (S := Nat × Nat × Nat) (fun (g, i, j) => [(0, .slice (some ⟨B, 0, none⟩) N N), (1, .int .i64 ((a : Int))), (2, .int .i64 ((m : Int))), (3, .int .i64 ((b : Int))), (4, .func (.func 33) #[] #[]), (14, .int .i64 ((i : Int))), (15, .int .i64 ((j : Int)))]) (fun (g, i, j) h' => a ≤ i ∧ i ≤ j ∧ j ≤ m ∧ j - i ≤ g ∧ bsr (pl2 L m) g i j = bsr (pl2 L m) (m - a) a m ∧ Ext h h') (fun (g, i, j) => g) (m - a, a, m) (tk7 0 1 2 3 4 14 15) ?_ ?_
  ·exact ⟨by omega, by omega, by omega, by omega, rfl, (Ext.refl _)⟩
  rintro ⟨g, i, j⟩ h20 ⟨hi, hij, hjb, hg, hT, hx⟩
  show W _ _ _ _ _ [(0, .slice (some ⟨B, 0, none⟩) N N), (1, .int .i64 ((a : Int))), (2, .int .i64 ((m : Int))), (3, .int .i64 ((b : Int))), (4, .func (.func 33) #[] #[]), (14, .int .i64 ((i : Int))), (15, .int .i64 ((j : Int)))] _
  refine W_seq (W_seq (W_region ?_))
  refine Mv ?_
  refine Mv ?_
  refine Ly (Y_lss rfl rfl) ?_
  refine Nx ?_
  refine W_sub _ (tk8 85 0 1 2 3 4 14 15) ?_
  refine W_splitd rfl (fun c => ?_) (fun c => ?_)
  ·refine Ws ?_
   refine W_sub _ (tk7 0 1 2 3 4 14 15) ?_
   refine W_block (W_seq (W_region ?_))
   refine Mv ?_
   refine Mv ?_
   refine Ly (Y_add rfl rfl (by omega) (by omega)) ?_
   refine Ly (Y_convs Tryz.underlying3 Tryz.underlying132 rfl (wrap_u64b (by first | omega | (simp; omega)) (by first | omega | (simp; omega)))) ?_
   refine Ly (Y_shru rfl rfl (by first | omega | (simp; omega)) (by omega)) ?_
   refine Ly (Y_convs Tryz.underlying132 Tryz.underlying3 rfl (wrap_i64 (by first | omega | (simp; omega)) (by first | omega | (simp; omega)))) ?_
   refine Av ?_
   refine Nx ?_
   refine W_sub _ (tk8 16 0 1 2 3 4 14 15) ?_
   rw [half_eq]
   refine W_seq ?_
   refine W_pers [(16, .int .i64 ((((i + j) / 2 : Nat) : Int))), (0, .slice (some ⟨B, 0, none⟩) N N), (1, .int .i64 ((a : Int))), (2, .int .i64 ((m : Int))), (3, .int .i64 ((b : Int))), (4, .func (.func 33) #[] #[]), (14, .int .i64 ((i : Int))), (15, .int .i64 ((j : Int)))] (tk8 16 0 1 2 3 4 14 15) (by kernel_rfl) ?_
   refine LP_op 0 (fun _ vv => .func (.func 33) #[] #[] = vv) [] rfl rfl (by kernel_rfl) (fun _ _ _ _ p => p) ?_ ?_
   ·intro h21 hx28
    refine Needs_nil ?_
    refine Stp_yld (Y_move rfl) rfl ?_
    exact rfl
   refine LP_op 1 (fun _ vv => .slice (some ⟨B, 0, none⟩) N N = vv) [] rfl rfl (by kernel_rfl) (fun _ _ _ _ p => p) ?_ ?_
   ·intro h22 hx29
    refine Needs_nil ?_
    refine Stp_yld (Y_move rfl) rfl ?_
    exact rfl
   refine LP_op 2 (fun _ vv => .int .i64 ((m : Int)) = vv) [] rfl rfl (by kernel_rfl) (fun _ _ _ _ p => p) ?_ ?_
   ·intro h23 hx30
    refine Needs_nil ?_
    refine Stp_yld (Y_move rfl) rfl ?_
    exact rfl
   refine LP_op 3 (fun _ vv => .pointer (some (elemAddr (.slice (some ⟨B, 0, none⟩) N N) (((m : Int)).toNat * 6))) = vv) [(1, 93), (2, 94)] rfl rfl (by kernel_rfl) (fun _ _ _ _ p => p) ?_ ?_
   ·intro h24 hx31
    rintro _ rfl
    rintro _ rfl
    refine Needs_nil ?_
    refine Stp_yld (Y_idxB Tryz.underlying22 (show _ = some 6 by kernel_rfl) rfl rfl (by first | omega | (simp; omega)) (by first | omega | (simp; omega))) rfl ?_
    exact rfl
   refine LP_op 4 (fun _ vv => .agg #[.int .i64 ((at_nod L ((m : Int)).toNat).kind), str ((at_nod L ((m : Int)).toNat).path), .int .i64 ((at_nod L ((m : Int)).toNat).mode), str ((at_nod L ((m : Int)).toNat).target), ((at_nod L ((m : Int)).toNat).dv), .int .i64 ((at_nod L ((m : Int)).toNat).cls)] = vv) [(3, 95)] rfl rfl (by kernel_rfl) (fun _ _ _ _ p => p) ?_ ?_
   ·intro h25 hx32
    rintro _ rfl
    refine Needs_nil ?_
    refine Stp_yld (Y_ldrA0 (k := ((m : Int)).toNat) (us := [.int .i64 ((at_nod L ((m : Int)).toNat).kind), str ((at_nod L ((m : Int)).toNat).path), .int .i64 ((at_nod L ((m : Int)).toNat).mode), str ((at_nod L ((m : Int)).toNat).target), ((at_nod L ((m : Int)).toNat).dv), .int .i64 ((at_nod L ((m : Int)).toNat).cls)]) Tryz.underlying50 rfl (show _ = some 6 by kernel_rfl) rfl rfl ((hb.ext (hx.trans hx32)).rows (by first | omega | (simp; omega))) (by first | omega | (simp; omega)) rfl) rfl ?_
    exact rfl
   refine LP_op 5 (fun _ vv => .slice (some ⟨B, 0, none⟩) N N = vv) [] rfl rfl (by kernel_rfl) (fun _ _ _ _ p => p) ?_ ?_
   ·intro h26 hx33
    refine Needs_nil ?_
    refine Stp_yld (Y_move rfl) rfl ?_
    exact rfl
   refine LP_op 6 (fun _ vv => .int .i64 ((((i + j) / 2 : Nat) : Int)) = vv) [] rfl rfl (by kernel_rfl) (fun _ _ _ _ p => p) ?_ ?_
   ·intro h27 hx34
    refine Needs_nil ?_
    refine Stp_yld (Y_move rfl) rfl ?_
    exact rfl
   refine LP_op 7 (fun _ vv => .pointer (some (elemAddr (.slice (some ⟨B, 0, none⟩) N N) (((((i + j) / 2 : Nat) : Int)).toNat * 6))) = vv) [(5, 97), (6, 98)] rfl rfl (by kernel_rfl) (fun _ _ _ _ p => p) ?_ ?_
   ·intro h28 hx35
    rintro _ rfl
    rintro _ rfl
    refine Needs_nil ?_
    refine Stp_yld (Y_idxB Tryz.underlying22 (show _ = some 6 by kernel_rfl) rfl rfl (by first | omega | (simp; omega)) (by first | omega | (simp; omega))) rfl ?_
    exact rfl
   refine LP_op 8 (fun _ vv => .agg #[.int .i64 ((at_nod L ((((i + j) / 2 : Nat) : Int)).toNat).kind), str ((at_nod L ((((i + j) / 2 : Nat) : Int)).toNat).path), .int .i64 ((at_nod L ((((i + j) / 2 : Nat) : Int)).toNat).mode), str ((at_nod L ((((i + j) / 2 : Nat) : Int)).toNat).target), ((at_nod L ((((i + j) / 2 : Nat) : Int)).toNat).dv), .int .i64 ((at_nod L ((((i + j) / 2 : Nat) : Int)).toNat).cls)] = vv) [(7, 99)] rfl rfl (by kernel_rfl) (fun _ _ _ _ p => p) ?_ ?_
   ·intro h29 hx36
    rintro _ rfl
    refine Needs_nil ?_
    refine Stp_yld (Y_ldrA0 (k := ((((i + j) / 2 : Nat) : Int)).toNat) (us := [.int .i64 ((at_nod L ((((i + j) / 2 : Nat) : Int)).toNat).kind), str ((at_nod L ((((i + j) / 2 : Nat) : Int)).toNat).path), .int .i64 ((at_nod L ((((i + j) / 2 : Nat) : Int)).toNat).mode), str ((at_nod L ((((i + j) / 2 : Nat) : Int)).toNat).target), ((at_nod L ((((i + j) / 2 : Nat) : Int)).toNat).dv), .int .i64 ((at_nod L ((((i + j) / 2 : Nat) : Int)).toNat).cls)]) Tryz.underlying50 rfl (show _ = some 6 by kernel_rfl) rfl rfl ((hb.ext (hx.trans hx36)).rows (by first | omega | (simp; omega))) (by first | omega | (simp; omega)) rfl) rfl ?_
    exact rfl
   refine LP_op 9 (fun _ vv => .int .i64 (pcmp (at_nod L ((m : Int)).toNat).path (at_nod L ((((i + j) / 2 : Nat) : Int)).toNat).path) = vv) [(4, 96), (8, 100), (0, 92)] rfl rfl (by kernel_rfl) (fun _ _ _ _ p => p) ?_ ?_
   ·intro h30 hx37
    rintro _ rfl
    rintro _ rfl
    rintro _ rfl
    refine Needs_nil ?_
    refine Stp_call (E_callv (fs := []) (cs := []) (by kernel_rfl) rfl rfl) (canon_cmp _ (at_nod L ((m : Int)).toNat) (show Bytes _ ((at_nod L ((m : Int)).toNat).dv) ((at_nod L ((m : Int)).toNat).data) from ((hb.ext (hx.trans hx37)).okp (k := ((m : Int)).toNat) (by first | omega | (simp; omega))).1) (at_nod L ((((i + j) / 2 : Nat) : Int)).toNat) (show Bytes _ ((at_nod L ((((i + j) / 2 : Nat) : Int)).toNat).dv) ((at_nod L ((((i + j) / 2 : Nat) : Int)).toNat).data) from ((hb.ext (hx.trans hx37)).okp (k := ((((i + j) / 2 : Nat) : Int)).toNat) (by first | omega | (simp; omega))).1)) rfl ?_
    rintro _ h31 ⟨rfl, hx38⟩
    exact ⟨hx38, rfl⟩
   refine LP_op 10 (fun _ vv => .bool (decide ((pcmp (at_nod L ((m : Int)).toNat).path (at_nod L ((((i + j) / 2 : Nat) : Int)).toNat).path) < 0)) = vv) [(9, 101)] rfl rfl (by kernel_rfl) (fun _ _ _ _ p => p) ?_ ?_
   ·intro h32 hx39
    rintro _ rfl
    refine Needs_nil ?_
    refine Stp_yld (Y_lss rfl rfl) rfl ?_
    exact rfl
   refine LP_op 11 (fun _ vv => .bool (decide (¬ ((pcmp (at_nod L ((m : Int)).toNat).path (at_nod L ((((i + j) / 2 : Nat) : Int)).toNat).path) < 0))) = vv) [(10, 102)] rfl rfl (by kernel_rfl) (fun _ _ _ _ p => p) ?_ ?_
   ·intro h33 hx40
    rintro _ rfl
    refine Needs_nil ?_
    refine Stp_yld (Y_notd rfl) rfl ?_
    exact rfl
   refine LP_end [(11, 103)] rfl (by kernel_rfl) rfl ?_
   intro h34 hx41
   rintro _ rfl
   refine Needs_nil ?_
   refine X_then ?_
   refine W_splitd rfl (fun d => ?_) (fun d => ?_)
   ·refine W_region ?_
    refine Mv ?_
    refine Ly (Y_add rfl rfl (by omega) (by omega)) ?_
    refine Av ?_
    refine L_nil (X_block ?_)
    refine X_loop ((g - 1, (i + j) / 2 + 1, j)) (tk7 0 1 2 3 4 14 15) ?_ ?_
    ·exact ⟨by omega, by omega, by omega, by omega, (bsr_yes (by omega) (by omega) (decide_eq_true d)).symm.trans hT, (hx.trans hx41)⟩
    (try dsimp only)
    omega
   refine W_region ?_
   refine Mv ?_
   refine Av ?_
   refine L_nil (X_block ?_)
   refine X_loop ((g - 1, i, (i + j) / 2)) (tk7 0 1 2 3 4 14 15) ?_ ?_
   ·exact ⟨by omega, by omega, by omega, by omega, (bsr_no (by omega) (by omega) (decide_eq_false d)).symm.trans hT, (hx.trans hx41)⟩
   (try dsimp only)
   omega
  refine W_exit ?_
  refine X_then_exit (X_then_exit ?_)
  refine X_block_hit ?_
  refine X_then ?_
  refine W_sub _ (tk6 0 1 2 3 4 14) ?_
  refine W_seq (W_seq (W_region ?_))
  refine Mv ?_
  refine Av ?_
  refine Nx ?_
  refine W_sub _ (tk7 17 0 1 2 3 4 14) ?_
  refine W_block ?_
  refine W_loop (S := Nat × List Nod) (fun (k, Lc) => [(0, .slice (some ⟨B, 0, none⟩) N N), (1, .int .i64 ((a : Int))), (2, .int .i64 ((m : Int))), (3, .int .i64 ((b : Int))), (4, .func (.func 33) #[] #[]), (14, .int .i64 ((i : Int))), (17, .int .i64 ((k : Int)))]) (fun (k, Lc) h' => i ≤ k ∧ k ≤ m ∧ Lc.length = L.length ∧ shr k (k - i) Lc = shr m (m - i) L ∧ Only [B] h h' ∧ RBuf nodS h' B pd Lc) (fun (k, Lc) => k - i) (m, L) (tk7 0 1 2 3 4 14 17) ?_ ?_
  ·exact ⟨by omega, by omega, rfl, rfl, (Only.trans (Only.refl _ _) hx (fun _ hb_ => by cases hb_)), (hb.ext hx)⟩
  rintro ⟨k, Lc⟩ h35 ⟨hka, hki, hLl, hT2, hx2, hb1⟩
  show W _ _ _ _ _ [(0, .slice (some ⟨B, 0, none⟩) N N), (1, .int .i64 ((a : Int))), (2, .int .i64 ((m : Int))), (3, .int .i64 ((b : Int))), (4, .func (.func 33) #[] #[]), (14, .int .i64 ((i : Int))), (17, .int .i64 ((k : Int)))] _
  refine W_seq (W_seq (W_region ?_))
  refine Mv ?_
  refine Mv ?_
  refine Ly (Y_gtr rfl rfl) ?_
  refine Nx ?_
  refine W_sub _ (tk8 110 0 1 2 3 4 14 17) ?_
  refine W_splitd rfl (fun w => ?_) (fun w => ?_)
  ·refine Ws ?_
   refine W_sub _ (tk7 0 1 2 3 4 14 17) ?_
   refine W_seq (W_block ?_)
   refine W_held (fun _ => True) 18 rfl (by kernel_rfl) ?_
   refine LH_take (i := 0) rfl (fun h_ hI_ => Y_move rfl) rfl rfl rfl (by kernel_rfl) (by kernel_rfl) (by kernel_rfl) (fun _ _ _ => by rintro ⟨_, _, h_, _⟩; cases h_) trivial ?_
   refine LH_take (i := 1) rfl (fun h_ hI_ => Y_move rfl) rfl rfl rfl (by kernel_rfl) (by kernel_rfl) (by kernel_rfl) (fun _ _ _ => by rintro ⟨_, _, h_, _⟩; cases h_) trivial ?_
   refine LH_take (i := 2) rfl (fun h_ hI_ => Y_move rfl) rfl rfl rfl (by kernel_rfl) (by kernel_rfl) (by kernel_rfl) (fun _ _ _ => by rintro ⟨_, _, h_, _⟩; cases h_) trivial ?_
   refine LH_take (i := 3) rfl (fun h_ hI_ => Y_move rfl) rfl rfl rfl (by kernel_rfl) (by kernel_rfl) (by kernel_rfl) (fun _ _ _ => by rintro ⟨_, _, h_, _⟩; cases h_) trivial ?_
   refine LH_take (i := 4) rfl (fun h_ hI_ => Y_sub rfl rfl (by omega) (by omega)) rfl rfl rfl (by kernel_rfl) (by kernel_rfl) (by kernel_rfl) (fun _ _ _ => by rintro ⟨_, _, h_, _⟩; cases h_) trivial ?_
   refine LH_take (i := 5) rfl (fun h_ hI_ => Y_move rfl) rfl rfl rfl (by kernel_rfl) (by kernel_rfl) (by kernel_rfl) (fun _ _ _ => by rintro ⟨_, _, h_, _⟩; cases h_) trivial ?_
   refine LH_take (i := 6) rfl (fun h_ hI_ => Y_move rfl) rfl rfl rfl (by kernel_rfl) (by kernel_rfl) (by kernel_rfl) (fun _ _ _ => by rintro ⟨_, _, h_, _⟩; cases h_) trivial ?_
   refine LH_take (i := 7) rfl (fun h_ hI_ => Y_sub rfl rfl (by omega) (by omega)) rfl rfl rfl (by kernel_rfl) (by kernel_rfl) (by kernel_rfl) (fun _ _ _ => by rintro ⟨_, _, h_, _⟩; cases h_) trivial ?_
   refine LH_take (i := 8) rfl (fun h_ hI_ => Y_idxB Tryz.underlying22 (show _ = some 6 by kernel_rfl) rfl rfl (by first | omega | (simp; omega)) (by first | omega | (simp; omega))) rfl rfl rfl (by kernel_rfl) (by kernel_rfl) (by kernel_rfl) (fun _ _ _ => by rintro ⟨_, _, h_, _⟩; cases h_) trivial ?_
   refine LH_take (i := 10) rfl (fun h_ hI_ => Y_move rfl) rfl rfl rfl (by kernel_rfl) (by kernel_rfl) (by kernel_rfl) (fun _ _ _ => by rintro ⟨_, _, h_, _⟩; cases h_) trivial ?_
   refine LH_take (i := 11) rfl (fun h_ hI_ => Y_move rfl) rfl rfl rfl (by kernel_rfl) (by kernel_rfl) (by kernel_rfl) (fun _ _ _ => by rintro ⟨_, _, h_, _⟩; cases h_) trivial ?_
   refine LH_take (i := 12) rfl (fun h_ hI_ => Y_idxB Tryz.underlying22 (show _ = some 6 by kernel_rfl) rfl rfl (by first | omega | (simp; omega)) (by first | omega | (simp; omega))) rfl rfl rfl (by kernel_rfl) (by kernel_rfl) (by kernel_rfl) (fun _ _ _ => by rintro ⟨_, _, h_, _⟩; cases h_) trivial ?_
   refine LH_two (i := 9) (j := 13) (by kernel_rfl) ?_ ?_
   ·have hq42 : Okp nodS h35 pd (at_nod Lc ((k : Int) - 1).toNat) := hb1.okp (by first | omega | (simp; omega))
    refine LO_yld (i := 9) rfl (Y_ldrA0 (k := ((k : Int) - 1).toNat) (us := [.int .i64 ((at_nod Lc ((k : Int) - 1).toNat).kind), str ((at_nod Lc ((k : Int) - 1).toNat).path), .int .i64 ((at_nod Lc ((k : Int) - 1).toNat).mode), str ((at_nod Lc ((k : Int) - 1).toNat).target), ((at_nod Lc ((k : Int) - 1).toNat).dv), .int .i64 ((at_nod Lc ((k : Int) - 1).toNat).cls)]) Tryz.underlying50 rfl (show _ = some 6 by kernel_rfl) rfl rfl (hb1.rows (by first | omega | (simp; omega))) (by first | omega | (simp; omega)) rfl) rfl rfl rfl trivial ?_
    refine LH_one (i := 13) (by kernel_rfl) ?_
    have hq43 : Okp nodS h35 pd (at_nod Lc ((k : Int)).toNat) := hb1.okp (by first | omega | (simp; omega))
    refine LO_yld (i := 13) rfl (Y_ldrA0 (k := ((k : Int)).toNat) (us := [.int .i64 ((at_nod Lc ((k : Int)).toNat).kind), str ((at_nod Lc ((k : Int)).toNat).path), .int .i64 ((at_nod Lc ((k : Int)).toNat).mode), str ((at_nod Lc ((k : Int)).toNat).target), ((at_nod Lc ((k : Int)).toNat).dv), .int .i64 ((at_nod Lc ((k : Int)).toNat).cls)]) Tryz.underlying50 rfl (show _ = some 6 by kernel_rfl) rfl rfl (hb1.rows (by first | omega | (simp; omega))) (by first | omega | (simp; omega)) rfl) rfl rfl rfl trivial ?_
    refine LH_take (i := 14) rfl (fun h_ hI_ => Y_idxB Tryz.underlying22 (show _ = some 6 by kernel_rfl) rfl rfl (by first | omega | (simp; omega)) (by first | omega | (simp; omega))) rfl rfl rfl (by kernel_rfl) (by kernel_rfl) (by kernel_rfl) (fun _ _ _ => by rintro ⟨_, _, h_, _⟩; cases h_) trivial ?_
    refine LH_one (i := 15) (by kernel_rfl) ?_
    refine LO_dos (i := 15) rfl (D_rsetA (S := nodS) (us := [.int .i64 ((at_nod Lc ((k : Int) - 1).toNat).kind), str ((at_nod Lc ((k : Int) - 1).toNat).path), .int .i64 ((at_nod Lc ((k : Int) - 1).toNat).mode), str ((at_nod Lc ((k : Int) - 1).toNat).target), ((at_nod Lc ((k : Int) - 1).toNat).dv), .int .i64 ((at_nod Lc ((k : Int) - 1).toNat).cls)]) (a := (at_nod Lc ((k : Int) - 1).toNat)) (k := ((k : Int)).toNat) (show _ = some 6 by kernel_rfl) rfl rfl rfl rfl hb1 (by first | omega | (simp; omega)) rfl hq42.1 hq42.2 hpB) rfl rfl ?_
    rintro h36 ⟨hx44, -, hb45⟩
    refine ⟨trivial, ?_⟩
    refine LH_take (i := 16) rfl (fun h_ hI_ => Y_idxB Tryz.underlying22 (show _ = some 6 by kernel_rfl) rfl rfl (by first | omega | (simp; omega)) (by first | omega | (simp; omega))) rfl rfl rfl (by kernel_rfl) (by kernel_rfl) (by kernel_rfl) (fun _ _ _ => by rintro ⟨_, _, h_, _⟩; cases h_) trivial ?_
    refine LH_one (i := 17) (by kernel_rfl) ?_
    have hc48 := (hq43.only hx44 hpB)
    refine LO_dos (i := 17) rfl (D_rsetA (S := nodS) (us := [.int .i64 ((at_nod Lc ((k : Int)).toNat).kind), str ((at_nod Lc ((k : Int)).toNat).path), .int .i64 ((at_nod Lc ((k : Int)).toNat).mode), str ((at_nod Lc ((k : Int)).toNat).target), ((at_nod Lc ((k : Int)).toNat).dv), .int .i64 ((at_nod Lc ((k : Int)).toNat).cls)]) (a := (at_nod Lc ((k : Int)).toNat)) (k := ((k : Int) - 1).toNat) (show _ = some 6 by kernel_rfl) rfl rfl rfl rfl hb45 (by first | omega | (simp; omega)) rfl hc48.1 hc48.2 hpB) rfl rfl ?_
    rintro h37 ⟨hx46, -, hb47⟩
    refine ⟨trivial, ?_⟩
    refine LH_done (by kernel_rfl) ?_
    refine X_block (X_then ?_)
    refine W_sub _ (tk7 0 1 2 3 4 14 17) ?_
    refine W_region ?_
    refine Mv ?_
    refine Ly (Y_sub rfl rfl (by omega) (by omega)) ?_
    refine Av ?_
    refine L_nil ?_
    refine X_loop ((k - 1, ((Lc.set (((k : Int)).toNat) (at_nod Lc ((k : Int) - 1).toNat)).set (((k : Int) - 1).toNat) (at_nod Lc ((k : Int)).toNat)))) (sk6 0 1 2 3 4 14 rfl rfl rfl rfl rfl rfl (sk1 17 (lki rfl (by omega)) sN)) ?_ ?_
    ·exact ⟨by omega, by omega, by simp [hLl], by rw [show ((k : Int) - 1).toNat = k - 1 by omega, show k - 1 - i = k - i - 1 by omega]; exact (shr_step (by omega)).symm.trans hT2, (Only.trans (Only.trans (Only.trans (Only.refl _ _) hx2 (fun _ hb_ => .inl hb_)) hx44 (fun _ hb_ => .inl hb_)) hx46 (fun _ hb_ => .inl hb_)), hb47⟩
    (try dsimp only)
    omega
   have hq49 : Okp nodS h35 pd (at_nod Lc ((k : Int)).toNat) := hb1.okp (by first | omega | (simp; omega))
   refine LO_yld (i := 13) rfl (Y_ldrA0 (k := ((k : Int)).toNat) (us := [.int .i64 ((at_nod Lc ((k : Int)).toNat).kind), str ((at_nod Lc ((k : Int)).toNat).path), .int .i64 ((at_nod Lc ((k : Int)).toNat).mode), str ((at_nod Lc ((k : Int)).toNat).target), ((at_nod Lc ((k : Int)).toNat).dv), .int .i64 ((at_nod Lc ((k : Int)).toNat).cls)]) Tryz.underlying50 rfl (show _ = some 6 by kernel_rfl) rfl rfl (hb1.rows (by first | omega | (simp; omega))) (by first | omega | (simp; omega)) rfl) rfl rfl rfl trivial ?_
   refine LH_one (i := 9) (by kernel_rfl) ?_
   have hq50 : Okp nodS h35 pd (at_nod Lc ((k : Int) - 1).toNat) := hb1.okp (by first | omega | (simp; omega))
   refine LO_yld (i := 9) rfl (Y_ldrA0 (k := ((k : Int) - 1).toNat) (us := [.int .i64 ((at_nod Lc ((k : Int) - 1).toNat).kind), str ((at_nod Lc ((k : Int) - 1).toNat).path), .int .i64 ((at_nod Lc ((k : Int) - 1).toNat).mode), str ((at_nod Lc ((k : Int) - 1).toNat).target), ((at_nod Lc ((k : Int) - 1).toNat).dv), .int .i64 ((at_nod Lc ((k : Int) - 1).toNat).cls)]) Tryz.underlying50 rfl (show _ = some 6 by kernel_rfl) rfl rfl (hb1.rows (by first | omega | (simp; omega))) (by first | omega | (simp; omega)) rfl) rfl rfl rfl trivial ?_
   refine LH_take (i := 14) rfl (fun h_ hI_ => Y_idxB Tryz.underlying22 (show _ = some 6 by kernel_rfl) rfl rfl (by first | omega | (simp; omega)) (by first | omega | (simp; omega))) rfl rfl rfl (by kernel_rfl) (by kernel_rfl) (by kernel_rfl) (fun _ _ _ => by rintro ⟨_, _, h_, _⟩; cases h_) trivial ?_
   refine LH_one (i := 15) (by kernel_rfl) ?_
   refine LO_dos (i := 15) rfl (D_rsetA (S := nodS) (us := [.int .i64 ((at_nod Lc ((k : Int) - 1).toNat).kind), str ((at_nod Lc ((k : Int) - 1).toNat).path), .int .i64 ((at_nod Lc ((k : Int) - 1).toNat).mode), str ((at_nod Lc ((k : Int) - 1).toNat).target), ((at_nod Lc ((k : Int) - 1).toNat).dv), .int .i64 ((at_nod Lc ((k : Int) - 1).toNat).cls)]) (a := (at_nod Lc ((k : Int) - 1).toNat)) (k := ((k : Int)).toNat) (show _ = some 6 by kernel_rfl) rfl rfl rfl rfl hb1 (by first | omega | (simp; omega)) rfl hq50.1 hq50.2 hpB) rfl rfl ?_
   rintro h38 ⟨hx51, -, hb52⟩
   refine ⟨trivial, ?_⟩
   refine LH_take (i := 16) rfl (fun h_ hI_ => Y_idxB Tryz.underlying22 (show _ = some 6 by kernel_rfl) rfl rfl (by first | omega | (simp; omega)) (by first | omega | (simp; omega))) rfl rfl rfl (by kernel_rfl) (by kernel_rfl) (by kernel_rfl) (fun _ _ _ => by rintro ⟨_, _, h_, _⟩; cases h_) trivial ?_
   refine LH_one (i := 17) (by kernel_rfl) ?_
   have hc55 := (hq49.only hx51 hpB)
   refine LO_dos (i := 17) rfl (D_rsetA (S := nodS) (us := [.int .i64 ((at_nod Lc ((k : Int)).toNat).kind), str ((at_nod Lc ((k : Int)).toNat).path), .int .i64 ((at_nod Lc ((k : Int)).toNat).mode), str ((at_nod Lc ((k : Int)).toNat).target), ((at_nod Lc ((k : Int)).toNat).dv), .int .i64 ((at_nod Lc ((k : Int)).toNat).cls)]) (a := (at_nod Lc ((k : Int)).toNat)) (k := ((k : Int) - 1).toNat) (show _ = some 6 by kernel_rfl) rfl rfl rfl rfl hb52 (by first | omega | (simp; omega)) rfl hc55.1 hc55.2 hpB) rfl rfl ?_
   rintro h39 ⟨hx53, -, hb54⟩
   refine ⟨trivial, ?_⟩
   refine LH_done (by kernel_rfl) ?_
   refine X_block (X_then ?_)
   refine W_sub _ (tk7 0 1 2 3 4 14 17) ?_
   refine W_region ?_
   refine Mv ?_
   refine Ly (Y_sub rfl rfl (by omega) (by omega)) ?_
   refine Av ?_
   refine L_nil ?_
   refine X_loop ((k - 1, ((Lc.set (((k : Int)).toNat) (at_nod Lc ((k : Int) - 1).toNat)).set (((k : Int) - 1).toNat) (at_nod Lc ((k : Int)).toNat)))) (sk6 0 1 2 3 4 14 rfl rfl rfl rfl rfl rfl (sk1 17 (lki rfl (by omega)) sN)) ?_ ?_
   ·exact ⟨by omega, by omega, by simp [hLl], by rw [show ((k : Int) - 1).toNat = k - 1 by omega, show k - 1 - i = k - i - 1 by omega]; exact (shr_step (by omega)).symm.trans hT2, (Only.trans (Only.trans (Only.trans (Only.refl _ _) hx2 (fun _ hb_ => .inl hb_)) hx51 (fun _ hb_ => .inl hb_)) hx53 (fun _ hb_ => .inl hb_)), hb54⟩
   (try dsimp only)
   omega
  refine W_exit ?_
  refine X_then_exit (X_then_exit ?_)
  refine X_block_hit ?_
  refine X_then ?_
  refine W_sub _ (tk5 0 1 2 3 4) ?_
  refine W_ret (X_then_ret ?_)
  refine X_end0 rfl ?_
  refine ⟨rfl, (Only.trans (Only.refl _ _) hx2 (fun _ hb_ => .inl hb_)), RBuf.congr hb1 ?_⟩
  rw [smf_2 (by omega) (by omega), ← hT, bsr_end (by omega), ← hT2, show k - i = 0 by omega]; rfl
 refine Ws ?_
 refine W_sub _ (tk5 0 1 2 3 4) ?_
 refine Wr ?_
 refine Mv ?_
 refine Mv ?_
 refine Ly (Y_add rfl rfl (by omega) (by omega)) ?_
 refine Ly (Y_convs Tryz.underlying3 Tryz.underlying132 rfl (wrap_u64b (by first | omega | (simp; omega)) (by first | omega | (simp; omega)))) ?_
 refine Ly (Y_shru rfl rfl (by first | omega | (simp; omega)) (by omega)) ?_
 refine Ly (Y_convs Tryz.underlying132 Tryz.underlying3 rfl (wrap_i64 (by first | omega | (simp; omega)) (by first | omega | (simp; omega)))) ?_
 refine Av ?_
 refine Nx ?_
 refine W_sub _ (tk6 18 0 1 2 3 4) ?_
 rw [half_eq]
 refine Wr ?_
 refine Mv ?_
 refine Mv ?_
 refine Ly (Y_add rfl rfl (by omega) (by omega)) ?_
 refine Av ?_
 refine Nx ?_
 refine W_sub _ (tk7 19 18 0 1 2 3 4) ?_
 refine Wr ?_
 refine Av ?_
 refine Av ?_
 refine Nx ?_
 refine W_cut (S := Unit) (fun _u => [(19, .int .i64 ((((a + b) / 2 : Nat) : Int) + (m : Int))), (18, .int .i64 ((((a + b) / 2 : Nat) : Int))), (0, .slice (some ⟨B, 0, none⟩) N N), (1, .int .i64 ((a : Int))), (2, .int .i64 ((m : Int))), (3, .int .i64 ((b : Int))), (4, .func (.func 33) #[] #[]), (20, .int .i64 ((sS0 a m b : Int))), (21, .int .i64 ((sR0 a m b : Int)))]) (fun _u h' => h' = h) ?_ ?_
 ·refine Wr ?_
  refine Mv ?_
  refine Mv ?_
  refine Ly (Y_gtr rfl rfl) ?_
  refine Nx ?_
  refine W_sub _ (sk2 140 21 rfl rfl (tk8 20 19 18 0 1 2 3 4)) ?_
  refine W_splitd rfl (fun c => ?_) (fun c => ?_)
  ·refine Wr ?_
   refine Mv ?_
   refine Mv ?_
   refine Ly (Y_sub rfl rfl (by omega) (by omega)) ?_
   refine Av ?_
   refine Nx ?_
   refine W_sub _ (sk1 20 rfl (tk8 21 19 18 0 1 2 3 4)) ?_
   refine W_region ?_
   refine Mv ?_
   refine Av ?_
   refine L_nil ?_
   refine X_cut (()) (sk7 19 18 0 1 2 3 4 rfl rfl rfl rfl rfl rfl rfl (sk1 20 (lki rfl (by rw [sS0, if_pos (by omega)]; omega)) (sk1 21 (lki rfl (by rw [sR0, if_pos (by omega)])) sN))) ?_
   rfl
  refine Wr ?_
  refine Mv ?_
  refine Av ?_
  refine Nx ?_
  refine W_sub _ (sk1 20 rfl (tk8 21 19 18 0 1 2 3 4)) ?_
  refine W_region ?_
  refine Mv ?_
  refine Av ?_
  refine L_nil ?_
  refine X_cut (()) (sk7 19 18 0 1 2 3 4 rfl rfl rfl rfl rfl rfl rfl (sk1 20 (lki rfl (by rw [sS0, if_neg (by omega)])) (sk1 21 (lki rfl (by rw [sR0, if_neg (by omega)])) sN))) ?_
  rfl
 rintro _u h rfl
 show W _ _ _ _ _ [(19, .int .i64 ((((a + b) / 2 : Nat) : Int) + (m : Int))), (18, .int .i64 ((((a + b) / 2 : Nat) : Int))), (0, .slice (some ⟨B, 0, none⟩) N N), (1, .int .i64 ((a : Int))), (2, .int .i64 ((m : Int))), (3, .int .i64 ((b : Int))), (4, .func (.func 33) #[] #[]), (20, .int .i64 ((sS0 a m b : Int))), (21, .int .i64 ((sR0 a m b : Int)))] _
 have q3 := sbnd ha1 ha2 q1 q2
 refine Wr ?_
 refine Mv ?_
 refine Ly (Y_sub rfl rfl (by omega) (by omega)) ?_
 refine Av ?_
 refine Nx ?_
 refine W_sub _ (sk2 22 19 rfl rfl (tk8 18 0 1 2 3 4 20 21)) ?_
 refine W_seq (W_block ?_)
 refine W_loop (S := Nat × Nat × Nat) (fun (g, s, r) => [(22, .int .i64 (((((a + b) / 2 : Nat) : Int) + (m : Int)) - 1)), (19, .int .i64 ((((a + b) / 2 : Nat) : Int) + (m : Int))), (18, .int .i64 ((((a + b) / 2 : Nat) : Int))), (0, .slice (some ⟨B, 0, none⟩) N N), (1, .int .i64 ((a : Int))), (2, .int .i64 ((m : Int))), (3, .int .i64 ((b : Int))), (4, .func (.func 33) #[] #[]), (20, .int .i64 ((s : Int))), (21, .int .i64 ((r : Int)))]) (fun (g, s, r) h' => sS0 a m b ≤ s ∧ s ≤ r ∧ r ≤ sR0 a m b ∧ r - s ≤ g ∧ bsr (pl3 L ((a + b) / 2 + m - 1)) g s r = sS L a m b ∧ Ext h h') (fun (g, s, r) => g) (sR0 a m b - sS0 a m b, sS0 a m b, sR0 a m b) (sk2 22 19 rfl rfl (tk8 18 0 1 2 3 4 20 21)) ?_ ?_
 ·exact ⟨by omega, by omega, by omega, by omega, rfl, (Ext.refl _)⟩
 rintro ⟨g, s, r⟩ h40 ⟨hi, hij, hjb, hg, hT, hx⟩
 show W _ _ _ _ _ [(22, .int .i64 (((((a + b) / 2 : Nat) : Int) + (m : Int)) - 1)), (19, .int .i64 ((((a + b) / 2 : Nat) : Int) + (m : Int))), (18, .int .i64 ((((a + b) / 2 : Nat) : Int))), (0, .slice (some ⟨B, 0, none⟩) N N), (1, .int .i64 ((a : Int))), (2, .int .i64 ((m : Int))), (3, .int .i64 ((b : Int))), (4, .func (.func 33) #[] #[]), (20, .int .i64 ((s : Int))), (21, .int .i64 ((r : Int)))] _
 refine W_seq (W_seq (W_region ?_))
 refine Mv ?_
 refine Mv ?_
 refine Ly (Y_lss rfl rfl) ?_
 refine Nx ?_
 refine W_sub _ (sk3 151 22 19 rfl rfl rfl (tk8 18 0 1 2 3 4 20 21)) ?_
 refine W_splitd rfl (fun c => ?_) (fun c => ?_)
 ·refine Ws ?_
  refine W_sub _ (sk2 22 19 rfl rfl (tk8 18 0 1 2 3 4 20 21)) ?_
  refine W_block (W_seq (W_region ?_))
  refine Mv ?_
  refine Mv ?_
  refine Ly (Y_add rfl rfl (by omega) (by omega)) ?_
  refine Ly (Y_convs Tryz.underlying3 Tryz.underlying132 rfl (wrap_u64b (by first | omega | (simp; omega)) (by first | omega | (simp; omega)))) ?_
  refine Ly (Y_shru rfl rfl (by first | omega | (simp; omega)) (by omega)) ?_
  refine Ly (Y_convs Tryz.underlying132 Tryz.underlying3 rfl (wrap_i64 (by first | omega | (simp; omega)) (by first | omega | (simp; omega)))) ?_
  refine Av ?_
  refine Nx ?_
  refine W_sub _ (sk3 23 22 19 rfl rfl rfl (tk8 18 0 1 2 3 4 20 21)) ?_
  rw [half_eq]
  refine W_seq ?_
  refine W_pers [(23, .int .i64 ((((s + r) / 2 : Nat) : Int))), (22, .int .i64 (((((a + b) / 2 : Nat) : Int) + (m : Int)) - 1)), (19, .int .i64 ((((a + b) / 2 : Nat) : Int) + (m : Int))), (18, .int .i64 ((((a + b) / 2 : Nat) : Int))), (0, .slice (some ⟨B, 0, none⟩) N N), (1, .int .i64 ((a : Int))), (2, .int .i64 ((m : Int))), (3, .int .i64 ((b : Int))), (4, .func (.func 33) #[] #[]), (20, .int .i64 ((s : Int))), (21, .int .i64 ((r : Int)))] (sk3 23 22 19 rfl rfl rfl (tk8 18 0 1 2 3 4 20 21)) (by kernel_rfl) ?_
  refine LP_op 0 (fun _ vv => .func (.func 33) #[] #[] = vv) [] rfl rfl (by kernel_rfl) (fun _ _ _ _ p => p) ?_ ?_
  ·intro h41 hx56
   refine Needs_nil ?_
   refine Stp_yld (Y_move rfl) rfl ?_
   exact rfl
  refine LP_op 1 (fun _ vv => .slice (some ⟨B, 0, none⟩) N N = vv) [] rfl rfl (by kernel_rfl) (fun _ _ _ _ p => p) ?_ ?_
  ·intro h42 hx57
   refine Needs_nil ?_
   refine Stp_yld (Y_move rfl) rfl ?_
   exact rfl
  refine LP_op 2 (fun _ vv => .int .i64 (((((a + b) / 2 : Nat) : Int) + (m : Int)) - 1) = vv) [] rfl rfl (by kernel_rfl) (fun _ _ _ _ p => p) ?_ ?_
  ·intro h43 hx58
   refine Needs_nil ?_
   refine Stp_yld (Y_move rfl) rfl ?_
   exact rfl
  refine LP_op 3 (fun _ vv => .int .i64 ((((s + r) / 2 : Nat) : Int)) = vv) [] rfl rfl (by kernel_rfl) (fun _ _ _ _ p => p) ?_ ?_
  ·intro h44 hx59
   refine Needs_nil ?_
   refine Stp_yld (Y_move rfl) rfl ?_
   exact rfl
  refine LP_op 4 (fun _ vv => .int .i64 ((((((a + b) / 2 : Nat) : Int) + (m : Int)) - 1) - (((s + r) / 2 : Nat) : Int)) = vv) [(2, 160), (3, 161)] rfl rfl (by kernel_rfl) (fun _ _ _ _ p => p) ?_ ?_
  ·intro h45 hx60
   rintro _ rfl
   rintro _ rfl
   refine Needs_nil ?_
   refine Stp_yld (Y_sub rfl rfl (by omega) (by omega)) rfl ?_
   exact rfl
  refine LP_op 5 (fun _ vv => .pointer (some (elemAddr (.slice (some ⟨B, 0, none⟩) N N) (((((((a + b) / 2 : Nat) : Int) + (m : Int)) - 1) - (((s + r) / 2 : Nat) : Int)).toNat * 6))) = vv) [(4, 162), (1, 159)] rfl rfl (by kernel_rfl) (fun _ _ _ _ p => p) ?_ ?_
  ·intro h46 hx61
   rintro _ rfl
   rintro _ rfl
   refine Needs_nil ?_
   refine Stp_yld (Y_idxB Tryz.underlying22 (show _ = some 6 by kernel_rfl) rfl rfl (by first | omega | (simp; omega)) (by first | omega | (simp; omega))) rfl ?_
   exact rfl
  refine LP_op 6 (fun _ vv => .agg #[.int .i64 ((at_nod L ((((((a + b) / 2 : Nat) : Int) + (m : Int)) - 1) - (((s + r) / 2 : Nat) : Int)).toNat).kind), str ((at_nod L ((((((a + b) / 2 : Nat) : Int) + (m : Int)) - 1) - (((s + r) / 2 : Nat) : Int)).toNat).path), .int .i64 ((at_nod L ((((((a + b) / 2 : Nat) : Int) + (m : Int)) - 1) - (((s + r) / 2 : Nat) : Int)).toNat).mode), str ((at_nod L ((((((a + b) / 2 : Nat) : Int) + (m : Int)) - 1) - (((s + r) / 2 : Nat) : Int)).toNat).target), ((at_nod L ((((((a + b) / 2 : Nat) : Int) + (m : Int)) - 1) - (((s + r) / 2 : Nat) : Int)).toNat).dv), .int .i64 ((at_nod L ((((((a + b) / 2 : Nat) : Int) + (m : Int)) - 1) - (((s + r) / 2 : Nat) : Int)).toNat).cls)] = vv) [(5, 163)] rfl rfl (by kernel_rfl) (fun _ _ _ _ p => p) ?_ ?_
  ·intro h47 hx62
   rintro _ rfl
   refine Needs_nil ?_
   refine Stp_yld (Y_ldrA0 (k := ((((((a + b) / 2 : Nat) : Int) + (m : Int)) - 1) - (((s + r) / 2 : Nat) : Int)).toNat) (us := [.int .i64 ((at_nod L ((((((a + b) / 2 : Nat) : Int) + (m : Int)) - 1) - (((s + r) / 2 : Nat) : Int)).toNat).kind), str ((at_nod L ((((((a + b) / 2 : Nat) : Int) + (m : Int)) - 1) - (((s + r) / 2 : Nat) : Int)).toNat).path), .int .i64 ((at_nod L ((((((a + b) / 2 : Nat) : Int) + (m : Int)) - 1) - (((s + r) / 2 : Nat) : Int)).toNat).mode), str ((at_nod L ((((((a + b) / 2 : Nat) : Int) + (m : Int)) - 1) - (((s + r) / 2 : Nat) : Int)).toNat).target), ((at_nod L ((((((a + b) / 2 : Nat) : Int) + (m : Int)) - 1) - (((s + r) / 2 : Nat) : Int)).toNat).dv), .int .i64 ((at_nod L ((((((a + b) / 2 : Nat) : Int) + (m : Int)) - 1) - (((s + r) / 2 : Nat) : Int)).toNat).cls)]) Tryz.underlying50 rfl (show _ = some 6 by kernel_rfl) rfl rfl ((hb.ext (hx.trans hx62)).rows (by first | omega | (simp; omega))) (by first | omega | (simp; omega)) rfl) rfl ?_
   exact rfl
  refine LP_op 7 (fun _ vv => .slice (some ⟨B, 0, none⟩) N N = vv) [] rfl rfl (by kernel_rfl) (fun _ _ _ _ p => p) ?_ ?_
  ·intro h48 hx63
   refine Needs_nil ?_
   refine Stp_yld (Y_move rfl) rfl ?_
   exact rfl
  refine LP_op 8 (fun _ vv => .int .i64 ((((s + r) / 2 : Nat) : Int)) = vv) [] rfl rfl (by kernel_rfl) (fun _ _ _ _ p => p) ?_ ?_
  ·intro h49 hx64
   refine Needs_nil ?_
   refine Stp_yld (Y_move rfl) rfl ?_
   exact rfl
  refine LP_op 9 (fun _ vv => .pointer (some (elemAddr (.slice (some ⟨B, 0, none⟩) N N) (((((s + r) / 2 : Nat) : Int)).toNat * 6))) = vv) [(7, 165), (8, 166)] rfl rfl (by kernel_rfl) (fun _ _ _ _ p => p) ?_ ?_
  ·intro h50 hx65
   rintro _ rfl
   rintro _ rfl
   refine Needs_nil ?_
   refine Stp_yld (Y_idxB Tryz.underlying22 (show _ = some 6 by kernel_rfl) rfl rfl (by first | omega | (simp; omega)) (by first | omega | (simp; omega))) rfl ?_
   exact rfl
  refine LP_op 10 (fun _ vv => .agg #[.int .i64 ((at_nod L ((((s + r) / 2 : Nat) : Int)).toNat).kind), str ((at_nod L ((((s + r) / 2 : Nat) : Int)).toNat).path), .int .i64 ((at_nod L ((((s + r) / 2 : Nat) : Int)).toNat).mode), str ((at_nod L ((((s + r) / 2 : Nat) : Int)).toNat).target), ((at_nod L ((((s + r) / 2 : Nat) : Int)).toNat).dv), .int .i64 ((at_nod L ((((s + r) / 2 : Nat) : Int)).toNat).cls)] = vv) [(9, 167)] rfl rfl (by kernel_rfl) (fun _ _ _ _ p => p) ?_ ?_
  ·intro h51 hx66
   rintro _ rfl
   refine Needs_nil ?_
   refine Stp_yld (Y_ldrA0 (k := ((((s + r) / 2 : Nat) : Int)).toNat) (us := [.int .i64 ((at_nod L ((((s + r) / 2 : Nat) : Int)).toNat).kind), str ((at_nod L ((((s + r) / 2 : Nat) : Int)).toNat).path), .int .i64 ((at_nod L ((((s + r) / 2 : Nat) : Int)).toNat).mode), str ((at_nod L ((((s + r) / 2 : Nat) : Int)).toNat).target), ((at_nod L ((((s + r) / 2 : Nat) : Int)).toNat).dv), .int .i64 ((at_nod L ((((s + r) / 2 : Nat) : Int)).toNat).cls)]) Tryz.underlying50 rfl (show _ = some 6 by kernel_rfl) rfl rfl ((hb.ext (hx.trans hx66)).rows (by first | omega | (simp; omega))) (by first | omega | (simp; omega)) rfl) rfl ?_
   exact rfl
  refine LP_op 11 (fun _ vv => .int .i64 (pcmp (at_nod L ((((((a + b) / 2 : Nat) : Int) + (m : Int)) - 1) - (((s + r) / 2 : Nat) : Int)).toNat).path (at_nod L ((((s + r) / 2 : Nat) : Int)).toNat).path) = vv) [(10, 168), (6, 164), (0, 158)] rfl rfl (by kernel_rfl) (fun _ _ _ _ p => p) ?_ ?_
  ·intro h52 hx67
   rintro _ rfl
   rintro _ rfl
   rintro _ rfl
   refine Needs_nil ?_
   refine Stp_call (E_callv (fs := []) (cs := []) (by kernel_rfl) rfl rfl) (canon_cmp _ (at_nod L ((((((a + b) / 2 : Nat) : Int) + (m : Int)) - 1) - (((s + r) / 2 : Nat) : Int)).toNat) (show Bytes _ ((at_nod L ((((((a + b) / 2 : Nat) : Int) + (m : Int)) - 1) - (((s + r) / 2 : Nat) : Int)).toNat).dv) ((at_nod L ((((((a + b) / 2 : Nat) : Int) + (m : Int)) - 1) - (((s + r) / 2 : Nat) : Int)).toNat).data) from ((hb.ext (hx.trans hx67)).okp (k := ((((((a + b) / 2 : Nat) : Int) + (m : Int)) - 1) - (((s + r) / 2 : Nat) : Int)).toNat) (by first | omega | (simp; omega))).1) (at_nod L ((((s + r) / 2 : Nat) : Int)).toNat) (show Bytes _ ((at_nod L ((((s + r) / 2 : Nat) : Int)).toNat).dv) ((at_nod L ((((s + r) / 2 : Nat) : Int)).toNat).data) from ((hb.ext (hx.trans hx67)).okp (k := ((((s + r) / 2 : Nat) : Int)).toNat) (by first | omega | (simp; omega))).1)) rfl ?_
   rintro _ h53 ⟨rfl, hx68⟩
   exact ⟨hx68, rfl⟩
  refine LP_op 12 (fun _ vv => .bool (decide ((pcmp (at_nod L ((((((a + b) / 2 : Nat) : Int) + (m : Int)) - 1) - (((s + r) / 2 : Nat) : Int)).toNat).path (at_nod L ((((s + r) / 2 : Nat) : Int)).toNat).path) < 0)) = vv) [(11, 169)] rfl rfl (by kernel_rfl) (fun _ _ _ _ p => p) ?_ ?_
  ·intro h54 hx69
   rintro _ rfl
   refine Needs_nil ?_
   refine Stp_yld (Y_lss rfl rfl) rfl ?_
   exact rfl
  refine LP_op 13 (fun _ vv => .bool (decide (¬ ((pcmp (at_nod L ((((((a + b) / 2 : Nat) : Int) + (m : Int)) - 1) - (((s + r) / 2 : Nat) : Int)).toNat).path (at_nod L ((((s + r) / 2 : Nat) : Int)).toNat).path) < 0))) = vv) [(12, 170)] rfl rfl (by kernel_rfl) (fun _ _ _ _ p => p) ?_ ?_
  ·intro h55 hx70
   rintro _ rfl
   refine Needs_nil ?_
   refine Stp_yld (Y_notd rfl) rfl ?_
   exact rfl
  refine LP_end [(13, 171)] rfl (by kernel_rfl) rfl ?_
  intro h56 hx71
  rintro _ rfl
  refine Needs_nil ?_
  refine X_then ?_
  refine W_splitd rfl (fun d => ?_) (fun d => ?_)
  ·refine W_region ?_
   refine Mv ?_
   refine Ly (Y_add rfl rfl (by omega) (by omega)) ?_
   refine Av ?_
   refine L_nil (X_block ?_)
   refine X_loop ((g - 1, (s + r) / 2 + 1, r)) (sk2 22 19 rfl rfl (tk8 18 0 1 2 3 4 20 21)) ?_ ?_
   ·exact ⟨by omega, by omega, by omega, by omega, (bsr_yes (by omega) (by omega) (pl3_t (by omega) d)).symm.trans hT, (hx.trans hx71)⟩
   (try dsimp only)
   omega
  refine W_region ?_
  refine Mv ?_
  refine Av ?_
  refine L_nil (X_block ?_)
  refine X_loop ((g - 1, s, (s + r) / 2)) (sk2 22 19 rfl rfl (tk8 18 0 1 2 3 4 20 21)) ?_ ?_
  ·exact ⟨by omega, by omega, by omega, by omega, (bsr_no (by omega) (by omega) (pl3_f (by omega) d)).symm.trans hT, (hx.trans hx71)⟩
  (try dsimp only)
  omega
 refine W_exit ?_
 refine X_then_exit (X_then_exit ?_)
 refine X_block_hit ?_
 refine X_then ?_
 refine W_sub _ (tk8 19 18 0 1 2 3 4 20) ?_
 have hs : sS L a m b = s := by rw [← hT, bsr_end (by omega)]
 refine Wr ?_
 refine Mv ?_
 refine Mv ?_
 refine Ly (Y_sub rfl rfl (by omega) (by omega)) ?_
 refine Av ?_
 refine Nx ?_
 refine W_sub _ (tk8 24 18 0 1 2 3 4 20) ?_
 rw [show ((((a + b) / 2 : Nat) : Int) + (m : Int)) - (s : Int) = (((a + b) / 2 + m - s : Nat) : Int) by omega]
 refine W_cut (S := List Nod) (fun L1 => [(24, .int .i64 ((((a + b) / 2 + m - s : Nat) : Int))), (18, .int .i64 ((((a + b) / 2 : Nat) : Int))), (0, .slice (some ⟨B, 0, none⟩) N N), (1, .int .i64 ((a : Int))), (3, .int .i64 ((b : Int))), (4, .func (.func 33) #[] #[]), (20, .int .i64 ((s : Int)))]) (fun L1 h' => L1 = (if s < m ∧ m < (a + b) / 2 + m - s then rot L s m ((a + b) / 2 + m - s) else L) ∧ L1.length = L.length ∧ Only [B] h h' ∧ RBuf nodS h' B pd L1) ?_ ?_
 ·refine W_cut (S := Unit) (fun _ => [(185, .bool (decide (((s : Int) < (m : Int)) ∧ ((m : Int) < (((a + b) / 2 + m - s : Nat) : Int))))), (24, .int .i64 ((((a + b) / 2 + m - s : Nat) : Int))), (18, .int .i64 ((((a + b) / 2 : Nat) : Int))), (0, .slice (some ⟨B, 0, none⟩) N N), (1, .int .i64 ((a : Int))), (2, .int .i64 ((m : Int))), (3, .int .i64 ((b : Int))), (4, .func (.func 33) #[] #[]), (20, .int .i64 ((s : Int)))]) (fun _ h' => h' = h40) ?_ ?_
  ·refine W_region ?_
   refine Mv ?_
   refine Mv ?_
   refine Ly (Y_lss rfl rfl) ?_
   refine Mv ?_
   refine L_splitd (d := 181) rfl (fun e => ?_) (fun e => ?_)
   ·refine Ly (Y_move rfl) ?_
    refine Mv ?_
    refine Ly (Y_lss rfl rfl) ?_
    refine Ly (Y_pick_t rfl rfl) ?_
    refine L_nil ?_
    exact X_cut () (sk1 185 (lkb rfl (by first | (simp only [eq_true e, SB]; done) | (simp only [eq_true e, SB]; rfl))) (sk1 24 rfl (sk1 18 rfl (sk1 0 rfl (sk1 1 rfl (sk1 2 rfl (sk1 3 rfl (sk1 4 rfl (tk1 20))))))))) rfl
   refine Skp ?_
   refine Skp ?_
   refine Skp ?_
   refine Ly (Y_pick_f rfl rfl) ?_
   refine L_nil ?_
   exact X_cut () (sk1 185 (lkb rfl (by first | (simp only [eq_false e, SB]; done) | (simp only [eq_false e, SB]; rfl))) (sk1 24 rfl (sk1 18 rfl (sk1 0 rfl (sk1 1 rfl (sk1 2 rfl (sk1 3 rfl (sk1 4 rfl (tk1 20))))))))) rfl
  rintro _ h40 rfl
  show W _ _ _ _ _ [(185, .bool (decide (((s : Int) < (m : Int)) ∧ ((m : Int) < (((a + b) / 2 + m - s : Nat) : Int))))), (24, .int .i64 ((((a + b) / 2 + m - s : Nat) : Int))), (18, .int .i64 ((((a + b) / 2 : Nat) : Int))), (0, .slice (some ⟨B, 0, none⟩) N N), (1, .int .i64 ((a : Int))), (2, .int .i64 ((m : Int))), (3, .int .i64 ((b : Int))), (4, .func (.func 33) #[] #[]), (20, .int .i64 ((s : Int)))] _
  refine W_splitd rfl (fun c72 => ?_) (fun c72 => ?_)
  ·refine W_region ?_
   refine Mv ?_
   refine Mv ?_
   refine Mv ?_
   refine Mv ?_
   refine Mv ?_
   refine L_call (E_call (by kernel_rfl) rfl) (sort_rotate _ B N L pd (hb.ext hx) (s : Int) (m : Int) (((a + b) / 2 + m - s : Nat) : Int) (by first | omega | rfl | (simp <;> omega)) (by first | omega | rfl | (simp <;> omega)) (by first | omega | rfl | (simp <;> omega)) (by first | omega | rfl | (simp <;> omega)) (by first | omega | rfl | (simp <;> omega)) (by first | omega | rfl | (simp <;> omega)) (by first | omega | rfl | (simp <;> omega))) rfl rfl rfl ?_
   rintro _ h57 ⟨rfl, hx73, hb74⟩
   refine L_nil ?_
   refine X_cut ((rot L (s : Int).toNat (m : Int).toNat (((a + b) / 2 + m - s : Nat) : Int).toNat)) (tk7 24 18 0 1 3 4 20) ?_
   exact ⟨by rw [if_pos ⟨by omega, by omega⟩]; rfl, by simp, (Only.trans (Only.trans (Only.refl _ _) hx (fun _ hb_ => by cases hb_)) hx73 (fun _ hb_ => .inl hb_)), hb74⟩
  refine W_skip ?_
  refine X_cut (L) (tk7 24 18 0 1 3 4 20) ?_
  exact ⟨by rw [if_neg (by omega)], rfl, (Only.trans (Only.refl _ _) hx (fun _ hb_ => by cases hb_)), (hb.ext hx)⟩
 rintro L1 h58 ⟨hL1, hl1, hx3, hb3⟩
 show W _ _ _ _ _ [(24, .int .i64 ((((a + b) / 2 + m - s : Nat) : Int))), (18, .int .i64 ((((a + b) / 2 : Nat) : Int))), (0, .slice (some ⟨B, 0, none⟩) N N), (1, .int .i64 ((a : Int))), (3, .int .i64 ((b : Int))), (4, .func (.func 33) #[] #[]), (20, .int .i64 ((s : Int)))] _
 refine W_cut (S := List Nod) (fun L2 => [(24, .int .i64 ((((a + b) / 2 + m - s : Nat) : Int))), (18, .int .i64 ((((a + b) / 2 : Nat) : Int))), (0, .slice (some ⟨B, 0, none⟩) N N), (3, .int .i64 ((b : Int))), (4, .func (.func 33) #[] #[])]) (fun L2 h' => L2 = (if a < s ∧ s < (a + b) / 2 then smf f a s ((a + b) / 2) L1 else L1) ∧ L2.length = L.length ∧ Only [B] h h' ∧ RBuf nodS h' B pd L2) ?_ ?_
 ·refine W_cut (S := Unit) (fun _ => [(199, .bool (decide (((a : Int) < (s : Int)) ∧ ((s : Int) < (((a + b) / 2 : Nat) : Int))))), (24, .int .i64 ((((a + b) / 2 + m - s : Nat) : Int))), (18, .int .i64 ((((a + b) / 2 : Nat) : Int))), (0, .slice (some ⟨B, 0, none⟩) N N), (1, .int .i64 ((a : Int))), (3, .int .i64 ((b : Int))), (4, .func (.func 33) #[] #[]), (20, .int .i64 ((s : Int)))]) (fun _ h' => h' = h58) ?_ ?_
  ·refine W_region ?_
   refine Mv ?_
   refine Mv ?_
   refine Ly (Y_lss rfl rfl) ?_
   refine Mv ?_
   refine L_splitd (d := 195) rfl (fun e2 => ?_) (fun e2 => ?_)
   ·refine Ly (Y_move rfl) ?_
    refine Mv ?_
    refine Ly (Y_lss rfl rfl) ?_
    refine Ly (Y_pick_t rfl rfl) ?_
    refine L_nil ?_
    exact X_cut () (sk1 199 (lkb rfl (by first | (simp only [eq_true e2, SB]; done) | (simp only [eq_true e2, SB]; rfl))) (sk1 24 rfl (sk1 18 rfl (sk1 0 rfl (sk1 1 rfl (sk1 3 rfl (sk1 4 rfl (tk1 20)))))))) rfl
   refine Skp ?_
   refine Skp ?_
   refine Skp ?_
   refine Ly (Y_pick_f rfl rfl) ?_
   refine L_nil ?_
   exact X_cut () (sk1 199 (lkb rfl (by first | (simp only [eq_false e2, SB]; done) | (simp only [eq_false e2, SB]; rfl))) (sk1 24 rfl (sk1 18 rfl (sk1 0 rfl (sk1 1 rfl (sk1 3 rfl (sk1 4 rfl (tk1 20)))))))) rfl
  rintro _ h58 rfl
  show W _ _ _ _ _ [(199, .bool (decide (((a : Int) < (s : Int)) ∧ ((s : Int) < (((a + b) / 2 : Nat) : Int))))), (24, .int .i64 ((((a + b) / 2 + m - s : Nat) : Int))), (18, .int .i64 ((((a + b) / 2 : Nat) : Int))), (0, .slice (some ⟨B, 0, none⟩) N N), (1, .int .i64 ((a : Int))), (3, .int .i64 ((b : Int))), (4, .func (.func 33) #[] #[]), (20, .int .i64 ((s : Int)))] _
  refine W_splitd rfl (fun c75 => ?_) (fun c75 => ?_)
  ·refine W_region ?_
   refine Mv ?_
   refine Mv ?_
   refine Mv ?_
   refine Mv ?_
   refine Mv ?_
   refine L_call (E_call (by kernel_rfl) rfl) (ih _ B N L1 pd hb3 a s (((((a + b) / 2 : Nat) : Int)).toNat) (by first | omega | rfl | (simp <;> omega)) (by first | omega | rfl | (simp <;> omega)) (by first | omega | rfl | (simp <;> omega)) (by first | omega | rfl | (simp <;> omega)) (by first | omega | rfl | (simp <;> omega)) (by first | omega | rfl | (simp <;> omega)) (by first | omega | rfl | (simp <;> omega))) rfl rfl rfl ?_
   rintro _ h59 ⟨rfl, hx76, hb77⟩
   refine L_nil ?_
   refine X_cut ((smf f a s (((((a + b) / 2 : Nat) : Int)).toNat) L1)) (tk5 24 18 0 3 4) ?_
   exact ⟨by rw [if_pos ⟨by omega, by omega⟩]; rfl, by simp [hl1], (Only.trans (Only.trans (Only.refl _ _) hx3 (fun _ hb_ => .inl hb_)) hx76 (fun _ hb_ => .inl hb_)), hb77⟩
  refine W_skip ?_
  refine X_cut (L1) (tk5 24 18 0 3 4) ?_
  exact ⟨by rw [if_neg (by omega)], hl1, (Only.trans (Only.refl _ _) hx3 (fun _ hb_ => .inl hb_)), hb3⟩
 rintro L2 h60 ⟨hL2, hl2, hx4, hb4⟩
 show W _ _ _ _ _ [(24, .int .i64 ((((a + b) / 2 + m - s : Nat) : Int))), (18, .int .i64 ((((a + b) / 2 : Nat) : Int))), (0, .slice (some ⟨B, 0, none⟩) N N), (3, .int .i64 ((b : Int))), (4, .func (.func 33) #[] #[])] _
 refine W_cut (S := Unit) (fun _ => [(213, .bool (decide (((((a + b) / 2 : Nat) : Int) < (((a + b) / 2 + m - s : Nat) : Int)) ∧ ((((a + b) / 2 + m - s : Nat) : Int) < (b : Int))))), (24, .int .i64 ((((a + b) / 2 + m - s : Nat) : Int))), (18, .int .i64 ((((a + b) / 2 : Nat) : Int))), (0, .slice (some ⟨B, 0, none⟩) N N), (3, .int .i64 ((b : Int))), (4, .func (.func 33) #[] #[])]) (fun _ h' => h' = h60) ?_ ?_
 ·refine W_region ?_
  refine Mv ?_
  refine Mv ?_
  refine Ly (Y_lss rfl rfl) ?_
  refine Mv ?_
  refine L_splitd (d := 209) rfl (fun e3 => ?_) (fun e3 => ?_)
  ·refine Ly (Y_move rfl) ?_
   refine Mv ?_
   refine Ly (Y_lss rfl rfl) ?_
   refine Ly (Y_pick_t rfl rfl) ?_
   refine L_nil ?_
   exact X_cut () (sk1 213 (lkb rfl (by first | (simp only [eq_true e3, SB]; done) | (simp only [eq_true e3, SB]; rfl))) (sk1 24 rfl (sk1 18 rfl (sk1 0 rfl (sk1 3 rfl (tk1 4)))))) rfl
  refine Skp ?_
  refine Skp ?_
  refine Skp ?_
  refine Ly (Y_pick_f rfl rfl) ?_
  refine L_nil ?_
  exact X_cut () (sk1 213 (lkb rfl (by first | (simp only [eq_false e3, SB]; done) | (simp only [eq_false e3, SB]; rfl))) (sk1 24 rfl (sk1 18 rfl (sk1 0 rfl (sk1 3 rfl (tk1 4)))))) rfl
 rintro _ h60 rfl
 show W _ _ _ _ _ [(213, .bool (decide (((((a + b) / 2 : Nat) : Int) < (((a + b) / 2 + m - s : Nat) : Int)) ∧ ((((a + b) / 2 + m - s : Nat) : Int) < (b : Int))))), (24, .int .i64 ((((a + b) / 2 + m - s : Nat) : Int))), (18, .int .i64 ((((a + b) / 2 : Nat) : Int))), (0, .slice (some ⟨B, 0, none⟩) N N), (3, .int .i64 ((b : Int))), (4, .func (.func 33) #[] #[])] _
 refine W_splitd rfl (fun c78 => ?_) (fun c78 => ?_)
 ·refine W_region ?_
  refine Mv ?_
  refine Mv ?_
  refine Mv ?_
  refine Mv ?_
  refine Mv ?_
  refine L_call (E_call (by kernel_rfl) rfl) (ih _ B N L2 pd hb4 (((((a + b) / 2 : Nat) : Int)).toNat) (((((a + b) / 2 + m - s : Nat) : Int)).toNat) b (by first | omega | rfl | (simp <;> omega)) (by first | omega | rfl | (simp <;> omega)) (by first | omega | rfl | (simp <;> omega)) (by first | omega | rfl | (simp <;> omega)) (by first | omega | rfl | (simp <;> omega)) (by first | omega | rfl | (simp <;> omega)) (by first | omega | rfl | (simp <;> omega))) rfl rfl rfl ?_
  rintro _ h61 ⟨rfl, hx79, hb80⟩
  refine L_nil ?_
  refine X_end ?_
  refine X_end0 rfl ?_
  refine ⟨rfl, (Only.trans (Only.trans (Only.refl _ _) hx4 (fun _ hb_ => .inl hb_)) hx79 (fun _ hb_ => .inl hb_)), RBuf.congr hb80 ?_⟩
  rw [smf_3 (by omega) (by omega) hs, ← hL1, ← hL2, if_pos ⟨by omega, by omega⟩]; rfl
 refine W_skip ?_
 refine X_end ?_
 refine X_end0 rfl ?_
 refine ⟨rfl, (Only.trans (Only.refl _ _) hx4 (fun _ hb_ => .inl hb_)), RBuf.congr hb4 ?_⟩
 rw [smf_3 (by omega) (by omega) hs, ← hL1, ← hL2, if_neg (by omega)]

theorem sort_symMerge_f : ∀ (f : Nat) (h : Heap) (B : Nat) (N : Nat) (L : List Nod) (pd : Nat → Prop) (hb : RBuf nodS h B pd L) (a m b : Nat) (hpB : ¬ pd B) (hN : N = L.length) (hm : L.length ≤ 1000000000000) (h1 : a < m) (h2 : m < b) (h3 : b ≤ L.length) (hf : b - a ≤ f), Cal Tryz.prog 78 #[.slice (some ⟨B, 0, none⟩) N N, .int .i64 (a : Int), .int .i64 (m : Int), .int .i64 (b : Int), .func (.func 33) #[] #[]] h (fun v h' => v = .tuple #[] ∧ Only [B] h h' ∧ RBuf nodS h' B pd (smf f a m b L))
  | 0, h, B, N, L, pd, hb, a, m, b, hpB, hN, hm, h1, h2, h3, hf => by omega
  | f + 1, h, B, N, L, pd, hb, a, m, b, hpB, hN, hm, h1, h2, h3, hf => sort_symMerge_step h B N L pd hb a m b hpB hN hm h1 h2 h3 f hf (sort_symMerge_f f)
def smg (L : List Nod) (a m b : Nat) : List Nod := smf (b - a) a m b L
@[simp] theorem smg_len (L : List Nod) (a m b : Nat) : (smg L a m b).length = L.length := smf_len _ _ _ _ _
theorem sort_symMerge (h : Heap) (B : Nat) (N : Nat) (L : List Nod) (pd : Nat → Prop) (hb : RBuf nodS h B pd L) (a m b : Int) (hpB : ¬ pd B) (hN : N = L.length) (hm : L.length ≤ 1000000000000) (h0 : 0 ≤ a) (h1 : a < m) (h2 : m < b) (h3 : b ≤ L.length) : Cal Tryz.prog 78 #[.slice (some ⟨B, 0, none⟩) N N, .int .i64 a, .int .i64 m, .int .i64 b, .func (.func 33) #[] #[]] h (fun v h' => v = .tuple #[] ∧ Only [B] h h' ∧ RBuf nodS h' B pd (smg L a.toNat m.toNat b.toNat)) := by
  obtain ⟨a, rfl⟩ := Int.eq_ofNat_of_zero_le h0
  obtain ⟨m, rfl⟩ := Int.eq_ofNat_of_zero_le (show 0 ≤ m by omega)
  obtain ⟨b, rfl⟩ := Int.eq_ofNat_of_zero_le (show 0 ≤ b by omega)
  exact sort_symMerge_f (b - a) h B N L pd hb a m b hpB hN hm (by omega) (by omega) (by omega) (Nat.le_refl _)
end Go.Xp

/- The library's stable sort of nodes: what it computes is the stable insertion into a sorted list: plain. -/
set_option linter.unusedSimpArgs false
set_option linter.unusedVariables false
set_option linter.unusedSectionVars false
namespace Go.Xp

/-- A node is put behind all that are not greater. -/
def nin (x : Nod) : List Nod → List Nod
  | [] => [x]
  | y :: l => if nlt x y then x :: y :: l else y :: nin x l
def srt (L : List Nod) : List Nod := L.foldl (fun S x => nin x S) []
/-- The stable merge of two lists. -/
def mrg : List Nod → List Nod → List Nod
  | [], Y => Y
  | x :: X, [] => x :: X
  | x :: X, y :: Y => if nlt y x then y :: mrg (x :: X) Y else x :: mrg X (y :: Y)
termination_by X Y => X.length + Y.length
def Asc (L : List Nod) : Prop := L.Pairwise (fun x y => ¬ nlt y x)

theorem nlt_iff {x y : Nod} : nlt x y ↔ Op.bytesLess x.path y.path = true := by
  unfold nlt
  rcases pcmp_cases x.path y.path with ⟨h1, h2⟩ | ⟨h1, h2⟩ | ⟨h1, h2⟩
  · rw [h1]; exact ⟨fun _ => h2, fun _ => by decide⟩
  · rw [h1, h2, less_irrefl]; exact ⟨fun q => absurd q (by decide), fun q => by cases q⟩
  · rw [h1, less_asymm h2]; exact ⟨fun q => absurd q (by decide), fun q => by cases q⟩
theorem nlt_trans {x y z : Nod} (h1 : nlt x y) (h2 : nlt y z) : nlt x z := by
  rw [nlt_iff] at *
  exact less_trans h1 h2
theorem nlt_nle {x y : Nod} (h : nlt x y) : ¬ nlt y x := by
  rw [nlt_iff] at *
  rw [less_asymm h]; exact fun q => by cases q
theorem nlt_cases (x y : Nod) : nlt x y ∨ x.path = y.path ∨ nlt y x := by
  simp only [nlt_iff]
  rcases pcmp_cases x.path y.path with ⟨h1, h2⟩ | ⟨h1, h2⟩ | ⟨h1, h2⟩
  · exact .inl h2
  · exact .inr (.inl h2)
  · exact .inr (.inr h2)
/-- x < y and y ≤ z. -/
theorem nlt_neg {x y z : Nod} (h1 : nlt x y) (h2 : ¬ nlt z y) : nlt x z := by
  rcases nlt_cases y z with h | h | h
  · exact nlt_trans h1 h
  · rw [nlt_iff] at *; rw [← h]; exact h1
  · exact absurd h h2
/-- x ≤ y and y < z. -/
theorem nlt_neg2 {x y z : Nod} (h1 : ¬ nlt y x) (h2 : nlt y z) : nlt x z := by
  rcases nlt_cases x y with h | h | h
  · exact nlt_trans h h2
  · rw [nlt_iff] at *; rw [h]; exact h2
  · exact absurd h h1
theorem nle_trans {x y z : Nod} (h1 : ¬ nlt y x) (h2 : ¬ nlt z y) : ¬ nlt z x := fun h => h2 (nlt_neg h h1)

@[simp] theorem mrg_nl (Y : List Nod) : mrg [] Y = Y := by unfold mrg; rfl
@[simp] theorem mrg_nr (X : List Nod) : mrg X [] = X := by cases X <;> (unfold mrg; rfl)
theorem mrg_y {x y : Nod} {X Y : List Nod} (h : nlt y x) : mrg (x :: X) (y :: Y) = y :: mrg (x :: X) Y := by rw [mrg, if_pos h]
theorem mrg_x {x y : Nod} {X Y : List Nod} (h : ¬ nlt y x) : mrg (x :: X) (y :: Y) = x :: mrg X (y :: Y) := by rw [mrg, if_neg h]
theorem nin_lt {x y : Nod} {l : List Nod} (h : nlt x y) : nin x (y :: l) = x :: y :: l := by unfold nin; rw [if_pos h]
theorem nin_ge {x y : Nod} {l : List Nod} (h : ¬ nlt x y) : nin x (y :: l) = y :: nin x l := by
  conv => lhs; unfold nin
  rw [if_neg h]
theorem list_snoc {P : List Nod → Prop} (h0 : P []) (h1 : ∀ l x, P l → P (l ++ [x])) (l : List Nod) : P l := by
  have : ∀ r : List Nod, P r.reverse := fun r => by
    induction r with
    | nil => exact h0
    | cons x r ih => rw [List.reverse_cons]; exact h1 _ x ih
  have := this l.reverse
  rwa [List.reverse_reverse] at this
theorem nin_snoc {x s : Nod} (h : nlt x s) : ∀ l : List Nod, nin x (l ++ [s]) = nin x l ++ [s]
  | [] => by rw [List.nil_append, nin_lt h]; rfl
  | y :: l => by
    by_cases h1 : nlt x y
    · rw [List.cons_append, nin_lt h1, nin_lt h1]; rfl
    · rw [List.cons_append, nin_ge h1, nin_ge h1, nin_snoc h l]; rfl
theorem nin_end {x : Nod} : ∀ {l : List Nod}, (∀ y ∈ l, ¬ nlt x y) → nin x l = l ++ [x]
  | [], _ => rfl
  | y :: l, h => by rw [nin_ge (h y (by simp)), nin_end (fun z hz => h z (by simp [hz]))]; rfl
theorem nin_len (x : Nod) : ∀ l : List Nod, (nin x l).length = l.length + 1
  | [] => rfl
  | y :: l => by
    by_cases h1 : nlt x y
    · rw [nin_lt h1]; rfl
    · rw [nin_ge h1]; simp [nin_len x l]
theorem nin_mem (x : Nod) : ∀ (l : List Nod) (z : Nod), z ∈ nin x l ↔ z = x ∨ z ∈ l
  | [], z => by simp [nin]
  | y :: l, z => by
    by_cases h1 : nlt x y
    · rw [nin_lt h1]; simp
    · rw [nin_ge h1, List.mem_cons, nin_mem x l z, List.mem_cons]
      constructor
      · rintro (h | h | h)
        · exact .inr (.inl h)
        · exact .inl h
        · exact .inr (.inr h)
      · rintro (h | h | h)
        · exact .inr (.inl h)
        · exact .inl h
        · exact .inr (.inr h)
theorem nin_asc (x : Nod) : ∀ {l : List Nod}, Asc l → Asc (nin x l)
  | [], _ => by simp [nin, Asc]
  | y :: l, h => by
    obtain ⟨h1, h2⟩ := List.pairwise_cons.1 h
    by_cases hx : nlt x y
    · rw [nin_lt hx]
      refine List.pairwise_cons.2 ⟨fun z hz => ?_, h⟩
      rcases List.mem_cons.1 hz with rfl | hz
      · exact nlt_nle hx
      · exact nle_trans (nlt_nle hx) (h1 z hz)
    · rw [nin_ge hx]
      refine List.pairwise_cons.2 ⟨fun z hz => ?_, nin_asc x h2⟩
      rcases (nin_mem x l z).1 hz with rfl | hz
      · exact hx
      · exact h1 z hz
theorem foldnin_asc : ∀ (L S : List Nod), Asc S → Asc (L.foldl (fun S x => nin x S) S)
  | [], S, h => h
  | x :: L, S, h => foldnin_asc L _ (nin_asc x h)
theorem srt_asc (L : List Nod) : Asc (srt L) := foldnin_asc L [] List.Pairwise.nil
theorem foldnin_len : ∀ (L S : List Nod), (L.foldl (fun S x => nin x S) S).length = S.length + L.length
  | [], S => rfl
  | x :: L, S => by rw [List.foldl_cons, foldnin_len L, nin_len]; simp; omega
@[simp] theorem srt_len (L : List Nod) : (srt L).length = L.length := by unfold srt; rw [foldnin_len]; simp
theorem foldnin_mem : ∀ (L S : List Nod) (z : Nod), z ∈ L.foldl (fun S x => nin x S) S ↔ z ∈ S ∨ z ∈ L
  | [], S, z => by simp
  | x :: L, S, z => by
    rw [List.foldl_cons, foldnin_mem L, nin_mem, List.mem_cons]
    constructor
    · rintro ((h | h) | h)
      · exact .inr (.inl h)
      · exact .inl h
      · exact .inr (.inr h)
    · rintro (h | h | h)
      · exact .inl (.inr h)
      · exact .inl (.inl h)
      · exact .inr h
theorem srt_mem (L : List Nod) (z : Nod) : z ∈ srt L ↔ z ∈ L := by unfold srt; rw [foldnin_mem]; simp
theorem nin_mrg (y : Nod) : ∀ S T : List Nod, nin y (mrg S T) = mrg S (nin y T)
  | [], T => by simp
  | s :: S, [] => by
    rw [mrg_nr]
    show nin y (s :: S) = mrg (s :: S) [y]
    by_cases h : nlt y s
    · rw [nin_lt h, mrg_y h, mrg_nr]
    · have := nin_mrg y S []
      rw [mrg_nr] at this
      rw [nin_ge h, mrg_x h]
      exact congrArg (s :: ·) this
  | s :: S, t :: T => by
    by_cases h : nlt t s
    · rw [mrg_y h]
      by_cases h1 : nlt y t
      · rw [nin_lt h1, nin_lt h1, mrg_y (nlt_trans h1 h), mrg_y h]
      · rw [nin_ge h1, nin_ge h1, mrg_y h, nin_mrg y (s :: S) T]
    · rw [mrg_x h]
      by_cases h1 : nlt y s
      · rw [nin_lt h1, nin_lt (nlt_neg h1 h), mrg_y h1, mrg_x h]
      · rw [nin_ge h1, nin_mrg y S (t :: T)]
        by_cases h2 : nlt y t
        · rw [nin_lt h2, mrg_x h1]
        · rw [nin_ge h2, mrg_x h]
termination_by S T => S.length + T.length
theorem mrg_fold (S : List Nod) : ∀ (Y T : List Nod), mrg S (Y.foldl (fun S x => nin x S) T) = Y.foldl (fun S x => nin x S) (mrg S T)
  | [], T => rfl
  | y :: Y, T => by rw [List.foldl_cons, List.foldl_cons, mrg_fold S Y, nin_mrg]
/-- To sort two runs and to merge them is to sort the whole. -/
theorem mrg_srt (X Y : List Nod) : mrg (srt X) (srt Y) = srt (X ++ Y) := by
  unfold srt
  rw [mrg_fold, List.foldl_append, mrg_nr]
theorem mrg_len : ∀ X Y : List Nod, (mrg X Y).length = X.length + Y.length
  | [], Y => by simp
  | x :: X, [] => by simp
  | x :: X, y :: Y => by
    by_cases h : nlt y x
    · rw [mrg_y h, List.length_cons, mrg_len (x :: X) Y]; simp; omega
    · rw [mrg_x h, List.length_cons, mrg_len X (y :: Y)]; simp; omega
termination_by X Y => X.length + Y.length
theorem mrg_split : ∀ (X1 X2 Y1 Y2 : List Nod), (∀ x ∈ X1, ∀ y ∈ Y2, ¬ nlt y x) → (∀ x ∈ X2, ∀ y ∈ Y1, nlt y x) → mrg (X1 ++ X2) (Y1 ++ Y2) = mrg X1 Y1 ++ mrg X2 Y2
  | [], X2, [], Y2, _, _ => by simp
  | [], [], y :: Y1, Y2, _, _ => by simp
  | [], x :: X2, y :: Y1, Y2, h1, h2 => by
    have hx := h2 x (by simp) y (by simp)
    have := mrg_split [] (x :: X2) Y1 Y2 h1 (fun a ha b hb => h2 a ha b (by simp [hb]))
    rw [List.nil_append, mrg_nl] at this
    rw [List.nil_append, mrg_nl, List.cons_append, mrg_y hx, this]; rfl
  | x :: X1, X2, [], [], _, _ => by simp
  | x :: X1, X2, [], y :: Y2, h1, h2 => by
    have hx := h1 x (by simp) y (by simp)
    have := mrg_split X1 X2 [] (y :: Y2) (fun a ha b hb => h1 a (by simp [ha]) b hb) h2
    rw [List.nil_append, mrg_nr] at this
    rw [List.nil_append, mrg_nr, List.cons_append, mrg_x hx, this]; rfl
  | x :: X1, X2, y :: Y1, Y2, h1, h2 => by
    by_cases h : nlt y x
    · have := mrg_split (x :: X1) X2 Y1 Y2 h1 (fun a ha b hb => h2 a ha b (by simp [hb]))
      rw [List.cons_append] at this
      rw [List.cons_append, List.cons_append, mrg_y h, mrg_y h, this]; rfl
    · have := mrg_split X1 X2 (y :: Y1) Y2 (fun a ha b hb => h1 a (by simp [ha]) b hb) h2
      rw [List.cons_append] at this
      rw [List.cons_append, List.cons_append, mrg_x h, mrg_x h, this]; rfl
termination_by X1 X2 Y1 Y2 => X1.length + Y1.length

theorem at_app (A : List Nod) (x : Nod) (C : List Nod) : at_nod (A ++ x :: C) A.length = x := by
  unfold at_nod
  rw [List.getD_eq_getElem?_getD, List.getElem?_append_right (Nat.le_refl _)]; simp
theorem set_app (A : List Nod) (x y : Nod) (C : List Nod) : (A ++ x :: C).set A.length y = A ++ y :: C := by
  rw [List.set_append_right _ _ (Nat.le_refl _)]; simp
theorem swp_app (A M C : List Nod) (x y : Nod) {i j : Nat} (hi : i = A.length) (hj : j = A.length + 1 + M.length) : swp (A ++ x :: (M ++ y :: C)) i j = A ++ y :: (M ++ x :: C) := by
  subst hi; subst hj
  have e : ∀ a b : Nod, A ++ a :: (M ++ b :: C) = (A ++ a :: M) ++ b :: C := fun a b => by simp
  have l1 : ∀ a : Nod, (A ++ a :: M).length = A.length + 1 + M.length := fun a => by simp; omega
  unfold swp
  rw [at_app]
  have h1 : at_nod (A ++ x :: (M ++ y :: C)) (A.length + 1 + M.length) = y := by rw [e, ← l1 x, at_app]
  rw [h1, set_app, e y y, ← l1 y, set_app, e y x]
theorem swp_comm (L : List Nod) {i j : Nat} (h : i ≠ j) : swp L i j = swp L j i := by
  unfold swp
  rw [List.set_comm _ _ h]
theorem swr_app : ∀ (n : Nat) (A X M Y C : List Nod) {i j : Nat}, X.length = n → Y.length = n → i = A.length → j = A.length + n + M.length → swr (A ++ (X ++ (M ++ (Y ++ C)))) i j n = A ++ (Y ++ (M ++ (X ++ C)))
  | 0, A, X, M, Y, C, i, j, hX, hY, hi, hj => by
    obtain rfl := List.length_eq_zero_iff.1 hX
    obtain rfl := List.length_eq_zero_iff.1 hY
    rfl
  | n + 1, A, X, M, Y, C, i, j, hX, hY, hi, hj => by
    obtain ⟨X', x, rfl⟩ : ∃ X' x, X = X' ++ [x] := by
      rcases List.eq_nil_or_concat X with h | ⟨X', x, h⟩
      · subst h; simp at hX
      · exact ⟨X', x, by rw [h, List.concat_eq_append]⟩
    obtain ⟨Y', y, rfl⟩ : ∃ Y' y, Y = Y' ++ [y] := by
      rcases List.eq_nil_or_concat Y with h | ⟨Y', y, h⟩
      · subst h; simp at hY
      · exact ⟨Y', y, by rw [h, List.concat_eq_append]⟩
    simp at hX hY
    have ih := swr_app n A X' (x :: M) Y' (y :: C) (i := i) (j := j) hX hY hi (by simp; omega)
    unfold swr
    have e1 : A ++ (X' ++ [x] ++ (M ++ (Y' ++ [y] ++ C))) = A ++ (X' ++ (x :: M ++ (Y' ++ y :: C))) := by simp
    rw [e1, ih]
    have := swp_app (A ++ Y') (M ++ X') C x y (i := i + n) (j := j + n) (by simp; omega) (by simp; omega)
    simp only [List.append_assoc, List.cons_append, List.nil_append] at this ⊢
    exact this
theorem rotf_app : ∀ (f : Nat) (A X Y C : List Nod) {i j m : Nat}, i = X.length → j = Y.length → m = A.length + X.length → 0 < i → 0 < j → i + j ≤ f → rotf m f i j (A ++ (X ++ (Y ++ C))) = A ++ (Y ++ (X ++ C))
  | 0, A, X, Y, C, i, j, m, hi, hj, hm, h1, h2, hf => by omega
  | f + 1, A, X, Y, C, i, j, m, hi, hj, hm, h1, h2, hf => by
    unfold rotf
    split
    · rename_i e
      have := swr_app i A X [] Y C (i := m - i) (j := m) hi.symm (by omega) (by omega) (by simp; omega)
      simpa using this
    · split
      · have hX : X = X.take j ++ X.drop j := (List.take_append_drop j X).symm
        have l1 : (X.take j).length = j := by rw [List.length_take]; omega
        have l2 : (X.drop j).length = i - j := by rw [List.length_drop]; omega
        generalize X.take j = X1 at *
        generalize X.drop j = X2 at *
        subst hX
        have := swr_app j A X1 X2 Y C (i := m - i) (j := m) l1 hj.symm (by omega) (by rw [hm, List.length_append]; omega)
        simp only [List.append_assoc] at this ⊢
        rw [this]
        have ih := rotf_app f (A ++ Y) X2 X1 C (i := i - j) (j := j) (m := m) l2.symm l1.symm (by simp at *; omega) (by omega) h2 (by omega)
        simp only [List.append_assoc] at ih
        exact ih
      · have hY : Y = Y.take (j - i) ++ Y.drop (j - i) := (List.take_append_drop _ Y).symm
        have l1 : (Y.take (j - i)).length = j - i := by rw [List.length_take]; omega
        have l2 : (Y.drop (j - i)).length = i := by rw [List.length_drop]; omega
        generalize Y.take (j - i) = Y1 at *
        generalize Y.drop (j - i) = Y2 at *
        subst hY
        have := swr_app i A X Y1 Y2 C (i := m - i) (j := m + j - i) hi.symm l2 (by omega) (by omega)
        simp only [List.append_assoc] at this ⊢
        rw [this]
        have ih := rotf_app f A Y2 Y1 (X ++ C) (i := i) (j := j - i) (m := m) l2.symm l1.symm (by omega) h1 (by omega) (by omega)
        exact ih
theorem rot_app (A X Y C : List Nod) {a m b : Nat} (ha : a = A.length) (hm : m = A.length + X.length) (hb : b = A.length + X.length + Y.length) (hX : 0 < X.length) (hY : 0 < Y.length) : rot (A ++ (X ++ (Y ++ C))) a m b = A ++ (Y ++ (X ++ C)) := by
  unfold rot
  exact rotf_app _ A X Y C (by omega) (by omega) hm (by omega) (by omega) (by omega)
theorem insf_app (A : List Nod) {a : Nat} (ha : a = A.length) : ∀ (S : List Nod) (x : Nod) (C : List Nod) {j : Nat}, Asc S → j = A.length + S.length → insf a j (A ++ (S ++ x :: C)) = A ++ (nin x S ++ C) := by
  intro S
  induction S using list_snoc with
  | h0 =>
    intro x C j hS hj
    rw [insf_no (fun q => by simp at hj; omega)]; rfl
  | h1 S s ih =>
    intro x C j hS hj
    simp at hj
    have hS' : Asc S := (List.pairwise_append.1 hS).1
    have e1 : at_nod (A ++ (S ++ [s] ++ x :: C)) j = x := by
      have := at_app (A ++ (S ++ [s])) x C
      simp at this
      rw [hj]; simpa using this
    have e2 : at_nod (A ++ (S ++ [s] ++ x :: C)) (j - 1) = s := by
      have := at_app (A ++ S) s (x :: C)
      simp at this
      rw [show j - 1 = A.length + S.length by omega]; simpa using this
    by_cases h : nlt x s
    · rw [insf_yes (by omega) (by rw [e1, e2]; exact h)]
      have := swp_app (A ++ S) [] C s x (i := j - 1) (j := j) (by simp; omega) (by simp; omega)
      simp only [List.append_assoc, List.cons_append, List.nil_append] at this ⊢
      rw [swp_comm _ (by omega), this, ih x (s :: C) hS' (by omega), nin_snoc h]
      simp
    · rw [insf_no (by rw [e1, e2]; exact fun q => h q.2), nin_end (fun y hy => ?_)]
      · simp
      · rcases List.mem_append.1 hy with hy | hy
        · exact nle_trans ((List.pairwise_append.1 hS).2.2 y hy s (by simp)) h
        · simp at hy; subst hy; exact h
theorem iso_app (A : List Nod) {a : Nat} (ha : a = A.length) : ∀ (Y S C : List Nod) {i n : Nat}, Asc S → i = A.length + S.length → n = Y.length → iso a i n (A ++ (S ++ (Y ++ C))) = A ++ (Y.foldl (fun S x => nin x S) S ++ C)
  | [], S, C, i, n, hS, hi, hn => by subst hn; rfl
  | y :: Y, S, C, i, n, hS, hi, hn => by
    subst hn
    show iso a (i + 1) Y.length (insf a i (A ++ (S ++ (y :: (Y ++ C))))) = _
    rw [insf_app A ha S y (Y ++ C) hS hi, iso_app A ha Y (nin y S) C (nin_asc y hS) (by rw [nin_len]; omega) rfl]
    rfl
theorem isort_app (A X C : List Nod) {a b : Nat} (ha : a = A.length) (hb : b = A.length + X.length) : isort (A ++ (X ++ C)) a b = A ++ (srt X ++ C) := by
  cases X with
  | nil =>
    unfold isort
    simp at hb
    rw [show b - (a + 1) = 0 by omega]; rfl
  | cons x X =>
    unfold isort
    have := iso_app A ha X [x] C (i := a + 1) (n := b - (a + 1)) (List.pairwise_singleton _ _) (by simp; omega) (by simp at hb; omega)
    exact this
theorem shl_app : ∀ (Y A C : List Nod) (x : Nod) {k n : Nat}, k = A.length → n = Y.length → shl k n (A ++ x :: (Y ++ C)) = A ++ (Y ++ x :: C)
  | [], A, C, x, k, n, hk, hn => by subst hn; rfl
  | y :: Y, A, C, x, k, n, hk, hn => by
    subst hn
    show shl (k + 1) Y.length (swp (A ++ x :: (y :: (Y ++ C))) k (k + 1)) = _
    have := swp_app A [] (Y ++ C) x y (i := k) (j := k + 1) hk (by simp; omega)
    simp only [List.nil_append] at this
    rw [this]
    have ih := shl_app Y (A ++ [y]) C x (k := k + 1) (n := Y.length) (by simp; omega) rfl
    simp only [List.append_assoc, List.cons_append, List.nil_append] at ih ⊢
    exact ih
theorem shr_app (Y : List Nod) : ∀ (A C : List Nod) (y : Nod) {k n : Nat}, k = A.length + Y.length → n = Y.length → shr k n (A ++ (Y ++ y :: C)) = A ++ y :: (Y ++ C) := by
  induction Y using list_snoc with
  | h0 =>
    intro A C y k n hk hn
    subst hn; rfl
  | h1 Y x ih =>
    intro A C y k n hk hn
    simp at hk hn
    subst hn
    show shr (k - 1) Y.length (swp (A ++ (Y ++ [x] ++ y :: C)) k (k - 1)) = _
    have := swp_app (A ++ Y) [] C x y (i := k - 1) (j := k) (by simp; omega) (by simp; omega)
    simp only [List.append_assoc, List.cons_append, List.nil_append] at this ⊢
    rw [swp_comm _ (by omega), this]
    have := ih A (x :: C) y (k := k - 1) (n := Y.length) (by omega) rfl
    rw [this]
theorem bsr_spec {p : Nat → Bool} : ∀ (f : Nat) {i j lo hi : Nat}, (∀ c d, lo ≤ c → c < d → d < hi → p d = true → p c = true) → lo ≤ i → i ≤ j → j ≤ hi → j - i ≤ f → (∀ c, lo ≤ c → c < i → p c = true) → (∀ c, j ≤ c → c < hi → p c = false) →
    (∀ c, lo ≤ c → c < bsr p f i j → p c = true) ∧ (∀ c, bsr p f i j ≤ c → c < hi → p c = false)
  | 0, i, j, lo, hi, hm, h1, h2, h3, hf, hl, hr => by
    obtain rfl : i = j := by omega
    exact ⟨hl, hr⟩
  | f + 1, i, j, lo, hi, hm, h1, h2, h3, hf, hl, hr => by
    by_cases h : i < j
    · cases hp : p ((i + j) / 2)
      · rw [bsr_no (by omega) h hp]
        refine bsr_spec f hm h1 (by omega) (by omega) (by show _ ≤ f; omega) hl (fun c hc hc2 => ?_)
        by_cases hc3 : j ≤ c
        · exact hr c hc3 hc2
        · cases hpc : p c
          · rfl
          · by_cases hc4 : c = (i + j) / 2
            · subst hc4; rw [hp] at hpc; cases hpc
            · have := hm ((i + j) / 2) c (by omega) (by omega) hc2 hpc
              rw [hp] at this; cases this
      · rw [bsr_yes (by omega) h hp]
        refine bsr_spec f hm (by omega) (by omega) h3 (by show _ ≤ f; omega) (fun c hc hc2 => ?_) hr
        by_cases hc3 : c = (i + j) / 2
        · subst hc3; exact hp
        · exact hm c ((i + j) / 2) hc (by omega) (by omega) hp
    · rw [bsr_end h]
      obtain rfl : i = j := by omega
      exact ⟨hl, hr⟩

theorem at_add (A B : List Nod) {i k : Nat} (h : i = A.length + k) : at_nod (A ++ B) i = at_nod B k := by
  subst h
  unfold at_nod
  rw [List.getD_eq_getElem?_getD, List.getElem?_append_right (by omega), Nat.add_sub_cancel_left, List.getD_eq_getElem?_getD]
theorem at_lt (X Z : List Nod) {k : Nat} (h : k < X.length) : at_nod (X ++ Z) k = at_nod X k := by
  unfold at_nod
  rw [List.getD_eq_getElem?_getD, List.getElem?_append_left h, List.getD_eq_getElem?_getD]
theorem asc_at {X : List Nod} (h : Asc X) {i j : Nat} (hi : i ≤ j) (hj : j < X.length) : ¬ nlt (at_nod X j) (at_nod X i) := by
  by_cases e : i = j
  · subst e; exact fun q => nlt_nle q q
  · have := List.pairwise_iff_getElem.1 h i j (by omega) hj (by omega)
    unfold at_nod
    rw [List.getD_eq_getElem?_getD, List.getElem?_eq_getElem hj, List.getD_eq_getElem?_getD, List.getElem?_eq_getElem (show i < X.length by omega)]
    exact this
theorem mem_take_at {X : List Nod} {k : Nat} {x : Nod} (h : x ∈ X.take k) : ∃ i, i < k ∧ i < X.length ∧ at_nod X i = x := by
  obtain ⟨i, hi, rfl⟩ := List.getElem_of_mem h
  rw [List.length_take] at hi
  refine ⟨i, by omega, by omega, ?_⟩
  unfold at_nod
  rw [List.getD_eq_getElem?_getD, List.getElem?_eq_getElem (show i < X.length by omega), List.getElem_take]; rfl
theorem mem_drop_at {X : List Nod} {k : Nat} {x : Nod} (h : x ∈ X.drop k) : ∃ i, k ≤ i ∧ i < X.length ∧ at_nod X i = x := by
  obtain ⟨i, hi, rfl⟩ := List.getElem_of_mem h
  rw [List.length_drop] at hi
  refine ⟨k + i, by omega, by omega, ?_⟩
  unfold at_nod
  rw [List.getD_eq_getElem?_getD, List.getElem?_eq_getElem (show k + i < X.length by omega), List.getElem_drop]; rfl
theorem smf_app : ∀ (f : Nat) (A X Y C : List Nod) {a m b : Nat}, Asc X → Asc Y → a = A.length → m = A.length + X.length → b = A.length + X.length + Y.length → 0 < X.length → 0 < Y.length → b - a ≤ f →
    smf f a m b (A ++ (X ++ (Y ++ C))) = A ++ (mrg X Y ++ C)
  | 0, A, X, Y, C, a, m, b, hX, hY, ha, hm, hb, h1, h2, hf => by omega
  | f + 1, A, X, Y, C, a, m, b, hX, hY, ha, hm, hb, h1, h2, hf => by
    have atX : ∀ c, a ≤ c → c < m → at_nod (A ++ (X ++ (Y ++ C))) c = at_nod X (c - a) := fun c q1 q2 => by
      rw [at_add A _ (k := c - a) (by omega), at_lt X _ (by omega)]
    have atY : ∀ c, m ≤ c → c < b → at_nod (A ++ (X ++ (Y ++ C))) c = at_nod Y (c - m) := fun c q1 q2 => by
      rw [at_add A _ (k := c - a) (by omega), at_add X _ (k := c - m) (by omega), at_lt Y _ (by omega)]
    by_cases c1 : m - a = 1
    · rw [smf_1 c1]
      obtain ⟨x, rfl⟩ := List.length_eq_one_iff.1 (show X.length = 1 by omega)
      have hx : at_nod (A ++ ([x] ++ (Y ++ C))) a = x := by rw [atX a (Nat.le_refl _) (by omega), Nat.sub_self]; rfl
      have hp : ∀ c, m ≤ c → c < b → pl1 (A ++ ([x] ++ (Y ++ C))) a c = decide (nlt (at_nod Y (c - m)) x) := fun c q1 q2 => by unfold pl1; rw [hx, atY c q1 q2]
      have hs := bsr_spec (p := pl1 (A ++ ([x] ++ (Y ++ C))) a) (b - m) (i := m) (j := b) (lo := m) (hi := b) (fun c d q1 q2 q3 q4 => by
        rw [hp d (by omega) q3] at q4
        rw [hp c q1 (by omega)]
        exact decide_eq_true (nlt_neg2 (asc_at hY (show c - m ≤ d - m by omega) (by omega)) (of_decide_eq_true q4))) (Nat.le_refl _) (by omega) (Nat.le_refl _) (Nat.le_refl _) (fun c q1 q2 => by omega) (fun c q1 q2 => by omega)
      have hr := bsr_le (p := pl1 (A ++ ([x] ++ (Y ++ C))) a) (f := b - m) (i := m) (j := b) (by omega)
      generalize bsr (pl1 (A ++ ([x] ++ (Y ++ C))) a) (b - m) m b = r at hs hr ⊢
      have k1 : ∀ y ∈ Y.take (r - m), nlt y x := fun y hy => by
        obtain ⟨i, q1, q2, rfl⟩ := mem_take_at hy
        have := hs.1 (m + i) (by omega) (by omega)
        rw [hp _ (by omega) (by omega), Nat.add_sub_cancel_left] at this
        exact of_decide_eq_true this
      have k2 : ∀ y ∈ Y.drop (r - m), ¬ nlt y x := fun y hy => by
        obtain ⟨i, q1, q2, rfl⟩ := mem_drop_at hy
        have := hs.2 (m + i) (by omega) (by omega)
        rw [hp _ (by omega) (by omega), Nat.add_sub_cancel_left] at this
        exact of_decide_eq_false this
      have l1 : (Y.take (r - m)).length = r - m := by rw [List.length_take]; omega
      have eY : Y = Y.take (r - m) ++ Y.drop (r - m) := (List.take_append_drop _ Y).symm
      generalize Y.take (r - m) = Y1 at *
      generalize Y.drop (r - m) = Y2 at *
      have m1 := mrg_split [] [x] Y1 Y2 (by simp) (fun z hz y hy => by simp at hz; subst hz; exact k1 y hy)
      have m2 := mrg_split [x] [] [] Y2 (fun z hz y hy => by simp at hz; subst hz; exact k2 y hy) (by simp)
      simp only [List.append_nil, List.nil_append, mrg_nl, mrg_nr] at m1 m2
      rw [eY, m1, m2]
      have := shl_app Y1 A (Y2 ++ C) x (k := a) (n := r - 1 - a) ha (by simp at hm; omega)
      simp only [List.append_assoc, List.cons_append, List.nil_append] at this ⊢
      exact this
    · by_cases c2 : b - m = 1
      · rw [smf_2 c1 c2]
        obtain ⟨y, rfl⟩ := List.length_eq_one_iff.1 (show Y.length = 1 by omega)
        have hx : at_nod (A ++ (X ++ ([y] ++ C))) m = y := by rw [atY m (Nat.le_refl _) (by omega), Nat.sub_self]; rfl
        have hp : ∀ c, a ≤ c → c < m → pl2 (A ++ (X ++ ([y] ++ C))) m c = decide (¬ nlt y (at_nod X (c - a))) := fun c q1 q2 => by unfold pl2; rw [hx, atX c q1 q2]
        have hs := bsr_spec (p := pl2 (A ++ (X ++ ([y] ++ C))) m) (m - a) (i := a) (j := m) (lo := a) (hi := m) (fun c d q1 q2 q3 q4 => by
          rw [hp d (by omega) q3] at q4
          rw [hp c q1 (by omega)]
          exact decide_eq_true (nle_trans (asc_at hX (show c - a ≤ d - a by omega) (by omega)) (of_decide_eq_true q4))) (Nat.le_refl _) (by omega) (Nat.le_refl _) (Nat.le_refl _) (fun c q1 q2 => by omega) (fun c q1 q2 => by omega)
        have hr := bsr_le (p := pl2 (A ++ (X ++ ([y] ++ C))) m) (f := m - a) (i := a) (j := m) (by omega)
        generalize bsr (pl2 (A ++ (X ++ ([y] ++ C))) m) (m - a) a m = r at hs hr ⊢
        have k1 : ∀ x ∈ X.take (r - a), ¬ nlt y x := fun x hx => by
          obtain ⟨i, q1, q2, rfl⟩ := mem_take_at hx
          have := hs.1 (a + i) (by omega) (by omega)
          rw [hp _ (by omega) (by omega), Nat.add_sub_cancel_left] at this
          exact of_decide_eq_true this
        have k2 : ∀ x ∈ X.drop (r - a), nlt y x := fun x hx => by
          obtain ⟨i, q1, q2, rfl⟩ := mem_drop_at hx
          have := hs.2 (a + i) (by omega) (by omega)
          rw [hp _ (by omega) (by omega), Nat.add_sub_cancel_left] at this
          exact Decidable.not_not.1 (of_decide_eq_false this)
        have l1 : (X.take (r - a)).length = r - a := by rw [List.length_take]; omega
        have l2 : (X.drop (r - a)).length = m - r := by rw [List.length_drop]; omega
        have eX : X = X.take (r - a) ++ X.drop (r - a) := (List.take_append_drop _ X).symm
        generalize X.take (r - a) = X1 at *
        generalize X.drop (r - a) = X2 at *
        have m1 := mrg_split X1 X2 [] [y] (fun z hz w hw => by simp at hw; subst hw; exact k1 z hz) (by simp)
        have m2 := mrg_split [] X2 [y] [] (by simp) (fun z hz w hw => by simp at hw; subst hw; exact k2 z hz)
        simp only [List.append_nil, List.nil_append, mrg_nl, mrg_nr] at m1 m2
        rw [eX, m1, m2]
        have := shr_app X2 (A ++ X1) C y (k := m) (n := m - r) (by simp; omega) (by omega)
        simp only [List.append_assoc, List.cons_append, List.nil_append] at this ⊢
        exact this
      · rw [smf_3 c1 c2 rfl]
        have hS0 : a ≤ sS0 a m b := by unfold sS0; split <;> omega
        have hSR : sS0 a m b ≤ sR0 a m b := by unfold sS0 sR0; split <;> omega
        have hRm : sR0 a m b ≤ m := by unfold sR0; split <;> omega
        have hRc : sR0 a m b ≤ (a + b) / 2 := by unfold sR0; split <;> omega
        have hSb : (a + b) / 2 + m - b ≤ sS0 a m b := by unfold sS0; split <;> omega
        have hSe : sS0 a m b = a ∨ sS0 a m b + b = (a + b) / 2 + m := by unfold sS0; split <;> omega
        have hRe : sR0 a m b = m ∨ sR0 a m b = (a + b) / 2 := by unfold sR0; split <;> omega
        have hp : ∀ c, sS0 a m b ≤ c → c < sR0 a m b → pl3 (A ++ (X ++ (Y ++ C))) ((a + b) / 2 + m - 1) c = decide (¬ nlt (at_nod Y ((a + b) / 2 - 1 - c)) (at_nod X (c - a))) := fun c q1 q2 => by
          unfold pl3
          rw [atX c (by omega) (by omega), atY _ (by omega) (by omega), show (a + b) / 2 + m - 1 - c - m = (a + b) / 2 - 1 - c by omega]
        have hs := bsr_spec (p := pl3 (A ++ (X ++ (Y ++ C))) ((a + b) / 2 + m - 1)) (sR0 a m b - sS0 a m b) (i := sS0 a m b) (j := sR0 a m b) (lo := sS0 a m b) (hi := sR0 a m b) (fun c d q1 q2 q3 q4 => by
          rw [hp d (by omega) q3] at q4
          rw [hp c q1 (by omega)]
          exact decide_eq_true (nle_trans (asc_at hX (show c - a ≤ d - a by omega) (by omega)) (nle_trans (of_decide_eq_true q4) (asc_at hY (show (a + b) / 2 - 1 - d ≤ (a + b) / 2 - 1 - c by omega) (by omega))))) (Nat.le_refl _) hSR (Nat.le_refl _) (Nat.le_refl _) (fun c q1 q2 => by omega) (fun c q1 q2 => by omega)
        have hr := bsr_le (p := pl3 (A ++ (X ++ (Y ++ C))) ((a + b) / 2 + m - 1)) (f := sR0 a m b - sS0 a m b) (i := sS0 a m b) (j := sR0 a m b) hSR
        show (if (a + b) / 2 < (a + b) / 2 + m - sS (A ++ (X ++ (Y ++ C))) a m b ∧ _ then _ else _) = _
        rw [show sS (A ++ (X ++ (Y ++ C))) a m b = bsr (pl3 (A ++ (X ++ (Y ++ C))) ((a + b) / 2 + m - 1)) (sR0 a m b - sS0 a m b) (sS0 a m b) (sR0 a m b) from rfl]
        generalize bsr (pl3 (A ++ (X ++ (Y ++ C))) ((a + b) / 2 + m - 1)) (sR0 a m b - sS0 a m b) (sS0 a m b) (sR0 a m b) = s at hs hr ⊢
        have k1 : ∀ x ∈ X.take (s - a), ∀ y ∈ Y.drop ((a + b) / 2 - s), ¬ nlt y x := fun x hx y hy => by
          obtain ⟨i, q1, q2, rfl⟩ := mem_take_at hx
          obtain ⟨j, q3, q4, rfl⟩ := mem_drop_at hy
          have hlt : sS0 a m b ≤ s - 1 ∧ s - 1 < s := by omega
          have := hs.1 (s - 1) hlt.1 hlt.2
          rw [hp _ (by omega) (by omega)] at this
          have := of_decide_eq_true this
          exact nle_trans (asc_at hX (show i ≤ s - 1 - a by omega) (by omega)) (nle_trans this (asc_at hY (show (a + b) / 2 - 1 - (s - 1) ≤ j by omega) q4))
        have k2 : ∀ x ∈ X.drop (s - a), ∀ y ∈ Y.take ((a + b) / 2 - s), nlt y x := fun x hx y hy => by
          obtain ⟨i, q1, q2, rfl⟩ := mem_drop_at hx
          obtain ⟨j, q3, q4, rfl⟩ := mem_take_at hy
          have := hs.2 s (by omega) (by omega)
          rw [hp _ (by omega) (by omega)] at this
          have := Decidable.not_not.1 (of_decide_eq_false this)
          exact nlt_neg (nlt_neg2 (asc_at hY (show j ≤ (a + b) / 2 - 1 - s by omega) (by omega)) this) (asc_at hX (show s - a ≤ i by omega) q2)
        have l1 : (X.take (s - a)).length = s - a := by rw [List.length_take]; omega
        have l2 : (X.drop (s - a)).length = m - s := by rw [List.length_drop]; omega
        have l3 : (Y.take ((a + b) / 2 - s)).length = (a + b) / 2 - s := by rw [List.length_take]; omega
        have l4 : (Y.drop ((a + b) / 2 - s)).length = Y.length - ((a + b) / 2 - s) := List.length_drop
        have a1 : Asc (X.take (s - a)) := hX.sublist (List.take_sublist _ _)
        have a2 : Asc (X.drop (s - a)) := hX.sublist (List.drop_sublist _ _)
        have a3 : Asc (Y.take ((a + b) / 2 - s)) := hY.sublist (List.take_sublist _ _)
        have a4 : Asc (Y.drop ((a + b) / 2 - s)) := hY.sublist (List.drop_sublist _ _)
        have eX : X = X.take (s - a) ++ X.drop (s - a) := (List.take_append_drop _ X).symm
        have eY : Y = Y.take ((a + b) / 2 - s) ++ Y.drop ((a + b) / 2 - s) := (List.take_append_drop _ Y).symm
        have hXl : X.length = m - a := by omega
        have hYl : Y.length = b - m := by omega
        clear hs hp atX atY
        generalize X.take (s - a) = X1 at *
        generalize X.drop (s - a) = X2 at *
        generalize Y.take ((a + b) / 2 - s) = Y1 at *
        generalize Y.drop ((a + b) / 2 - s) = Y2 at *
        subst eX
        subst eY
        rw [mrg_split X1 X2 Y1 Y2 k1 k2]
        have e1 : (if s < m ∧ m < (a + b) / 2 + m - s then rot (A ++ (X1 ++ X2 ++ (Y1 ++ Y2 ++ C))) s m ((a + b) / 2 + m - s) else A ++ (X1 ++ X2 ++ (Y1 ++ Y2 ++ C))) = A ++ (X1 ++ (Y1 ++ (X2 ++ (Y2 ++ C)))) := by
          split
          · have := rot_app (A ++ X1) X2 Y1 (Y2 ++ C) (a := s) (m := m) (b := (a + b) / 2 + m - s) (by simp; omega) (by simp; omega) (by simp; omega) (by omega) (by omega)
            simpa using this
          · rename_i q
            have : X2 = [] ∨ Y1 = [] := by
              by_cases q1 : s < m
              · exact .inr (List.length_eq_zero_iff.1 (by omega))
              · exact .inl (List.length_eq_zero_iff.1 (by omega))
            rcases this with rfl | rfl <;> simp
        rw [e1]
        have e2 : (if a < s ∧ s < (a + b) / 2 then smf f a s ((a + b) / 2) (A ++ (X1 ++ (Y1 ++ (X2 ++ (Y2 ++ C))))) else A ++ (X1 ++ (Y1 ++ (X2 ++ (Y2 ++ C))))) = A ++ (mrg X1 Y1 ++ (X2 ++ (Y2 ++ C))) := by
          split
          · exact smf_app f A X1 Y1 (X2 ++ (Y2 ++ C)) a1 a3 ha (by omega) (by omega) (by omega) (by omega) (by omega)
          · rename_i q
            have : X1 = [] ∨ Y1 = [] := by
              by_cases q1 : a < s
              · exact .inr (List.length_eq_zero_iff.1 (by omega))
              · exact .inl (List.length_eq_zero_iff.1 (by omega))
            rcases this with rfl | rfl <;> simp
        rw [e2]
        have lm := mrg_len X1 Y1
        split
        · have := smf_app f (A ++ mrg X1 Y1) X2 Y2 C (a := (a + b) / 2) (m := (a + b) / 2 + m - s) (b := b) a2 a4 (by simp; omega) (by simp; omega) (by simp; omega) (by omega) (by omega) (by omega)
          simp only [List.append_assoc] at this ⊢
          exact this
        · rename_i q
          have : X2 = [] ∨ Y2 = [] := by
            by_cases q1 : (a + b) / 2 < (a + b) / 2 + m - s
            · exact .inr (List.length_eq_zero_iff.1 (by omega))
            · exact .inl (List.length_eq_zero_iff.1 (by omega))
          rcases this with rfl | rfl <;> simp

theorem srt_nil : srt [] = [] := rfl
/-- Sorted in blocks of k. -/
def bks (k : Nat) (L : List Nod) : List Nod := if h : k = 0 ∨ L.length ≤ k then srt L else srt (L.take k) ++ bks k (L.drop k)
termination_by L.length
decreasing_by rw [List.length_drop]; omega
theorem bks_end {k : Nat} {L : List Nod} (h : L.length ≤ k) : bks k L = srt L := by unfold bks; rw [dif_pos (.inr h)]
theorem bks_step {k : Nat} {L : List Nod} (h0 : 0 < k) (h : k ≤ L.length) : bks k L = srt (L.take k) ++ bks k (L.drop k) := by
  by_cases h1 : L.length ≤ k
  · have e : k = L.length := by omega
    rw [bks_end h1, bks_end (by rw [List.length_drop]; omega), e, List.take_length, List.drop_length, srt_nil, List.append_nil]
  · conv => lhs; unfold bks
    rw [dif_neg (by omega)]
def Sti (L : List Nod) (a : Nat) (M : List Nod) : Prop := ∃ P, M = P ++ L.drop a ∧ P.length = a ∧ bks 20 L = P ++ bks 20 (L.drop a)
theorem sti_0 (L : List Nod) : Sti L 0 L := ⟨[], rfl, rfl, rfl⟩
theorem sti_step {L M : List Nod} {a : Nat} (x : Sti L a M) (h : a + 20 ≤ L.length) : Sti L (a + 20) (isort M a (a + 20)) := by
  obtain ⟨P, rfl, hP, hB⟩ := x
  have e : L.drop a = (L.drop a).take 20 ++ L.drop (a + 20) := by rw [← List.drop_drop, List.take_append_drop]
  have l1 : ((L.drop a).take 20).length = 20 := by rw [List.length_take, List.length_drop]; omega
  refine ⟨P ++ srt ((L.drop a).take 20), ?_, by rw [List.length_append, srt_len, l1, hP], ?_⟩
  · rw [e, isort_app P _ _ hP.symm (by rw [l1, hP]), ← e, List.append_assoc]
  · rw [hB, bks_step (k := 20) (by omega) (by rw [List.length_drop]; omega), List.drop_drop, List.append_assoc]
theorem sti_end {L M : List Nod} {a : Nat} (x : Sti L a M) (h : L.length ≤ a + 20) (h2 : a ≤ L.length) : isort M a L.length = bks 20 L := by
  obtain ⟨P, rfl, hP, hB⟩ := x
  have := isort_app P (L.drop a) [] (a := a) (b := L.length) hP.symm (by rw [List.length_drop]; omega)
  rw [List.append_nil, List.append_nil] at this
  rw [this, hB, bks_end (k := 20) (by rw [List.length_drop]; omega)]
def Stm (k : Nat) (L : List Nod) (a : Nat) (M : List Nod) : Prop := ∃ P, M = P ++ bks k (L.drop a) ∧ P.length = a ∧ bks (2 * k) L = P ++ bks (2 * k) (L.drop a)
theorem stm_0 (k : Nat) (L : List Nod) : Stm k L 0 (bks k L) := ⟨[], rfl, rfl, rfl⟩
theorem stm_step {k : Nat} {L M : List Nod} {a : Nat} (x : Stm k L a M) (hk : 0 < k) (h : a + 2 * k ≤ L.length) : Stm k L (a + 2 * k) (smg M a (a + k) (a + 2 * k)) := by
  obtain ⟨P, rfl, hP, hB⟩ := x
  have l0 : (L.drop a).length = L.length - a := List.length_drop
  have e : bks k (L.drop a) = srt ((L.drop a).take k) ++ (srt (((L.drop a).drop k).take k) ++ bks k (L.drop (a + 2 * k))) := by
    rw [bks_step hk (by omega), bks_step (L := (L.drop a).drop k) hk (by rw [List.length_drop]; omega), List.drop_drop, List.drop_drop, show a + k + k = a + 2 * k by omega]
  have l1 : ((L.drop a).take k).length = k := by rw [List.length_take]; omega
  have l2 : (((L.drop a).drop k).take k).length = k := by rw [List.length_take, List.length_drop]; omega
  have t1 : (L.drop a).take k ++ ((L.drop a).drop k).take k = (L.drop a).take (2 * k) := by
    rw [show 2 * k = k + k by omega, List.take_add]
  have s1 := smf_app (a + 2 * k - a) P (srt ((L.drop a).take k)) (srt (((L.drop a).drop k).take k)) (bks k (L.drop (a + 2 * k))) (a := a) (m := a + k) (b := a + 2 * k) (srt_asc _) (srt_asc _) hP.symm (by rw [srt_len]; omega) (by rw [srt_len, srt_len]; omega) (by rw [srt_len]; omega) (by rw [srt_len]; omega) (by omega)
  refine ⟨P ++ srt ((L.drop a).take (2 * k)), ?_, by rw [List.length_append, srt_len, List.length_take]; omega, ?_⟩
  · unfold smg
    rw [e, s1, mrg_srt, t1, List.append_assoc]
  · rw [hB, bks_step (k := 2 * k) (by omega) (by omega), List.drop_drop, List.append_assoc]
theorem stm_end1 {k : Nat} {L M : List Nod} {a : Nat} (x : Stm k L a M) (hk : 0 < k) (h : a + k < L.length) (h2 : L.length ≤ a + 2 * k) : smg M a (a + k) L.length = bks (2 * k) L := by
  obtain ⟨P, rfl, hP, hB⟩ := x
  have l0 : (L.drop a).length = L.length - a := List.length_drop
  have e : bks k (L.drop a) = srt ((L.drop a).take k) ++ (srt ((L.drop a).drop k) ++ []) := by
    rw [bks_step hk (by omega), bks_end (L := (L.drop a).drop k) (by rw [List.length_drop]; omega), List.append_nil]
  have l1 : ((L.drop a).take k).length = k := by rw [List.length_take]; omega
  have l2 : ((L.drop a).drop k).length = L.length - a - k := by rw [List.length_drop]; omega
  have s1 := smf_app (L.length - a) P (srt ((L.drop a).take k)) (srt ((L.drop a).drop k)) [] (a := a) (m := a + k) (b := L.length) (srt_asc _) (srt_asc _) hP.symm (by rw [srt_len]; omega) (by rw [srt_len, srt_len]; omega) (by rw [srt_len]; omega) (by rw [srt_len]; omega) (by omega)
  unfold smg
  rw [e, s1, mrg_srt, List.take_append_drop, hB, bks_end (k := 2 * k) (by omega), List.append_nil]
theorem stm_end0 {k : Nat} {L M : List Nod} {a : Nat} (x : Stm k L a M) (h : L.length ≤ a + k) : M = bks (2 * k) L := by
  obtain ⟨P, rfl, hP, hB⟩ := x
  have l0 : (L.drop a).length = L.length - a := List.length_drop
  rw [hB, bks_end (by omega), bks_end (by omega)]
end Go.Xp

/- The library's stable sort of nodes, whole: what it leaves is the list sorted by insertion. -/
set_option linter.unusedSimpArgs false
set_option linter.unusedVariables false
set_option linter.unusedSectionVars false
namespace Go.Xp
open Go.Proofs

set_option maxRecDepth 100000 in
theorem sort_stable (h : Heap) (B : Nat) (N : Nat) (L : List Nod) (pd : Nat → Prop) (hb : RBuf nodS h B pd L) (n : Int) (hpB : ¬ pd B) (hN : N = L.length) (hm : L.length ≤ 1000000000000) (hn : n = L.length) : Cal Tryz.prog 52 #[.slice (some ⟨B, 0, none⟩) N N, .int .i64 (n), .func (.func 33) #[] #[]] h (fun v h' => v = .tuple #[] ∧ Only [B] h h' ∧ RBuf nodS h' B pd (srt L)) := by
 refine Cal_enter (args := [.slice (some ⟨B, 0, none⟩) N N, .int .i64 (n), .func (.func 33) #[] #[]]) Tryz.func52 rfl rfl rfl (fun σ => ?_)
 refine Wr ?_
 refine Av ?_
 refine L_nil (X_then (W_seq (W_region ?_)))
 refine Mv ?_
 refine Av ?_
 refine Av ?_
 refine Nx ?_
 refine W_sub _ (tk6 8 7 6 0 1 2) ?_
 refine W_seq (W_block ?_)
 refine W_loop (S := Nat × List Nod) (fun (a, Lc) => [(6, .int .i64 20), (0, .slice (some ⟨B, 0, none⟩) N N), (1, .int .i64 (n)), (2, .func (.func 33) #[] #[]), (7, .int .i64 ((a : Int))), (8, .int .i64 ((a : Int) + 20))]) (fun (a, Lc) h' => (a : Int) ≤ n ∧ Lc.length = L.length ∧ Sti L a Lc ∧ Only [B] h h' ∧ RBuf nodS h' B pd Lc) (fun (a, Lc) => n.toNat - a) (0, L) (sk4 6 0 1 2 rfl rfl rfl rfl (sk1 7 (lki rfl (by omega)) (sk1 8 (lki rfl (by omega)) sN))) ?_ ?_
 ·exact ⟨by omega, rfl, sti_0 L, (Only.refl _ _), hb⟩
 rintro ⟨a, Lc⟩ h1 ⟨ha, hLl, hT, hx, hb1⟩
 show W _ _ _ _ _ [(6, .int .i64 20), (0, .slice (some ⟨B, 0, none⟩) N N), (1, .int .i64 (n)), (2, .func (.func 33) #[] #[]), (7, .int .i64 ((a : Int))), (8, .int .i64 ((a : Int) + 20))] _
 refine W_seq (W_seq (W_region ?_))
 refine Mv ?_
 refine Mv ?_
 refine Ly (Y_leq rfl rfl) ?_
 refine Nx ?_
 refine W_sub _ (tk7 13 6 0 1 2 7 8) ?_
 refine W_splitd rfl (fun c => ?_) (fun c => ?_)
 ·refine Ws ?_
  refine W_sub _ (tk6 6 0 1 2 7 8) ?_
  refine W_block (W_seq (W_region ?_))
  refine Mv ?_
  refine Mv ?_
  refine Mv ?_
  refine Mv ?_
  refine L_call (E_call (by kernel_rfl) rfl) (sort_insertion _ B N Lc pd hb1 (a : Int) ((a : Int) + 20) (by first | first | omega | (simp; omega) | rfl | (simp <;> omega)) (by first | first | omega | (simp; omega) | rfl | (simp <;> omega)) (by first | first | omega | (simp; omega) | rfl | (simp <;> omega)) (by first | first | omega | (simp; omega) | rfl | (simp <;> omega)) (by first | first | omega | (simp; omega) | rfl | (simp <;> omega)) (by first | first | omega | (simp; omega) | rfl | (simp <;> omega))) rfl rfl rfl ?_
  rintro _ h2 ⟨rfl, hx1, hb2⟩
  refine Nx ?_
  refine W_sub _ (tk6 6 0 1 2 7 8) ?_
  refine Wr ?_
  refine Mv ?_
  refine Av ?_
  refine Nx ?_
  refine W_sub _ (tk6 7 6 0 1 2 8) ?_
  refine W_region ?_
  refine Mv ?_
  refine Mv ?_
  refine Ly (Y_add rfl rfl (by first | omega | (simp; omega)) (by first | omega | (simp; omega))) ?_
  refine Av ?_
  refine L_nil (X_block ?_)
  refine X_loop ((a + 20, (isort Lc (a : Int).toNat ((a : Int) + 20).toNat))) (sk4 6 0 1 2 rfl rfl rfl rfl (sk1 7 (lki rfl (by omega)) (sk1 8 (lki rfl (by omega)) sN))) ?_ ?_
  ·exact ⟨by omega, by simp [hLl], by rw [show ((a : Int) + 20).toNat = a + 20 by omega]; exact sti_step hT (by omega), (Only.trans (Only.trans (Only.refl _ _) hx (fun _ hb_ => .inl hb_)) hx1 (fun _ hb_ => .inl hb_)), hb2⟩
  (try dsimp only)
  omega
 refine W_exit ?_
 refine X_then_exit (X_then_exit ?_)
 refine X_block_hit ?_
 refine X_then ?_
 refine W_sub _ (tk6 6 0 1 2 7 8) ?_
 refine Wr ?_
 refine Mv ?_
 refine Mv ?_
 refine Mv ?_
 refine Mv ?_
 refine L_call (E_call (by kernel_rfl) rfl) (sort_insertion _ B N Lc pd hb1 (a : Int) n (by first | first | omega | (simp; omega) | rfl | (simp <;> omega)) (by first | first | omega | (simp; omega) | rfl | (simp <;> omega)) (by first | first | omega | (simp; omega) | rfl | (simp <;> omega)) (by first | first | omega | (simp; omega) | rfl | (simp <;> omega)) (by first | first | omega | (simp; omega) | rfl | (simp <;> omega)) (by first | first | omega | (simp; omega) | rfl | (simp <;> omega))) rfl rfl rfl ?_
 rintro _ h3 ⟨rfl, hx3, hb4⟩
 refine Nx ?_
 refine W_sub _ (tk6 6 0 1 2 7 8) ?_
 refine W_block ?_
 refine W_loop (S := Nat × List Nod) (fun (k, Lc2) => [(0, .slice (some ⟨B, 0, none⟩) N N), (1, .int .i64 (n)), (2, .func (.func 33) #[] #[]), (6, .int .i64 ((k : Int)))]) (fun (k, Lc2) h' => 20 ≤ k ∧ (k : Int) ≤ 2000000000000 ∧ Lc2.length = L.length ∧ Lc2 = bks k L ∧ Only [B] h h' ∧ RBuf nodS h' B pd Lc2) (fun (k, Lc2) => n.toNat - k) (20, (isort Lc (a : Int).toNat n.toNat)) (sk3 0 1 2 rfl rfl rfl (sk1 6 (lki rfl (by omega)) sN)) ?_ ?_
 ·exact ⟨by omega, by omega, by simp [hLl], by rw [hn]; exact sti_end hT (by omega) (by omega), (Only.trans (Only.trans (Only.refl _ _) hx (fun _ hb_ => .inl hb_)) hx3 (fun _ hb_ => .inl hb_)), hb4⟩
 rintro ⟨k, Lc2⟩ h4 ⟨hk20, hkm, hLl2, hT2, hx2, hb2⟩
 show W _ _ _ _ _ [(0, .slice (some ⟨B, 0, none⟩) N N), (1, .int .i64 (n)), (2, .func (.func 33) #[] #[]), (6, .int .i64 ((k : Int)))] _
 refine W_seq (W_seq (W_region ?_))
 refine Mv ?_
 refine Mv ?_
 refine Ly (Y_lss rfl rfl) ?_
 refine Nx ?_
 refine W_sub _ (tk5 30 0 1 2 6) ?_
 refine W_splitd rfl (fun d => ?_) (fun d => ?_)
 ·refine Ws ?_
  refine W_sub _ (tk4 0 1 2 6) ?_
  refine W_block (W_seq (W_region ?_))
  refine Mv ?_
  refine Ly (Y_mul rfl rfl (by first | omega | (simp; omega)) (by first | omega | (simp; omega))) ?_
  refine Av ?_
  refine Av ?_
  refine Nx ?_
  refine W_sub _ (tk6 8 7 0 1 2 6) ?_
  refine W_seq (W_block ?_)
  refine W_loop (S := Nat × List Nod) (fun (a, Lc3) => [(0, .slice (some ⟨B, 0, none⟩) N N), (1, .int .i64 (n)), (2, .func (.func 33) #[] #[]), (6, .int .i64 ((k : Int))), (7, .int .i64 ((a : Int))), (8, .int .i64 ((a : Int) + 2 * (k : Int)))]) (fun (a, Lc3) h' => (a : Int) ≤ n ∧ Lc3.length = L.length ∧ Stm k L a Lc3 ∧ Only [B] h h' ∧ RBuf nodS h' B pd Lc3) (fun (a, Lc3) => n.toNat - a) (0, Lc2) (sk4 0 1 2 6 rfl rfl rfl rfl (sk1 7 (lki rfl (by omega)) (sk1 8 (lki rfl (by omega)) sN))) ?_ ?_
  ·exact ⟨by omega, hLl2, hT2 ▸ stm_0 k L, (Only.trans (Only.refl _ _) hx2 (fun _ hb_ => .inl hb_)), hb2⟩
  rintro ⟨a, Lc3⟩ h5 ⟨ha3, hLl3, hT3, hx3, hb3⟩
  show W _ _ _ _ _ [(0, .slice (some ⟨B, 0, none⟩) N N), (1, .int .i64 (n)), (2, .func (.func 33) #[] #[]), (6, .int .i64 ((k : Int))), (7, .int .i64 ((a : Int))), (8, .int .i64 ((a : Int) + 2 * (k : Int)))] _
  refine W_seq (W_seq (W_region ?_))
  refine Mv ?_
  refine Mv ?_
  refine Ly (Y_leq rfl rfl) ?_
  refine Nx ?_
  refine W_sub _ (tk7 35 0 1 2 6 7 8) ?_
  refine W_splitd rfl (fun w => ?_) (fun w => ?_)
  ·refine Ws ?_
   refine W_sub _ (tk6 0 1 2 6 7 8) ?_
   refine W_block (W_seq (W_region ?_))
   refine Mv ?_
   refine Mv ?_
   refine Mv ?_
   refine Mv ?_
   refine Ly (Y_add rfl rfl (by first | omega | (simp; omega)) (by first | omega | (simp; omega))) ?_
   refine Mv ?_
   refine Mv ?_
   refine L_call (E_call (by kernel_rfl) rfl) (sort_symMerge _ B N Lc3 pd hb3 (a : Int) ((a : Int) + (k : Int)) ((a : Int) + 2 * (k : Int)) (by first | first | omega | (simp; omega) | rfl | (simp <;> omega)) (by first | first | omega | (simp; omega) | rfl | (simp <;> omega)) (by first | first | omega | (simp; omega) | rfl | (simp <;> omega)) (by first | first | omega | (simp; omega) | rfl | (simp <;> omega)) (by first | first | omega | (simp; omega) | rfl | (simp <;> omega)) (by first | first | omega | (simp; omega) | rfl | (simp <;> omega)) (by first | first | omega | (simp; omega) | rfl | (simp <;> omega))) rfl rfl rfl ?_
   rintro _ h6 ⟨rfl, hx5, hb6⟩
   refine Nx ?_
   refine W_sub _ (tk6 0 1 2 6 7 8) ?_
   refine Wr ?_
   refine Mv ?_
   refine Av ?_
   refine Nx ?_
   refine W_sub _ (tk6 7 0 1 2 6 8) ?_
   refine W_region ?_
   refine Mv ?_
   refine Mv ?_
   refine Ly (Y_mul rfl rfl (by first | omega | (simp; omega)) (by first | omega | (simp; omega))) ?_
   refine Ly (Y_add rfl rfl (by first | omega | (simp; omega)) (by first | omega | (simp; omega))) ?_
   refine Av ?_
   refine L_nil (X_block ?_)
   refine X_loop ((a + 2 * k, (smg Lc3 (a : Int).toNat ((a : Int) + (k : Int)).toNat ((a : Int) + 2 * (k : Int)).toNat))) (sk4 0 1 2 6 rfl rfl rfl rfl (sk1 7 (lki rfl (by omega)) (sk1 8 (lki rfl (by omega)) sN))) ?_ ?_
   ·exact ⟨by omega, by simp [hLl3], by rw [show ((a : Int) + (k : Int)).toNat = a + k by omega, show ((a : Int) + 2 * (k : Int)).toNat = a + 2 * k by omega]; exact stm_step hT3 (by omega) (by omega), (Only.trans (Only.trans (Only.refl _ _) hx3 (fun _ hb_ => .inl hb_)) hx5 (fun _ hb_ => .inl hb_)), hb6⟩
   (try dsimp only)
   omega
  refine W_exit ?_
  refine X_then_exit (X_then_exit ?_)
  refine X_block_hit ?_
  refine X_then ?_
  refine W_sub _ (tk5 0 1 2 6 7) ?_
  refine W_seq (W_seq (W_region ?_))
  refine Mv ?_
  refine Mv ?_
  refine Ly (Y_add rfl rfl (by first | omega | (simp; omega)) (by first | omega | (simp; omega))) ?_
  refine Av ?_
  refine Nx ?_
  refine W_sub _ (tk6 9 0 1 2 6 7) ?_
  refine Wr ?_
  refine Mv ?_
  refine Mv ?_
  refine Ly (Y_lss rfl rfl) ?_
  refine Nx ?_
  refine W_sub _ (tk7 54 9 0 1 2 6 7) ?_
  refine W_splitd rfl (fun u => ?_) (fun u => ?_)
  ·refine W_region ?_
   refine Mv ?_
   refine Mv ?_
   refine Mv ?_
   refine Mv ?_
   refine Mv ?_
   refine L_call (E_call (by kernel_rfl) rfl) (sort_symMerge _ B N Lc3 pd hb3 (a : Int) ((a : Int) + (k : Int)) n (by first | first | omega | (simp; omega) | rfl | (simp <;> omega)) (by first | first | omega | (simp; omega) | rfl | (simp <;> omega)) (by first | first | omega | (simp; omega) | rfl | (simp <;> omega)) (by first | first | omega | (simp; omega) | rfl | (simp <;> omega)) (by first | first | omega | (simp; omega) | rfl | (simp <;> omega)) (by first | first | omega | (simp; omega) | rfl | (simp <;> omega)) (by first | first | omega | (simp; omega) | rfl | (simp <;> omega))) rfl rfl rfl ?_
   rintro _ h7 ⟨rfl, hx7, hb8⟩
   refine Nx ?_
   refine W_sub _ (tk4 0 1 2 6) ?_
   refine W_region ?_
   refine Mv ?_
   refine Ly (Y_mul rfl rfl (by first | omega | (simp; omega)) (by first | omega | (simp; omega))) ?_
   refine Av ?_
   refine L_nil (X_block ?_)
   refine X_loop ((2 * k, (smg Lc3 (a : Int).toNat ((a : Int) + (k : Int)).toNat n.toNat))) (sk3 0 1 2 rfl rfl rfl (sk1 6 (lki rfl (by omega)) sN)) ?_ ?_
   ·exact ⟨by omega, by omega, by simp [hLl3], by rw [show ((a : Int) + (k : Int)).toNat = a + k by omega, hn]; exact stm_end1 hT3 (by omega) (by omega) (by omega), (Only.trans (Only.trans (Only.refl _ _) hx3 (fun _ hb_ => .inl hb_)) hx7 (fun _ hb_ => .inl hb_)), hb8⟩
   (try dsimp only)
   omega
  refine Ws ?_
  refine W_sub _ (tk4 0 1 2 6) ?_
  refine W_region ?_
  refine Mv ?_
  refine Ly (Y_mul rfl rfl (by first | omega | (simp; omega)) (by first | omega | (simp; omega))) ?_
  refine Av ?_
  refine L_nil (X_block ?_)
  refine X_loop ((2 * k, Lc3)) (sk3 0 1 2 rfl rfl rfl (sk1 6 (lki rfl (by omega)) sN)) ?_ ?_
  ·exact ⟨by omega, by omega, hLl3, stm_end0 hT3 (by omega), (Only.trans (Only.refl _ _) hx3 (fun _ hb_ => .inl hb_)), hb3⟩
  (try dsimp only)
  omega
 refine W_exit ?_
 refine X_then_exit (X_then_exit ?_)
 refine X_block_hit ?_
 refine X_end ?_
 refine X_end0 rfl ?_
 refine ⟨rfl, (Only.trans (Only.refl _ _) hx2 (fun _ hb_ => .inl hb_)), RBuf.congr hb2 ?_⟩
 rw [hT2, bks_end (by omega)]

set_option maxRecDepth 100000 in
theorem sort_SortStable (h : Heap) (B : Nat) (N : Nat) (L : List Nod) (pd : Nat → Prop) (hb : RBuf nodS h B pd L) (hpB : ¬ pd B) (hN : N = L.length) (hm : L.length ≤ 1000000000000) : Cal Tryz.prog 32 #[.slice (some ⟨B, 0, none⟩) N N, .func (.func 33) #[] #[]] h (fun v h' => v = .tuple #[] ∧ Only [B] h h' ∧ RBuf nodS h' B pd (srt L)) := by
 refine Cal_enter (args := [.slice (some ⟨B, 0, none⟩) N N, .func (.func 33) #[] #[]]) Tryz.func32 rfl rfl rfl (fun σ => ?_)
 refine W_region ?_
 refine Mv ?_
 refine Mv ?_
 refine Ly (Y_lenr Tryz.underlying22 rfl (hb.rows (by first | omega | (simp; omega) | (simp; done)))) ?_
 refine Mv ?_
 refine L_call (E_call (by kernel_rfl) rfl) (sort_stable _ B N L pd hb (L.length : Int) (by first | omega | rfl | (simp <;> omega)) (by first | omega | rfl | (simp <;> omega)) (by first | omega | rfl | (simp <;> omega)) (by first | omega | rfl | (simp <;> omega))) rfl rfl rfl ?_
 rintro _ h1 ⟨rfl, hx1, hb2⟩
 refine L_nil ?_
 refine X_end ?_
 refine X_end0 rfl ?_
 exact ⟨rfl, (Only.trans (Only.refl _ _) hx1 (fun _ hb_ => .inl hb_)), hb2⟩
end Go.Xp
