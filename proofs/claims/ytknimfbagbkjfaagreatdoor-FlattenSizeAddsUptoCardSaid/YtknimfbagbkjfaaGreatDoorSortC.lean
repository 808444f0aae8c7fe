/- The library's stable sort of nodes: comparison, swaps, rotation, insertion sort: what the code does, step by step. -/
import Derived.Test.YtknimfbagbkjfaaGreatDoorBufR
import Derived.Test.YtknimfbagbkjfaaGreatDoorTree
import Derived.Test.YtknimfbagbkjfaaGreatDoorPathLaw
set_option linter.unusedSimpArgs false
set_option linter.unusedVariables false
set_option linter.unusedSectionVars false
namespace Go.Xp
open Go.Proofs

def nlt (x y : Nod) : Prop := pcmp x.path y.path < 0
instance (x y : Nod) : Decidable (nlt x y) := by unfold nlt; infer_instance
def swp (L : List Nod) (i j : Nat) : List Nod := (L.set i (at_nod L j)).set j (at_nod L i)
@[simp] theorem swp_len (L : List Nod) (i j : Nat) : (swp L i j).length = L.length := by simp [swp]
def insf (a : Nat) : Nat → List Nod → List Nod
  | 0, L => L
  | j + 1, L => if a < j + 1 ∧ nlt (at_nod L (j + 1)) (at_nod L j) then insf a j (swp L (j + 1) j) else L
@[simp] theorem insf_len (a : Nat) : ∀ (j : Nat) (L : List Nod), (insf a j L).length = L.length
  | 0, L => rfl
  | j + 1, L => by
    unfold insf
    split
    · rw [insf_len a j]; simp
    · rfl
/-- n elements from index i on are put in. -/
def iso (a : Nat) : Nat → Nat → List Nod → List Nod
  | _, 0, L => L
  | i, n + 1, L => iso a (i + 1) n (insf a i L)
@[simp] theorem iso_len (a : Nat) : ∀ (n i : Nat) (L : List Nod), (iso a i n L).length = L.length
  | 0, _, _ => rfl
  | n + 1, i, L => by unfold iso; rw [iso_len a n]; simp
def isort (L : List Nod) (a b : Nat) : List Nod := iso a (a + 1) (b - (a + 1)) L
@[simp] theorem isort_len (L : List Nod) (a b : Nat) : (isort L a b).length = L.length := by simp [isort]
set_option maxRecDepth 100000 in
theorem canon_cmp (h : Heap) (x : Nod) (hx0 : nodS.ok h x) (y : Nod) (hy0 : nodS.ok h y) : Cal Tryz.prog 33 #[.agg #[.int .i64 (x.kind), str x.path, .int .i64 (x.mode), str x.target, (x.dv), .int .i64 (x.cls)], .agg #[.int .i64 (y.kind), str y.path, .int .i64 (y.mode), str y.target, (y.dv), .int .i64 (y.cls)]] h (fun v h' => v = .int .i64 (pcmp x.path y.path) ∧ Ext h h') := by
 refine Cal_enter (args := [.agg #[.int .i64 (x.kind), str x.path, .int .i64 (x.mode), str x.target, (x.dv), .int .i64 (x.cls)], .agg #[.int .i64 (y.kind), str y.path, .int .i64 (y.mode), str y.target, (y.dv), .int .i64 (y.cls)]]) Tryz.func33 rfl rfl rfl (fun σ => ?_)
 refine Wr ?_
 refine L_mks (M_box rfl) rfl rfl rfl ?_
 rintro _ h1 ⟨rfl, hn1⟩
 have hk2 : Blk h1 h.size [.int .i64 (x.kind), str x.path, .int .i64 (x.mode), str x.target, (x.dv), .int .i64 (x.cls)] := hn1.blk
 refine L_mks (M_box rfl) rfl rfl rfl ?_
 rintro _ h2 ⟨rfl, hn3⟩
 have hk4 : Blk h2 h1.size [.int .i64 (y.kind), str y.path, .int .i64 (y.mode), str y.target, (y.dv), .int .i64 (y.cls)] := hn3.blk
 refine Av ?_
 refine Nx ?_
 refine W_sub _ (tk3 4 3 2) ?_
 refine Wr ?_
 refine Ly (Y_fieldAddr (off := 1) (by kernel_rfl) rfl rfl) ?_
 refine Ly (Y_ldblk Tryz.underlying9 rfl rfl (hk2.ext hn3.ext) rfl) ?_
 refine Ly (Y_fieldAddr (off := 1) (by kernel_rfl) rfl rfl) ?_
 refine Ly (Y_ldblk Tryz.underlying9 rfl rfl hk4 rfl) ?_
 refine L_call (E_call (by kernel_rfl) rfl) (cmp_Compare _ x.path y.path) rfl rfl rfl ?_
 rintro _ h2 ⟨rfl, rfl⟩
 refine Av ?_
 refine Nx ?_
 refine W_sub _ (tk1 4) ?_
 refine W_ret ?_
 refine X_ret1 rfl rfl ?_
 exact ⟨rfl, (hn1.ext.trans hn3.ext)⟩

theorem insf_yes {a j : Nat} {L : List Nod} (h1 : a < j) (h2 : nlt (at_nod L j) (at_nod L (j - 1))) : insf a j L = insf a (j - 1) (swp L j (j - 1)) := by
  obtain ⟨g, rfl⟩ : ∃ g, j = g + 1 := ⟨j - 1, by omega⟩
  conv => lhs; unfold insf
  rw [if_pos ⟨h1, h2⟩]; rfl
theorem insf_no {a j : Nat} {L : List Nod} (h : ¬ (a < j ∧ nlt (at_nod L j) (at_nod L (j - 1)))) : insf a j L = L := by
  cases j with
  | zero => rfl
  | succ g => unfold insf; exact if_neg h
theorem iso_step {a i n : Nat} {L : List Nod} (h : 0 < n) : iso a i n L = iso a (i + 1) (n - 1) (insf a i L) := by
  obtain ⟨g, rfl⟩ : ∃ g, n = g + 1 := ⟨n - 1, by omega⟩
  rfl

set_option maxRecDepth 100000 in
theorem sort_insertion (h : Heap) (B : Nat) (N : Nat) (L : List Nod) (pd : Nat → Prop) (hb : RBuf nodS h B pd L) (a : Int) (b : Int) (hpB : ¬ pd B) (hN : N = L.length) (hm : L.length ≤ 1000000000000) (ha : 0 ≤ a) (h1 : a ≤ b) (h3 : b ≤ L.length) : Cal Tryz.prog 77 #[.slice (some ⟨B, 0, none⟩) N N, .int .i64 (a), .int .i64 (b), .func (.func 33) #[] #[]] h (fun v h' => v = .tuple #[] ∧ Only [B] h h' ∧ RBuf nodS h' B pd (isort L a.toNat b.toNat)) := by
 refine Cal_enter (args := [.slice (some ⟨B, 0, none⟩) N N, .int .i64 (a), .int .i64 (b), .func (.func 33) #[] #[]]) Tryz.func77 rfl rfl rfl (fun σ => ?_)
 refine Wr ?_
 refine Mv ?_
 refine Ly (Y_add rfl rfl (by omega) (by omega)) ?_
 refine Av ?_
 refine Nx ?_
 refine W_sub _ (tk5 8 0 1 2 3) ?_
 refine W_block ?_
 refine W_loop (S := Nat × List Nod) (fun (i, Lc) => [(0, .slice (some ⟨B, 0, none⟩) N N), (1, .int .i64 (a)), (2, .int .i64 (b)), (3, .func (.func 33) #[] #[]), (8, .int .i64 ((i : Int)))]) (fun (i, Lc) h' => a + 1 ≤ (i : Int) ∧ Lc.length = L.length ∧ iso a.toNat i (b.toNat - i) Lc = isort L a.toNat b.toNat ∧ Only [B] h h' ∧ RBuf nodS h' B pd Lc) (fun (i, Lc) => b.toNat - i) ((a + 1).toNat, L) (sk4 0 1 2 3 rfl rfl rfl rfl (sk1 8 (lki rfl (by omega)) sN)) ?_ ?_
 ·exact ⟨by omega, rfl, by unfold isort; congr 1 <;> omega, (Only.refl _ _), hb⟩
 rintro ⟨i, Lc⟩ h1 ⟨hi, hLl, hT, hx, hb1⟩
 show W _ _ _ _ _ [(0, .slice (some ⟨B, 0, none⟩) N N), (1, .int .i64 (a)), (2, .int .i64 (b)), (3, .func (.func 33) #[] #[]), (8, .int .i64 ((i : Int)))] _
 refine W_seq (W_seq (W_region ?_))
 refine Mv ?_
 refine Mv ?_
 refine Ly (Y_lss rfl rfl) ?_
 refine Nx ?_
 refine W_sub _ (tk6 14 0 1 2 3 8) ?_
 refine W_splitd rfl (fun c => ?_) (fun c => ?_)
 ·refine Ws ?_
  refine W_sub _ (tk5 0 1 2 3 8) ?_
  refine W_seq (W_block (W_seq (W_region ?_)))
  refine Mv ?_
  refine Av ?_
  refine Nx ?_
  refine W_sub _ (tk6 9 0 1 2 3 8) ?_
  refine W_block ?_
  refine W_loop (S := Nat × List Nod) (fun (j, Ld) => [(0, .slice (some ⟨B, 0, none⟩) N N), (1, .int .i64 (a)), (2, .int .i64 (b)), (3, .func (.func 33) #[] #[]), (8, .int .i64 ((i : Int))), (9, .int .i64 ((j : Int)))]) (fun (j, Ld) h' => a ≤ (j : Int) ∧ (j : Int) < b ∧ Ld.length = L.length ∧ insf a.toNat j Ld = insf a.toNat i Lc ∧ Only [B] h h' ∧ RBuf nodS h' B pd Ld) (fun (j, Ld) => j) (i, Lc) (tk6 0 1 2 3 8 9) ?_ ?_
  ·exact ⟨by omega, by omega, hLl, rfl, (Only.trans (Only.refl _ _) hx (fun _ hb_ => .inl hb_)), hb1⟩
  rintro ⟨j, Ld⟩ h2 ⟨hj, hjb, hLd, hTj, hx2, hb2⟩
  show W _ _ _ _ _ [(0, .slice (some ⟨B, 0, none⟩) N N), (1, .int .i64 (a)), (2, .int .i64 (b)), (3, .func (.func 33) #[] #[]), (8, .int .i64 ((i : Int))), (9, .int .i64 ((j : Int)))] _
  refine W_seq (W_seq ?_)
  by_cases hja : a < (j : Int)
  ·refine W_pers [(0, .slice (some ⟨B, 0, none⟩) N N), (1, .int .i64 (a)), (2, .int .i64 (b)), (3, .func (.func 33) #[] #[]), (8, .int .i64 ((i : Int))), (9, .int .i64 ((j : Int)))] (tk6 0 1 2 3 8 9) (by kernel_rfl) ?_
   refine LP_op 0 (fun _ vv => .int .i64 ((j : Int)) = vv) [] rfl rfl (by kernel_rfl) (fun _ _ _ _ p => p) ?_ ?_
   ·intro h3 hx1
    refine Needs_nil ?_
    refine Stp_yld (Y_move rfl) rfl ?_
    exact rfl
   refine LP_op 1 (fun _ vv => .int .i64 (a) = vv) [] rfl rfl (by kernel_rfl) (fun _ _ _ _ p => p) ?_ ?_
   ·intro h4 hx2
    refine Needs_nil ?_
    refine Stp_yld (Y_move rfl) rfl ?_
    exact rfl
   refine LP_op 2 (fun _ vv => .bool (decide (a < (j : Int))) = vv) [(0, 18), (1, 19)] rfl rfl (by kernel_rfl) (fun _ _ _ _ p => p) ?_ ?_
   ·intro h5 hx3
    rintro _ rfl
    rintro _ rfl
    refine Needs_nil ?_
    refine Stp_yld (Y_gtr rfl rfl) rfl ?_
    exact rfl
   refine LP_op 3 (fun _ vv => .bool true = vv) [(2, 20)] rfl rfl (by kernel_rfl) (fun _ _ _ _ p => p) ?_ ?_
   ·intro h6 hx4
    rintro _ rfl
    refine Needs_nil ?_
    refine Stp_yld (Y_move rfl) rfl ?_
    exact (congrArg Value.bool (decide_eq_true (by exact hja))).symm
   refine LP_op 4 (fun _ vv => .func (.func 33) #[] #[] = vv) [(3, 21)] rfl rfl (by kernel_rfl) (fun _ _ _ _ p => p) ?_ ?_
   ·intro h7 hx5
    rintro _ rfl
    refine Needs_nil ?_
    refine Stp_yld (Y_move rfl) rfl ?_
    exact rfl
   refine LP_op 5 (fun _ vv => .slice (some ⟨B, 0, none⟩) N N = vv) [(3, 21)] rfl rfl (by kernel_rfl) (fun _ _ _ _ p => p) ?_ ?_
   ·intro h8 hx6
    rintro _ rfl
    refine Needs_nil ?_
    refine Stp_yld (Y_move rfl) rfl ?_
    exact rfl
   refine LP_op 6 (fun _ vv => .int .i64 ((j : Int)) = vv) [(3, 21)] rfl rfl (by kernel_rfl) (fun _ _ _ _ p => p) ?_ ?_
   ·intro h9 hx7
    rintro _ rfl
    refine Needs_nil ?_
    refine Stp_yld (Y_move rfl) rfl ?_
    exact rfl
   refine LP_op 7 (fun _ vv => .pointer (some (elemAddr (.slice (some ⟨B, 0, none⟩) N N) (((j : Int)).toNat * 6))) = vv) [(6, 24), (3, 21), (5, 23)] rfl rfl (by kernel_rfl) (fun _ _ _ _ p => p) ?_ ?_
   ·intro h10 hx8
    rintro _ rfl
    rintro _ rfl
    rintro _ rfl
    refine Needs_nil ?_
    refine Stp_yld (Y_idxB Tryz.underlying22 (show _ = some 6 by kernel_rfl) rfl rfl (by first | omega | (simp; omega)) (by first | omega | (simp; omega))) rfl ?_
    exact rfl
   refine LP_op 8 (fun _ vv => .agg #[.int .i64 ((at_nod Ld ((j : Int)).toNat).kind), str ((at_nod Ld ((j : Int)).toNat).path), .int .i64 ((at_nod Ld ((j : Int)).toNat).mode), str ((at_nod Ld ((j : Int)).toNat).target), ((at_nod Ld ((j : Int)).toNat).dv), .int .i64 ((at_nod Ld ((j : Int)).toNat).cls)] = vv) [(7, 25), (3, 21)] rfl rfl (by kernel_rfl) (fun _ _ _ _ p => p) ?_ ?_
   ·intro h11 hx9
    rintro _ rfl
    rintro _ rfl
    refine Needs_nil ?_
    refine Stp_yld (Y_ldrA0 (k := ((j : Int)).toNat) (us := [.int .i64 ((at_nod Ld ((j : Int)).toNat).kind), str ((at_nod Ld ((j : Int)).toNat).path), .int .i64 ((at_nod Ld ((j : Int)).toNat).mode), str ((at_nod Ld ((j : Int)).toNat).target), ((at_nod Ld ((j : Int)).toNat).dv), .int .i64 ((at_nod Ld ((j : Int)).toNat).cls)]) Tryz.underlying50 rfl (show _ = some 6 by kernel_rfl) rfl rfl ((hb2.ext hx9).rows (by first | omega | (simp [hN]; omega))) (by first | omega | (simp; omega)) rfl) rfl ?_
    exact rfl
   refine LP_op 9 (fun _ vv => .slice (some ⟨B, 0, none⟩) N N = vv) [(3, 21)] rfl rfl (by kernel_rfl) (fun _ _ _ _ p => p) ?_ ?_
   ·intro h12 hx10
    rintro _ rfl
    refine Needs_nil ?_
    refine Stp_yld (Y_move rfl) rfl ?_
    exact rfl
   refine LP_op 10 (fun _ vv => .int .i64 ((j : Int)) = vv) [(3, 21)] rfl rfl (by kernel_rfl) (fun _ _ _ _ p => p) ?_ ?_
   ·intro h13 hx11
    rintro _ rfl
    refine Needs_nil ?_
    refine Stp_yld (Y_move rfl) rfl ?_
    exact rfl
   refine LP_op 11 (fun _ vv => .int .i64 ((j : Int) - 1) = vv) [(10, 28), (3, 21)] rfl rfl (by kernel_rfl) (fun _ _ _ _ p => p) ?_ ?_
   ·intro h14 hx12
    rintro _ rfl
    rintro _ rfl
    refine Needs_nil ?_
    refine Stp_yld (Y_sub rfl rfl (by omega) (by omega)) rfl ?_
    exact rfl
   refine LP_op 12 (fun _ vv => .pointer (some (elemAddr (.slice (some ⟨B, 0, none⟩) N N) (((j : Int) - 1).toNat * 6))) = vv) [(3, 21), (9, 27), (11, 29)] rfl rfl (by kernel_rfl) (fun _ _ _ _ p => p) ?_ ?_
   ·intro h15 hx13
    rintro _ rfl
    rintro _ rfl
    rintro _ rfl
    refine Needs_nil ?_
    refine Stp_yld (Y_idxB Tryz.underlying22 (show _ = some 6 by kernel_rfl) rfl rfl (by first | omega | (simp; omega)) (by first | omega | (simp; omega))) rfl ?_
    exact rfl
   refine LP_op 13 (fun _ vv => .agg #[.int .i64 ((at_nod Ld ((j : Int) - 1).toNat).kind), str ((at_nod Ld ((j : Int) - 1).toNat).path), .int .i64 ((at_nod Ld ((j : Int) - 1).toNat).mode), str ((at_nod Ld ((j : Int) - 1).toNat).target), ((at_nod Ld ((j : Int) - 1).toNat).dv), .int .i64 ((at_nod Ld ((j : Int) - 1).toNat).cls)] = vv) [(3, 21), (12, 30)] rfl rfl (by kernel_rfl) (fun _ _ _ _ p => p) ?_ ?_
   ·intro h16 hx14
    rintro _ rfl
    rintro _ rfl
    refine Needs_nil ?_
    refine Stp_yld (Y_ldrA0 (k := ((j : Int) - 1).toNat) (us := [.int .i64 ((at_nod Ld ((j : Int) - 1).toNat).kind), str ((at_nod Ld ((j : Int) - 1).toNat).path), .int .i64 ((at_nod Ld ((j : Int) - 1).toNat).mode), str ((at_nod Ld ((j : Int) - 1).toNat).target), ((at_nod Ld ((j : Int) - 1).toNat).dv), .int .i64 ((at_nod Ld ((j : Int) - 1).toNat).cls)]) Tryz.underlying50 rfl (show _ = some 6 by kernel_rfl) rfl rfl ((hb2.ext hx14).rows (by first | omega | (simp [hN]; omega))) (by first | omega | (simp; omega)) rfl) rfl ?_
    exact rfl
   refine LP_op 14 (fun _ vv => .int .i64 (pcmp (at_nod Ld ((j : Int)).toNat).path (at_nod Ld ((j : Int) - 1).toNat).path) = vv) [(8, 26), (3, 21), (4, 22), (13, 31)] rfl rfl (by kernel_rfl) (fun _ _ _ _ p => p) ?_ ?_
   ·intro h17 hx15
    rintro _ rfl
    rintro _ rfl
    rintro _ rfl
    rintro _ rfl
    refine Needs_nil ?_
    refine Stp_call (E_callv (fs := []) (cs := []) (by kernel_rfl) rfl rfl) (canon_cmp _ (at_nod Ld ((j : Int)).toNat) (show Bytes _ ((at_nod Ld ((j : Int)).toNat).dv) ((at_nod Ld ((j : Int)).toNat).data) from ((hb2.ext hx15).okp (k := ((j : Int)).toNat) (by first | omega | (simp; omega))).1) (at_nod Ld ((j : Int) - 1).toNat) (show Bytes _ ((at_nod Ld ((j : Int) - 1).toNat).dv) ((at_nod Ld ((j : Int) - 1).toNat).data) from ((hb2.ext hx15).okp (k := ((j : Int) - 1).toNat) (by first | omega | (simp; omega))).1)) rfl ?_
    rintro _ h18 ⟨rfl, hx16⟩
    exact ⟨hx16, rfl⟩
   refine LP_op 15 (fun _ vv => .bool (decide ((pcmp (at_nod Ld ((j : Int)).toNat).path (at_nod Ld ((j : Int) - 1).toNat).path) < 0)) = vv) [(14, 32), (3, 21)] rfl rfl (by kernel_rfl) (fun _ _ _ _ p => p) ?_ ?_
   ·intro h19 hx17
    rintro _ rfl
    rintro _ rfl
    refine Needs_nil ?_
    refine Stp_yld (Y_lss rfl rfl) rfl ?_
    exact rfl
   refine LP_op 16 (fun _ vv => .bool (decide ((pcmp (at_nod Ld ((j : Int)).toNat).path (at_nod Ld ((j : Int) - 1).toNat).path) < 0)) = vv) [(15, 33), (3, 21)] rfl rfl (by kernel_rfl) (fun _ _ _ _ p => p) ?_ ?_
   ·intro h20 hx18
    rintro _ rfl
    rintro _ rfl
    refine Needs_nil ?_
    refine Stp_yld (Y_pick_t rfl rfl) rfl ?_
    exact rfl
   refine LP_end [(16, 34)] rfl (by kernel_rfl) rfl ?_
   intro h21 hx19
   rintro _ rfl
   refine Needs_nil ?_
   refine X_then ?_
   refine W_splitd rfl (fun d => ?_) (fun d => ?_)
   ·refine Ws ?_
    refine W_sub _ (tk6 0 1 2 3 8 9) ?_
    refine W_seq (W_block ?_)
    refine W_held (fun _ => True) 18 rfl (by kernel_rfl) ?_
    refine LH_take (i := 0) rfl (fun h_ hI_ => Y_move rfl) rfl rfl rfl (by kernel_rfl) (by kernel_rfl) (by kernel_rfl) (fun _ _ _ => by rintro ⟨_, _, h_, _⟩; cases h_) trivial ?_
    refine LH_take (i := 1) rfl (fun h_ hI_ => Y_move rfl) rfl rfl rfl (by kernel_rfl) (by kernel_rfl) (by kernel_rfl) (fun _ _ _ => by rintro ⟨_, _, h_, _⟩; cases h_) trivial ?_
    refine LH_take (i := 2) rfl (fun h_ hI_ => Y_move rfl) rfl rfl rfl (by kernel_rfl) (by kernel_rfl) (by kernel_rfl) (fun _ _ _ => by rintro ⟨_, _, h_, _⟩; cases h_) trivial ?_
    refine LH_take (i := 3) rfl (fun h_ hI_ => Y_move rfl) rfl rfl rfl (by kernel_rfl) (by kernel_rfl) (by kernel_rfl) (fun _ _ _ => by rintro ⟨_, _, h_, _⟩; cases h_) trivial ?_
    refine LH_take (i := 4) rfl (fun h_ hI_ => Y_sub rfl rfl (by omega) (by omega)) rfl rfl rfl (by kernel_rfl) (by kernel_rfl) (by kernel_rfl) (fun _ _ _ => by rintro ⟨_, _, h_, _⟩; cases h_) trivial ?_
    refine LH_take (i := 5) rfl (fun h_ hI_ => Y_move rfl) rfl rfl rfl (by kernel_rfl) (by kernel_rfl) (by kernel_rfl) (fun _ _ _ => by rintro ⟨_, _, h_, _⟩; cases h_) trivial ?_
    refine LH_take (i := 6) rfl (fun h_ hI_ => Y_move rfl) rfl rfl rfl (by kernel_rfl) (by kernel_rfl) (by kernel_rfl) (fun _ _ _ => by rintro ⟨_, _, h_, _⟩; cases h_) trivial ?_
    refine LH_take (i := 7) rfl (fun h_ hI_ => Y_sub rfl rfl (by omega) (by omega)) rfl rfl rfl (by kernel_rfl) (by kernel_rfl) (by kernel_rfl) (fun _ _ _ => by rintro ⟨_, _, h_, _⟩; cases h_) trivial ?_
    refine LH_take (i := 8) rfl (fun h_ hI_ => Y_idxB Tryz.underlying22 (show _ = some 6 by kernel_rfl) rfl rfl (by first | omega | (simp; omega)) (by first | omega | (simp; omega))) rfl rfl rfl (by kernel_rfl) (by kernel_rfl) (by kernel_rfl) (fun _ _ _ => by rintro ⟨_, _, h_, _⟩; cases h_) trivial ?_
    refine LH_take (i := 10) rfl (fun h_ hI_ => Y_move rfl) rfl rfl rfl (by kernel_rfl) (by kernel_rfl) (by kernel_rfl) (fun _ _ _ => by rintro ⟨_, _, h_, _⟩; cases h_) trivial ?_
    refine LH_take (i := 11) rfl (fun h_ hI_ => Y_move rfl) rfl rfl rfl (by kernel_rfl) (by kernel_rfl) (by kernel_rfl) (fun _ _ _ => by rintro ⟨_, _, h_, _⟩; cases h_) trivial ?_
    refine LH_take (i := 12) rfl (fun h_ hI_ => Y_idxB Tryz.underlying22 (show _ = some 6 by kernel_rfl) rfl rfl (by first | omega | (simp; omega)) (by first | omega | (simp; omega))) rfl rfl rfl (by kernel_rfl) (by kernel_rfl) (by kernel_rfl) (fun _ _ _ => by rintro ⟨_, _, h_, _⟩; cases h_) trivial ?_
    refine LH_two (i := 9) (j := 13) (by kernel_rfl) ?_ ?_
    ·have hq20 : Okp nodS h21 pd (at_nod Ld ((j : Int) - 1).toNat) := (hb2.ext hx19).okp (by first | omega | (simp; omega))
     refine LO_yld (i := 9) rfl (Y_ldrA0 (k := ((j : Int) - 1).toNat) (us := [.int .i64 ((at_nod Ld ((j : Int) - 1).toNat).kind), str ((at_nod Ld ((j : Int) - 1).toNat).path), .int .i64 ((at_nod Ld ((j : Int) - 1).toNat).mode), str ((at_nod Ld ((j : Int) - 1).toNat).target), ((at_nod Ld ((j : Int) - 1).toNat).dv), .int .i64 ((at_nod Ld ((j : Int) - 1).toNat).cls)]) Tryz.underlying50 rfl (show _ = some 6 by kernel_rfl) rfl rfl ((hb2.ext hx19).rows (by first | omega | (simp [hN]; omega))) (by first | omega | (simp; omega)) rfl) rfl rfl rfl trivial ?_
     refine LH_one (i := 13) (by kernel_rfl) ?_
     have hq21 : Okp nodS h21 pd (at_nod Ld ((j : Int)).toNat) := (hb2.ext hx19).okp (by first | omega | (simp; omega))
     refine LO_yld (i := 13) rfl (Y_ldrA0 (k := ((j : Int)).toNat) (us := [.int .i64 ((at_nod Ld ((j : Int)).toNat).kind), str ((at_nod Ld ((j : Int)).toNat).path), .int .i64 ((at_nod Ld ((j : Int)).toNat).mode), str ((at_nod Ld ((j : Int)).toNat).target), ((at_nod Ld ((j : Int)).toNat).dv), .int .i64 ((at_nod Ld ((j : Int)).toNat).cls)]) Tryz.underlying50 rfl (show _ = some 6 by kernel_rfl) rfl rfl ((hb2.ext hx19).rows (by first | omega | (simp [hN]; omega))) (by first | omega | (simp; omega)) rfl) rfl rfl rfl trivial ?_
     refine LH_take (i := 14) rfl (fun h_ hI_ => Y_idxB Tryz.underlying22 (show _ = some 6 by kernel_rfl) rfl rfl (by first | omega | (simp; omega)) (by first | omega | (simp; omega))) rfl rfl rfl (by kernel_rfl) (by kernel_rfl) (by kernel_rfl) (fun _ _ _ => by rintro ⟨_, _, h_, _⟩; cases h_) trivial ?_
     refine LH_one (i := 15) (by kernel_rfl) ?_
     refine LO_dos (i := 15) rfl (D_rsetA (S := nodS) (us := [.int .i64 ((at_nod Ld ((j : Int) - 1).toNat).kind), str ((at_nod Ld ((j : Int) - 1).toNat).path), .int .i64 ((at_nod Ld ((j : Int) - 1).toNat).mode), str ((at_nod Ld ((j : Int) - 1).toNat).target), ((at_nod Ld ((j : Int) - 1).toNat).dv), .int .i64 ((at_nod Ld ((j : Int) - 1).toNat).cls)]) (a := (at_nod Ld ((j : Int) - 1).toNat)) (k := ((j : Int)).toNat) (show _ = some 6 by kernel_rfl) rfl rfl rfl rfl (hb2.ext hx19) (by first | omega | (simp; omega)) rfl hq20.1 hq20.2 hpB) rfl rfl ?_
     rintro h22 ⟨hx22, -, hb23⟩
     refine ⟨trivial, ?_⟩
     refine LH_take (i := 16) rfl (fun h_ hI_ => Y_idxB Tryz.underlying22 (show _ = some 6 by kernel_rfl) rfl rfl (by first | omega | (simp; omega)) (by first | omega | (simp; omega))) rfl rfl rfl (by kernel_rfl) (by kernel_rfl) (by kernel_rfl) (fun _ _ _ => by rintro ⟨_, _, h_, _⟩; cases h_) trivial ?_
     refine LH_one (i := 17) (by kernel_rfl) ?_
     have hc26 := (hq21.only hx22 hpB)
     refine LO_dos (i := 17) rfl (D_rsetA (S := nodS) (us := [.int .i64 ((at_nod Ld ((j : Int)).toNat).kind), str ((at_nod Ld ((j : Int)).toNat).path), .int .i64 ((at_nod Ld ((j : Int)).toNat).mode), str ((at_nod Ld ((j : Int)).toNat).target), ((at_nod Ld ((j : Int)).toNat).dv), .int .i64 ((at_nod Ld ((j : Int)).toNat).cls)]) (a := (at_nod Ld ((j : Int)).toNat)) (k := ((j : Int) - 1).toNat) (show _ = some 6 by kernel_rfl) rfl rfl rfl rfl hb23 (by first | omega | (simp; omega)) rfl hc26.1 hc26.2 hpB) rfl rfl ?_
     rintro h23 ⟨hx24, -, hb25⟩
     refine ⟨trivial, ?_⟩
     refine LH_done (by kernel_rfl) ?_
     refine X_block (X_then ?_)
     refine W_sub _ (tk6 0 1 2 3 8 9) ?_
     refine W_region ?_
     refine Mv ?_
     refine Ly (Y_sub rfl rfl (by omega) (by omega)) ?_
     refine Av ?_
     refine L_nil ?_
     refine X_loop ((j - 1, ((Ld.set (((j : Int)).toNat) (at_nod Ld ((j : Int) - 1).toNat)).set (((j : Int) - 1).toNat) (at_nod Ld ((j : Int)).toNat)))) (sk5 0 1 2 3 8 rfl rfl rfl rfl rfl (sk1 9 (lki rfl (by omega)) sN)) ?_ ?_
     ·exact ⟨by omega, by omega, by simp [hLd], by rw [show ((j : Int) - 1).toNat = j - 1 by omega] at d ⊢; exact (insf_yes (by omega) d).symm.trans hTj, (Only.trans (Only.trans (Only.trans (Only.trans (Only.refl _ _) hx2 (fun _ hb_ => .inl hb_)) hx19 (fun _ hb_ => by cases hb_)) hx22 (fun _ hb_ => .inl hb_)) hx24 (fun _ hb_ => .inl hb_)), hb25⟩
     (try dsimp only)
     omega
    have hq27 : Okp nodS h21 pd (at_nod Ld ((j : Int)).toNat) := (hb2.ext hx19).okp (by first | omega | (simp; omega))
    refine LO_yld (i := 13) rfl (Y_ldrA0 (k := ((j : Int)).toNat) (us := [.int .i64 ((at_nod Ld ((j : Int)).toNat).kind), str ((at_nod Ld ((j : Int)).toNat).path), .int .i64 ((at_nod Ld ((j : Int)).toNat).mode), str ((at_nod Ld ((j : Int)).toNat).target), ((at_nod Ld ((j : Int)).toNat).dv), .int .i64 ((at_nod Ld ((j : Int)).toNat).cls)]) Tryz.underlying50 rfl (show _ = some 6 by kernel_rfl) rfl rfl ((hb2.ext hx19).rows (by first | omega | (simp [hN]; omega))) (by first | omega | (simp; omega)) rfl) rfl rfl rfl trivial ?_
    refine LH_one (i := 9) (by kernel_rfl) ?_
    have hq28 : Okp nodS h21 pd (at_nod Ld ((j : Int) - 1).toNat) := (hb2.ext hx19).okp (by first | omega | (simp; omega))
    refine LO_yld (i := 9) rfl (Y_ldrA0 (k := ((j : Int) - 1).toNat) (us := [.int .i64 ((at_nod Ld ((j : Int) - 1).toNat).kind), str ((at_nod Ld ((j : Int) - 1).toNat).path), .int .i64 ((at_nod Ld ((j : Int) - 1).toNat).mode), str ((at_nod Ld ((j : Int) - 1).toNat).target), ((at_nod Ld ((j : Int) - 1).toNat).dv), .int .i64 ((at_nod Ld ((j : Int) - 1).toNat).cls)]) Tryz.underlying50 rfl (show _ = some 6 by kernel_rfl) rfl rfl ((hb2.ext hx19).rows (by first | omega | (simp [hN]; omega))) (by first | omega | (simp; omega)) rfl) rfl rfl rfl trivial ?_
    refine LH_take (i := 14) rfl (fun h_ hI_ => Y_idxB Tryz.underlying22 (show _ = some 6 by kernel_rfl) rfl rfl (by first | omega | (simp; omega)) (by first | omega | (simp; omega))) rfl rfl rfl (by kernel_rfl) (by kernel_rfl) (by kernel_rfl) (fun _ _ _ => by rintro ⟨_, _, h_, _⟩; cases h_) trivial ?_
    refine LH_one (i := 15) (by kernel_rfl) ?_
    refine LO_dos (i := 15) rfl (D_rsetA (S := nodS) (us := [.int .i64 ((at_nod Ld ((j : Int) - 1).toNat).kind), str ((at_nod Ld ((j : Int) - 1).toNat).path), .int .i64 ((at_nod Ld ((j : Int) - 1).toNat).mode), str ((at_nod Ld ((j : Int) - 1).toNat).target), ((at_nod Ld ((j : Int) - 1).toNat).dv), .int .i64 ((at_nod Ld ((j : Int) - 1).toNat).cls)]) (a := (at_nod Ld ((j : Int) - 1).toNat)) (k := ((j : Int)).toNat) (show _ = some 6 by kernel_rfl) rfl rfl rfl rfl (hb2.ext hx19) (by first | omega | (simp; omega)) rfl hq28.1 hq28.2 hpB) rfl rfl ?_
    rintro h24 ⟨hx29, -, hb30⟩
    refine ⟨trivial, ?_⟩
    refine LH_take (i := 16) rfl (fun h_ hI_ => Y_idxB Tryz.underlying22 (show _ = some 6 by kernel_rfl) rfl rfl (by first | omega | (simp; omega)) (by first | omega | (simp; omega))) rfl rfl rfl (by kernel_rfl) (by kernel_rfl) (by kernel_rfl) (fun _ _ _ => by rintro ⟨_, _, h_, _⟩; cases h_) trivial ?_
    refine LH_one (i := 17) (by kernel_rfl) ?_
    have hc33 := (hq27.only hx29 hpB)
    refine LO_dos (i := 17) rfl (D_rsetA (S := nodS) (us := [.int .i64 ((at_nod Ld ((j : Int)).toNat).kind), str ((at_nod Ld ((j : Int)).toNat).path), .int .i64 ((at_nod Ld ((j : Int)).toNat).mode), str ((at_nod Ld ((j : Int)).toNat).target), ((at_nod Ld ((j : Int)).toNat).dv), .int .i64 ((at_nod Ld ((j : Int)).toNat).cls)]) (a := (at_nod Ld ((j : Int)).toNat)) (k := ((j : Int) - 1).toNat) (show _ = some 6 by kernel_rfl) rfl rfl rfl rfl hb30 (by first | omega | (simp; omega)) rfl hc33.1 hc33.2 hpB) rfl rfl ?_
    rintro h25 ⟨hx31, -, hb32⟩
    refine ⟨trivial, ?_⟩
    refine LH_done (by kernel_rfl) ?_
    refine X_block (X_then ?_)
    refine W_sub _ (tk6 0 1 2 3 8 9) ?_
    refine W_region ?_
    refine Mv ?_
    refine Ly (Y_sub rfl rfl (by omega) (by omega)) ?_
    refine Av ?_
    refine L_nil ?_
    refine X_loop ((j - 1, ((Ld.set (((j : Int)).toNat) (at_nod Ld ((j : Int) - 1).toNat)).set (((j : Int) - 1).toNat) (at_nod Ld ((j : Int)).toNat)))) (sk5 0 1 2 3 8 rfl rfl rfl rfl rfl (sk1 9 (lki rfl (by omega)) sN)) ?_ ?_
    ·exact ⟨by omega, by omega, by simp [hLd], by rw [show ((j : Int) - 1).toNat = j - 1 by omega] at d ⊢; exact (insf_yes (by omega) d).symm.trans hTj, (Only.trans (Only.trans (Only.trans (Only.trans (Only.refl _ _) hx2 (fun _ hb_ => .inl hb_)) hx19 (fun _ hb_ => by cases hb_)) hx29 (fun _ hb_ => .inl hb_)) hx31 (fun _ hb_ => .inl hb_)), hb32⟩
    (try dsimp only)
    omega
   refine W_exit ?_
   refine X_then_exit (X_then_exit ?_)
   refine X_block_hit ?_
   refine X_block (X_then ?_)
   refine W_sub _ (tk5 0 1 2 3 8) ?_
   refine W_region ?_
   refine Mv ?_
   refine Ly (Y_add rfl rfl (by omega) (by omega)) ?_
   refine Av ?_
   refine L_nil ?_
   refine X_loop ((i + 1, Ld)) (tk5 0 1 2 3 8) ?_ ?_
   ·exact ⟨by omega, hLd, by rw [show ((j : Int) - 1).toNat = j - 1 by omega] at d; have e := insf_no (a := a.toNat) (j := j) (L := Ld) (fun q => d q.2); have e2 := (iso_step (a := a.toNat) (i := i) (L := Lc) (n := b.toNat - i) (by omega)).symm.trans hT; rw [← hTj, e] at e2; rw [show b.toNat - (i + 1) = b.toNat - i - 1 by omega]; exact e2, (Only.trans (Only.trans (Only.refl _ _) hx2 (fun _ hb_ => .inl hb_)) hx19 (fun _ hb_ => by cases hb_)), (hb2.ext hx19)⟩
   (try dsimp only)
   omega
  refine W_pers [(0, .slice (some ⟨B, 0, none⟩) N N), (1, .int .i64 (a)), (2, .int .i64 (b)), (3, .func (.func 33) #[] #[]), (8, .int .i64 ((i : Int))), (9, .int .i64 ((j : Int)))] (tk6 0 1 2 3 8 9) (by kernel_rfl) ?_
  refine LP_op 0 (fun _ vv => .int .i64 ((j : Int)) = vv) [] rfl rfl (by kernel_rfl) (fun _ _ _ _ p => p) ?_ ?_
  ·intro h26 hx34
   refine Needs_nil ?_
   refine Stp_yld (Y_move rfl) rfl ?_
   exact rfl
  refine LP_op 1 (fun _ vv => .int .i64 (a) = vv) [] rfl rfl (by kernel_rfl) (fun _ _ _ _ p => p) ?_ ?_
  ·intro h27 hx35
   refine Needs_nil ?_
   refine Stp_yld (Y_move rfl) rfl ?_
   exact rfl
  refine LP_op 2 (fun _ vv => .bool (decide (a < (j : Int))) = vv) [(0, 18), (1, 19)] rfl rfl (by kernel_rfl) (fun _ _ _ _ p => p) ?_ ?_
  ·intro h28 hx36
   rintro _ rfl
   rintro _ rfl
   refine Needs_nil ?_
   refine Stp_yld (Y_gtr rfl rfl) rfl ?_
   exact rfl
  refine LP_op 3 (fun _ vv => .bool false = vv) [(2, 20)] rfl rfl (by kernel_rfl) (fun _ _ _ _ p => p) ?_ ?_
  ·intro h29 hx37
   rintro _ rfl
   refine Needs_nil ?_
   refine Stp_yld (Y_move rfl) rfl ?_
   exact (congrArg Value.bool (decide_eq_false (by exact hja))).symm
  refine LP_op 4 (fun _ vv => undef = vv) [(3, 21)] rfl rfl (by kernel_rfl) (fun _ _ _ _ p => p) ?_ ?_
  ·intro h30 hx38
   rintro _ rfl
   refine Needs_nil ?_
   refine Stp_skip rfl ?_
   exact rfl
  refine LP_op 5 (fun _ vv => undef = vv) [(3, 21)] rfl rfl (by kernel_rfl) (fun _ _ _ _ p => p) ?_ ?_
  ·intro h31 hx39
   rintro _ rfl
   refine Needs_nil ?_
   refine Stp_skip rfl ?_
   exact rfl
  refine LP_op 6 (fun _ vv => undef = vv) [(3, 21)] rfl rfl (by kernel_rfl) (fun _ _ _ _ p => p) ?_ ?_
  ·intro h32 hx40
   rintro _ rfl
   refine Needs_nil ?_
   refine Stp_skip rfl ?_
   exact rfl
  refine LP_op 7 (fun _ vv => undef = vv) [(6, 24), (3, 21), (5, 23)] rfl rfl (by kernel_rfl) (fun _ _ _ _ p => p) ?_ ?_
  ·intro h33 hx41
   rintro _ rfl
   rintro _ rfl
   rintro _ rfl
   refine Needs_nil ?_
   refine Stp_skip rfl ?_
   exact rfl
  refine LP_op 8 (fun _ vv => undef = vv) [(7, 25), (3, 21)] rfl rfl (by kernel_rfl) (fun _ _ _ _ p => p) ?_ ?_
  ·intro h34 hx42
   rintro _ rfl
   rintro _ rfl
   refine Needs_nil ?_
   refine Stp_skip rfl ?_
   exact rfl
  refine LP_op 9 (fun _ vv => undef = vv) [(3, 21)] rfl rfl (by kernel_rfl) (fun _ _ _ _ p => p) ?_ ?_
  ·intro h35 hx43
   rintro _ rfl
   refine Needs_nil ?_
   refine Stp_skip rfl ?_
   exact rfl
  refine LP_op 10 (fun _ vv => undef = vv) [(3, 21)] rfl rfl (by kernel_rfl) (fun _ _ _ _ p => p) ?_ ?_
  ·intro h36 hx44
   rintro _ rfl
   refine Needs_nil ?_
   refine Stp_skip rfl ?_
   exact rfl
  refine LP_op 11 (fun _ vv => undef = vv) [(10, 28), (3, 21)] rfl rfl (by kernel_rfl) (fun _ _ _ _ p => p) ?_ ?_
  ·intro h37 hx45
   rintro _ rfl
   rintro _ rfl
   refine Needs_nil ?_
   refine Stp_skip rfl ?_
   exact rfl
  refine LP_op 12 (fun _ vv => undef = vv) [(3, 21), (9, 27), (11, 29)] rfl rfl (by kernel_rfl) (fun _ _ _ _ p => p) ?_ ?_
  ·intro h38 hx46
   rintro _ rfl
   rintro _ rfl
   rintro _ rfl
   refine Needs_nil ?_
   refine Stp_skip rfl ?_
   exact rfl
  refine LP_op 13 (fun _ vv => undef = vv) [(3, 21), (12, 30)] rfl rfl (by kernel_rfl) (fun _ _ _ _ p => p) ?_ ?_
  ·intro h39 hx47
   rintro _ rfl
   rintro _ rfl
   refine Needs_nil ?_
   refine Stp_skip rfl ?_
   exact rfl
  refine LP_op 14 (fun _ vv => undef = vv) [(8, 26), (3, 21), (4, 22), (13, 31)] rfl rfl (by kernel_rfl) (fun _ _ _ _ p => p) ?_ ?_
  ·intro h40 hx48
   rintro _ rfl
   rintro _ rfl
   rintro _ rfl
   rintro _ rfl
   refine Needs_nil ?_
   refine Stp_skip rfl ?_
   exact rfl
  refine LP_op 15 (fun _ vv => undef = vv) [(14, 32), (3, 21)] rfl rfl (by kernel_rfl) (fun _ _ _ _ p => p) ?_ ?_
  ·intro h41 hx49
   rintro _ rfl
   rintro _ rfl
   refine Needs_nil ?_
   refine Stp_skip rfl ?_
   exact rfl
  refine LP_op 16 (fun _ vv => .bool false = vv) [(15, 33), (3, 21)] rfl rfl (by kernel_rfl) (fun _ _ _ _ p => p) ?_ ?_
  ·intro h42 hx50
   rintro _ rfl
   rintro _ rfl
   refine Needs_nil ?_
   refine Stp_yld (Y_pick_f rfl rfl) rfl ?_
   exact rfl
  refine LP_end [(16, 34)] rfl (by kernel_rfl) rfl ?_
  intro h43 hx51
  rintro _ rfl
  refine Needs_nil ?_
  refine X_then ?_
  refine W_false rfl ?_
  refine W_exit ?_
  refine X_then_exit (X_then_exit ?_)
  refine X_block_hit ?_
  refine X_block (X_then ?_)
  refine W_sub _ (tk5 0 1 2 3 8) ?_
  refine W_region ?_
  refine Mv ?_
  refine Ly (Y_add rfl rfl (by omega) (by omega)) ?_
  refine Av ?_
  refine L_nil ?_
  refine X_loop ((i + 1, Ld)) (tk5 0 1 2 3 8) ?_ ?_
  ·exact ⟨by omega, hLd, by have e := insf_no (a := a.toNat) (j := j) (L := Ld) (fun q => hja (by omega)); have e2 := (iso_step (a := a.toNat) (i := i) (L := Lc) (n := b.toNat - i) (by omega)).symm.trans hT; rw [← hTj, e] at e2; rw [show b.toNat - (i + 1) = b.toNat - i - 1 by omega]; exact e2, (Only.trans (Only.trans (Only.refl _ _) hx2 (fun _ hb_ => .inl hb_)) hx51 (fun _ hb_ => by cases hb_)), (hb2.ext hx51)⟩
  (try dsimp only)
  omega
 refine W_exit ?_
 refine X_then_exit (X_then_exit ?_)
 refine X_block_hit ?_
 refine X_end ?_
 refine X_end0 rfl ?_
 refine ⟨rfl, (Only.trans (Only.refl _ _) hx (fun _ hb_ => .inl hb_)), RBuf.congr hb1 ?_⟩
 rw [← hT, show b.toNat - i = 0 by omega]; rfl

end Go.Xp

/- The library's stable sort of nodes: what it computes is the stable insertion into a sorted list: plain. -/
set_option linter.unusedSimpArgs false
set_option linter.unusedVariables false
set_option linter.unusedSectionVars false
namespace Go.Xp

/-- A node is put behind all that are not greater. -/
def nin (x : Nod) : List Nod → List Nod
  | [] => [x]
  | y :: l => if nlt x y then x :: y :: l else y :: nin x l
def srt (L : List Nod) : List Nod := L.foldl (fun S x => nin x S) []
def Asc (L : List Nod) : Prop := L.Pairwise (fun x y => ¬ nlt y x)

theorem nlt_iff {x y : Nod} : nlt x y ↔ Op.bytesLess x.path y.path = true := by
  unfold nlt
  rcases pcmp_cases x.path y.path with ⟨h1, h2⟩ | ⟨h1, h2⟩ | ⟨h1, h2⟩
  · rw [h1]; exact ⟨fun _ => h2, fun _ => by decide⟩
  · rw [h1, h2, less_irrefl]; exact ⟨fun q => absurd q (by decide), fun q => by cases q⟩
  · rw [h1, less_asymm h2]; exact ⟨fun q => absurd q (by decide), fun q => by cases q⟩
theorem nlt_trans {x y z : Nod} (h1 : nlt x y) (h2 : nlt y z) : nlt x z := by
  rw [nlt_iff] at *
  exact less_trans h1 h2
theorem nlt_nle {x y : Nod} (h : nlt x y) : ¬ nlt y x := by
  rw [nlt_iff] at *
  rw [less_asymm h]; exact fun q => by cases q
theorem nlt_cases (x y : Nod) : nlt x y ∨ x.path = y.path ∨ nlt y x := by
  simp only [nlt_iff]
  rcases pcmp_cases x.path y.path with ⟨h1, h2⟩ | ⟨h1, h2⟩ | ⟨h1, h2⟩
  · exact .inl h2
  · exact .inr (.inl h2)
  · exact .inr (.inr h2)
/-- x < y and y ≤ z. -/
theorem nlt_neg {x y z : Nod} (h1 : nlt x y) (h2 : ¬ nlt z y) : nlt x z := by
  rcases nlt_cases y z with h | h | h
  · exact nlt_trans h1 h
  · rw [nlt_iff] at *; rw [← h]; exact h1
  · exact absurd h h2
/-- x ≤ y and y < z. -/
theorem nlt_neg2 {x y z : Nod} (h1 : ¬ nlt y x) (h2 : nlt y z) : nlt x z := by
  rcases nlt_cases x y with h | h | h
  · exact nlt_trans h h2
  · rw [nlt_iff] at *; rw [h]; exact h2
  · exact absurd h h1
theorem nle_trans {x y z : Nod} (h1 : ¬ nlt y x) (h2 : ¬ nlt z y) : ¬ nlt z x := fun h => h2 (nlt_neg h h1)

theorem nin_lt {x y : Nod} {l : List Nod} (h : nlt x y) : nin x (y :: l) = x :: y :: l := by unfold nin; rw [if_pos h]
theorem nin_ge {x y : Nod} {l : List Nod} (h : ¬ nlt x y) : nin x (y :: l) = y :: nin x l := by
  conv => lhs; unfold nin
  rw [if_neg h]
theorem list_snoc {P : List Nod → Prop} (h0 : P []) (h1 : ∀ l x, P l → P (l ++ [x])) (l : List Nod) : P l := by
  have : ∀ r : List Nod, P r.reverse := fun r => by
    induction r with
    | nil => exact h0
    | cons x r ih => rw [List.reverse_cons]; exact h1 _ x ih
  have := this l.reverse
  rwa [List.reverse_reverse] at this
theorem nin_snoc {x s : Nod} (h : nlt x s) : ∀ l : List Nod, nin x (l ++ [s]) = nin x l ++ [s]
  | [] => by rw [List.nil_append, nin_lt h]; rfl
  | y :: l => by
    by_cases h1 : nlt x y
    · rw [List.cons_append, nin_lt h1, nin_lt h1]; rfl
    · rw [List.cons_append, nin_ge h1, nin_ge h1, nin_snoc h l]; rfl
theorem nin_end {x : Nod} : ∀ {l : List Nod}, (∀ y ∈ l, ¬ nlt x y) → nin x l = l ++ [x]
  | [], _ => rfl
  | y :: l, h => by rw [nin_ge (h y (by simp)), nin_end (fun z hz => h z (by simp [hz]))]; rfl
theorem nin_len (x : Nod) : ∀ l : List Nod, (nin x l).length = l.length + 1
  | [] => rfl
  | y :: l => by
    by_cases h1 : nlt x y
    · rw [nin_lt h1]; rfl
    · rw [nin_ge h1]; simp [nin_len x l]
theorem nin_mem (x : Nod) : ∀ (l : List Nod) (z : Nod), z ∈ nin x l ↔ z = x ∨ z ∈ l
  | [], z => by simp [nin]
  | y :: l, z => by
    by_cases h1 : nlt x y
    · rw [nin_lt h1]; simp
    · rw [nin_ge h1, List.mem_cons, nin_mem x l z, List.mem_cons]
      constructor
      · rintro (h | h | h)
        · exact .inr (.inl h)
        · exact .inl h
        · exact .inr (.inr h)
      · rintro (h | h | h)
        · exact .inr (.inl h)
        · exact .inl h
        · exact .inr (.inr h)
theorem nin_asc (x : Nod) : ∀ {l : List Nod}, Asc l → Asc (nin x l)
  | [], _ => by simp [nin, Asc]
  | y :: l, h => by
    obtain ⟨h1, h2⟩ := List.pairwise_cons.1 h
    by_cases hx : nlt x y
    · rw [nin_lt hx]
      refine List.pairwise_cons.2 ⟨fun z hz => ?_, h⟩
      rcases List.mem_cons.1 hz with rfl | hz
      · exact nlt_nle hx
      · exact nle_trans (nlt_nle hx) (h1 z hz)
    · rw [nin_ge hx]
      refine List.pairwise_cons.2 ⟨fun z hz => ?_, nin_asc x h2⟩
      rcases (nin_mem x l z).1 hz with rfl | hz
      · exact hx
      · exact h1 z hz
theorem foldnin_asc : ∀ (L S : List Nod), Asc S → Asc (L.foldl (fun S x => nin x S) S)
  | [], S, h => h
  | x :: L, S, h => foldnin_asc L _ (nin_asc x h)
theorem srt_asc (L : List Nod) : Asc (srt L) := foldnin_asc L [] List.Pairwise.nil
theorem foldnin_len : ∀ (L S : List Nod), (L.foldl (fun S x => nin x S) S).length = S.length + L.length
  | [], S => rfl
  | x :: L, S => by rw [List.foldl_cons, foldnin_len L, nin_len]; simp; omega
@[simp] theorem srt_len (L : List Nod) : (srt L).length = L.length := by unfold srt; rw [foldnin_len]; simp
theorem foldnin_mem : ∀ (L S : List Nod) (z : Nod), z ∈ L.foldl (fun S x => nin x S) S ↔ z ∈ S ∨ z ∈ L
  | [], S, z => by simp
  | x :: L, S, z => by
    rw [List.foldl_cons, foldnin_mem L, nin_mem, List.mem_cons]
    constructor
    · rintro ((h | h) | h)
      · exact .inr (.inl h)
      · exact .inl h
      · exact .inr (.inr h)
    · rintro (h | h | h)
      · exact .inl (.inr h)
      · exact .inl (.inl h)
      · exact .inr h
theorem srt_mem (L : List Nod) (z : Nod) : z ∈ srt L ↔ z ∈ L := by unfold srt; rw [foldnin_mem]; simp
theorem at_app (A : List Nod) (x : Nod) (C : List Nod) : at_nod (A ++ x :: C) A.length = x := by
  unfold at_nod
  rw [List.getD_eq_getElem?_getD, List.getElem?_append_right (Nat.le_refl _)]; simp
theorem set_app (A : List Nod) (x y : Nod) (C : List Nod) : (A ++ x :: C).set A.length y = A ++ y :: C := by
  rw [List.set_append_right _ _ (Nat.le_refl _)]; simp
theorem swp_app (A M C : List Nod) (x y : Nod) {i j : Nat} (hi : i = A.length) (hj : j = A.length + 1 + M.length) : swp (A ++ x :: (M ++ y :: C)) i j = A ++ y :: (M ++ x :: C) := by
  subst hi; subst hj
  have e : ∀ a b : Nod, A ++ a :: (M ++ b :: C) = (A ++ a :: M) ++ b :: C := fun a b => by simp
  have l1 : ∀ a : Nod, (A ++ a :: M).length = A.length + 1 + M.length := fun a => by simp; omega
  unfold swp
  rw [at_app]
  have h1 : at_nod (A ++ x :: (M ++ y :: C)) (A.length + 1 + M.length) = y := by rw [e, ← l1 x, at_app]
  rw [h1, set_app, e y y, ← l1 y, set_app, e y x]
theorem swp_comm (L : List Nod) {i j : Nat} (h : i ≠ j) : swp L i j = swp L j i := by
  unfold swp
  rw [List.set_comm _ _ h]
theorem insf_app (A : List Nod) {a : Nat} (ha : a = A.length) : ∀ (S : List Nod) (x : Nod) (C : List Nod) {j : Nat}, Asc S → j = A.length + S.length → insf a j (A ++ (S ++ x :: C)) = A ++ (nin x S ++ C) := by
  intro S
  induction S using list_snoc with
  | h0 =>
    intro x C j hS hj
    rw [insf_no (fun q => by simp at hj; omega)]; rfl
  | h1 S s ih =>
    intro x C j hS hj
    simp at hj
    have hS' : Asc S := (List.pairwise_append.1 hS).1
    have e1 : at_nod (A ++ (S ++ [s] ++ x :: C)) j = x := by
      have := at_app (A ++ (S ++ [s])) x C
      simp at this
      rw [hj]; simpa using this
    have e2 : at_nod (A ++ (S ++ [s] ++ x :: C)) (j - 1) = s := by
      have := at_app (A ++ S) s (x :: C)
      simp at this
      rw [show j - 1 = A.length + S.length by omega]; simpa using this
    by_cases h : nlt x s
    · rw [insf_yes (by omega) (by rw [e1, e2]; exact h)]
      have := swp_app (A ++ S) [] C s x (i := j - 1) (j := j) (by simp; omega) (by simp; omega)
      simp only [List.append_assoc, List.cons_append, List.nil_append] at this ⊢
      rw [swp_comm _ (by omega), this, ih x (s :: C) hS' (by omega), nin_snoc h]
      simp
    · rw [insf_no (by rw [e1, e2]; exact fun q => h q.2), nin_end (fun y hy => ?_)]
      · simp
      · rcases List.mem_append.1 hy with hy | hy
        · exact nle_trans ((List.pairwise_append.1 hS).2.2 y hy s (by simp)) h
        · simp at hy; subst hy; exact h
theorem iso_app (A : List Nod) {a : Nat} (ha : a = A.length) : ∀ (Y S C : List Nod) {i n : Nat}, Asc S → i = A.length + S.length → n = Y.length → iso a i n (A ++ (S ++ (Y ++ C))) = A ++ (Y.foldl (fun S x => nin x S) S ++ C)
  | [], S, C, i, n, hS, hi, hn => by subst hn; rfl
  | y :: Y, S, C, i, n, hS, hi, hn => by
    subst hn
    show iso a (i + 1) Y.length (insf a i (A ++ (S ++ (y :: (Y ++ C))))) = _
    rw [insf_app A ha S y (Y ++ C) hS hi, iso_app A ha Y (nin y S) C (nin_asc y hS) (by rw [nin_len]; omega) rfl]
    rfl
theorem isort_app (A X C : List Nod) {a b : Nat} (ha : a = A.length) (hb : b = A.length + X.length) : isort (A ++ (X ++ C)) a b = A ++ (srt X ++ C) := by
  cases X with
  | nil =>
    unfold isort
    simp at hb
    rw [show b - (a + 1) = 0 by omega]; rfl
  | cons x X =>
    unfold isort
    have := iso_app A ha X [x] C (i := a + 1) (n := b - (a + 1)) (List.pairwise_singleton _ _) (by simp; omega) (by simp at hb; omega)
    exact this
theorem at_add (A B : List Nod) {i k : Nat} (h : i = A.length + k) : at_nod (A ++ B) i = at_nod B k := by
  subst h
  unfold at_nod
  rw [List.getD_eq_getElem?_getD, List.getElem?_append_right (by omega), Nat.add_sub_cancel_left, List.getD_eq_getElem?_getD]
theorem at_lt (X Z : List Nod) {k : Nat} (h : k < X.length) : at_nod (X ++ Z) k = at_nod X k := by
  unfold at_nod
  rw [List.getD_eq_getElem?_getD, List.getElem?_append_left h, List.getD_eq_getElem?_getD]
theorem asc_at {X : List Nod} (h : Asc X) {i j : Nat} (hi : i ≤ j) (hj : j < X.length) : ¬ nlt (at_nod X j) (at_nod X i) := by
  by_cases e : i = j
  · subst e; exact fun q => nlt_nle q q
  · have := List.pairwise_iff_getElem.1 h i j (by omega) hj (by omega)
    unfold at_nod
    rw [List.getD_eq_getElem?_getD, List.getElem?_eq_getElem hj, List.getD_eq_getElem?_getD, List.getElem?_eq_getElem (show i < X.length by omega)]
    exact this
theorem mem_take_at {X : List Nod} {k : Nat} {x : Nod} (h : x ∈ X.take k) : ∃ i, i < k ∧ i < X.length ∧ at_nod X i = x := by
  obtain ⟨i, hi, rfl⟩ := List.getElem_of_mem h
  rw [List.length_take] at hi
  refine ⟨i, by omega, by omega, ?_⟩
  unfold at_nod
  rw [List.getD_eq_getElem?_getD, List.getElem?_eq_getElem (show i < X.length by omega), List.getElem_take]; rfl
theorem mem_drop_at {X : List Nod} {k : Nat} {x : Nod} (h : x ∈ X.drop k) : ∃ i, k ≤ i ∧ i < X.length ∧ at_nod X i = x := by
  obtain ⟨i, hi, rfl⟩ := List.getElem_of_mem h
  rw [List.length_drop] at hi
  refine ⟨k + i, by omega, by omega, ?_⟩
  unfold at_nod
  rw [List.getD_eq_getElem?_getD, List.getElem?_eq_getElem (show k + i < X.length by omega), List.getElem_drop]; rfl
theorem srt_nil : srt [] = [] := rfl
/-- Sorted in blocks of k. -/
def bks (k : Nat) (L : List Nod) : List Nod := if h : k = 0 ∨ L.length ≤ k then srt L else srt (L.take k) ++ bks k (L.drop k)
termination_by L.length
decreasing_by rw [List.length_drop]; omega
theorem bks_end {k : Nat} {L : List Nod} (h : L.length ≤ k) : bks k L = srt L := by unfold bks; rw [dif_pos (.inr h)]
theorem bks_step {k : Nat} {L : List Nod} (h0 : 0 < k) (h : k ≤ L.length) : bks k L = srt (L.take k) ++ bks k (L.drop k) := by
  by_cases h1 : L.length ≤ k
  · have e : k = L.length := by omega
    rw [bks_end h1, bks_end (by rw [List.length_drop]; omega), e, List.take_length, List.drop_length, srt_nil, List.append_nil]
  · conv => lhs; unfold bks
    rw [dif_neg (by omega)]
theorem bks_len {k : Nat} : ∀ (n : Nat) (L : List Nod), L.length ≤ n → (bks k L).length = L.length
  | 0, L, h => by rw [bks_end (by omega), srt_len]
  | n + 1, L, h => by
    by_cases h0 : 0 < k ∧ k ≤ L.length
    · rw [bks_step h0.1 h0.2, List.length_append, srt_len, bks_len n _ (by rw [List.length_drop]; omega), ← List.length_append, List.take_append_drop]
    · unfold bks; rw [dif_pos (by omega), srt_len]
def Sti (L : List Nod) (a : Nat) (M : List Nod) : Prop := ∃ P, M = P ++ L.drop a ∧ P.length = a ∧ bks 20 L = P ++ bks 20 (L.drop a)
theorem sti_0 (L : List Nod) : Sti L 0 L := ⟨[], rfl, rfl, rfl⟩
theorem sti_step {L M : List Nod} {a : Nat} (x : Sti L a M) (h : a + 20 ≤ L.length) : Sti L (a + 20) (isort M a (a + 20)) := by
  obtain ⟨P, rfl, hP, hB⟩ := x
  have e : L.drop a = (L.drop a).take 20 ++ L.drop (a + 20) := by rw [← List.drop_drop, List.take_append_drop]
  have l1 : ((L.drop a).take 20).length = 20 := by rw [List.length_take, List.length_drop]; omega
  refine ⟨P ++ srt ((L.drop a).take 20), ?_, by rw [List.length_append, srt_len, l1, hP], ?_⟩
  · rw [e, isort_app P _ _ hP.symm (by rw [l1, hP]), ← e, List.append_assoc]
  · rw [hB, bks_step (k := 20) (by omega) (by rw [List.length_drop]; omega), List.drop_drop, List.append_assoc]
theorem sti_end {L M : List Nod} {a : Nat} (x : Sti L a M) (h : L.length ≤ a + 20) (h2 : a ≤ L.length) : isort M a L.length = bks 20 L := by
  obtain ⟨P, rfl, hP, hB⟩ := x
  have := isort_app P (L.drop a) [] (a := a) (b := L.length) hP.symm (by rw [List.length_drop]; omega)
  rw [List.append_nil, List.append_nil] at this
  rw [this, hB, bks_end (k := 20) (by rw [List.length_drop]; omega)]
end Go.Xp

/- The library's stable sort of nodes, whole: what it leaves is the list sorted by insertion. -/
set_option linter.unusedSimpArgs false
set_option linter.unusedVariables false
set_option linter.unusedSectionVars false
namespace Go.Xp
open Go.Proofs

set_option maxRecDepth 100000 in
theorem sort_stable (h : Heap) (B : Nat) (N : Nat) (L : List Nod) (pd : Nat → Prop) (hb : RBuf nodS h B pd L) (n : Int) (hpB : ¬ pd B) (hN : N = L.length) (hm : L.length ≤ 20) (hn : n = L.length) : Cal Tryz.prog 52 #[.slice (some ⟨B, 0, none⟩) N N, .int .i64 (n), .func (.func 33) #[] #[]] h (fun v h' => v = .tuple #[] ∧ Only [B] h h' ∧ RBuf nodS h' B pd (srt L)) := by
 refine Cal_enter (args := [.slice (some ⟨B, 0, none⟩) N N, .int .i64 (n), .func (.func 33) #[] #[]]) Tryz.func52 rfl rfl rfl (fun σ => ?_)
 refine Wr ?_
 refine Av ?_
 refine L_nil (X_then (W_seq (W_region ?_)))
 refine Mv ?_
 refine Av ?_
 refine Av ?_
 refine Nx ?_
 refine W_sub _ (tk6 8 7 6 0 1 2) ?_
 refine W_seq (W_block ?_)
 refine W_loop (S := Nat × List Nod) (fun (a, Lc) => [(6, .int .i64 20), (0, .slice (some ⟨B, 0, none⟩) N N), (1, .int .i64 (n)), (2, .func (.func 33) #[] #[]), (7, .int .i64 ((a : Int))), (8, .int .i64 ((a : Int) + 20))]) (fun (a, Lc) h' => (a : Int) ≤ n ∧ Lc.length = L.length ∧ Sti L a Lc ∧ Only [B] h h' ∧ RBuf nodS h' B pd Lc) (fun (a, Lc) => n.toNat - a) (0, L) (sk4 6 0 1 2 rfl rfl rfl rfl (sk1 7 (lki rfl (by omega)) (sk1 8 (lki rfl (by omega)) sN))) ?_ ?_
 ·exact ⟨by omega, rfl, sti_0 L, (Only.refl _ _), hb⟩
 rintro ⟨a, Lc⟩ h1 ⟨ha, hLl, hT, hx, hb1⟩
 show W _ _ _ _ _ [(6, .int .i64 20), (0, .slice (some ⟨B, 0, none⟩) N N), (1, .int .i64 (n)), (2, .func (.func 33) #[] #[]), (7, .int .i64 ((a : Int))), (8, .int .i64 ((a : Int) + 20))] _
 refine W_seq (W_seq (W_region ?_))
 refine Mv ?_
 refine Mv ?_
 refine Ly (Y_leq rfl rfl) ?_
 refine Nx ?_
 refine W_sub _ (tk7 13 6 0 1 2 7 8) ?_
 refine W_splitd rfl (fun c => ?_) (fun c => ?_)
 ·refine Ws ?_
  refine W_sub _ (tk6 6 0 1 2 7 8) ?_
  refine W_block (W_seq (W_region ?_))
  refine Mv ?_
  refine Mv ?_
  refine Mv ?_
  refine Mv ?_
  refine L_call (E_call (by kernel_rfl) rfl) (sort_insertion _ B N Lc pd hb1 (a : Int) ((a : Int) + 20) (by first | first | omega | (simp; omega) | rfl | (simp <;> omega)) (by first | first | omega | (simp; omega) | rfl | (simp <;> omega)) (by first | first | omega | (simp; omega) | rfl | (simp <;> omega)) (by first | first | omega | (simp; omega) | rfl | (simp <;> omega)) (by first | first | omega | (simp; omega) | rfl | (simp <;> omega)) (by first | first | omega | (simp; omega) | rfl | (simp <;> omega))) rfl rfl rfl ?_
  rintro _ h2 ⟨rfl, hx1, hb2⟩
  refine Nx ?_
  refine W_sub _ (tk6 6 0 1 2 7 8) ?_
  refine Wr ?_
  refine Mv ?_
  refine Av ?_
  refine Nx ?_
  refine W_sub _ (tk6 7 6 0 1 2 8) ?_
  refine W_region ?_
  refine Mv ?_
  refine Mv ?_
  refine Ly (Y_add rfl rfl (by first | omega | (simp; omega)) (by first | omega | (simp; omega))) ?_
  refine Av ?_
  refine L_nil (X_block ?_)
  refine X_loop ((a + 20, (isort Lc (a : Int).toNat ((a : Int) + 20).toNat))) (sk4 6 0 1 2 rfl rfl rfl rfl (sk1 7 (lki rfl (by omega)) (sk1 8 (lki rfl (by omega)) sN))) ?_ ?_
  ·exact ⟨by omega, by simp [hLl], by rw [show ((a : Int) + 20).toNat = a + 20 by omega]; exact sti_step hT (by omega), (Only.trans (Only.trans (Only.refl _ _) hx (fun _ hb_ => .inl hb_)) hx1 (fun _ hb_ => .inl hb_)), hb2⟩
  (try dsimp only)
  omega
 refine W_exit ?_
 refine X_then_exit (X_then_exit ?_)
 refine X_block_hit ?_
 refine X_then ?_
 refine W_sub _ (tk6 6 0 1 2 7 8) ?_
 refine Wr ?_
 refine Mv ?_
 refine Mv ?_
 refine Mv ?_
 refine Mv ?_
 refine L_call (E_call (by kernel_rfl) rfl) (sort_insertion _ B N Lc pd hb1 (a : Int) n (by first | first | omega | (simp; omega) | rfl | (simp <;> omega)) (by first | first | omega | (simp; omega) | rfl | (simp <;> omega)) (by first | first | omega | (simp; omega) | rfl | (simp <;> omega)) (by first | first | omega | (simp; omega) | rfl | (simp <;> omega)) (by first | first | omega | (simp; omega) | rfl | (simp <;> omega)) (by first | first | omega | (simp; omega) | rfl | (simp <;> omega))) rfl rfl rfl ?_
 rintro _ h3 ⟨rfl, hx3, hb4⟩
 refine Nx ?_
 refine W_sub _ (tk6 6 0 1 2 7 8) ?_
 refine W_block ?_
 refine W_loop (S := Unit) (fun u9 => [(0, .slice (some ⟨B, 0, none⟩) N N), (1, .int .i64 (n)), (2, .func (.func 33) #[] #[]), (6, .int .i64 20)]) (fun u9 h' => Only [B] h h' ∧ RBuf nodS h' B pd (bks 20 L)) (fun u9 => 0) () (tk4 0 1 2 6) ?_ ?_
 ·exact ⟨(Only.trans (Only.trans (Only.refl _ _) hx (fun _ hb_ => .inl hb_)) hx3 (fun _ hb_ => .inl hb_)), RBuf.congr hb4 (by rw [hn]; exact sti_end hT (by omega) (by omega))⟩
 rintro u9 h4 ⟨hx2, hb2⟩
 show W _ _ _ _ _ [(0, .slice (some ⟨B, 0, none⟩) N N), (1, .int .i64 (n)), (2, .func (.func 33) #[] #[]), (6, .int .i64 20)] _
 refine W_seq (W_seq (W_region ?_))
 refine Mv ?_
 refine Mv ?_
 refine Ly (Y_lss rfl rfl) ?_
 refine Nx ?_
 refine W_sub _ (tk5 30 0 1 2 6) ?_
 refine W_known false rfl (by exact decide_eq_false (by omega)) ?_
 refine W_exit ?_
 refine X_then_exit (X_then_exit ?_)
 refine X_block_hit ?_
 refine X_end ?_
 refine X_end0 rfl ?_
 exact ⟨rfl, (Only.trans (Only.refl _ _) hx2 (fun _ hb_ => .inl hb_)), RBuf.congr hb2 (bks_end (by omega))⟩

set_option maxRecDepth 100000 in
theorem sort_SortStable (h : Heap) (B : Nat) (N : Nat) (L : List Nod) (pd : Nat → Prop) (hb : RBuf nodS h B pd L) (hpB : ¬ pd B) (hN : N = L.length) (hm : L.length ≤ 20) : Cal Tryz.prog 32 #[.slice (some ⟨B, 0, none⟩) N N, .func (.func 33) #[] #[]] h (fun v h' => v = .tuple #[] ∧ Only [B] h h' ∧ RBuf nodS h' B pd (srt L)) := by
 refine Cal_enter (args := [.slice (some ⟨B, 0, none⟩) N N, .func (.func 33) #[] #[]]) Tryz.func32 rfl rfl rfl (fun σ => ?_)
 refine W_region ?_
 refine Mv ?_
 refine Mv ?_
 refine Ly (Y_lenr Tryz.underlying22 rfl (hb.rows (by first | omega | (simp; omega) | (simp; done)))) ?_
 refine Mv ?_
 refine L_call (E_call (by kernel_rfl) rfl) (sort_stable _ B N L pd hb (L.length : Int) (by first | omega | rfl | (simp <;> omega)) (by first | omega | rfl | (simp <;> omega)) (by first | omega | rfl | (simp <;> omega)) (by first | omega | rfl | (simp <;> omega))) rfl rfl rfl ?_
 rintro _ h1 ⟨rfl, hx1, hb2⟩
 refine L_nil ?_
 refine X_end ?_
 refine X_end0 rfl ?_
 exact ⟨rfl, (Only.trans (Only.refl _ _) hx1 (fun _ hb_ => .inl hb_)), hb2⟩
end Go.Xp
