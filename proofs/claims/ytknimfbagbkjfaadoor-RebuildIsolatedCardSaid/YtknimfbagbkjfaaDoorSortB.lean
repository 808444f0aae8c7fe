/- The library's stable sort of nodes: the merge in place: what the code does, step by step. -/
import Derived.Test.YtknimfbagbkjfaaDoorSortA
set_option linter.unusedSimpArgs false
set_option linter.unusedVariables false
set_option linter.unusedSectionVars false
namespace Go.Xp
open Go.Proofs

section
variable {P : Program} {n : Nat} {e : Env} {h : Heap} {d : Option Tmp} {t : TypeId} {pos : String} {af : Array Edge} {g : Option (Nat × Bool)}
variable {T T' : TypeId} {x y : Operand} {k' : IntKind} {p q : Int}
theorem Y_shru (hx : ev e x = some (.int .u64 p)) (hy : ev e y = some (.int k' q)) (hq : 0 ≤ q) (hq' : q ≤ 64) : Yld P n e h ⟨d, .binOp .shr T x y T', t, pos, af, g⟩ (.int .u64 (p / 2 ^ q.toNat)) := by
  have := Y_shrw (P := P) (n := n) (h := h) (d := d) (t := t) (pos := pos) (af := af) (g := g) (T := T) (T' := T') hx hy hq
  rw [Nat.min_eq_left (show q.toNat ≤ IntKind.u64.bits by show q.toNat ≤ 64; omega), Int.fdiv_eq_ediv_of_nonneg p (Int.le_of_lt (Int.pow_pos (by decide)))] at this
  exact this
end
theorem half_eq (i j : Nat) : ((i : Int) + (j : Int)) / 2 ^ (Int.toNat 1) = (((i + j) / 2 : Nat) : Int) := by
  show ((i : Int) + (j : Int)) / 2 = _
  omega
/-- Where the binary search ends. -/
def bsr (p : Nat → Bool) : Nat → Nat → Nat → Nat
  | 0, i, _ => i
  | f + 1, i, j => if i < j then (if p ((i + j) / 2) = true then bsr p f ((i + j) / 2 + 1) j else bsr p f i ((i + j) / 2)) else i
theorem bsr_yes {p : Nat → Bool} {f i j : Nat} (hf : 0 < f) (h : i < j) (hp : p ((i + j) / 2) = true) : bsr p f i j = bsr p (f - 1) ((i + j) / 2 + 1) j := by
  obtain ⟨g, rfl⟩ : ∃ g, f = g + 1 := ⟨f - 1, by omega⟩
  conv => lhs; unfold bsr
  rw [if_pos h, if_pos hp]; rfl
theorem bsr_no {p : Nat → Bool} {f i j : Nat} (hf : 0 < f) (h : i < j) (hp : p ((i + j) / 2) = false) : bsr p f i j = bsr p (f - 1) i ((i + j) / 2) := by
  obtain ⟨g, rfl⟩ : ∃ g, f = g + 1 := ⟨f - 1, by omega⟩
  conv => lhs; unfold bsr
  rw [if_pos h, if_neg (by simp [hp])]; rfl
theorem bsr_end {p : Nat → Bool} {f i j : Nat} (h : ¬ i < j) : bsr p f i j = i := by
  cases f with
  | zero => rfl
  | succ g => unfold bsr; rw [if_neg h]
theorem bsr_le {p : Nat → Bool} : ∀ {f i j : Nat}, i ≤ j → i ≤ bsr p f i j ∧ bsr p f i j ≤ j
  | 0, _, _, h => ⟨Nat.le_refl _, h⟩
  | f + 1, i, j, h => by
    by_cases h1 : i < j
    · cases h2 : p ((i + j) / 2)
      · rw [bsr_no (by omega) h1 h2]
        have := bsr_le (p := p) (f := f) (i := i) (j := (i + j) / 2) (by omega)
        show i ≤ bsr p f i ((i + j) / 2) ∧ _
        exact ⟨this.1, Nat.le_trans this.2 (by omega)⟩
      · rw [bsr_yes (by omega) h1 h2]
        have := bsr_le (p := p) (f := f) (i := (i + j) / 2 + 1) (j := j) (by omega)
        exact ⟨Nat.le_trans (by omega) this.1, this.2⟩
    · rw [bsr_end h1]; exact ⟨Nat.le_refl _, h⟩
def shl : Nat → Nat → List Nod → List Nod
  | _, 0, L => L
  | k, n + 1, L => shl (k + 1) n (swp L k (k + 1))
def shr : Nat → Nat → List Nod → List Nod
  | _, 0, L => L
  | k, n + 1, L => shr (k - 1) n (swp L k (k - 1))
@[simp] theorem shl_len : ∀ (n k : Nat) (L : List Nod), (shl k n L).length = L.length
  | 0, _, _ => rfl
  | n + 1, k, L => by unfold shl; rw [shl_len n]; simp
@[simp] theorem shr_len : ∀ (n k : Nat) (L : List Nod), (shr k n L).length = L.length
  | 0, _, _ => rfl
  | n + 1, k, L => by unfold shr; rw [shr_len n]; simp
theorem shl_step {k n : Nat} {L : List Nod} (h : 0 < n) : shl k n L = shl (k + 1) (n - 1) (swp L k (k + 1)) := by
  obtain ⟨g, rfl⟩ : ∃ g, n = g + 1 := ⟨n - 1, by omega⟩
  rfl
theorem shr_step {k n : Nat} {L : List Nod} (h : 0 < n) : shr k n L = shr (k - 1) (n - 1) (swp L k (k - 1)) := by
  obtain ⟨g, rfl⟩ : ∃ g, n = g + 1 := ⟨n - 1, by omega⟩
  rfl
def pl1 (L : List Nod) (a : Nat) (c : Nat) : Bool := decide (nlt (at_nod L c) (at_nod L a))
def pl2 (L : List Nod) (m : Nat) (c : Nat) : Bool := decide (¬ nlt (at_nod L m) (at_nod L c))
def pl3 (L : List Nod) (p : Nat) (c : Nat) : Bool := decide (¬ nlt (at_nod L (p - c)) (at_nod L c))
def sS0 (a m b : Nat) : Nat := if (a + b) / 2 < m then (a + b) / 2 + m - b else a
def sR0 (a m b : Nat) : Nat := if (a + b) / 2 < m then (a + b) / 2 else m
/-- Where the merge cuts the first run. -/
def sS (L : List Nod) (a m b : Nat) : Nat := bsr (pl3 L ((a + b) / 2 + m - 1)) (sR0 a m b - sS0 a m b) (sS0 a m b) (sR0 a m b)
def smf : Nat → Nat → Nat → Nat → List Nod → List Nod
  | 0, _, _, _, L => L
  | f + 1, a, m, b, L =>
    if m - a = 1 then shl a (bsr (pl1 L a) (b - m) m b - 1 - a) L
    else if b - m = 1 then shr m (m - bsr (pl2 L m) (m - a) a m) L
    else
      let s := sS L a m b
      let c := (a + b) / 2
      let e := c + m - s
      let L1 := if s < m ∧ m < e then rot L s m e else L
      let L2 := if a < s ∧ s < c then smf f a s c L1 else L1
      if c < e ∧ e < b then smf f c e b L2 else L2
@[simp] theorem smf_len : ∀ (f a m b : Nat) (L : List Nod), (smf f a m b L).length = L.length
  | 0, _, _, _, _ => rfl
  | f + 1, a, m, b, L => by
    have h1 : ∀ X : List Nod, X.length = L.length → (if a < sS L a m b ∧ sS L a m b < (a + b) / 2 then smf f a (sS L a m b) ((a + b) / 2) X else X).length = L.length := fun X hX => by
      split
      · rw [smf_len f]; exact hX
      · exact hX
    unfold smf
    split
    · simp
    · split
      · simp
      · dsimp only
        split
        · rw [smf_len f, h1]; split <;> simp
        · rw [h1]; split <;> simp
theorem smf_1 {f a m b : Nat} {L : List Nod} (h : m - a = 1) : smf (f + 1) a m b L = shl a (bsr (pl1 L a) (b - m) m b - 1 - a) L := by unfold smf; rw [if_pos h]
theorem smf_2 {f a m b : Nat} {L : List Nod} (h : ¬ m - a = 1) (h2 : b - m = 1) : smf (f + 1) a m b L = shr m (m - bsr (pl2 L m) (m - a) a m) L := by unfold smf; rw [if_neg h, if_pos h2]
theorem smf_3 {f a m b s : Nat} {L : List Nod} (h : ¬ m - a = 1) (h2 : ¬ b - m = 1) (hs : sS L a m b = s) : smf (f + 1) a m b L = if (a + b) / 2 < (a + b) / 2 + m - s ∧ (a + b) / 2 + m - s < b then smf f ((a + b) / 2) ((a + b) / 2 + m - s) b (if a < s ∧ s < (a + b) / 2 then smf f a s ((a + b) / 2) (if s < m ∧ m < (a + b) / 2 + m - s then rot L s m ((a + b) / 2 + m - s) else L) else (if s < m ∧ m < (a + b) / 2 + m - s then rot L s m ((a + b) / 2 + m - s) else L)) else (if a < s ∧ s < (a + b) / 2 then smf f a s ((a + b) / 2) (if s < m ∧ m < (a + b) / 2 + m - s then rot L s m ((a + b) / 2 + m - s) else L) else (if s < m ∧ m < (a + b) / 2 + m - s then rot L s m ((a + b) / 2 + m - s) else L)) := by
  subst hs
  conv => lhs; unfold smf
  rw [if_neg h, if_neg h2]

theorem sbnd {a m b : Nat} (h1 : a < m) (h2 : m < b) (h3 : ¬ (m : Int) - (a : Int) = 1) (h4 : ¬ (b : Int) - (m : Int) = 1) : a ≤ sS0 a m b ∧ sS0 a m b ≤ sR0 a m b ∧ sR0 a m b ≤ m ∧ sR0 a m b ≤ (a + b) / 2 ∧ (a + b) / 2 + m ≤ sS0 a m b + b := by
  unfold sS0 sR0; split <;> omega
theorem pl3_t {L : List Nod} {p c : Nat} {i : Int} (h : i.toNat = p - c) (d : ¬ pcmp (at_nod L i.toNat).path (at_nod L c).path < 0) : pl3 L p c = true := decide_eq_true (h ▸ d)
theorem pl3_f {L : List Nod} {p c : Nat} {i : Int} (h : i.toNat = p - c) (d : ¬ ¬ pcmp (at_nod L i.toNat).path (at_nod L c).path < 0) : pl3 L p c = false := decide_eq_false (h ▸ d)

set_option maxRecDepth 100000 in
theorem sort_symMerge_step (h : Heap) (B : Nat) (N : Nat) (L : List Nod) (pd : Nat → Prop) (hb : RBuf nodS h B pd L) (a : Nat) (m : Nat) (b : Nat) (hpB : ¬ pd B) (hN : N = L.length) (hm : L.length ≤ 1000000000000) (ha1 : a < m) (ha2 : m < b) (ha3 : b ≤ L.length) (f : Nat) (hf : b - a ≤ f + 1) (ih : ∀ (h : Heap) (B : Nat) (N : Nat) (L : List Nod) (pd : Nat → Prop) (hb : RBuf nodS h B pd L) (a m b : Nat) (hpB : ¬ pd B) (hN : N = L.length) (hm : L.length ≤ 1000000000000) (h1 : a < m) (h2 : m < b) (h3 : b ≤ L.length) (hf : b - a ≤ f), Cal Tryd.prog 75 #[.slice (some ⟨B, 0, none⟩) N N, .int .i64 (a : Int), .int .i64 (m : Int), .int .i64 (b : Int), .func (.func 54) #[] #[]] h (fun v h' => v = .tuple #[] ∧ Only [B] h h' ∧ RBuf nodS h' B pd (smf f a m b L))) : Cal Tryd.prog 75 #[.slice (some ⟨B, 0, none⟩) N N, .int .i64 ((a : Int)), .int .i64 ((m : Int)), .int .i64 ((b : Int)), .func (.func 54) #[] #[]] h (fun v h' => v = .tuple #[] ∧ Only [B] h h' ∧ RBuf nodS h' B pd (smf (f + 1) a m b L)) := by
 refine Cal_enter (args := [.slice (some ⟨B, 0, none⟩) N N, .int .i64 ((a : Int)), .int .i64 ((m : Int)), .int .i64 ((b : Int)), .func (.func 54) #[] #[]]) Tryd.func75 rfl rfl rfl (fun σ => ?_)
 refine W_seq (W_seq (W_region ?_))
 refine Mv ?_
 refine Mv ?_
 refine Ly (Y_sub rfl rfl (by omega) (by omega)) ?_
 refine Ly (Y_eql rfl rfl) ?_
 refine Nx ?_
 refine W_sub _ (tk6 28 0 1 2 3 4) ?_
 refine W_splitd rfl (fun q1 => ?_) (fun q1 => ?_)
 ·refine Wr ?_
  refine Mv ?_
  refine Av ?_
  refine Nx ?_
  refine W_sub _ (tk6 10 0 1 2 3 4) ?_
  refine Wr ?_
  refine Mv ?_
  refine Av ?_
  refine Nx ?_
  refine W_sub _ (tk7 11 10 0 1 2 3 4) ?_
  refine W_seq (W_block ?_)
  refine W_loop (S := Nat × Nat × Nat) (fun (g, i, j) => [(0, .slice (some ⟨B, 0, none⟩) N N), (1, .int .i64 ((a : Int))), (2, .int .i64 ((m : Int))), (3, .int .i64 ((b : Int))), (4, .func (.func 54) #[] #[]), (10, .int .i64 ((i : Int))), (11, .int .i64 ((j : Int)))]) (fun (g, i, j) h' => m ≤ i ∧ i ≤ j ∧ j ≤ b ∧ j - i ≤ g ∧ bsr (pl1 L a) g i j = bsr (pl1 L a) (b - m) m b ∧ Ext h h') (fun (g, i, j) => g) (b - m, m, b) (tk7 0 1 2 3 4 10 11) ?_ ?_
  ·exact ⟨by omega, by omega, by omega, by omega, rfl, (Ext.refl _)⟩
  rintro ⟨g, i, j⟩ h1 ⟨hi, hij, hjb, hg, hT, hx⟩
  show W _ _ _ _ _ [(0, .slice (some ⟨B, 0, none⟩) N N), (1, .int .i64 ((a : Int))), (2, .int .i64 ((m : Int))), (3, .int .i64 ((b : Int))), (4, .func (.func 54) #[] #[]), (10, .int .i64 ((i : Int))), (11, .int .i64 ((j : Int)))] _
  refine W_seq (W_seq (W_region ?_))
  refine Mv ?_
  refine Mv ?_
  refine Ly (Y_lss rfl rfl) ?_
  refine Nx ?_
  refine W_sub _ (tk8 33 0 1 2 3 4 10 11) ?_
  refine W_splitd rfl (fun c => ?_) (fun c => ?_)
  ·refine Ws ?_
   refine W_sub _ (tk7 0 1 2 3 4 10 11) ?_
   refine W_block (W_seq (W_region ?_))
   refine Mv ?_
   refine Mv ?_
   refine Ly (Y_add rfl rfl (by omega) (by omega)) ?_
   refine Ly (Y_convs Tryd.underlying3 Tryd.underlying110 rfl (wrap_u64b (by first | omega | (simp; omega)) (by first | omega | (simp; omega)))) ?_
   refine Ly (Y_shru rfl rfl (by first | omega | (simp; omega)) (by omega)) ?_
   refine Ly (Y_convs Tryd.underlying110 Tryd.underlying3 rfl (wrap_i64 (by first | omega | (simp; omega)) (by first | omega | (simp; omega)))) ?_
   refine Av ?_
   refine Nx ?_
   refine W_sub _ (tk8 12 0 1 2 3 4 10 11) ?_
   rw [half_eq]
   refine W_seq ?_
   refine W_pers [(12, .int .i64 ((((i + j) / 2 : Nat) : Int))), (0, .slice (some ⟨B, 0, none⟩) N N), (1, .int .i64 ((a : Int))), (2, .int .i64 ((m : Int))), (3, .int .i64 ((b : Int))), (4, .func (.func 54) #[] #[]), (10, .int .i64 ((i : Int))), (11, .int .i64 ((j : Int)))] (tk8 12 0 1 2 3 4 10 11) (by kernel_rfl) ?_
   refine LP_op 0 (fun _ vv => .func (.func 54) #[] #[] = vv) [] rfl rfl (by kernel_rfl) (fun _ _ _ _ p => p) ?_ ?_
   ·intro h2 hx1
    refine Needs_nil ?_
    refine Stp_yld (Y_move rfl) rfl ?_
    exact rfl
   refine LP_op 1 (fun _ vv => .slice (some ⟨B, 0, none⟩) N N = vv) [] rfl rfl (by kernel_rfl) (fun _ _ _ _ p => p) ?_ ?_
   ·intro h3 hx2
    refine Needs_nil ?_
    refine Stp_yld (Y_move rfl) rfl ?_
    exact rfl
   refine LP_op 2 (fun _ vv => .int .i64 ((((i + j) / 2 : Nat) : Int)) = vv) [] rfl rfl (by kernel_rfl) (fun _ _ _ _ p => p) ?_ ?_
   ·intro h4 hx3
    refine Needs_nil ?_
    refine Stp_yld (Y_move rfl) rfl ?_
    exact rfl
   refine LP_op 3 (fun _ vv => .pointer (some (elemAddr (.slice (some ⟨B, 0, none⟩) N N) (((((i + j) / 2 : Nat) : Int)).toNat * 6))) = vv) [(1, 41), (2, 42)] rfl rfl (by kernel_rfl) (fun _ _ _ _ p => p) ?_ ?_
   ·intro h5 hx4
    rintro _ rfl
    rintro _ rfl
    refine Needs_nil ?_
    refine Stp_yld (Y_idxB Tryd.underlying32 (show _ = some 6 by kernel_rfl) rfl rfl (by first | omega | (simp; omega)) (by first | omega | (simp; omega))) rfl ?_
    exact rfl
   refine LP_op 4 (fun _ vv => .agg #[.int .i64 ((at_nod L ((((i + j) / 2 : Nat) : Int)).toNat).kind), str ((at_nod L ((((i + j) / 2 : Nat) : Int)).toNat).path), .int .i64 ((at_nod L ((((i + j) / 2 : Nat) : Int)).toNat).mode), str ((at_nod L ((((i + j) / 2 : Nat) : Int)).toNat).target), ((at_nod L ((((i + j) / 2 : Nat) : Int)).toNat).dv), .int .i64 ((at_nod L ((((i + j) / 2 : Nat) : Int)).toNat).cls)] = vv) [(3, 43)] rfl rfl (by kernel_rfl) (fun _ _ _ _ p => p) ?_ ?_
   ·intro h6 hx5
    rintro _ rfl
    refine Needs_nil ?_
    refine Stp_yld (Y_ldrA0 (k := ((((i + j) / 2 : Nat) : Int)).toNat) (us := [.int .i64 ((at_nod L ((((i + j) / 2 : Nat) : Int)).toNat).kind), str ((at_nod L ((((i + j) / 2 : Nat) : Int)).toNat).path), .int .i64 ((at_nod L ((((i + j) / 2 : Nat) : Int)).toNat).mode), str ((at_nod L ((((i + j) / 2 : Nat) : Int)).toNat).target), ((at_nod L ((((i + j) / 2 : Nat) : Int)).toNat).dv), .int .i64 ((at_nod L ((((i + j) / 2 : Nat) : Int)).toNat).cls)]) Tryd.underlying48 rfl (show _ = some 6 by kernel_rfl) rfl rfl ((hb.ext (hx.trans hx5)).rows (by first | omega | (simp; omega))) (by first | omega | (simp; omega)) rfl) rfl ?_
    exact rfl
   refine LP_op 5 (fun _ vv => .slice (some ⟨B, 0, none⟩) N N = vv) [] rfl rfl (by kernel_rfl) (fun _ _ _ _ p => p) ?_ ?_
   ·intro h7 hx6
    refine Needs_nil ?_
    refine Stp_yld (Y_move rfl) rfl ?_
    exact rfl
   refine LP_op 6 (fun _ vv => .int .i64 ((a : Int)) = vv) [] rfl rfl (by kernel_rfl) (fun _ _ _ _ p => p) ?_ ?_
   ·intro h8 hx7
    refine Needs_nil ?_
    refine Stp_yld (Y_move rfl) rfl ?_
    exact rfl
   refine LP_op 7 (fun _ vv => .pointer (some (elemAddr (.slice (some ⟨B, 0, none⟩) N N) (((a : Int)).toNat * 6))) = vv) [(5, 45), (6, 46)] rfl rfl (by kernel_rfl) (fun _ _ _ _ p => p) ?_ ?_
   ·intro h9 hx8
    rintro _ rfl
    rintro _ rfl
    refine Needs_nil ?_
    refine Stp_yld (Y_idxB Tryd.underlying32 (show _ = some 6 by kernel_rfl) rfl rfl (by first | omega | (simp; omega)) (by first | omega | (simp; omega))) rfl ?_
    exact rfl
   refine LP_op 8 (fun _ vv => .agg #[.int .i64 ((at_nod L ((a : Int)).toNat).kind), str ((at_nod L ((a : Int)).toNat).path), .int .i64 ((at_nod L ((a : Int)).toNat).mode), str ((at_nod L ((a : Int)).toNat).target), ((at_nod L ((a : Int)).toNat).dv), .int .i64 ((at_nod L ((a : Int)).toNat).cls)] = vv) [(7, 47)] rfl rfl (by kernel_rfl) (fun _ _ _ _ p => p) ?_ ?_
   ·intro h10 hx9
    rintro _ rfl
    refine Needs_nil ?_
    refine Stp_yld (Y_ldrA0 (k := ((a : Int)).toNat) (us := [.int .i64 ((at_nod L ((a : Int)).toNat).kind), str ((at_nod L ((a : Int)).toNat).path), .int .i64 ((at_nod L ((a : Int)).toNat).mode), str ((at_nod L ((a : Int)).toNat).target), ((at_nod L ((a : Int)).toNat).dv), .int .i64 ((at_nod L ((a : Int)).toNat).cls)]) Tryd.underlying48 rfl (show _ = some 6 by kernel_rfl) rfl rfl ((hb.ext (hx.trans hx9)).rows (by first | omega | (simp; omega))) (by first | omega | (simp; omega)) rfl) rfl ?_
    exact rfl
   refine LP_op 9 (fun _ vv => .int .i64 (pcmp (at_nod L ((((i + j) / 2 : Nat) : Int)).toNat).path (at_nod L ((a : Int)).toNat).path) = vv) [(0, 40), (8, 48), (4, 44)] rfl rfl (by kernel_rfl) (fun _ _ _ _ p => p) ?_ ?_
   ·intro h11 hx10
    rintro _ rfl
    rintro _ rfl
    rintro _ rfl
    refine Needs_nil ?_
    refine Stp_call (E_callv (fs := []) (cs := []) (by kernel_rfl) rfl rfl) (canon_cmp _ (at_nod L ((((i + j) / 2 : Nat) : Int)).toNat) (show Bytes _ ((at_nod L ((((i + j) / 2 : Nat) : Int)).toNat).dv) ((at_nod L ((((i + j) / 2 : Nat) : Int)).toNat).data) from ((hb.ext (hx.trans hx10)).okp (k := ((((i + j) / 2 : Nat) : Int)).toNat) (by first | omega | (simp; omega))).1) (at_nod L ((a : Int)).toNat) (show Bytes _ ((at_nod L ((a : Int)).toNat).dv) ((at_nod L ((a : Int)).toNat).data) from ((hb.ext (hx.trans hx10)).okp (k := ((a : Int)).toNat) (by first | omega | (simp; omega))).1)) rfl ?_
    rintro _ h12 ⟨rfl, hx11⟩
    exact ⟨hx11, rfl⟩
   refine LP_op 10 (fun _ vv => .bool (decide ((pcmp (at_nod L ((((i + j) / 2 : Nat) : Int)).toNat).path (at_nod L ((a : Int)).toNat).path) < 0)) = vv) [(9, 49)] rfl rfl (by kernel_rfl) (fun _ _ _ _ p => p) ?_ ?_
   ·intro h13 hx12
    rintro _ rfl
    refine Needs_nil ?_
    refine Stp_yld (Y_lss rfl rfl) rfl ?_
    exact rfl
   refine LP_end [(10, 50)] rfl (by kernel_rfl) rfl ?_
   intro h14 hx13
   rintro _ rfl
   refine Needs_nil ?_
   refine X_then ?_
   refine W_splitd rfl (fun d => ?_) (fun d => ?_)
   ·refine W_region ?_
    refine Mv ?_
    refine Ly (Y_add rfl rfl (by omega) (by omega)) ?_
    refine Av ?_
    refine L_nil (X_block ?_)
    refine X_loop ((g - 1, (i + j) / 2 + 1, j)) (tk7 0 1 2 3 4 10 11) ?_ ?_
    ·exact ⟨by omega, by omega, by omega, by omega, (bsr_yes (by omega) (by omega) (decide_eq_true d)).symm.trans hT, (hx.trans hx13)⟩
    (try dsimp only)
    omega
   refine W_region ?_
   refine Mv ?_
   refine Av ?_
   refine L_nil (X_block ?_)
   refine X_loop ((g - 1, i, (i + j) / 2)) (tk7 0 1 2 3 4 10 11) ?_ ?_
   ·exact ⟨by omega, by omega, by omega, by omega, (bsr_no (by omega) (by omega) (decide_eq_false d)).symm.trans hT, (hx.trans hx13)⟩
   (try dsimp only)
   omega
  refine W_exit ?_
  refine X_then_exit (X_then_exit ?_)
  refine X_block_hit ?_
  refine X_then ?_
  refine W_sub _ (tk6 0 1 2 3 4 10) ?_
  refine W_seq (W_seq (W_region ?_))
  refine Mv ?_
  refine Av ?_
  refine Nx ?_
  refine W_sub _ (tk7 13 0 1 2 3 4 10) ?_
  refine W_block ?_
  refine W_loop (S := Nat × List Nod) (fun (k, Lc) => [(0, .slice (some ⟨B, 0, none⟩) N N), (1, .int .i64 ((a : Int))), (2, .int .i64 ((m : Int))), (3, .int .i64 ((b : Int))), (4, .func (.func 54) #[] #[]), (10, .int .i64 ((i : Int))), (13, .int .i64 ((k : Int)))]) (fun (k, Lc) h' => a ≤ k ∧ k ≤ i - 1 ∧ Lc.length = L.length ∧ shl k (i - 1 - k) Lc = shl a (i - 1 - a) L ∧ Only [B] h h' ∧ RBuf nodS h' B pd Lc) (fun (k, Lc) => i - 1 - k) (a, L) (tk7 0 1 2 3 4 10 13) ?_ ?_
  ·exact ⟨by omega, by omega, rfl, rfl, (Only.trans (Only.refl _ _) hx (fun _ hb_ => by cases hb_)), (hb.ext hx)⟩
  rintro ⟨k, Lc⟩ h15 ⟨hka, hki, hLl, hT2, hx2, hb1⟩
  show W _ _ _ _ _ [(0, .slice (some ⟨B, 0, none⟩) N N), (1, .int .i64 ((a : Int))), (2, .int .i64 ((m : Int))), (3, .int .i64 ((b : Int))), (4, .func (.func 54) #[] #[]), (10, .int .i64 ((i : Int))), (13, .int .i64 ((k : Int)))] _
  refine W_seq (W_seq (W_region ?_))
  refine Mv ?_
  refine Mv ?_
  refine Ly (Y_sub rfl rfl (by omega) (by omega)) ?_
  refine Ly (Y_lss rfl rfl) ?_
  refine Nx ?_
  refine W_sub _ (tk8 58 0 1 2 3 4 10 13) ?_
  refine W_splitd rfl (fun w => ?_) (fun w => ?_)
  ·refine Ws ?_
   refine W_sub _ (tk7 0 1 2 3 4 10 13) ?_
   refine W_seq (W_block ?_)
   refine W_held (fun _ => True) 18 rfl (by kernel_rfl) ?_
   refine LH_take (i := 0) rfl (fun h_ hI_ => Y_move rfl) rfl rfl rfl (by kernel_rfl) (by kernel_rfl) (by kernel_rfl) (fun _ _ _ => by rintro ⟨_, _, h_, _⟩; cases h_) trivial ?_
   refine LH_take (i := 1) rfl (fun h_ hI_ => Y_move rfl) rfl rfl rfl (by kernel_rfl) (by kernel_rfl) (by kernel_rfl) (fun _ _ _ => by rintro ⟨_, _, h_, _⟩; cases h_) trivial ?_
   refine LH_take (i := 2) rfl (fun h_ hI_ => Y_move rfl) rfl rfl rfl (by kernel_rfl) (by kernel_rfl) (by kernel_rfl) (fun _ _ _ => by rintro ⟨_, _, h_, _⟩; cases h_) trivial ?_
   refine LH_take (i := 3) rfl (fun h_ hI_ => Y_move rfl) rfl rfl rfl (by kernel_rfl) (by kernel_rfl) (by kernel_rfl) (fun _ _ _ => by rintro ⟨_, _, h_, _⟩; cases h_) trivial ?_
   refine LH_take (i := 4) rfl (fun h_ hI_ => Y_add rfl rfl (by omega) (by omega)) rfl rfl rfl (by kernel_rfl) (by kernel_rfl) (by kernel_rfl) (fun _ _ _ => by rintro ⟨_, _, h_, _⟩; cases h_) trivial ?_
   refine LH_take (i := 5) rfl (fun h_ hI_ => Y_move rfl) rfl rfl rfl (by kernel_rfl) (by kernel_rfl) (by kernel_rfl) (fun _ _ _ => by rintro ⟨_, _, h_, _⟩; cases h_) trivial ?_
   refine LH_take (i := 6) rfl (fun h_ hI_ => Y_move rfl) rfl rfl rfl (by kernel_rfl) (by kernel_rfl) (by kernel_rfl) (fun _ _ _ => by rintro ⟨_, _, h_, _⟩; cases h_) trivial ?_
   refine LH_take (i := 7) rfl (fun h_ hI_ => Y_add rfl rfl (by omega) (by omega)) rfl rfl rfl (by kernel_rfl) (by kernel_rfl) (by kernel_rfl) (fun _ _ _ => by rintro ⟨_, _, h_, _⟩; cases h_) trivial ?_
   refine LH_take (i := 8) rfl (fun h_ hI_ => Y_idxB Tryd.underlying32 (show _ = some 6 by kernel_rfl) rfl rfl (by first | omega | (simp; omega)) (by first | omega | (simp; omega))) rfl rfl rfl (by kernel_rfl) (by kernel_rfl) (by kernel_rfl) (fun _ _ _ => by rintro ⟨_, _, h_, _⟩; cases h_) trivial ?_
   refine LH_take (i := 10) rfl (fun h_ hI_ => Y_move rfl) rfl rfl rfl (by kernel_rfl) (by kernel_rfl) (by kernel_rfl) (fun _ _ _ => by rintro ⟨_, _, h_, _⟩; cases h_) trivial ?_
   refine LH_take (i := 11) rfl (fun h_ hI_ => Y_move rfl) rfl rfl rfl (by kernel_rfl) (by kernel_rfl) (by kernel_rfl) (fun _ _ _ => by rintro ⟨_, _, h_, _⟩; cases h_) trivial ?_
   refine LH_take (i := 12) rfl (fun h_ hI_ => Y_idxB Tryd.underlying32 (show _ = some 6 by kernel_rfl) rfl rfl (by first | omega | (simp; omega)) (by first | omega | (simp; omega))) rfl rfl rfl (by kernel_rfl) (by kernel_rfl) (by kernel_rfl) (fun _ _ _ => by rintro ⟨_, _, h_, _⟩; cases h_) trivial ?_
   refine LH_two (i := 9) (j := 13) (by kernel_rfl) ?_ ?_
   ·have hq14 : Okp nodS h15 pd (at_nod Lc ((k : Int) + 1).toNat) := hb1.okp (by first | omega | (simp; omega))
    refine LO_yld (i := 9) rfl (Y_ldrA0 (k := ((k : Int) + 1).toNat) (us := [.int .i64 ((at_nod Lc ((k : Int) + 1).toNat).kind), str ((at_nod Lc ((k : Int) + 1).toNat).path), .int .i64 ((at_nod Lc ((k : Int) + 1).toNat).mode), str ((at_nod Lc ((k : Int) + 1).toNat).target), ((at_nod Lc ((k : Int) + 1).toNat).dv), .int .i64 ((at_nod Lc ((k : Int) + 1).toNat).cls)]) Tryd.underlying48 rfl (show _ = some 6 by kernel_rfl) rfl rfl (hb1.rows (by first | omega | (simp; omega))) (by first | omega | (simp; omega)) rfl) rfl rfl rfl trivial ?_
    refine LH_one (i := 13) (by kernel_rfl) ?_
    have hq15 : Okp nodS h15 pd (at_nod Lc ((k : Int)).toNat) := hb1.okp (by first | omega | (simp; omega))
    refine LO_yld (i := 13) rfl (Y_ldrA0 (k := ((k : Int)).toNat) (us := [.int .i64 ((at_nod Lc ((k : Int)).toNat).kind), str ((at_nod Lc ((k : Int)).toNat).path), .int .i64 ((at_nod Lc ((k : Int)).toNat).mode), str ((at_nod Lc ((k : Int)).toNat).target), ((at_nod Lc ((k : Int)).toNat).dv), .int .i64 ((at_nod Lc ((k : Int)).toNat).cls)]) Tryd.underlying48 rfl (show _ = some 6 by kernel_rfl) rfl rfl (hb1.rows (by first | omega | (simp; omega))) (by first | omega | (simp; omega)) rfl) rfl rfl rfl trivial ?_
    refine LH_take (i := 14) rfl (fun h_ hI_ => Y_idxB Tryd.underlying32 (show _ = some 6 by kernel_rfl) rfl rfl (by first | omega | (simp; omega)) (by first | omega | (simp; omega))) rfl rfl rfl (by kernel_rfl) (by kernel_rfl) (by kernel_rfl) (fun _ _ _ => by rintro ⟨_, _, h_, _⟩; cases h_) trivial ?_
    refine LH_one (i := 15) (by kernel_rfl) ?_
    refine LO_dos (i := 15) rfl (D_rsetA (S := nodS) (us := [.int .i64 ((at_nod Lc ((k : Int) + 1).toNat).kind), str ((at_nod Lc ((k : Int) + 1).toNat).path), .int .i64 ((at_nod Lc ((k : Int) + 1).toNat).mode), str ((at_nod Lc ((k : Int) + 1).toNat).target), ((at_nod Lc ((k : Int) + 1).toNat).dv), .int .i64 ((at_nod Lc ((k : Int) + 1).toNat).cls)]) (a := (at_nod Lc ((k : Int) + 1).toNat)) (k := ((k : Int)).toNat) (show _ = some 6 by kernel_rfl) rfl rfl rfl rfl hb1 (by first | omega | (simp; omega)) rfl hq14.1 hq14.2 hpB) rfl rfl ?_
    rintro h16 ⟨hx16, -, hb17⟩
    refine ⟨trivial, ?_⟩
    refine LH_take (i := 16) rfl (fun h_ hI_ => Y_idxB Tryd.underlying32 (show _ = some 6 by kernel_rfl) rfl rfl (by first | omega | (simp; omega)) (by first | omega | (simp; omega))) rfl rfl rfl (by kernel_rfl) (by kernel_rfl) (by kernel_rfl) (fun _ _ _ => by rintro ⟨_, _, h_, _⟩; cases h_) trivial ?_
    refine LH_one (i := 17) (by kernel_rfl) ?_
    have hc20 := (hq15.only hx16 hpB)
    refine LO_dos (i := 17) rfl (D_rsetA (S := nodS) (us := [.int .i64 ((at_nod Lc ((k : Int)).toNat).kind), str ((at_nod Lc ((k : Int)).toNat).path), .int .i64 ((at_nod Lc ((k : Int)).toNat).mode), str ((at_nod Lc ((k : Int)).toNat).target), ((at_nod Lc ((k : Int)).toNat).dv), .int .i64 ((at_nod Lc ((k : Int)).toNat).cls)]) (a := (at_nod Lc ((k : Int)).toNat)) (k := ((k : Int) + 1).toNat) (show _ = some 6 by kernel_rfl) rfl rfl rfl rfl hb17 (by first | omega | (simp; omega)) rfl hc20.1 hc20.2 hpB) rfl rfl ?_
    rintro h17 ⟨hx18, -, hb19⟩
    refine ⟨trivial, ?_⟩
    refine LH_done (by kernel_rfl) ?_
    refine X_block (X_then ?_)
    refine W_sub _ (tk7 0 1 2 3 4 10 13) ?_
    refine W_region ?_
    refine Mv ?_
    refine Ly (Y_add rfl rfl (by omega) (by omega)) ?_
    refine Av ?_
    refine L_nil ?_
    refine X_loop ((k + 1, ((Lc.set (((k : Int)).toNat) (at_nod Lc ((k : Int) + 1).toNat)).set (((k : Int) + 1).toNat) (at_nod Lc ((k : Int)).toNat)))) (tk7 0 1 2 3 4 10 13) ?_ ?_
    ·exact ⟨by omega, by omega, by simp [hLl], by rw [show ((k : Int) + 1).toNat = k + 1 by omega, show i - 1 - (k + 1) = i - 1 - k - 1 by omega]; exact (shl_step (by omega)).symm.trans hT2, (Only.trans (Only.trans (Only.trans (Only.refl _ _) hx2 (fun _ hb_ => .inl hb_)) hx16 (fun _ hb_ => .inl hb_)) hx18 (fun _ hb_ => .inl hb_)), hb19⟩
    (try dsimp only)
    omega
   have hq21 : Okp nodS h15 pd (at_nod Lc ((k : Int)).toNat) := hb1.okp (by first | omega | (simp; omega))
   refine LO_yld (i := 13) rfl (Y_ldrA0 (k := ((k : Int)).toNat) (us := [.int .i64 ((at_nod Lc ((k : Int)).toNat).kind), str ((at_nod Lc ((k : Int)).toNat).path), .int .i64 ((at_nod Lc ((k : Int)).toNat).mode), str ((at_nod Lc ((k : Int)).toNat).target), ((at_nod Lc ((k : Int)).toNat).dv), .int .i64 ((at_nod Lc ((k : Int)).toNat).cls)]) Tryd.underlying48 rfl (show _ = some 6 by kernel_rfl) rfl rfl (hb1.rows (by first | omega | (simp; omega))) (by first | omega | (simp; omega)) rfl) rfl rfl rfl trivial ?_
   refine LH_one (i := 9) (by kernel_rfl) ?_
   have hq22 : Okp nodS h15 pd (at_nod Lc ((k : Int) + 1).toNat) := hb1.okp (by first | omega | (simp; omega))
   refine LO_yld (i := 9) rfl (Y_ldrA0 (k := ((k : Int) + 1).toNat) (us := [.int .i64 ((at_nod Lc ((k : Int) + 1).toNat).kind), str ((at_nod Lc ((k : Int) + 1).toNat).path), .int .i64 ((at_nod Lc ((k : Int) + 1).toNat).mode), str ((at_nod Lc ((k : Int) + 1).toNat).target), ((at_nod Lc ((k : Int) + 1).toNat).dv), .int .i64 ((at_nod Lc ((k : Int) + 1).toNat).cls)]) Tryd.underlying48 rfl (show _ = some 6 by kernel_rfl) rfl rfl (hb1.rows (by first | omega | (simp; omega))) (by first | omega | (simp; omega)) rfl) rfl rfl rfl trivial ?_
   refine LH_take (i := 14) rfl (fun h_ hI_ => Y_idxB Tryd.underlying32 (show _ = some 6 by kernel_rfl) rfl rfl (by first | omega | (simp; omega)) (by first | omega | (simp; omega))) rfl rfl rfl (by kernel_rfl) (by kernel_rfl) (by kernel_rfl) (fun _ _ _ => by rintro ⟨_, _, h_, _⟩; cases h_) trivial ?_
   refine LH_one (i := 15) (by kernel_rfl) ?_
   refine LO_dos (i := 15) rfl (D_rsetA (S := nodS) (us := [.int .i64 ((at_nod Lc ((k : Int) + 1).toNat).kind), str ((at_nod Lc ((k : Int) + 1).toNat).path), .int .i64 ((at_nod Lc ((k : Int) + 1).toNat).mode), str ((at_nod Lc ((k : Int) + 1).toNat).target), ((at_nod Lc ((k : Int) + 1).toNat).dv), .int .i64 ((at_nod Lc ((k : Int) + 1).toNat).cls)]) (a := (at_nod Lc ((k : Int) + 1).toNat)) (k := ((k : Int)).toNat) (show _ = some 6 by kernel_rfl) rfl rfl rfl rfl hb1 (by first | omega | (simp; omega)) rfl hq22.1 hq22.2 hpB) rfl rfl ?_
   rintro h18 ⟨hx23, -, hb24⟩
   refine ⟨trivial, ?_⟩
   refine LH_take (i := 16) rfl (fun h_ hI_ => Y_idxB Tryd.underlying32 (show _ = some 6 by kernel_rfl) rfl rfl (by first | omega | (simp; omega)) (by first | omega | (simp; omega))) rfl rfl rfl (by kernel_rfl) (by kernel_rfl) (by kernel_rfl) (fun _ _ _ => by rintro ⟨_, _, h_, _⟩; cases h_) trivial ?_
   refine LH_one (i := 17) (by kernel_rfl) ?_
   have hc27 := (hq21.only hx23 hpB)
   refine LO_dos (i := 17) rfl (D_rsetA (S := nodS) (us := [.int .i64 ((at_nod Lc ((k : Int)).toNat).kind), str ((at_nod Lc ((k : Int)).toNat).path), .int .i64 ((at_nod Lc ((k : Int)).toNat).mode), str ((at_nod Lc ((k : Int)).toNat).target), ((at_nod Lc ((k : Int)).toNat).dv), .int .i64 ((at_nod Lc ((k : Int)).toNat).cls)]) (a := (at_nod Lc ((k : Int)).toNat)) (k := ((k : Int) + 1).toNat) (show _ = some 6 by kernel_rfl) rfl rfl rfl rfl hb24 (by first | omega | (simp; omega)) rfl hc27.1 hc27.2 hpB) rfl rfl ?_
   rintro h19 ⟨hx25, -, hb26⟩
   refine ⟨trivial, ?_⟩
   refine LH_done (by kernel_rfl) ?_
   refine X_block (X_then ?_)
   refine W_sub _ (tk7 0 1 2 3 4 10 13) ?_
   refine W_region ?_
   refine Mv ?_
   refine Ly (Y_add rfl rfl (by omega) (by omega)) ?_
   refine Av ?_
   refine L_nil ?_
   refine X_loop ((k + 1, ((Lc.set (((k : Int)).toNat) (at_nod Lc ((k : Int) + 1).toNat)).set (((k : Int) + 1).toNat) (at_nod Lc ((k : Int)).toNat)))) (tk7 0 1 2 3 4 10 13) ?_ ?_
   ·exact ⟨by omega, by omega, by simp [hLl], by rw [show ((k : Int) + 1).toNat = k + 1 by omega, show i - 1 - (k + 1) = i - 1 - k - 1 by omega]; exact (shl_step (by omega)).symm.trans hT2, (Only.trans (Only.trans (Only.trans (Only.refl _ _) hx2 (fun _ hb_ => .inl hb_)) hx23 (fun _ hb_ => .inl hb_)) hx25 (fun _ hb_ => .inl hb_)), hb26⟩
   (try dsimp only)
   omega
  refine W_exit ?_
  refine X_then_exit (X_then_exit ?_)
  refine X_block_hit ?_
  refine X_then ?_
  refine W_sub _ (tk5 0 1 2 3 4) ?_
  refine W_ret (X_then_ret ?_)
  refine X_end0 rfl ?_
  refine ⟨rfl, (Only.trans (Only.refl _ _) hx2 (fun _ hb_ => .inl hb_)), RBuf.congr hb1 ?_⟩
  rw [smf_1 (by omega), ← hT, bsr_end (by omega), ← hT2, show i - 1 - k = 0 by omega]; rfl
 refine Ws ?_
 refine W_sub _ (tk5 0 1 2 3 4) ?_
 refine W_seq (W_seq (W_region ?_))
 refine Mv ?_
 refine Mv ?_
 refine Ly (Y_sub rfl rfl (by omega) (by omega)) ?_
 refine Ly (Y_eql rfl rfl) ?_
 refine Nx ?_
 refine W_sub _ (tk6 80 0 1 2 3 4) ?_
 refine W_splitd rfl (fun q2 => ?_) (fun q2 => ?_)
 ·refine Wr ?_
  refine Mv ?_
  refine Av ?_
  refine Nx ?_
  refine W_sub _ (tk6 14 0 1 2 3 4) ?_
  refine Wr ?_
  refine Mv ?_
  refine Av ?_
  refine Nx ?_
  refine W_sub _ (tk7 15 14 0 1 2 3 4) ?_
  refine W_seq (W_block ?_)
  refine W_loop (S := Nat × Nat × Nat) (fun (g, i, j) => [(0, .slice (some ⟨B, 0, none⟩) N N), (1, .int .i64 ((a : Int))), (2, .int .i64 ((m : Int))), (3, .int .i64 ((b : Int))), (4, .func (.func 54) #[] #[]), (14, .int .i64 ((i : Int))), (15, .int .i64 ((j : Int)))]) (fun (g, i, j) h' => a ≤ i ∧ i ≤ j ∧ j ≤ m ∧ j - i ≤ g ∧ bsr (pl2 L m) g i j = bsr (pl2 L m) (m - a) a m ∧ Ext h h') (fun (g, i, j) => g) (m - a, a, m) (tk7 0 1 2 3 4 14 15) ?_ ?_
  ·exact ⟨by omega, by omega, by omega, by omega, rfl, (Ext.refl _)⟩
  rintro ⟨g, i, j⟩ h20 ⟨hi, hij, hjb, hg, hT, hx⟩
  show W _ _ _ _ _ [(0, .slice (some ⟨B, 0, none⟩) N N), (1, .int .i64 ((a : Int))), (2, .int .i64 ((m : Int))), (3, .int .i64 ((b : Int))), (4, .func (.func 54) #[] #[]), (14, .int .i64 ((i : Int))), (15, .int .i64 ((j : Int)))] _
  refine W_seq (W_seq (W_region ?_))
  refine Mv ?_
  refine Mv ?_
  refine Ly (Y_lss rfl rfl) ?_
  refine Nx ?_
  refine W_sub _ (tk8 85 0 1 2 3 4 14 15) ?_
  refine W_splitd rfl (fun c => ?_) (fun c => ?_)
  ·refine Ws ?_
   refine W_sub _ (tk7 0 1 2 3 4 14 15) ?_
   refine W_block (W_seq (W_region ?_))
   refine Mv ?_
   refine Mv ?_
   refine Ly (Y_add rfl rfl (by omega) (by omega)) ?_
   refine Ly (Y_convs Tryd.underlying3 Tryd.underlying110 rfl (wrap_u64b (by first | omega | (simp; omega)) (by first | omega | (simp; omega)))) ?_
   refine Ly (Y_shru rfl rfl (by first | omega | (simp; omega)) (by omega)) ?_
   refine Ly (Y_convs Tryd.underlying110 Tryd.underlying3 rfl (wrap_i64 (by first | omega | (simp; omega)) (by first | omega | (simp; omega)))) ?_
   refine Av ?_
   refine Nx ?_
   refine W_sub _ (tk8 16 0 1 2 3 4 14 15) ?_
   rw [half_eq]
   refine W_seq ?_
   refine W_pers [(16, .int .i64 ((((i + j) / 2 : Nat) : Int))), (0, .slice (some ⟨B, 0, none⟩) N N), (1, .int .i64 ((a : Int))), (2, .int .i64 ((m : Int))), (3, .int .i64 ((b : Int))), (4, .func (.func 54) #[] #[]), (14, .int .i64 ((i : Int))), (15, .int .i64 ((j : Int)))] (tk8 16 0 1 2 3 4 14 15) (by kernel_rfl) ?_
   refine LP_op 0 (fun _ vv => .func (.func 54) #[] #[] = vv) [] rfl rfl (by kernel_rfl) (fun _ _ _ _ p => p) ?_ ?_
   ·intro h21 hx28
    refine Needs_nil ?_
    refine Stp_yld (Y_move rfl) rfl ?_
    exact rfl
   refine LP_op 1 (fun _ vv => .slice (some ⟨B, 0, none⟩) N N = vv) [] rfl rfl (by kernel_rfl) (fun _ _ _ _ p => p) ?_ ?_
   ·intro h22 hx29
    refine Needs_nil ?_
    refine Stp_yld (Y_move rfl) rfl ?_
    exact rfl
   refine LP_op 2 (fun _ vv => .int .i64 ((m : Int)) = vv) [] rfl rfl (by kernel_rfl) (fun _ _ _ _ p => p) ?_ ?_
   ·intro h23 hx30
    refine Needs_nil ?_
    refine Stp_yld (Y_move rfl) rfl ?_
    exact rfl
   refine LP_op 3 (fun _ vv => .pointer (some (elemAddr (.slice (some ⟨B, 0, none⟩) N N) (((m : Int)).toNat * 6))) = vv) [(1, 93), (2, 94)] rfl rfl (by kernel_rfl) (fun _ _ _ _ p => p) ?_ ?_
   ·intro h24 hx31
    rintro _ rfl
    rintro _ rfl
    refine Needs_nil ?_
    refine Stp_yld (Y_idxB Tryd.underlying32 (show _ = some 6 by kernel_rfl) rfl rfl (by first | omega | (simp; omega)) (by first | omega | (simp; omega))) rfl ?_
    exact rfl
   refine LP_op 4 (fun _ vv => .agg #[.int .i64 ((at_nod L ((m : Int)).toNat).kind), str ((at_nod L ((m : Int)).toNat).path), .int .i64 ((at_nod L ((m : Int)).toNat).mode), str ((at_nod L ((m : Int)).toNat).target), ((at_nod L ((m : Int)).toNat).dv), .int .i64 ((at_nod L ((m : Int)).toNat).cls)] = vv) [(3, 95)] rfl rfl (by kernel_rfl) (fun _ _ _ _ p => p) ?_ ?_
   ·intro h25 hx32
    rintro _ rfl
    refine Needs_nil ?_
    refine Stp_yld (Y_ldrA0 (k := ((m : Int)).toNat) (us := [.int .i64 ((at_nod L ((m : Int)).toNat).kind), str ((at_nod L ((m : Int)).toNat).path), .int .i64 ((at_nod L ((m : Int)).toNat).mode), str ((at_nod L ((m : Int)).toNat).target), ((at_nod L ((m : Int)).toNat).dv), .int .i64 ((at_nod L ((m : Int)).toNat).cls)]) Tryd.underlying48 rfl (show _ = some 6 by kernel_rfl) rfl rfl ((hb.ext (hx.trans hx32)).rows (by first | omega | (simp; omega))) (by first | omega | (simp; omega)) rfl) rfl ?_
    exact rfl
   refine LP_op 5 (fun _ vv => .slice (some ⟨B, 0, none⟩) N N = vv) [] rfl rfl (by kernel_rfl) (fun _ _ _ _ p => p) ?_ ?_
   ·intro h26 hx33
    refine Needs_nil ?_
    refine Stp_yld (Y_move rfl) rfl ?_
    exact rfl
   refine LP_op 6 (fun _ vv => .int .i64 ((((i + j) / 2 : Nat) : Int)) = vv) [] rfl rfl (by kernel_rfl) (fun _ _ _ _ p => p) ?_ ?_
   ·intro h27 hx34
    refine Needs_nil ?_
    refine Stp_yld (Y_move rfl) rfl ?_
    exact rfl
   refine LP_op 7 (fun _ vv => .pointer (some (elemAddr (.slice (some ⟨B, 0, none⟩) N N) (((((i + j) / 2 : Nat) : Int)).toNat * 6))) = vv) [(5, 97), (6, 98)] rfl rfl (by kernel_rfl) (fun _ _ _ _ p => p) ?_ ?_
   ·intro h28 hx35
    rintro _ rfl
    rintro _ rfl
    refine Needs_nil ?_
    refine Stp_yld (Y_idxB Tryd.underlying32 (show _ = some 6 by kernel_rfl) rfl rfl (by first | omega | (simp; omega)) (by first | omega | (simp; omega))) rfl ?_
    exact rfl
   refine LP_op 8 (fun _ vv => .agg #[.int .i64 ((at_nod L ((((i + j) / 2 : Nat) : Int)).toNat).kind), str ((at_nod L ((((i + j) / 2 : Nat) : Int)).toNat).path), .int .i64 ((at_nod L ((((i + j) / 2 : Nat) : Int)).toNat).mode), str ((at_nod L ((((i + j) / 2 : Nat) : Int)).toNat).target), ((at_nod L ((((i + j) / 2 : Nat) : Int)).toNat).dv), .int .i64 ((at_nod L ((((i + j) / 2 : Nat) : Int)).toNat).cls)] = vv) [(7, 99)] rfl rfl (by kernel_rfl) (fun _ _ _ _ p => p) ?_ ?_
   ·intro h29 hx36
    rintro _ rfl
    refine Needs_nil ?_
    refine Stp_yld (Y_ldrA0 (k := ((((i + j) / 2 : Nat) : Int)).toNat) (us := [.int .i64 ((at_nod L ((((i + j) / 2 : Nat) : Int)).toNat).kind), str ((at_nod L ((((i + j) / 2 : Nat) : Int)).toNat).path), .int .i64 ((at_nod L ((((i + j) / 2 : Nat) : Int)).toNat).mode), str ((at_nod L ((((i + j) / 2 : Nat) : Int)).toNat).target), ((at_nod L ((((i + j) / 2 : Nat) : Int)).toNat).dv), .int .i64 ((at_nod L ((((i + j) / 2 : Nat) : Int)).toNat).cls)]) Tryd.underlying48 rfl (show _ = some 6 by kernel_rfl) rfl rfl ((hb.ext (hx.trans hx36)).rows (by first | omega | (simp; omega))) (by first | omega | (simp; omega)) rfl) rfl ?_
    exact rfl
   refine LP_op 9 (fun _ vv => .int .i64 (pcmp (at_nod L ((m : Int)).toNat).path (at_nod L ((((i + j) / 2 : Nat) : Int)).toNat).path) = vv) [(4, 96), (8, 100), (0, 92)] rfl rfl (by kernel_rfl) (fun _ _ _ _ p => p) ?_ ?_
   ·intro h30 hx37
    rintro _ rfl
    rintro _ rfl
    rintro _ rfl
    refine Needs_nil ?_
    refine Stp_call (E_callv (fs := []) (cs := []) (by kernel_rfl) rfl rfl) (canon_cmp _ (at_nod L ((m : Int)).toNat) (show Bytes _ ((at_nod L ((m : Int)).toNat).dv) ((at_nod L ((m : Int)).toNat).data) from ((hb.ext (hx.trans hx37)).okp (k := ((m : Int)).toNat) (by first | omega | (simp; omega))).1) (at_nod L ((((i + j) / 2 : Nat) : Int)).toNat) (show Bytes _ ((at_nod L ((((i + j) / 2 : Nat) : Int)).toNat).dv) ((at_nod L ((((i + j) / 2 : Nat) : Int)).toNat).data) from ((hb.ext (hx.trans hx37)).okp (k := ((((i + j) / 2 : Nat) : Int)).toNat) (by first | omega | (simp; omega))).1)) rfl ?_
    rintro _ h31 ⟨rfl, hx38⟩
    exact ⟨hx38, rfl⟩
   refine LP_op 10 (fun _ vv => .bool (decide ((pcmp (at_nod L ((m : Int)).toNat).path (at_nod L ((((i + j) / 2 : Nat) : Int)).toNat).path) < 0)) = vv) [(9, 101)] rfl rfl (by kernel_rfl) (fun _ _ _ _ p => p) ?_ ?_
   ·intro h32 hx39
    rintro _ rfl
    refine Needs_nil ?_
    refine Stp_yld (Y_lss rfl rfl) rfl ?_
    exact rfl
   refine LP_op 11 (fun _ vv => .bool (decide (¬ ((pcmp (at_nod L ((m : Int)).toNat).path (at_nod L ((((i + j) / 2 : Nat) : Int)).toNat).path) < 0))) = vv) [(10, 102)] rfl rfl (by kernel_rfl) (fun _ _ _ _ p => p) ?_ ?_
   ·intro h33 hx40
    rintro _ rfl
    refine Needs_nil ?_
    refine Stp_yld (Y_notd rfl) rfl ?_
    exact rfl
   refine LP_end [(11, 103)] rfl (by kernel_rfl) rfl ?_
   intro h34 hx41
   rintro _ rfl
   refine Needs_nil ?_
   refine X_then ?_
   refine W_splitd rfl (fun d => ?_) (fun d => ?_)
   ·refine W_region ?_
    refine Mv ?_
    refine Ly (Y_add rfl rfl (by omega) (by omega)) ?_
    refine Av ?_
    refine L_nil (X_block ?_)
    refine X_loop ((g - 1, (i + j) / 2 + 1, j)) (tk7 0 1 2 3 4 14 15) ?_ ?_
    ·exact ⟨by omega, by omega, by omega, by omega, (bsr_yes (by omega) (by omega) (decide_eq_true d)).symm.trans hT, (hx.trans hx41)⟩
    (try dsimp only)
    omega
   refine W_region ?_
   refine Mv ?_
   refine Av ?_
   refine L_nil (X_block ?_)
   refine X_loop ((g - 1, i, (i + j) / 2)) (tk7 0 1 2 3 4 14 15) ?_ ?_
   ·exact ⟨by omega, by omega, by omega, by omega, (bsr_no (by omega) (by omega) (decide_eq_false d)).symm.trans hT, (hx.trans hx41)⟩
   (try dsimp only)
   omega
  refine W_exit ?_
  refine X_then_exit (X_then_exit ?_)
  refine X_block_hit ?_
  refine X_then ?_
  refine W_sub _ (tk6 0 1 2 3 4 14) ?_
  refine W_seq (W_seq (W_region ?_))
  refine Mv ?_
  refine Av ?_
  refine Nx ?_
  refine W_sub _ (tk7 17 0 1 2 3 4 14) ?_
  refine W_block ?_
  refine W_loop (S := Nat × List Nod) (fun (k, Lc) => [(0, .slice (some ⟨B, 0, none⟩) N N), (1, .int .i64 ((a : Int))), (2, .int .i64 ((m : Int))), (3, .int .i64 ((b : Int))), (4, .func (.func 54) #[] #[]), (14, .int .i64 ((i : Int))), (17, .int .i64 ((k : Int)))]) (fun (k, Lc) h' => i ≤ k ∧ k ≤ m ∧ Lc.length = L.length ∧ shr k (k - i) Lc = shr m (m - i) L ∧ Only [B] h h' ∧ RBuf nodS h' B pd Lc) (fun (k, Lc) => k - i) (m, L) (tk7 0 1 2 3 4 14 17) ?_ ?_
  ·exact ⟨by omega, by omega, rfl, rfl, (Only.trans (Only.refl _ _) hx (fun _ hb_ => by cases hb_)), (hb.ext hx)⟩
  rintro ⟨k, Lc⟩ h35 ⟨hka, hki, hLl, hT2, hx2, hb1⟩
  show W _ _ _ _ _ [(0, .slice (some ⟨B, 0, none⟩) N N), (1, .int .i64 ((a : Int))), (2, .int .i64 ((m : Int))), (3, .int .i64 ((b : Int))), (4, .func (.func 54) #[] #[]), (14, .int .i64 ((i : Int))), (17, .int .i64 ((k : Int)))] _
  refine W_seq (W_seq (W_region ?_))
  refine Mv ?_
  refine Mv ?_
  refine Ly (Y_gtr rfl rfl) ?_
  refine Nx ?_
  refine W_sub _ (tk8 110 0 1 2 3 4 14 17) ?_
  refine W_splitd rfl (fun w => ?_) (fun w => ?_)
  ·refine Ws ?_
   refine W_sub _ (tk7 0 1 2 3 4 14 17) ?_
   refine W_seq (W_block ?_)
   refine W_held (fun _ => True) 18 rfl (by kernel_rfl) ?_
   refine LH_take (i := 0) rfl (fun h_ hI_ => Y_move rfl) rfl rfl rfl (by kernel_rfl) (by kernel_rfl) (by kernel_rfl) (fun _ _ _ => by rintro ⟨_, _, h_, _⟩; cases h_) trivial ?_
   refine LH_take (i := 1) rfl (fun h_ hI_ => Y_move rfl) rfl rfl rfl (by kernel_rfl) (by kernel_rfl) (by kernel_rfl) (fun _ _ _ => by rintro ⟨_, _, h_, _⟩; cases h_) trivial ?_
   refine LH_take (i := 2) rfl (fun h_ hI_ => Y_move rfl) rfl rfl rfl (by kernel_rfl) (by kernel_rfl) (by kernel_rfl) (fun _ _ _ => by rintro ⟨_, _, h_, _⟩; cases h_) trivial ?_
   refine LH_take (i := 3) rfl (fun h_ hI_ => Y_move rfl) rfl rfl rfl (by kernel_rfl) (by kernel_rfl) (by kernel_rfl) (fun _ _ _ => by rintro ⟨_, _, h_, _⟩; cases h_) trivial ?_
   refine LH_take (i := 4) rfl (fun h_ hI_ => Y_sub rfl rfl (by omega) (by omega)) rfl rfl rfl (by kernel_rfl) (by kernel_rfl) (by kernel_rfl) (fun _ _ _ => by rintro ⟨_, _, h_, _⟩; cases h_) trivial ?_
   refine LH_take (i := 5) rfl (fun h_ hI_ => Y_move rfl) rfl rfl rfl (by kernel_rfl) (by kernel_rfl) (by kernel_rfl) (fun _ _ _ => by rintro ⟨_, _, h_, _⟩; cases h_) trivial ?_
   refine LH_take (i := 6) rfl (fun h_ hI_ => Y_move rfl) rfl rfl rfl (by kernel_rfl) (by kernel_rfl) (by kernel_rfl) (fun _ _ _ => by rintro ⟨_, _, h_, _⟩; cases h_) trivial ?_
   refine LH_take (i := 7) rfl (fun h_ hI_ => Y_sub rfl rfl (by omega) (by omega)) rfl rfl rfl (by kernel_rfl) (by kernel_rfl) (by kernel_rfl) (fun _ _ _ => by rintro ⟨_, _, h_, _⟩; cases h_) trivial ?_
   refine LH_take (i := 8) rfl (fun h_ hI_ => Y_idxB Tryd.underlying32 (show _ = some 6 by kernel_rfl) rfl rfl (by first | omega | (simp; omega)) (by first | omega | (simp; omega))) rfl rfl rfl (by kernel_rfl) (by kernel_rfl) (by kernel_rfl) (fun _ _ _ => by rintro ⟨_, _, h_, _⟩; cases h_) trivial ?_
   refine LH_take (i := 10) rfl (fun h_ hI_ => Y_move rfl) rfl rfl rfl (by kernel_rfl) (by kernel_rfl) (by kernel_rfl) (fun _ _ _ => by rintro ⟨_, _, h_, _⟩; cases h_) trivial ?_
   refine LH_take (i := 11) rfl (fun h_ hI_ => Y_move rfl) rfl rfl rfl (by kernel_rfl) (by kernel_rfl) (by kernel_rfl) (fun _ _ _ => by rintro ⟨_, _, h_, _⟩; cases h_) trivial ?_
   refine LH_take (i := 12) rfl (fun h_ hI_ => Y_idxB Tryd.underlying32 (show _ = some 6 by kernel_rfl) rfl rfl (by first | omega | (simp; omega)) (by first | omega | (simp; omega))) rfl rfl rfl (by kernel_rfl) (by kernel_rfl) (by kernel_rfl) (fun _ _ _ => by rintro ⟨_, _, h_, _⟩; cases h_) trivial ?_
   refine LH_two (i := 9) (j := 13) (by kernel_rfl) ?_ ?_
   ·have hq42 : Okp nodS h35 pd (at_nod Lc ((k : Int) - 1).toNat) := hb1.okp (by first | omega | (simp; omega))
    refine LO_yld (i := 9) rfl (Y_ldrA0 (k := ((k : Int) - 1).toNat) (us := [.int .i64 ((at_nod Lc ((k : Int) - 1).toNat).kind), str ((at_nod Lc ((k : Int) - 1).toNat).path), .int .i64 ((at_nod Lc ((k : Int) - 1).toNat).mode), str ((at_nod Lc ((k : Int) - 1).toNat).target), ((at_nod Lc ((k : Int) - 1).toNat).dv), .int .i64 ((at_nod Lc ((k : Int) - 1).toNat).cls)]) Tryd.underlying48 rfl (show _ = some 6 by kernel_rfl) rfl rfl (hb1.rows (by first | omega | (simp; omega))) (by first | omega | (simp; omega)) rfl) rfl rfl rfl trivial ?_
    refine LH_one (i := 13) (by kernel_rfl) ?_
    have hq43 : Okp nodS h35 pd (at_nod Lc ((k : Int)).toNat) := hb1.okp (by first | omega | (simp; omega))
    refine LO_yld (i := 13) rfl (Y_ldrA0 (k := ((k : Int)).toNat) (us := [.int .i64 ((at_nod Lc ((k : Int)).toNat).kind), str ((at_nod Lc ((k : Int)).toNat).path), .int .i64 ((at_nod Lc ((k : Int)).toNat).mode), str ((at_nod Lc ((k : Int)).toNat).target), ((at_nod Lc ((k : Int)).toNat).dv), .int .i64 ((at_nod Lc ((k : Int)).toNat).cls)]) Tryd.underlying48 rfl (show _ = some 6 by kernel_rfl) rfl rfl (hb1.rows (by first | omega | (simp; omega))) (by first | omega | (simp; omega)) rfl) rfl rfl rfl trivial ?_
    refine LH_take (i := 14) rfl (fun h_ hI_ => Y_idxB Tryd.underlying32 (show _ = some 6 by kernel_rfl) rfl rfl (by first | omega | (simp; omega)) (by first | omega | (simp; omega))) rfl rfl rfl (by kernel_rfl) (by kernel_rfl) (by kernel_rfl) (fun _ _ _ => by rintro ⟨_, _, h_, _⟩; cases h_) trivial ?_
    refine LH_one (i := 15) (by kernel_rfl) ?_
    refine LO_dos (i := 15) rfl (D_rsetA (S := nodS) (us := [.int .i64 ((at_nod Lc ((k : Int) - 1).toNat).kind), str ((at_nod Lc ((k : Int) - 1).toNat).path), .int .i64 ((at_nod Lc ((k : Int) - 1).toNat).mode), str ((at_nod Lc ((k : Int) - 1).toNat).target), ((at_nod Lc ((k : Int) - 1).toNat).dv), .int .i64 ((at_nod Lc ((k : Int) - 1).toNat).cls)]) (a := (at_nod Lc ((k : Int) - 1).toNat)) (k := ((k : Int)).toNat) (show _ = some 6 by kernel_rfl) rfl rfl rfl rfl hb1 (by first | omega | (simp; omega)) rfl hq42.1 hq42.2 hpB) rfl rfl ?_
    rintro h36 ⟨hx44, -, hb45⟩
    refine ⟨trivial, ?_⟩
    refine LH_take (i := 16) rfl (fun h_ hI_ => Y_idxB Tryd.underlying32 (show _ = some 6 by kernel_rfl) rfl rfl (by first | omega | (simp; omega)) (by first | omega | (simp; omega))) rfl rfl rfl (by kernel_rfl) (by kernel_rfl) (by kernel_rfl) (fun _ _ _ => by rintro ⟨_, _, h_, _⟩; cases h_) trivial ?_
    refine LH_one (i := 17) (by kernel_rfl) ?_
    have hc48 := (hq43.only hx44 hpB)
    refine LO_dos (i := 17) rfl (D_rsetA (S := nodS) (us := [.int .i64 ((at_nod Lc ((k : Int)).toNat).kind), str ((at_nod Lc ((k : Int)).toNat).path), .int .i64 ((at_nod Lc ((k : Int)).toNat).mode), str ((at_nod Lc ((k : Int)).toNat).target), ((at_nod Lc ((k : Int)).toNat).dv), .int .i64 ((at_nod Lc ((k : Int)).toNat).cls)]) (a := (at_nod Lc ((k : Int)).toNat)) (k := ((k : Int) - 1).toNat) (show _ = some 6 by kernel_rfl) rfl rfl rfl rfl hb45 (by first | omega | (simp; omega)) rfl hc48.1 hc48.2 hpB) rfl rfl ?_
    rintro h37 ⟨hx46, -, hb47⟩
    refine ⟨trivial, ?_⟩
    refine LH_done (by kernel_rfl) ?_
    refine X_block (X_then ?_)
    refine W_sub _ (tk7 0 1 2 3 4 14 17) ?_
    refine W_region ?_
    refine Mv ?_
    refine Ly (Y_sub rfl rfl (by omega) (by omega)) ?_
    refine Av ?_
    refine L_nil ?_
    refine X_loop ((k - 1, ((Lc.set (((k : Int)).toNat) (at_nod Lc ((k : Int) - 1).toNat)).set (((k : Int) - 1).toNat) (at_nod Lc ((k : Int)).toNat)))) (sk6 0 1 2 3 4 14 rfl rfl rfl rfl rfl rfl (sk1 17 (lki rfl (by omega)) sN)) ?_ ?_
    ·exact ⟨by omega, by omega, by simp [hLl], by rw [show ((k : Int) - 1).toNat = k - 1 by omega, show k - 1 - i = k - i - 1 by omega]; exact (shr_step (by omega)).symm.trans hT2, (Only.trans (Only.trans (Only.trans (Only.refl _ _) hx2 (fun _ hb_ => .inl hb_)) hx44 (fun _ hb_ => .inl hb_)) hx46 (fun _ hb_ => .inl hb_)), hb47⟩
    (try dsimp only)
    omega
   have hq49 : Okp nodS h35 pd (at_nod Lc ((k : Int)).toNat) := hb1.okp (by first | omega | (simp; omega))
   refine LO_yld (i := 13) rfl (Y_ldrA0 (k := ((k : Int)).toNat) (us := [.int .i64 ((at_nod Lc ((k : Int)).toNat).kind), str ((at_nod Lc ((k : Int)).toNat).path), .int .i64 ((at_nod Lc ((k : Int)).toNat).mode), str ((at_nod Lc ((k : Int)).toNat).target), ((at_nod Lc ((k : Int)).toNat).dv), .int .i64 ((at_nod Lc ((k : Int)).toNat).cls)]) Tryd.underlying48 rfl (show _ = some 6 by kernel_rfl) rfl rfl (hb1.rows (by first | omega | (simp; omega))) (by first | omega | (simp; omega)) rfl) rfl rfl rfl trivial ?_
   refine LH_one (i := 9) (by kernel_rfl) ?_
   have hq50 : Okp nodS h35 pd (at_nod Lc ((k : Int) - 1).toNat) := hb1.okp (by first | omega | (simp; omega))
   refine LO_yld (i := 9) rfl (Y_ldrA0 (k := ((k : Int) - 1).toNat) (us := [.int .i64 ((at_nod Lc ((k : Int) - 1).toNat).kind), str ((at_nod Lc ((k : Int) - 1).toNat).path), .int .i64 ((at_nod Lc ((k : Int) - 1).toNat).mode), str ((at_nod Lc ((k : Int) - 1).toNat).target), ((at_nod Lc ((k : Int) - 1).toNat).dv), .int .i64 ((at_nod Lc ((k : Int) - 1).toNat).cls)]) Tryd.underlying48 rfl (show _ = some 6 by kernel_rfl) rfl rfl (hb1.rows (by first | omega | (simp; omega))) (by first | omega | (simp; omega)) rfl) rfl rfl rfl trivial ?_
   refine LH_take (i := 14) rfl (fun h_ hI_ => Y_idxB Tryd.underlying32 (show _ = some 6 by kernel_rfl) rfl rfl (by first | omega | (simp; omega)) (by first | omega | (simp; omega))) rfl rfl rfl (by kernel_rfl) (by kernel_rfl) (by kernel_rfl) (fun _ _ _ => by rintro ⟨_, _, h_, _⟩; cases h_) trivial ?_
   refine LH_one (i := 15) (by kernel_rfl) ?_
   refine LO_dos (i := 15) rfl (D_rsetA (S := nodS) (us := [.int .i64 ((at_nod Lc ((k : Int) - 1).toNat).kind), str ((at_nod Lc ((k : Int) - 1).toNat).path), .int .i64 ((at_nod Lc ((k : Int) - 1).toNat).mode), str ((at_nod Lc ((k : Int) - 1).toNat).target), ((at_nod Lc ((k : Int) - 1).toNat).dv), .int .i64 ((at_nod Lc ((k : Int) - 1).toNat).cls)]) (a := (at_nod Lc ((k : Int) - 1).toNat)) (k := ((k : Int)).toNat) (show _ = some 6 by kernel_rfl) rfl rfl rfl rfl hb1 (by first | omega | (simp; omega)) rfl hq50.1 hq50.2 hpB) rfl rfl ?_
   rintro h38 ⟨hx51, -, hb52⟩
   refine ⟨trivial, ?_⟩
   refine LH_take (i := 16) rfl (fun h_ hI_ => Y_idxB Tryd.underlying32 (show _ = some 6 by kernel_rfl) rfl rfl (by first | omega | (simp; omega)) (by first | omega | (simp; omega))) rfl rfl rfl (by kernel_rfl) (by kernel_rfl) (by kernel_rfl) (fun _ _ _ => by rintro ⟨_, _, h_, _⟩; cases h_) trivial ?_
   refine LH_one (i := 17) (by kernel_rfl) ?_
   have hc55 := (hq49.only hx51 hpB)
   refine LO_dos (i := 17) rfl (D_rsetA (S := nodS) (us := [.int .i64 ((at_nod Lc ((k : Int)).toNat).kind), str ((at_nod Lc ((k : Int)).toNat).path), .int .i64 ((at_nod Lc ((k : Int)).toNat).mode), str ((at_nod Lc ((k : Int)).toNat).target), ((at_nod Lc ((k : Int)).toNat).dv), .int .i64 ((at_nod Lc ((k : Int)).toNat).cls)]) (a := (at_nod Lc ((k : Int)).toNat)) (k := ((k : Int) - 1).toNat) (show _ = some 6 by kernel_rfl) rfl rfl rfl rfl hb52 (by first | omega | (simp; omega)) rfl hc55.1 hc55.2 hpB) rfl rfl ?_
   rintro h39 ⟨hx53, -, hb54⟩
   refine ⟨trivial, ?_⟩
   refine LH_done (by kernel_rfl) ?_
   refine X_block (X_then ?_)
   refine W_sub _ (tk7 0 1 2 3 4 14 17) ?_
   refine W_region ?_
   refine Mv ?_
   refine Ly (Y_sub rfl rfl (by omega) (by omega)) ?_
   refine Av ?_
   refine L_nil ?_
   refine X_loop ((k - 1, ((Lc.set (((k : Int)).toNat) (at_nod Lc ((k : Int) - 1).toNat)).set (((k : Int) - 1).toNat) (at_nod Lc ((k : Int)).toNat)))) (sk6 0 1 2 3 4 14 rfl rfl rfl rfl rfl rfl (sk1 17 (lki rfl (by omega)) sN)) ?_ ?_
   ·exact ⟨by omega, by omega, by simp [hLl], by rw [show ((k : Int) - 1).toNat = k - 1 by omega, show k - 1 - i = k - i - 1 by omega]; exact (shr_step (by omega)).symm.trans hT2, (Only.trans (Only.trans (Only.trans (Only.refl _ _) hx2 (fun _ hb_ => .inl hb_)) hx51 (fun _ hb_ => .inl hb_)) hx53 (fun _ hb_ => .inl hb_)), hb54⟩
   (try dsimp only)
   omega
  refine W_exit ?_
  refine X_then_exit (X_then_exit ?_)
  refine X_block_hit ?_
  refine X_then ?_
  refine W_sub _ (tk5 0 1 2 3 4) ?_
  refine W_ret (X_then_ret ?_)
  refine X_end0 rfl ?_
  refine ⟨rfl, (Only.trans (Only.refl _ _) hx2 (fun _ hb_ => .inl hb_)), RBuf.congr hb1 ?_⟩
  rw [smf_2 (by omega) (by omega), ← hT, bsr_end (by omega), ← hT2, show k - i = 0 by omega]; rfl
 refine Ws ?_
 refine W_sub _ (tk5 0 1 2 3 4) ?_
 refine Wr ?_
 refine Mv ?_
 refine Mv ?_
 refine Ly (Y_add rfl rfl (by omega) (by omega)) ?_
 refine Ly (Y_convs Tryd.underlying3 Tryd.underlying110 rfl (wrap_u64b (by first | omega | (simp; omega)) (by first | omega | (simp; omega)))) ?_
 refine Ly (Y_shru rfl rfl (by first | omega | (simp; omega)) (by omega)) ?_
 refine Ly (Y_convs Tryd.underlying110 Tryd.underlying3 rfl (wrap_i64 (by first | omega | (simp; omega)) (by first | omega | (simp; omega)))) ?_
 refine Av ?_
 refine Nx ?_
 refine W_sub _ (tk6 18 0 1 2 3 4) ?_
 rw [half_eq]
 refine Wr ?_
 refine Mv ?_
 refine Mv ?_
 refine Ly (Y_add rfl rfl (by omega) (by omega)) ?_
 refine Av ?_
 refine Nx ?_
 refine W_sub _ (tk7 19 18 0 1 2 3 4) ?_
 refine Wr ?_
 refine Av ?_
 refine Av ?_
 refine Nx ?_
 refine W_cut (S := Unit) (fun _u => [(19, .int .i64 ((((a + b) / 2 : Nat) : Int) + (m : Int))), (18, .int .i64 ((((a + b) / 2 : Nat) : Int))), (0, .slice (some ⟨B, 0, none⟩) N N), (1, .int .i64 ((a : Int))), (2, .int .i64 ((m : Int))), (3, .int .i64 ((b : Int))), (4, .func (.func 54) #[] #[]), (20, .int .i64 ((sS0 a m b : Int))), (21, .int .i64 ((sR0 a m b : Int)))]) (fun _u h' => h' = h) ?_ ?_
 ·refine Wr ?_
  refine Mv ?_
  refine Mv ?_
  refine Ly (Y_gtr rfl rfl) ?_
  refine Nx ?_
  refine W_sub _ (sk2 140 21 rfl rfl (tk8 20 19 18 0 1 2 3 4)) ?_
  refine W_splitd rfl (fun c => ?_) (fun c => ?_)
  ·refine Wr ?_
   refine Mv ?_
   refine Mv ?_
   refine Ly (Y_sub rfl rfl (by omega) (by omega)) ?_
   refine Av ?_
   refine Nx ?_
   refine W_sub _ (sk1 20 rfl (tk8 21 19 18 0 1 2 3 4)) ?_
   refine W_region ?_
   refine Mv ?_
   refine Av ?_
   refine L_nil ?_
   refine X_cut (()) (sk7 19 18 0 1 2 3 4 rfl rfl rfl rfl rfl rfl rfl (sk1 20 (lki rfl (by rw [sS0, if_pos (by omega)]; omega)) (sk1 21 (lki rfl (by rw [sR0, if_pos (by omega)])) sN))) ?_
   rfl
  refine Wr ?_
  refine Mv ?_
  refine Av ?_
  refine Nx ?_
  refine W_sub _ (sk1 20 rfl (tk8 21 19 18 0 1 2 3 4)) ?_
  refine W_region ?_
  refine Mv ?_
  refine Av ?_
  refine L_nil ?_
  refine X_cut (()) (sk7 19 18 0 1 2 3 4 rfl rfl rfl rfl rfl rfl rfl (sk1 20 (lki rfl (by rw [sS0, if_neg (by omega)])) (sk1 21 (lki rfl (by rw [sR0, if_neg (by omega)])) sN))) ?_
  rfl
 rintro _u h rfl
 show W _ _ _ _ _ [(19, .int .i64 ((((a + b) / 2 : Nat) : Int) + (m : Int))), (18, .int .i64 ((((a + b) / 2 : Nat) : Int))), (0, .slice (some ⟨B, 0, none⟩) N N), (1, .int .i64 ((a : Int))), (2, .int .i64 ((m : Int))), (3, .int .i64 ((b : Int))), (4, .func (.func 54) #[] #[]), (20, .int .i64 ((sS0 a m b : Int))), (21, .int .i64 ((sR0 a m b : Int)))] _
 have q3 := sbnd ha1 ha2 q1 q2
 refine Wr ?_
 refine Mv ?_
 refine Ly (Y_sub rfl rfl (by omega) (by omega)) ?_
 refine Av ?_
 refine Nx ?_
 refine W_sub _ (sk2 22 19 rfl rfl (tk8 18 0 1 2 3 4 20 21)) ?_
 refine W_seq (W_block ?_)
 refine W_loop (S := Nat × Nat × Nat) (fun (g, s, r) => [(22, .int .i64 (((((a + b) / 2 : Nat) : Int) + (m : Int)) - 1)), (19, .int .i64 ((((a + b) / 2 : Nat) : Int) + (m : Int))), (18, .int .i64 ((((a + b) / 2 : Nat) : Int))), (0, .slice (some ⟨B, 0, none⟩) N N), (1, .int .i64 ((a : Int))), (2, .int .i64 ((m : Int))), (3, .int .i64 ((b : Int))), (4, .func (.func 54) #[] #[]), (20, .int .i64 ((s : Int))), (21, .int .i64 ((r : Int)))]) (fun (g, s, r) h' => sS0 a m b ≤ s ∧ s ≤ r ∧ r ≤ sR0 a m b ∧ r - s ≤ g ∧ bsr (pl3 L ((a + b) / 2 + m - 1)) g s r = sS L a m b ∧ Ext h h') (fun (g, s, r) => g) (sR0 a m b - sS0 a m b, sS0 a m b, sR0 a m b) (sk2 22 19 rfl rfl (tk8 18 0 1 2 3 4 20 21)) ?_ ?_
 ·exact ⟨by omega, by omega, by omega, by omega, rfl, (Ext.refl _)⟩
 rintro ⟨g, s, r⟩ h40 ⟨hi, hij, hjb, hg, hT, hx⟩
 show W _ _ _ _ _ [(22, .int .i64 (((((a + b) / 2 : Nat) : Int) + (m : Int)) - 1)), (19, .int .i64 ((((a + b) / 2 : Nat) : Int) + (m : Int))), (18, .int .i64 ((((a + b) / 2 : Nat) : Int))), (0, .slice (some ⟨B, 0, none⟩) N N), (1, .int .i64 ((a : Int))), (2, .int .i64 ((m : Int))), (3, .int .i64 ((b : Int))), (4, .func (.func 54) #[] #[]), (20, .int .i64 ((s : Int))), (21, .int .i64 ((r : Int)))] _
 refine W_seq (W_seq (W_region ?_))
 refine Mv ?_
 refine Mv ?_
 refine Ly (Y_lss rfl rfl) ?_
 refine Nx ?_
 refine W_sub _ (sk3 151 22 19 rfl rfl rfl (tk8 18 0 1 2 3 4 20 21)) ?_
 refine W_splitd rfl (fun c => ?_) (fun c => ?_)
 ·refine Ws ?_
  refine W_sub _ (sk2 22 19 rfl rfl (tk8 18 0 1 2 3 4 20 21)) ?_
  refine W_block (W_seq (W_region ?_))
  refine Mv ?_
  refine Mv ?_
  refine Ly (Y_add rfl rfl (by omega) (by omega)) ?_
  refine Ly (Y_convs Tryd.underlying3 Tryd.underlying110 rfl (wrap_u64b (by first | omega | (simp; omega)) (by first | omega | (simp; omega)))) ?_
  refine Ly (Y_shru rfl rfl (by first | omega | (simp; omega)) (by omega)) ?_
  refine Ly (Y_convs Tryd.underlying110 Tryd.underlying3 rfl (wrap_i64 (by first | omega | (simp; omega)) (by first | omega | (simp; omega)))) ?_
  refine Av ?_
  refine Nx ?_
  refine W_sub _ (sk3 23 22 19 rfl rfl rfl (tk8 18 0 1 2 3 4 20 21)) ?_
  rw [half_eq]
  refine W_seq ?_
  refine W_pers [(23, .int .i64 ((((s + r) / 2 : Nat) : Int))), (22, .int .i64 (((((a + b) / 2 : Nat) : Int) + (m : Int)) - 1)), (19, .int .i64 ((((a + b) / 2 : Nat) : Int) + (m : Int))), (18, .int .i64 ((((a + b) / 2 : Nat) : Int))), (0, .slice (some ⟨B, 0, none⟩) N N), (1, .int .i64 ((a : Int))), (2, .int .i64 ((m : Int))), (3, .int .i64 ((b : Int))), (4, .func (.func 54) #[] #[]), (20, .int .i64 ((s : Int))), (21, .int .i64 ((r : Int)))] (sk3 23 22 19 rfl rfl rfl (tk8 18 0 1 2 3 4 20 21)) (by kernel_rfl) ?_
  refine LP_op 0 (fun _ vv => .func (.func 54) #[] #[] = vv) [] rfl rfl (by kernel_rfl) (fun _ _ _ _ p => p) ?_ ?_
  ·intro h41 hx56
   refine Needs_nil ?_
   refine Stp_yld (Y_move rfl) rfl ?_
   exact rfl
  refine LP_op 1 (fun _ vv => .slice (some ⟨B, 0, none⟩) N N = vv) [] rfl rfl (by kernel_rfl) (fun _ _ _ _ p => p) ?_ ?_
  ·intro h42 hx57
   refine Needs_nil ?_
   refine Stp_yld (Y_move rfl) rfl ?_
   exact rfl
  refine LP_op 2 (fun _ vv => .int .i64 (((((a + b) / 2 : Nat) : Int) + (m : Int)) - 1) = vv) [] rfl rfl (by kernel_rfl) (fun _ _ _ _ p => p) ?_ ?_
  ·intro h43 hx58
   refine Needs_nil ?_
   refine Stp_yld (Y_move rfl) rfl ?_
   exact rfl
  refine LP_op 3 (fun _ vv => .int .i64 ((((s + r) / 2 : Nat) : Int)) = vv) [] rfl rfl (by kernel_rfl) (fun _ _ _ _ p => p) ?_ ?_
  ·intro h44 hx59
   refine Needs_nil ?_
   refine Stp_yld (Y_move rfl) rfl ?_
   exact rfl
  refine LP_op 4 (fun _ vv => .int .i64 ((((((a + b) / 2 : Nat) : Int) + (m : Int)) - 1) - (((s + r) / 2 : Nat) : Int)) = vv) [(2, 160), (3, 161)] rfl rfl (by kernel_rfl) (fun _ _ _ _ p => p) ?_ ?_
  ·intro h45 hx60
   rintro _ rfl
   rintro _ rfl
   refine Needs_nil ?_
   refine Stp_yld (Y_sub rfl rfl (by omega) (by omega)) rfl ?_
   exact rfl
  refine LP_op 5 (fun _ vv => .pointer (some (elemAddr (.slice (some ⟨B, 0, none⟩) N N) (((((((a + b) / 2 : Nat) : Int) + (m : Int)) - 1) - (((s + r) / 2 : Nat) : Int)).toNat * 6))) = vv) [(4, 162), (1, 159)] rfl rfl (by kernel_rfl) (fun _ _ _ _ p => p) ?_ ?_
  ·intro h46 hx61
   rintro _ rfl
   rintro _ rfl
   refine Needs_nil ?_
   refine Stp_yld (Y_idxB Tryd.underlying32 (show _ = some 6 by kernel_rfl) rfl rfl (by first | omega | (simp; omega)) (by first | omega | (simp; omega))) rfl ?_
   exact rfl
  refine LP_op 6 (fun _ vv => .agg #[.int .i64 ((at_nod L ((((((a + b) / 2 : Nat) : Int) + (m : Int)) - 1) - (((s + r) / 2 : Nat) : Int)).toNat).kind), str ((at_nod L ((((((a + b) / 2 : Nat) : Int) + (m : Int)) - 1) - (((s + r) / 2 : Nat) : Int)).toNat).path), .int .i64 ((at_nod L ((((((a + b) / 2 : Nat) : Int) + (m : Int)) - 1) - (((s + r) / 2 : Nat) : Int)).toNat).mode), str ((at_nod L ((((((a + b) / 2 : Nat) : Int) + (m : Int)) - 1) - (((s + r) / 2 : Nat) : Int)).toNat).target), ((at_nod L ((((((a + b) / 2 : Nat) : Int) + (m : Int)) - 1) - (((s + r) / 2 : Nat) : Int)).toNat).dv), .int .i64 ((at_nod L ((((((a + b) / 2 : Nat) : Int) + (m : Int)) - 1) - (((s + r) / 2 : Nat) : Int)).toNat).cls)] = vv) [(5, 163)] rfl rfl (by kernel_rfl) (fun _ _ _ _ p => p) ?_ ?_
  ·intro h47 hx62
   rintro _ rfl
   refine Needs_nil ?_
   refine Stp_yld (Y_ldrA0 (k := ((((((a + b) / 2 : Nat) : Int) + (m : Int)) - 1) - (((s + r) / 2 : Nat) : Int)).toNat) (us := [.int .i64 ((at_nod L ((((((a + b) / 2 : Nat) : Int) + (m : Int)) - 1) - (((s + r) / 2 : Nat) : Int)).toNat).kind), str ((at_nod L ((((((a + b) / 2 : Nat) : Int) + (m : Int)) - 1) - (((s + r) / 2 : Nat) : Int)).toNat).path), .int .i64 ((at_nod L ((((((a + b) / 2 : Nat) : Int) + (m : Int)) - 1) - (((s + r) / 2 : Nat) : Int)).toNat).mode), str ((at_nod L ((((((a + b) / 2 : Nat) : Int) + (m : Int)) - 1) - (((s + r) / 2 : Nat) : Int)).toNat).target), ((at_nod L ((((((a + b) / 2 : Nat) : Int) + (m : Int)) - 1) - (((s + r) / 2 : Nat) : Int)).toNat).dv), .int .i64 ((at_nod L ((((((a + b) / 2 : Nat) : Int) + (m : Int)) - 1) - (((s + r) / 2 : Nat) : Int)).toNat).cls)]) Tryd.underlying48 rfl (show _ = some 6 by kernel_rfl) rfl rfl ((hb.ext (hx.trans hx62)).rows (by first | omega | (simp; omega))) (by first | omega | (simp; omega)) rfl) rfl ?_
   exact rfl
  refine LP_op 7 (fun _ vv => .slice (some ⟨B, 0, none⟩) N N = vv) [] rfl rfl (by kernel_rfl) (fun _ _ _ _ p => p) ?_ ?_
  ·intro h48 hx63
   refine Needs_nil ?_
   refine Stp_yld (Y_move rfl) rfl ?_
   exact rfl
  refine LP_op 8 (fun _ vv => .int .i64 ((((s + r) / 2 : Nat) : Int)) = vv) [] rfl rfl (by kernel_rfl) (fun _ _ _ _ p => p) ?_ ?_
  ·intro h49 hx64
   refine Needs_nil ?_
   refine Stp_yld (Y_move rfl) rfl ?_
   exact rfl
  refine LP_op 9 (fun _ vv => .pointer (some (elemAddr (.slice (some ⟨B, 0, none⟩) N N) (((((s + r) / 2 : Nat) : Int)).toNat * 6))) = vv) [(7, 165), (8, 166)] rfl rfl (by kernel_rfl) (fun _ _ _ _ p => p) ?_ ?_
  ·intro h50 hx65
   rintro _ rfl
   rintro _ rfl
   refine Needs_nil ?_
   refine Stp_yld (Y_idxB Tryd.underlying32 (show _ = some 6 by kernel_rfl) rfl rfl (by first | omega | (simp; omega)) (by first | omega | (simp; omega))) rfl ?_
   exact rfl
  refine LP_op 10 (fun _ vv => .agg #[.int .i64 ((at_nod L ((((s + r) / 2 : Nat) : Int)).toNat).kind), str ((at_nod L ((((s + r) / 2 : Nat) : Int)).toNat).path), .int .i64 ((at_nod L ((((s + r) / 2 : Nat) : Int)).toNat).mode), str ((at_nod L ((((s + r) / 2 : Nat) : Int)).toNat).target), ((at_nod L ((((s + r) / 2 : Nat) : Int)).toNat).dv), .int .i64 ((at_nod L ((((s + r) / 2 : Nat) : Int)).toNat).cls)] = vv) [(9, 167)] rfl rfl (by kernel_rfl) (fun _ _ _ _ p => p) ?_ ?_
  ·intro h51 hx66
   rintro _ rfl
   refine Needs_nil ?_
   refine Stp_yld (Y_ldrA0 (k := ((((s + r) / 2 : Nat) : Int)).toNat) (us := [.int .i64 ((at_nod L ((((s + r) / 2 : Nat) : Int)).toNat).kind), str ((at_nod L ((((s + r) / 2 : Nat) : Int)).toNat).path), .int .i64 ((at_nod L ((((s + r) / 2 : Nat) : Int)).toNat).mode), str ((at_nod L ((((s + r) / 2 : Nat) : Int)).toNat).target), ((at_nod L ((((s + r) / 2 : Nat) : Int)).toNat).dv), .int .i64 ((at_nod L ((((s + r) / 2 : Nat) : Int)).toNat).cls)]) Tryd.underlying48 rfl (show _ = some 6 by kernel_rfl) rfl rfl ((hb.ext (hx.trans hx66)).rows (by first | omega | (simp; omega))) (by first | omega | (simp; omega)) rfl) rfl ?_
   exact rfl
  refine LP_op 11 (fun _ vv => .int .i64 (pcmp (at_nod L ((((((a + b) / 2 : Nat) : Int) + (m : Int)) - 1) - (((s + r) / 2 : Nat) : Int)).toNat).path (at_nod L ((((s + r) / 2 : Nat) : Int)).toNat).path) = vv) [(10, 168), (6, 164), (0, 158)] rfl rfl (by kernel_rfl) (fun _ _ _ _ p => p) ?_ ?_
  ·intro h52 hx67
   rintro _ rfl
   rintro _ rfl
   rintro _ rfl
   refine Needs_nil ?_
   refine Stp_call (E_callv (fs := []) (cs := []) (by kernel_rfl) rfl rfl) (canon_cmp _ (at_nod L ((((((a + b) / 2 : Nat) : Int) + (m : Int)) - 1) - (((s + r) / 2 : Nat) : Int)).toNat) (show Bytes _ ((at_nod L ((((((a + b) / 2 : Nat) : Int) + (m : Int)) - 1) - (((s + r) / 2 : Nat) : Int)).toNat).dv) ((at_nod L ((((((a + b) / 2 : Nat) : Int) + (m : Int)) - 1) - (((s + r) / 2 : Nat) : Int)).toNat).data) from ((hb.ext (hx.trans hx67)).okp (k := ((((((a + b) / 2 : Nat) : Int) + (m : Int)) - 1) - (((s + r) / 2 : Nat) : Int)).toNat) (by first | omega | (simp; omega))).1) (at_nod L ((((s + r) / 2 : Nat) : Int)).toNat) (show Bytes _ ((at_nod L ((((s + r) / 2 : Nat) : Int)).toNat).dv) ((at_nod L ((((s + r) / 2 : Nat) : Int)).toNat).data) from ((hb.ext (hx.trans hx67)).okp (k := ((((s + r) / 2 : Nat) : Int)).toNat) (by first | omega | (simp; omega))).1)) rfl ?_
   rintro _ h53 ⟨rfl, hx68⟩
   exact ⟨hx68, rfl⟩
  refine LP_op 12 (fun _ vv => .bool (decide ((pcmp (at_nod L ((((((a + b) / 2 : Nat) : Int) + (m : Int)) - 1) - (((s + r) / 2 : Nat) : Int)).toNat).path (at_nod L ((((s + r) / 2 : Nat) : Int)).toNat).path) < 0)) = vv) [(11, 169)] rfl rfl (by kernel_rfl) (fun _ _ _ _ p => p) ?_ ?_
  ·intro h54 hx69
   rintro _ rfl
   refine Needs_nil ?_
   refine Stp_yld (Y_lss rfl rfl) rfl ?_
   exact rfl
  refine LP_op 13 (fun _ vv => .bool (decide (¬ ((pcmp (at_nod L ((((((a + b) / 2 : Nat) : Int) + (m : Int)) - 1) - (((s + r) / 2 : Nat) : Int)).toNat).path (at_nod L ((((s + r) / 2 : Nat) : Int)).toNat).path) < 0))) = vv) [(12, 170)] rfl rfl (by kernel_rfl) (fun _ _ _ _ p => p) ?_ ?_
  ·intro h55 hx70
   rintro _ rfl
   refine Needs_nil ?_
   refine Stp_yld (Y_notd rfl) rfl ?_
   exact rfl
  refine LP_end [(13, 171)] rfl (by kernel_rfl) rfl ?_
  intro h56 hx71
  rintro _ rfl
  refine Needs_nil ?_
  refine X_then ?_
  refine W_splitd rfl (fun d => ?_) (fun d => ?_)
  ·refine W_region ?_
   refine Mv ?_
   refine Ly (Y_add rfl rfl (by omega) (by omega)) ?_
   refine Av ?_
   refine L_nil (X_block ?_)
   refine X_loop ((g - 1, (s + r) / 2 + 1, r)) (sk2 22 19 rfl rfl (tk8 18 0 1 2 3 4 20 21)) ?_ ?_
   ·exact ⟨by omega, by omega, by omega, by omega, (bsr_yes (by omega) (by omega) (pl3_t (by omega) d)).symm.trans hT, (hx.trans hx71)⟩
   (try dsimp only)
   omega
  refine W_region ?_
  refine Mv ?_
  refine Av ?_
  refine L_nil (X_block ?_)
  refine X_loop ((g - 1, s, (s + r) / 2)) (sk2 22 19 rfl rfl (tk8 18 0 1 2 3 4 20 21)) ?_ ?_
  ·exact ⟨by omega, by omega, by omega, by omega, (bsr_no (by omega) (by omega) (pl3_f (by omega) d)).symm.trans hT, (hx.trans hx71)⟩
  (try dsimp only)
  omega
 refine W_exit ?_
 refine X_then_exit (X_then_exit ?_)
 refine X_block_hit ?_
 refine X_then ?_
 refine W_sub _ (tk8 19 18 0 1 2 3 4 20) ?_
 have hs : sS L a m b = s := by rw [← hT, bsr_end (by omega)]
 refine Wr ?_
 refine Mv ?_
 refine Mv ?_
 refine Ly (Y_sub rfl rfl (by omega) (by omega)) ?_
 refine Av ?_
 refine Nx ?_
 refine W_sub _ (tk8 24 18 0 1 2 3 4 20) ?_
 rw [show ((((a + b) / 2 : Nat) : Int) + (m : Int)) - (s : Int) = (((a + b) / 2 + m - s : Nat) : Int) by omega]
 refine W_cut (S := List Nod) (fun L1 => [(24, .int .i64 ((((a + b) / 2 + m - s : Nat) : Int))), (18, .int .i64 ((((a + b) / 2 : Nat) : Int))), (0, .slice (some ⟨B, 0, none⟩) N N), (1, .int .i64 ((a : Int))), (3, .int .i64 ((b : Int))), (4, .func (.func 54) #[] #[]), (20, .int .i64 ((s : Int)))]) (fun L1 h' => L1 = (if s < m ∧ m < (a + b) / 2 + m - s then rot L s m ((a + b) / 2 + m - s) else L) ∧ L1.length = L.length ∧ Only [B] h h' ∧ RBuf nodS h' B pd L1) ?_ ?_
 ·refine W_cut (S := Unit) (fun _ => [(185, .bool (decide (((s : Int) < (m : Int)) ∧ ((m : Int) < (((a + b) / 2 + m - s : Nat) : Int))))), (24, .int .i64 ((((a + b) / 2 + m - s : Nat) : Int))), (18, .int .i64 ((((a + b) / 2 : Nat) : Int))), (0, .slice (some ⟨B, 0, none⟩) N N), (1, .int .i64 ((a : Int))), (2, .int .i64 ((m : Int))), (3, .int .i64 ((b : Int))), (4, .func (.func 54) #[] #[]), (20, .int .i64 ((s : Int)))]) (fun _ h' => h' = h40) ?_ ?_
  ·refine W_region ?_
   refine Mv ?_
   refine Mv ?_
   refine Ly (Y_lss rfl rfl) ?_
   refine Mv ?_
   refine L_splitd (d := 181) rfl (fun e => ?_) (fun e => ?_)
   ·refine Ly (Y_move rfl) ?_
    refine Mv ?_
    refine Ly (Y_lss rfl rfl) ?_
    refine Ly (Y_pick_t rfl rfl) ?_
    refine L_nil ?_
    exact X_cut () (sk1 185 (lkb rfl (by first | (simp only [eq_true e, SB]; done) | (simp only [eq_true e, SB]; rfl))) (sk1 24 rfl (sk1 18 rfl (sk1 0 rfl (sk1 1 rfl (sk1 2 rfl (sk1 3 rfl (sk1 4 rfl (tk1 20))))))))) rfl
   refine Skp ?_
   refine Skp ?_
   refine Skp ?_
   refine Ly (Y_pick_f rfl rfl) ?_
   refine L_nil ?_
   exact X_cut () (sk1 185 (lkb rfl (by first | (simp only [eq_false e, SB]; done) | (simp only [eq_false e, SB]; rfl))) (sk1 24 rfl (sk1 18 rfl (sk1 0 rfl (sk1 1 rfl (sk1 2 rfl (sk1 3 rfl (sk1 4 rfl (tk1 20))))))))) rfl
  rintro _ h40 rfl
  show W _ _ _ _ _ [(185, .bool (decide (((s : Int) < (m : Int)) ∧ ((m : Int) < (((a + b) / 2 + m - s : Nat) : Int))))), (24, .int .i64 ((((a + b) / 2 + m - s : Nat) : Int))), (18, .int .i64 ((((a + b) / 2 : Nat) : Int))), (0, .slice (some ⟨B, 0, none⟩) N N), (1, .int .i64 ((a : Int))), (2, .int .i64 ((m : Int))), (3, .int .i64 ((b : Int))), (4, .func (.func 54) #[] #[]), (20, .int .i64 ((s : Int)))] _
  refine W_splitd rfl (fun c72 => ?_) (fun c72 => ?_)
  ·refine W_region ?_
   refine Mv ?_
   refine Mv ?_
   refine Mv ?_
   refine Mv ?_
   refine Mv ?_
   refine L_call (E_call (by kernel_rfl) rfl) (sort_rotate _ B N L pd (hb.ext hx) (s : Int) (m : Int) (((a + b) / 2 + m - s : Nat) : Int) (by first | omega | rfl | (simp <;> omega)) (by first | omega | rfl | (simp <;> omega)) (by first | omega | rfl | (simp <;> omega)) (by first | omega | rfl | (simp <;> omega)) (by first | omega | rfl | (simp <;> omega)) (by first | omega | rfl | (simp <;> omega)) (by first | omega | rfl | (simp <;> omega))) rfl rfl rfl ?_
   rintro _ h57 ⟨rfl, hx73, hb74⟩
   refine L_nil ?_
   refine X_cut ((rot L (s : Int).toNat (m : Int).toNat (((a + b) / 2 + m - s : Nat) : Int).toNat)) (tk7 24 18 0 1 3 4 20) ?_
   exact ⟨by rw [if_pos ⟨by omega, by omega⟩]; rfl, by simp, (Only.trans (Only.trans (Only.refl _ _) hx (fun _ hb_ => by cases hb_)) hx73 (fun _ hb_ => .inl hb_)), hb74⟩
  refine W_skip ?_
  refine X_cut (L) (tk7 24 18 0 1 3 4 20) ?_
  exact ⟨by rw [if_neg (by omega)], rfl, (Only.trans (Only.refl _ _) hx (fun _ hb_ => by cases hb_)), (hb.ext hx)⟩
 rintro L1 h58 ⟨hL1, hl1, hx3, hb3⟩
 show W _ _ _ _ _ [(24, .int .i64 ((((a + b) / 2 + m - s : Nat) : Int))), (18, .int .i64 ((((a + b) / 2 : Nat) : Int))), (0, .slice (some ⟨B, 0, none⟩) N N), (1, .int .i64 ((a : Int))), (3, .int .i64 ((b : Int))), (4, .func (.func 54) #[] #[]), (20, .int .i64 ((s : Int)))] _
 refine W_cut (S := List Nod) (fun L2 => [(24, .int .i64 ((((a + b) / 2 + m - s : Nat) : Int))), (18, .int .i64 ((((a + b) / 2 : Nat) : Int))), (0, .slice (some ⟨B, 0, none⟩) N N), (3, .int .i64 ((b : Int))), (4, .func (.func 54) #[] #[])]) (fun L2 h' => L2 = (if a < s ∧ s < (a + b) / 2 then smf f a s ((a + b) / 2) L1 else L1) ∧ L2.length = L.length ∧ Only [B] h h' ∧ RBuf nodS h' B pd L2) ?_ ?_
 ·refine W_cut (S := Unit) (fun _ => [(199, .bool (decide (((a : Int) < (s : Int)) ∧ ((s : Int) < (((a + b) / 2 : Nat) : Int))))), (24, .int .i64 ((((a + b) / 2 + m - s : Nat) : Int))), (18, .int .i64 ((((a + b) / 2 : Nat) : Int))), (0, .slice (some ⟨B, 0, none⟩) N N), (1, .int .i64 ((a : Int))), (3, .int .i64 ((b : Int))), (4, .func (.func 54) #[] #[]), (20, .int .i64 ((s : Int)))]) (fun _ h' => h' = h58) ?_ ?_
  ·refine W_region ?_
   refine Mv ?_
   refine Mv ?_
   refine Ly (Y_lss rfl rfl) ?_
   refine Mv ?_
   refine L_splitd (d := 195) rfl (fun e2 => ?_) (fun e2 => ?_)
   ·refine Ly (Y_move rfl) ?_
    refine Mv ?_
    refine Ly (Y_lss rfl rfl) ?_
    refine Ly (Y_pick_t rfl rfl) ?_
    refine L_nil ?_
    exact X_cut () (sk1 199 (lkb rfl (by first | (simp only [eq_true e2, SB]; done) | (simp only [eq_true e2, SB]; rfl))) (sk1 24 rfl (sk1 18 rfl (sk1 0 rfl (sk1 1 rfl (sk1 3 rfl (sk1 4 rfl (tk1 20)))))))) rfl
   refine Skp ?_
   refine Skp ?_
   refine Skp ?_
   refine Ly (Y_pick_f rfl rfl) ?_
   refine L_nil ?_
   exact X_cut () (sk1 199 (lkb rfl (by first | (simp only [eq_false e2, SB]; done) | (simp only [eq_false e2, SB]; rfl))) (sk1 24 rfl (sk1 18 rfl (sk1 0 rfl (sk1 1 rfl (sk1 3 rfl (sk1 4 rfl (tk1 20)))))))) rfl
  rintro _ h58 rfl
  show W _ _ _ _ _ [(199, .bool (decide (((a : Int) < (s : Int)) ∧ ((s : Int) < (((a + b) / 2 : Nat) : Int))))), (24, .int .i64 ((((a + b) / 2 + m - s : Nat) : Int))), (18, .int .i64 ((((a + b) / 2 : Nat) : Int))), (0, .slice (some ⟨B, 0, none⟩) N N), (1, .int .i64 ((a : Int))), (3, .int .i64 ((b : Int))), (4, .func (.func 54) #[] #[]), (20, .int .i64 ((s : Int)))] _
  refine W_splitd rfl (fun c75 => ?_) (fun c75 => ?_)
  ·refine W_region ?_
   refine Mv ?_
   refine Mv ?_
   refine Mv ?_
   refine Mv ?_
   refine Mv ?_
   refine L_call (E_call (by kernel_rfl) rfl) (ih _ B N L1 pd hb3 a s (((((a + b) / 2 : Nat) : Int)).toNat) (by first | omega | rfl | (simp <;> omega)) (by first | omega | rfl | (simp <;> omega)) (by first | omega | rfl | (simp <;> omega)) (by first | omega | rfl | (simp <;> omega)) (by first | omega | rfl | (simp <;> omega)) (by first | omega | rfl | (simp <;> omega)) (by first | omega | rfl | (simp <;> omega))) rfl rfl rfl ?_
   rintro _ h59 ⟨rfl, hx76, hb77⟩
   refine L_nil ?_
   refine X_cut ((smf f a s (((((a + b) / 2 : Nat) : Int)).toNat) L1)) (tk5 24 18 0 3 4) ?_
   exact ⟨by rw [if_pos ⟨by omega, by omega⟩]; rfl, by simp [hl1], (Only.trans (Only.trans (Only.refl _ _) hx3 (fun _ hb_ => .inl hb_)) hx76 (fun _ hb_ => .inl hb_)), hb77⟩
  refine W_skip ?_
  refine X_cut (L1) (tk5 24 18 0 3 4) ?_
  exact ⟨by rw [if_neg (by omega)], hl1, (Only.trans (Only.refl _ _) hx3 (fun _ hb_ => .inl hb_)), hb3⟩
 rintro L2 h60 ⟨hL2, hl2, hx4, hb4⟩
 show W _ _ _ _ _ [(24, .int .i64 ((((a + b) / 2 + m - s : Nat) : Int))), (18, .int .i64 ((((a + b) / 2 : Nat) : Int))), (0, .slice (some ⟨B, 0, none⟩) N N), (3, .int .i64 ((b : Int))), (4, .func (.func 54) #[] #[])] _
 refine W_cut (S := Unit) (fun _ => [(213, .bool (decide (((((a + b) / 2 : Nat) : Int) < (((a + b) / 2 + m - s : Nat) : Int)) ∧ ((((a + b) / 2 + m - s : Nat) : Int) < (b : Int))))), (24, .int .i64 ((((a + b) / 2 + m - s : Nat) : Int))), (18, .int .i64 ((((a + b) / 2 : Nat) : Int))), (0, .slice (some ⟨B, 0, none⟩) N N), (3, .int .i64 ((b : Int))), (4, .func (.func 54) #[] #[])]) (fun _ h' => h' = h60) ?_ ?_
 ·refine W_region ?_
  refine Mv ?_
  refine Mv ?_
  refine Ly (Y_lss rfl rfl) ?_
  refine Mv ?_
  refine L_splitd (d := 209) rfl (fun e3 => ?_) (fun e3 => ?_)
  ·refine Ly (Y_move rfl) ?_
   refine Mv ?_
   refine Ly (Y_lss rfl rfl) ?_
   refine Ly (Y_pick_t rfl rfl) ?_
   refine L_nil ?_
   exact X_cut () (sk1 213 (lkb rfl (by first | (simp only [eq_true e3, SB]; done) | (simp only [eq_true e3, SB]; rfl))) (sk1 24 rfl (sk1 18 rfl (sk1 0 rfl (sk1 3 rfl (tk1 4)))))) rfl
  refine Skp ?_
  refine Skp ?_
  refine Skp ?_
  refine Ly (Y_pick_f rfl rfl) ?_
  refine L_nil ?_
  exact X_cut () (sk1 213 (lkb rfl (by first | (simp only [eq_false e3, SB]; done) | (simp only [eq_false e3, SB]; rfl))) (sk1 24 rfl (sk1 18 rfl (sk1 0 rfl (sk1 3 rfl (tk1 4)))))) rfl
 rintro _ h60 rfl
 show W _ _ _ _ _ [(213, .bool (decide (((((a + b) / 2 : Nat) : Int) < (((a + b) / 2 + m - s : Nat) : Int)) ∧ ((((a + b) / 2 + m - s : Nat) : Int) < (b : Int))))), (24, .int .i64 ((((a + b) / 2 + m - s : Nat) : Int))), (18, .int .i64 ((((a + b) / 2 : Nat) : Int))), (0, .slice (some ⟨B, 0, none⟩) N N), (3, .int .i64 ((b : Int))), (4, .func (.func 54) #[] #[])] _
 refine W_splitd rfl (fun c78 => ?_) (fun c78 => ?_)
 ·refine W_region ?_
  refine Mv ?_
  refine Mv ?_
  refine Mv ?_
  refine Mv ?_
  refine Mv ?_
  refine L_call (E_call (by kernel_rfl) rfl) (ih _ B N L2 pd hb4 (((((a + b) / 2 : Nat) : Int)).toNat) (((((a + b) / 2 + m - s : Nat) : Int)).toNat) b (by first | omega | rfl | (simp <;> omega)) (by first | omega | rfl | (simp <;> omega)) (by first | omega | rfl | (simp <;> omega)) (by first | omega | rfl | (simp <;> omega)) (by first | omega | rfl | (simp <;> omega)) (by first | omega | rfl | (simp <;> omega)) (by first | omega | rfl | (simp <;> omega))) rfl rfl rfl ?_
  rintro _ h61 ⟨rfl, hx79, hb80⟩
  refine L_nil ?_
  refine X_end ?_
  refine X_end0 rfl ?_
  refine ⟨rfl, (Only.trans (Only.trans (Only.refl _ _) hx4 (fun _ hb_ => .inl hb_)) hx79 (fun _ hb_ => .inl hb_)), RBuf.congr hb80 ?_⟩
  rw [smf_3 (by omega) (by omega) hs, ← hL1, ← hL2, if_pos ⟨by omega, by omega⟩]; rfl
 refine W_skip ?_
 refine X_end ?_
 refine X_end0 rfl ?_
 refine ⟨rfl, (Only.trans (Only.refl _ _) hx4 (fun _ hb_ => .inl hb_)), RBuf.congr hb4 ?_⟩
 rw [smf_3 (by omega) (by omega) hs, ← hL1, ← hL2, if_neg (by omega)]

theorem sort_symMerge_f : ∀ (f : Nat) (h : Heap) (B : Nat) (N : Nat) (L : List Nod) (pd : Nat → Prop) (hb : RBuf nodS h B pd L) (a m b : Nat) (hpB : ¬ pd B) (hN : N = L.length) (hm : L.length ≤ 1000000000000) (h1 : a < m) (h2 : m < b) (h3 : b ≤ L.length) (hf : b - a ≤ f), Cal Tryd.prog 75 #[.slice (some ⟨B, 0, none⟩) N N, .int .i64 (a : Int), .int .i64 (m : Int), .int .i64 (b : Int), .func (.func 54) #[] #[]] h (fun v h' => v = .tuple #[] ∧ Only [B] h h' ∧ RBuf nodS h' B pd (smf f a m b L))
  | 0, h, B, N, L, pd, hb, a, m, b, hpB, hN, hm, h1, h2, h3, hf => by omega
  | f + 1, h, B, N, L, pd, hb, a, m, b, hpB, hN, hm, h1, h2, h3, hf => sort_symMerge_step h B N L pd hb a m b hpB hN hm h1 h2 h3 f hf (sort_symMerge_f f)
def smg (L : List Nod) (a m b : Nat) : List Nod := smf (b - a) a m b L
@[simp] theorem smg_len (L : List Nod) (a m b : Nat) : (smg L a m b).length = L.length := smf_len _ _ _ _ _
theorem sort_symMerge (h : Heap) (B : Nat) (N : Nat) (L : List Nod) (pd : Nat → Prop) (hb : RBuf nodS h B pd L) (a m b : Int) (hpB : ¬ pd B) (hN : N = L.length) (hm : L.length ≤ 1000000000000) (h0 : 0 ≤ a) (h1 : a < m) (h2 : m < b) (h3 : b ≤ L.length) : Cal Tryd.prog 75 #[.slice (some ⟨B, 0, none⟩) N N, .int .i64 a, .int .i64 m, .int .i64 b, .func (.func 54) #[] #[]] h (fun v h' => v = .tuple #[] ∧ Only [B] h h' ∧ RBuf nodS h' B pd (smg L a.toNat m.toNat b.toNat)) := by
  obtain ⟨a, rfl⟩ := Int.eq_ofNat_of_zero_le h0
  obtain ⟨m, rfl⟩ := Int.eq_ofNat_of_zero_le (show 0 ≤ m by omega)
  obtain ⟨b, rfl⟩ := Int.eq_ofNat_of_zero_le (show 0 ≤ b by omega)
  exact sort_symMerge_f (b - a) h B N L pd hb a m b hpB hN hm (by omega) (by omega) (by omega) (Nat.le_refl _)
end Go.Xp
