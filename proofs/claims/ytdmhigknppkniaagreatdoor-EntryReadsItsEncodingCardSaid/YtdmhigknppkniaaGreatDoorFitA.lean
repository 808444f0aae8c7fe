/- Layer 3 (checksum): the reference's functions. -/
import Derived.Test.YtdmhigknppkniaaGreatDoorOct
import Derived.Test.YtdmhigknppkniaaGreatDoorSlc
import Derived.Test.YtdmhigknppkniaaGreatDoorBox
import Derived.Test.YtdmhigknppkniaaGreatDoorDraw
import Derived.Test.YtdmhigknppkniaaGreatDoorProg
import Derived.Test.YtdmhigknppkniaaGreatDoorFit
set_option linter.unusedSimpArgs false
set_option linter.unusedVariables false
namespace Go.Xp
open Go.Proofs

/-! ### What the layer answers -/
def csumN (b : List UInt8) : Nat → Int
  | 0 => 0
  | i + 1 => csumN b i + (if 148 ≤ i ∧ i < 156 then 32 else byt b i)
theorem csumN_le (b : List UInt8) : ∀ i, 0 ≤ csumN b i ∧ csumN b i ≤ 255 * i
  | 0 => by simp [csumN]
  | i + 1 => by
    have h1 := csumN_le b i
    have h2 := byt_lt b i
    unfold csumN
    split <;> omega
def serr (b : List UInt8) : Int := if b.length = 512 then 0 else 2
def ssum (b : List UInt8) : Int := if b.length = 512 then csumN b 512 else 0
theorem ssum_le (b : List UInt8) : 0 ≤ ssum b ∧ ssum b ≤ 130560 := by
  have := csumN_le b 512
  unfold ssum; split <;> omega
def sseal (b : List UInt8) : List UInt8 := if b.length = 512 then b.take 148 ++ octf (ssum b) 7 ++ [32] ++ b.drop 156 else []
def sver (b : List UInt8) : Int := if b.length = 512 then (if sseal b = b then 0 else 9) else 2
theorem oct7 {n : Int} (h : 0 ≤ n ∧ n ≤ 130560) : oerr n 7 = 0 ∧ octf n 7 = octD n.toNat 6 ++ [0] := by
  have he : oerr n 7 = 0 := by unfold oerr omax; rw [if_neg (by omega), if_neg (by simp; omega)]
  exact ⟨he, by unfold octf; rw [if_pos he]; rfl⟩
theorem oct7_len (b : List UInt8) : (octf (ssum b) 7).length = 7 := by
  rw [(oct7 (ssum_le b)).2]; simp [octD_length]
theorem sseal_len {b : List UInt8} (h : b.length = 512) : (sseal b).length = 512 := by
  unfold sseal
  rw [if_pos h]
  simp only [List.length_append, List.length_take, List.length_drop, oct7_len, List.length_cons, List.length_nil]
  omega

end Go.Xp

/- Layer 7 (ustar): what Check answers. -/
set_option linter.unusedSimpArgs false
set_option linter.unusedVariables false
set_option linter.unusedSectionVars false
namespace Go.Xp
open Go.Proofs

def uknown (c : Int) : Bool := decide (c = 48 ∨ c = 49 ∨ c = 50 ∨ c = 53 ∨ c = 120)
def ucheck (t : Int) (name pre link : List UInt8) (mode size : Int) : Int := if uknown t = false then 8 else if ¬ cerr name 100 = 0 then cerr name 100 else if ¬ cerr link 100 = 0 then cerr link 100 else if ¬ cerr pre 155 = 0 then cerr pre 155 else if mode < 0 ∨ 4095 < mode then 16 else if size < 0 ∨ 8589934591 < size then 3 else 0
end Go.Xp

/- A header, said in the reference's type. -/
set_option linter.unusedSimpArgs false
set_option linter.unusedVariables false
set_option linter.unusedSectionVars false
namespace Go.Xp
open Go.Proofs

end Go.Xp

/- Layer 7 (ustar): the reference's functions. -/
set_option linter.unusedSimpArgs false
set_option linter.unusedVariables false
namespace Go.Xp
open Go.Proofs

def ubody (t : Int) (name pre link : List UInt8) (mode size : Int) : List UInt8 :=
  cfmt name 100 ++ octf mode 8 ++ octf 0 8 ++ octf 0 8 ++ octf size 12 ++ octf 0 12 ++ [32, 32, 32, 32, 32, 32, 32, 32] ++ [t.toNat.toUInt8] ++ cfmt link 100 ++ [117, 115, 116, 97, 114, 0, 48, 48] ++ cfmt [] 32 ++ cfmt [] 32 ++ octf 0 8 ++ octf 0 8 ++ cfmt pre 155 ++ cfmt [] 12
def uenc (t : Int) (name pre link : List UInt8) (mode size : Int) : List UInt8 := if ucheck t name pre link mode size = 0 then sseal (ubody t name pre link mode size) else []

end Go.Xp

/- Layer 7: the reference's Encode. -/
set_option linter.unusedSimpArgs false
set_option linter.unusedVariables false
namespace Go.Xp
open Go.Proofs

end Go.Xp

/- Layer 10 (fit): the reference, and the laws' helpers. -/
set_option linter.unusedSimpArgs false
set_option linter.unusedVariables false
set_option linter.unusedSectionVars false
namespace Go.Xp
open Go.Proofs

theorem rec_ext {a b : List Rec} (hl : a.length = b.length) (h : ∀ k, k < a.length → at_rec a k = at_rec b k) : a = b := by
  apply List.ext_getElem hl
  intro i h1 h2
  have := h i h1
  rw [at_rec_eq h1, at_rec_eq h2] at this
  exact this

theorem rec_eq {a b : Rec} (h : a.key = b.key ∧ a.val = b.val) : a = b := by cases a; cases b; cases h.1; cases h.2; rfl
set_option maxRecDepth 100000 in
theorem slices_EqualR (h : Heap) (v : Value) (a : List Rec) (ha : Rows recS h v a) (u : Value) (b : List Rec) (hb : Rows recS h u b) (hl0 : a.length ≤ 140737488355328) : Cal Tryz.prog 63 #[v, u] h (fun v h' => v = .bool (decide (a = b)) ∧ h' = h) := by
 refine Cal_enter (args := [v, u]) Tryz.func63 rfl rfl rfl (fun σ => ?_)
 refine Wa ?_
 refine Ln (Xt (Wq (Wq (Wg ?_))))
 refine Mv ?_
 refine Ly (Y_lenr Tryz.underlying74 rfl ha) ?_
 refine Mv ?_
 refine Ly (Y_lenr Tryz.underlying74 rfl hb) ?_
 refine Ly (Y_neq rfl rfl) ?_
 refine Nx ?_
 refine W_splitd rfl (fun c => ?_) (fun c => ?_)
 ·refine Wa ?_
  refine Ln (Xt (Wt (Xr ?_)))
  refine X_ret1 rfl rfl ?_
  exact ⟨by rw [decide_eq_false (fun e => c (by rw [e]))], rfl⟩
 refine Ws ?_
 have hlen : a.length = b.length := by omega
 refine Wq (Wq (Wg ?_))
 refine Mv ?_
 refine Ly (Y_lenr Tryz.underlying74 rfl ha) ?_
 refine Mv ?_
 refine Nx ?_
 refine Wu _ (tk5 13 12 4 0 1) ?_
 refine Wb ?_
 refine W_loop (S := Nat) (fun i => [(12, .int .i64 ((a.length : Int))), (0, v), (1, u), (13, .int .i64 ((i : Int)))]) (fun i h' => i ≤ a.length ∧ (∀ k, k < i → at_rec a k = at_rec b k) ∧ h' = h) (fun i => a.length - i) 0 (tk4 12 0 1 13) ?_ ?_
 ·exact ⟨Nat.zero_le _, (fun _ hk => absurd hk (Nat.not_lt_zero _)), rfl⟩
 rintro i h ⟨hi, hip, rfl⟩
 show W _ _ _ _ _ [(12, .int .i64 ((a.length : Int))), (0, v), (1, u), (13, .int .i64 ((i : Int)))] _
 refine Wr ?_
 refine Ly (Y_lss rfl rfl) ?_
 refine Ln (Xt (Wq ?_))
 refine W_splitd rfl (fun hl => ?_) (fun hl => ?_)
 ·refine Wk (Xt (Wq (Wb (Wq (Wg ?_)))))
  refine Mv ?_
  refine Av ?_
  refine Ln (Xt (Wq ?_))
  refine W_quiet (fun h' => h' = h) (by kernel_rfl) (by kernel_rfl) rfl ?_
  refine Qm ?_
  refine Qm ?_
  refine Qy (Y_idxr Tryz.underlying74 (show _ = some 2 by kernel_rfl) rfl rfl rfl ha (by omega) (by omega)) ?_
  refine Qy (Y_ldrA0 (k := ((i : Int)).toNat) (us := [str ((at_rec a ((i : Int)).toNat).key), str ((at_rec a ((i : Int)).toNat).val)]) Tryz.underlying139 rfl (show _ = some 2 by kernel_rfl) rfl rfl ha (by omega) rfl) ?_
  refine Qm ?_
  refine Qm ?_
  refine Qy (Y_idxr Tryz.underlying74 (show _ = some 2 by kernel_rfl) rfl rfl rfl hb (by omega) (by omega)) ?_
  refine Qy (Y_ldrA0 (k := ((i : Int)).toNat) (us := [str ((at_rec b ((i : Int)).toNat).key), str ((at_rec b ((i : Int)).toNat).val)]) Tryz.underlying139 rfl (show _ = some 2 by kernel_rfl) rfl rfl hb (by omega) rfl) ?_
  refine Qy (Y_decneg (Y_stneq (xs := [str ((at_rec a ((i : Int)).toNat).key), str ((at_rec a ((i : Int)).toNat).val)]) (ys := [str ((at_rec b ((i : Int)).toNat).key), str ((at_rec b ((i : Int)).toNat).val)]) (r := decide (((at_rec a ((i : Int)).toNat).key) = ((at_rec b ((i : Int)).toNat).key) ∧ ((at_rec a ((i : Int)).toNat).val) = ((at_rec b ((i : Int)).toNat).val))) (by kernel_rfl) (by kernel_rfl) (by kernel_rfl) rfl rfl (steq (ks := [.s, .s]) (by kernel_rfl) (by simp [eqks, eqk])))) ?_
  refine LQ_nil ?_
  rintro h rfl
  refine Xt ?_
  refine Wu _ (tk5 24 12 0 1 13) ?_
  refine W_splitd rfl (fun hne => ?_) (fun hne => ?_)
  ·refine Wa ?_
   refine Ln (Xt (Wt (Yr (Xr (Xr (Yr (Xr ?_)))))))
   refine X_ret1 rfl rfl ?_
   exact ⟨by rw [decide_eq_false (fun e => hne ⟨by rw [e], by rw [e]⟩)], rfl⟩
  refine Wk (Xb (Xt (Wg ?_)))
  refine Lad ?_
  refine Mv ?_
  refine Ln ?_
  refine X_loop (i + 1) (tk4 12 0 1 13) ?_ ?_
  ·exact ⟨by omega, (step_ne hip (by have h9 := Classical.not_not.1 hne; rw [Int.toNat_natCast] at h9; exact rec_eq h9)), rfl⟩
  (try dsimp only)
  omega
 refine W_exit ?_
 refine Xe (Xe ?_)
 refine X_block_hit ?_
 refine Xt (Wq (Wg ?_))
 refine Av ?_
 refine Ln (Xt (Wt ?_))
 refine X_ret1 rfl rfl ?_
 exact ⟨by rw [decide_eq_true (rec_ext hlen (fun k hk => hip k (by omega)))], rfl⟩

theorem sok_nil {p : List UInt8} (h : sok p = false) : snam p = [] ∧ spre p = [] := by
  unfold sok at h
  simp only [Bool.or_eq_false_iff, decide_eq_false_iff_not, Bool.not_eq_false'] at h
  unfold snam spre
  exact ⟨by rw [if_neg h.1, if_pos h.2], by rw [if_neg h.1, if_pos h.2]⟩
end Go.Xp

/- Layer 10 (fit): the chapter's example. -/
set_option linter.unusedSimpArgs false
set_option linter.unusedVariables false
set_option linter.unusedSectionVars false
namespace Go.Xp
open Go.Proofs

end Go.Xp
