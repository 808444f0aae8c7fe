/- strings.Repeat, by the shelf's contract. -/
import Derived.Test.YtdmhigknppkniaaGreatDoorShelf
import Derived.Test.YtdmhigknppkniaaGreatDoorCstr
import Derived.Below
import Derived.Sort.Walk0
import Derived.Lib.IndexLaws
set_option linter.unusedSimpArgs false
set_option linter.unusedVariables false
namespace Go.Xp
open Go.Proofs Go.RowKit

theorem repeatL_one (c : UInt8) (k : Nat) : Lib.repeatL [c] k = List.replicate k c := by
  induction k with
  | zero => rfl
  | succ k ih => simp [Lib.repeatL, ih, List.replicate_succ]
theorem strings_Repeat (h : Heap) (l : List UInt8) (c : Int) (h0 : 0 ≤ c) (h1 : (l.length : Int) * c ≤ 140737488355328 ∧ c ≤ 9223372036854775807) : Cal Tryz.prog 17 #[str l, .int .i64 c] h (fun v h' => v = str (Lib.repeatL l c.toNat) ∧ Ext h h') := fun w hw => by
  have hsz : (⟨l.toArray⟩ : ByteArray).size = l.length := by simp [ByteArray.size]
  have h2 : l.length * c.toNat ≤ 140737488355328 := by
    have : ((l.length * c.toNat : Nat) : Int) = (l.length : Int) * c := by rw [Int.natCast_mul, Int.toNat_of_nonneg h0]
    omega
  have k := Tryz.strings_Repeat ⟨l.toArray⟩ c.toNat w (by omega) (by rw [hsz]; exact h2)
  rw [Int.toNat_of_nonneg h0] at k
  refine k.mono ?_
  rintro e w' ⟨rfl, hb⟩
  refine ⟨_, rfl, by unfold std; rw [hb.os, hb.tape, hb.output], rfl, hw ▸ ⟨hb.size, fun k hk _ => hb.block k hk⟩⟩
end Go.Xp

/- Layer 2 (cstring): the laws' own text. -/
namespace Go.Xp
open Go.Proofs

theorem cerr_zero {s : List UInt8} {w : Int} : cerr s w = 0 ↔ (1 ≤ w ∧ w ≤ 256) ∧ (0 : UInt8) ∉ s ∧ (s.length : Int) ≤ w := by
  unfold cerr
  constructor
  · intro h
    split at h
    · cases h
    · split at h
      · cases h
      · split at h
        · cases h
        · exact ⟨by omega, by assumption, by omega⟩
  · rintro ⟨h1, h2, h3⟩
    rw [if_neg (by omega), if_neg h2, if_neg (by omega)]
theorem perr_zero {b : List UInt8} : perr b = 0 ↔ (1 ≤ b.length ∧ b.length ≤ 256) ∧ (b.dropWhile (· != 0)).all (· == 0) = true := by
  unfold perr
  constructor
  · intro h
    split at h
    · cases h
    · split at h
      · exact ⟨by omega, by assumption⟩
      · cases h
  · rintro ⟨h1, h2⟩
    rw [if_neg (by omega), if_pos h2]
theorem pad_take {s : List UInt8} (k : Nat) (h0 : (0 : UInt8) ∉ s) : (s ++ List.replicate k 0).takeWhile (· != 0) = s ∧ (s ++ List.replicate k 0).dropWhile (· != 0) = List.replicate k 0 := by
  have h1 : ∀ x ∈ s, (x != 0) = true := fun x hx => by
    have : x ≠ 0 := fun h => h0 (h ▸ hx)
    simpa using this
  rw [List.takeWhile_append_of_pos h1, List.dropWhile_append_of_pos h1]
  cases k <;> simp [List.replicate_succ]
theorem parse_of {s : List UInt8} {k : Nat} (h0 : (0 : UInt8) ∉ s) (hl : 1 ≤ s.length + k ∧ s.length + k ≤ 256) : perr (s ++ List.replicate k 0) = 0 ∧ pstr (s ++ List.replicate k 0) = s := by
  obtain ⟨h1, h2⟩ := pad_take k h0
  have hp : perr (s ++ List.replicate k 0) = 0 := perr_zero.2 ⟨by simpa using hl, by rw [h2]; simp⟩
  exact ⟨hp, by unfold pstr; rw [if_pos hp, h1]⟩
theorem parse_format {s : List UInt8} {w : Int} (h : cerr s w = 0) : perr (cfmt s w) = 0 ∧ pstr (cfmt s w) = s ∧ ((cfmt s w).length : Int) = w := by
  obtain ⟨h1, h2, h3⟩ := cerr_zero.1 h
  have hf : cfmt s w = s ++ List.replicate (w.toNat - s.length) 0 := by unfold cfmt; rw [if_pos h]
  rw [hf]
  exact ⟨(parse_of h2 (by omega)).1, (parse_of h2 (by omega)).2, by simp; omega⟩
end Go.Xp

/- Layer 8 (pathname): Split, Join, Parent, Base, Compare: the program's functions and the reference's. -/
set_option maxRecDepth 100000
namespace Go.Xp
open Go.Proofs

/-! ### The last slash -/
theorem byt_zero (a : UInt8) (l : List UInt8) : byt (a :: l) 0 = (a.toNat : Int) := rfl
theorem byt_succ (a : UInt8) (l : List UInt8) (k : Nat) : byt (a :: l) (k + 1) = byt l k := by simp [byt]
theorem u8_back {c : Int} (hc : 0 ≤ c ∧ c ≤ 255) : ((c.toNat.toUInt8).toNat : Int) = c := by
  have h1 : c.toNat < 256 := by omega
  rw [show (c.toNat.toUInt8).toNat = c.toNat % 256 from rfl, Nat.mod_eq_of_lt h1, Int.toNat_of_nonneg hc.1]

/-! ### Parent, Base, Join -/
def pjoin (a b : List UInt8) : List UInt8 := if a = [] then b else a ++ [47] ++ b

theorem pathname_Join (h : Heap) (a : List UInt8) (b : List UInt8) (hl : a.length + 1 + b.length ≤ 9223372036854775807) : Cal Tryz.prog 59 #[str a, str b] h (fun v h' => v = str (pjoin a b) ∧ h' = h) := by
 refine Ce Tryz.func59 fun σ => ?_
 refine Wa ?_
 refine Ln (Xt (Wq (Wq (Wg ?_))))
 refine Mv ?_
 refine Ly (Y_seql rfl rfl) ?_
 refine Nx ?_
 refine Sd (fun g => ?_) fun g => ?_
 ·refine Wm ?_
  refine Av ?_
  refine Ln (Xt (Wt (Xr ?_)))
  refine Xv1 ?_
  exact ⟨by unfold pjoin; rw [if_pos g], rfl⟩
 refine Wk (Xt (Wq (Wg ?_)))
 refine Mv ?_
 refine Ly (Y_sadd rfl rfl (by first | omega | (simp <;> omega))) ?_
 refine Mv ?_
 refine Ly (Y_sadd rfl rfl (by first | omega | (simp <;> omega))) ?_
 refine An ?_
 refine Wu _ (tk1 4) ?_
 refine Wt ?_
 refine Xv1 ?_
 exact ⟨by unfold pjoin; rw [if_neg g], rfl⟩

/-! ### Compare -/
theorem byt_ext : ∀ {a b : List UInt8}, a.length = b.length → (∀ k, k < a.length → byt a k = byt b k) → a = b
  | [], [], _, _ => rfl
  | [], _ :: _, h, _ => by simp at h
  | _ :: _, [], h, _ => by simp at h
  | x :: a, y :: b, h, h0 => by
    have h3 := h0 0 (by simp)
    rw [byt_zero, byt_zero] at h3
    have h4 : x = y := UInt8.toNat_inj.1 (by omega)
    rw [h4, byt_ext (a := a) (b := b) (by simpa using h) (fun k hk => by have := h0 (k + 1) (by simpa using hk); rwa [byt_succ, byt_succ] at this)]
/-! ### Split -/
/-- Slash 'i' parts 'p' into fields that fit. -/
def fits8 (p : List UInt8) (i : Nat) : Prop := 1 ≤ i ∧ i ≤ 155 ∧ i + 2 ≤ p.length ∧ p.length ≤ i + 101 ∧ byt p i = 47
def from8 (p : List UInt8) : Int := max 1 ((p.length : Int) - 100 - 1)
def slash8 (p : List UInt8) : Int := if Lib.indexByte (p.drop (from8 p).toNat) 47 < 0 then -1 else from8 p + Lib.indexByte (p.drop (from8 p).toNat) 47
def bad8 (p : List UInt8) : Bool := decide (slash8 p < 0 ∨ 155 < slash8 p ∨ slash8 p = p.length - 1)
def sok (p : List UInt8) : Bool := decide (p.length ≤ 100) || !bad8 p
def spre (p : List UInt8) : List UInt8 := if p.length ≤ 100 then [] else if bad8 p = true then [] else p.take (slash8 p).toNat
def snam (p : List UInt8) : List UInt8 := if p.length ≤ 100 then p else if bad8 p = true then [] else p.drop (slash8 p + 1).toNat

theorem pathname_Split (h : Heap) (p : List UInt8) (hl : p.length ≤ 9223372036854775807) : Cal Tryz.prog 76 #[str p] h (fun v h' => v = .tuple #[str (spre p), str (snam p), .bool (sok p)] ∧ h' = h) := by
 refine Ce Tryz.func76 fun σ => ?_
 refine Wa ?_
 refine A2 ?_
 refine Ln (Xt (Wq (Wq (Wg ?_))))
 refine Mv ?_
 refine Ly (Y_slen Tryz.underlying9 rfl) ?_
 refine Ly (Y_leq rfl rfl) ?_
 refine Nx ?_
 refine Sd (fun hs => ?_) fun hs => ?_
 ·refine Wm ?_
  refine A2 ?_
  refine Av ?_
  refine Ln (Xt (Wt (Xr ?_)))
  refine Xv3 ?_
  exact ⟨by simp only [spre, snam, sok]; rw [if_pos (by omega), if_pos (by omega), decide_eq_true (by omega : p.length ≤ 100)]; rfl, rfl⟩
 refine Wk (Xt (Wq (Wg ?_)))
 refine Mv ?_
 refine Ly (Y_slen Tryz.underlying9 rfl) ?_
 refine Ly (Y_sub rfl rfl (by omega) (by omega)) ?_
 refine Ly (Y_sub rfl rfl (by omega) (by omega)) ?_
 refine Ly (Y_max rfl rfl) ?_
 refine An ?_
 refine Wu _ (tk5 5 4 3 2 0) ?_
 generalize hF : max (1 : Int) ((p.length : Int) - 100 - 1) = F
 refine Wm ?_
 refine Mv ?_
 refine Ly (Y_sslice_l Tryz.underlying9 rfl rfl (by omega) (by omega)) ?_
 refine Lc (strings_Index _ (p.drop (F).toNat) [47] (by first | omega | rfl | (simp <;> omega))) ?_
 rintro _ h ⟨rfl, rfl⟩
 refine An ?_
 generalize hI : Lib.indexByte (p.drop F.toNat) ([47].getD 0 0) = I
 have hI' : Lib.indexByte (p.drop F.toNat) 47 = I := hI
 have hI1 := indexByte_lt (p.drop F.toNat) 47
 have hI2 := Lib.indexByte_ge (p.drop F.toNat) 47
 have hsl : slash8 p = if I < 0 then -1 else F + I := by unfold slash8 from8; rw [hF, hI']
 rw [hI'] at hI1 hI2
 simp only [List.length_drop] at hI1
 refine Wq ?_
 refine Wc [(36, .bool (decide (((I < 0) ∨ (155 < (F + I))) ∨ ((F + I) = ((p.length : Int) - 1))))), (6, .int .i64 (I)), (5, .int .i64 (F)), (4, .bool false), (3, str []), (2, str []), (0, str p)] (fun h' => h' = h) ?_ ?_
 ·refine Wg ?_
  refine Mv ?_
  refine Ly Yls ?_
  refine Mv ?_
  refine L_splitd (d := 22) rfl (fun c1 => ?_) (fun c1 => ?_)
  ·refine Sk2 ?_
   refine Sk2 ?_
   refine Ly Ypt ?_
   refine Mv ?_
   refine Sk2 ?_
   refine Sk2 ?_
   refine Sk2 ?_
   refine Skp ?_
   refine Ly Ypt ?_
   refine Ln ?_
   exact X_cut () (sk1 36 (lkb rfl (by first | (simp only [eq_true c1, SB]; done) | (simp only [eq_true c1, SB]; rfl))) (sk1 6 rfl (sk1 5 rfl (sk1 4 rfl (sk1 3 rfl (sk1 2 rfl (tk1 0))))))) rfl
  refine Ly (Y_move rfl) ?_
  refine Mv ?_
  refine Lad ?_
  refine Ly (Y_gtr rfl rfl) ?_
  refine Ly Ypf ?_
  refine Mv ?_
  refine L_splitd (d := 28) rfl (fun c2 => ?_) (fun c2 => ?_)
  ·refine Sk2 ?_
   refine Sk2 ?_
   refine Sk2 ?_
   refine Skp ?_
   refine Ly Ypt ?_
   refine Ln ?_
   exact X_cut () (sk1 36 (lkb rfl (by first | (simp only [eq_false c1, eq_true c2, SB]; done) | (simp only [eq_false c1, eq_true c2, SB]; rfl))) (sk1 6 rfl (sk1 5 rfl (sk1 4 rfl (sk1 3 rfl (sk1 2 rfl (tk1 0))))))) rfl
  refine Ly (Y_move rfl) ?_
  refine Mv ?_
  refine Lad ?_
  refine Mv ?_
  refine Ly (Y_slen Tryz.underlying9 rfl) ?_
  refine Ly (Y_sub rfl rfl (by omega) (by omega)) ?_
  refine Ly Yeq ?_
  refine Ly Ypf ?_
  refine Ln ?_
  exact X_cut () (sk1 36 (lkb rfl (by first | (simp only [eq_false c1, eq_false c2, SB]; done) | (simp only [eq_false c1, eq_false c2, SB]; rfl))) (sk1 6 rfl (sk1 5 rfl (sk1 4 rfl (sk1 3 rfl (sk1 2 rfl (tk1 0))))))) rfl
 rintro h rfl
 refine Sd (fun hb => ?_) fun hb => ?_
 ·refine Wa ?_
  refine A2 ?_
  refine Ln (Xt (Wt (Xr ?_)))
  refine Xv3 ?_
  have hbad : bad8 p = true := by unfold bad8; rw [hsl]; apply decide_eq_true; split <;> omega
  have hle : ¬ p.length ≤ 100 := by omega
  exact ⟨by simp only [spre, snam, sok, if_neg hle, hbad, if_true, decide_eq_false hle]; rfl, rfl⟩
 refine Wk (Xt (Wq ?_))
 refine W_quiet (fun h' => h' = h) (by kernel_rfl) (by kernel_rfl) rfl ?_
 refine Qm ?_
 refine Qm ?_
 refine Qm ?_
 refine Qy (Y_add rfl rfl (by omega) (by omega)) ?_
 refine Qy (Y_sslice_h Tryz.underlying9 rfl rfl (by omega) (by omega)) ?_
 refine Qm ?_
 refine Qm ?_
 refine Qm ?_
 refine Qy (Y_add rfl rfl (by omega) (by omega)) ?_
 refine Qy (Y_add rfl rfl (by omega) (by omega)) ?_
 refine Qy (Y_sslice_l Tryz.underlying9 rfl rfl (by omega) (by omega)) ?_
 refine Qa ?_
 refine Qa ?_
 refine Qa ?_
 refine LQ_nil ?_
 rintro h rfl
 refine Xt ?_
 refine Wu _ (tk3 4 3 2) ?_
 refine Wt ?_
 refine Xv3 ?_
 have hbad : bad8 p = false := by unfold bad8; rw [hsl]; apply decide_eq_false; split <;> omega
 have hle : ¬ p.length ≤ 100 := by omega
 have hI0 : ¬ I < 0 := by omega
 exact ⟨by simp only [spre, snam, sok, if_neg hle, hbad, decide_eq_false hle, Bool.false_eq_true, if_false, hsl, if_neg hI0]; rfl, rfl⟩

/-- The slash that Split takes: the first that fits. -/
theorem slash8_first {p : List UInt8} (hl : ¬ p.length ≤ 100) : (bad8 p = true ∧ ∀ i, ¬ fits8 p i) ∨ (bad8 p = false ∧ ∃ k : Nat, slash8 p = k ∧ fits8 p k ∧ ∀ i, i < k → ¬ fits8 p i) := by
  have hF1 : 1 ≤ from8 p ∧ ((p.length : Int) - 101 ≤ from8 p) ∧ (from8 p ≤ (p.length : Int) - 101 ∨ from8 p = 1) := by unfold from8; omega
  have hg := Lib.indexByte_ge (p.drop (from8 p).toNat) 47
  have hlt := indexByte_lt (p.drop (from8 p).toNat) 47
  simp only [List.length_drop] at hlt
  obtain ⟨F, hF⟩ : ∃ F : Nat, from8 p = F := ⟨(from8 p).toNat, by omega⟩
  unfold bad8 slash8
  rw [hF] at hF1 hg hlt ⊢
  simp only [Int.toNat_natCast] at hg hlt ⊢
  by_cases hI : Lib.indexByte (p.drop F) 47 < 0
  · left
    have hn := Lib.indexByte_none (l := p.drop F) (c := 47) (by omega)
    refine ⟨by rw [if_pos hI]; simp, fun i hi => ?_⟩
    obtain ⟨h1, h2, h3, h4, h5⟩ := hi
    apply hn (i - F)
    rw [List.getElem?_drop, show F + (i - F) = i by omega, List.getElem?_eq_getElem (by omega)]
    rw [byt_eq (by omega)] at h5
    congr 1
    exact UInt8.toNat_inj.1 (Int.ofNat_inj.1 h5)
  · obtain ⟨o, ho⟩ : ∃ o : Nat, Lib.indexByte (p.drop F) 47 = o := ⟨(Lib.indexByte (p.drop F) 47).toNat, by omega⟩
    obtain ⟨hs1, hs2⟩ := Lib.indexByte_some ho
    rw [ho] at hlt ⊢
    rw [if_neg (by omega)]
    have hb : byt p (F + o) = 47 := by
      rw [List.getElem?_drop, List.getElem?_eq_getElem (by omega)] at hs1
      rw [byt_eq (by omega), Option.some.inj hs1]; rfl
    have hno : ∀ i, F ≤ i → i < F + o → ¬ byt p i = 47 := fun i h1 h2 h3 => by
      apply hs2 (i - F) (by omega)
      rw [List.getElem?_drop, show F + (i - F) = i by omega, List.getElem?_eq_getElem (by omega)]
      rw [byt_eq (by omega)] at h3
      congr 1
      exact UInt8.toNat_inj.1 (Int.ofNat_inj.1 h3)
    by_cases hbad : ((F : Int) + o < 0 ∨ 155 < (F : Int) + o ∨ (F : Int) + o = p.length - 1)
    · left
      refine ⟨decide_eq_true hbad, fun i hi => ?_⟩
      obtain ⟨h1, h2, h3, h4, h5⟩ := hi
      have : ¬ i < F + o := fun h => hno i (by omega) h h5
      omega
    · right
      refine ⟨decide_eq_false hbad, F + o, by simp, ⟨by omega, by omega, by omega, by omega, hb⟩, fun i h hi => ?_⟩
      obtain ⟨h1, h2, h3, h4, h5⟩ := hi
      exact hno i (by omega) h h5

end Go.Xp
