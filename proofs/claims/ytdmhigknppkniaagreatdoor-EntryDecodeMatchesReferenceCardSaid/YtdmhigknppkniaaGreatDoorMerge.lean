/- Decimal numbers: a numeral and its value. -/
import Derived.Test.YtdmhigknppkniaaGreatDoorRecF
import Derived.Test.YtdmhigknppkniaaGreatDoorPath
import Derived.Test.YtdmhigknppkniaaGreatDoorFitR
import Derived.Lib.SmallJoins
set_option linter.unusedSimpArgs false
set_option linter.unusedVariables false
set_option linter.unusedSectionVars false
namespace Go.Xp
open Go.Proofs

theorem decN_dec : ∀ u : Nat, decN (Lib.decDigits u) = u := by
  intro u
  induction u using Nat.strongRecOn with
  | ind u ih =>
    rcases Nat.lt_or_ge u 10 with h | h
    · rw [Lib.decDigits_one h]
      have : (UInt8.ofNat (48 + u)).toNat = 48 + u := by rw [UInt8.toNat_ofNat']; omega
      show 0 * 10 + ((UInt8.ofNat (48 + u)).toNat - 48) = u
      rw [this]; omega
    · rw [decDigits_step h, decN_snoc, ih (u / 10) (by omega)]
      have : (UInt8.ofNat (48 + u % 10)).toNat = 48 + u % 10 := by rw [UInt8.toNat_ofNat']; omega
      rw [this]; omega
theorem dec_ok (u : Nat) : decOk (Lib.decDigits u) = true := by
  induction u using Nat.strongRecOn with
  | ind u ih =>
    rcases Nat.lt_or_ge u 10 with h | h
    · rw [Lib.decDigits_one h]
      unfold decOk
      have : (UInt8.ofNat (48 + u)).toNat = 48 + u := by rw [UInt8.toNat_ofNat']; omega
      simp [UInt8.le_iff_toNat_le, this]; omega
    · rw [decDigits_step h]
      have h1 := ih (u / 10) (by omega)
      unfold decOk at h1 ⊢
      have : (UInt8.ofNat (48 + u % 10)).toNat = 48 + u % 10 := by rw [UInt8.toNat_ofNat']; omega
      rw [List.all_append, h1]
      simp [UInt8.le_iff_toNat_le, this]; omega
theorem dec_ne (u : Nat) : Lib.decDigits u ≠ [] := fun e => by have := Lib.decDigits_length u; rw [e] at this; have := Lib.nDigits_pos u; simp at *; omega
theorem dec_lead : ∀ u : Nat, byt (Lib.decDigits u) 0 = 48 → u = 0 := by
  intro u
  induction u using Nat.strongRecOn with
  | ind u ih =>
    rcases Nat.lt_or_ge u 10 with h | h
    · rw [Lib.decDigits_one h]
      intro e
      have : (UInt8.ofNat (48 + u)).toNat = 48 + u := by rw [UInt8.toNat_ofNat']; omega
      have e2 : ((UInt8.ofNat (48 + u)).toNat : Int) = 48 := e
      omega
    · rw [decDigits_step h]
      intro e
      have hl : 0 < (Lib.decDigits (u / 10)).length := List.length_pos_iff.2 (dec_ne _)
      rw [byt_eq (by simp), List.getElem_append_left hl, ← byt_eq hl] at e
      have := ih (u / 10) (by omega) e
      omega
theorem nerr_dec {u : Nat} {m : Int} (h : (u : Int) ≤ m) : nerr (Lib.decDigits u) m = 0 := by
  unfold nerr
  rw [if_neg, if_neg (by rw [decN_dec]; omega)]
  rintro (h1 | h1 | h1)
  · rw [dec_ok] at h1; cases h1
  · exact dec_ne u h1
  · have := dec_lead u h1.1
    subst this
    exact h1.2 (by rw [Lib.decDigits_one (by decide)]; rfl)
theorem nnum_dec {u : Nat} {m : Int} (h : (u : Int) ≤ m) : nnum (Lib.decDigits u) m = u := by
  unfold nnum; rw [if_pos (nerr_dec h), decN_dec]
theorem not_digit {u : Nat} {c : UInt8} (hc : c.toNat < 48) : c ∉ Lib.decDigits u := fun h => by
  obtain ⟨k, hk, he⟩ := List.getElem_of_mem h
  have := decOk_iff.1 (dec_ok u) k hk
  rw [byt_eq hk, he] at this; omega
theorem indexByte_found : ∀ {l : List UInt8} {c : UInt8} {m : Nat}, (∀ k, k < m → ¬ byt l k = (c.toNat : Int)) → m < l.length → byt l m = (c.toNat : Int) → Lib.indexByte l c = m
  | [], _, _, _, h, _ => by simp at h
  | a :: l, c, 0, _, _, h => by
    have : a = c := UInt8.toNat_inj.1 (Int.ofNat_inj.1 h)
    simp [Lib.indexByte, this]
  | a :: l, c, m + 1, hd, hl, h => by
    have h0 := hd 0 (by omega)
    have hne : ¬ a = c := fun e => h0 (by rw [e]; rfl)
    have ih := indexByte_found (l := l) (c := c) (m := m) (fun k hk => by have := hd (k + 1) (by omega); rwa [byt_succ] at this) (by simpa using hl) (by rwa [byt_succ] at h)
    simp only [Lib.indexByte, beq_iff_eq, hne, if_false, ih]
    rw [if_neg (by omega)]; omega
theorem indexByte_nil {l : List UInt8} {c : UInt8} (hd : ∀ k, k < l.length → ¬ byt l k = (c.toNat : Int)) : Lib.indexByte l c = -1 := by
  have h1 := Lib.indexByte_ge l c
  rcases Int.lt_or_le (Lib.indexByte l c) 0 with h | h
  · omega
  · exfalso
    obtain ⟨k, hk, he⟩ := List.getElem_of_mem ((indexByte_mem l c).1 h)
    exact hd k hk (by rw [byt_eq hk, he])
end Go.Xp

/- Layer 8 (pathname): the laws' own text, for those that do not call Check. -/
namespace Go.Xp
open Go.Proofs

theorem split_ok {p : List UInt8} (h : sok p = true) : (p.length ≤ 100 ∧ spre p = [] ∧ snam p = p) ∨ (¬ p.length ≤ 100 ∧ ∃ k, fits8 p k ∧ (∀ i, i < k → ¬ fits8 p i) ∧ spre p = p.take k ∧ snam p = p.drop (k + 1)) := by
  by_cases hl : p.length ≤ 100
  · left; exact ⟨hl, by unfold spre; rw [if_pos hl], by unfold snam; rw [if_pos hl]⟩
  · right
    have hb : bad8 p = false := by unfold sok at h; simpa [hl] using h
    rcases slash8_first hl with ⟨h1, _⟩ | ⟨_, k, hk, hk2, hk3⟩
    · rw [hb] at h1; cases h1
    · refine ⟨hl, k, hk2, hk3, ?_, ?_⟩
      · unfold spre; rw [if_neg hl, hb, hk]; rfl
      · unfold snam; rw [if_neg hl, hb, hk]; rfl
theorem join_split {p : List UInt8} (h : sok p = true) : pjoin (spre p) (snam p) = p ∧ (snam p).length ≤ 100 ∧ (spre p).length ≤ 155 ∧ (spre p = [] ↔ p.length ≤ 100) := by
  rcases split_ok h with ⟨hl, h3, h4⟩ | ⟨hl, k, hk, hk2, h3, h4⟩
  · rw [h3, h4]; simp [pjoin, hl]
  · obtain ⟨k1, k2, k3, k4, k5⟩ := hk
    have hne : p.take k ≠ [] := by
      intro e
      have := congrArg List.length e
      simp only [List.length_take, List.length_nil] at this; omega
    rw [h3, h4]
    refine ⟨?_, by simp only [List.length_drop]; omega, by simp only [List.length_take]; omega, ⟨fun e => absurd e hne, fun e => absurd e hl⟩⟩
    unfold pjoin
    rw [if_neg hne]
    have h5 : p[k]'(by omega) = 47 := by rw [byt_eq (by omega)] at k5; exact UInt8.toNat_inj.1 (Int.ofNat_inj.1 k5)
    rw [← h5, List.append_assoc, List.singleton_append, List.getElem_cons_drop, List.take_append_drop]

end Go.Xp

/- Layer 10 (fit): what a plan tells of its entry. -/
namespace Go.Xp
open Go.Proofs

end Go.Xp

/- Layer 10 (fit): the chapter's example. -/
namespace Go.Xp
open Go.Proofs

end Go.Xp

/- Layer 10 (fit): Merge. -/
set_option maxRecDepth 100000
namespace Go.Xp
open Go.Proofs Go.RowKit

/-- strconv.ParseInt at every text. -/
def pint (s : List UInt8) : Int := match Lib.parseIntB 64 s with | .ok v => v | .syntax => 0 | .range => Lib.intSat 64 s
def pbad (s : List UInt8) : Bool := match Lib.parseIntB 64 s with | .ok _ => false | _ => true
structure GlbS (h : Heap) : Prop where
  i0 : 16 < h.size ∧ IfcH h 16
theorem GlbS.ext {h h' : Heap} (x : GlbS h) (y : Ext h h') : GlbS h' := ⟨ntl x.i0.1 y.size, x.i0.2.ext x.i0.1 y⟩
theorem strconv_ParseIntA (h : Heap) (hE : GlbE h) (hS : GlbS h) (s : List UInt8) (hl : s.length ≤ 140737488355328) :
    Cal Tryz.prog 100 #[str s, .int .i64 10, .int .i64 64] h (fun v h' => ∃ u, v = .tuple #[.int .i64 (pint s), u] ∧ ErrIs h' u (pbad s) ∧ Ext h h') := fun w hw => by
  have hsz : (⟨s.toArray⟩ : ByteArray).size = s.length := by simp [ByteArray.size]
  cases hp : Lib.parseIntB 64 s with
  | ok v =>
    refine (Tryz.strconv_ParseInt_10_at64_ok ⟨s.toArray⟩ (by rw [hsz]; omega) v hp w).mono ?_
    rintro e w' ⟨rfl, hw'⟩
    have hb : Below w.heap.size w w' := by
      rcases hw' with rfl | ⟨t, rfl⟩
      · exact Below.refl _ _
      · exact Go.Joins.below_bytesWorld _ _ _ _ (Nat.le_refl _)
    refine ⟨_, rfl, by unfold std; rw [hb.os, hb.tape, hb.output], .nilIface, ?_, ?_, hw ▸ (⟨hb.size, fun k hk _ => hb.block k hk⟩ : Ext w.heap w'.heap)⟩
    · unfold pint; rw [hp]
    · unfold pbad ErrIs; rw [hp]; rfl
  | «syntax» =>
    obtain ⟨te, pe, he⟩ := hS.i0.2
    refine (Tryz.strconv_ParseInt_10_at64_syntax ⟨s.toArray⟩ (by rw [hsz]; omega) hp (.iface te pe) w (by rw [cell?_cellAt, hw]; exact he) (.inr ⟨te, pe, rfl⟩)).mono ?_
    rintro e w' ⟨N, rfl, _, _, hb⟩
    refine ⟨_, rfl, by unfold std; rw [hb.os, hb.tape, hb.output], .iface 238 (.pointer (some ⟨N, 0, none⟩)), ?_, ?_, hw ▸ (⟨hb.size, fun k hk _ => hb.block k hk⟩ : Ext w.heap w'.heap)⟩
    · unfold pint; rw [hp]
    · unfold pbad ErrIs; rw [hp]; exact ⟨_, _, rfl⟩
  | range =>
    obtain ⟨te, pe, he⟩ := hE.i0.2
    refine (Tryz.strconv_ParseInt_10_at64_range ⟨s.toArray⟩ (by rw [hsz]; omega) hp (.iface te pe) w (by rw [cell?_cellAt, hw]; exact he) (.inr ⟨te, pe, rfl⟩)).mono ?_
    rintro e w' ⟨N, rfl, _, _, hb⟩
    refine ⟨_, rfl, by unfold std; rw [hb.os, hb.tape, hb.output], .iface 238 (.pointer (some ⟨N, 0, none⟩)), ?_, ?_, hw ▸ (⟨hb.size, fun k hk _ => hb.block k hk⟩ : Ext w.heap w'.heap)⟩
    · unfold pint; rw [hp]
    · unfold pbad ErrIs; rw [hp]; exact ⟨_, _, rfl⟩
theorem bld_target (h : Heap) (B : Nat) (k : Int) (p : List UInt8) (m : Int) (tg : List UInt8) (z : Int) (hb : Blk h B [.int .i64 k, str p, .int .i64 m, str tg, .int .i64 z]) (x : List UInt8) : Cal Tryz.prog 60 #[.pointer (some ⟨B, 0, none⟩), str x] h (fun v h' => v = .bool true ∧ Only [B] h h' ∧ Blk h' B [.int .i64 (k), str p, .int .i64 (m), str x, .int .i64 (z)]) := by
 refine Ce Tryz.func60 fun σ => ?_
 refine Wa ?_
 refine Ln (Xt (Wq (Wg ?_)))
 refine M2 ?_
 refine Ly (Y_nilCheck rfl) ?_
 refine Lf 0 ?_
 refine Lf 3 ?_
 refine Lds [str x] hb ?_
 rintro h1 hp1
 have hk2 : Blk h1 B [.int .i64 (k), str p, .int .i64 (m), str x, .int .i64 (z)] := hp1.blk
 refine Nx ?_
 refine Wu _ (tk1 4) ?_
 refine Wa ?_
 refine Ln (Xt (Wt ?_))
 refine Xv1 ?_
 exact ⟨rfl, (Only.trans (Only.refl _ _) hp1.only (fun b_ hb_ => .inl (by simp only [List.mem_cons, List.not_mem_nil, or_false] at hb_ ⊢; omega))), hk2⟩
theorem bld_path (h : Heap) (B : Nat) (k : Int) (p : List UInt8) (m : Int) (tg : List UInt8) (z : Int) (hb : Blk h B [.int .i64 k, str p, .int .i64 m, str tg, .int .i64 z]) (x : List UInt8) : Cal Tryz.prog 61 #[.pointer (some ⟨B, 0, none⟩), str x] h (fun v h' => v = .bool true ∧ Only [B] h h' ∧ Blk h' B [.int .i64 (k), str x, .int .i64 (m), str tg, .int .i64 (z)]) := by
 refine Ce Tryz.func61 fun σ => ?_
 refine Wa ?_
 refine Ln (Xt (Wq (Wg ?_)))
 refine M2 ?_
 refine Ly (Y_nilCheck rfl) ?_
 refine Lf 0 ?_
 refine Lf 1 ?_
 refine Lds [str x] hb ?_
 rintro h1 hp1
 have hk2 : Blk h1 B [.int .i64 (k), str x, .int .i64 (m), str tg, .int .i64 (z)] := hp1.blk
 refine Nx ?_
 refine Wu _ (tk1 4) ?_
 refine Wa ?_
 refine Ln (Xt (Wt ?_))
 refine Xv1 ?_
 exact ⟨rfl, (Only.trans (Only.refl _ _) hp1.only (fun b_ hb_ => .inl (by simp only [List.mem_cons, List.not_mem_nil, or_false] at hb_ ⊢; omega))), hk2⟩
theorem lite_HasPrefix (h : Heap) (s : List UInt8) (u : List UInt8) (hl : s.length ≤ 140737488355328) : Cal Tryz.prog 89 #[str s, str u] h (fun v h' => v = .bool (decide (s.take u.length = u)) ∧ h' = h) := by
 refine Ce Tryz.func89 fun σ => ?_
 refine Wa ?_
 refine Ln (Xt (Wq (Wg ?_)))
 refine Mv ?_
 refine Ly (Y_slen Tryz.underlying9 rfl) ?_
 refine Mv ?_
 refine Ly (Y_slen Tryz.underlying9 rfl) ?_
 refine Ly (Y_geq rfl rfl) ?_
 refine Mv ?_
 refine L_splitd (d := 10) rfl (fun g => ?_) (fun g => ?_)
 ·refine Ly (Y_move rfl) ?_
  refine Mv ?_
  refine Ly (Y_slen Tryz.underlying9 rfl) ?_
  refine Ly (Y_sslice_h Tryz.underlying9 rfl rfl (by omega) (by omega)) ?_
  refine Mv ?_
  refine Ly (Y_seql rfl rfl) ?_
  refine Ly Ypt ?_
  refine An ?_
  refine Wu _ (tk1 4) ?_
  refine Wt ?_
  refine Xv1 ?_
  exact ⟨by simp only [Int.toNat_natCast], rfl⟩
 refine Sk2 ?_
 refine Sk2 ?_
 refine Sk2 ?_
 refine Ly Ypf ?_
 refine An ?_
 refine Wu _ (tk1 4) ?_
 refine Wt ?_
 refine Xv1 ?_
 exact ⟨congrArg Value.bool (decide_eq_false (fun e => by have := congrArg List.length e; rw [List.length_take] at this; omega)).symm, rfl⟩
theorem strings_HasPrefix (h : Heap) (s : List UInt8) (u : List UInt8) (hl : s.length ≤ 140737488355328) : Cal Tryz.prog 41 #[str s, str u] h (fun v h' => v = .bool (decide (s.take u.length = u)) ∧ h' = h) := by
 refine Ce Tryz.func41 fun σ => ?_
 refine Wa ?_
 refine Ln (Xt (Wq (Wg ?_)))
 refine M2 ?_
 refine Lc (lite_HasPrefix _ s u (by first | omega | rfl | (simp <;> omega))) ?_
 rintro _ h ⟨rfl, rfl⟩
 refine Av ?_
 refine Ln (Xt (Wt ?_))
 refine Xv1 ?_
 exact ⟨rfl, rfl⟩
theorem Y_ifceql {P : Program} {n : Nat} {e : Env} {h : Heap} {d : Option Tmp} {t : TypeId} {pos : String} {af : Array Edge} {g : Option (Nat × Bool)} {T T' : TypeId} {x : Operand} {u : Value} {b : Bool} (hT : P.underlying T = some (.interface (P.methodsAt T))) (hx : ev e x = some u) (hu : ErrIs h u b) : Yld P n e h ⟨d, .binOp .eql T x (.const .nilIface) T', t, pos, af, g⟩ (.bool (!b)) := fun w a _ he => by
  unfold ErrIs at hu
  have h3 : a.eval (.const .nilIface) = .nilIface := rfl
  cases b with
  | true =>
    obtain ⟨te, pe, rfl⟩ := hu
    simp only [execOp, he.eval hx, h3, eqGuard, Sem.run_bind, Sem.run_pure, Result.andThen_ok, run_eql_held_nil w T te pe hT, Bool.not_true, Bool.not_false, Bool.false_eq_true, if_false, ite_self]
  | false =>
    simp only [Bool.false_eq_true, if_false] at hu
    subst hu
    simp only [execOp, he.eval hx, h3, eqGuard, Sem.run_bind, Sem.run_pure, Result.andThen_ok, run_eql_nil_nil w T hT, Bool.not_true, Bool.not_false, Bool.false_eq_true, if_false, ite_self, Bool.or_true, if_true]
    try rfl
def psz_ok (s : List UInt8) : Bool := !pbad s && !decide (s.take 1 = [43])
theorem bld_size (h : Heap) (hE : GlbE h) (hS : GlbS h) (B : Nat) (k : Int) (p : List UInt8) (m : Int) (tg : List UInt8) (z : Int) (hb : Blk h B [.int .i64 k, str p, .int .i64 m, str tg, .int .i64 z]) (x : List UInt8) (hl : x.length ≤ 140737488355328) : Cal Tryz.prog 62 #[.pointer (some ⟨B, 0, none⟩), str x] h (fun v h' => v = .bool (psz_ok x) ∧ Only [B] h h' ∧ Blk h' B [.int .i64 (k), str p, .int .i64 (m), str tg, .int .i64 (pint x)]) := by
 refine Ce Tryz.func62 fun σ => ?_
 refine Wa ?_
 refine Ln (Xt (Wq (Wg ?_)))
 refine Mv ?_
 refine Lc (strconv_ParseIntA _ hE hS x (by first | omega | rfl | (simp <;> omega))) ?_
 rintro _ h1 ⟨s11, rfl, hr12, hx3⟩
 refine Mx ?_
 refine A2 ?_
 refine Ln (Xt (Wq (Wg ?_)))
 refine M2 ?_
 refine Ly (Y_nilCheck rfl) ?_
 refine Lf 0 ?_
 refine Lf 4 ?_
 refine Lds [.int .i64 (pint x)] (hb.ext hx3) ?_
 rintro h2 hp4
 have hk5 : Blk h2 B [.int .i64 (k), str p, .int .i64 (m), str tg, .int .i64 (pint x)] := hp4.blk
 refine Nx ?_
 refine Wu _ (tk3 6 4 1) ?_
 refine Wm ?_
 refine Ly (Y_ifceql (show Tryz.prog.underlying 106 = some (.interface (Tryz.prog.methodsAt 106)) by kernel_rfl) rfl (show ErrIs _ _ _ from hr12)) ?_
 refine Mv ?_
 refine L_split (d := 19) rfl (fun g => ?_) (fun g => ?_)
 ·refine Ly (Y_move rfl) ?_
  refine Lc (strings_HasPrefix _ x [43] (by first | omega | rfl | (simp <;> omega))) ?_
  rintro _ h2 ⟨rfl, rfl⟩
  refine Ly (Y_notd rfl) ?_
  refine Ly Ypt ?_
  refine An ?_
  refine Wu _ (tk1 4) ?_
  refine Wt ?_
  refine Xv1 ?_
  exact ⟨by rw [psz_ok, g, Bool.true_and]; simp, (Only.trans (Only.trans (Only.refl _ _) hx3 (fun _ hb_ => by cases hb_)) hp4.only (fun b_ hb_ => .inl (by simp only [List.mem_cons, List.not_mem_nil, or_false] at hb_ ⊢; omega))), hk5⟩
 refine Sk2 ?_
 refine Skp ?_
 refine Ly Ypf ?_
 refine An ?_
 refine Wu _ (tk1 4) ?_
 refine Wt ?_
 refine Xv1 ?_
 exact ⟨by rw [psz_ok, g, Bool.false_and], (Only.trans (Only.trans (Only.refl _ _) hx3 (fun _ hb_ => by cases hb_)) hp4.only (fun b_ hb_ => .inl (by simp only [List.mem_cons, List.not_mem_nil, or_false] at hb_ ⊢; omega))), hk5⟩
theorem Y_makeFunc1 {P : Program} {n : Nat} {e : Env} {h : Heap} {d : Option Tmp} {t : TypeId} {pos : String} {af : Array Edge} {g : Option (Nat × Bool)} {f : FuncId} {x : Operand} {v : Value} (hx : ev e x = some v) : Yld P n e h ⟨d, .makeFunc (.func f) #[x] #[], t, pos, af, g⟩ (.func (.func f) #[v] #[]) :=
  Y_makeFunc (vs := #[v]) (us := #[]) (fun a he => by simp [he.eval hx]) (fun a he => by simp)
theorem slices_IndexB (h : Heap) (v : Value) (l : List UInt8) (hb : Bytes h v l) (c : Int) (hc : 0 ≤ c ∧ c ≤ 255) (hn : l.length ≤ 140737488355328) : Cal Tryz.prog 58 #[v, .int .u8 (c)] h (fun v h' => v = .int .i64 (Lib.indexByte l c.toNat.toUInt8) ∧ h' = h) := by
 have hcb := u8_back hc
 refine Ce Tryz.func58 fun σ => ?_
 refine Wa ?_
 refine Ln (Xt (Wq (Wq (Wg ?_))))
 refine Mv ?_
 refine Ly (Y_len Tryz.underlying22 rfl hb) ?_
 refine Mv ?_
 refine Ln (Xt (Wb ?_))
 refine W_loop (S := Nat) (fun i => [(7, .int .i64 ((l.length : Int))), (0, v), (1, .int .u8 (c)), (8, .int .i64 ((i : Int)))]) (fun i h' => i ≤ l.length ∧ (∀ k, k < i → ¬ byt l k = c) ∧ h' = h) (fun i => l.length - i) 0 (tk4 7 0 1 8) ?_ ?_
 ·exact ⟨Nat.zero_le _, (fun _ hk => absurd hk (Nat.not_lt_zero _)), rfl⟩
 rintro i h ⟨hi, hip, rfl⟩
 show W _ _ _ _ _ [(7, .int .i64 ((l.length : Int))), (0, v), (1, .int .u8 (c)), (8, .int .i64 ((i : Int)))] _
 refine Wr ?_
 refine Ly Yls ?_
 refine Ln (Xt (Wq ?_))
 refine Sd (fun hl2 => ?_) fun hl2 => ?_
 ·refine Wk (Xt (Wq (Wb (Wq (Wg ?_)))))
  refine Mv ?_
  refine Av ?_
  refine Ln (Xt (Wq (Wg ?_)))
  refine M2 ?_
  refine Mv ?_
  refine Ly (Y_idx Tryz.underlying22 (show _ = some 1 by kernel_rfl) rfl rfl hb (by omega) (by omega)) ?_
  refine Ly (Y_ldbyte Tryz.underlying5 rfl rfl hb (by omega) (by omega)) ?_
  refine Ly Yeq ?_
  refine Nx ?_
  refine Wu _ (tk6 16 5 7 0 1 8) ?_
  refine Sd (fun hne => ?_) fun hne => ?_
  ·refine Wm ?_
   refine Av ?_
   refine Ln (Xt (Wt (Yr (Xr (Xr (Yr (Xr ?_)))))))
   refine Xv1 ?_
   rw [Int.toNat_natCast] at hne
   exact ⟨by rw [indexByte_found (m := i) (fun k hk => by rw [hcb]; exact hip k hk) (by omega) (by rw [hcb]; exact hne.symm)], rfl⟩
  refine Wk (Xb (Xt (Wg ?_)))
  refine Lad ?_
  refine Mv ?_
  refine Ln ?_
  refine X_loop (i + 1) (tk4 7 0 1 8) ?_ ?_
  ·exact ⟨by omega, (step_ne hip (fun e => hne (by rw [Int.toNat_natCast]; exact e.symm))), rfl⟩
  (try dsimp only)
  omega
 refine W_exit ?_
 refine Xe (Xe ?_)
 refine X_block_hit ?_
 refine Xt (Wq (Wg ?_))
 refine Av ?_
 refine Ln (Xt (Wt ?_))
 refine Xv1 ?_
 have hi9 : i = l.length := by omega
 exact ⟨by rw [indexByte_nil (fun k hk => by rw [hcb]; exact hip k (by omega))], rfl⟩
end Go.Xp
