/- Layer 9 (paxrec): Format. -/
import Derived.Test.YtmmpnieglihhnaaGreatDoorRec
set_option linter.unusedSimpArgs false
set_option linter.unusedVariables false
set_option linter.unusedSectionVars false
namespace Go.Xp
open Go.Proofs

def sle (a b : List UInt8) : Bool := Op.bytesLess a b || a == b
def ordBad : Option (List UInt8) → List UInt8 → Bool
  | none, _ => false
  | some q, k => sle k q
/-- What is wrong with a list of records behind the key 'p'. -/
def rlerr : Option (List UInt8) → List Rec → Int
  | _, [] => 0
  | p, r :: rest => if ¬ rerr r.key r.val = 0 then rerr r.key r.val else if ordBad p r.key = true then 12 else rlerr (some r.key) rest
/-- One record's bytes. -/
def rone (r : Rec) : List UInt8 := Lib.decDigits (psz (rrest r.key r.val)) ++ ([32] ++ r.key ++ [61] ++ r.val ++ [10])
def rfmt (l : List Rec) : List UInt8 := if rlerr none l = 0 then l.flatMap rone else []
def RGood (l : List Rec) (i : Nat) : Prop := i ≤ l.length ∧ ∀ k, k < i → rerr (at_rec l k).key (at_rec l k).val = 0 ∧ (0 < k → sle (at_rec l k).key (at_rec l (k - 1)).key = false)
def rprev (l : List Rec) (i : Nat) : Option (List UInt8) := if i = 0 then none else some (at_rec l (i - 1)).key

theorem at_rec_eq {l : List Rec} {i : Nat} (h : i < l.length) : at_rec l i = l[i] := by
  rw [at_rec, List.getD_eq_getElem?_getD, List.getElem?_eq_getElem h]; rfl
theorem drop_rec {l : List Rec} {i : Nat} (h : i < l.length) : l.drop i = at_rec l i :: l.drop (i + 1) := by
  rw [at_rec_eq h]; exact List.drop_eq_getElem_cons h
theorem rlerr_skip {l : List Rec} : ∀ {i : Nat}, RGood l i → rlerr none l = rlerr (rprev l i) (l.drop i)
  | 0, _ => rfl
  | i + 1, h => by
    have hi : i < l.length := h.1
    rw [rlerr_skip (i := i) ⟨by omega, fun k hk => h.2 k (by omega)⟩, drop_rec hi]
    obtain ⟨h1, h2⟩ := h.2 i (by omega)
    rw [rlerr, if_neg (by simpa using h1)]
    have e : ordBad (rprev l i) (at_rec l i).key = false := by
      unfold rprev
      by_cases h0 : i = 0
      · rw [if_pos h0]; rfl
      · rw [if_neg h0]; exact h2 (by omega)
    rw [e, if_neg (by simp)]
    rfl
theorem rlerr_bad {l : List Rec} {i : Nat} (h : RGood l i) (hi : i < l.length) (hb : ¬ rerr (at_rec l i).key (at_rec l i).val = 0) : rlerr none l = rerr (at_rec l i).key (at_rec l i).val := by
  rw [rlerr_skip h, drop_rec hi, rlerr, if_pos hb]
theorem rlerr_order {l : List Rec} {i : Nat} (h : RGood l i) (hi : i < l.length) (h0 : 0 < i) (hb : rerr (at_rec l i).key (at_rec l i).val = 0) (ho : sle (at_rec l i).key (at_rec l (i - 1)).key = true) : rlerr none l = 12 := by
  rw [rlerr_skip h, drop_rec hi, rlerr, if_neg (by simpa using hb)]
  have e : ordBad (rprev l i) (at_rec l i).key = true := by
    unfold rprev; rw [if_neg (by omega)]; exact ho
  rw [if_pos e]
theorem rlerr_all {l : List Rec} (h : RGood l l.length) : rlerr none l = 0 := by
  rw [rlerr_skip h, List.drop_length]; rfl
theorem RGood.zero (l : List Rec) : RGood l 0 := ⟨Nat.zero_le _, fun k hk => absurd hk (Nat.not_lt_zero _)⟩
theorem RGood.succ {l : List Rec} {i : Nat} (h : RGood l i) (hi : i < l.length) (hb : rerr (at_rec l i).key (at_rec l i).val = 0) (ho : 0 < i → sle (at_rec l i).key (at_rec l (i - 1)).key = false) : RGood l (i + 1) :=
  ⟨hi, fun k hk => by
    rcases Nat.lt_succ_iff_lt_or_eq.1 hk with h1 | rfl
    · exact h.2 k h1
    · exact ⟨hb, ho⟩⟩
/-! Only three keys: no good list is longer. -/
def krank (k : List UInt8) : Nat := if k = [108, 105, 110, 107, 112, 97, 116, 104] then 0 else if k = [112, 97, 116, 104] then 1 else 2
theorem rerr_ok {k v : List UInt8} (h : rerr k v = 0) : (k = [108, 105, 110, 107, 112, 97, 116, 104] ∨ k = [112, 97, 116, 104] ∨ k = [115, 105, 122, 101]) := by
  unfold rerr at h
  split at h
  · rename_i h1; exact .inr (.inr h1)
  · split at h
    · rename_i h1; exact h1.elim .inl (fun h => .inr (.inl h))
    · cases h
theorem krank_lt {a b : List UInt8} (ha : a = [108, 105, 110, 107, 112, 97, 116, 104] ∨ a = [112, 97, 116, 104] ∨ a = [115, 105, 122, 101]) (hb : b = [108, 105, 110, 107, 112, 97, 116, 104] ∨ b = [112, 97, 116, 104] ∨ b = [115, 105, 122, 101]) (h : sle a b = false) : krank b < krank a := by
  rcases ha with rfl | rfl | rfl <;> rcases hb with rfl | rfl | rfl <;> revert h <;> decide
theorem RGood.rank {l : List Rec} : ∀ {i : Nat}, RGood l (i + 1) → i ≤ krank (at_rec l i).key
  | 0, _ => Nat.zero_le _
  | i + 1, h => by
    have h1 := RGood.rank (i := i) ⟨by have := h.1; omega, fun k hk => h.2 k (by omega)⟩
    have h2 := h.2 i (by omega)
    have h3 := h.2 (i + 1) (by omega)
    have := krank_lt (rerr_ok h3.1) (rerr_ok h2.1) (by have := h3.2 (by omega); simpa using this)
    omega
theorem krank_le (k : List UInt8) : krank k ≤ 2 := by unfold krank; split <;> (try split) <;> omega
theorem RGood.three {l : List Rec} {i : Nat} (h : RGood l i) : i ≤ 3 := by
  cases i with
  | zero => omega
  | succ i => have := h.rank; have := krank_le (at_rec l i).key; omega
theorem dec_bound : ∀ (n : Nat) (l : List UInt8), (∀ k, k < l.length → 48 ≤ byt l k) → True := fun _ _ _ => trivial
theorem decN_big {s : List UInt8} (hd : decOk s = true) (h2 : 2 ≤ s.length) (h0 : ¬ (byt s 0 = 48 ∧ ¬ s = [48])) : 10 ^ (s.length - 1) ≤ decN s := by
  have hb := decOk_iff.1 hd
  have h9 : 49 ≤ byt s 0 := by
    have := hb 0 (by omega)
    rcases Int.lt_or_le (byt s 0) 49 with h2 | h2
    · exact absurd ⟨by omega, fun e => by have := congrArg List.length e; simp at this; omega⟩ h0
    · exact h2
  have key : ∀ i, i + 1 ≤ s.length → 10 ^ i ≤ decN (s.take (i + 1)) := by
    intro i
    induction i with
    | zero =>
      intro _
      rw [decN_step (by omega)]
      have : decN (s.take 0) = 0 := by simp [decN]
      omega
    | succ i ih =>
      intro h
      rw [decN_step (by omega), Nat.pow_succ]
      have := ih (by omega)
      omega
  have := key (s.length - 1) (by omega)
  rw [show s.length - 1 + 1 = s.length by omega, List.take_length] at this
  exact this
theorem rerr_len {k v : List UInt8} (h : rerr k v = 0) : k.length ≤ 8 ∧ v.length ≤ 65536 := by
  refine ⟨by rcases rerr_ok h with rfl | rfl | rfl <;> simp, ?_⟩
  unfold rerr at h
  split at h
  · have hn : nerr v 1099511627776 = 0 := h
    unfold nerr at hn
    split at hn
    · cases hn
    · rename_i h1
      simp only [not_or] at h1
      split at hn
      · cases hn
      · rename_i h2
        rcases Nat.lt_or_ge v.length 15 with h3 | h3
        · omega
        · have := decN_big (by simpa using h1.1) (by omega) h1.2.2
          have h4 : 10 ^ 14 ≤ 10 ^ (v.length - 1) := Nat.pow_le_pow_right (by decide) (by omega)
          have h5 : (10 : Nat) ^ 14 = 100000000000000 := by decide
          omega
  · split at h
    · split at h
      · cases h
      · omega
    · cases h
theorem psz_lt {r : Nat} (h : r ≤ 1152921504606846976) : psz r ≤ r + 25 := by have := pdig_ok h; unfold psz; omega
theorem rone_len {r : Rec} (h : rerr r.key r.val = 0) : (rone r).length ≤ 65600 := by
  have h1 := rerr_len h
  have h2 := psz_lt (r := rrest r.key r.val) (by unfold rrest; omega)
  have h3 := decDigits_len (a := psz (rrest r.key r.val)) (by unfold rrest at h2 ⊢; omega)
  unfold rone
  simp only [List.length_append, List.length_cons, List.length_nil]
  omega
theorem RGood.out {l : List Rec} : ∀ {i : Nat}, RGood l i → ((l.take i).flatMap rone).length ≤ 65600 * i
  | 0, _ => by simp
  | i + 1, h => by
    have h1 := RGood.out (i := i) ⟨by have := h.1; omega, fun k hk => h.2 k (by omega)⟩
    have hi : i < l.length := h.1
    have h2 := rone_len (r := at_rec l i) (h.2 i (by omega)).1
    rw [List.take_succ_eq_append_getElem hi, List.flatMap_append, List.length_append, ← at_rec_eq hi]
    simp only [List.flatMap_cons, List.flatMap_nil, List.append_nil]
    omega
theorem take_rone {l : List Rec} {i : Nat} (hi : i < l.length) : (l.take (i + 1)).flatMap rone = (l.take i).flatMap rone ++ rone (at_rec l i) := by
  rw [List.take_succ_eq_append_getElem hi, List.flatMap_append, ← at_rec_eq hi]
  simp
theorem at_rec_mem {l : List Rec} {i : Nat} (h : i < l.length) : at_rec l i ∈ l := by rw [at_rec_eq h]; exact List.getElem_mem h

set_option maxRecDepth 100000 in
theorem rec_Format (h : Heap) (hK : GlbK h) (hN : GlbN h) (hE : GlbE h) (w : Value) (l : List Rec) (hl : Rows recS h w l) (hn : l.length ≤ 140737488355328) (hs : ∀ r ∈ l, r.key.length ≤ 140737488355328 ∧ r.val.length ≤ 140737488355328) : Cal Tryz.prog 13 #[w] h (fun v h' => ∃ s0, v = .tuple #[s0, .int .i64 (rlerr none l)] ∧ OwnB h' h.size s0 (rfmt l) ∧ Ext h h') := by
  refine Cal_enter (args := [w]) Tryz.func13 rfl rfl rfl (fun σ => ?_)
  refine W_seq ?_
  refine W_region ?_
  refine L_yld (Y_assign rfl) rfl rfl rfl ?_
  refine L_yld (Y_assign rfl) rfl rfl rfl ?_
  refine L_nil ?_
  refine X_then ?_
  refine W_seq ?_
  refine W_region ?_
  refine L_yld (Y_assign rfl) rfl rfl rfl ?_
  refine L_nil ?_
  refine X_then ?_
  refine W_seq ?_
  refine W_seq ?_
  refine W_region ?_
  refine L_yld (Y_move rfl) rfl rfl rfl ?_
  refine L_yld (Y_lenr Tryz.underlying37 rfl hl) rfl rfl rfl ?_
  refine L_yld (Y_move rfl) rfl rfl rfl ?_
  refine L_nil ?_
  refine X_then ?_
  refine W_block ?_
  refine W_loop (S := Nat × Value) (fun (i, u) => [(9, .int .i64 ((l.length : Int))), (8, w), (0, w), (4, u), (10, .int .i64 ((i : Int)))]) (fun (i, u) h' => RGood l i ∧ OwnB h' h.size u ((l.take i).flatMap rone) ∧ Ext h h') (fun (i, u) => l.length - i) (0, .slice none 0 0) (.cons (i := 9) rfl (.cons (i := 8) rfl (.cons (i := 0) rfl (.cons (i := 4) rfl (.cons (i := 10) rfl (.nil _)))))) ?_ ?_
  · exact ⟨RGood.zero l, OwnB.nil _ _, Ext.refl _⟩
  rintro ⟨i, u⟩ h1 ⟨hg, ho, hx⟩
  show W _ _ _ _ _ [(9, .int .i64 ((l.length : Int))), (8, w), (0, w), (4, u), (10, .int .i64 ((i : Int)))] _
  have h3 := hg.three
  have hol := hg.out
  refine W_seq ?_
  refine W_region ?_
  refine L_yld (Y_lss rfl rfl) rfl rfl rfl ?_
  refine L_nil ?_
  refine X_then ?_
  refine W_seq ?_
  refine W_splitd rfl (fun hlt => ?_) (fun hlt => ?_)
  · refine W_skip ?_
    refine X_then ?_
    refine W_sub _ (.cons (i := 9) rfl (.cons (i := 8) rfl (.cons (i := 0) rfl (.cons (i := 4) rfl (.cons (i := 10) rfl (.nil _)))))) ?_
    have hmm := hs _ (at_rec_mem (l := l) (i := i) (by omega))
    refine W_seq ?_
    refine W_block ?_
    refine W_seq ?_
    refine W_region ?_
    refine L_yld (Y_move rfl) rfl rfl rfl ?_
    refine L_yld (Y_idxr Tryz.underlying37 (show _ = some 2 by kernel_rfl) rfl rfl rfl (hl.ext hx) (by first | omega | (simp only [List.length_append, List.length_cons, List.length_nil, Int.toNat_natCast]; omega) | (simp; omega)) (by first | omega | (simp only [List.length_append, List.length_cons, List.length_nil, Int.toNat_natCast]; omega) | (simp; omega))) rfl rfl rfl ?_
    refine L_yld (Y_ldrA0 (k := ((i : Int)).toNat) (us := [str ((at_rec l ((i : Int)).toNat).key), str ((at_rec l ((i : Int)).toNat).val)]) Tryz.underlying76 rfl (show _ = some 2 by kernel_rfl) rfl rfl (hl.ext hx) (by first | omega | (simp only [List.length_append, List.length_cons, List.length_nil, Int.toNat_natCast]; omega) | (simp; omega)) rfl) rfl rfl rfl ?_
    refine L_mks (M_alloc (u := .agg #[str [], str []]) (by kernel_rfl)) rfl rfl rfl ?_
    rintro _ h2 ⟨rfl, hn1⟩
    have hk2 : Blk h2 h1.size [str [], str []] := hn1.blk
    refine L_yld (Y_assign rfl) rfl rfl rfl ?_
    refine L_dos (D_store (us := [str ((at_rec l ((i : Int)).toNat).key), str ((at_rec l ((i : Int)).toNat).val)]) (show _ = some 2 by kernel_rfl) rfl rfl rfl (by simp [Value.oneCell']) hk2 (by simp)) rfl rfl ?_
    rintro h3 hp3
    have hk4 : Blk h3 h1.size [str ((at_rec l ((i : Int)).toNat).key), str ((at_rec l ((i : Int)).toNat).val)] := hp3.blk
    refine L_nil ?_
    refine X_then ?_
    refine W_sub _ (.cons (i := 5) rfl (.cons (i := 6) rfl (.cons (i := 9) rfl (.cons (i := 8) rfl (.cons (i := 0) rfl (.cons (i := 4) rfl (.cons (i := 10) rfl (.nil _)))))))) ?_
    refine W_seq ?_
    refine W_seq ?_
    refine W_region ?_
    refine L_yld (Y_ldbox (us := [str ((at_rec l ((i : Int)).toNat).key), str ((at_rec l ((i : Int)).toNat).val)]) Tryz.underlying76 rfl (show _ = some 2 by kernel_rfl) rfl hk4 rfl) rfl rfl rfl ?_
    refine L_call (E_call (by kernel_rfl) rfl) (rec_Check _ (hK.ext ((hx.trans hn1.ext).then' hp3.only (by simp) hx.size)) (hE.ext ((hx.trans hn1.ext).then' hp3.only (by simp) hx.size)) ((at_rec l ((i : Int)).toNat).key) ((at_rec l ((i : Int)).toNat).val) (by first | first | omega | (simp only [List.length_append, List.length_cons, List.length_nil, Int.toNat_natCast]; omega) | (simp; omega) | rfl | (simp <;> omega))) rfl rfl rfl ?_
    rintro _ h4 ⟨rfl, hx5⟩
    refine L_yld (Y_assign rfl) rfl rfl rfl ?_
    refine L_nil ?_
    refine X_then ?_
    refine W_sub _ (.cons (i := 7) rfl (.cons (i := 5) rfl (.cons (i := 6) rfl (.cons (i := 9) rfl (.cons (i := 8) rfl (.cons (i := 0) rfl (.cons (i := 4) rfl (.cons (i := 10) rfl (.nil _))))))))) ?_
    refine W_seq ?_
    refine W_region ?_
    refine L_yld (Y_move rfl) rfl rfl rfl ?_
    refine L_yld (Y_neq rfl rfl) rfl rfl rfl ?_
    refine L_nil ?_
    refine X_then ?_
    refine W_sub _ (.cons (i := 18) rfl (.cons (i := 7) rfl (.cons (i := 5) rfl (.cons (i := 6) rfl (.cons (i := 9) rfl (.cons (i := 8) rfl (.cons (i := 0) rfl (.cons (i := 4) rfl (.cons (i := 10) rfl (.nil _)))))))))) ?_
    refine W_splitd rfl (fun e => ?_) (fun e => ?_)
    · refine W_seq ?_
      refine W_region ?_
      refine L_yld (Y_move rfl) rfl rfl rfl ?_
      refine L_yld (Y_assign rfl) rfl rfl rfl ?_
      refine L_yld (Y_assign rfl) rfl rfl rfl ?_
      refine L_nil ?_
      refine X_then ?_
      refine W_sub _ (.cons (i := 3) rfl (.cons (i := 2) rfl (.cons (i := 5) rfl (.cons (i := 6) rfl (.cons (i := 9) rfl (.cons (i := 8) rfl (.cons (i := 0) rfl (.cons (i := 4) rfl (.cons (i := 10) rfl (.nil _)))))))))) ?_
      refine W_ret ?_
      refine X_then_ret ?_
      refine X_block_ret ?_
      refine X_then_ret ?_
      refine X_then_ret ?_
      refine X_block_ret ?_
      refine X_then_ret ?_
      refine X_ret2 rfl rfl rfl ?_
      have he := rlerr_bad hg (by omega) e
      refine ⟨.slice none 0 0, by first | (rw [he]; done) | (rw [he]; rfl), ?_, (((hx.trans hn1.ext).then' hp3.only (by simp) hx.size).trans hx5)⟩
      unfold rfmt
      rw [if_neg (by rw [he]; exact e)]
      exact OwnB.nil _ _
    · refine W_skip ?_
      refine X_then ?_
      refine W_sub _ (.cons (i := 5) rfl (.cons (i := 6) rfl (.cons (i := 9) rfl (.cons (i := 8) rfl (.cons (i := 0) rfl (.cons (i := 4) rfl (.cons (i := 10) rfl (.nil _)))))))) ?_
      have hb0 : rerr (at_rec l i).key (at_rec l i).val = 0 := Classical.not_not.1 e
      refine W_seq ?_
      refine W_seq ?_
      refine W_quiet (fun h' => h' = h4) (by kernel_rfl) (by kernel_rfl) rfl ?_
      refine LQ_yld (fun h_ hI_ => by subst hI_; exact Y_move rfl) rfl rfl rfl ?_
      refine LQ_yld (fun h_ hI_ => by subst hI_; exact Y_gtr rfl rfl) rfl rfl rfl ?_
      refine LQ_yld (fun h_ hI_ => by subst hI_; exact Y_move rfl) rfl rfl rfl ?_
      refine LQ_splitd (d := 22) rfl (fun p => ?_) (fun p => ?_)
      · refine LQ_yld (fun h_ hI_ => by subst hI_; exact Y_fieldAddr (off := 0) (by kernel_rfl) rfl rfl) rfl rfl rfl ?_
        refine LQ_yld (fun h_ hI_ => by subst hI_; exact Y_ldblk Tryz.underlying9 rfl rfl (hk4.ext hx5) rfl) rfl rfl rfl ?_
        refine LQ_yld (fun h_ hI_ => by subst hI_; exact Y_move rfl) rfl rfl rfl ?_
        refine LQ_yld (fun h_ hI_ => by subst hI_; exact Y_move rfl) rfl rfl rfl ?_
        refine LQ_yld (fun h_ hI_ => by subst hI_; exact Y_sub rfl rfl (by first | omega | (simp only [List.length_append, List.length_cons, List.length_nil, Int.toNat_natCast]; omega) | (simp; omega)) (by first | omega | (simp only [List.length_append, List.length_cons, List.length_nil, Int.toNat_natCast]; omega) | (simp; omega))) rfl rfl rfl ?_
        refine LQ_yld (fun h_ hI_ => by subst hI_; exact Y_idxr Tryz.underlying37 (show _ = some 2 by kernel_rfl) rfl rfl rfl (hl.ext (((hx.trans hn1.ext).then' hp3.only (by simp) hx.size).trans hx5)) (by first | omega | (simp only [List.length_append, List.length_cons, List.length_nil, Int.toNat_natCast]; omega) | (simp; omega)) (by first | omega | (simp only [List.length_append, List.length_cons, List.length_nil, Int.toNat_natCast]; omega) | (simp; omega))) rfl rfl rfl ?_
        refine LQ_yld (fun h_ hI_ => by subst hI_; exact Y_fldr (k := ((i : Int) - 1).toNat) (off := 0) (by kernel_rfl) rfl (hl.ext (((hx.trans hn1.ext).then' hp3.only (by simp) hx.size).trans hx5)) (by first | omega | (simp only [List.length_append, List.length_cons, List.length_nil, Int.toNat_natCast]; omega) | (simp; omega))) rfl rfl rfl ?_
        refine LQ_yld (fun h_ hI_ => by subst hI_; exact Y_ldr1 (off := 0) (k := ((i : Int) - 1).toNat) Tryz.underlying9 rfl rfl rfl (hl.ext (((hx.trans hn1.ext).then' hp3.only (by simp) hx.size).trans hx5)) (by first | omega | (simp only [List.length_append, List.length_cons, List.length_nil, Int.toNat_natCast]; omega) | (simp; omega)) rfl) rfl rfl rfl ?_
        refine LQ_yld (fun h_ hI_ => by subst hI_; exact Y_sleq rfl rfl) rfl rfl rfl ?_
        refine LQ_yld (fun h_ hI_ => by subst hI_; exact Y_pick_t rfl rfl) rfl rfl rfl ?_
        refine LQ_nil ?_
        rintro h4 rfl
        refine X_then ?_
        refine W_sub _ (.cons (i := 32) rfl (.cons (i := 6) rfl (.cons (i := 9) rfl (.cons (i := 8) rfl (.cons (i := 0) rfl (.cons (i := 4) rfl (.cons (i := 10) rfl (.nil _)))))))) ?_
        refine W_split rfl (fun z => ?_) (fun z => ?_)
        · refine W_seq ?_
          refine W_region ?_
          refine L_yld (Y_assign rfl) rfl rfl rfl ?_
          refine L_yld (Y_assign rfl) rfl rfl rfl ?_
          refine L_nil ?_
          refine X_then ?_
          refine W_sub _ (.cons (i := 3) rfl (.cons (i := 2) rfl (.cons (i := 6) rfl (.cons (i := 9) rfl (.cons (i := 8) rfl (.cons (i := 0) rfl (.cons (i := 4) rfl (.cons (i := 10) rfl (.nil _))))))))) ?_
          refine W_ret ?_
          refine X_then_ret ?_
          refine X_block_ret ?_
          refine X_then_ret ?_
          refine X_then_ret ?_
          refine X_block_ret ?_
          refine X_then_ret ?_
          refine X_ret2 rfl rfl rfl ?_
          have he := rlerr_order hg (by omega) (by omega) hb0 (by rw [show i - 1 = ((i : Int) - 1).toNat by omega]; exact z)
          refine ⟨.slice none 0 0, by first | (rw [he]; done) | (rw [he]; rfl), ?_, (((hx.trans hn1.ext).then' hp3.only (by simp) hx.size).trans hx5)⟩
          unfold rfmt
          rw [if_neg (by rw [he]; decide)]
          exact OwnB.nil _ _
        · refine W_skip ?_
          refine X_then ?_
          refine W_sub _ (.cons (i := 6) rfl (.cons (i := 9) rfl (.cons (i := 8) rfl (.cons (i := 0) rfl (.cons (i := 4) rfl (.cons (i := 10) rfl (.nil _))))))) ?_
          have hoo : 0 < i → sle (at_rec l i).key (at_rec l (i - 1)).key = false := fun _ => by rw [show i - 1 = ((i : Int) - 1).toNat by omega]; exact z
          have hgs := hg.succ (by omega) hb0 hoo
          have hl3 := rerr_len hb0
          have hps := psz_lt (r := rrest (at_rec l i).key (at_rec l i).val) (by unfold rrest; omega)
          have hrr : rrest (at_rec l i).key (at_rec l i).val ≤ 65600 := by unfold rrest; omega
          have hdl := decDigits_len (a := psz (rrest (at_rec l i).key (at_rec l i).val)) (by omega)
          refine W_seq ?_
          refine W_region ?_
          refine L_yld (Y_move rfl) rfl rfl rfl ?_
          refine L_yld (Y_ldbox (us := [str ((at_rec l ((i : Int)).toNat).key), str ((at_rec l ((i : Int)).toNat).val)]) Tryz.underlying76 rfl (show _ = some 2 by kernel_rfl) rfl (hk4.ext hx5) rfl) rfl rfl rfl ?_
          refine L_call (E_call (by kernel_rfl) rfl) (rec_Size _ (hN.ext (((hx.trans hn1.ext).then' hp3.only (by simp) hx.size).trans hx5)) ((at_rec l ((i : Int)).toNat).key) ((at_rec l ((i : Int)).toNat).val) (by first | first | omega | (simp only [List.length_append, List.length_cons, List.length_nil, Int.toNat_natCast]; omega) | (simp; omega) | rfl | (simp <;> omega)) (by first | first | omega | (simp only [List.length_append, List.length_cons, List.length_nil, Int.toNat_natCast]; omega) | (simp; omega) | rfl | (simp <;> omega))) rfl rfl rfl ?_
          rintro _ h5 ⟨rfl, hx6⟩
          refine L_call (E_call (by kernel_rfl) rfl) (strconv_AppendInt _ (hN.ext ((((hx.trans hn1.ext).then' hp3.only (by simp) hx.size).trans hx5).trans hx6)) u ((l.take i).flatMap rone) h (⟨(Nat.le_trans (Nat.le_trans (Nat.le_trans (Nat.le_trans hx.size hn1.ext.size) hp3.only.size) hx5.size) hx6.size)⟩) (ho.ext (((hn1.ext.then' hp3.only (by simp) (Nat.le_refl _)).trans hx5).trans hx6)) (psz (rrest ((at_rec l ((i : Int)).toNat).key) ((at_rec l ((i : Int)).toNat).val)) : Int) (by first | first | omega | (simp only [List.length_append, List.length_cons, List.length_nil, Int.toNat_natCast]; omega) | (simp; omega) | rfl | (simp <;> omega)) (by first | first | omega | (simp only [List.length_append, List.length_cons, List.length_nil, Int.toNat_natCast]; omega) | (simp; omega) | rfl | (simp <;> omega))) rfl rfl rfl ?_
          rintro v7 h6 ha8
          refine L_yld (Y_assign rfl) rfl rfl rfl ?_
          refine L_nil ?_
          refine X_then ?_
          refine W_sub _ (.cons (i := 4) rfl (.cons (i := 6) rfl (.cons (i := 9) rfl (.cons (i := 8) rfl (.cons (i := 0) rfl (.cons (i := 10) rfl (.nil _))))))) ?_
          refine W_region ?_
          refine L_yld (Y_move rfl) rfl rfl rfl ?_
          refine L_yld (Y_fieldAddr (off := 0) (by kernel_rfl) rfl rfl) rfl rfl rfl ?_
          have hc9 := (((hk4.ext hx5).ext hx6).only ha8.only (fun hb_ => Nat.lt_irrefl _ (Nat.lt_of_lt_of_le (Own.lt ho _ (by simpa using hb_)).2 (Nat.le_refl _))))
          refine L_yld (Y_ldblk Tryz.underlying9 rfl rfl hc9 rfl) rfl rfl rfl ?_
          refine L_yld (Y_sadd rfl rfl (by first | first | omega | (simp only [List.length_append, List.length_cons, List.length_nil, Int.toNat_natCast]; omega) | (simp; omega) | (simp <;> omega))) rfl rfl rfl ?_
          refine L_yld (Y_sadd rfl rfl (by first | first | omega | (simp only [List.length_append, List.length_cons, List.length_nil, Int.toNat_natCast]; omega) | (simp; omega) | (simp <;> omega))) rfl rfl rfl ?_
          refine L_yld (Y_fieldAddr (off := 1) (by kernel_rfl) rfl rfl) rfl rfl rfl ?_
          refine L_yld (Y_ldblk Tryz.underlying9 rfl rfl hc9 rfl) rfl rfl rfl ?_
          refine L_yld (Y_sadd rfl rfl (by first | first | omega | (simp only [List.length_append, List.length_cons, List.length_nil, Int.toNat_natCast]; omega) | (simp; omega) | (simp <;> omega))) rfl rfl rfl ?_
          refine L_yld (Y_sadd rfl rfl (by first | first | omega | (simp only [List.length_append, List.length_cons, List.length_nil, Int.toNat_natCast]; omega) | (simp; omega) | (simp <;> omega))) rfl rfl rfl ?_
          refine L_mks (M_appbs Tryz.underlying24 Tryz.underlying9 (by unfold elemRow; kernel_rfl) rfl rfl ha8.own (Nat.le_trans (Nat.le_trans (Nat.le_trans (Nat.le_trans (Nat.le_trans hx.size hn1.ext.size) hp3.only.size) hx5.size) hx6.size) ha8.only.size) (by first | first | omega | (simp only [List.length_append, List.length_cons, List.length_nil, Int.toNat_natCast]; omega) | (simp; omega) | (simp; first | omega | (simp only [List.length_append, List.length_cons, List.length_nil, Int.toNat_natCast]; omega) | (simp; omega)))) rfl rfl rfl ?_
          rintro v10 h7 ha11
          refine L_yld (Y_assign rfl) rfl rfl rfl ?_
          refine L_nil ?_
          refine X_block ?_
          refine X_then ?_
          refine W_sub _ (.cons (i := 4) rfl (.cons (i := 9) rfl (.cons (i := 8) rfl (.cons (i := 0) rfl (.cons (i := 10) rfl (.nil _)))))) ?_
          refine W_region ?_
          refine L_yld (Y_add rfl rfl (by first | omega | (simp only [List.length_append, List.length_cons, List.length_nil, Int.toNat_natCast]; omega) | (simp; omega)) (by first | omega | (simp only [List.length_append, List.length_cons, List.length_nil, Int.toNat_natCast]; omega) | (simp; omega))) rfl rfl rfl ?_
          refine L_yld (Y_move rfl) rfl rfl rfl ?_
          refine L_nil ?_
          refine X_loop ((i + 1, v10)) (.cons (i := 9) rfl (.cons (i := 8) rfl (.cons (i := 0) rfl (.cons (i := 4) rfl (.cons (i := 10) rfl (.nil _)))))) ?_ ?_
          · exact ⟨hgs, OwnB.congr (ha11.own) (by rw [take_rone (by omega), rone]; simp only [Int.toNat_natCast, List.append_assoc, List.nil_append, List.cons_append]), ((((((hx.trans hn1.ext).then' hp3.only (by simp) hx.size).trans hx5).trans hx6).then' ha8.only ha8.ge (Nat.le_refl _)).then' ha11.only ha11.ge (Nat.le_refl _))⟩
          · (try dsimp only)
            omega
      · refine LQ_skip rfl rfl rfl ?_
        refine LQ_skip rfl rfl rfl ?_
        refine LQ_skip rfl rfl rfl ?_
        refine LQ_skip rfl rfl rfl ?_
        refine LQ_skip rfl rfl rfl ?_
        refine LQ_skip rfl rfl rfl ?_
        refine LQ_skip rfl rfl rfl ?_
        refine LQ_skip rfl rfl rfl ?_
        refine LQ_skip rfl rfl rfl ?_
        refine LQ_yld (fun h_ hI_ => by subst hI_; exact Y_pick_f rfl rfl) rfl rfl rfl ?_
        refine LQ_nil ?_
        rintro h4 rfl
        refine X_then ?_
        refine W_sub _ (.cons (i := 32) rfl (.cons (i := 6) rfl (.cons (i := 9) rfl (.cons (i := 8) rfl (.cons (i := 0) rfl (.cons (i := 4) rfl (.cons (i := 10) rfl (.nil _)))))))) ?_
        refine W_false rfl ?_
        refine W_skip ?_
        refine X_then ?_
        refine W_sub _ (.cons (i := 6) rfl (.cons (i := 9) rfl (.cons (i := 8) rfl (.cons (i := 0) rfl (.cons (i := 4) rfl (.cons (i := 10) rfl (.nil _))))))) ?_
        have hoo : 0 < i → sle (at_rec l i).key (at_rec l (i - 1)).key = false := fun h9 => absurd h9 (by omega)
        have hgs := hg.succ (by omega) hb0 hoo
        have hl3 := rerr_len hb0
        have hps := psz_lt (r := rrest (at_rec l i).key (at_rec l i).val) (by unfold rrest; omega)
        have hrr : rrest (at_rec l i).key (at_rec l i).val ≤ 65600 := by unfold rrest; omega
        have hdl := decDigits_len (a := psz (rrest (at_rec l i).key (at_rec l i).val)) (by omega)
        refine W_seq ?_
        refine W_region ?_
        refine L_yld (Y_move rfl) rfl rfl rfl ?_
        refine L_yld (Y_ldbox (us := [str ((at_rec l ((i : Int)).toNat).key), str ((at_rec l ((i : Int)).toNat).val)]) Tryz.underlying76 rfl (show _ = some 2 by kernel_rfl) rfl (hk4.ext hx5) rfl) rfl rfl rfl ?_
        refine L_call (E_call (by kernel_rfl) rfl) (rec_Size _ (hN.ext (((hx.trans hn1.ext).then' hp3.only (by simp) hx.size).trans hx5)) ((at_rec l ((i : Int)).toNat).key) ((at_rec l ((i : Int)).toNat).val) (by first | first | omega | (simp only [List.length_append, List.length_cons, List.length_nil, Int.toNat_natCast]; omega) | (simp; omega) | rfl | (simp <;> omega)) (by first | first | omega | (simp only [List.length_append, List.length_cons, List.length_nil, Int.toNat_natCast]; omega) | (simp; omega) | rfl | (simp <;> omega))) rfl rfl rfl ?_
        rintro _ h8 ⟨rfl, hx12⟩
        refine L_call (E_call (by kernel_rfl) rfl) (strconv_AppendInt _ (hN.ext ((((hx.trans hn1.ext).then' hp3.only (by simp) hx.size).trans hx5).trans hx12)) u ((l.take i).flatMap rone) h (⟨(Nat.le_trans (Nat.le_trans (Nat.le_trans (Nat.le_trans hx.size hn1.ext.size) hp3.only.size) hx5.size) hx12.size)⟩) (ho.ext (((hn1.ext.then' hp3.only (by simp) (Nat.le_refl _)).trans hx5).trans hx12)) (psz (rrest ((at_rec l ((i : Int)).toNat).key) ((at_rec l ((i : Int)).toNat).val)) : Int) (by first | first | omega | (simp only [List.length_append, List.length_cons, List.length_nil, Int.toNat_natCast]; omega) | (simp; omega) | rfl | (simp <;> omega)) (by first | first | omega | (simp only [List.length_append, List.length_cons, List.length_nil, Int.toNat_natCast]; omega) | (simp; omega) | rfl | (simp <;> omega))) rfl rfl rfl ?_
        rintro v13 h9 ha14
        refine L_yld (Y_assign rfl) rfl rfl rfl ?_
        refine L_nil ?_
        refine X_then ?_
        refine W_sub _ (.cons (i := 4) rfl (.cons (i := 6) rfl (.cons (i := 9) rfl (.cons (i := 8) rfl (.cons (i := 0) rfl (.cons (i := 10) rfl (.nil _))))))) ?_
        refine W_region ?_
        refine L_yld (Y_move rfl) rfl rfl rfl ?_
        refine L_yld (Y_fieldAddr (off := 0) (by kernel_rfl) rfl rfl) rfl rfl rfl ?_
        have hc15 := (((hk4.ext hx5).ext hx12).only ha14.only (fun hb_ => Nat.lt_irrefl _ (Nat.lt_of_lt_of_le (Own.lt ho _ (by simpa using hb_)).2 (Nat.le_refl _))))
        refine L_yld (Y_ldblk Tryz.underlying9 rfl rfl hc15 rfl) rfl rfl rfl ?_
        refine L_yld (Y_sadd rfl rfl (by first | first | omega | (simp only [List.length_append, List.length_cons, List.length_nil, Int.toNat_natCast]; omega) | (simp; omega) | (simp <;> omega))) rfl rfl rfl ?_
        refine L_yld (Y_sadd rfl rfl (by first | first | omega | (simp only [List.length_append, List.length_cons, List.length_nil, Int.toNat_natCast]; omega) | (simp; omega) | (simp <;> omega))) rfl rfl rfl ?_
        refine L_yld (Y_fieldAddr (off := 1) (by kernel_rfl) rfl rfl) rfl rfl rfl ?_
        refine L_yld (Y_ldblk Tryz.underlying9 rfl rfl hc15 rfl) rfl rfl rfl ?_
        refine L_yld (Y_sadd rfl rfl (by first | first | omega | (simp only [List.length_append, List.length_cons, List.length_nil, Int.toNat_natCast]; omega) | (simp; omega) | (simp <;> omega))) rfl rfl rfl ?_
        refine L_yld (Y_sadd rfl rfl (by first | first | omega | (simp only [List.length_append, List.length_cons, List.length_nil, Int.toNat_natCast]; omega) | (simp; omega) | (simp <;> omega))) rfl rfl rfl ?_
        refine L_mks (M_appbs Tryz.underlying24 Tryz.underlying9 (by unfold elemRow; kernel_rfl) rfl rfl ha14.own (Nat.le_trans (Nat.le_trans (Nat.le_trans (Nat.le_trans (Nat.le_trans hx.size hn1.ext.size) hp3.only.size) hx5.size) hx12.size) ha14.only.size) (by first | first | omega | (simp only [List.length_append, List.length_cons, List.length_nil, Int.toNat_natCast]; omega) | (simp; omega) | (simp; first | omega | (simp only [List.length_append, List.length_cons, List.length_nil, Int.toNat_natCast]; omega) | (simp; omega)))) rfl rfl rfl ?_
        rintro v16 h10 ha17
        refine L_yld (Y_assign rfl) rfl rfl rfl ?_
        refine L_nil ?_
        refine X_block ?_
        refine X_then ?_
        refine W_sub _ (.cons (i := 4) rfl (.cons (i := 9) rfl (.cons (i := 8) rfl (.cons (i := 0) rfl (.cons (i := 10) rfl (.nil _)))))) ?_
        refine W_region ?_
        refine L_yld (Y_add rfl rfl (by first | omega | (simp only [List.length_append, List.length_cons, List.length_nil, Int.toNat_natCast]; omega) | (simp; omega)) (by first | omega | (simp only [List.length_append, List.length_cons, List.length_nil, Int.toNat_natCast]; omega) | (simp; omega))) rfl rfl rfl ?_
        refine L_yld (Y_move rfl) rfl rfl rfl ?_
        refine L_nil ?_
        refine X_loop ((i + 1, v16)) (.cons (i := 9) rfl (.cons (i := 8) rfl (.cons (i := 0) rfl (.cons (i := 4) rfl (.cons (i := 10) rfl (.nil _)))))) ?_ ?_
        · exact ⟨hgs, OwnB.congr (ha17.own) (by rw [take_rone (by omega), rone]; simp only [Int.toNat_natCast, List.append_assoc, List.nil_append, List.cons_append]), ((((((hx.trans hn1.ext).then' hp3.only (by simp) hx.size).trans hx5).trans hx12).then' ha14.only ha14.ge (Nat.le_refl _)).then' ha17.only ha17.ge (Nat.le_refl _))⟩
        · (try dsimp only)
          omega
  · refine W_exit ?_
    refine X_then_exit ?_
    refine X_then_exit ?_
    refine X_block_hit ?_
    refine X_then ?_
    refine W_sub _ (.cons (i := 4) rfl (.nil _)) ?_
    refine W_seq ?_
    refine W_region ?_
    refine L_yld (Y_move rfl) rfl rfl rfl ?_
    refine L_yld (Y_assign rfl) rfl rfl rfl ?_
    refine L_yld (Y_assign rfl) rfl rfl rfl ?_
    refine L_nil ?_
    refine X_then ?_
    refine W_sub _ (.cons (i := 3) rfl (.cons (i := 2) rfl (.nil _))) ?_
    refine W_ret ?_
    refine X_ret2 rfl rfl rfl ?_
    have hi9 : i = l.length := by have := hg.1; omega
    have he := rlerr_all (hi9 ▸ hg)
    refine ⟨_, by rw [he], ?_, hx⟩
    unfold rfmt
    rw [if_pos he]
    exact OwnB.congr ((ho).low (Nat.le_refl _)) (by rw [hi9, List.take_length])

set_option maxRecDepth 100000 in
theorem ref09_one (h : Heap) (ky : List UInt8) (vl : List UInt8) (h1 : ky.length ≤ 1048576) (h2 : vl.length ≤ 1048576) : Cal Tryz.prog 44 #[.agg #[str ky, str vl]] h (fun v h' => v = str (rone ⟨ky, vl⟩) ∧ Ext h h') := by
  have hps := psz_lt (r := rrest ky vl) (by unfold rrest; omega)
  have hdl := decDigits_len (a := psz (rrest ky vl)) (by unfold rrest at hps ⊢; omega)
  have hrr : rrest ky vl = ky.length + vl.length + 3 := rfl
  refine Cal_enter (args := [.agg #[str ky, str vl]]) Tryz.func44 rfl rfl rfl (fun σ => ?_)
  refine W_seq ?_
  refine W_region ?_
  refine L_mks (M_box rfl) rfl rfl rfl ?_
  rintro _ h1 ⟨rfl, hn1⟩
  have hk2 : Blk h1 h.size [str ky, str vl] := hn1.blk
  refine L_yld (Y_assign rfl) rfl rfl rfl ?_
  refine L_nil ?_
  refine X_then ?_
  refine W_sub _ (.cons (i := 2) rfl (.cons (i := 1) rfl (.nil _))) ?_
  refine W_seq ?_
  refine W_pers [(1, .pointer (some ⟨h.size, 0, none⟩))] (.cons (i := 1) rfl (.nil _)) (by kernel_rfl) ?_
  refine LP_op 0 (fun _ vv => .agg #[str ky, str vl] = vv) [] rfl rfl (by kernel_rfl) (fun _ _ _ _ p => p) ?_ ?_
  · intro h2 hx3
    refine Needs_nil ?_
    refine Stp_yld (Y_ldbox (us := [str ky, str vl]) Tryz.underlying76 rfl (show _ = some 2 by kernel_rfl) rfl (hk2.ext hx3) rfl) rfl ?_
    exact rfl
  refine LP_op 1 (fun _ vv => .int .i64 ((psz (rrest ky vl) : Int)) = vv) [(0, 3)] rfl rfl (by kernel_rfl) (fun _ _ _ _ p => p) ?_ ?_
  · intro h3 hx4
    rintro _ rfl
    refine Needs_nil ?_
    refine Stp_call (E_call (by kernel_rfl) rfl) (ref09_Size _ ky vl (by first | first | omega | (simp only [List.length_append, List.length_cons, List.length_nil, Int.toNat_natCast]; omega) | rfl | (simp <;> omega)) (by first | first | omega | (simp only [List.length_append, List.length_cons, List.length_nil, Int.toNat_natCast]; omega) | rfl | (simp <;> omega))) rfl ?_
    rintro _ h4 ⟨rfl, hx5⟩
    exact ⟨hx5, rfl⟩
  refine LP_op 2 (fun _ vv => str (Lib.decDigits (psz (rrest ky vl) : Int).toNat) = vv) [(1, 4)] rfl rfl (by kernel_rfl) (fun _ _ _ _ p => p) ?_ ?_
  · intro h5 hx6
    rintro _ rfl
    refine Needs_nil ?_
    refine Stp_call (E_call (by kernel_rfl) rfl) (ref09_Decimal _ (psz (rrest ky vl) : Int) (by first | first | omega | (simp only [List.length_append, List.length_cons, List.length_nil, Int.toNat_natCast]; omega) | rfl | (simp <;> omega))) rfl ?_
    rintro _ h6 ⟨rfl, hx7⟩
    exact ⟨hx7, rfl⟩
  refine LP_op 3 (fun _ vv => str ((Lib.decDigits (psz (rrest ky vl) : Int).toNat) ++ [32]) = vv) [(2, 5)] rfl rfl (by kernel_rfl) (fun _ _ _ _ p => p) ?_ ?_
  · intro h7 hx8
    rintro _ rfl
    refine Needs_nil ?_
    refine Stp_yld (Y_sadd rfl rfl (by first | first | omega | (simp only [List.length_append, List.length_cons, List.length_nil, Int.toNat_natCast]; omega) | (simp <;> omega))) rfl ?_
    exact rfl
  refine LP_op 4 (fun _ vv => .pointer (some ⟨h.size, 0 + 0, none⟩) = vv) [] rfl rfl (by kernel_rfl) (fun _ _ _ _ p => p) ?_ ?_
  · intro h8 hx9
    refine Needs_nil ?_
    refine Stp_yld (Y_fieldAddr (off := 0) (by kernel_rfl) rfl rfl) rfl ?_
    exact rfl
  refine LP_op 5 (fun _ vv => str ky = vv) [(4, 7)] rfl rfl (by kernel_rfl) (fun _ _ _ _ p => p) ?_ ?_
  · intro h9 hx10
    rintro _ rfl
    refine Needs_nil ?_
    refine Stp_yld (Y_ldblk Tryz.underlying9 rfl rfl (hk2.ext hx10) rfl) rfl ?_
    exact rfl
  refine LP_op 6 (fun _ vv => str (((Lib.decDigits (psz (rrest ky vl) : Int).toNat) ++ [32]) ++ ky) = vv) [(5, 8), (3, 6)] rfl rfl (by kernel_rfl) (fun _ _ _ _ p => p) ?_ ?_
  · intro h10 hx11
    rintro _ rfl
    rintro _ rfl
    refine Needs_nil ?_
    refine Stp_yld (Y_sadd rfl rfl (by first | first | omega | (simp only [List.length_append, List.length_cons, List.length_nil, Int.toNat_natCast]; omega) | (simp <;> omega))) rfl ?_
    exact rfl
  refine LP_op 7 (fun _ vv => str ((((Lib.decDigits (psz (rrest ky vl) : Int).toNat) ++ [32]) ++ ky) ++ [61]) = vv) [(6, 9)] rfl rfl (by kernel_rfl) (fun _ _ _ _ p => p) ?_ ?_
  · intro h11 hx12
    rintro _ rfl
    refine Needs_nil ?_
    refine Stp_yld (Y_sadd rfl rfl (by first | first | omega | (simp only [List.length_append, List.length_cons, List.length_nil, Int.toNat_natCast]; omega) | (simp <;> omega))) rfl ?_
    exact rfl
  refine LP_op 8 (fun _ vv => .pointer (some ⟨h.size, 0 + 1, none⟩) = vv) [] rfl rfl (by kernel_rfl) (fun _ _ _ _ p => p) ?_ ?_
  · intro h12 hx13
    refine Needs_nil ?_
    refine Stp_yld (Y_fieldAddr (off := 1) (by kernel_rfl) rfl rfl) rfl ?_
    exact rfl
  refine LP_op 9 (fun _ vv => str vl = vv) [(8, 11)] rfl rfl (by kernel_rfl) (fun _ _ _ _ p => p) ?_ ?_
  · intro h13 hx14
    rintro _ rfl
    refine Needs_nil ?_
    refine Stp_yld (Y_ldblk Tryz.underlying9 rfl rfl (hk2.ext hx14) rfl) rfl ?_
    exact rfl
  refine LP_op 10 (fun _ vv => str (((((Lib.decDigits (psz (rrest ky vl) : Int).toNat) ++ [32]) ++ ky) ++ [61]) ++ vl) = vv) [(7, 10), (9, 12)] rfl rfl (by kernel_rfl) (fun _ _ _ _ p => p) ?_ ?_
  · intro h14 hx15
    rintro _ rfl
    rintro _ rfl
    refine Needs_nil ?_
    refine Stp_yld (Y_sadd rfl rfl (by first | first | omega | (simp only [List.length_append, List.length_cons, List.length_nil, Int.toNat_natCast]; omega) | (simp <;> omega))) rfl ?_
    exact rfl
  refine LP_op 11 (fun _ vv => str ((((((Lib.decDigits (psz (rrest ky vl) : Int).toNat) ++ [32]) ++ ky) ++ [61]) ++ vl) ++ [10]) = vv) [(10, 13)] rfl rfl (by kernel_rfl) (fun _ _ _ _ p => p) ?_ ?_
  · intro h15 hx16
    rintro _ rfl
    refine Needs_nil ?_
    refine Stp_yld (Y_sadd rfl rfl (by first | first | omega | (simp only [List.length_append, List.length_cons, List.length_nil, Int.toNat_natCast]; omega) | (simp <;> omega))) rfl ?_
    exact rfl
  refine LP_op 12 (fun _ vv => str ((((((Lib.decDigits (psz (rrest ky vl) : Int).toNat) ++ [32]) ++ ky) ++ [61]) ++ vl) ++ [10]) = vv) [(11, 14)] rfl rfl (by kernel_rfl) (fun _ _ _ _ p => p) ?_ ?_
  · intro h16 hx17
    rintro _ rfl
    refine Needs_nil ?_
    refine Stp_yld (Y_assign rfl) rfl ?_
    exact rfl
  refine LP_end [(12, 2)] rfl (by kernel_rfl) rfl ?_
  intro h17 hx18
  rintro _ rfl
  refine Needs_nil ?_
  refine X_then ?_
  refine W_sub _ (.cons (i := 2) rfl (.nil _)) ?_
  refine W_ret ?_
  refine X_ret1 rfl rfl ?_
  refine ⟨?_, (hn1.ext.trans hx18)⟩
  rw [rone]; simp only [Int.toNat_natCast, List.append_assoc]

set_option maxRecDepth 100000 in
theorem ref09_Format (h : Heap) (w : Value) (l : List Rec) (hl : Rows recS h w l) (hn : l.length ≤ 140737488355328) (hs : ∀ r ∈ l, r.key.length ≤ 140737488355328 ∧ r.val.length ≤ 140737488355328) : Cal Tryz.prog 18 #[w] h (fun v h' => ∃ s0, v = .tuple #[s0, .int .i64 (rlerr none l)] ∧ OwnB h' h.size s0 (rfmt l) ∧ Ext h h') := by
  refine Cal_enter (args := [w]) Tryz.func18 rfl rfl rfl (fun σ => ?_)
  refine W_seq ?_
  refine W_region ?_
  refine L_yld (Y_assign rfl) rfl rfl rfl ?_
  refine L_yld (Y_assign rfl) rfl rfl rfl ?_
  refine L_nil ?_
  refine X_then ?_
  refine W_seq ?_
  refine W_region ?_
  refine L_yld (Y_assign rfl) rfl rfl rfl ?_
  refine L_nil ?_
  refine X_then ?_
  refine W_seq ?_
  refine W_seq ?_
  refine W_region ?_
  refine L_yld (Y_assign rfl) rfl rfl rfl ?_
  refine L_nil ?_
  refine X_then ?_
  refine W_block ?_
  refine W_loop (S := Nat) (fun i => [(0, w), (4, str ((l.take i).flatMap rone)), (5, .int .i64 ((i : Int)))]) (fun i h' => RGood l i ∧ Ext h h') (fun i => l.length - i) 0 (.cons (i := 0) rfl (.cons (i := 4) rfl (.cons (i := 5) rfl (.nil _)))) ?_ ?_
  · exact ⟨RGood.zero l, Ext.refl _⟩
  rintro i h1 ⟨hg, hx⟩
  show W _ _ _ _ _ [(0, w), (4, str ((l.take i).flatMap rone)), (5, .int .i64 ((i : Int)))] _
  have h3 := hg.three
  have hol := hg.out
  refine W_seq ?_
  refine W_seq ?_
  refine W_region ?_
  refine L_yld (Y_move rfl) rfl rfl rfl ?_
  refine L_yld (Y_move rfl) rfl rfl rfl ?_
  refine L_yld (Y_lenr Tryz.underlying37 rfl (hl.ext hx)) rfl rfl rfl ?_
  refine L_yld (Y_lss rfl rfl) rfl rfl rfl ?_
  refine L_nil ?_
  refine X_then ?_
  refine W_sub _ (.cons (i := 10) rfl (.cons (i := 0) rfl (.cons (i := 4) rfl (.cons (i := 5) rfl (.nil _))))) ?_
  refine W_splitd rfl (fun hlt => ?_) (fun hlt => ?_)
  · refine W_skip ?_
    refine X_then ?_
    refine W_sub _ (.cons (i := 0) rfl (.cons (i := 4) rfl (.cons (i := 5) rfl (.nil _)))) ?_
    have hmm := hs _ (at_rec_mem (l := l) (i := i) (by omega))
    refine W_seq ?_
    refine W_block ?_
    refine W_seq ?_
    refine W_region ?_
    refine L_yld (Y_move rfl) rfl rfl rfl ?_
    refine L_yld (Y_move rfl) rfl rfl rfl ?_
    refine L_yld (Y_idxr Tryz.underlying37 (show _ = some 2 by kernel_rfl) rfl rfl rfl (hl.ext hx) (by first | omega | (simp only [List.length_append, List.length_cons, List.length_nil, Int.toNat_natCast]; omega) | (simp; omega)) (by first | omega | (simp only [List.length_append, List.length_cons, List.length_nil, Int.toNat_natCast]; omega) | (simp; omega))) rfl rfl rfl ?_
    refine L_yld (Y_ldrA0 (k := ((i : Int)).toNat) (us := [str ((at_rec l ((i : Int)).toNat).key), str ((at_rec l ((i : Int)).toNat).val)]) Tryz.underlying76 rfl (show _ = some 2 by kernel_rfl) rfl rfl (hl.ext hx) (by first | omega | (simp only [List.length_append, List.length_cons, List.length_nil, Int.toNat_natCast]; omega) | (simp; omega)) rfl) rfl rfl rfl ?_
    refine L_call (E_call (by kernel_rfl) rfl) (ref09_Check _ ((at_rec l ((i : Int)).toNat).key) ((at_rec l ((i : Int)).toNat).val) (by first | first | omega | (simp only [List.length_append, List.length_cons, List.length_nil, Int.toNat_natCast]; omega) | (simp; omega) | rfl | (simp <;> omega))) rfl rfl rfl ?_
    rintro _ h2 ⟨rfl, hx1⟩
    refine L_yld (Y_assign rfl) rfl rfl rfl ?_
    refine L_nil ?_
    refine X_then ?_
    refine W_sub _ (.cons (i := 6) rfl (.cons (i := 0) rfl (.cons (i := 4) rfl (.cons (i := 5) rfl (.nil _))))) ?_
    refine W_seq ?_
    refine W_seq ?_
    refine W_region ?_
    refine L_yld (Y_move rfl) rfl rfl rfl ?_
    refine L_yld (Y_neq rfl rfl) rfl rfl rfl ?_
    refine L_nil ?_
    refine X_then ?_
    refine W_sub _ (.cons (i := 19) rfl (.cons (i := 6) rfl (.cons (i := 0) rfl (.cons (i := 4) rfl (.cons (i := 5) rfl (.nil _)))))) ?_
    refine W_splitd rfl (fun e => ?_) (fun e => ?_)
    · refine W_seq ?_
      refine W_region ?_
      refine L_yld (Y_move rfl) rfl rfl rfl ?_
      refine L_yld (Y_assign rfl) rfl rfl rfl ?_
      refine L_yld (Y_assign rfl) rfl rfl rfl ?_
      refine L_nil ?_
      refine X_then ?_
      refine W_sub _ (.cons (i := 3) rfl (.cons (i := 2) rfl (.cons (i := 0) rfl (.cons (i := 4) rfl (.cons (i := 5) rfl (.nil _)))))) ?_
      refine W_ret ?_
      refine X_then_ret ?_
      refine X_block_ret ?_
      refine X_then_ret ?_
      refine X_then_ret ?_
      refine X_block_ret ?_
      refine X_then_ret ?_
      refine X_ret2 rfl rfl rfl ?_
      have he := rlerr_bad hg (by omega) e
      refine ⟨.slice none 0 0, by first | (rw [he]; done) | (rw [he]; rfl), ?_, (hx.trans hx1)⟩
      unfold rfmt
      rw [if_neg (by rw [he]; exact e)]
      exact OwnB.nil _ _
    · refine W_skip ?_
      refine X_then ?_
      refine W_sub _ (.cons (i := 0) rfl (.cons (i := 4) rfl (.cons (i := 5) rfl (.nil _)))) ?_
      have hb0 : rerr (at_rec l i).key (at_rec l i).val = 0 := Classical.not_not.1 e
      refine W_seq ?_
      refine W_seq ?_
      refine W_quiet (fun h' => h' = h2) (by kernel_rfl) (by kernel_rfl) rfl ?_
      refine LQ_yld (fun h_ hI_ => by subst hI_; exact Y_move rfl) rfl rfl rfl ?_
      refine LQ_yld (fun h_ hI_ => by subst hI_; exact Y_gtr rfl rfl) rfl rfl rfl ?_
      refine LQ_yld (fun h_ hI_ => by subst hI_; exact Y_move rfl) rfl rfl rfl ?_
      refine LQ_splitd (d := 23) rfl (fun p => ?_) (fun p => ?_)
      · refine LQ_yld (fun h_ hI_ => by subst hI_; exact Y_move rfl) rfl rfl rfl ?_
        refine LQ_yld (fun h_ hI_ => by subst hI_; exact Y_move rfl) rfl rfl rfl ?_
        refine LQ_yld (fun h_ hI_ => by subst hI_; exact Y_idxr Tryz.underlying37 (show _ = some 2 by kernel_rfl) rfl rfl rfl (hl.ext (hx.trans hx1)) (by first | omega | (simp only [List.length_append, List.length_cons, List.length_nil, Int.toNat_natCast]; omega) | (simp; omega)) (by first | omega | (simp only [List.length_append, List.length_cons, List.length_nil, Int.toNat_natCast]; omega) | (simp; omega))) rfl rfl rfl ?_
        refine LQ_yld (fun h_ hI_ => by subst hI_; exact Y_fldr (k := ((i : Int)).toNat) (off := 0) (by kernel_rfl) rfl (hl.ext (hx.trans hx1)) (by first | omega | (simp only [List.length_append, List.length_cons, List.length_nil, Int.toNat_natCast]; omega) | (simp; omega))) rfl rfl rfl ?_
        refine LQ_yld (fun h_ hI_ => by subst hI_; exact Y_ldr1 (off := 0) (k := ((i : Int)).toNat) Tryz.underlying9 rfl rfl rfl (hl.ext (hx.trans hx1)) (by first | omega | (simp only [List.length_append, List.length_cons, List.length_nil, Int.toNat_natCast]; omega) | (simp; omega)) rfl) rfl rfl rfl ?_
        refine LQ_yld (fun h_ hI_ => by subst hI_; exact Y_move rfl) rfl rfl rfl ?_
        refine LQ_yld (fun h_ hI_ => by subst hI_; exact Y_move rfl) rfl rfl rfl ?_
        refine LQ_yld (fun h_ hI_ => by subst hI_; exact Y_sub rfl rfl (by first | omega | (simp only [List.length_append, List.length_cons, List.length_nil, Int.toNat_natCast]; omega) | (simp; omega)) (by first | omega | (simp only [List.length_append, List.length_cons, List.length_nil, Int.toNat_natCast]; omega) | (simp; omega))) rfl rfl rfl ?_
        refine LQ_yld (fun h_ hI_ => by subst hI_; exact Y_idxr Tryz.underlying37 (show _ = some 2 by kernel_rfl) rfl rfl rfl (hl.ext (hx.trans hx1)) (by first | omega | (simp only [List.length_append, List.length_cons, List.length_nil, Int.toNat_natCast]; omega) | (simp; omega)) (by first | omega | (simp only [List.length_append, List.length_cons, List.length_nil, Int.toNat_natCast]; omega) | (simp; omega))) rfl rfl rfl ?_
        refine LQ_yld (fun h_ hI_ => by subst hI_; exact Y_fldr (k := ((i : Int) - 1).toNat) (off := 0) (by kernel_rfl) rfl (hl.ext (hx.trans hx1)) (by first | omega | (simp only [List.length_append, List.length_cons, List.length_nil, Int.toNat_natCast]; omega) | (simp; omega))) rfl rfl rfl ?_
        refine LQ_yld (fun h_ hI_ => by subst hI_; exact Y_ldr1 (off := 0) (k := ((i : Int) - 1).toNat) Tryz.underlying9 rfl rfl rfl (hl.ext (hx.trans hx1)) (by first | omega | (simp only [List.length_append, List.length_cons, List.length_nil, Int.toNat_natCast]; omega) | (simp; omega)) rfl) rfl rfl rfl ?_
        refine LQ_yld (fun h_ hI_ => by subst hI_; exact Y_sleq rfl rfl) rfl rfl rfl ?_
        refine LQ_yld (fun h_ hI_ => by subst hI_; exact Y_pick_t rfl rfl) rfl rfl rfl ?_
        refine LQ_nil ?_
        rintro h2 rfl
        refine X_then ?_
        refine W_sub _ (.cons (i := 36) rfl (.cons (i := 0) rfl (.cons (i := 4) rfl (.cons (i := 5) rfl (.nil _))))) ?_
        refine W_split rfl (fun z => ?_) (fun z => ?_)
        · refine W_seq ?_
          refine W_region ?_
          refine L_yld (Y_assign rfl) rfl rfl rfl ?_
          refine L_yld (Y_assign rfl) rfl rfl rfl ?_
          refine L_nil ?_
          refine X_then ?_
          refine W_sub _ (.cons (i := 3) rfl (.cons (i := 2) rfl (.cons (i := 0) rfl (.cons (i := 4) rfl (.cons (i := 5) rfl (.nil _)))))) ?_
          refine W_ret ?_
          refine X_then_ret ?_
          refine X_block_ret ?_
          refine X_then_ret ?_
          refine X_then_ret ?_
          refine X_block_ret ?_
          refine X_then_ret ?_
          refine X_ret2 rfl rfl rfl ?_
          have he := rlerr_order hg (by omega) (by omega) hb0 (by rw [show i - 1 = ((i : Int) - 1).toNat by omega]; exact z)
          refine ⟨.slice none 0 0, by first | (rw [he]; done) | (rw [he]; rfl), ?_, (hx.trans hx1)⟩
          unfold rfmt
          rw [if_neg (by rw [he]; decide)]
          exact OwnB.nil _ _
        · refine W_skip ?_
          refine X_then ?_
          refine W_sub _ (.cons (i := 0) rfl (.cons (i := 4) rfl (.cons (i := 5) rfl (.nil _)))) ?_
          have hoo : 0 < i → sle (at_rec l i).key (at_rec l (i - 1)).key = false := fun _ => by rw [show i - 1 = ((i : Int) - 1).toNat by omega]; exact z
          have hgs := hg.succ (by omega) hb0 hoo
          have hl3 := rerr_len hb0
          have hro : (rone ⟨(at_rec l i).key, (at_rec l i).val⟩).length ≤ 65600 := rone_len hb0
          refine W_region ?_
          refine L_yld (Y_move rfl) rfl rfl rfl ?_
          refine L_yld (Y_move rfl) rfl rfl rfl ?_
          refine L_yld (Y_move rfl) rfl rfl rfl ?_
          refine L_yld (Y_idxr Tryz.underlying37 (show _ = some 2 by kernel_rfl) rfl rfl rfl (hl.ext (hx.trans hx1)) (by first | omega | (simp only [List.length_append, List.length_cons, List.length_nil, Int.toNat_natCast]; omega) | (simp; omega)) (by first | omega | (simp only [List.length_append, List.length_cons, List.length_nil, Int.toNat_natCast]; omega) | (simp; omega))) rfl rfl rfl ?_
          refine L_yld (Y_ldrA0 (k := ((i : Int)).toNat) (us := [str ((at_rec l ((i : Int)).toNat).key), str ((at_rec l ((i : Int)).toNat).val)]) Tryz.underlying76 rfl (show _ = some 2 by kernel_rfl) rfl rfl (hl.ext (hx.trans hx1)) (by first | omega | (simp only [List.length_append, List.length_cons, List.length_nil, Int.toNat_natCast]; omega) | (simp; omega)) rfl) rfl rfl rfl ?_
          refine L_call (E_call (by kernel_rfl) rfl) (ref09_one _ ((at_rec l ((i : Int)).toNat).key) ((at_rec l ((i : Int)).toNat).val) (by first | first | omega | (simp only [List.length_append, List.length_cons, List.length_nil, Int.toNat_natCast]; omega) | (simp; omega) | rfl | (simp <;> omega)) (by first | first | omega | (simp only [List.length_append, List.length_cons, List.length_nil, Int.toNat_natCast]; omega) | (simp; omega) | rfl | (simp <;> omega))) rfl rfl rfl ?_
          rintro _ h3 ⟨rfl, hx2⟩
          refine L_yld (Y_sadd rfl rfl (by first | first | omega | (simp only [List.length_append, List.length_cons, List.length_nil, Int.toNat_natCast]; omega) | (simp; omega) | (simp <;> omega))) rfl rfl rfl ?_
          refine L_yld (Y_assign rfl) rfl rfl rfl ?_
          refine L_nil ?_
          refine X_block ?_
          refine X_then ?_
          refine W_sub _ (.cons (i := 4) rfl (.cons (i := 0) rfl (.cons (i := 5) rfl (.nil _)))) ?_
          refine W_region ?_
          refine L_yld (Y_move rfl) rfl rfl rfl ?_
          refine L_yld (Y_add rfl rfl (by first | omega | (simp only [List.length_append, List.length_cons, List.length_nil, Int.toNat_natCast]; omega) | (simp; omega)) (by first | omega | (simp only [List.length_append, List.length_cons, List.length_nil, Int.toNat_natCast]; omega) | (simp; omega))) rfl rfl rfl ?_
          refine L_yld (Y_assign rfl) rfl rfl rfl ?_
          refine L_nil ?_
          refine X_loop (i + 1) (.cons (i := 0) rfl (.cons (i := 4) (lks rfl (by exact (take_rone (by omega)).symm)) (.cons (i := 5) rfl (.nil _)))) ?_ ?_
          · exact ⟨hgs, ((hx.trans hx1).trans hx2)⟩
          · (try dsimp only)
            omega
      · refine LQ_skip rfl rfl rfl ?_
        refine LQ_skip rfl rfl rfl ?_
        refine LQ_skip rfl rfl rfl ?_
        refine LQ_skip rfl rfl rfl ?_
        refine LQ_skip rfl rfl rfl ?_
        refine LQ_skip rfl rfl rfl ?_
        refine LQ_skip rfl rfl rfl ?_
        refine LQ_skip rfl rfl rfl ?_
        refine LQ_skip rfl rfl rfl ?_
        refine LQ_skip rfl rfl rfl ?_
        refine LQ_skip rfl rfl rfl ?_
        refine LQ_skip rfl rfl rfl ?_
        refine LQ_yld (fun h_ hI_ => by subst hI_; exact Y_pick_f rfl rfl) rfl rfl rfl ?_
        refine LQ_nil ?_
        rintro h2 rfl
        refine X_then ?_
        refine W_sub _ (.cons (i := 36) rfl (.cons (i := 0) rfl (.cons (i := 4) rfl (.cons (i := 5) rfl (.nil _))))) ?_
        refine W_false rfl ?_
        refine W_skip ?_
        refine X_then ?_
        refine W_sub _ (.cons (i := 0) rfl (.cons (i := 4) rfl (.cons (i := 5) rfl (.nil _)))) ?_
        have hoo : 0 < i → sle (at_rec l i).key (at_rec l (i - 1)).key = false := fun h9 => absurd h9 (by omega)
        have hgs := hg.succ (by omega) hb0 hoo
        have hl3 := rerr_len hb0
        have hro : (rone ⟨(at_rec l i).key, (at_rec l i).val⟩).length ≤ 65600 := rone_len hb0
        refine W_region ?_
        refine L_yld (Y_move rfl) rfl rfl rfl ?_
        refine L_yld (Y_move rfl) rfl rfl rfl ?_
        refine L_yld (Y_move rfl) rfl rfl rfl ?_
        refine L_yld (Y_idxr Tryz.underlying37 (show _ = some 2 by kernel_rfl) rfl rfl rfl (hl.ext (hx.trans hx1)) (by first | omega | (simp only [List.length_append, List.length_cons, List.length_nil, Int.toNat_natCast]; omega) | (simp; omega)) (by first | omega | (simp only [List.length_append, List.length_cons, List.length_nil, Int.toNat_natCast]; omega) | (simp; omega))) rfl rfl rfl ?_
        refine L_yld (Y_ldrA0 (k := ((i : Int)).toNat) (us := [str ((at_rec l ((i : Int)).toNat).key), str ((at_rec l ((i : Int)).toNat).val)]) Tryz.underlying76 rfl (show _ = some 2 by kernel_rfl) rfl rfl (hl.ext (hx.trans hx1)) (by first | omega | (simp only [List.length_append, List.length_cons, List.length_nil, Int.toNat_natCast]; omega) | (simp; omega)) rfl) rfl rfl rfl ?_
        refine L_call (E_call (by kernel_rfl) rfl) (ref09_one _ ((at_rec l ((i : Int)).toNat).key) ((at_rec l ((i : Int)).toNat).val) (by first | first | omega | (simp only [List.length_append, List.length_cons, List.length_nil, Int.toNat_natCast]; omega) | (simp; omega) | rfl | (simp <;> omega)) (by first | first | omega | (simp only [List.length_append, List.length_cons, List.length_nil, Int.toNat_natCast]; omega) | (simp; omega) | rfl | (simp <;> omega))) rfl rfl rfl ?_
        rintro _ h4 ⟨rfl, hx3⟩
        refine L_yld (Y_sadd rfl rfl (by first | first | omega | (simp only [List.length_append, List.length_cons, List.length_nil, Int.toNat_natCast]; omega) | (simp; omega) | (simp <;> omega))) rfl rfl rfl ?_
        refine L_yld (Y_assign rfl) rfl rfl rfl ?_
        refine L_nil ?_
        refine X_block ?_
        refine X_then ?_
        refine W_sub _ (.cons (i := 4) rfl (.cons (i := 0) rfl (.cons (i := 5) rfl (.nil _)))) ?_
        refine W_region ?_
        refine L_yld (Y_move rfl) rfl rfl rfl ?_
        refine L_yld (Y_add rfl rfl (by first | omega | (simp only [List.length_append, List.length_cons, List.length_nil, Int.toNat_natCast]; omega) | (simp; omega)) (by first | omega | (simp only [List.length_append, List.length_cons, List.length_nil, Int.toNat_natCast]; omega) | (simp; omega))) rfl rfl rfl ?_
        refine L_yld (Y_assign rfl) rfl rfl rfl ?_
        refine L_nil ?_
        refine X_loop (i + 1) (.cons (i := 0) rfl (.cons (i := 4) (lks rfl (by exact (take_rone (by omega)).symm)) (.cons (i := 5) rfl (.nil _)))) ?_ ?_
        · exact ⟨hgs, ((hx.trans hx1).trans hx3)⟩
        · (try dsimp only)
          omega
  · refine W_exit ?_
    refine X_then_exit ?_
    refine X_then_exit ?_
    refine X_block_hit ?_
    refine X_then ?_
    refine W_sub _ (.cons (i := 4) rfl (.nil _)) ?_
    refine W_seq ?_
    refine W_region ?_
    refine L_yld (Y_move rfl) rfl rfl rfl ?_
    refine L_mks (M_strb Tryz.underlying9 Tryz.underlying24 Tryz.underlying5 rfl) rfl rfl rfl ?_
    rintro v4 h5 ⟨ho5, hx6⟩
    refine L_yld (Y_assign rfl) rfl rfl rfl ?_
    refine L_yld (Y_assign rfl) rfl rfl rfl ?_
    refine L_nil ?_
    refine X_then ?_
    refine W_sub _ (.cons (i := 3) rfl (.cons (i := 2) rfl (.nil _))) ?_
    refine W_ret ?_
    refine X_ret2 rfl rfl rfl ?_
    have hi9 : i = l.length := by have := hg.1; omega
    have he := rlerr_all (hi9 ▸ hg)
    refine ⟨_, by rw [he], ?_, (hx.trans hx6)⟩
    unfold rfmt
    rw [if_pos he]
    exact OwnB.congr ((ho5).low (Nat.le_trans hx.size (Nat.le_refl _))) (by rw [hi9, List.take_length])

/-! ### The keys -/
set_option maxRecDepth 100000 in
theorem slices_CloneS (h : Heap) (v : Value) (l : List (List UInt8)) (hl : Rows strS h v l) (hn : l.length ≤ 1048576) : Cal Tryz.prog 60 #[v] h (fun v h' => ∃ s0, v = s0 ∧ RowsO strS h' h.size s0 (l) ∧ Ext h h') := by
  refine Cal_enter (args := [v]) Tryz.func60 rfl rfl rfl (fun σ => ?_)
  refine W_seq ?_
  refine W_region ?_
  refine L_yld (Y_assign rfl) rfl rfl rfl ?_
  refine L_nil ?_
  refine X_then ?_
  refine W_seq ?_
  refine W_seq ?_
  refine W_region ?_
  refine L_yld (Y_move rfl) rfl rfl rfl ?_
  refine L_yld (Y_slnilr Tryz.underlying72 rfl hl) rfl rfl rfl ?_
  refine L_nil ?_
  refine X_then ?_
  refine W_sub _ (.cons (i := 4) rfl (.cons (i := 2) rfl (.cons (i := 0) rfl (.nil _)))) ?_
  refine W_split rfl (fun c => ?_) (fun c => ?_)
  · refine W_seq ?_
    refine W_region ?_
    refine L_yld (Y_assign rfl) rfl rfl rfl ?_
    refine L_nil ?_
    refine X_then ?_
    refine W_sub _ (.cons (i := 2) rfl (.cons (i := 0) rfl (.nil _))) ?_
    refine W_ret ?_
    refine X_then_ret ?_
    refine X_ret1 rfl rfl ?_
    exact ⟨_, rfl, by rw [isNil_nilr hl c]; exact RowsO.nil _ _ _, (Ext.refl _)⟩
  · refine W_skip ?_
    refine X_then ?_
    refine W_sub _ (.cons (i := 2) rfl (.cons (i := 0) rfl (.nil _))) ?_
    refine W_seq ?_
    refine W_region ?_
    refine L_mks (M_litr (S := strS) (l := ([] : List (List UInt8))) (cells := []) (pv := []) (E := 9) (evp (is := []) (os := []) (vs := []) rfl rfl) rfl rfl (fun _ => by kernel_rfl) (by simp)) rfl rfl rfl ?_
    rintro v1 h1 ⟨ho2, hx3⟩
    refine L_yld (Y_move rfl) rfl rfl rfl ?_
    refine L_mks (M_appr0 nsStr (z := 1) (bytes := 16) (z0 := (str [])) Tryz.underlying72 (by unfold elemRow; kernel_rfl) rfl rfl (by decide) rfl rfl ho2 (hl.ext hx3) hx3.size (by simp; omega)) rfl rfl rfl ?_
    rintro v4 h2 ha5
    refine L_yld (Y_assign rfl) rfl rfl rfl ?_
    refine L_nil ?_
    refine X_then ?_
    refine W_sub _ (.cons (i := 2) rfl (.nil _)) ?_
    refine W_ret ?_
    refine X_ret1 rfl rfl ?_
    exact ⟨_, rfl, RowsO.congr ((ha5.own).low (Nat.le_refl _)) (by simp), (hx3.then' ha5.only ha5.ge (Nat.le_refl _))⟩

abbrev rkeys : List (List UInt8) := [[108, 105, 110, 107, 112, 97, 116, 104], [112, 97, 116, 104], [115, 105, 122, 101]]
set_option maxRecDepth 100000 in
theorem rec_Keys (h : Heap) (hK : GlbK h) : Cal Tryz.prog 31 #[] h (fun v h' => ∃ s0, v = s0 ∧ Rows strS h' s0 (rkeys) ∧ Ext h h') := by
  refine Cal_enter (args := []) Tryz.func31 rfl rfl rfl (fun σ => ?_)
  refine W_seq ?_
  refine W_region ?_
  refine L_yld (Y_assign rfl) rfl rfl rfl ?_
  refine L_nil ?_
  refine X_then ?_
  refine W_seq ?_
  refine W_region ?_
  have hb1 : Rows strS h (.slice (some ⟨13, 0, none⟩) 3 3) ([[108, 105, 110, 107, 112, 97, 116, 104], [112, 97, 116, 104], [115, 105, 122, 101]]) := Cls.rowsS (l := [[108, 105, 110, 107, 112, 97, 116, 104], [112, 97, 116, 104], [115, 105, 122, 101]]) hK.g0 rfl (by decide)
  refine L_yld (Y_arrall Tryz.underlying106 (show _ = some 1 by kernel_rfl) (by decide) rfl) rfl rfl rfl ?_
  refine L_call (E_call (by kernel_rfl) rfl) (slices_CloneS _ (.slice (some ⟨13, 0, none⟩) 3 3) [[108, 105, 110, 107, 112, 97, 116, 104], [112, 97, 116, 104], [115, 105, 122, 101]] hb1 (by first | omega | rfl | (simp <;> omega))) rfl rfl rfl ?_
  rintro s02 h1 ⟨_, rfl, hr03, hx4⟩
  refine L_yld (Y_assign rfl) rfl rfl rfl ?_
  refine L_nil ?_
  refine X_then ?_
  refine W_sub _ (.cons (i := 0) rfl (.nil _)) ?_
  refine W_ret ?_
  refine X_ret1 rfl rfl ?_
  exact ⟨_, rfl, (hr03).rows, hx4⟩

theorem str_ext {a b : List (List UInt8)} (hl : a.length = b.length) (h : ∀ k, k < a.length → at_str a k = at_str b k) : a = b := by
  apply List.ext_getElem hl
  intro i h1 h2
  have := h i h1
  rw [at_str, at_str, List.getD_eq_getElem?_getD, List.getD_eq_getElem?_getD, List.getElem?_eq_getElem h1, List.getElem?_eq_getElem h2] at this
  exact this

/-! ### The law's helpers -/
def rsum (l : List Rec) : Nat := (l.map fun r => r.key.length + r.val.length).sum
theorem rsum_take {l : List Rec} {i : Nat} (hi : i < l.length) : rsum (l.take (i + 1)) = rsum (l.take i) + ((at_rec l i).key.length + (at_rec l i).val.length) := by
  rw [List.take_succ_eq_append_getElem hi, rsum, rsum, List.map_append, List.sum_append, ← at_rec_eq hi]; simp
theorem rsum_le {l : List Rec} {B : Nat} (hs : ∀ r ∈ l, r.key.length ≤ B ∧ r.val.length ≤ B) : ∀ {i : Nat}, i ≤ l.length → rsum (l.take i) ≤ i * (2 * B)
  | 0, _ => by simp [rsum]
  | i + 1, h => by
    have := rsum_le hs (i := i) (by omega)
    have h2 := hs _ (at_rec_mem (l := l) (i := i) (by omega))
    rw [rsum_take (by omega), Nat.add_mul]; omega

theorem pdig_one {r : Nat} (h : r + 1 < 10) : pdig r = 1 := by
  unfold pdig; rw [pgo, if_pos (by rw [Lib.nDigits_small h]; omega)]
theorem alive_err : rlerr none [⟨[112, 97, 116, 104], [97]⟩] = 0 := by decide
theorem alive_fmt : rfmt [⟨[112, 97, 116, 104], [97]⟩] = [57, 32, 112, 97, 116, 104, 61, 97, 10] := by
  unfold rfmt
  rw [if_pos alive_err]
  show rone _ ++ [] = _
  have e : psz (rrest [112, 97, 116, 104] [97]) = 9 := by unfold psz; rw [pdig_one (by decide)]; rfl
  unfold rone
  rw [e, Lib.decDigits_one (by decide)]; rfl
theorem alive_size : psz (rrest [115, 105, 122, 101] [56, 53, 56, 57, 57, 51, 52, 53, 57, 50]) = 19 := by
  have h2 : ∀ u, 10 ≤ u → u < 100 → Lib.nDigits u = 2 := fun u h1 h2 => by rw [Lib.nDigits_big (by omega), Lib.nDigits_small (by omega)]
  show psz 17 = 19
  unfold psz pdig
  rw [pgo, if_neg (by rw [h2 _ (by decide) (by decide)]; decide), pgo, if_pos (by rw [h2 _ (by decide) (by decide)]; decide)]
end Go.Xp
