/- Layer 9 (paxrec): Format. -/
import Derived.Test.YtdmhigknppkniaaGreatDoorRec
set_option linter.unusedSimpArgs false
set_option linter.unusedVariables false
set_option linter.unusedSectionVars false
set_option maxRecDepth 100000
namespace Go.Xp
open Go.Proofs

def sle (a b : List UInt8) : Bool := Op.bytesLess a b || a == b
def ordBad : Option (List UInt8) → List UInt8 → Bool
  | none, _ => false
  | some q, k => sle k q
/-- What is wrong with a list of records behind the key 'p'. -/
def rlerr : Option (List UInt8) → List Rec → Int
  | _, [] => 0
  | p, r :: rest => if ¬ rerr r.key r.val = 0 then rerr r.key r.val else if ordBad p r.key = true then 12 else rlerr (some r.key) rest
/-- One record's bytes. -/
def rone (r : Rec) : List UInt8 := Lib.decDigits (psz (rrest r.key r.val)) ++ ([32] ++ r.key ++ [61] ++ r.val ++ [10])
def rfmt (l : List Rec) : List UInt8 := if rlerr none l = 0 then l.flatMap rone else []
def RGood (l : List Rec) (i : Nat) : Prop := i ≤ l.length ∧ ∀ k, k < i → rerr (at_rec l k).key (at_rec l k).val = 0 ∧ (0 < k → sle (at_rec l k).key (at_rec l (k - 1)).key = false)
def rprev (l : List Rec) (i : Nat) : Option (List UInt8) := if i = 0 then none else some (at_rec l (i - 1)).key

theorem at_rec_eq {l : List Rec} {i : Nat} (h : i < l.length) : at_rec l i = l[i] := by
  rw [at_rec, List.getD_eq_getElem?_getD, List.getElem?_eq_getElem h]; rfl
theorem drop_rec {l : List Rec} {i : Nat} (h : i < l.length) : l.drop i = at_rec l i :: l.drop (i + 1) := by
  rw [at_rec_eq h]; exact List.drop_eq_getElem_cons h
theorem rlerr_skip {l : List Rec} : ∀ {i : Nat}, RGood l i → rlerr none l = rlerr (rprev l i) (l.drop i)
  | 0, _ => rfl
  | i + 1, h => by
    have hi : i < l.length := h.1
    rw [rlerr_skip (i := i) ⟨by omega, fun k hk => h.2 k (by omega)⟩, drop_rec hi]
    obtain ⟨h1, h2⟩ := h.2 i (by omega)
    rw [rlerr, if_neg (by simpa using h1)]
    have e : ordBad (rprev l i) (at_rec l i).key = false := by
      unfold rprev
      by_cases h0 : i = 0
      · rw [if_pos h0]; rfl
      · rw [if_neg h0]; exact h2 (by omega)
    rw [e, if_neg (by simp)]
    rfl
theorem rlerr_bad {l : List Rec} {i : Nat} (h : RGood l i) (hi : i < l.length) (hb : ¬ rerr (at_rec l i).key (at_rec l i).val = 0) : rlerr none l = rerr (at_rec l i).key (at_rec l i).val := by
  rw [rlerr_skip h, drop_rec hi, rlerr, if_pos hb]
theorem rlerr_order {l : List Rec} {i : Nat} (h : RGood l i) (hi : i < l.length) (h0 : 0 < i) (hb : rerr (at_rec l i).key (at_rec l i).val = 0) (ho : sle (at_rec l i).key (at_rec l (i - 1)).key = true) : rlerr none l = 12 := by
  rw [rlerr_skip h, drop_rec hi, rlerr, if_neg (by simpa using hb)]
  have e : ordBad (rprev l i) (at_rec l i).key = true := by
    unfold rprev; rw [if_neg (by omega)]; exact ho
  rw [if_pos e]
theorem rlerr_all {l : List Rec} (h : RGood l l.length) : rlerr none l = 0 := by
  rw [rlerr_skip h, List.drop_length]; rfl
theorem RGood.zero (l : List Rec) : RGood l 0 := ⟨Nat.zero_le _, fun k hk => absurd hk (Nat.not_lt_zero _)⟩
theorem RGood.succ {l : List Rec} {i : Nat} (h : RGood l i) (hi : i < l.length) (hb : rerr (at_rec l i).key (at_rec l i).val = 0) (ho : 0 < i → sle (at_rec l i).key (at_rec l (i - 1)).key = false) : RGood l (i + 1) :=
  ⟨hi, fun k hk => by
    rcases Nat.lt_succ_iff_lt_or_eq.1 hk with h1 | rfl
    · exact h.2 k h1
    · exact ⟨hb, ho⟩⟩
/-! Only three keys: no good list is longer. -/
def krank (k : List UInt8) : Nat := if k = [108, 105, 110, 107, 112, 97, 116, 104] then 0 else if k = [112, 97, 116, 104] then 1 else 2
theorem rerr_ok {k v : List UInt8} (h : rerr k v = 0) : (k = [108, 105, 110, 107, 112, 97, 116, 104] ∨ k = [112, 97, 116, 104] ∨ k = [115, 105, 122, 101]) := by
  unfold rerr at h
  split at h
  · rename_i h1; exact .inr (.inr h1)
  · split at h
    · rename_i h1; exact h1.elim .inl (fun h => .inr (.inl h))
    · cases h
theorem krank_lt {a b : List UInt8} (ha : a = [108, 105, 110, 107, 112, 97, 116, 104] ∨ a = [112, 97, 116, 104] ∨ a = [115, 105, 122, 101]) (hb : b = [108, 105, 110, 107, 112, 97, 116, 104] ∨ b = [112, 97, 116, 104] ∨ b = [115, 105, 122, 101]) (h : sle a b = false) : krank b < krank a := by
  rcases ha with rfl | rfl | rfl <;> rcases hb with rfl | rfl | rfl <;> revert h <;> decide
theorem RGood.rank {l : List Rec} : ∀ {i : Nat}, RGood l (i + 1) → i ≤ krank (at_rec l i).key
  | 0, _ => Nat.zero_le _
  | i + 1, h => by
    have h1 := RGood.rank (i := i) ⟨by have := h.1; omega, fun k hk => h.2 k (by omega)⟩
    have h2 := h.2 i (by omega)
    have h3 := h.2 (i + 1) (by omega)
    have := krank_lt (rerr_ok h3.1) (rerr_ok h2.1) (by have := h3.2 (by omega); simpa using this)
    omega
theorem krank_le (k : List UInt8) : krank k ≤ 2 := by unfold krank; split <;> (try split) <;> omega
theorem RGood.three {l : List Rec} {i : Nat} (h : RGood l i) : i ≤ 3 := by
  cases i with
  | zero => omega
  | succ i => have := h.rank; have := krank_le (at_rec l i).key; omega
theorem decN_big {s : List UInt8} (hd : decOk s = true) (h2 : 2 ≤ s.length) (h0 : ¬ (byt s 0 = 48 ∧ ¬ s = [48])) : 10 ^ (s.length - 1) ≤ decN s := by
  have hb := decOk_iff.1 hd
  have h9 : 49 ≤ byt s 0 := by
    have := hb 0 (by omega)
    rcases Int.lt_or_le (byt s 0) 49 with h2 | h2
    · exact absurd ⟨by omega, fun e => by have := congrArg List.length e; simp at this; omega⟩ h0
    · exact h2
  have key : ∀ i, i + 1 ≤ s.length → 10 ^ i ≤ decN (s.take (i + 1)) := by
    intro i
    induction i with
    | zero =>
      intro _
      rw [decN_step (by omega)]
      have : decN (s.take 0) = 0 := by simp [decN]
      omega
    | succ i ih =>
      intro h
      rw [decN_step (by omega), Nat.pow_succ]
      have := ih (by omega)
      omega
  have := key (s.length - 1) (by omega)
  rw [show s.length - 1 + 1 = s.length by omega, List.take_length] at this
  exact this
theorem rerr_len {k v : List UInt8} (h : rerr k v = 0) : k.length ≤ 8 ∧ v.length ≤ 65536 := by
  refine ⟨by rcases rerr_ok h with rfl | rfl | rfl <;> simp, ?_⟩
  unfold rerr at h
  split at h
  · have hn : nerr v 1099511627776 = 0 := h
    unfold nerr at hn
    split at hn
    · cases hn
    · rename_i h1
      simp only [not_or] at h1
      split at hn
      · cases hn
      · rename_i h2
        rcases Nat.lt_or_ge v.length 15 with h3 | h3
        · omega
        · have := decN_big (by simpa using h1.1) (by omega) h1.2.2
          have h4 : 10 ^ 14 ≤ 10 ^ (v.length - 1) := Nat.pow_le_pow_right (by decide) (by omega)
          have h5 : (10 : Nat) ^ 14 = 100000000000000 := by decide
          omega
  · split at h
    · split at h
      · cases h
      · omega
    · cases h
theorem psz_lt {r : Nat} (h : r ≤ 1152921504606846976) : psz r ≤ r + 25 := by have := pdig_ok h; unfold psz; omega
theorem rone_len {r : Rec} (h : rerr r.key r.val = 0) : (rone r).length ≤ 65600 := by
  have h1 := rerr_len h
  have h2 := psz_lt (r := rrest r.key r.val) (by unfold rrest; omega)
  have h3 := decDigits_len (a := psz (rrest r.key r.val)) (by unfold rrest at h2 ⊢; omega)
  unfold rone
  simp only [List.length_append, List.length_cons, List.length_nil]
  omega
theorem RGood.out {l : List Rec} : ∀ {i : Nat}, RGood l i → ((l.take i).flatMap rone).length ≤ 65600 * i
  | 0, _ => by simp
  | i + 1, h => by
    have h1 := RGood.out (i := i) ⟨by have := h.1; omega, fun k hk => h.2 k (by omega)⟩
    have hi : i < l.length := h.1
    have h2 := rone_len (r := at_rec l i) (h.2 i (by omega)).1
    rw [List.take_succ_eq_append_getElem hi, List.flatMap_append, List.length_append, ← at_rec_eq hi]
    simp only [List.flatMap_cons, List.flatMap_nil, List.append_nil]
    omega
theorem take_rone {l : List Rec} {i : Nat} (hi : i < l.length) : (l.take (i + 1)).flatMap rone = (l.take i).flatMap rone ++ rone (at_rec l i) := by
  rw [List.take_succ_eq_append_getElem hi, List.flatMap_append, ← at_rec_eq hi]
  simp
theorem at_rec_mem {l : List Rec} {i : Nat} (h : i < l.length) : at_rec l i ∈ l := by rw [at_rec_eq h]; exact List.getElem_mem h

theorem rec_Format (h : Heap) (hK : GlbK h) (hN : GlbN h) (hE : GlbE h) (w : Value) (l : List Rec) (hl : Rows recS h w l) (hn : l.length ≤ 140737488355328) (hs : ∀ r ∈ l, r.key.length ≤ 140737488355328 ∧ r.val.length ≤ 140737488355328) : Cal Tryz.prog 33 #[w] h (fun v h' => ∃ s0, v = .tuple #[s0, .int .i64 (rlerr none l)] ∧ OwnB h' h.size s0 (rfmt l) ∧ Ext h h') := by
 refine Ce Tryz.func33 fun σ => ?_
 refine Wa ?_
 refine Av ?_
 refine Ln (Xt (Wq (Wg ?_)))
 refine Av ?_
 refine Ln (Xt (Wq (Wq (Wg ?_))))
 refine Mv ?_
 refine Ly (Y_lenr Tryz.underlying74 rfl hl) ?_
 refine Mv ?_
 refine Ln (Xt (Wb ?_))
 refine W_loop (S := Nat × Value) (fun (i, u) => [(9, .int .i64 ((l.length : Int))), (8, w), (0, w), (4, u), (10, .int .i64 ((i : Int)))]) (fun (i, u) h' => RGood l i ∧ OwnB h' h.size u ((l.take i).flatMap rone) ∧ Ext h h') (fun (i, u) => l.length - i) (0, .slice none 0 0) (tk5 9 8 0 4 10) ?_ ?_
 ·exact ⟨RGood.zero l, OwnB.nil _ _, Ext.refl _⟩
 rintro ⟨i, u⟩ h1 ⟨hg, ho, hx⟩
 show W _ _ _ _ _ [(9, .int .i64 ((l.length : Int))), (8, w), (0, w), (4, u), (10, .int .i64 ((i : Int)))] _
 have h3 := hg.three
 have hol := hg.out
 refine Wr ?_
 refine Ly Yls ?_
 refine Ln (Xt (Wq ?_))
 refine Sd (fun hlt => ?_) fun hlt => ?_
 ·refine Ws ?_
  have hmm := hs _ (at_rec_mem (l := l) (i := i) (by omega))
  refine Wq (Wb (Wq (Wg ?_)))
  refine Mv ?_
  refine Ly (Y_idxr Tryz.underlying74 (show _ = some 2 by kernel_rfl) rfl rfl rfl (hl.ext hx) (by first | omega | (simp only [List.length_append, List.length_cons, List.length_nil, Int.toNat_natCast]; omega) | (simp; omega)) (by first | omega | (simp only [List.length_append, List.length_cons, List.length_nil, Int.toNat_natCast]; omega) | (simp; omega))) ?_
  refine Ly (Y_ldrA0 (k := ((i : Int)).toNat) (us := [str ((at_rec l ((i : Int)).toNat).key), str ((at_rec l ((i : Int)).toNat).val)]) Tryz.underlying139 rfl (show _ = some 2 by kernel_rfl) rfl rfl (hl.ext hx) (by first | omega | (simp only [List.length_append, List.length_cons, List.length_nil, Int.toNat_natCast]; omega) | (simp; omega)) rfl) ?_
  refine L_mks (M_alloc (u := .agg #[str [], str []]) (by kernel_rfl)) rfl rfl rfl ?_
  rintro _ h2 ⟨rfl, hn1⟩
  have hk2 : Blk h2 h1.size [str [], str []] := hn1.blk
  refine Av ?_
  refine Lds [str ((at_rec l ((i : Int)).toNat).key), str ((at_rec l ((i : Int)).toNat).val)] hk2 ?_
  rintro h3 hp3
  have hk4 : Blk h3 h1.size [str ((at_rec l ((i : Int)).toNat).key), str ((at_rec l ((i : Int)).toNat).val)] := hp3.blk
  refine Ln (Xt (Wq (Wq (Wg ?_))))
  refine Lg Tryz.underlying139 hk4 ?_
  refine Lc (rec_Check _ (hK.ext ((hx.trans hn1.ext).then' hp3.only (by simp) hx.size)) (hE.ext ((hx.trans hn1.ext).then' hp3.only (by simp) hx.size)) ((at_rec l ((i : Int)).toNat).key) ((at_rec l ((i : Int)).toNat).val) (by first | first | omega | (simp only [List.length_append, List.length_cons, List.length_nil, Int.toNat_natCast]; omega) | (simp; omega) | rfl | (simp <;> omega))) ?_
  rintro _ h4 ⟨rfl, hx5⟩
  refine An ?_
  refine Wu _ (tk8 7 5 6 9 8 0 4 10) ?_
  refine Wm ?_
  refine Ly Yne ?_
  refine Nx ?_
  refine Sd (fun e => ?_) fun e => ?_
  ·refine Wm ?_
   refine A2 ?_
   refine Ln (Xt (Wt (Xr (Yr (Xr (Xr (Yr (Xr ?_))))))))
   refine Xv2 ?_
   have he := rlerr_bad hg (by omega) e
   have me1 := ((hx.trans hn1.ext).then' hp3.only (by simp) hx.size).trans hx5
   refine ⟨.slice none 0 0, by first | (rw [he]; done) | (rw [he]; rfl), ?_, me1⟩
   unfold rfmt
   rw [if_neg (by rw [he]; exact e)]
   exact OwnB.nil _ _
  refine Ws ?_
  have hb0 : rerr (at_rec l i).key (at_rec l i).val = 0 := Classical.not_not.1 e
  refine Wq (Wq ?_)
  refine W_quiet (fun h' => h' = h4) (by kernel_rfl) (by kernel_rfl) rfl ?_
  refine Qm ?_
  refine Qy (Y_gtr rfl rfl) ?_
  refine Qm ?_
  refine LQ_splitd (d := 22) rfl (fun p => ?_) (fun p => ?_)
  ·refine Qy (Y_fieldAddr (off := 0) (by kernel_rfl) rfl rfl) ?_
   refine Qy (Y_ldblk Tryz.underlying9 rfl rfl (hk4.ext hx5) rfl) ?_
   refine Qm ?_
   refine Qm ?_
   refine Qy (Y_sub rfl rfl (by first | omega | (simp only [List.length_append, List.length_cons, List.length_nil, Int.toNat_natCast]; omega) | (simp; omega)) (by first | omega | (simp only [List.length_append, List.length_cons, List.length_nil, Int.toNat_natCast]; omega) | (simp; omega))) ?_
   refine Qy (Y_idxr Tryz.underlying74 (show _ = some 2 by kernel_rfl) rfl rfl rfl (hl.ext (((hx.trans hn1.ext).then' hp3.only (by simp) hx.size).trans hx5)) (by first | omega | (simp only [List.length_append, List.length_cons, List.length_nil, Int.toNat_natCast]; omega) | (simp; omega)) (by first | omega | (simp only [List.length_append, List.length_cons, List.length_nil, Int.toNat_natCast]; omega) | (simp; omega))) ?_
   refine Qy (Y_fldr (k := ((i : Int) - 1).toNat) (off := 0) (by kernel_rfl) rfl (hl.ext (((hx.trans hn1.ext).then' hp3.only (by simp) hx.size).trans hx5)) (by first | omega | (simp only [List.length_append, List.length_cons, List.length_nil, Int.toNat_natCast]; omega) | (simp; omega))) ?_
   refine Qy (Y_ldr1 (off := 0) (k := ((i : Int) - 1).toNat) Tryz.underlying9 rfl rfl rfl (hl.ext (((hx.trans hn1.ext).then' hp3.only (by simp) hx.size).trans hx5)) (by first | omega | (simp only [List.length_append, List.length_cons, List.length_nil, Int.toNat_natCast]; omega) | (simp; omega)) rfl) ?_
   refine Qy (Y_sleq rfl rfl) ?_
   refine Qy (Y_pick_t rfl rfl) ?_
   refine LQ_nil ?_
   rintro h4 rfl
   refine Xt ?_
   refine Wu _ (tk7 32 6 9 8 0 4 10) ?_
   refine W_split rfl (fun z => ?_) (fun z => ?_)
   ·refine Wa ?_
    refine Av ?_
    refine Ln (Xt (Wt (Xr (Yr (Xr (Xr (Yr (Xr ?_))))))))
    refine Xv2 ?_
    have he := rlerr_order hg (by omega) (by omega) hb0 (by rw [show i - 1 = ((i : Int) - 1).toNat by omega]; exact z)
    have me2 := ((hx.trans hn1.ext).then' hp3.only (by simp) hx.size).trans hx5
    refine ⟨.slice none 0 0, by first | (rw [he]; done) | (rw [he]; rfl), ?_, me2⟩
    unfold rfmt
    rw [if_neg (by rw [he]; decide)]
    exact OwnB.nil _ _
   refine Ws ?_
   have hoo : 0 < i → sle (at_rec l i).key (at_rec l (i - 1)).key = false := fun _ => by rw [show i - 1 = ((i : Int) - 1).toNat by omega]; exact z
   have hgs := hg.succ (by omega) hb0 hoo
   have hl3 := rerr_len hb0
   have hps := psz_lt (r := rrest (at_rec l i).key (at_rec l i).val) (by unfold rrest; omega)
   have hrr : rrest (at_rec l i).key (at_rec l i).val ≤ 65600 := by unfold rrest; omega
   have hdl := decDigits_len (a := psz (rrest (at_rec l i).key (at_rec l i).val)) (by omega)
   refine Wm ?_
   refine Lg Tryz.underlying139 (hk4.ext hx5) ?_
   have me3 := ((hx.trans hn1.ext).then' hp3.only (by simp) hx.size).trans hx5
   refine Lc (rec_Size _ (hN.ext me3) ((at_rec l ((i : Int)).toNat).key) ((at_rec l ((i : Int)).toNat).val) (by first | first | omega | (simp only [List.length_append, List.length_cons, List.length_nil, Int.toNat_natCast]; omega) | (simp; omega) | rfl | (simp <;> omega)) (by first | first | omega | (simp only [List.length_append, List.length_cons, List.length_nil, Int.toNat_natCast]; omega) | (simp; omega) | rfl | (simp <;> omega))) ?_
   rintro _ h5 ⟨rfl, hx6⟩
   have me4 := nt (nt (nt (nt hx.size hn1.ext.size) hp3.only.size) hx5.size) hx6.size
   have me5 := (hn1.ext.then' hp3.only (by simp) (Nat.le_refl _)).trans hx5
   refine Lc (strconv_AppendInt _ (hN.ext (me3.trans hx6)) u ((l.take i).flatMap rone) h (⟨me4⟩) (ho.ext (me5.trans hx6)) (psz (rrest ((at_rec l ((i : Int)).toNat).key) ((at_rec l ((i : Int)).toNat).val)) : Int) (by first | first | omega | (simp only [List.length_append, List.length_cons, List.length_nil, Int.toNat_natCast]; omega) | (simp; omega) | rfl | (simp <;> omega)) (by first | first | omega | (simp only [List.length_append, List.length_cons, List.length_nil, Int.toNat_natCast]; omega) | (simp; omega) | rfl | (simp <;> omega))) ?_
   rintro v7 h6 ha8
   refine Av ?_
   refine Ln (Xt (Wg ?_))
   refine Mv ?_
   refine Lf 0 ?_
   have hc9 := (((hk4.ext hx5).ext hx6).only ha8.only (fun hb_ => Nat.lt_irrefl _ (ntl (Own.lt ho _ (by simpa using hb_)).2 (Nat.le_refl _))))
   refine Lb Tryz.underlying9 hc9 ?_
   refine Ly (Y_sadd rfl rfl (by first | first | omega | (simp only [List.length_append, List.length_cons, List.length_nil, Int.toNat_natCast]; omega) | (simp; omega) | (simp <;> omega))) ?_
   refine Ly (Y_sadd rfl rfl (by first | first | omega | (simp only [List.length_append, List.length_cons, List.length_nil, Int.toNat_natCast]; omega) | (simp; omega) | (simp <;> omega))) ?_
   refine Lf 1 ?_
   refine Lb Tryz.underlying9 hc9 ?_
   refine Ly (Y_sadd rfl rfl (by first | first | omega | (simp only [List.length_append, List.length_cons, List.length_nil, Int.toNat_natCast]; omega) | (simp; omega) | (simp <;> omega))) ?_
   refine Ly (Y_sadd rfl rfl (by first | first | omega | (simp only [List.length_append, List.length_cons, List.length_nil, Int.toNat_natCast]; omega) | (simp; omega) | (simp <;> omega))) ?_
   refine L_mks (M_appbs Tryz.underlying22 Tryz.underlying9 (by unfold elemRow; kernel_rfl) rfl rfl ha8.own (nt me4 ha8.only.size) (by first | first | omega | (simp only [List.length_append, List.length_cons, List.length_nil, Int.toNat_natCast]; omega) | (simp; omega) | (simp; first | omega | (simp only [List.length_append, List.length_cons, List.length_nil, Int.toNat_natCast]; omega) | (simp; omega)))) rfl rfl rfl ?_
   rintro v10 h7 ha11
   refine Av ?_
   refine Ln (Xb (Xt ?_))
   refine Wu _ (tk5 4 9 8 0 10) ?_
   refine Wg ?_
   refine Ly (Y_add rfl rfl (by first | omega | (simp only [List.length_append, List.length_cons, List.length_nil, Int.toNat_natCast]; omega) | (simp; omega)) (by first | omega | (simp only [List.length_append, List.length_cons, List.length_nil, Int.toNat_natCast]; omega) | (simp; omega))) ?_
   refine Mv ?_
   refine Ln ?_
   refine X_loop ((i + 1, v10)) (tk5 9 8 0 4 10) ?_ ?_
   ·exact ⟨hgs, OwnB.congr (ha11.own) (by rw [take_rone (by omega), rone]; simp only [Int.toNat_natCast, List.append_assoc, List.nil_append, List.cons_append]), (((me3.trans hx6).then' ha8.only ha8.ge (Nat.le_refl _)).then' ha11.only ha11.ge (Nat.le_refl _))⟩
   (try dsimp only)
   omega
  refine LQ_skip rfl rfl rfl ?_
  refine LQ_skip rfl rfl rfl ?_
  refine LQ_skip rfl rfl rfl ?_
  refine LQ_skip rfl rfl rfl ?_
  refine LQ_skip rfl rfl rfl ?_
  refine LQ_skip rfl rfl rfl ?_
  refine LQ_skip rfl rfl rfl ?_
  refine LQ_skip rfl rfl rfl ?_
  refine LQ_skip rfl rfl rfl ?_
  refine Qy (Y_pick_f rfl rfl) ?_
  refine LQ_nil ?_
  rintro h4 rfl
  refine Xt ?_
  refine Wu _ (tk7 32 6 9 8 0 4 10) ?_
  refine W_false rfl ?_
  refine Ws ?_
  have hoo : 0 < i → sle (at_rec l i).key (at_rec l (i - 1)).key = false := fun h9 => absurd h9 (by omega)
  have hgs := hg.succ (by omega) hb0 hoo
  have hl3 := rerr_len hb0
  have hps := psz_lt (r := rrest (at_rec l i).key (at_rec l i).val) (by unfold rrest; omega)
  have hrr : rrest (at_rec l i).key (at_rec l i).val ≤ 65600 := by unfold rrest; omega
  have hdl := decDigits_len (a := psz (rrest (at_rec l i).key (at_rec l i).val)) (by omega)
  refine Wm ?_
  refine Lg Tryz.underlying139 (hk4.ext hx5) ?_
  have me6 := ((hx.trans hn1.ext).then' hp3.only (by simp) hx.size).trans hx5
  refine Lc (rec_Size _ (hN.ext me6) ((at_rec l ((i : Int)).toNat).key) ((at_rec l ((i : Int)).toNat).val) (by first | first | omega | (simp only [List.length_append, List.length_cons, List.length_nil, Int.toNat_natCast]; omega) | (simp; omega) | rfl | (simp <;> omega)) (by first | first | omega | (simp only [List.length_append, List.length_cons, List.length_nil, Int.toNat_natCast]; omega) | (simp; omega) | rfl | (simp <;> omega))) ?_
  rintro _ h8 ⟨rfl, hx12⟩
  have me7 := nt (nt (nt (nt hx.size hn1.ext.size) hp3.only.size) hx5.size) hx12.size
  have me8 := (hn1.ext.then' hp3.only (by simp) (Nat.le_refl _)).trans hx5
  refine Lc (strconv_AppendInt _ (hN.ext (me6.trans hx12)) u ((l.take i).flatMap rone) h (⟨me7⟩) (ho.ext (me8.trans hx12)) (psz (rrest ((at_rec l ((i : Int)).toNat).key) ((at_rec l ((i : Int)).toNat).val)) : Int) (by first | first | omega | (simp only [List.length_append, List.length_cons, List.length_nil, Int.toNat_natCast]; omega) | (simp; omega) | rfl | (simp <;> omega)) (by first | first | omega | (simp only [List.length_append, List.length_cons, List.length_nil, Int.toNat_natCast]; omega) | (simp; omega) | rfl | (simp <;> omega))) ?_
  rintro v13 h9 ha14
  refine Av ?_
  refine Ln (Xt (Wg ?_))
  refine Mv ?_
  refine Lf 0 ?_
  have hc15 := (((hk4.ext hx5).ext hx12).only ha14.only (fun hb_ => Nat.lt_irrefl _ (ntl (Own.lt ho _ (by simpa using hb_)).2 (Nat.le_refl _))))
  refine Lb Tryz.underlying9 hc15 ?_
  refine Ly (Y_sadd rfl rfl (by first | first | omega | (simp only [List.length_append, List.length_cons, List.length_nil, Int.toNat_natCast]; omega) | (simp; omega) | (simp <;> omega))) ?_
  refine Ly (Y_sadd rfl rfl (by first | first | omega | (simp only [List.length_append, List.length_cons, List.length_nil, Int.toNat_natCast]; omega) | (simp; omega) | (simp <;> omega))) ?_
  refine Lf 1 ?_
  refine Lb Tryz.underlying9 hc15 ?_
  refine Ly (Y_sadd rfl rfl (by first | first | omega | (simp only [List.length_append, List.length_cons, List.length_nil, Int.toNat_natCast]; omega) | (simp; omega) | (simp <;> omega))) ?_
  refine Ly (Y_sadd rfl rfl (by first | first | omega | (simp only [List.length_append, List.length_cons, List.length_nil, Int.toNat_natCast]; omega) | (simp; omega) | (simp <;> omega))) ?_
  refine L_mks (M_appbs Tryz.underlying22 Tryz.underlying9 (by unfold elemRow; kernel_rfl) rfl rfl ha14.own (nt me7 ha14.only.size) (by first | first | omega | (simp only [List.length_append, List.length_cons, List.length_nil, Int.toNat_natCast]; omega) | (simp; omega) | (simp; first | omega | (simp only [List.length_append, List.length_cons, List.length_nil, Int.toNat_natCast]; omega) | (simp; omega)))) rfl rfl rfl ?_
  rintro v16 h10 ha17
  refine Av ?_
  refine Ln (Xb (Xt ?_))
  refine Wu _ (tk5 4 9 8 0 10) ?_
  refine Wg ?_
  refine Ly (Y_add rfl rfl (by first | omega | (simp only [List.length_append, List.length_cons, List.length_nil, Int.toNat_natCast]; omega) | (simp; omega)) (by first | omega | (simp only [List.length_append, List.length_cons, List.length_nil, Int.toNat_natCast]; omega) | (simp; omega))) ?_
  refine Mv ?_
  refine Ln ?_
  refine X_loop ((i + 1, v16)) (tk5 9 8 0 4 10) ?_ ?_
  ·exact ⟨hgs, OwnB.congr (ha17.own) (by rw [take_rone (by omega), rone]; simp only [Int.toNat_natCast, List.append_assoc, List.nil_append, List.cons_append]), (((me6.trans hx12).then' ha14.only ha14.ge (Nat.le_refl _)).then' ha17.only ha17.ge (Nat.le_refl _))⟩
  (try dsimp only)
  omega
 refine W_exit ?_
 refine Xe (Xe ?_)
 refine X_block_hit ?_
 refine Xt (Wq (Wg ?_))
 refine Mv ?_
 refine A2 ?_
 refine Nx ?_
 refine Wu _ (tk2 3 2) ?_
 refine Wt ?_
 refine Xv2 ?_
 have hi9 : i = l.length := by have := hg.1; omega
 have he := rlerr_all (hi9 ▸ hg)
 refine ⟨_, by rw [he], ?_, hx⟩
 unfold rfmt
 rw [if_pos he]
 exact OwnB.congr ((ho).low (Nat.le_refl _)) (by rw [hi9, List.take_length])

/-! ### The keys -/
theorem slices_CloneS (h : Heap) (v : Value) (l : List (List UInt8)) (hl : Rows strS h v l) (hn : l.length ≤ 1048576) : Cal Tryz.prog 113 #[v] h (fun v h' => ∃ s0, v = s0 ∧ RowsO strS h' h.size s0 (l) ∧ Ext h h') := by
 refine Ce Tryz.func113 fun σ => ?_
 refine Wa ?_
 refine Ln (Xt (Wq (Wq (Wg ?_))))
 refine Mv ?_
 refine Ly (Y_slnilr Tryz.underlying160 rfl hl) ?_
 refine Nx ?_
 refine W_split rfl (fun c => ?_) (fun c => ?_)
 ·refine Wa ?_
  refine Ln (Xt (Wt (Xr ?_)))
  refine Xv1 ?_
  exact ⟨_, rfl, by rw [isNil_nilr hl c]; exact RowsO.nil _ _ _, (Ext.refl _)⟩
 refine Wk (Xt (Wq (Wg ?_)))
 refine L_mks (M_litr (S := strS) (l := ([] : List (List UInt8))) (cells := []) (pv := []) (E := 9) (evp (is := []) (os := []) (vs := []) rfl rfl) rfl rfl (fun _ => by kernel_rfl) (by simp)) rfl rfl rfl ?_
 rintro v1 h1 ⟨ho2, hx3⟩
 refine Mv ?_
 refine L_mks (M_appr0 nsStr (z := 1) (bytes := 16) (z0 := (str [])) Tryz.underlying160 (by unfold elemRow; kernel_rfl) rfl rfl (by decide) rfl rfl ho2 (hl.ext hx3) hx3.size (by simp; omega)) rfl rfl rfl ?_
 rintro v4 h2 ha5
 refine An ?_
 refine Wu _ (tk1 2) ?_
 refine Wt ?_
 refine Xv1 ?_
 exact ⟨_, rfl, RowsO.congr ((ha5.own).low (Nat.le_refl _)) (by simp), (hx3.then' ha5.only ha5.ge (Nat.le_refl _))⟩

abbrev rkeys : List (List UInt8) := [[108, 105, 110, 107, 112, 97, 116, 104], [112, 97, 116, 104], [115, 105, 122, 101]]
theorem rec_Keys (h : Heap) (hK : GlbK h) : Cal Tryz.prog 78 #[] h (fun v h' => ∃ s0, v = s0 ∧ Rows strS h' s0 (rkeys) ∧ Ext h h') := by
 refine Ce Tryz.func78 fun σ => ?_
 refine Wa ?_
 refine Ln (Xt (Wq (Wg ?_)))
 have hb1 : Rows strS h (.slice (some ⟨13, 0, none⟩) 3 3) ([[108, 105, 110, 107, 112, 97, 116, 104], [112, 97, 116, 104], [115, 105, 122, 101]]) := Cls.rowsS (l := [[108, 105, 110, 107, 112, 97, 116, 104], [112, 97, 116, 104], [115, 105, 122, 101]]) hK.g0 rfl (by decide)
 refine Ly (Y_arrall Tryz.underlying200 (show _ = some 1 by kernel_rfl) (by decide) rfl) ?_
 refine Lc (slices_CloneS _ (.slice (some ⟨13, 0, none⟩) 3 3) [[108, 105, 110, 107, 112, 97, 116, 104], [112, 97, 116, 104], [115, 105, 122, 101]] hb1 (by first | omega | rfl | (simp <;> omega))) ?_
 rintro s02 h1 ⟨_, rfl, hr03, hx4⟩
 refine Av ?_
 refine Ln (Xt (Wt ?_))
 refine Xv1 ?_
 exact ⟨_, rfl, (hr03).rows, hx4⟩

/-! ### The law's helpers -/
end Go.Xp
