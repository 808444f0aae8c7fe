/- Layer 7: the law UstarRejectsOneByte. -/
import Derived.Test.YtmmpnieglihhnaaDoorUstI
import Derived.Test.YtmmpnieglihhnaaDoorStO
set_option linter.unusedSimpArgs false
set_option linter.unusedVariables false
set_option linter.unusedSectionVars false
namespace Go.Xp
open Go.Proofs

theorem byt_set_eq {l : List UInt8} {k : Nat} {c : UInt8} (hk : k < l.length) : byt (l.set k c) k = (c.toNat : Int) := by
  rw [byt_eq (by simpa using hk)]
  simp
theorem byt_set_ne {l : List UInt8} {k i : Nat} {c : UInt8} (h : i ≠ k) : byt (l.set k c) i = byt l i := by
  unfold byt
  congr 2
  simp only [List.getD_eq_getElem?_getD]
  rw [List.getElem?_set_ne (Ne.symm h)]
theorem rej_sver {A B : List UInt8} {k : Nat} (hA : A.length = 512) (hB : B.length = 512) (hs : sseal B = B) (hk : k < 512) (hn : ¬ (148 ≤ k ∧ k < 156)) (ha : ∀ i, i ≠ k → byt A i = byt B i) (hne : ¬ byt A k = byt B k) : sver A = 9 := by
  unfold sver
  rw [if_pos hA, if_neg]
  intro h1
  have m1 := sseal_mid hA
  have m2 := sseal_mid hB
  rw [h1] at m1
  rw [hs] at m2
  have m3 : (A.take 155).drop 148 = (B.take 155).drop 148 := byt_ext (by simp [hA, hB]) (fun i hi => by
    have hi2 : i < 7 := by simp [hA] at hi; omega
    have h3 := ha (148 + i) (by omega)
    unfold byt at h3 ⊢
    simp only [List.getD_eq_getElem?_getD, List.getElem?_drop, List.getElem?_take] at h3 ⊢
    rw [if_pos (by omega), if_pos (by omega)]
    exact h3)
  rw [m1, m2] at m3
  have m4 := octf7_inj (ssum_le A) (ssum_le B) m3
  have m5 := csumN_one hn ha 512
  unfold ssum at m4
  rw [if_pos hA, if_pos hB] at m4
  rw [if_pos hk] at m5
  omega
theorem byt_mid1 {A C : List UInt8} {x y : UInt8} {i : Nat} (h : i ≠ A.length) : byt (A ++ ([x] ++ C)) i = byt (A ++ ([y] ++ C)) i := by
  unfold byt
  congr 2
  simp only [List.getD_eq_getElem?_getD]
  congr 1
  by_cases h1 : i < A.length
  · rw [List.getElem?_append_left h1, List.getElem?_append_left h1]
  · rw [List.getElem?_append_right (l₁ := A) (Nat.le_of_not_lt h1), List.getElem?_append_right (l₁ := A) (Nat.le_of_not_lt h1)]
    obtain ⟨j, hj⟩ : ∃ j, i - A.length = j + 1 := ⟨i - A.length - 1, by omega⟩
    rw [hj]
    simp
section
variable {t : Int} {name pre link : List UInt8} {mode size : Int}
theorem ucheck_type {t' : Int} (hk : uknown t' = true) (h : ucheck t name pre link mode size = 0) : ucheck t' name pre link mode size = 0 := by
  unfold ucheck at h ⊢
  split at h
  · cases h
  · rw [if_neg (by simp [hk])]; exact h
theorem ubody_type {t' : Int} (h : ucheck t name pre link mode size = 0) {i : Nat} (hi : i ≠ 156) : byt (ubody t name pre link mode size) i = byt (ubody t' name pre link mode size) i := by
  obtain ⟨k1, k2, k3, k4, k5⟩ := ulens h
  have e : ∀ u : Int, ubody u name pre link mode size = (cfmt name 100 ++ octf mode 8 ++ octf 0 8 ++ octf 0 8 ++ octf size 12 ++ octf 0 12 ++ [32, 32, 32, 32, 32, 32, 32, 32]) ++ ([u.toNat.toUInt8] ++ (cfmt link 100 ++ [117, 115, 116, 97, 114, 0, 48, 48] ++ cfmt [] 32 ++ cfmt [] 32 ++ octf 0 8 ++ octf 0 8 ++ cfmt pre 155 ++ cfmt [] 12)) := by
    intro u; unfold ubody; simp only [List.append_assoc]
  rw [e t, e t']
  exact byt_mid1 (by simp only [List.length_append, k1, k4, oz8, k5, oz12, List.length_cons, List.length_nil]; omega)
variable {x : Int} {k : Nat}
/-- The block with byte k changed. -/
def uchg (t : Int) (name pre link : List UInt8) (mode size x : Int) (k : Nat) : List UInt8 := (uenc t name pre link mode size).set k (ux (byt (uenc t name pre link mode size) k) x).toNat.toUInt8
theorem uchg_len (h : ucheck t name pre link mode size = 0) : (uchg t name pre link mode size x k).length = 512 := by unfold uchg; simp [uenc_len h]
theorem u8_back {c : Int} (h : 0 ≤ c ∧ c ≤ 255) : ((c.toNat.toUInt8).toNat : Int) = c := by
  rw [show (c.toNat.toUInt8).toNat = c.toNat % 256 from rfl, Nat.mod_eq_of_lt (by omega)]; omega
theorem uchg_at (h : ucheck t name pre link mode size = 0) (hk : k < 512) : byt (uchg t name pre link mode size x k) k = ux (byt (uenc t name pre link mode size) k) x := by
  unfold uchg
  rw [byt_set_eq (by rw [uenc_len h]; exact hk)]
  exact u8_back (ux_le _ _)
theorem uchg_ne {i : Nat} (hi : i ≠ k) : byt (uchg t name pre link mode size x k) i = byt (uenc t name pre link mode size) i := byt_set_ne hi
theorem uenc_seal (h : ucheck t name pre link mode size = 0) : sseal (uenc t name pre link mode size) = uenc t name pre link mode size := by
  unfold uenc; rw [if_pos h]; exact sseal_idem (ubody_len h)
theorem rej1 (hx : 0 ≤ x ∧ x ≤ 255) (h : ucheck t name pre link mode size = 0) (hk : k < 512) (hn : ¬ (148 ≤ k ∧ k < 156)) (h0 : ¬ x = 0) : uderr (uchg t name pre link mode size x k) = 9 := by
  have hs : sver (uchg t name pre link mode size x k) = 9 := rej_sver (uchg_len h) (uenc_len h) (uenc_seal h) hk hn (fun i hi => uchg_ne hi) (by
    rw [uchg_at h hk]; exact ux_ne (byt_lt _ _) hx h0)
  rw [uderr_ver (by rw [hs]; decide), hs]
theorem rej_byt (h : ucheck t name pre link mode size = 0) {i : Nat} (hi : i < 512) (hn : ¬ (148 ≤ i ∧ i < 156)) : byt (sseal (uchg t name pre link mode size x k)) i = byt (uchg t name pre link mode size x k) i := sseal_byt (uchg_len h) hi hn
theorem rej2 (ht : 0 ≤ t ∧ t ≤ 255) (h : ucheck t name pre link mode size = 0) (hk : k < 512) (hn : ¬ (148 ≤ k ∧ k < 156)) (he : ¬ uderr (sseal (uchg t name pre link mode size x k)) = 0) :
    ((uderr (sseal (uchg t name pre link mode size x k)) = 8) ↔ k = 156) ∧ (uderr (sseal (uchg t name pre link mode size x k)) = 8 ∨ uderr (sseal (uchg t name pre link mode size x k)) = 6) := by
  have hv := sver_seal (uchg_len (x := x) (k := k) h)
  have hb := rej_byt (x := x) (k := k) h (i := 156) (by decide) (by decide)
  have e1 : uderr (sseal (uchg t name pre link mode size x k)) = if uknown (byt (sseal (uchg t name pre link mode size x k)) 156) = false then 8 else 6 := by
    generalize hS : sseal (uchg t name pre link mode size x k) = S at *
    unfold uderr at he ⊢
    rw [if_neg (by simp [hv])] at he ⊢
    by_cases h1 : uknown (byt S 156) = false
    · rw [if_pos h1, if_pos h1]
    · rw [if_neg h1] at he ⊢
      rw [if_neg h1]
      split
      · rename_i h2; rw [if_pos h2] at he; exact absurd rfl he
      · rfl
  by_cases hc : k = 156
  · subst hc
    rw [uchg_at h (by decide), uf_type ht h] at hb
    have hu : uknown (ux t x) = false := by
      apply Decidable.byContradiction
      intro h1
      have h1 : uknown (ux t x) = true := by simpa using h1
      have h2 := ucheck_type h1 h
      have h3 : sseal (uchg t name pre link mode size x 156) = uenc (ux t x) name pre link mode size := by
        unfold uenc
        rw [if_pos h2]
        refine sseal_congr (uchg_len h) (ubody_len h2) (fun i hi hni => ?_)
        by_cases hi2 : i = 156
        · subst hi2
          rw [uchg_at h (by decide), uf_type ht h, ub_156 h2]
          exact (u8_back (ux_le t x)).symm
        · rw [uchg_ne hi2, uenc_byt h hi hni]
          exact ubody_type h hi2
      rw [h3] at he
      exact he (dec_enc (ux_le t x) h2).1
    rw [hb, if_pos hu] at e1
    rw [e1]
    exact ⟨⟨fun _ => rfl, fun _ => rfl⟩, .inl rfl⟩
  · rw [uchg_ne (Ne.symm hc), uf_type ht h] at hb
    obtain ⟨hkn, -⟩ := ucheck_ok h
    rw [hb, if_neg (by simp [hkn])] at e1
    rw [e1]
    exact ⟨⟨fun h9 => (by cases h9), fun h9 => absurd h9 hc⟩, .inr rfl⟩
theorem rej3 (hx : 0 ≤ x ∧ x ≤ 255) (h : ucheck t name pre link mode size = 0) (hk : k < 512) (hn : ¬ (148 ≤ k ∧ k < 156)) (h0 : ¬ x = 0) (he : uderr (sseal (uchg t name pre link mode size x k)) = 0)
    (hq : udT (sseal (uchg t name pre link mode size x k)) = t ∧ udN (sseal (uchg t name pre link mode size x k)) = name ∧ udP (sseal (uchg t name pre link mode size x k)) = pre ∧ udL (sseal (uchg t name pre link mode size x k)) = link ∧ udM (sseal (uchg t name pre link mode size x k)) = mode ∧ udS (sseal (uchg t name pre link mode size x k)) = size) : False := by
  obtain ⟨q1, q2, q3, q4, q5, q6⟩ := hq
  obtain ⟨-, -, h1⟩ := udok_parts he
  rw [q1, q2, q3, q4, q5, q6] at h1
  have h2 := rej_byt (x := x) (k := k) h hk hn
  rw [← h1, uchg_at h hk] at h2
  exact ux_ne (byt_lt _ _) hx h0 h2.symm
end

set_option maxRecDepth 100000 in
theorem law07_Rejects (h : Heap) (hG : Glb h) (t : Int) (name : List UInt8) (pre : List UInt8) (link : List UInt8) (mode : Int) (size : Int) (k : Int) (x : Int) (ht : 0 ≤ t ∧ t ≤ 255) (h1 : name.length ≤ 140737488355328) (h2 : pre.length ≤ 140737488355328) (h3 : link.length ≤ 140737488355328) (hm : -9223372036854775808 ≤ mode ∧ mode ≤ 9223372036854775807) (hz : -9223372036854775808 ≤ size ∧ size ≤ 9223372036854775807) (hk : 0 ≤ k ∧ k ≤ 65535) (hx0 : 0 ≤ x ∧ x ≤ 255) : Cal Tryd.prog 6 #[.agg #[.int .u8 (t), str name, str pre, str link, .int .i64 (mode), .int .i64 (size)], .int .u16 (k), .int .u8 (x)] h (fun v h' => v = .bool true ∧ Ext h h') := by
  have hul := uenc_le t name pre link mode size
  refine Cal_enter (args := [.agg #[.int .u8 (t), str name, str pre, str link, .int .i64 (mode), .int .i64 (size)], .int .u16 (k), .int .u8 (x)]) Tryd.func6 rfl rfl rfl (fun σ => ?_)
  refine W_seq ?_
  refine W_region ?_
  refine L_mks (M_box rfl) rfl rfl rfl ?_
  rintro _ h1 ⟨rfl, hn1⟩
  have hk2 : Blk h1 h.size [.int .u8 (t), str name, str pre, str link, .int .i64 (mode), .int .i64 (size)] := hn1.blk
  refine L_yld (Y_assign rfl) rfl rfl rfl ?_
  refine L_nil ?_
  refine X_then ?_
  refine W_sub _ (.cons (i := 6) rfl (.cons (i := 3) rfl (.cons (i := 1) rfl (.cons (i := 2) rfl (.nil _))))) ?_
  refine W_seq ?_
  refine W_region ?_
  refine L_yld (Y_ldbox (us := [.int .u8 (t), str name, str pre, str link, .int .i64 (mode), .int .i64 (size)]) Tryd.underlying32 rfl (show _ = some 6 by kernel_rfl) rfl hk2 rfl) rfl rfl rfl ?_
  refine L_call (E_call (by kernel_rfl) rfl) (ustar_Encode _ (hG.ext hn1.ext) t name pre link mode size (by first | first | omega | (simp; omega) | rfl | (simp <;> omega))) rfl rfl rfl ?_
  rintro _ h2 ⟨s03, rfl, hr04, hx5⟩
  refine L_yld (Y_move rfl) rfl rfl rfl ?_
  refine L_yld (Y_extract (v := s03) rfl rfl) rfl rfl rfl ?_
  refine L_yld (Y_extract (v := .int .i64 (ucheck t name pre link mode size)) rfl rfl) rfl rfl rfl ?_
  refine L_yld (Y_assign rfl) rfl rfl rfl ?_
  refine L_yld (Y_assign rfl) rfl rfl rfl ?_
  refine L_nil ?_
  refine X_then ?_
  refine W_sub _ (.cons (i := 8) rfl (.cons (i := 7) rfl (.cons (i := 6) rfl (.cons (i := 3) rfl (.cons (i := 1) rfl (.cons (i := 2) rfl (.nil _))))))) ?_
  refine W_seq ?_
  refine W_region ?_
  refine L_yld (Y_move rfl) rfl rfl rfl ?_
  refine L_yld (Y_convs Tryd.underlying48 Tryd.underlying3 rfl (wrap_i64 (by first | omega | (simp; omega)) (by first | omega | (simp; omega)))) rfl rfl rfl ?_
  refine L_yld (Y_rem rfl rfl (by omega) (by omega)) rfl rfl rfl ?_
  refine L_yld (Y_assign rfl) rfl rfl rfl ?_
  refine L_nil ?_
  refine X_then ?_
  refine W_sub _ (.cons (i := 9) rfl (.cons (i := 8) rfl (.cons (i := 7) rfl (.cons (i := 6) rfl (.cons (i := 3) rfl (.cons (i := 2) rfl (.nil _))))))) ?_
  refine W_seq ?_
  refine W_cut (S := Unit) (fun _ => [(47, .bool (decide (((((2000 < (name.length : Int) + (pre.length : Int) + (link.length : Int)) ∨ (¬ (ucheck t name pre link mode size) = 0)) ∨ (¬ ((uenc t name pre link mode size).length : Int) = 512)) ∨ (x = 0)) ∨ ((148 ≤ (k % 512)) ∧ ((k % 512) < 156))))), (9, .int .i64 (k % 512)), (7, s03), (6, .bool false), (3, .pointer (some ⟨h.size, 0, none⟩)), (2, .int .u8 (x))]) (fun _ h' => Ext h2 h') ?_ ?_
  · refine W_region ?_
    refine L_yld (Y_ldbox (us := [.int .u8 (t), str name, str pre, str link, .int .i64 (mode), .int .i64 (size)]) Tryd.underlying32 rfl (show _ = some 6 by kernel_rfl) rfl (hk2.ext hx5) rfl) rfl rfl rfl ?_
    refine L_call (E_call (by kernel_rfl) rfl) (law07_tooLarge _ t name pre link mode size (by first | first | omega | (simp; omega) | rfl | (simp <;> omega)) (by first | first | omega | (simp; omega) | rfl | (simp <;> omega)) (by first | first | omega | (simp; omega) | rfl | (simp <;> omega))) rfl rfl rfl ?_
    rintro _ h3 ⟨rfl, hx6⟩
    refine L_yld (Y_move rfl) rfl rfl rfl ?_
    refine L_splitd (d := 27) rfl (fun c7 => ?_) (fun c7 => ?_)
    · refine L_skip rfl rfl rfl ?_
      refine L_skip rfl rfl rfl ?_
      refine L_yld (Y_pick_t rfl rfl) rfl rfl rfl ?_
      refine L_yld (Y_move rfl) rfl rfl rfl ?_
      refine L_skip rfl rfl rfl ?_
      refine L_skip rfl rfl rfl ?_
      refine L_skip rfl rfl rfl ?_
      refine L_yld (Y_pick_t rfl rfl) rfl rfl rfl ?_
      refine L_yld (Y_move rfl) rfl rfl rfl ?_
      refine L_skip rfl rfl rfl ?_
      refine L_skip rfl rfl rfl ?_
      refine L_yld (Y_pick_t rfl rfl) rfl rfl rfl ?_
      refine L_yld (Y_move rfl) rfl rfl rfl ?_
      refine L_skip rfl rfl rfl ?_
      refine L_skip rfl rfl rfl ?_
      refine L_skip rfl rfl rfl ?_
      refine L_skip rfl rfl rfl ?_
      refine L_skip rfl rfl rfl ?_
      refine L_skip rfl rfl rfl ?_
      refine L_yld (Y_pick_t rfl rfl) rfl rfl rfl ?_
      refine L_nil ?_
      exact X_cut () (.cons (i := 47) (lkb rfl (by simp only [eq_true c7, true_and, and_true, false_and, and_false, true_or, or_true, false_or, or_false, not_true_eq_false, not_false_eq_true, decide_true, decide_false, Bool.true_eq_false, Bool.false_eq_true, eq_self, Bool.decide_eq_true])) (.cons (i := 9) rfl (.cons (i := 7) rfl (.cons (i := 6) rfl (.cons (i := 3) rfl (.cons (i := 2) rfl (.nil _))))))) hx6
    · refine L_yld (Y_move rfl) rfl rfl rfl ?_
      refine L_yld (Y_neq rfl rfl) rfl rfl rfl ?_
      refine L_yld (Y_pick_f rfl rfl) rfl rfl rfl ?_
      refine L_yld (Y_move rfl) rfl rfl rfl ?_
      refine L_splitd (d := 31) rfl (fun c8 => ?_) (fun c8 => ?_)
      · refine L_skip rfl rfl rfl ?_
        refine L_skip rfl rfl rfl ?_
        refine L_skip rfl rfl rfl ?_
        refine L_yld (Y_pick_t rfl rfl) rfl rfl rfl ?_
        refine L_yld (Y_move rfl) rfl rfl rfl ?_
        refine L_skip rfl rfl rfl ?_
        refine L_skip rfl rfl rfl ?_
        refine L_yld (Y_pick_t rfl rfl) rfl rfl rfl ?_
        refine L_yld (Y_move rfl) rfl rfl rfl ?_
        refine L_skip rfl rfl rfl ?_
        refine L_skip rfl rfl rfl ?_
        refine L_skip rfl rfl rfl ?_
        refine L_skip rfl rfl rfl ?_
        refine L_skip rfl rfl rfl ?_
        refine L_skip rfl rfl rfl ?_
        refine L_yld (Y_pick_t rfl rfl) rfl rfl rfl ?_
        refine L_nil ?_
        exact X_cut () (.cons (i := 47) (lkb rfl (by simp only [eq_false c7, eq_true c8, true_and, and_true, false_and, and_false, true_or, or_true, false_or, or_false, not_true_eq_false, not_false_eq_true, decide_true, decide_false, Bool.true_eq_false, Bool.false_eq_true, eq_self, Bool.decide_eq_true])) (.cons (i := 9) rfl (.cons (i := 7) rfl (.cons (i := 6) rfl (.cons (i := 3) rfl (.cons (i := 2) rfl (.nil _))))))) hx6
      · refine L_yld (Y_move rfl) rfl rfl rfl ?_
        refine L_yld (Y_len Tryd.underlying24 rfl (hr04.ext hx6)) rfl rfl rfl ?_
        refine L_yld (Y_neq rfl rfl) rfl rfl rfl ?_
        refine L_yld (Y_pick_f rfl rfl) rfl rfl rfl ?_
        refine L_yld (Y_move rfl) rfl rfl rfl ?_
        refine L_splitd (d := 36) rfl (fun c9 => ?_) (fun c9 => ?_)
        · refine L_skip rfl rfl rfl ?_
          refine L_skip rfl rfl rfl ?_
          refine L_yld (Y_pick_t rfl rfl) rfl rfl rfl ?_
          refine L_yld (Y_move rfl) rfl rfl rfl ?_
          refine L_skip rfl rfl rfl ?_
          refine L_skip rfl rfl rfl ?_
          refine L_skip rfl rfl rfl ?_
          refine L_skip rfl rfl rfl ?_
          refine L_skip rfl rfl rfl ?_
          refine L_skip rfl rfl rfl ?_
          refine L_yld (Y_pick_t rfl rfl) rfl rfl rfl ?_
          refine L_nil ?_
          exact X_cut () (.cons (i := 47) (lkb rfl (by simp only [eq_false c7, eq_false c8, eq_true c9, true_and, and_true, false_and, and_false, true_or, or_true, false_or, or_false, not_true_eq_false, not_false_eq_true, decide_true, decide_false, Bool.true_eq_false, Bool.false_eq_true, eq_self, Bool.decide_eq_true])) (.cons (i := 9) rfl (.cons (i := 7) rfl (.cons (i := 6) rfl (.cons (i := 3) rfl (.cons (i := 2) rfl (.nil _))))))) hx6
        · refine L_yld (Y_move rfl) rfl rfl rfl ?_
          refine L_yld (Y_eql rfl rfl) rfl rfl rfl ?_
          refine L_yld (Y_pick_f rfl rfl) rfl rfl rfl ?_
          refine L_yld (Y_move rfl) rfl rfl rfl ?_
          refine L_splitd (d := 40) rfl (fun c10 => ?_) (fun c10 => ?_)
          · refine L_skip rfl rfl rfl ?_
            refine L_skip rfl rfl rfl ?_
            refine L_skip rfl rfl rfl ?_
            refine L_skip rfl rfl rfl ?_
            refine L_skip rfl rfl rfl ?_
            refine L_skip rfl rfl rfl ?_
            refine L_yld (Y_pick_t rfl rfl) rfl rfl rfl ?_
            refine L_nil ?_
            exact X_cut () (.cons (i := 47) (lkb rfl (by first | (simp only [eq_false c7, eq_false c8, eq_false c9, eq_true c10, true_and, and_true, false_and, and_false, true_or, or_true, false_or, or_false, not_true_eq_false, not_false_eq_true, decide_true, decide_false, Bool.true_eq_false, Bool.false_eq_true, eq_self, Bool.decide_eq_true]; done) | (exfalso; contradiction) | (exfalso; omega))) (.cons (i := 9) rfl (.cons (i := 7) rfl (.cons (i := 6) rfl (.cons (i := 3) rfl (.cons (i := 2) rfl (.nil _))))))) hx6
          · refine L_yld (Y_move rfl) rfl rfl rfl ?_
            refine L_yld (Y_geq rfl rfl) rfl rfl rfl ?_
            refine L_yld (Y_move rfl) rfl rfl rfl ?_
            refine L_splitd (d := 43) rfl (fun c11 => ?_) (fun c11 => ?_)
            · refine L_yld (Y_move rfl) rfl rfl rfl ?_
              refine L_yld (Y_lss rfl rfl) rfl rfl rfl ?_
              refine L_yld (Y_pick_t rfl rfl) rfl rfl rfl ?_
              refine L_yld (Y_pick_f rfl rfl) rfl rfl rfl ?_
              refine L_nil ?_
              exact X_cut () (.cons (i := 47) (lkb rfl (by first | (simp only [eq_false c7, eq_false c8, eq_false c9, eq_false c10, eq_true c11, true_and, and_true, false_and, and_false, true_or, or_true, false_or, or_false, not_true_eq_false, not_false_eq_true, decide_true, decide_false, Bool.true_eq_false, Bool.false_eq_true, eq_self, Bool.decide_eq_true]; done) | (exfalso; contradiction) | (exfalso; omega))) (.cons (i := 9) rfl (.cons (i := 7) rfl (.cons (i := 6) rfl (.cons (i := 3) rfl (.cons (i := 2) rfl (.nil _))))))) hx6
            · refine L_skip rfl rfl rfl ?_
              refine L_skip rfl rfl rfl ?_
              refine L_yld (Y_pick_f rfl rfl) rfl rfl rfl ?_
              refine L_yld (Y_pick_f rfl rfl) rfl rfl rfl ?_
              refine L_nil ?_
              exact X_cut () (.cons (i := 47) (lkb rfl (by first | (simp only [eq_false c7, eq_false c8, eq_false c9, eq_false c10, eq_false c11, true_and, and_true, false_and, and_false, true_or, or_true, false_or, or_false, not_true_eq_false, not_false_eq_true, decide_true, decide_false, Bool.true_eq_false, Bool.false_eq_true, eq_self, Bool.decide_eq_true]; done) | (exfalso; contradiction) | (exfalso; omega))) (.cons (i := 9) rfl (.cons (i := 7) rfl (.cons (i := 6) rfl (.cons (i := 3) rfl (.cons (i := 2) rfl (.nil _))))))) hx6
  rintro _ h4 hx12
  show W _ _ _ _ _ [(47, .bool (decide (((((2000 < (name.length : Int) + (pre.length : Int) + (link.length : Int)) ∨ (¬ (ucheck t name pre link mode size) = 0)) ∨ (¬ ((uenc t name pre link mode size).length : Int) = 512)) ∨ (x = 0)) ∨ ((148 ≤ (k % 512)) ∧ ((k % 512) < 156))))), (9, .int .i64 (k % 512)), (7, s03), (6, .bool false), (3, .pointer (some ⟨h.size, 0, none⟩)), (2, .int .u8 (x))] _
  refine W_splitd rfl (fun g => ?_) (fun g => ?_)
  · refine W_seq ?_
    refine W_region ?_
    refine L_call (E_call (by kernel_rfl) rfl) (law07_alive _ (hG.ext ((hn1.ext.trans hx5).trans hx12))) rfl rfl rfl ?_
    rintro _ h5 ⟨rfl, hx13⟩
    refine L_yld (Y_assign rfl) rfl rfl rfl ?_
    refine L_nil ?_
    refine X_then ?_
    refine W_sub _ (.cons (i := 6) rfl (.cons (i := 9) rfl (.cons (i := 7) rfl (.cons (i := 3) rfl (.cons (i := 2) rfl (.nil _)))))) ?_
    refine W_ret ?_
    refine X_then_ret ?_
    refine X_ret1 rfl rfl ?_
    exact ⟨by simp, (((hn1.ext.trans hx5).trans hx12).trans hx13)⟩
  · refine W_skip ?_
    refine X_then ?_
    refine W_sub _ (.cons (i := 9) rfl (.cons (i := 7) rfl (.cons (i := 6) rfl (.cons (i := 3) rfl (.cons (i := 2) rfl (.nil _)))))) ?_
    simp only [not_or, Decidable.not_not] at g
    obtain ⟨⟨⟨⟨-, e⟩, -⟩, h0⟩, hn⟩ := g
    have kk2 : (k % 512).toNat < 512 := by omega
    have kn2 : ¬ (148 ≤ (k % 512).toNat ∧ (k % 512).toNat < 156) := by omega
    have hul2 := uenc_len e
    have hls : (sseal ((uenc t name pre link mode size).set (k % 512).toNat (ux (byt (uenc t name pre link mode size) (k % 512).toNat) x).toNat.toUInt8)).length = 512 := sseal_len (uchg_len (x := x) (k := (k % 512).toNat) e)
    have kc1 := rej1 hx0 e kk2 kn2 h0
    refine W_seq ?_
    refine W_region ?_
    refine L_mks (M_litb (l := ([] : List UInt8)) (cells := []) (pv := []) (E := 5) (evp (is := []) (os := []) (vs := []) rfl rfl) rfl rfl (fun _ => by kernel_rfl)) rfl rfl rfl ?_
    rintro v14 h6 ⟨ho15, hx16⟩
    refine L_yld (Y_move rfl) rfl rfl rfl ?_
    refine L_mks (M_appb Tryd.underlying24 (by unfold elemRow; kernel_rfl) rfl rfl ho15 (hr04.ext (hx12.trans hx16)) hx16.size (by first | first | omega | (simp; omega) | (simp; first | omega | (simp; omega)))) rfl rfl rfl ?_
    rintro v17 h7 ha18
    refine L_yld (Y_assign rfl) rfl rfl rfl ?_
    refine L_nil ?_
    refine X_then ?_
    refine W_sub _ (.cons (i := 10) rfl (.cons (i := 9) rfl (.cons (i := 6) rfl (.cons (i := 3) rfl (.cons (i := 2) rfl (.nil _)))))) ?_
    refine W_seq ?_
    refine W_region ?_
    refine L_yld (Y_move rfl) rfl rfl rfl ?_
    refine L_yld (Y_move rfl) rfl rfl rfl ?_
    refine L_yld (Y_idx Tryd.underlying24 (show _ = some 1 by kernel_rfl) rfl rfl ha18.own.bytes (by first | omega | (simp; omega)) (by first | omega | (simp; omega))) rfl rfl rfl ?_
    refine L_yld (Y_ldbyte Tryd.underlying5 rfl rfl ha18.own.bytes (by first | omega | (simp; omega)) (by first | omega | (simp; omega))) rfl rfl rfl ?_
    refine L_yld (Y_move rfl) rfl rfl rfl ?_
    refine L_yld (Y_xoru8 rfl rfl) rfl rfl rfl ?_
    refine L_yld (Y_idx Tryd.underlying24 (show _ = some 1 by kernel_rfl) rfl rfl ha18.own.bytes (by first | omega | (simp; omega)) (by first | omega | (simp; omega))) rfl rfl rfl ?_
    refine L_dos (D_storeo (show _ = some 1 by kernel_rfl) rfl rfl (by first | exact ux_le _ _ | omega) ha18.own (by first | omega | (simp; omega))) rfl rfl ?_
    rintro h8 ha19
    refine L_nil ?_
    refine X_then ?_
    refine W_sub _ (.cons (i := 10) rfl (.cons (i := 9) rfl (.cons (i := 6) rfl (.cons (i := 3) rfl (.nil _))))) ?_
    refine W_seq ?_
    refine W_seq ?_
    refine W_region ?_
    refine L_yld (Y_ldbox (us := [.int .u8 (t), str name, str pre, str link, .int .i64 (mode), .int .i64 (size)]) Tryd.underlying32 rfl (show _ = some 6 by kernel_rfl) rfl (hk2.ext ((((hx5.trans hx12).trans hx16).then' ha18.only ha18.ge (Nat.le_trans hx5.size hx12.size)).then' ha19.only ha19.ge (Nat.le_trans hx5.size hx12.size))) rfl) rfl rfl rfl ?_
    refine L_call (E_call (by kernel_rfl) rfl) (ustar_Check _ (hG.ext (((((hn1.ext.trans hx5).trans hx12).trans hx16).then' ha18.only ha18.ge (Nat.le_trans (Nat.le_trans hn1.ext.size hx5.size) hx12.size)).then' ha19.only ha19.ge (Nat.le_trans (Nat.le_trans hn1.ext.size hx5.size) hx12.size))) t name pre link mode size (by first | first | omega | (simp; omega) | rfl | (simp <;> omega))) rfl rfl rfl ?_
    rintro _ h9 ⟨rfl, hx20⟩
    refine L_yld (Y_eql rfl rfl) rfl rfl rfl ?_
    refine L_nil ?_
    refine X_then ?_
    refine W_sub _ (.cons (i := 61) rfl (.cons (i := 10) rfl (.cons (i := 9) rfl (.cons (i := 6) rfl (.cons (i := 3) rfl (.nil _)))))) ?_
    refine W_known true rfl (by exact decide_eq_true (by exact e)) ?_
    refine W_seq ?_
    refine W_region ?_
    refine L_yld (Y_move rfl) rfl rfl rfl ?_
    refine L_call (E_call (by kernel_rfl) rfl) (ustar_Decode _ (hG.ext ((((((hn1.ext.trans hx5).trans hx12).trans hx16).then' ha18.only ha18.ge (Nat.le_trans (Nat.le_trans hn1.ext.size hx5.size) hx12.size)).then' ha19.only ha19.ge (Nat.le_trans (Nat.le_trans hn1.ext.size hx5.size) hx12.size)).trans hx20)) v17 ((uenc t name pre link mode size).set (k % 512).toNat (ux (byt (uenc t name pre link mode size) (k % 512).toNat) x).toNat.toUInt8) (ha19.own.bytes.ext hx20) (by first | first | omega | (simp; omega) | rfl | (simp <;> omega))) rfl rfl rfl ?_
    rintro _ h10 ⟨rfl, hx21⟩
    refine L_yld (Y_move rfl) rfl rfl rfl ?_
    refine L_yld (Y_extract (v := .agg #[.int .u8 (udT ((uenc t name pre link mode size).set (k % 512).toNat (ux (byt (uenc t name pre link mode size) (k % 512).toNat) x).toNat.toUInt8)), str (udN ((uenc t name pre link mode size).set (k % 512).toNat (ux (byt (uenc t name pre link mode size) (k % 512).toNat) x).toNat.toUInt8)), str (udP ((uenc t name pre link mode size).set (k % 512).toNat (ux (byt (uenc t name pre link mode size) (k % 512).toNat) x).toNat.toUInt8)), str (udL ((uenc t name pre link mode size).set (k % 512).toNat (ux (byt (uenc t name pre link mode size) (k % 512).toNat) x).toNat.toUInt8)), .int .i64 (udM ((uenc t name pre link mode size).set (k % 512).toNat (ux (byt (uenc t name pre link mode size) (k % 512).toNat) x).toNat.toUInt8)), .int .i64 (udS ((uenc t name pre link mode size).set (k % 512).toNat (ux (byt (uenc t name pre link mode size) (k % 512).toNat) x).toNat.toUInt8))]) rfl rfl) rfl rfl rfl ?_
    refine L_yld (Y_extract (v := .int .i64 (uderr ((uenc t name pre link mode size).set (k % 512).toNat (ux (byt (uenc t name pre link mode size) (k % 512).toNat) x).toNat.toUInt8))) rfl rfl) rfl rfl rfl ?_
    refine L_mks (M_alloc (u := .agg #[.int .u8 0, str [], str [], str [], .int .i64 0, .int .i64 0]) (by kernel_rfl)) rfl rfl rfl ?_
    rintro _ h11 ⟨rfl, hn22⟩
    have hk23 : Blk h11 h10.size [.int .u8 0, str [], str [], str [], .int .i64 0, .int .i64 0] := hn22.blk
    refine L_dos (D_store (us := [.int .u8 (udT ((uenc t name pre link mode size).set (k % 512).toNat (ux (byt (uenc t name pre link mode size) (k % 512).toNat) x).toNat.toUInt8)), str (udN ((uenc t name pre link mode size).set (k % 512).toNat (ux (byt (uenc t name pre link mode size) (k % 512).toNat) x).toNat.toUInt8)), str (udP ((uenc t name pre link mode size).set (k % 512).toNat (ux (byt (uenc t name pre link mode size) (k % 512).toNat) x).toNat.toUInt8)), str (udL ((uenc t name pre link mode size).set (k % 512).toNat (ux (byt (uenc t name pre link mode size) (k % 512).toNat) x).toNat.toUInt8)), .int .i64 (udM ((uenc t name pre link mode size).set (k % 512).toNat (ux (byt (uenc t name pre link mode size) (k % 512).toNat) x).toNat.toUInt8)), .int .i64 (udS ((uenc t name pre link mode size).set (k % 512).toNat (ux (byt (uenc t name pre link mode size) (k % 512).toNat) x).toNat.toUInt8))]) (show _ = some 6 by kernel_rfl) rfl rfl rfl (by simp [Value.oneCell']) hk23 (by simp)) rfl rfl ?_
    rintro h12 hp24
    have hk25 : Blk h12 h10.size [.int .u8 (udT ((uenc t name pre link mode size).set (k % 512).toNat (ux (byt (uenc t name pre link mode size) (k % 512).toNat) x).toNat.toUInt8)), str (udN ((uenc t name pre link mode size).set (k % 512).toNat (ux (byt (uenc t name pre link mode size) (k % 512).toNat) x).toNat.toUInt8)), str (udP ((uenc t name pre link mode size).set (k % 512).toNat (ux (byt (uenc t name pre link mode size) (k % 512).toNat) x).toNat.toUInt8)), str (udL ((uenc t name pre link mode size).set (k % 512).toNat (ux (byt (uenc t name pre link mode size) (k % 512).toNat) x).toNat.toUInt8)), .int .i64 (udM ((uenc t name pre link mode size).set (k % 512).toNat (ux (byt (uenc t name pre link mode size) (k % 512).toNat) x).toNat.toUInt8)), .int .i64 (udS ((uenc t name pre link mode size).set (k % 512).toNat (ux (byt (uenc t name pre link mode size) (k % 512).toNat) x).toNat.toUInt8))] := hp24.blk
    refine L_yld (Y_assign rfl) rfl rfl rfl ?_
    refine L_nil ?_
    refine X_then ?_
    refine W_sub _ (.cons (i := 12) rfl (.cons (i := 10) rfl (.cons (i := 9) rfl (.cons (i := 6) rfl (.cons (i := 3) rfl (.nil _)))))) ?_
    refine W_seq ?_
    refine W_region ?_
    refine L_yld (Y_move rfl) rfl rfl rfl ?_
    refine L_yld (Y_neq rfl rfl) rfl rfl rfl ?_
    refine L_nil ?_
    refine X_then ?_
    refine W_sub _ (.cons (i := 68) rfl (.cons (i := 10) rfl (.cons (i := 9) rfl (.cons (i := 6) rfl (.cons (i := 3) rfl (.nil _)))))) ?_
    refine W_known false rfl (by exact decide_eq_false (by exact fun q9 => q9 kc1)) ?_
    refine W_skip ?_
    refine X_then ?_
    refine W_sub _ (.cons (i := 10) rfl (.cons (i := 9) rfl (.cons (i := 6) rfl (.cons (i := 3) rfl (.nil _))))) ?_
    refine W_seq ?_
    refine W_region ?_
    refine L_yld (Y_move rfl) rfl rfl rfl ?_
    refine L_call (E_call (by kernel_rfl) rfl) (ref03_Seal _ v17 ((uenc t name pre link mode size).set (k % 512).toNat (ux (byt (uenc t name pre link mode size) (k % 512).toNat) x).toNat.toUInt8) (ha19.own.bytes.ext (((hx20.trans hx21).trans hn22.ext).then' hp24.only (by simp) (Nat.le_trans hx20.size hx21.size)))) rfl rfl rfl ?_
    rintro _ h13 ⟨s026, rfl, hr027, hx28⟩
    refine L_yld (Y_move rfl) rfl rfl rfl ?_
    refine L_yld (Y_extract (v := s026) rfl rfl) rfl rfl rfl ?_
    refine L_yld (Y_extract (v := .int .i64 (serr ((uenc t name pre link mode size).set (k % 512).toNat (ux (byt (uenc t name pre link mode size) (k % 512).toNat) x).toNat.toUInt8))) rfl rfl) rfl rfl rfl ?_
    refine L_yld (Y_assign rfl) rfl rfl rfl ?_
    refine L_yld (Y_assign rfl) rfl rfl rfl ?_
    refine L_nil ?_
    refine X_then ?_
    refine W_sub _ (.cons (i := 13) rfl (.cons (i := 9) rfl (.cons (i := 6) rfl (.cons (i := 3) rfl (.nil _))))) ?_
    refine W_seq ?_
    refine W_region ?_
    refine L_yld (Y_move rfl) rfl rfl rfl ?_
    refine L_call (E_call (by kernel_rfl) rfl) (ustar_Decode _ (hG.ext ((((((((((hn1.ext.trans hx5).trans hx12).trans hx16).then' ha18.only ha18.ge (Nat.le_trans (Nat.le_trans hn1.ext.size hx5.size) hx12.size)).then' ha19.only ha19.ge (Nat.le_trans (Nat.le_trans hn1.ext.size hx5.size) hx12.size)).trans hx20).trans hx21).trans hn22.ext).then' hp24.only (by simp) (Nat.le_trans (Nat.le_trans (Nat.le_trans (Nat.le_trans (Nat.le_trans (Nat.le_trans (Nat.le_trans hn1.ext.size hx5.size) hx12.size) hx16.size) ha18.only.size) ha19.only.size) hx20.size) hx21.size)).trans hx28)) s026 (sseal ((uenc t name pre link mode size).set (k % 512).toNat (ux (byt (uenc t name pre link mode size) (k % 512).toNat) x).toNat.toUInt8)) hr027 (by first | first | omega | (simp; omega) | rfl | (simp <;> omega))) rfl rfl rfl ?_
    rintro _ h14 ⟨rfl, hx29⟩
    refine L_yld (Y_move rfl) rfl rfl rfl ?_
    refine L_yld (Y_extract (v := .agg #[.int .u8 (udT (sseal ((uenc t name pre link mode size).set (k % 512).toNat (ux (byt (uenc t name pre link mode size) (k % 512).toNat) x).toNat.toUInt8))), str (udN (sseal ((uenc t name pre link mode size).set (k % 512).toNat (ux (byt (uenc t name pre link mode size) (k % 512).toNat) x).toNat.toUInt8))), str (udP (sseal ((uenc t name pre link mode size).set (k % 512).toNat (ux (byt (uenc t name pre link mode size) (k % 512).toNat) x).toNat.toUInt8))), str (udL (sseal ((uenc t name pre link mode size).set (k % 512).toNat (ux (byt (uenc t name pre link mode size) (k % 512).toNat) x).toNat.toUInt8))), .int .i64 (udM (sseal ((uenc t name pre link mode size).set (k % 512).toNat (ux (byt (uenc t name pre link mode size) (k % 512).toNat) x).toNat.toUInt8))), .int .i64 (udS (sseal ((uenc t name pre link mode size).set (k % 512).toNat (ux (byt (uenc t name pre link mode size) (k % 512).toNat) x).toNat.toUInt8)))]) rfl rfl) rfl rfl rfl ?_
    refine L_yld (Y_extract (v := .int .i64 (uderr (sseal ((uenc t name pre link mode size).set (k % 512).toNat (ux (byt (uenc t name pre link mode size) (k % 512).toNat) x).toNat.toUInt8)))) rfl rfl) rfl rfl rfl ?_
    refine L_mks (M_alloc (u := .agg #[.int .u8 0, str [], str [], str [], .int .i64 0, .int .i64 0]) (by kernel_rfl)) rfl rfl rfl ?_
    rintro _ h15 ⟨rfl, hn30⟩
    have hk31 : Blk h15 h14.size [.int .u8 0, str [], str [], str [], .int .i64 0, .int .i64 0] := hn30.blk
    refine L_dos (D_store (us := [.int .u8 (udT (sseal ((uenc t name pre link mode size).set (k % 512).toNat (ux (byt (uenc t name pre link mode size) (k % 512).toNat) x).toNat.toUInt8))), str (udN (sseal ((uenc t name pre link mode size).set (k % 512).toNat (ux (byt (uenc t name pre link mode size) (k % 512).toNat) x).toNat.toUInt8))), str (udP (sseal ((uenc t name pre link mode size).set (k % 512).toNat (ux (byt (uenc t name pre link mode size) (k % 512).toNat) x).toNat.toUInt8))), str (udL (sseal ((uenc t name pre link mode size).set (k % 512).toNat (ux (byt (uenc t name pre link mode size) (k % 512).toNat) x).toNat.toUInt8))), .int .i64 (udM (sseal ((uenc t name pre link mode size).set (k % 512).toNat (ux (byt (uenc t name pre link mode size) (k % 512).toNat) x).toNat.toUInt8))), .int .i64 (udS (sseal ((uenc t name pre link mode size).set (k % 512).toNat (ux (byt (uenc t name pre link mode size) (k % 512).toNat) x).toNat.toUInt8)))]) (show _ = some 6 by kernel_rfl) rfl rfl rfl (by simp [Value.oneCell']) hk31 (by simp)) rfl rfl ?_
    rintro h16 hp32
    have hk33 : Blk h16 h14.size [.int .u8 (udT (sseal ((uenc t name pre link mode size).set (k % 512).toNat (ux (byt (uenc t name pre link mode size) (k % 512).toNat) x).toNat.toUInt8))), str (udN (sseal ((uenc t name pre link mode size).set (k % 512).toNat (ux (byt (uenc t name pre link mode size) (k % 512).toNat) x).toNat.toUInt8))), str (udP (sseal ((uenc t name pre link mode size).set (k % 512).toNat (ux (byt (uenc t name pre link mode size) (k % 512).toNat) x).toNat.toUInt8))), str (udL (sseal ((uenc t name pre link mode size).set (k % 512).toNat (ux (byt (uenc t name pre link mode size) (k % 512).toNat) x).toNat.toUInt8))), .int .i64 (udM (sseal ((uenc t name pre link mode size).set (k % 512).toNat (ux (byt (uenc t name pre link mode size) (k % 512).toNat) x).toNat.toUInt8))), .int .i64 (udS (sseal ((uenc t name pre link mode size).set (k % 512).toNat (ux (byt (uenc t name pre link mode size) (k % 512).toNat) x).toNat.toUInt8)))] := hp32.blk
    refine L_yld (Y_assign rfl) rfl rfl rfl ?_
    refine L_nil ?_
    refine X_then ?_
    refine W_sub _ (.cons (i := 16) rfl (.cons (i := 15) rfl (.cons (i := 9) rfl (.cons (i := 6) rfl (.cons (i := 3) rfl (.nil _)))))) ?_
    refine W_seq ?_
    refine W_seq ?_
    refine W_region ?_
    refine L_yld (Y_move rfl) rfl rfl rfl ?_
    refine L_yld (Y_neq rfl rfl) rfl rfl rfl ?_
    refine L_nil ?_
    refine X_then ?_
    refine W_sub _ (.cons (i := 80) rfl (.cons (i := 16) rfl (.cons (i := 15) rfl (.cons (i := 9) rfl (.cons (i := 6) rfl (.cons (i := 3) rfl (.nil _))))))) ?_
    refine W_splitd rfl (fun e2 => ?_) (fun e2 => ?_)
    · obtain ⟨z1, z2⟩ := rej2 (x := x) ht e kk2 kn2 e2
      have z3 := z1.trans (show (k % 512).toNat = 156 ↔ k % 512 = 156 by omega)
      refine W_seq ?_
      refine W_region ?_
      refine L_call (E_call (by kernel_rfl) rfl) (law07_alive _ (hG.ext (((((((((((((hn1.ext.trans hx5).trans hx12).trans hx16).then' ha18.only ha18.ge (Nat.le_trans (Nat.le_trans hn1.ext.size hx5.size) hx12.size)).then' ha19.only ha19.ge (Nat.le_trans (Nat.le_trans hn1.ext.size hx5.size) hx12.size)).trans hx20).trans hx21).trans hn22.ext).then' hp24.only (by simp) (Nat.le_trans (Nat.le_trans (Nat.le_trans (Nat.le_trans (Nat.le_trans (Nat.le_trans (Nat.le_trans hn1.ext.size hx5.size) hx12.size) hx16.size) ha18.only.size) ha19.only.size) hx20.size) hx21.size)).trans hx28).trans hx29).trans hn30.ext).then' hp32.only (by simp) (Nat.le_trans (Nat.le_trans (Nat.le_trans (Nat.le_trans (Nat.le_trans (Nat.le_trans (Nat.le_trans (Nat.le_trans (Nat.le_trans (Nat.le_trans (Nat.le_trans hn1.ext.size hx5.size) hx12.size) hx16.size) ha18.only.size) ha19.only.size) hx20.size) hx21.size) hn22.ext.size) hp24.only.size) hx28.size) hx29.size)))) rfl rfl rfl ?_
      rintro _ h17 ⟨rfl, hx34⟩
      refine L_yld (Y_move rfl) rfl rfl rfl ?_
      refine L_yld (Y_move rfl) rfl rfl rfl ?_
      refine L_yld (Y_eql rfl rfl) rfl rfl rfl ?_
      refine L_yld (Y_move rfl) rfl rfl rfl ?_
      refine L_yld (Y_eql rfl rfl) rfl rfl rfl ?_
      refine L_yld (Y_beql Tryd.underlying4 rfl rfl) rfl rfl rfl ?_
      refine L_yld (Y_pick_t rfl rfl) rfl rfl rfl ?_
      refine L_yld (Y_move rfl) rfl rfl rfl ?_
      refine L_known (d := 89) true rfl (by simp only [beq_iff_eq, decide_eq_decide]; exact z3) ?_
      refine L_yld (Y_move rfl) rfl rfl rfl ?_
      refine L_yld (Y_eql rfl rfl) rfl rfl rfl ?_
      refine L_yld (Y_move rfl) rfl rfl rfl ?_
      refine L_splitd (d := 92) rfl (fun c => ?_) (fun c => ?_)
      · refine L_skip rfl rfl rfl ?_
        refine L_skip rfl rfl rfl ?_
        refine L_yld (Y_pick_t rfl rfl) rfl rfl rfl ?_
        refine L_yld (Y_pick_t rfl rfl) rfl rfl rfl ?_
        refine L_yld (Y_assign rfl) rfl rfl rfl ?_
        refine L_nil ?_
        refine X_then ?_
        refine W_sub _ (.cons (i := 6) rfl (.cons (i := 15) rfl (.cons (i := 3) rfl (.nil _)))) ?_
        refine W_ret ?_
        refine X_then_ret ?_
        refine X_ret1 rfl rfl ?_
        exact ⟨by simp, ((((((((((((((hn1.ext.trans hx5).trans hx12).trans hx16).then' ha18.only ha18.ge (Nat.le_trans (Nat.le_trans hn1.ext.size hx5.size) hx12.size)).then' ha19.only ha19.ge (Nat.le_trans (Nat.le_trans hn1.ext.size hx5.size) hx12.size)).trans hx20).trans hx21).trans hn22.ext).then' hp24.only (by simp) (Nat.le_trans (Nat.le_trans (Nat.le_trans (Nat.le_trans (Nat.le_trans (Nat.le_trans (Nat.le_trans hn1.ext.size hx5.size) hx12.size) hx16.size) ha18.only.size) ha19.only.size) hx20.size) hx21.size)).trans hx28).trans hx29).trans hn30.ext).then' hp32.only (by simp) (Nat.le_trans (Nat.le_trans (Nat.le_trans (Nat.le_trans (Nat.le_trans (Nat.le_trans (Nat.le_trans (Nat.le_trans (Nat.le_trans (Nat.le_trans (Nat.le_trans hn1.ext.size hx5.size) hx12.size) hx16.size) ha18.only.size) ha19.only.size) hx20.size) hx21.size) hn22.ext.size) hp24.only.size) hx28.size) hx29.size)).trans hx34)⟩
      · refine L_yld (Y_move rfl) rfl rfl rfl ?_
        refine L_yld (Y_eql rfl rfl) rfl rfl rfl ?_
        refine L_yld (Y_pick_f rfl rfl) rfl rfl rfl ?_
        refine L_yld (Y_pick_t rfl rfl) rfl rfl rfl ?_
        refine L_yld (Y_assign rfl) rfl rfl rfl ?_
        refine L_nil ?_
        refine X_then ?_
        refine W_sub _ (.cons (i := 6) rfl (.cons (i := 15) rfl (.cons (i := 3) rfl (.nil _)))) ?_
        refine W_ret ?_
        refine X_then_ret ?_
        refine X_ret1 rfl rfl ?_
        exact ⟨congrArg Value.bool (decide_eq_true (z2.resolve_left c)), ((((((((((((((hn1.ext.trans hx5).trans hx12).trans hx16).then' ha18.only ha18.ge (Nat.le_trans (Nat.le_trans hn1.ext.size hx5.size) hx12.size)).then' ha19.only ha19.ge (Nat.le_trans (Nat.le_trans hn1.ext.size hx5.size) hx12.size)).trans hx20).trans hx21).trans hn22.ext).then' hp24.only (by simp) (Nat.le_trans (Nat.le_trans (Nat.le_trans (Nat.le_trans (Nat.le_trans (Nat.le_trans (Nat.le_trans hn1.ext.size hx5.size) hx12.size) hx16.size) ha18.only.size) ha19.only.size) hx20.size) hx21.size)).trans hx28).trans hx29).trans hn30.ext).then' hp32.only (by simp) (Nat.le_trans (Nat.le_trans (Nat.le_trans (Nat.le_trans (Nat.le_trans (Nat.le_trans (Nat.le_trans (Nat.le_trans (Nat.le_trans (Nat.le_trans (Nat.le_trans hn1.ext.size hx5.size) hx12.size) hx16.size) ha18.only.size) ha19.only.size) hx20.size) hx21.size) hn22.ext.size) hp24.only.size) hx28.size) hx29.size)).trans hx34)⟩
    · refine W_skip ?_
      refine X_then ?_
      refine W_sub _ (.cons (i := 15) rfl (.cons (i := 6) rfl (.cons (i := 3) rfl (.nil _)))) ?_
      refine W_seq ?_
      refine W_region ?_
      refine L_call (E_call (by kernel_rfl) rfl) (law07_alive _ (hG.ext (((((((((((((hn1.ext.trans hx5).trans hx12).trans hx16).then' ha18.only ha18.ge (Nat.le_trans (Nat.le_trans hn1.ext.size hx5.size) hx12.size)).then' ha19.only ha19.ge (Nat.le_trans (Nat.le_trans hn1.ext.size hx5.size) hx12.size)).trans hx20).trans hx21).trans hn22.ext).then' hp24.only (by simp) (Nat.le_trans (Nat.le_trans (Nat.le_trans (Nat.le_trans (Nat.le_trans (Nat.le_trans (Nat.le_trans hn1.ext.size hx5.size) hx12.size) hx16.size) ha18.only.size) ha19.only.size) hx20.size) hx21.size)).trans hx28).trans hx29).trans hn30.ext).then' hp32.only (by simp) (Nat.le_trans (Nat.le_trans (Nat.le_trans (Nat.le_trans (Nat.le_trans (Nat.le_trans (Nat.le_trans (Nat.le_trans (Nat.le_trans (Nat.le_trans (Nat.le_trans hn1.ext.size hx5.size) hx12.size) hx16.size) ha18.only.size) ha19.only.size) hx20.size) hx21.size) hn22.ext.size) hp24.only.size) hx28.size) hx29.size)))) rfl rfl rfl ?_
      rintro _ h18 ⟨rfl, hx35⟩
      refine L_yld (Y_move rfl) rfl rfl rfl ?_
      refine L_yld (Y_ldbox (us := [.int .u8 (udT (sseal ((uenc t name pre link mode size).set (k % 512).toNat (ux (byt (uenc t name pre link mode size) (k % 512).toNat) x).toNat.toUInt8))), str (udN (sseal ((uenc t name pre link mode size).set (k % 512).toNat (ux (byt (uenc t name pre link mode size) (k % 512).toNat) x).toNat.toUInt8))), str (udP (sseal ((uenc t name pre link mode size).set (k % 512).toNat (ux (byt (uenc t name pre link mode size) (k % 512).toNat) x).toNat.toUInt8))), str (udL (sseal ((uenc t name pre link mode size).set (k % 512).toNat (ux (byt (uenc t name pre link mode size) (k % 512).toNat) x).toNat.toUInt8))), .int .i64 (udM (sseal ((uenc t name pre link mode size).set (k % 512).toNat (ux (byt (uenc t name pre link mode size) (k % 512).toNat) x).toNat.toUInt8))), .int .i64 (udS (sseal ((uenc t name pre link mode size).set (k % 512).toNat (ux (byt (uenc t name pre link mode size) (k % 512).toNat) x).toNat.toUInt8)))]) Tryd.underlying32 rfl (show _ = some 6 by kernel_rfl) rfl (hk33.ext hx35) rfl) rfl rfl rfl ?_
      refine L_yld (Y_ldbox (us := [.int .u8 (t), str name, str pre, str link, .int .i64 (mode), .int .i64 (size)]) Tryd.underlying32 rfl (show _ = some 6 by kernel_rfl) rfl (hk2.ext (((((((((((((hx5.trans hx12).trans hx16).then' ha18.only ha18.ge (Nat.le_trans hx5.size hx12.size)).then' ha19.only ha19.ge (Nat.le_trans hx5.size hx12.size)).trans hx20).trans hx21).trans hn22.ext).then' hp24.only (by simp) (Nat.le_trans (Nat.le_trans (Nat.le_trans (Nat.le_trans (Nat.le_trans (Nat.le_trans hx5.size hx12.size) hx16.size) ha18.only.size) ha19.only.size) hx20.size) hx21.size)).trans hx28).trans hx29).trans hn30.ext).then' hp32.only (by simp) (Nat.le_trans (Nat.le_trans (Nat.le_trans (Nat.le_trans (Nat.le_trans (Nat.le_trans (Nat.le_trans (Nat.le_trans (Nat.le_trans (Nat.le_trans hx5.size hx12.size) hx16.size) ha18.only.size) ha19.only.size) hx20.size) hx21.size) hn22.ext.size) hp24.only.size) hx28.size) hx29.size)).trans hx35)) rfl) rfl rfl rfl ?_
      refine L_yld (Y_decneg (Y_stneq (xs := [.int .u8 (udT (sseal ((uenc t name pre link mode size).set (k % 512).toNat (ux (byt (uenc t name pre link mode size) (k % 512).toNat) x).toNat.toUInt8))), str (udN (sseal ((uenc t name pre link mode size).set (k % 512).toNat (ux (byt (uenc t name pre link mode size) (k % 512).toNat) x).toNat.toUInt8))), str (udP (sseal ((uenc t name pre link mode size).set (k % 512).toNat (ux (byt (uenc t name pre link mode size) (k % 512).toNat) x).toNat.toUInt8))), str (udL (sseal ((uenc t name pre link mode size).set (k % 512).toNat (ux (byt (uenc t name pre link mode size) (k % 512).toNat) x).toNat.toUInt8))), .int .i64 (udM (sseal ((uenc t name pre link mode size).set (k % 512).toNat (ux (byt (uenc t name pre link mode size) (k % 512).toNat) x).toNat.toUInt8))), .int .i64 (udS (sseal ((uenc t name pre link mode size).set (k % 512).toNat (ux (byt (uenc t name pre link mode size) (k % 512).toNat) x).toNat.toUInt8)))]) (ys := [.int .u8 (t), str name, str pre, str link, .int .i64 (mode), .int .i64 (size)]) (r := decide ((udT (sseal ((uenc t name pre link mode size).set (k % 512).toNat (ux (byt (uenc t name pre link mode size) (k % 512).toNat) x).toNat.toUInt8))) = t ∧ (udN (sseal ((uenc t name pre link mode size).set (k % 512).toNat (ux (byt (uenc t name pre link mode size) (k % 512).toNat) x).toNat.toUInt8))) = name ∧ (udP (sseal ((uenc t name pre link mode size).set (k % 512).toNat (ux (byt (uenc t name pre link mode size) (k % 512).toNat) x).toNat.toUInt8))) = pre ∧ (udL (sseal ((uenc t name pre link mode size).set (k % 512).toNat (ux (byt (uenc t name pre link mode size) (k % 512).toNat) x).toNat.toUInt8))) = link ∧ (udM (sseal ((uenc t name pre link mode size).set (k % 512).toNat (ux (byt (uenc t name pre link mode size) (k % 512).toNat) x).toNat.toUInt8))) = mode ∧ (udS (sseal ((uenc t name pre link mode size).set (k % 512).toNat (ux (byt (uenc t name pre link mode size) (k % 512).toNat) x).toNat.toUInt8))) = size)) (by kernel_rfl) (by kernel_rfl) (by kernel_rfl) rfl rfl (steq (ks := [.i .u8, .s, .s, .s, .i .i64, .i .i64]) (by kernel_rfl) (by simp [eqks, eqk])))) rfl rfl rfl ?_
      refine L_yld (Y_pick_t rfl rfl) rfl rfl rfl ?_
      refine L_yld (Y_assign rfl) rfl rfl rfl ?_
      refine L_nil ?_
      refine X_then ?_
      refine W_sub _ (.cons (i := 6) rfl (.nil _)) ?_
      refine W_ret ?_
      refine X_ret1 rfl rfl ?_
      exact ⟨congrArg Value.bool (decide_eq_true (fun q => rej3 hx0 e kk2 kn2 h0 (Decidable.not_not.1 e2) q)), ((((((((((((((hn1.ext.trans hx5).trans hx12).trans hx16).then' ha18.only ha18.ge (Nat.le_trans (Nat.le_trans hn1.ext.size hx5.size) hx12.size)).then' ha19.only ha19.ge (Nat.le_trans (Nat.le_trans hn1.ext.size hx5.size) hx12.size)).trans hx20).trans hx21).trans hn22.ext).then' hp24.only (by simp) (Nat.le_trans (Nat.le_trans (Nat.le_trans (Nat.le_trans (Nat.le_trans (Nat.le_trans (Nat.le_trans hn1.ext.size hx5.size) hx12.size) hx16.size) ha18.only.size) ha19.only.size) hx20.size) hx21.size)).trans hx28).trans hx29).trans hn30.ext).then' hp32.only (by simp) (Nat.le_trans (Nat.le_trans (Nat.le_trans (Nat.le_trans (Nat.le_trans (Nat.le_trans (Nat.le_trans (Nat.le_trans (Nat.le_trans (Nat.le_trans (Nat.le_trans hn1.ext.size hx5.size) hx12.size) hx16.size) ha18.only.size) ha19.only.size) hx20.size) hx21.size) hn22.ext.size) hp24.only.size) hx28.size) hx29.size)).trans hx35)⟩

end Go.Xp
