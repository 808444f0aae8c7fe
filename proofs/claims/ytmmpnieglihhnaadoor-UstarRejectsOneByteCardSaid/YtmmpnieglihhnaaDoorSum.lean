/- Layer 3 (checksum): the reference's functions. -/
import Derived.Test.YtmmpnieglihhnaaDoorOct
set_option linter.unusedSimpArgs false
set_option linter.unusedVariables false
namespace Go.Xp
open Go.Proofs

/-! ### What the layer answers -/
def csumN (b : List UInt8) : Nat → Int
  | 0 => 0
  | i + 1 => csumN b i + (if 148 ≤ i ∧ i < 156 then 32 else byt b i)
theorem csumN_le (b : List UInt8) : ∀ i, 0 ≤ csumN b i ∧ csumN b i ≤ 255 * i
  | 0 => by simp [csumN]
  | i + 1 => by
    have h1 := csumN_le b i
    have h2 := byt_lt b i
    unfold csumN
    split <;> omega
def serr (b : List UInt8) : Int := if b.length = 512 then 0 else 2
def ssum (b : List UInt8) : Int := if b.length = 512 then csumN b 512 else 0
theorem ssum_le (b : List UInt8) : 0 ≤ ssum b ∧ ssum b ≤ 130560 := by
  have := csumN_le b 512
  unfold ssum; split <;> omega
def sseal (b : List UInt8) : List UInt8 := if b.length = 512 then b.take 148 ++ octf (ssum b) 7 ++ [32] ++ b.drop 156 else []
def sver (b : List UInt8) : Int := if b.length = 512 then (if sseal b = b then 0 else 9) else 2
theorem oct7 {n : Int} (h : 0 ≤ n ∧ n ≤ 130560) : oerr n 7 = 0 ∧ octf n 7 = octD n.toNat 6 ++ [0] := by
  have he : oerr n 7 = 0 := by unfold oerr omax; rw [if_neg (by omega), if_neg (by simp; omega)]
  exact ⟨he, by unfold octf; rw [if_pos he]; rfl⟩
theorem oct7_len (b : List UInt8) : (octf (ssum b) 7).length = 7 := by
  rw [(oct7 (ssum_le b)).2]; simp [octD_length]
theorem sseal_len {b : List UInt8} (h : b.length = 512) : (sseal b).length = 512 := by
  unfold sseal
  rw [if_pos h]
  simp only [List.length_append, List.length_take, List.length_drop, oct7_len, List.length_cons, List.length_nil]
  omega

set_option maxRecDepth 100000 in
theorem ref03_Sum (h : Heap) (v : Value) (b : List UInt8) (hb : Bytes h v b) : Cal Tryd.prog 45 #[v] h (fun v h' => v = .tuple #[.int .i64 (ssum b), .int .i64 (serr b)] ∧ h' = h) := by
  refine Cal_enter (args := [v]) Tryd.func45 rfl rfl rfl (fun σ => ?_)
  refine W_seq ?_
  refine W_region ?_
  refine L_yld (Y_assign rfl) rfl rfl rfl ?_
  refine L_yld (Y_assign rfl) rfl rfl rfl ?_
  refine L_nil ?_
  refine X_then ?_
  refine W_seq ?_
  refine W_seq ?_
  refine W_region ?_
  refine L_yld (Y_move rfl) rfl rfl rfl ?_
  refine L_yld (Y_len Tryd.underlying24 rfl hb) rfl rfl rfl ?_
  refine L_yld (Y_neq rfl rfl) rfl rfl rfl ?_
  refine L_nil ?_
  refine X_then ?_
  refine W_sub _ (.cons (i := 8) rfl (.cons (i := 3) rfl (.cons (i := 2) rfl (.cons (i := 0) rfl (.nil _))))) ?_
  refine W_splitd rfl (fun g => ?_) (fun g => ?_)
  · refine W_seq ?_
    refine W_region ?_
    refine L_yld (Y_assign rfl) rfl rfl rfl ?_
    refine L_yld (Y_assign rfl) rfl rfl rfl ?_
    refine L_nil ?_
    refine X_then ?_
    refine W_sub _ (.cons (i := 3) rfl (.cons (i := 2) rfl (.cons (i := 0) rfl (.nil _)))) ?_
    refine W_ret ?_
    refine X_then_ret ?_
    refine X_ret2 rfl rfl rfl ?_
    exact ⟨by unfold ssum serr; rw [if_neg (by omega), if_neg (by omega)], rfl⟩
  · refine W_skip ?_
    refine X_then ?_
    refine W_sub _ (.cons (i := 3) rfl (.cons (i := 2) rfl (.cons (i := 0) rfl (.nil _)))) ?_
    refine W_seq ?_
    refine W_region ?_
    refine L_yld (Y_assign rfl) rfl rfl rfl ?_
    refine L_nil ?_
    refine X_then ?_
    refine W_seq ?_
    refine W_seq ?_
    refine W_region ?_
    refine L_yld (Y_assign rfl) rfl rfl rfl ?_
    refine L_nil ?_
    refine X_then ?_
    refine W_block ?_
    refine W_loop (S := Nat) (fun i => [(3, .int .i64 0), (2, .int .i64 0), (0, v), (4, .int .i64 (csumN b i)), (5, .int .i64 ((i : Int)))]) (fun i h' => i ≤ 512 ∧ h' = h) (fun i => 512 - i) 0 (.cons (i := 3) rfl (.cons (i := 2) rfl (.cons (i := 0) rfl (.cons (i := 4) rfl (.cons (i := 5) rfl (.nil _)))))) ?_ ?_
    · exact ⟨Nat.zero_le _, rfl⟩
    rintro i h ⟨hi, rfl⟩
    show W _ _ _ _ _ [(3, .int .i64 0), (2, .int .i64 0), (0, v), (4, .int .i64 (csumN b i)), (5, .int .i64 ((i : Int)))] _
    refine W_seq ?_
    refine W_seq ?_
    refine W_region ?_
    refine L_yld (Y_move rfl) rfl rfl rfl ?_
    refine L_yld (Y_lss rfl rfl) rfl rfl rfl ?_
    refine L_nil ?_
    refine X_then ?_
    refine W_sub _ (.cons (i := 10) rfl (.cons (i := 3) rfl (.cons (i := 2) rfl (.cons (i := 0) rfl (.cons (i := 4) rfl (.cons (i := 5) rfl (.nil _))))))) ?_
    refine W_splitd rfl (fun hl => ?_) (fun hl => ?_)
    · refine W_skip ?_
      refine X_then ?_
      refine W_sub _ (.cons (i := 3) rfl (.cons (i := 2) rfl (.cons (i := 0) rfl (.cons (i := 4) rfl (.cons (i := 5) rfl (.nil _)))))) ?_
      have hcn := csumN_le b i
      have hbl := byt_lt b (i : Int).toNat
      have hstep : csumN b (i + 1) = csumN b i + (if 148 ≤ i ∧ i < 156 then 32 else byt b i) := rfl
      refine W_seq ?_
      refine W_block ?_
      refine W_cut (S := Unit) (fun _ => [(18, .bool (decide ((148 ≤ (i : Int)) ∧ ((i : Int) < 156)))), (3, .int .i64 0), (2, .int .i64 0), (0, v), (4, .int .i64 (csumN b i)), (5, .int .i64 ((i : Int)))]) (fun _ h' => h' = h) ?_ ?_
      · refine W_region ?_
        refine L_yld (Y_move rfl) rfl rfl rfl ?_
        refine L_yld (Y_geq rfl rfl) rfl rfl rfl ?_
        refine L_yld (Y_move rfl) rfl rfl rfl ?_
        refine L_splitd (d := 15) rfl (fun c1 => ?_) (fun c1 => ?_)
        · refine L_yld (Y_move rfl) rfl rfl rfl ?_
          refine L_yld (Y_lss rfl rfl) rfl rfl rfl ?_
          refine L_yld (Y_pick_t rfl rfl) rfl rfl rfl ?_
          refine L_nil ?_
          exact X_cut () (.cons (i := 18) (lkb rfl (by simp only [eq_true c1, true_and, and_true, false_and, and_false, true_or, or_true, false_or, or_false, not_true_eq_false, not_false_eq_true, decide_true, decide_false, Bool.true_eq_false, Bool.false_eq_true, eq_self, Bool.decide_eq_true])) (.cons (i := 3) rfl (.cons (i := 2) rfl (.cons (i := 0) rfl (.cons (i := 4) rfl (.cons (i := 5) rfl (.nil _))))))) rfl
        · refine L_skip rfl rfl rfl ?_
          refine L_skip rfl rfl rfl ?_
          refine L_yld (Y_pick_f rfl rfl) rfl rfl rfl ?_
          refine L_nil ?_
          exact X_cut () (.cons (i := 18) (lkb rfl (by simp only [eq_false c1, true_and, and_true, false_and, and_false, true_or, or_true, false_or, or_false, not_true_eq_false, not_false_eq_true, decide_true, decide_false, Bool.true_eq_false, Bool.false_eq_true, eq_self, Bool.decide_eq_true])) (.cons (i := 3) rfl (.cons (i := 2) rfl (.cons (i := 0) rfl (.cons (i := 4) rfl (.cons (i := 5) rfl (.nil _))))))) rfl
      rintro _ h rfl
      show W _ _ _ _ _ [(18, .bool (decide ((148 ≤ (i : Int)) ∧ ((i : Int) < 156)))), (3, .int .i64 0), (2, .int .i64 0), (0, v), (4, .int .i64 (csumN b i)), (5, .int .i64 ((i : Int)))] _
      refine W_splitd rfl (fun hs => ?_) (fun hs => ?_)
      · refine W_region ?_
        refine L_yld (Y_move rfl) rfl rfl rfl ?_
        refine L_yld (Y_add rfl rfl (by omega) (by omega)) rfl rfl rfl ?_
        refine L_yld (Y_assign rfl) rfl rfl rfl ?_
        refine L_nil ?_
        refine X_block ?_
        refine X_then ?_
        refine W_sub _ (.cons (i := 4) rfl (.cons (i := 3) rfl (.cons (i := 2) rfl (.cons (i := 0) rfl (.cons (i := 5) rfl (.nil _)))))) ?_
        refine W_region ?_
        refine L_yld (Y_move rfl) rfl rfl rfl ?_
        refine L_yld (Y_add rfl rfl (by omega) (by omega)) rfl rfl rfl ?_
        refine L_yld (Y_assign rfl) rfl rfl rfl ?_
        refine L_nil ?_
        refine X_loop (i + 1) (.cons (i := 3) rfl (.cons (i := 2) rfl (.cons (i := 0) rfl (.cons (i := 4) (lki rfl (by rw [hstep, if_pos (by omega)])) (.cons (i := 5) rfl (.nil _)))))) ?_ ?_
        · exact ⟨by omega, rfl⟩
        · (try dsimp only)
          omega
      · refine W_region ?_
        refine L_yld (Y_move rfl) rfl rfl rfl ?_
        refine L_yld (Y_move rfl) rfl rfl rfl ?_
        refine L_yld (Y_move rfl) rfl rfl rfl ?_
        refine L_yld (Y_idx Tryd.underlying24 (show _ = some 1 by kernel_rfl) rfl rfl hb (by omega) (by omega)) rfl rfl rfl ?_
        refine L_yld (Y_ldbyte Tryd.underlying5 rfl rfl hb (by omega) (by omega)) rfl rfl rfl ?_
        refine L_yld (Y_convs Tryd.underlying5 Tryd.underlying3 rfl (wrap_i64 (by omega) (by omega))) rfl rfl rfl ?_
        refine L_yld (Y_add rfl rfl (by omega) (by omega)) rfl rfl rfl ?_
        refine L_yld (Y_assign rfl) rfl rfl rfl ?_
        refine L_nil ?_
        refine X_block ?_
        refine X_then ?_
        refine W_sub _ (.cons (i := 4) rfl (.cons (i := 3) rfl (.cons (i := 2) rfl (.cons (i := 0) rfl (.cons (i := 5) rfl (.nil _)))))) ?_
        refine W_region ?_
        refine L_yld (Y_move rfl) rfl rfl rfl ?_
        refine L_yld (Y_add rfl rfl (by omega) (by omega)) rfl rfl rfl ?_
        refine L_yld (Y_assign rfl) rfl rfl rfl ?_
        refine L_nil ?_
        refine X_loop (i + 1) (.cons (i := 3) rfl (.cons (i := 2) rfl (.cons (i := 0) rfl (.cons (i := 4) (lki rfl (by rw [hstep, if_neg (by omega)]; rfl)) (.cons (i := 5) rfl (.nil _)))))) ?_ ?_
        · exact ⟨by omega, rfl⟩
        · (try dsimp only)
          omega
    · refine W_exit ?_
      refine X_then_exit ?_
      refine X_then_exit ?_
      refine X_block_hit ?_
      refine X_then ?_
      refine W_sub _ (.cons (i := 3) rfl (.cons (i := 2) rfl (.cons (i := 4) rfl (.nil _)))) ?_
      refine W_seq ?_
      refine W_region ?_
      refine L_yld (Y_move rfl) rfl rfl rfl ?_
      refine L_yld (Y_assign rfl) rfl rfl rfl ?_
      refine L_yld (Y_assign rfl) rfl rfl rfl ?_
      refine L_nil ?_
      refine X_then ?_
      refine W_sub _ (.cons (i := 3) rfl (.cons (i := 2) rfl (.nil _))) ?_
      refine W_ret ?_
      refine X_ret2 rfl rfl rfl ?_
      have hi5 : i = 512 := by omega
      subst hi5
      exact ⟨by unfold ssum serr; rw [if_pos (by omega), if_pos (by omega)], rfl⟩

set_option maxRecDepth 100000 in
theorem ref03_Seal (h : Heap) (v : Value) (b : List UInt8) (hb : Bytes h v b) : Cal Tryd.prog 20 #[v] h (fun v h' => ∃ s0, v = .tuple #[s0, .int .i64 (serr b)] ∧ Bytes h' s0 (sseal b) ∧ Ext h h') := by
  have hs1 := ssum_le b
  have hs2 := oct7_len b
  refine Cal_enter (args := [v]) Tryd.func20 rfl rfl rfl (fun σ => ?_)
  refine W_seq ?_
  refine W_region ?_
  refine L_yld (Y_assign rfl) rfl rfl rfl ?_
  refine L_yld (Y_assign rfl) rfl rfl rfl ?_
  refine L_nil ?_
  refine X_then ?_
  refine W_seq ?_
  refine W_region ?_
  refine L_yld (Y_move rfl) rfl rfl rfl ?_
  refine L_call (E_call (by kernel_rfl) rfl) (ref03_Sum _ v b hb) rfl rfl rfl ?_
  rintro _ h ⟨rfl, rfl⟩
  refine L_yld (Y_move rfl) rfl rfl rfl ?_
  refine L_yld (Y_extract (v := .int .i64 (ssum b)) rfl rfl) rfl rfl rfl ?_
  refine L_yld (Y_extract (v := .int .i64 (serr b)) rfl rfl) rfl rfl rfl ?_
  refine L_yld (Y_assign rfl) rfl rfl rfl ?_
  refine L_yld (Y_assign rfl) rfl rfl rfl ?_
  refine L_nil ?_
  refine X_then ?_
  refine W_sub _ (.cons (i := 5) rfl (.cons (i := 4) rfl (.cons (i := 3) rfl (.cons (i := 2) rfl (.cons (i := 0) rfl (.nil _)))))) ?_
  refine W_seq ?_
  refine W_seq ?_
  refine W_region ?_
  refine L_yld (Y_move rfl) rfl rfl rfl ?_
  refine L_yld (Y_neq rfl rfl) rfl rfl rfl ?_
  refine L_nil ?_
  refine X_then ?_
  refine W_sub _ (.cons (i := 15) rfl (.cons (i := 5) rfl (.cons (i := 4) rfl (.cons (i := 3) rfl (.cons (i := 2) rfl (.cons (i := 0) rfl (.nil _))))))) ?_
  refine W_splitd rfl (fun g => ?_) (fun g => ?_)
  · refine W_seq ?_
    refine W_region ?_
    refine L_yld (Y_move rfl) rfl rfl rfl ?_
    refine L_yld (Y_assign rfl) rfl rfl rfl ?_
    refine L_yld (Y_assign rfl) rfl rfl rfl ?_
    refine L_nil ?_
    refine X_then ?_
    refine W_sub _ (.cons (i := 3) rfl (.cons (i := 2) rfl (.cons (i := 4) rfl (.cons (i := 0) rfl (.nil _))))) ?_
    refine W_ret ?_
    refine X_then_ret ?_
    refine X_ret2 rfl rfl rfl ?_
    have hl : ¬ b.length = 512 := fun h9 => g (by unfold serr; rw [if_pos h9])
    refine ⟨_, rfl, ?_, (Ext.refl _)⟩
    unfold sseal
    rw [if_neg hl]
    exact Bytes.nil _
  · refine W_skip ?_
    refine X_then ?_
    refine W_sub _ (.cons (i := 4) rfl (.cons (i := 3) rfl (.cons (i := 2) rfl (.cons (i := 0) rfl (.nil _))))) ?_
    have hl : b.length = 512 := by apply Decidable.byContradiction; intro h9; apply g; unfold serr; rw [if_neg h9]; decide
    refine W_seq ?_
    refine W_region ?_
    refine L_yld (Y_move rfl) rfl rfl rfl ?_
    refine L_call (E_call (by kernel_rfl) rfl) (ref01_Format _ (ssum b) (7 : Int) (by first | omega | rfl | (simp <;> omega))) rfl rfl rfl ?_
    rintro _ h1 ⟨s01, rfl, hr02, hx3⟩
    refine L_yld (Y_move rfl) rfl rfl rfl ?_
    refine L_yld (Y_extract (v := s01) rfl rfl) rfl rfl rfl ?_
    refine L_yld (Y_extract (v := .int .i64 (oerr (ssum b) (7 : Int))) rfl rfl) rfl rfl rfl ?_
    refine L_yld (Y_assign rfl) rfl rfl rfl ?_
    refine L_yld (Y_assign rfl) rfl rfl rfl ?_
    refine L_nil ?_
    refine X_then ?_
    refine W_sub _ (.cons (i := 6) rfl (.cons (i := 3) rfl (.cons (i := 2) rfl (.cons (i := 0) rfl (.nil _))))) ?_
    refine W_seq ?_
    refine W_region ?_
    refine L_mks (M_litb (l := ([] : List UInt8)) (cells := []) (pv := []) (E := 5) (evp (is := []) (os := []) (vs := []) rfl rfl) rfl rfl (fun _ => by kernel_rfl)) rfl rfl rfl ?_
    rintro v4 h2 ⟨ho5, hx6⟩
    refine L_yld (Y_move rfl) rfl rfl rfl ?_
    have hb7 : Bytes h2 (slcut 1 0 (148 : Int).toNat v) (b.take 148) := Bytes.cuth (hb.ext (hx3.trans hx6)) (by omega) 
    refine L_yld (Y_cut_h Tryd.underlying24 (show _ = some 1 by kernel_rfl) rfl (hb.ext (hx3.trans hx6)) rfl (by omega) (by omega)) rfl rfl rfl ?_
    refine L_mks (M_appb Tryd.underlying24 (by unfold elemRow; kernel_rfl) rfl rfl ho5 hb7 hx6.size (by first | omega | (simp; omega))) rfl rfl rfl ?_
    rintro v8 h3 ha9
    refine L_yld (Y_assign rfl) rfl rfl rfl ?_
    refine L_nil ?_
    refine X_then ?_
    refine W_sub _ (.cons (i := 8) rfl (.cons (i := 6) rfl (.cons (i := 3) rfl (.cons (i := 2) rfl (.cons (i := 0) rfl (.nil _)))))) ?_
    refine W_seq ?_
    refine W_region ?_
    refine L_yld (Y_move rfl) rfl rfl rfl ?_
    refine L_yld (Y_move rfl) rfl rfl rfl ?_
    refine L_mks (M_appb Tryd.underlying24 (by unfold elemRow; kernel_rfl) rfl rfl ha9.own (hr02.ext (hx6.then' ha9.only ha9.ge (Nat.le_refl _))) (Nat.le_trans hx6.size ha9.only.size) (by first | omega | (simp; omega))) rfl rfl rfl ?_
    rintro v10 h4 ha11
    refine L_yld (Y_assign rfl) rfl rfl rfl ?_
    refine L_nil ?_
    refine X_then ?_
    refine W_sub _ (.cons (i := 8) rfl (.cons (i := 3) rfl (.cons (i := 2) rfl (.cons (i := 0) rfl (.nil _))))) ?_
    refine W_seq ?_
    refine W_region ?_
    refine L_yld (Y_move rfl) rfl rfl rfl ?_
    refine L_mks (M_litb (l := [32]) (cells := [.int .u8 32]) (pv := [(0, .int .u8 32)]) (E := 5) (evp (is := [0]) (os := [.const (.int .u8 32)]) (vs := [.int .u8 32]) rfl rfl) rfl rfl (fun _ => by kernel_rfl)) rfl rfl rfl ?_
    rintro v12 h5 ⟨ho13, hx14⟩
    refine L_mks (M_appb Tryd.underlying24 (by unfold elemRow; kernel_rfl) rfl rfl (ha11.own.ext hx14) ho13.bytes (Nat.le_trans (Nat.le_trans (Nat.le_trans hx6.size ha9.only.size) ha11.only.size) hx14.size) (by first | omega | (simp; omega))) rfl rfl rfl ?_
    rintro v15 h6 ha16
    refine L_yld (Y_assign rfl) rfl rfl rfl ?_
    refine L_nil ?_
    refine X_then ?_
    refine W_sub _ (.cons (i := 8) rfl (.cons (i := 3) rfl (.cons (i := 2) rfl (.cons (i := 0) rfl (.nil _))))) ?_
    refine W_seq ?_
    refine W_region ?_
    refine L_yld (Y_move rfl) rfl rfl rfl ?_
    refine L_yld (Y_move rfl) rfl rfl rfl ?_
    have hb17 : Bytes h6 (slcut 1 (156 : Int).toNat b.length v) (b.drop 156) := Bytes.cutl (hb.ext (((((hx3.trans hx6).then' ha9.only ha9.ge hx3.size).then' ha11.only ha11.ge hx3.size).trans hx14).then' ha16.only ha16.ge hx3.size)) (by omega) 
    refine L_yld (Y_cut_l Tryd.underlying24 (show _ = some 1 by kernel_rfl) rfl (hb.ext (((((hx3.trans hx6).then' ha9.only ha9.ge hx3.size).then' ha11.only ha11.ge hx3.size).trans hx14).then' ha16.only ha16.ge hx3.size)) rfl (by omega) (by omega)) rfl rfl rfl ?_
    refine L_mks (M_appb Tryd.underlying24 (by unfold elemRow; kernel_rfl) rfl rfl ha16.own hb17 (Nat.le_trans (Nat.le_trans (Nat.le_trans (Nat.le_trans hx6.size ha9.only.size) ha11.only.size) hx14.size) ha16.only.size) (by first | omega | (simp; omega))) rfl rfl rfl ?_
    rintro v18 h7 ha19
    refine L_yld (Y_assign rfl) rfl rfl rfl ?_
    refine L_yld (Y_assign rfl) rfl rfl rfl ?_
    refine L_nil ?_
    refine X_then ?_
    refine W_sub _ (.cons (i := 3) rfl (.cons (i := 2) rfl (.nil _))) ?_
    refine W_ret ?_
    refine X_ret2 rfl rfl rfl ?_
    have he : serr b = 0 := by unfold serr; rw [if_pos hl]
    refine ⟨_, by rw [he], ?_, ((((((hx3.trans hx6).then' ha9.only ha9.ge hx3.size).then' ha11.only ha11.ge hx3.size).trans hx14).then' ha16.only ha16.ge hx3.size).then' ha19.only ha19.ge hx3.size)⟩
    unfold sseal
    rw [if_pos hl]
    exact ha19.own.bytes

set_option maxRecDepth 100000 in
theorem ref03_Verify (h : Heap) (v : Value) (b : List UInt8) (hb : Bytes h v b) : Cal Tryd.prog 37 #[v] h (fun v h' => v = .int .i64 (sver b) ∧ Ext h h') := by
  refine Cal_enter (args := [v]) Tryd.func37 rfl rfl rfl (fun σ => ?_)
  refine W_seq ?_
  refine W_region ?_
  refine L_yld (Y_assign rfl) rfl rfl rfl ?_
  refine L_nil ?_
  refine X_then ?_
  refine W_seq ?_
  refine W_region ?_
  refine L_yld (Y_move rfl) rfl rfl rfl ?_
  refine L_call (E_call (by kernel_rfl) rfl) (ref03_Seal _ v b hb) rfl rfl rfl ?_
  rintro _ h1 ⟨s01, rfl, hr02, hx3⟩
  refine L_yld (Y_move rfl) rfl rfl rfl ?_
  refine L_yld (Y_extract (v := s01) rfl rfl) rfl rfl rfl ?_
  refine L_yld (Y_extract (v := .int .i64 (serr b)) rfl rfl) rfl rfl rfl ?_
  refine L_yld (Y_assign rfl) rfl rfl rfl ?_
  refine L_yld (Y_assign rfl) rfl rfl rfl ?_
  refine L_nil ?_
  refine X_then ?_
  refine W_sub _ (.cons (i := 4) rfl (.cons (i := 3) rfl (.cons (i := 2) rfl (.cons (i := 0) rfl (.nil _))))) ?_
  refine W_seq ?_
  refine W_seq ?_
  refine W_region ?_
  refine L_yld (Y_move rfl) rfl rfl rfl ?_
  refine L_yld (Y_neq rfl rfl) rfl rfl rfl ?_
  refine L_nil ?_
  refine X_then ?_
  refine W_sub _ (.cons (i := 11) rfl (.cons (i := 4) rfl (.cons (i := 3) rfl (.cons (i := 2) rfl (.cons (i := 0) rfl (.nil _)))))) ?_
  refine W_splitd rfl (fun g => ?_) (fun g => ?_)
  · refine W_seq ?_
    refine W_region ?_
    refine L_yld (Y_move rfl) rfl rfl rfl ?_
    refine L_yld (Y_assign rfl) rfl rfl rfl ?_
    refine L_nil ?_
    refine X_then ?_
    refine W_sub _ (.cons (i := 2) rfl (.cons (i := 3) rfl (.cons (i := 0) rfl (.nil _)))) ?_
    refine W_ret ?_
    refine X_then_ret ?_
    refine X_ret1 rfl rfl ?_
    have hl : ¬ b.length = 512 := fun h9 => g (by unfold serr; rw [if_pos h9])
    refine ⟨?_, hx3⟩
    unfold sver serr
    rw [if_neg hl, if_neg hl]
  · refine W_skip ?_
    refine X_then ?_
    refine W_sub _ (.cons (i := 3) rfl (.cons (i := 2) rfl (.cons (i := 0) rfl (.nil _)))) ?_
    have hl : b.length = 512 := by apply Decidable.byContradiction; intro h9; apply g; unfold serr; rw [if_neg h9]; decide
    refine W_seq ?_
    refine W_seq ?_
    refine W_region ?_
    refine L_yld (Y_move rfl) rfl rfl rfl ?_
    refine L_yld (Y_bytes_str Tryd.underlying24 Tryd.underlying5 Tryd.underlying9 rfl hr02) rfl rfl rfl ?_
    refine L_yld (Y_move rfl) rfl rfl rfl ?_
    refine L_yld (Y_bytes_str Tryd.underlying24 Tryd.underlying5 Tryd.underlying9 rfl (hb.ext hx3)) rfl rfl rfl ?_
    refine L_yld (Y_sneq rfl rfl) rfl rfl rfl ?_
    refine L_nil ?_
    refine X_then ?_
    refine W_sub _ (.cons (i := 17) rfl (.cons (i := 2) rfl (.nil _))) ?_
    refine W_splitd rfl (fun hq => ?_) (fun hq => ?_)
    · refine W_seq ?_
      refine W_region ?_
      refine L_yld (Y_assign rfl) rfl rfl rfl ?_
      refine L_nil ?_
      refine X_then ?_
      refine W_sub _ (.cons (i := 2) rfl (.nil _)) ?_
      refine W_ret ?_
      refine X_then_ret ?_
      refine X_ret1 rfl rfl ?_
      exact ⟨by unfold sver; rw [if_pos hl, if_neg hq], hx3⟩
    · refine W_skip ?_
      refine X_then ?_
      refine W_sub _ (.cons (i := 2) rfl (.nil _)) ?_
      refine W_seq ?_
      refine W_region ?_
      refine L_yld (Y_assign rfl) rfl rfl rfl ?_
      refine L_nil ?_
      refine X_then ?_
      refine W_ret ?_
      refine X_ret1 rfl rfl ?_
      exact ⟨by unfold sver; rw [if_pos hl, if_pos (Decidable.not_not.1 hq)], hx3⟩

end Go.Xp
