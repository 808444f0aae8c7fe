/- Layer 12 (entry): the decoder: what the code does. -/
import Derived.Test.YtdmhigknppkniaaGreatDoorPay
import Derived.Test.YtdmhigknppkniaaGreatDoorTail
import Derived.Test.YtdmhigknppkniaaGreatDoorDch
set_option linter.unusedSimpArgs false
set_option linter.unusedVariables false
set_option linter.unusedSectionVars false
set_option maxRecDepth 100000
namespace Go.Xp
open Go.Proofs

theorem xhd_of {b : List UInt8} (hq : udT b = 120 ∧ udN b = [112, 97, 120] ∧ udP b = [] ∧ udL b = [] ∧ udM b = 0) (s1 : ¬ udS b < 1) (s2 : ¬ 262144 < udS b) : xhd b := ⟨hq, by omega, by omega⟩
theorem dcr_x {D : List UInt8} {f : Int} {p : Nat} {b : List UInt8} (h : ¬ xhd b) : dcr D f p b = dz p 17 (p + 512) 0 := if_pos h
theorem dcr_p {D : List UInt8} {f : Int} {p : Nat} {b : List UInt8} (h : xhd b) (e : ¬ pE D f (p + 512) (dk b) = 0) : dcr D f p b = dz (pP D f (p + 512) (dk b)) (pE D f (p + 512) (dk b)) (pP D f (p + 512) (dk b)) (pR D f (p + 512) (dk b)) := by
  unfold dcr; rw [if_neg (fun q => q h), if_pos e]
theorem dcr_z {D : List UInt8} {f : Int} {p : Nat} {b : List UInt8} (h : xhd b) (e : pE D f (p + 512) (dk b) = 0) (n : 0 ≤ nzx ((dx D p b).drop (udS b).toNat)) : dcr D f p b = dz ((p : Int) + 512 + udS b + nzx ((dx D p b).drop (udS b).toNat)) 10 (dq p b) 0 := by
  unfold dcr; rw [if_neg (fun q => q h), if_neg (fun q => q e), if_pos n]
theorem dcr_l {D : List UInt8} {f : Int} {p : Nat} {b : List UInt8} (h : xhd b) (e : pE D f (p + 512) (dk b) = 0) (n : ¬ 0 ≤ nzx ((dx D p b).drop (udS b).toNat)) : dcr D f p b = dz ((p : Int) + 512 + (dl D p b).2.1) (dl D p b).2.2 (dq p b) 0 := by
  unfold dcr; rw [if_neg (fun q => q h), if_neg (fun q => q e), if_neg n]
  by_cases c : (dl D p b).2.2 = 0
  · rw [if_neg (fun q => q c), c]
  · rw [if_pos c]
theorem dec_records (h : Heap) (d : Nat) (lo hi r s : Nat) (D : List UInt8) (f : Int) (p : Nat) (uR : RdA lo hi h r s D f (p + 512) 0) (hd : Blk h d [.pointer (some ⟨r, 0, none⟩), .int .i64 (p : Int)]) (b : List UInt8) (hdh : hi ≤ d) (hl : D.length ≤ 100000000000) (hf : -9223372036854775808 ≤ f ∧ f ≤ 9223372036854775807) (hR0 : Heap) (xR0 : Ext hR0 h) (hlo : hR0.size ≤ lo) (hK : GlbK hR0) (hN : GlbN hR0) (hE : GlbE hR0) : Cal Tryz.prog 23 #[.pointer (some ⟨d, 0, none⟩), .agg #[.int .u8 (udT b), str (udN b), str (udP b), str (udL b), .int .i64 (udM b), .int .i64 (udS b)]] h (fun v h' => ∃ lv, v = .tuple #[lv, .int .i64 (dcr D f p b).e] ∧ Only [r, s, d] h h' ∧ Blk h' d [.pointer (some ⟨r, 0, none⟩), .int .i64 (dcr D f p b).n] ∧ RdA lo hi h' r s D f (dcr D f p b).pos (dcr D f p b).er ∧ ((dcr D f p b).e = 0 → RowsO recS h' h.size lv (dl D p b).1)) := by
 have hdn := uR.no hdh
 have ug : ∀ c ∈ [r, s], hR0.size ≤ c := fun c hc => nt hlo (uR.ge2 c hc)
 have hp := uR.src.le
 have hpc : ((p + 512 : Nat) : Int) = (p : Int) + 512 := by omega
 refine Ce Tryz.func23 fun σ => ?_
 refine Wr ?_
 refine L_mks (M_box rfl) rfl rfl rfl ?_
 rintro _ h1 ⟨rfl, hn1⟩
 have hk2 : Blk h1 h.size [.int .u8 (udT b), str (udN b), str (udP b), str (udL b), .int .i64 (udM b), .int .i64 (udS b)] := hn1.blk
 refine A2 ?_
 refine Ln (Xt (Wq (Wq ?_)))
 by_cases hq : udT b = 120 ∧ udN b = [112, 97, 120] ∧ udP b = [] ∧ udL b = [] ∧ udM b = 0
 ·by_cases s1 : udS b < 1
  ·refine W_pers [(5, .int .i64 0), (4, .slice none 0 0), (3, .pointer (some ⟨h.size, 0, none⟩)), (0, .pointer (some ⟨d, 0, none⟩))] (tk4 5 4 3 0) (by kernel_rfl) ?_
   refine LPc 0 (.agg #[.int .u8 (udT b), str (udN b), str (udP b), str (udL b), .int .i64 (udM b), .int .i64 (udS b)]) [] ?_ ?_
   ·intro h2 hx3
    exact Sy (Y_ldbox (us := [.int .u8 (udT b), str (udN b), str (udP b), str (udL b), .int .i64 (udM b), .int .i64 (udS b)]) Tryz.underlying71 rfl (show _ = some 6 by kernel_rfl) rfl (hk2.ext hx3) rfl)
   refine LPc 1 (.pointer (some ⟨h.size, 0 + 5, none⟩)) [] ?_ ?_
   ·intro h3 hx4
    exact Sf 5
   refine LPc 2 (.int .i64 (udS b)) [(1, 13)] ?_ ?_
   ·intro h4 hx5
    rintro _ rfl
    exact Sb Tryz.underlying2 (hk2.ext hx5)
   refine LPc 3 (.agg #[.int .u8 120, str [112, 97, 120], str [], str [], .int .i64 0, .int .i64 ((udS b))]) [(2, 14)] ?_ ?_
   ·intro h5 hx6
    rintro _ rfl
    refine Nn ?_
    refine Stp_call (E_call (by kernel_rfl) rfl) (entry_extended _ (udS b)) rfl ?_
    rintro _ h6 ⟨rfl, hx7⟩
    exact ⟨hx7, rfl⟩
   refine LPc 4 (.bool (decide (¬ ((udT b) = (120 : Int) ∧ (udN b) = [112, 97, 120] ∧ (udP b) = [] ∧ (udL b) = [] ∧ (udM b) = (0 : Int) ∧ (udS b) = (udS b))))) [(0, 12), (3, 15)] ?_ ?_
   ·intro h7 hx8
    rintro _ rfl
    rintro _ rfl
    exact Sy (Y_decneg (Y_stneq (xs := [.int .u8 (udT b), str (udN b), str (udP b), str (udL b), .int .i64 (udM b), .int .i64 (udS b)]) (ys := [.int .u8 120, str [112, 97, 120], str [], str [], .int .i64 0, .int .i64 ((udS b))]) (r := decide ((udT b) = (120 : Int) ∧ (udN b) = [112, 97, 120] ∧ (udP b) = [] ∧ (udL b) = [] ∧ (udM b) = (0 : Int) ∧ (udS b) = (udS b))) (by kernel_rfl) (by kernel_rfl) (by kernel_rfl) rfl rfl (steq (ks := [.i .u8, .s, .s, .s, .i .i64, .i .i64]) (by kernel_rfl) (by simp [eqks, eqk]))))
   refine LPc 5 (.bool false) [(4, 16)] ?_ ?_
   ·intro h8 hx9
    rintro _ rfl
    refine Nn ?_
    refine Stp_yld (Y_move rfl) rfl ?_
    exact (congrArg Value.bool (decide_eq_false (by obtain ⟨a1, a2, a3, a4, a5⟩ := hq; simp [a1, a2, a3, a4, a5]))).symm
   refine LPc 6 (.pointer (some ⟨h.size, 0 + 5, none⟩)) [(5, 17)] ?_ ?_
   ·intro h9 hx10
    rintro _ rfl
    exact Sf 5
   refine LPc 7 (.int .i64 (udS b)) [(5, 17), (6, 18)] ?_ ?_
   ·intro h10 hx11
    rintro _ rfl
    rintro _ rfl
    exact Sb Tryz.underlying2 (hk2.ext hx11)
   refine LPc 8 (.bool (decide ((udS b) < 1))) [(5, 17), (7, 19)] ?_ ?_
   ·intro h11 hx12
    rintro _ rfl
    rintro _ rfl
    exact Sy (Y_lss rfl rfl)
   refine LPc 9 (.bool (decide ((udS b) < 1))) [(5, 17), (8, 20)] ?_ ?_
   ·intro h12 hx13
    rintro _ rfl
    rintro _ rfl
    exact Sy (Y_pick_f rfl rfl)
   refine LPc 10 (.bool true) [(9, 21)] ?_ ?_
   ·intro h13 hx14
    rintro _ rfl
    refine Nn ?_
    refine Stp_yld (Y_move rfl) rfl ?_
    exact (congrArg Value.bool (decide_eq_true (by exact s1))).symm
   refine LPc 11 (undef) [(10, 22)] ?_ ?_
   ·intro h14 hx15
    rintro _ rfl
    refine Nn ?_
    refine Stp_skip rfl ?_
    exact rfl
   refine LPc 12 (undef) [(10, 22), (11, 23)] ?_ ?_
   ·intro h15 hx16
    rintro _ rfl
    rintro _ rfl
    refine Nn ?_
    refine Stp_skip rfl ?_
    exact rfl
   refine LPc 13 (undef) [(12, 24), (10, 22)] ?_ ?_
   ·intro h16 hx17
    rintro _ rfl
    rintro _ rfl
    refine Nn ?_
    refine Stp_skip rfl ?_
    exact rfl
   refine LPc 14 (.bool true) [(13, 25), (10, 22)] ?_ ?_
   ·intro h17 hx18
    rintro _ rfl
    rintro _ rfl
    exact Sy (Y_pick_t rfl rfl)
   refine LP_end [(14, 26)] rfl (by kernel_rfl) rfl ?_
   intro h18 hx19
   rintro _ rfl
   refine Nn ?_
   refine Xt ?_
   refine W_true rfl ?_
   refine Wa ?_
   refine Av ?_
   refine Ln (Xt (Wt (Xr ?_)))
   refine Xv2 ?_
   have hx := dcr_x (D := D) (f := f) (p := p) (b := b) (fun q => by have := q.2.1; omega)
   exact ⟨.slice none 0 0, by rw [hx]; rfl, (Only.trans (Only.trans (Only.refl _ _) hn1.ext (fun _ hb_ => by cases hb_)) hx19 (fun _ hb_ => by cases hb_)), by rw [hx]; exact (hd.ext (hn1.ext.trans hx19)), by rw [hx]; exact (uR.ext (hn1.ext.trans hx19)), fun q => by rw [hx] at q; cases q⟩
  by_cases s2 : 262144 < udS b
  ·refine W_pers [(5, .int .i64 0), (4, .slice none 0 0), (3, .pointer (some ⟨h.size, 0, none⟩)), (0, .pointer (some ⟨d, 0, none⟩))] (tk4 5 4 3 0) (by kernel_rfl) ?_
   refine LPc 0 (.agg #[.int .u8 (udT b), str (udN b), str (udP b), str (udL b), .int .i64 (udM b), .int .i64 (udS b)]) [] ?_ ?_
   ·intro h19 hx20
    exact Sy (Y_ldbox (us := [.int .u8 (udT b), str (udN b), str (udP b), str (udL b), .int .i64 (udM b), .int .i64 (udS b)]) Tryz.underlying71 rfl (show _ = some 6 by kernel_rfl) rfl (hk2.ext hx20) rfl)
   refine LPc 1 (.pointer (some ⟨h.size, 0 + 5, none⟩)) [] ?_ ?_
   ·intro h20 hx21
    exact Sf 5
   refine LPc 2 (.int .i64 (udS b)) [(1, 13)] ?_ ?_
   ·intro h21 hx22
    rintro _ rfl
    exact Sb Tryz.underlying2 (hk2.ext hx22)
   refine LPc 3 (.agg #[.int .u8 120, str [112, 97, 120], str [], str [], .int .i64 0, .int .i64 ((udS b))]) [(2, 14)] ?_ ?_
   ·intro h22 hx23
    rintro _ rfl
    refine Nn ?_
    refine Stp_call (E_call (by kernel_rfl) rfl) (entry_extended _ (udS b)) rfl ?_
    rintro _ h23 ⟨rfl, hx24⟩
    exact ⟨hx24, rfl⟩
   refine LPc 4 (.bool (decide (¬ ((udT b) = (120 : Int) ∧ (udN b) = [112, 97, 120] ∧ (udP b) = [] ∧ (udL b) = [] ∧ (udM b) = (0 : Int) ∧ (udS b) = (udS b))))) [(0, 12), (3, 15)] ?_ ?_
   ·intro h24 hx25
    rintro _ rfl
    rintro _ rfl
    exact Sy (Y_decneg (Y_stneq (xs := [.int .u8 (udT b), str (udN b), str (udP b), str (udL b), .int .i64 (udM b), .int .i64 (udS b)]) (ys := [.int .u8 120, str [112, 97, 120], str [], str [], .int .i64 0, .int .i64 ((udS b))]) (r := decide ((udT b) = (120 : Int) ∧ (udN b) = [112, 97, 120] ∧ (udP b) = [] ∧ (udL b) = [] ∧ (udM b) = (0 : Int) ∧ (udS b) = (udS b))) (by kernel_rfl) (by kernel_rfl) (by kernel_rfl) rfl rfl (steq (ks := [.i .u8, .s, .s, .s, .i .i64, .i .i64]) (by kernel_rfl) (by simp [eqks, eqk]))))
   refine LPc 5 (.bool false) [(4, 16)] ?_ ?_
   ·intro h25 hx26
    rintro _ rfl
    refine Nn ?_
    refine Stp_yld (Y_move rfl) rfl ?_
    exact (congrArg Value.bool (decide_eq_false (by obtain ⟨a1, a2, a3, a4, a5⟩ := hq; simp [a1, a2, a3, a4, a5]))).symm
   refine LPc 6 (.pointer (some ⟨h.size, 0 + 5, none⟩)) [(5, 17)] ?_ ?_
   ·intro h26 hx27
    rintro _ rfl
    exact Sf 5
   refine LPc 7 (.int .i64 (udS b)) [(5, 17), (6, 18)] ?_ ?_
   ·intro h27 hx28
    rintro _ rfl
    rintro _ rfl
    exact Sb Tryz.underlying2 (hk2.ext hx28)
   refine LPc 8 (.bool (decide ((udS b) < 1))) [(5, 17), (7, 19)] ?_ ?_
   ·intro h28 hx29
    rintro _ rfl
    rintro _ rfl
    exact Sy (Y_lss rfl rfl)
   refine LPc 9 (.bool (decide ((udS b) < 1))) [(5, 17), (8, 20)] ?_ ?_
   ·intro h29 hx30
    rintro _ rfl
    rintro _ rfl
    exact Sy (Y_pick_f rfl rfl)
   refine LPc 10 (.bool false) [(9, 21)] ?_ ?_
   ·intro h30 hx31
    rintro _ rfl
    refine Nn ?_
    refine Stp_yld (Y_move rfl) rfl ?_
    exact (congrArg Value.bool (decide_eq_false (by exact s1))).symm
   refine LPc 11 (.pointer (some ⟨h.size, 0 + 5, none⟩)) [(10, 22)] ?_ ?_
   ·intro h31 hx32
    rintro _ rfl
    exact Sf 5
   refine LPc 12 (.int .i64 (udS b)) [(10, 22), (11, 23)] ?_ ?_
   ·intro h32 hx33
    rintro _ rfl
    rintro _ rfl
    exact Sb Tryz.underlying2 (hk2.ext hx33)
   refine LPc 13 (.bool (decide (262144 < (udS b)))) [(12, 24), (10, 22)] ?_ ?_
   ·intro h33 hx34
    rintro _ rfl
    rintro _ rfl
    exact Sy (Y_gtr rfl rfl)
   refine LPc 14 (.bool (decide (262144 < (udS b)))) [(13, 25), (10, 22)] ?_ ?_
   ·intro h34 hx35
    rintro _ rfl
    rintro _ rfl
    exact Sy (Y_pick_f rfl rfl)
   refine LP_end [(14, 26)] rfl (by kernel_rfl) rfl ?_
   intro h35 hx36
   rintro _ rfl
   refine Nn ?_
   refine Xt ?_
   refine W_known true rfl (by exact decide_eq_true (by exact s2)) ?_
   refine Wa ?_
   refine Av ?_
   refine Ln (Xt (Wt (Xr ?_)))
   refine Xv2 ?_
   have hx := dcr_x (D := D) (f := f) (p := p) (b := b) (fun q => by have := q.2.2; omega)
   exact ⟨.slice none 0 0, by rw [hx]; rfl, (Only.trans (Only.trans (Only.refl _ _) hn1.ext (fun _ hb_ => by cases hb_)) hx36 (fun _ hb_ => by cases hb_)), by rw [hx]; exact (hd.ext (hn1.ext.trans hx36)), by rw [hx]; exact (uR.ext (hn1.ext.trans hx36)), fun q => by rw [hx] at q; cases q⟩
  refine W_pers [(5, .int .i64 0), (4, .slice none 0 0), (3, .pointer (some ⟨h.size, 0, none⟩)), (0, .pointer (some ⟨d, 0, none⟩))] (tk4 5 4 3 0) (by kernel_rfl) ?_
  refine LPc 0 (.agg #[.int .u8 (udT b), str (udN b), str (udP b), str (udL b), .int .i64 (udM b), .int .i64 (udS b)]) [] ?_ ?_
  ·intro h36 hx37
   exact Sy (Y_ldbox (us := [.int .u8 (udT b), str (udN b), str (udP b), str (udL b), .int .i64 (udM b), .int .i64 (udS b)]) Tryz.underlying71 rfl (show _ = some 6 by kernel_rfl) rfl (hk2.ext hx37) rfl)
  refine LPc 1 (.pointer (some ⟨h.size, 0 + 5, none⟩)) [] ?_ ?_
  ·intro h37 hx38
   exact Sf 5
  refine LPc 2 (.int .i64 (udS b)) [(1, 13)] ?_ ?_
  ·intro h38 hx39
   rintro _ rfl
   exact Sb Tryz.underlying2 (hk2.ext hx39)
  refine LPc 3 (.agg #[.int .u8 120, str [112, 97, 120], str [], str [], .int .i64 0, .int .i64 ((udS b))]) [(2, 14)] ?_ ?_
  ·intro h39 hx40
   rintro _ rfl
   refine Nn ?_
   refine Stp_call (E_call (by kernel_rfl) rfl) (entry_extended _ (udS b)) rfl ?_
   rintro _ h40 ⟨rfl, hx41⟩
   exact ⟨hx41, rfl⟩
  refine LPc 4 (.bool (decide (¬ ((udT b) = (120 : Int) ∧ (udN b) = [112, 97, 120] ∧ (udP b) = [] ∧ (udL b) = [] ∧ (udM b) = (0 : Int) ∧ (udS b) = (udS b))))) [(0, 12), (3, 15)] ?_ ?_
  ·intro h41 hx42
   rintro _ rfl
   rintro _ rfl
   exact Sy (Y_decneg (Y_stneq (xs := [.int .u8 (udT b), str (udN b), str (udP b), str (udL b), .int .i64 (udM b), .int .i64 (udS b)]) (ys := [.int .u8 120, str [112, 97, 120], str [], str [], .int .i64 0, .int .i64 ((udS b))]) (r := decide ((udT b) = (120 : Int) ∧ (udN b) = [112, 97, 120] ∧ (udP b) = [] ∧ (udL b) = [] ∧ (udM b) = (0 : Int) ∧ (udS b) = (udS b))) (by kernel_rfl) (by kernel_rfl) (by kernel_rfl) rfl rfl (steq (ks := [.i .u8, .s, .s, .s, .i .i64, .i .i64]) (by kernel_rfl) (by simp [eqks, eqk]))))
  refine LPc 5 (.bool false) [(4, 16)] ?_ ?_
  ·intro h42 hx43
   rintro _ rfl
   refine Nn ?_
   refine Stp_yld (Y_move rfl) rfl ?_
   exact (congrArg Value.bool (decide_eq_false (by obtain ⟨a1, a2, a3, a4, a5⟩ := hq; simp [a1, a2, a3, a4, a5]))).symm
  refine LPc 6 (.pointer (some ⟨h.size, 0 + 5, none⟩)) [(5, 17)] ?_ ?_
  ·intro h43 hx44
   rintro _ rfl
   exact Sf 5
  refine LPc 7 (.int .i64 (udS b)) [(5, 17), (6, 18)] ?_ ?_
  ·intro h44 hx45
   rintro _ rfl
   rintro _ rfl
   exact Sb Tryz.underlying2 (hk2.ext hx45)
  refine LPc 8 (.bool (decide ((udS b) < 1))) [(5, 17), (7, 19)] ?_ ?_
  ·intro h45 hx46
   rintro _ rfl
   rintro _ rfl
   exact Sy (Y_lss rfl rfl)
  refine LPc 9 (.bool (decide ((udS b) < 1))) [(5, 17), (8, 20)] ?_ ?_
  ·intro h46 hx47
   rintro _ rfl
   rintro _ rfl
   exact Sy (Y_pick_f rfl rfl)
  refine LPc 10 (.bool false) [(9, 21)] ?_ ?_
  ·intro h47 hx48
   rintro _ rfl
   refine Nn ?_
   refine Stp_yld (Y_move rfl) rfl ?_
   exact (congrArg Value.bool (decide_eq_false (by exact s1))).symm
  refine LPc 11 (.pointer (some ⟨h.size, 0 + 5, none⟩)) [(10, 22)] ?_ ?_
  ·intro h48 hx49
   rintro _ rfl
   exact Sf 5
  refine LPc 12 (.int .i64 (udS b)) [(10, 22), (11, 23)] ?_ ?_
  ·intro h49 hx50
   rintro _ rfl
   rintro _ rfl
   exact Sb Tryz.underlying2 (hk2.ext hx50)
  refine LPc 13 (.bool (decide (262144 < (udS b)))) [(12, 24), (10, 22)] ?_ ?_
  ·intro h50 hx51
   rintro _ rfl
   rintro _ rfl
   exact Sy (Y_gtr rfl rfl)
  refine LPc 14 (.bool (decide (262144 < (udS b)))) [(13, 25), (10, 22)] ?_ ?_
  ·intro h51 hx52
   rintro _ rfl
   rintro _ rfl
   exact Sy (Y_pick_f rfl rfl)
  refine LP_end [(14, 26)] rfl (by kernel_rfl) rfl ?_
  intro h52 hx53
  rintro _ rfl
  refine Nn ?_
  refine Xt ?_
  refine W_known false rfl (by exact decide_eq_false (by exact s2)) ?_
  refine Wk (Xt (Wq (Wg ?_)))
  refine Mv ?_
  refine Ly (Y_nilCheck rfl) ?_
  refine Lf 0 ?_
  refine Lb Tryz.underlying27 (hd.ext (hn1.ext.trans hx53)) ?_
  refine Lc (rd_Off (uR.ext (hn1.ext.trans hx53))) ?_
  rintro _ h53 ⟨rfl, ux1⟩
  refine An ?_
  refine Wu _ (tk5 6 5 4 3 0) ?_
  refine Wq ?_
  by_cases pe : pE D f (p + 512) (dk b) = 0
  ·by_cases z0 : 0 ≤ nzx ((dx D p b).drop (udS b).toNat)
   ·refine W_pers [(6, .int .i64 (((p + 512 : Nat) : Int))), (5, .int .i64 0), (4, .slice none 0 0), (3, .pointer (some ⟨h.size, 0, none⟩)), (0, .pointer (some ⟨d, 0, none⟩))] (tk5 6 5 4 3 0) (by kernel_rfl) ?_
    refine LPc 0 (.pointer (some ⟨d, 0, none⟩)) [] ?_ ?_
    ·intro h54 hx54
     exact Sm
    refine LPc 1 (.pointer (some ⟨d, 0, none⟩)) [(0, 33)] ?_ ?_
    ·intro h55 hx55
     rintro _ rfl
     exact Sy (Y_nilCheck rfl)
    refine LPc 2 (.pointer (some ⟨d, 0 + 0, none⟩)) [(1, 34)] ?_ ?_
    ·intro h56 hx56
     rintro _ rfl
     exact Sf 0
    refine LPc 3 (.pointer (some ⟨r, 0, none⟩)) [(2, 35)] ?_ ?_
    ·intro h57 hx57
     rintro _ rfl
     exact Sb Tryz.underlying27 (hd.ext (((hn1.ext.trans hx53).trans ux1).trans hx57))
    refine LPc 4 (.pointer (some ⟨h.size, 0 + 5, none⟩)) [] ?_ ?_
    ·intro h58 hx58
     exact Sf 5
    refine LPc 5 (.int .i64 (udS b)) [(4, 37)] ?_ ?_
    ·intro h59 hx59
     rintro _ rfl
     exact Sb Tryz.underlying2 (hk2.ext ((hx53.trans ux1).trans hx59))
    refine LP_mid 6 [(3, 36), (5, 38)] rfl rfl (by kernel_rfl) (by kernel_rfl) rfl ?_
    intro h60 hx60
    rintro _ rfl
    rintro _ rfl
    refine Nn ?_
    refine LT_call (E_call (by kernel_rfl) rfl) (pay_Z (uR.ext (((hn1.ext.trans hx53).trans ux1).trans hx60)) hl hf (by omega) pe z0) rfl rfl rfl (by kernel_rfl) ?_
    rintro _ h61 ⟨rfl, uy, uRx⟩
    refine LM_op 7 (fun _ vv => .tuple #[.slice none 0 0, .int .i64 ((((p + 512 : Nat) : Int) + udS b + nzx ((dx D p b).drop (udS b).toNat))), .int .i64 10] = vv) [(6, 39)] rfl rfl rfl (by kernel_rfl) (fun _ _ _ _ p => p) ?_ ?_
    ·intro h62 hx61
     rintro _ rfl
     exact Sm
    refine LM_op 8 (fun _ vv => .slice none 0 0 = vv) [(7, 32)] rfl rfl rfl (by kernel_rfl) (fun _ _ _ _ p => p) ?_ ?_
    ·intro h63 hx62
     rintro _ rfl
     exact Sy (Y_extract (v := .slice none 0 0) rfl rfl)
    refine LM_op 9 (fun _ vv => .int .i64 ((((p + 512 : Nat) : Int) + udS b + nzx ((dx D p b).drop (udS b).toNat))) = vv) [(7, 32)] rfl rfl rfl (by kernel_rfl) (fun _ _ _ _ p => p) ?_ ?_
    ·intro h64 hx63
     rintro _ rfl
     exact Sy (Y_extract (v := .int .i64 ((((p + 512 : Nat) : Int) + udS b + nzx ((dx D p b).drop (udS b).toNat)))) rfl rfl)
    refine LM_op 10 (fun _ vv => .int .i64 10 = vv) [(7, 32)] rfl rfl rfl (by kernel_rfl) (fun _ _ _ _ p => p) ?_ ?_
    ·intro h65 hx64
     rintro _ rfl
     exact Sy (Y_extract (v := .int .i64 10) rfl rfl)
    refine LM_op 11 (fun _ vv => .slice none 0 0 = vv) [(8, 40)] rfl rfl rfl (by kernel_rfl) (fun _ _ _ _ p => p) ?_ ?_
    ·intro h66 hx65
     rintro _ rfl
     exact Sy (Y_assign rfl)
    refine LM_op 12 (fun _ vv => .int .i64 ((((p + 512 : Nat) : Int) + udS b + nzx ((dx D p b).drop (udS b).toNat))) = vv) [(9, 41)] rfl rfl rfl (by kernel_rfl) (fun _ _ _ _ p => p) ?_ ?_
    ·intro h67 hx66
     rintro _ rfl
     exact Sy (Y_assign rfl)
    refine LM_op 13 (fun _ vv => .int .i64 10 = vv) [(10, 42)] rfl rfl rfl (by kernel_rfl) (fun _ _ _ _ p => p) ?_ ?_
    ·intro h68 hx67
     rintro _ rfl
     exact Sy (Y_assign rfl)
    refine LM_end [(11, 7), (12, 8), (13, 9)] rfl rfl (by kernel_rfl) rfl ?_
    intro h69 hx68
    rintro _ rfl
    rintro _ rfl
    rintro _ rfl
    refine Nn ?_
    refine Xt (Wq (Wq (Wg ?_)))
    refine Mv ?_
    refine Ly Yne ?_
    refine Nx ?_
    refine W_known true rfl (by first | rfl | decide | simp) ?_
    refine Wm ?_
    refine Mv ?_
    refine Ly (Y_nilCheck rfl) ?_
    refine Lf 1 ?_
    have hc69 := ((((((hd.ext hn1.ext).ext hx53).ext ux1).ext hx60).only uy hdn).ext hx68)
    refine Lds [.int .i64 ((((p + 512 : Nat) : Int) + udS b + nzx ((dx D p b).drop (udS b).toNat)))] hc69 ?_
    rintro h70 hp70
    have hk71 : Blk h70 d [.pointer (some ⟨r, 0, none⟩), .int .i64 ((((p + 512 : Nat) : Int) + udS b + nzx ((dx D p b).drop (udS b).toNat)))] := hp70.blk
    refine Nx ?_
    refine Wu _ (tk6 9 7 6 5 4 0) ?_
    refine Wm ?_
    refine A2 ?_
    refine Ln (Xt (Wt (Xr ?_)))
    refine Xv2 ?_
    have hx := dcr_z (xhd_of hq s1 s2) pe z0
    exact ⟨.slice none 0 0, by rw [hx]; rfl, (Only.trans (Only.trans (Only.trans (Only.trans (Only.trans (Only.trans (Only.trans (Only.refl _ _) hn1.ext (fun _ hb_ => by cases hb_)) hx53 (fun _ hb_ => by cases hb_)) ux1 (fun _ hb_ => by cases hb_)) hx60 (fun _ hb_ => by cases hb_)) uy (fun b_ hb_ => .inl (by simp only [List.mem_cons, List.not_mem_nil, or_false] at hb_ ⊢; omega))) hx68 (fun _ hb_ => by cases hb_)) hp70.only (fun b_ hb_ => .inl (by rw [List.mem_singleton.1 hb_]; simp))), by rw [hx]; have q9 := hk71; rw [hpc] at q9; exact q9, by rw [hx]; exact RdA.out (uRx.ext hx68) hp70.only (fun c hc => .inr (by rw [List.mem_singleton.1 hc]; exact hdh)), fun q => by rw [hx] at q; cases q⟩
   refine W_pers [(6, .int .i64 (((p + 512 : Nat) : Int))), (5, .int .i64 0), (4, .slice none 0 0), (3, .pointer (some ⟨h.size, 0, none⟩)), (0, .pointer (some ⟨d, 0, none⟩))] (tk5 6 5 4 3 0) (by kernel_rfl) ?_
   refine LPc 0 (.pointer (some ⟨d, 0, none⟩)) [] ?_ ?_
   ·intro h71 hx72
    exact Sm
   refine LPc 1 (.pointer (some ⟨d, 0, none⟩)) [(0, 33)] ?_ ?_
   ·intro h72 hx73
    rintro _ rfl
    exact Sy (Y_nilCheck rfl)
   refine LPc 2 (.pointer (some ⟨d, 0 + 0, none⟩)) [(1, 34)] ?_ ?_
   ·intro h73 hx74
    rintro _ rfl
    exact Sf 0
   refine LPc 3 (.pointer (some ⟨r, 0, none⟩)) [(2, 35)] ?_ ?_
   ·intro h74 hx75
    rintro _ rfl
    exact Sb Tryz.underlying27 (hd.ext (((hn1.ext.trans hx53).trans ux1).trans hx75))
   refine LPc 4 (.pointer (some ⟨h.size, 0 + 5, none⟩)) [] ?_ ?_
   ·intro h75 hx76
    exact Sf 5
   refine LPc 5 (.int .i64 (udS b)) [(4, 37)] ?_ ?_
   ·intro h76 hx77
    rintro _ rfl
    exact Sb Tryz.underlying2 (hk2.ext ((hx53.trans ux1).trans hx77))
   refine LP_mid 6 [(3, 36), (5, 38)] rfl rfl (by kernel_rfl) (by kernel_rfl) rfl ?_
   intro h77 hx78
   rintro _ rfl
   rintro _ rfl
   refine Nn ?_
   refine LT_call (E_call (by kernel_rfl) rfl) (pay_Y (uR.ext (((hn1.ext.trans hx53).trans ux1).trans hx78)) hl hf (by omega) pe z0) rfl rfl rfl (by kernel_rfl) ?_
   rintro _ h78 ⟨uvb, rfl, uLb, uy, uRx⟩
   refine LM_op 7 (fun _ vv => .tuple #[uvb, .int .i64 (((p + 512 + 512 * dk b : Nat) : Int)), .int .i64 0] = vv) [(6, 39)] rfl rfl rfl (by kernel_rfl) (fun _ _ _ _ p => p) ?_ ?_
   ·intro h79 hx79
    rintro _ rfl
    exact Sm
   refine LM_op 8 (fun _ vv => uvb = vv) [(7, 32)] rfl rfl rfl (by kernel_rfl) (fun _ _ _ _ p => p) ?_ ?_
   ·intro h80 hx80
    rintro _ rfl
    exact Sy (Y_extract (v := uvb) rfl rfl)
   refine LM_op 9 (fun _ vv => .int .i64 (((p + 512 + 512 * dk b : Nat) : Int)) = vv) [(7, 32)] rfl rfl rfl (by kernel_rfl) (fun _ _ _ _ p => p) ?_ ?_
   ·intro h81 hx81
    rintro _ rfl
    exact Sy (Y_extract (v := .int .i64 (((p + 512 + 512 * dk b : Nat) : Int))) rfl rfl)
   refine LM_op 10 (fun _ vv => .int .i64 0 = vv) [(7, 32)] rfl rfl rfl (by kernel_rfl) (fun _ _ _ _ p => p) ?_ ?_
   ·intro h82 hx82
    rintro _ rfl
    exact Sy (Y_extract (v := .int .i64 0) rfl rfl)
   refine LM_op 11 (fun _ vv => uvb = vv) [(8, 40)] rfl rfl rfl (by kernel_rfl) (fun _ _ _ _ p => p) ?_ ?_
   ·intro h83 hx83
    rintro _ rfl
    exact Sy (Y_assign rfl)
   refine LM_op 12 (fun _ vv => .int .i64 (((p + 512 + 512 * dk b : Nat) : Int)) = vv) [(9, 41)] rfl rfl rfl (by kernel_rfl) (fun _ _ _ _ p => p) ?_ ?_
   ·intro h84 hx84
    rintro _ rfl
    exact Sy (Y_assign rfl)
   refine LM_op 13 (fun _ vv => .int .i64 0 = vv) [(10, 42)] rfl rfl rfl (by kernel_rfl) (fun _ _ _ _ p => p) ?_ ?_
   ·intro h85 hx85
    rintro _ rfl
    exact Sy (Y_assign rfl)
   refine LM_end [(11, 7), (12, 8), (13, 9)] rfl rfl (by kernel_rfl) rfl ?_
   intro h86 hx86
   rintro _ rfl
   rintro _ rfl
   rintro _ rfl
   refine Nn ?_
   refine Xt (Wq (Wq (Wg ?_)))
   refine Mv ?_
   refine Ly Yne ?_
   refine Nx ?_
   refine W_known false rfl (by first | rfl | decide | simp) ?_
   refine Ws ?_
   have hk9 := nblk_rng (z := udS b) (by omega)
   have hlb : ((dx D p b).take (udS b).toNat).length ≤ 262144 := by rw [List.length_take]; omega
   have hpa := (pres_at ((dx D p b).take (udS b).toNat)).1
   have hc87 := ((((((hd.ext hn1.ext).ext hx53).ext ux1).ext hx78).only uy hdn).ext hx86)
   have hdl := Blk.lt hc87
   refine Wm ?_
   have me1 := ((((xR0.trans hn1.ext).trans hx53).trans ux1).trans hx78).then' uy ug (Nat.le_refl _)
   refine Lc (rec_Parse _ (hK.ext (me1.trans hx86)) (hN.ext (me1.trans hx86)) (hE.ext (me1.trans hx86)) uvb ((dx D p b).take (udS b).toNat) (uLb.ext hx86) (by omega)) ?_
   rintro _ h87 ⟨s088, rfl, hr089, hx90⟩
   refine Mx ?_
   refine Lx ?_
   refine A2 ?_
   refine An ?_
   refine Wu _ (tk7 9 11 10 6 5 4 0) ?_
   have uvo := hr089
   refine Wm ?_
   refine M2 ?_
   refine Lad ?_
   refine Ly (Y_nilCheck rfl) ?_
   refine Lf 1 ?_
   refine Lds [.int .i64 (((p + 512 : Nat) : Int) + ((pres ((dx D p b).take (udS b).toNat)).2.1))] (hc87.ext hx90) ?_
   rintro h88 hp91
   have hk92 : Blk h88 d [.pointer (some ⟨r, 0, none⟩), .int .i64 (((p + 512 : Nat) : Int) + ((pres ((dx D p b).take (udS b).toNat)).2.1))] := hp91.blk
   refine Nx ?_
   refine Wu _ (tk4 9 10 5 4) ?_
   refine Wm ?_
   refine Mv ?_
   refine A2 ?_
   refine Ln (Xt (Wt ?_))
   refine Xv2 ?_
   have hx := dcr_l (xhd_of hq s1 s2) pe z0
   have me2 := nt (nt (nt (nt hn1.ext.size hx53.size) ux1.size) hx78.size) uy.size
   exact ⟨_, by rw [hx]; rfl, (Only.trans (Only.trans (Only.trans (Only.trans (Only.trans (Only.trans (Only.trans (Only.trans (Only.refl _ _) hn1.ext (fun _ hb_ => by cases hb_)) hx53 (fun _ hb_ => by cases hb_)) ux1 (fun _ hb_ => by cases hb_)) hx78 (fun _ hb_ => by cases hb_)) uy (fun b_ hb_ => .inl (by simp only [List.mem_cons, List.not_mem_nil, or_false] at hb_ ⊢; omega))) hx86 (fun _ hb_ => by cases hb_)) hx90 (fun _ hb_ => by cases hb_)) hp91.only (fun b_ hb_ => .inl (by rw [List.mem_singleton.1 hb_]; simp))), by rw [hx]; have q9 := hk92; rw [hpc] at q9; exact q9, by rw [hx]; exact RdA.out (uRx.ext (hx86.trans hx90)) hp91.only (fun c hc => .inr (by rw [List.mem_singleton.1 hc]; exact hdh)), fun q => (RowsO.only1 uvo nsRec hp91.only hdl).low (nt me2 hx86.size)⟩
  refine W_pers [(6, .int .i64 (((p + 512 : Nat) : Int))), (5, .int .i64 0), (4, .slice none 0 0), (3, .pointer (some ⟨h.size, 0, none⟩)), (0, .pointer (some ⟨d, 0, none⟩))] (tk5 6 5 4 3 0) (by kernel_rfl) ?_
  refine LPc 0 (.pointer (some ⟨d, 0, none⟩)) [] ?_ ?_
  ·intro h89 hx93
   exact Sm
  refine LPc 1 (.pointer (some ⟨d, 0, none⟩)) [(0, 33)] ?_ ?_
  ·intro h90 hx94
   rintro _ rfl
   exact Sy (Y_nilCheck rfl)
  refine LPc 2 (.pointer (some ⟨d, 0 + 0, none⟩)) [(1, 34)] ?_ ?_
  ·intro h91 hx95
   rintro _ rfl
   exact Sf 0
  refine LPc 3 (.pointer (some ⟨r, 0, none⟩)) [(2, 35)] ?_ ?_
  ·intro h92 hx96
   rintro _ rfl
   exact Sb Tryz.underlying27 (hd.ext (((hn1.ext.trans hx53).trans ux1).trans hx96))
  refine LPc 4 (.pointer (some ⟨h.size, 0 + 5, none⟩)) [] ?_ ?_
  ·intro h93 hx97
   exact Sf 5
  refine LPc 5 (.int .i64 (udS b)) [(4, 37)] ?_ ?_
  ·intro h94 hx98
   rintro _ rfl
   exact Sb Tryz.underlying2 (hk2.ext ((hx53.trans ux1).trans hx98))
  refine LP_mid 6 [(3, 36), (5, 38)] rfl rfl (by kernel_rfl) (by kernel_rfl) rfl ?_
  intro h95 hx99
  rintro _ rfl
  rintro _ rfl
  refine Nn ?_
  refine LT_call (E_call (by kernel_rfl) rfl) (pay_N (uR.ext (((hn1.ext.trans hx53).trans ux1).trans hx99)) hl hf (by omega) pe) rfl rfl rfl (by kernel_rfl) ?_
  rintro _ h96 ⟨rfl, uy, uRx⟩
  refine LM_op 7 (fun _ vv => .tuple #[.slice none 0 0, .int .i64 ((pP D f (p + 512) (dk b) : Int)), .int .i64 ((pE D f (p + 512) (dk b)))] = vv) [(6, 39)] rfl rfl rfl (by kernel_rfl) (fun _ _ _ _ p => p) ?_ ?_
  ·intro h97 hx100
   rintro _ rfl
   exact Sm
  refine LM_op 8 (fun _ vv => .slice none 0 0 = vv) [(7, 32)] rfl rfl rfl (by kernel_rfl) (fun _ _ _ _ p => p) ?_ ?_
  ·intro h98 hx101
   rintro _ rfl
   exact Sy (Y_extract (v := .slice none 0 0) rfl rfl)
  refine LM_op 9 (fun _ vv => .int .i64 ((pP D f (p + 512) (dk b) : Int)) = vv) [(7, 32)] rfl rfl rfl (by kernel_rfl) (fun _ _ _ _ p => p) ?_ ?_
  ·intro h99 hx102
   rintro _ rfl
   exact Sy (Y_extract (v := .int .i64 ((pP D f (p + 512) (dk b) : Int))) rfl rfl)
  refine LM_op 10 (fun _ vv => .int .i64 ((pE D f (p + 512) (dk b))) = vv) [(7, 32)] rfl rfl rfl (by kernel_rfl) (fun _ _ _ _ p => p) ?_ ?_
  ·intro h100 hx103
   rintro _ rfl
   exact Sy (Y_extract (v := .int .i64 ((pE D f (p + 512) (dk b)))) rfl rfl)
  refine LM_op 11 (fun _ vv => .slice none 0 0 = vv) [(8, 40)] rfl rfl rfl (by kernel_rfl) (fun _ _ _ _ p => p) ?_ ?_
  ·intro h101 hx104
   rintro _ rfl
   exact Sy (Y_assign rfl)
  refine LM_op 12 (fun _ vv => .int .i64 ((pP D f (p + 512) (dk b) : Int)) = vv) [(9, 41)] rfl rfl rfl (by kernel_rfl) (fun _ _ _ _ p => p) ?_ ?_
  ·intro h102 hx105
   rintro _ rfl
   exact Sy (Y_assign rfl)
  refine LM_op 13 (fun _ vv => .int .i64 ((pE D f (p + 512) (dk b))) = vv) [(10, 42)] rfl rfl rfl (by kernel_rfl) (fun _ _ _ _ p => p) ?_ ?_
  ·intro h103 hx106
   rintro _ rfl
   exact Sy (Y_assign rfl)
  refine LM_end [(11, 7), (12, 8), (13, 9)] rfl rfl (by kernel_rfl) rfl ?_
  intro h104 hx107
  rintro _ rfl
  rintro _ rfl
  rintro _ rfl
  refine Nn ?_
  refine Xt (Wq (Wq (Wg ?_)))
  refine Mv ?_
  refine Ly Yne ?_
  refine Nx ?_
  refine W_known true rfl (by exact decide_eq_true (by exact pe)) ?_
  refine Wm ?_
  refine Mv ?_
  refine Ly (Y_nilCheck rfl) ?_
  refine Lf 1 ?_
  have hc108 := ((((((hd.ext hn1.ext).ext hx53).ext ux1).ext hx99).only uy hdn).ext hx107)
  refine Lds [.int .i64 ((pP D f (p + 512) (dk b) : Int))] hc108 ?_
  rintro h105 hp109
  have hk110 : Blk h105 d [.pointer (some ⟨r, 0, none⟩), .int .i64 ((pP D f (p + 512) (dk b) : Int))] := hp109.blk
  refine Nx ?_
  refine Wu _ (tk6 9 7 6 5 4 0) ?_
  refine Wm ?_
  refine A2 ?_
  refine Ln (Xt (Wt (Xr ?_)))
  refine Xv2 ?_
  have hx := dcr_p (xhd_of hq s1 s2) pe
  exact ⟨.slice none 0 0, by rw [hx]; rfl, (Only.trans (Only.trans (Only.trans (Only.trans (Only.trans (Only.trans (Only.trans (Only.refl _ _) hn1.ext (fun _ hb_ => by cases hb_)) hx53 (fun _ hb_ => by cases hb_)) ux1 (fun _ hb_ => by cases hb_)) hx99 (fun _ hb_ => by cases hb_)) uy (fun b_ hb_ => .inl (by simp only [List.mem_cons, List.not_mem_nil, or_false] at hb_ ⊢; omega))) hx107 (fun _ hb_ => by cases hb_)) hp109.only (fun b_ hb_ => .inl (by rw [List.mem_singleton.1 hb_]; simp))), by rw [hx]; exact hk110, by rw [hx]; exact RdA.out (uRx.ext hx107) hp109.only (fun c hc => .inr (by rw [List.mem_singleton.1 hc]; exact hdh)), fun q => by rw [hx] at q; exact absurd q pe⟩
 refine W_pers [(5, .int .i64 0), (4, .slice none 0 0), (3, .pointer (some ⟨h.size, 0, none⟩)), (0, .pointer (some ⟨d, 0, none⟩))] (tk4 5 4 3 0) (by kernel_rfl) ?_
 refine LPc 0 (.agg #[.int .u8 (udT b), str (udN b), str (udP b), str (udL b), .int .i64 (udM b), .int .i64 (udS b)]) [] ?_ ?_
 ·intro h106 hx111
  exact Sy (Y_ldbox (us := [.int .u8 (udT b), str (udN b), str (udP b), str (udL b), .int .i64 (udM b), .int .i64 (udS b)]) Tryz.underlying71 rfl (show _ = some 6 by kernel_rfl) rfl (hk2.ext hx111) rfl)
 refine LPc 1 (.pointer (some ⟨h.size, 0 + 5, none⟩)) [] ?_ ?_
 ·intro h107 hx112
  exact Sf 5
 refine LPc 2 (.int .i64 (udS b)) [(1, 13)] ?_ ?_
 ·intro h108 hx113
  rintro _ rfl
  exact Sb Tryz.underlying2 (hk2.ext hx113)
 refine LPc 3 (.agg #[.int .u8 120, str [112, 97, 120], str [], str [], .int .i64 0, .int .i64 ((udS b))]) [(2, 14)] ?_ ?_
 ·intro h109 hx114
  rintro _ rfl
  refine Nn ?_
  refine Stp_call (E_call (by kernel_rfl) rfl) (entry_extended _ (udS b)) rfl ?_
  rintro _ h110 ⟨rfl, hx115⟩
  exact ⟨hx115, rfl⟩
 refine LPc 4 (.bool (decide (¬ ((udT b) = (120 : Int) ∧ (udN b) = [112, 97, 120] ∧ (udP b) = [] ∧ (udL b) = [] ∧ (udM b) = (0 : Int) ∧ (udS b) = (udS b))))) [(0, 12), (3, 15)] ?_ ?_
 ·intro h111 hx116
  rintro _ rfl
  rintro _ rfl
  exact Sy (Y_decneg (Y_stneq (xs := [.int .u8 (udT b), str (udN b), str (udP b), str (udL b), .int .i64 (udM b), .int .i64 (udS b)]) (ys := [.int .u8 120, str [112, 97, 120], str [], str [], .int .i64 0, .int .i64 ((udS b))]) (r := decide ((udT b) = (120 : Int) ∧ (udN b) = [112, 97, 120] ∧ (udP b) = [] ∧ (udL b) = [] ∧ (udM b) = (0 : Int) ∧ (udS b) = (udS b))) (by kernel_rfl) (by kernel_rfl) (by kernel_rfl) rfl rfl (steq (ks := [.i .u8, .s, .s, .s, .i .i64, .i .i64]) (by kernel_rfl) (by simp [eqks, eqk]))))
 refine LPc 5 (.bool true) [(4, 16)] ?_ ?_
 ·intro h112 hx117
  rintro _ rfl
  refine Nn ?_
  refine Stp_yld (Y_move rfl) rfl ?_
  exact (congrArg Value.bool (decide_eq_true (by exact fun q => hq ⟨q.1, q.2.1, q.2.2.1, q.2.2.2.1, q.2.2.2.2.1⟩))).symm
 refine LPc 6 (undef) [(5, 17)] ?_ ?_
 ·intro h113 hx118
  rintro _ rfl
  refine Nn ?_
  refine Stp_skip rfl ?_
  exact rfl
 refine LPc 7 (undef) [(5, 17), (6, 18)] ?_ ?_
 ·intro h114 hx119
  rintro _ rfl
  rintro _ rfl
  refine Nn ?_
  refine Stp_skip rfl ?_
  exact rfl
 refine LPc 8 (undef) [(5, 17), (7, 19)] ?_ ?_
 ·intro h115 hx120
  rintro _ rfl
  rintro _ rfl
  refine Nn ?_
  refine Stp_skip rfl ?_
  exact rfl
 refine LPc 9 (.bool true) [(5, 17), (8, 20)] ?_ ?_
 ·intro h116 hx121
  rintro _ rfl
  rintro _ rfl
  exact Sy (Y_pick_t rfl rfl)
 refine LPc 10 (.bool true) [(9, 21)] ?_ ?_
 ·intro h117 hx122
  rintro _ rfl
  exact Sm
 refine LPc 11 (undef) [(10, 22)] ?_ ?_
 ·intro h118 hx123
  rintro _ rfl
  refine Nn ?_
  refine Stp_skip rfl ?_
  exact rfl
 refine LPc 12 (undef) [(10, 22), (11, 23)] ?_ ?_
 ·intro h119 hx124
  rintro _ rfl
  rintro _ rfl
  refine Nn ?_
  refine Stp_skip rfl ?_
  exact rfl
 refine LPc 13 (undef) [(12, 24), (10, 22)] ?_ ?_
 ·intro h120 hx125
  rintro _ rfl
  rintro _ rfl
  refine Nn ?_
  refine Stp_skip rfl ?_
  exact rfl
 refine LPc 14 (.bool true) [(13, 25), (10, 22)] ?_ ?_
 ·intro h121 hx126
  rintro _ rfl
  rintro _ rfl
  exact Sy (Y_pick_t rfl rfl)
 refine LP_end [(14, 26)] rfl (by kernel_rfl) rfl ?_
 intro h122 hx127
 rintro _ rfl
 refine Nn ?_
 refine Xt ?_
 refine W_true rfl ?_
 refine Wa ?_
 refine Av ?_
 refine Ln (Xt (Wt (Xr ?_)))
 refine Xv2 ?_
 have hx := dcr_x (D := D) (f := f) (p := p) (b := b) (fun q => hq q.1)
 exact ⟨.slice none 0 0, by rw [hx]; rfl, (Only.trans (Only.trans (Only.refl _ _) hn1.ext (fun _ hb_ => by cases hb_)) hx127 (fun _ hb_ => by cases hb_)), by rw [hx]; exact (hd.ext (hn1.ext.trans hx127)), by rw [hx]; exact (uR.ext (hn1.ext.trans hx127)), fun q => by rw [hx] at q; cases q⟩
end Go.Xp
