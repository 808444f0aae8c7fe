/- Layer 7: the laws UstarFields and UstarLimits. -/
import Derived.Test.YtlkkefiffjiliaaDoorUstLaw

set_option linter.unusedSimpArgs false
set_option linter.unusedVariables false
namespace Go.Xp
open Go.Proofs

theorem byt_mid {A M C : List UInt8} {a i : Nat} (hA : A.length = a) (h1 : a ≤ i) (h2 : i < a + M.length) : byt (A ++ (M ++ C)) i = byt M (i - a) := by
  unfold byt
  congr 2
  simp only [List.getD_eq_getElem?_getD]
  rw [List.getElem?_append_right (by omega), List.getElem?_append_left (by omega), hA]
theorem sseal_byt {b : List UInt8} (hb : b.length = 512) {i : Nat} (hi : i < 512) (hn : ¬ (148 ≤ i ∧ i < 156)) : byt (sseal b) i = byt b i := by
  have hs : sseal b = b.take 148 ++ octf (ssum b) 7 ++ [32] ++ b.drop 156 := by unfold sseal; rw [if_pos hb]
  have h7 := oct7_len b
  rw [hs]
  unfold byt
  congr 2
  simp only [List.getD_eq_getElem?_getD]
  congr 1
  by_cases h1 : i < 148
  · rw [List.append_assoc, List.append_assoc, List.getElem?_append_left (by simp [hb]; omega), List.getElem?_take, if_pos h1]
  · rw [List.getElem?_append_right (by simp [hb, h7]; omega), List.getElem?_drop]
    congr 1
    simp [hb, h7]; omega
section
variable {t : Int} {name pre link : List UInt8} {mode size : Int}
theorem ulens (h : ucheck t name pre link mode size = 0) : (cfmt name 100).length = 100 ∧ (cfmt link 100).length = 100 ∧ (cfmt pre 155).length = 155 ∧ (octf mode 8).length = 8 ∧ (octf size 12).length = 12 := by
  obtain ⟨-, c1, c2, c3, hm, hs⟩ := ucheck_ok h
  exact ⟨cf_len (w := 100) c1, cf_len (w := 100) c2, cf_len (w := 155) c3, of_len (w := 8) (oerr_mode hm) (by decide), of_len (w := 12) (oerr_size hs) (by decide)⟩
theorem oz8 : (octf 0 8).length = 8 := by decide
theorem oz12 : (octf 0 12).length = 12 := by decide
theorem cz32 : (cfmt [] 32).length = 32 := by decide +kernel
theorem cz12 : (cfmt [] 12).length = 12 := by decide +kernel
/-- What the block holds outside of the checksum. -/
theorem uenc_byt (h : ucheck t name pre link mode size = 0) {i : Nat} (hi : i < 512) (hn : ¬ (148 ≤ i ∧ i < 156)) : byt (uenc t name pre link mode size) i = byt (ubody t name pre link mode size) i := by
  unfold uenc; rw [if_pos h]; exact sseal_byt (ubody_len h) hi hn
theorem ub_mid (A M C : List UInt8) {a i : Nat} (hb : ubody t name pre link mode size = A ++ (M ++ C)) (hA : A.length = a) (h1 : a ≤ i) (h2 : i < a + M.length) : byt (ubody t name pre link mode size) i = byt M (i - a) := by
  rw [hb]; exact byt_mid hA h1 h2
theorem ub_108 (h : ucheck t name pre link mode size = 0) {i : Nat} (h1 : 108 ≤ i) (h2 : i < 124) : byt (ubody t name pre link mode size) i = byt (octf 0 8 ++ octf 0 8) (i - 108) := by
  obtain ⟨k1, k2, k3, k4, k5⟩ := ulens h
  exact ub_mid (cfmt name 100 ++ octf mode 8) _ (octf size 12 ++ octf 0 12 ++ [32, 32, 32, 32, 32, 32, 32, 32] ++ [t.toNat.toUInt8] ++ cfmt link 100 ++ [117, 115, 116, 97, 114, 0, 48, 48] ++ cfmt [] 32 ++ cfmt [] 32 ++ octf 0 8 ++ octf 0 8 ++ cfmt pre 155 ++ cfmt [] 12) (by unfold ubody; simp only [List.append_assoc]) (by rw [List.length_append, k1, k4]) h1 (by rw [List.length_append, oz8]; omega)
theorem ub_136 (h : ucheck t name pre link mode size = 0) {i : Nat} (h1 : 136 ≤ i) (h2 : i < 148) : byt (ubody t name pre link mode size) i = byt (octf 0 12) (i - 136) := by
  obtain ⟨k1, k2, k3, k4, k5⟩ := ulens h
  exact ub_mid (cfmt name 100 ++ octf mode 8 ++ octf 0 8 ++ octf 0 8 ++ octf size 12) _ ([32, 32, 32, 32, 32, 32, 32, 32] ++ [t.toNat.toUInt8] ++ cfmt link 100 ++ [117, 115, 116, 97, 114, 0, 48, 48] ++ cfmt [] 32 ++ cfmt [] 32 ++ octf 0 8 ++ octf 0 8 ++ cfmt pre 155 ++ cfmt [] 12) (by unfold ubody; simp only [List.append_assoc]) (by simp only [List.length_append, k1, k4, oz8, k5]) h1 (by rw [oz12]; omega)
theorem ub_156 (h : ucheck t name pre link mode size = 0) : byt (ubody t name pre link mode size) 156 = byt [t.toNat.toUInt8] 0 := by
  obtain ⟨k1, k2, k3, k4, k5⟩ := ulens h
  exact ub_mid (i := 156) (cfmt name 100 ++ octf mode 8 ++ octf 0 8 ++ octf 0 8 ++ octf size 12 ++ octf 0 12 ++ [32, 32, 32, 32, 32, 32, 32, 32]) _ (cfmt link 100 ++ [117, 115, 116, 97, 114, 0, 48, 48] ++ cfmt [] 32 ++ cfmt [] 32 ++ octf 0 8 ++ octf 0 8 ++ cfmt pre 155 ++ cfmt [] 12) (by unfold ubody; simp only [List.append_assoc]) (a := 156) (by simp only [List.length_append, k1, k4, oz8, k5, oz12, List.length_cons, List.length_nil]) (Nat.le_refl _) (by simp only [List.length_cons, List.length_nil]; omega)
theorem ub_257 (h : ucheck t name pre link mode size = 0) {i : Nat} (h1 : 257 ≤ i) (h2 : i < 345) : byt (ubody t name pre link mode size) i = byt ([117, 115, 116, 97, 114, 0, 48, 48] ++ cfmt [] 32 ++ cfmt [] 32 ++ octf 0 8 ++ octf 0 8) (i - 257) := by
  obtain ⟨k1, k2, k3, k4, k5⟩ := ulens h
  exact ub_mid (cfmt name 100 ++ octf mode 8 ++ octf 0 8 ++ octf 0 8 ++ octf size 12 ++ octf 0 12 ++ [32, 32, 32, 32, 32, 32, 32, 32] ++ [t.toNat.toUInt8] ++ cfmt link 100) _ (cfmt pre 155 ++ cfmt [] 12) (by unfold ubody; simp only [List.append_assoc]) (by simp only [List.length_append, k1, k2, k4, oz8, k5, oz12, List.length_cons, List.length_nil]) h1 (by simp only [List.length_append, oz8, cz32, List.length_cons, List.length_nil]; omega)
theorem ub_500 (h : ucheck t name pre link mode size = 0) {i : Nat} (h1 : 500 ≤ i) (h2 : i < 512) : byt (ubody t name pre link mode size) i = byt (cfmt [] 12) (i - 500) := by
  obtain ⟨k1, k2, k3, k4, k5⟩ := ulens h
  exact ub_mid (cfmt name 100 ++ octf mode 8 ++ octf 0 8 ++ octf 0 8 ++ octf size 12 ++ octf 0 12 ++ [32, 32, 32, 32, 32, 32, 32, 32] ++ [t.toNat.toUInt8] ++ cfmt link 100 ++ [117, 115, 116, 97, 114, 0, 48, 48] ++ cfmt [] 32 ++ cfmt [] 32 ++ octf 0 8 ++ octf 0 8 ++ cfmt pre 155) _ [] (by unfold ubody; simp only [List.append_assoc, List.append_nil]) (by simp only [List.length_append, k1, k2, k3, k4, oz8, k5, oz12, cz32, List.length_cons, List.length_nil]) h1 (by rw [cz12]; omega)
end
theorem uenc_same {t t' : Int} {name pre link name' pre' link' : List UInt8} {mode size mode' size' : Int} (h : ucheck t name pre link mode size = 0) (h' : ucheck t' name' pre' link' mode' size' = 0) {i : Nat} (hi : i < 512)
    (hv : ¬ (i < 108 ∨ (124 ≤ i ∧ i < 136) ∨ (148 ≤ i ∧ i < 257) ∨ (345 ≤ i ∧ i < 500))) : byt (uenc t name pre link mode size) i = byt (uenc t' name' pre' link' mode' size') i := by
  rw [uenc_byt h hi (by omega), uenc_byt h' hi (by omega)]
  by_cases a1 : i < 124
  · rw [ub_108 h (by omega) a1, ub_108 h' (by omega) a1]
  · by_cases a2 : i < 148
    · rw [ub_136 h (by omega) a2, ub_136 h' (by omega) a2]
    · by_cases a3 : i < 345
      · rw [ub_257 h (by omega) a3, ub_257 h' (by omega) a3]
      · rw [ub_500 h (by omega) (by omega), ub_500 h' (by omega) (by omega)]
/-- A part of the block. -/
theorem sub_ext {b F s : List UInt8} {a : Nat} (hb : ∀ i, i < s.length → byt b (a + i) = byt s i) (hl : a + s.length ≤ b.length) : (b.take (a + s.length)).drop a = s := by
  apply byt_ext
  · simp; omega
  · intro k hk
    have hk' : k < s.length := by simp at hk; omega
    rw [← hb k hk', byt_eq hk, byt_eq (by omega)]
    simp
theorem cf_byt {s : List UInt8} {w : Nat} (h : cerr s (w : Int) = 0) {i : Nat} (hi : i < s.length) : byt (cfmt s (w : Int)) i = byt s i := by
  rw [← cf_ok h]
  unfold byt
  congr 2
  simp only [List.getD_eq_getElem?_getD]
  rw [List.getElem?_append_left hi]
theorem uf_name {t : Int} {name pre link : List UInt8} {mode size : Int} (h : ucheck t name pre link mode size = 0) : (uenc t name pre link mode size).take name.length = name := by
  obtain ⟨-, c1, c2, c3, hm, hs⟩ := ucheck_ok h
  have hn := cf_le (w := 100) c1
  obtain ⟨k1, k2, k3, k4, k5⟩ := ulens h
  have := sub_ext (F := []) (b := uenc t name pre link mode size) (s := name) (a := 0) (fun i hi => by
    rw [Nat.zero_add, uenc_byt h (by omega) (by omega)]
    rw [ub_mid (i := i) (a := 0) [] (cfmt name 100) (octf mode 8 ++ octf 0 8 ++ octf 0 8 ++ octf size 12 ++ octf 0 12 ++ [32, 32, 32, 32, 32, 32, 32, 32] ++ [t.toNat.toUInt8] ++ cfmt link 100 ++ [117, 115, 116, 97, 114, 0, 48, 48] ++ cfmt [] 32 ++ cfmt [] 32 ++ octf 0 8 ++ octf 0 8 ++ cfmt pre 155 ++ cfmt [] 12) (by unfold ubody; simp only [List.append_assoc, List.nil_append]) rfl (by omega) (by omega)]
    exact cf_byt (w := 100) c1 hi) (by rw [uenc_len h]; omega)
  simpa using this
theorem uf_link {t : Int} {name pre link : List UInt8} {mode size : Int} (h : ucheck t name pre link mode size = 0) : ((uenc t name pre link mode size).take (157 + link.length)).drop 157 = link := by
  obtain ⟨-, c1, c2, c3, hm, hs⟩ := ucheck_ok h
  have hn := cf_le (w := 100) c2
  obtain ⟨k1, k2, k3, k4, k5⟩ := ulens h
  refine sub_ext (F := []) (fun i hi => ?_) (by rw [uenc_len h]; omega)
  rw [uenc_byt h (by omega) (by omega)]
  rw [ub_mid (i := 157 + i) (a := 157) (cfmt name 100 ++ octf mode 8 ++ octf 0 8 ++ octf 0 8 ++ octf size 12 ++ octf 0 12 ++ [32, 32, 32, 32, 32, 32, 32, 32] ++ [t.toNat.toUInt8]) (cfmt link 100) ([117, 115, 116, 97, 114, 0, 48, 48] ++ cfmt [] 32 ++ cfmt [] 32 ++ octf 0 8 ++ octf 0 8 ++ cfmt pre 155 ++ cfmt [] 12) (by unfold ubody; simp only [List.append_assoc]) (by simp only [List.length_append, k1, k4, oz8, k5, oz12, List.length_cons, List.length_nil]) (by omega) (by omega), Nat.add_sub_cancel_left]
  exact cf_byt (w := 100) c2 hi
theorem uf_pre {t : Int} {name pre link : List UInt8} {mode size : Int} (h : ucheck t name pre link mode size = 0) : ((uenc t name pre link mode size).take (345 + pre.length)).drop 345 = pre := by
  obtain ⟨-, c1, c2, c3, hm, hs⟩ := ucheck_ok h
  have hn := cf_le (w := 155) c3
  obtain ⟨k1, k2, k3, k4, k5⟩ := ulens h
  refine sub_ext (F := []) (fun i hi => ?_) (by rw [uenc_len h]; omega)
  rw [uenc_byt h (by omega) (by omega)]
  rw [ub_mid (i := 345 + i) (a := 345) (cfmt name 100 ++ octf mode 8 ++ octf 0 8 ++ octf 0 8 ++ octf size 12 ++ octf 0 12 ++ [32, 32, 32, 32, 32, 32, 32, 32] ++ [t.toNat.toUInt8] ++ cfmt link 100 ++ [117, 115, 116, 97, 114, 0, 48, 48] ++ cfmt [] 32 ++ cfmt [] 32 ++ octf 0 8 ++ octf 0 8) (cfmt pre 155) (cfmt [] 12) (by unfold ubody; simp only [List.append_assoc]) (by simp only [List.length_append, k1, k2, k4, oz8, k5, oz12, cz32, List.length_cons, List.length_nil]) (by omega) (by omega), Nat.add_sub_cancel_left]
  exact cf_byt (w := 155) c3 hi
theorem uf_type {t : Int} {name pre link : List UInt8} {mode size : Int} (ht : 0 ≤ t ∧ t ≤ 255) (h : ucheck t name pre link mode size = 0) : byt (uenc t name pre link mode size) 156 = t := by
  rw [uenc_byt h (by decide) (by omega), ub_156 h]
  show ((t.toNat.toUInt8).toNat : Int) = t
  have : t.toNat < 256 := by omega
  rw [show (t.toNat.toUInt8).toNat = t.toNat % 256 from rfl, Nat.mod_eq_of_lt this]
  omega
theorem other_c : ucheck 48 [] [] [] 0 0 = 0 := by decide +kernel

set_option maxRecDepth 100000 in
theorem law07_Fields (h : Heap) (hG : Glb h) (t : Int) (name : List UInt8) (pre : List UInt8) (link : List UInt8) (mode : Int) (size : Int) (ht : 0 ≤ t ∧ t ≤ 255) (h1 : name.length ≤ 140737488355328) (h2 : pre.length ≤ 140737488355328) (h3 : link.length ≤ 140737488355328) (hm : -9223372036854775808 ≤ mode ∧ mode ≤ 9223372036854775807) (hz : -9223372036854775808 ≤ size ∧ size ≤ 9223372036854775807) : Cal Tryd.prog 4 #[.agg #[.int .u8 (t), str name, str pre, str link, .int .i64 (mode), .int .i64 (size)]] h (fun v h' => v = .bool true ∧ Ext h h') := by
  refine Cal_enter (args := [.agg #[.int .u8 (t), str name, str pre, str link, .int .i64 (mode), .int .i64 (size)]]) Tryd.func4 rfl rfl rfl (fun σ => ?_)
  refine W_seq ?_
  refine W_region ?_
  refine L_mks (M_box rfl) rfl rfl rfl ?_
  rintro _ h1 ⟨rfl, hn1⟩
  have hk2 : Blk h1 h.size [.int .u8 (t), str name, str pre, str link, .int .i64 (mode), .int .i64 (size)] := hn1.blk
  refine L_yld (Y_assign rfl) rfl rfl rfl ?_
  refine L_nil ?_
  refine X_then ?_
  refine W_sub _ (.cons (i := 2) rfl (.cons (i := 1) rfl (.nil _))) ?_
  refine W_seq ?_
  refine W_region ?_
  refine L_yld (Y_ldbox (us := [.int .u8 (t), str name, str pre, str link, .int .i64 (mode), .int .i64 (size)]) Tryd.underlying23 rfl (show _ = some 6 by kernel_rfl) rfl hk2 rfl) rfl rfl rfl ?_
  refine L_call (E_call (by kernel_rfl) rfl) (ustar_Encode _ (hG.ext hn1.ext) t name pre link mode size (by first | omega | rfl | (simp <;> omega))) rfl rfl rfl ?_
  rintro _ h2 ⟨s03, rfl, hr04, hx5⟩
  refine L_yld (Y_move rfl) rfl rfl rfl ?_
  refine L_yld (Y_extract (v := s03) rfl rfl) rfl rfl rfl ?_
  refine L_yld (Y_extract (v := .int .i64 (ucheck t name pre link mode size)) rfl rfl) rfl rfl rfl ?_
  refine L_yld (Y_assign rfl) rfl rfl rfl ?_
  refine L_yld (Y_assign rfl) rfl rfl rfl ?_
  refine L_nil ?_
  refine X_then ?_
  refine W_sub _ (.cons (i := 4) rfl (.cons (i := 3) rfl (.cons (i := 2) rfl (.cons (i := 1) rfl (.nil _))))) ?_
  refine W_seq ?_
  refine W_cut (S := Unit) (fun _ => [(22, .bool (decide ((2000 < (name.length : Int) + (pre.length : Int) + (link.length : Int)) ∨ (¬ (ucheck t name pre link mode size) = 0)))), (3, s03), (2, .bool false), (1, .pointer (some ⟨h.size, 0, none⟩))]) (fun _ h' => Ext h2 h') ?_ ?_
  · refine W_region ?_
    refine L_yld (Y_ldbox (us := [.int .u8 (t), str name, str pre, str link, .int .i64 (mode), .int .i64 (size)]) Tryd.underlying23 rfl (show _ = some 6 by kernel_rfl) rfl (hk2.ext hx5) rfl) rfl rfl rfl ?_
    refine L_call (E_call (by kernel_rfl) rfl) (law07_tooLarge _ t name pre link mode size (by first | omega | rfl | (simp <;> omega)) (by first | omega | rfl | (simp <;> omega)) (by first | omega | rfl | (simp <;> omega))) rfl rfl rfl ?_
    rintro _ h3 ⟨rfl, hx6⟩
    refine L_yld (Y_move rfl) rfl rfl rfl ?_
    refine L_splitd (d := 19) rfl (fun c7 => ?_) (fun c7 => ?_)
    · refine L_skip rfl rfl rfl ?_
      refine L_skip rfl rfl rfl ?_
      refine L_yld (Y_pick_t rfl rfl) rfl rfl rfl ?_
      refine L_nil ?_
      exact X_cut () (.cons (i := 22) (lkb rfl (by simp only [eq_true c7, true_and, and_true, false_and, and_false, true_or, or_true, false_or, or_false, not_true_eq_false, not_false_eq_true, decide_true, decide_false, Bool.true_eq_false, Bool.false_eq_true, eq_self, Bool.decide_eq_true])) (.cons (i := 3) rfl (.cons (i := 2) rfl (.cons (i := 1) rfl (.nil _))))) hx6
    · refine L_yld (Y_move rfl) rfl rfl rfl ?_
      refine L_yld (Y_neq rfl rfl) rfl rfl rfl ?_
      refine L_yld (Y_pick_f rfl rfl) rfl rfl rfl ?_
      refine L_nil ?_
      exact X_cut () (.cons (i := 22) (lkb rfl (by simp only [eq_false c7, true_and, and_true, false_and, and_false, true_or, or_true, false_or, or_false, not_true_eq_false, not_false_eq_true, decide_true, decide_false, Bool.true_eq_false, Bool.false_eq_true, eq_self, Bool.decide_eq_true])) (.cons (i := 3) rfl (.cons (i := 2) rfl (.cons (i := 1) rfl (.nil _))))) hx6
  rintro _ h4 hx8
  show W _ _ _ _ _ [(22, .bool (decide ((2000 < (name.length : Int) + (pre.length : Int) + (link.length : Int)) ∨ (¬ (ucheck t name pre link mode size) = 0)))), (3, s03), (2, .bool false), (1, .pointer (some ⟨h.size, 0, none⟩))] _
  refine W_splitd rfl (fun g => ?_) (fun g => ?_)
  · refine W_seq ?_
    refine W_region ?_
    refine L_call (E_call (by kernel_rfl) rfl) (law07_alive _ (hG.ext ((hn1.ext.trans hx5).trans hx8))) rfl rfl rfl ?_
    rintro _ h5 ⟨rfl, hx9⟩
    refine L_yld (Y_assign rfl) rfl rfl rfl ?_
    refine L_nil ?_
    refine X_then ?_
    refine W_sub _ (.cons (i := 2) rfl (.cons (i := 3) rfl (.cons (i := 1) rfl (.nil _)))) ?_
    refine W_ret ?_
    refine X_then_ret ?_
    refine X_ret1 rfl rfl ?_
    exact ⟨by simp, (((hn1.ext.trans hx5).trans hx8).trans hx9)⟩
  · refine W_skip ?_
    refine X_then ?_
    refine W_sub _ (.cons (i := 3) rfl (.cons (i := 2) rfl (.cons (i := 1) rfl (.nil _)))) ?_
    have e' : ucheck t name pre link mode size = 0 := by simp only [not_or, Decidable.not_not] at g; exact g.2
    have hl := uenc_len e'
    have hl2 := uenc_len other_c
    obtain ⟨-, c1, c2, c3, hm2, hs2⟩ := ucheck_ok e'
    have n1 := cf_le (w := 100) c1
    have n2 := cf_le (w := 100) c2
    have n3 := cf_le (w := 155) c3
    refine W_seq ?_
    refine W_region ?_
    refine L_yld (Y_build (v := .agg #[.int .u8 48, str [], str [], str [], .int .i64 0, .int .i64 0]) (pv := [(0, .int .u8 48)]) (evp (is := [0]) (os := [.const (.int .u8 48)]) (vs := [.int .u8 48]) rfl rfl) (fun _ => by kernel_rfl)) rfl rfl rfl ?_
    refine L_call (E_call (by kernel_rfl) rfl) (ustar_Encode _ (hG.ext ((hn1.ext.trans hx5).trans hx8)) (48 : Int) [] [] [] (0 : Int) (0 : Int) (by first | omega | rfl | (simp <;> omega))) rfl rfl rfl ?_
    rintro _ h6 ⟨s010, rfl, hr011, hx12⟩
    refine L_yld (Y_move rfl) rfl rfl rfl ?_
    refine L_yld (Y_extract (v := s010) rfl rfl) rfl rfl rfl ?_
    refine L_yld (Y_extract (v := .int .i64 (ucheck (48 : Int) [] [] [] (0 : Int) (0 : Int))) rfl rfl) rfl rfl rfl ?_
    refine L_yld (Y_assign rfl) rfl rfl rfl ?_
    refine L_yld (Y_assign rfl) rfl rfl rfl ?_
    refine L_nil ?_
    refine X_then ?_
    refine W_sub _ (.cons (i := 6) rfl (.cons (i := 5) rfl (.cons (i := 3) rfl (.cons (i := 2) rfl (.cons (i := 1) rfl (.nil _)))))) ?_
    refine W_seq ?_
    refine W_seq ?_
    refine W_region ?_
    refine L_yld (Y_move rfl) rfl rfl rfl ?_
    refine L_yld (Y_neq rfl rfl) rfl rfl rfl ?_
    refine L_yld (Y_move rfl) rfl rfl rfl ?_
    refine L_known (d := 31) false rfl (by exact decide_eq_false (by simp only [other_c]; decide)) ?_
    refine L_yld (Y_move rfl) rfl rfl rfl ?_
    refine L_yld (Y_len Tryd.underlying26 rfl (hr04.ext (hx8.trans hx12))) rfl rfl rfl ?_
    refine L_yld (Y_neq rfl rfl) rfl rfl rfl ?_
    refine L_yld (Y_pick_f rfl rfl) rfl rfl rfl ?_
    refine L_yld (Y_move rfl) rfl rfl rfl ?_
    refine L_known (d := 36) false rfl (by exact decide_eq_false (by omega)) ?_
    refine L_yld (Y_move rfl) rfl rfl rfl ?_
    refine L_yld (Y_len Tryd.underlying26 rfl hr011) rfl rfl rfl ?_
    refine L_yld (Y_neq rfl rfl) rfl rfl rfl ?_
    refine L_yld (Y_pick_f rfl rfl) rfl rfl rfl ?_
    refine L_nil ?_
    refine X_then ?_
    refine W_sub _ (.cons (i := 40) rfl (.cons (i := 5) rfl (.cons (i := 3) rfl (.cons (i := 2) rfl (.cons (i := 1) rfl (.nil _)))))) ?_
    refine W_known false rfl (by exact decide_eq_false (by omega)) ?_
    refine W_skip ?_
    refine X_then ?_
    refine W_sub _ (.cons (i := 5) rfl (.cons (i := 3) rfl (.cons (i := 2) rfl (.cons (i := 1) rfl (.nil _))))) ?_
    refine W_seq ?_
    refine W_seq ?_
    refine W_region ?_
    refine L_yld (Y_move rfl) rfl rfl rfl ?_
    refine L_yld (Y_len Tryd.underlying26 rfl (hr04.ext (hx8.trans hx12))) rfl rfl rfl ?_
    refine L_yld (Y_move rfl) rfl rfl rfl ?_
    refine L_nil ?_
    refine X_then ?_
    refine W_sub _ (.cons (i := 43) rfl (.cons (i := 42) rfl (.cons (i := 5) rfl (.cons (i := 3) rfl (.cons (i := 2) rfl (.cons (i := 1) rfl (.nil _))))))) ?_
    refine W_block ?_
    refine W_loop (S := Nat) (fun i => [(42, .int .i64 (((uenc t name pre link mode size).length : Int))), (5, s010), (3, s03), (1, .pointer (some ⟨h.size, 0, none⟩)), (43, .int .i64 ((i : Int)))]) (fun i h' => i ≤ 512 ∧ h' = h6) (fun i => 512 - i) 0 (.cons (i := 42) rfl (.cons (i := 5) rfl (.cons (i := 3) rfl (.cons (i := 1) rfl (.cons (i := 43) rfl (.nil _)))))) ?_ ?_
    · exact ⟨Nat.zero_le _, rfl⟩
    rintro i h6 ⟨hi, rfl⟩
    show W _ _ _ _ _ [(42, .int .i64 (((uenc t name pre link mode size).length : Int))), (5, s010), (3, s03), (1, .pointer (some ⟨h.size, 0, none⟩)), (43, .int .i64 ((i : Int)))] _
    refine W_seq ?_
    refine W_region ?_
    refine L_yld (Y_lss rfl rfl) rfl rfl rfl ?_
    refine L_nil ?_
    refine X_then ?_
    refine W_seq ?_
    refine W_splitd rfl (fun hl1 => ?_) (fun hl1 => ?_)
    · refine W_skip ?_
      refine X_then ?_
      refine W_sub _ (.cons (i := 42) rfl (.cons (i := 5) rfl (.cons (i := 3) rfl (.cons (i := 1) rfl (.cons (i := 43) rfl (.nil _)))))) ?_
      refine W_seq ?_
      refine W_block ?_
      refine W_seq ?_
      refine W_region ?_
      refine L_yld (Y_move rfl) rfl rfl rfl ?_
      refine L_yld (Y_assign rfl) rfl rfl rfl ?_
      refine L_nil ?_
      refine X_then ?_
      refine W_sub _ (.cons (i := 7) rfl (.cons (i := 42) rfl (.cons (i := 5) rfl (.cons (i := 3) rfl (.cons (i := 1) rfl (.cons (i := 43) rfl (.nil _))))))) ?_
      refine W_cut (S := Unit) (fun _ => [(8, .bool (decide (((((i : Int) < 108) ∨ ((124 ≤ (i : Int)) ∧ ((i : Int) < 136))) ∨ ((148 ≤ (i : Int)) ∧ ((i : Int) < 257))) ∨ ((345 ≤ (i : Int)) ∧ ((i : Int) < 500))))), (7, .int .i64 ((i : Int))), (42, .int .i64 (((uenc t name pre link mode size).length : Int))), (5, s010), (3, s03), (1, .pointer (some ⟨h.size, 0, none⟩)), (43, .int .i64 ((i : Int)))]) (fun _ h' => h' = h6) ?_ ?_
      · refine W_region ?_
        refine L_yld (Y_move rfl) rfl rfl rfl ?_
        refine L_yld (Y_lss rfl rfl) rfl rfl rfl ?_
        refine L_yld (Y_move rfl) rfl rfl rfl ?_
        refine L_splitd (d := 48) rfl (fun c13 => ?_) (fun c13 => ?_)
        · refine L_skip rfl rfl rfl ?_
          refine L_skip rfl rfl rfl ?_
          refine L_skip rfl rfl rfl ?_
          refine L_skip rfl rfl rfl ?_
          refine L_skip rfl rfl rfl ?_
          refine L_skip rfl rfl rfl ?_
          refine L_yld (Y_pick_t rfl rfl) rfl rfl rfl ?_
          refine L_yld (Y_move rfl) rfl rfl rfl ?_
          refine L_skip rfl rfl rfl ?_
          refine L_skip rfl rfl rfl ?_
          refine L_skip rfl rfl rfl ?_
          refine L_skip rfl rfl rfl ?_
          refine L_skip rfl rfl rfl ?_
          refine L_skip rfl rfl rfl ?_
          refine L_yld (Y_pick_t rfl rfl) rfl rfl rfl ?_
          refine L_yld (Y_move rfl) rfl rfl rfl ?_
          refine L_skip rfl rfl rfl ?_
          refine L_skip rfl rfl rfl ?_
          refine L_skip rfl rfl rfl ?_
          refine L_skip rfl rfl rfl ?_
          refine L_skip rfl rfl rfl ?_
          refine L_skip rfl rfl rfl ?_
          refine L_yld (Y_pick_t rfl rfl) rfl rfl rfl ?_
          refine L_yld (Y_assign rfl) rfl rfl rfl ?_
          refine L_nil ?_
          exact X_cut () (.cons (i := 8) (lkb rfl (by simp only [eq_true c13, true_and, and_true, false_and, and_false, true_or, or_true, false_or, or_false, not_true_eq_false, not_false_eq_true, decide_true, decide_false, Bool.true_eq_false, Bool.false_eq_true, eq_self, Bool.decide_eq_true])) (.cons (i := 7) rfl (.cons (i := 42) rfl (.cons (i := 5) rfl (.cons (i := 3) rfl (.cons (i := 1) rfl (.cons (i := 43) rfl (.nil _)))))))) rfl
        · refine L_yld (Y_move rfl) rfl rfl rfl ?_
          refine L_yld (Y_geq rfl rfl) rfl rfl rfl ?_
          refine L_yld (Y_move rfl) rfl rfl rfl ?_
          refine L_splitd (d := 51) rfl (fun c14 => ?_) (fun c14 => ?_)
          · refine L_yld (Y_move rfl) rfl rfl rfl ?_
            refine L_yld (Y_lss rfl rfl) rfl rfl rfl ?_
            refine L_yld (Y_pick_t rfl rfl) rfl rfl rfl ?_
            refine L_yld (Y_pick_f rfl rfl) rfl rfl rfl ?_
            refine L_yld (Y_move rfl) rfl rfl rfl ?_
            refine L_splitd (d := 56) rfl (fun c15 => ?_) (fun c15 => ?_)
            · refine L_skip rfl rfl rfl ?_
              refine L_skip rfl rfl rfl ?_
              refine L_skip rfl rfl rfl ?_
              refine L_skip rfl rfl rfl ?_
              refine L_skip rfl rfl rfl ?_
              refine L_skip rfl rfl rfl ?_
              refine L_yld (Y_pick_t rfl rfl) rfl rfl rfl ?_
              refine L_yld (Y_move rfl) rfl rfl rfl ?_
              refine L_skip rfl rfl rfl ?_
              refine L_skip rfl rfl rfl ?_
              refine L_skip rfl rfl rfl ?_
              refine L_skip rfl rfl rfl ?_
              refine L_skip rfl rfl rfl ?_
              refine L_skip rfl rfl rfl ?_
              refine L_yld (Y_pick_t rfl rfl) rfl rfl rfl ?_
              refine L_yld (Y_assign rfl) rfl rfl rfl ?_
              refine L_nil ?_
              exact X_cut () (.cons (i := 8) (lkb rfl (by simp only [eq_false c13, eq_true c14, eq_true c15, true_and, and_true, false_and, and_false, true_or, or_true, false_or, or_false, not_true_eq_false, not_false_eq_true, decide_true, decide_false, Bool.true_eq_false, Bool.false_eq_true, eq_self, Bool.decide_eq_true])) (.cons (i := 7) rfl (.cons (i := 42) rfl (.cons (i := 5) rfl (.cons (i := 3) rfl (.cons (i := 1) rfl (.cons (i := 43) rfl (.nil _)))))))) rfl
            · refine L_yld (Y_move rfl) rfl rfl rfl ?_
              refine L_yld (Y_geq rfl rfl) rfl rfl rfl ?_
              refine L_yld (Y_move rfl) rfl rfl rfl ?_
              refine L_splitd (d := 59) rfl (fun c16 => ?_) (fun c16 => ?_)
              · refine L_yld (Y_move rfl) rfl rfl rfl ?_
                refine L_yld (Y_lss rfl rfl) rfl rfl rfl ?_
                refine L_yld (Y_pick_t rfl rfl) rfl rfl rfl ?_
                refine L_yld (Y_pick_f rfl rfl) rfl rfl rfl ?_
                refine L_yld (Y_move rfl) rfl rfl rfl ?_
                refine L_splitd (d := 64) rfl (fun c17 => ?_) (fun c17 => ?_)
                · refine L_skip rfl rfl rfl ?_
                  refine L_skip rfl rfl rfl ?_
                  refine L_skip rfl rfl rfl ?_
                  refine L_skip rfl rfl rfl ?_
                  refine L_skip rfl rfl rfl ?_
                  refine L_skip rfl rfl rfl ?_
                  refine L_yld (Y_pick_t rfl rfl) rfl rfl rfl ?_
                  refine L_yld (Y_assign rfl) rfl rfl rfl ?_
                  refine L_nil ?_
                  exact X_cut () (.cons (i := 8) (lkb rfl (by simp only [eq_false c13, eq_true c14, eq_false c15, eq_true c16, eq_true c17, true_and, and_true, false_and, and_false, true_or, or_true, false_or, or_false, not_true_eq_false, not_false_eq_true, decide_true, decide_false, Bool.true_eq_false, Bool.false_eq_true, eq_self, Bool.decide_eq_true])) (.cons (i := 7) rfl (.cons (i := 42) rfl (.cons (i := 5) rfl (.cons (i := 3) rfl (.cons (i := 1) rfl (.cons (i := 43) rfl (.nil _)))))))) rfl
                · refine L_yld (Y_move rfl) rfl rfl rfl ?_
                  refine L_yld (Y_geq rfl rfl) rfl rfl rfl ?_
                  refine L_yld (Y_move rfl) rfl rfl rfl ?_
                  refine L_splitd (d := 67) rfl (fun c18 => ?_) (fun c18 => ?_)
                  · refine L_yld (Y_move rfl) rfl rfl rfl ?_
                    refine L_yld (Y_lss rfl rfl) rfl rfl rfl ?_
                    refine L_yld (Y_pick_t rfl rfl) rfl rfl rfl ?_
                    refine L_yld (Y_pick_f rfl rfl) rfl rfl rfl ?_
                    refine L_yld (Y_assign rfl) rfl rfl rfl ?_
                    refine L_nil ?_
                    exact X_cut () (.cons (i := 8) (lkb rfl (by simp only [eq_false c13, eq_true c14, eq_false c15, eq_true c16, eq_false c17, eq_true c18, true_and, and_true, false_and, and_false, true_or, or_true, false_or, or_false, not_true_eq_false, not_false_eq_true, decide_true, decide_false, Bool.true_eq_false, Bool.false_eq_true, eq_self, Bool.decide_eq_true])) (.cons (i := 7) rfl (.cons (i := 42) rfl (.cons (i := 5) rfl (.cons (i := 3) rfl (.cons (i := 1) rfl (.cons (i := 43) rfl (.nil _)))))))) rfl
                  · refine L_skip rfl rfl rfl ?_
                    refine L_skip rfl rfl rfl ?_
                    refine L_yld (Y_pick_f rfl rfl) rfl rfl rfl ?_
                    refine L_yld (Y_pick_f rfl rfl) rfl rfl rfl ?_
                    refine L_yld (Y_assign rfl) rfl rfl rfl ?_
                    refine L_nil ?_
                    exact X_cut () (.cons (i := 8) (lkb rfl (by simp only [eq_false c13, eq_true c14, eq_false c15, eq_true c16, eq_false c17, eq_false c18, true_and, and_true, false_and, and_false, true_or, or_true, false_or, or_false, not_true_eq_false, not_false_eq_true, decide_true, decide_false, Bool.true_eq_false, Bool.false_eq_true, eq_self, Bool.decide_eq_true])) (.cons (i := 7) rfl (.cons (i := 42) rfl (.cons (i := 5) rfl (.cons (i := 3) rfl (.cons (i := 1) rfl (.cons (i := 43) rfl (.nil _)))))))) rfl
              · refine L_skip rfl rfl rfl ?_
                refine L_skip rfl rfl rfl ?_
                refine L_yld (Y_pick_f rfl rfl) rfl rfl rfl ?_
                refine L_yld (Y_pick_f rfl rfl) rfl rfl rfl ?_
                refine L_yld (Y_move rfl) rfl rfl rfl ?_
                refine L_yld (Y_move rfl) rfl rfl rfl ?_
                refine L_yld (Y_geq rfl rfl) rfl rfl rfl ?_
                refine L_yld (Y_move rfl) rfl rfl rfl ?_
                refine L_splitd (d := 67) rfl (fun c19 => ?_) (fun c19 => ?_)
                · refine L_yld (Y_move rfl) rfl rfl rfl ?_
                  refine L_yld (Y_lss rfl rfl) rfl rfl rfl ?_
                  refine L_yld (Y_pick_t rfl rfl) rfl rfl rfl ?_
                  refine L_yld (Y_pick_f rfl rfl) rfl rfl rfl ?_
                  refine L_yld (Y_assign rfl) rfl rfl rfl ?_
                  refine L_nil ?_
                  exact X_cut () (.cons (i := 8) (lkb rfl (by simp only [eq_false c13, eq_true c14, eq_false c15, eq_false c16, eq_true c19, true_and, and_true, false_and, and_false, true_or, or_true, false_or, or_false, not_true_eq_false, not_false_eq_true, decide_true, decide_false, Bool.true_eq_false, Bool.false_eq_true, eq_self, Bool.decide_eq_true])) (.cons (i := 7) rfl (.cons (i := 42) rfl (.cons (i := 5) rfl (.cons (i := 3) rfl (.cons (i := 1) rfl (.cons (i := 43) rfl (.nil _)))))))) rfl
                · refine L_skip rfl rfl rfl ?_
                  refine L_skip rfl rfl rfl ?_
                  refine L_yld (Y_pick_f rfl rfl) rfl rfl rfl ?_
                  refine L_yld (Y_pick_f rfl rfl) rfl rfl rfl ?_
                  refine L_yld (Y_assign rfl) rfl rfl rfl ?_
                  refine L_nil ?_
                  exact X_cut () (.cons (i := 8) (lkb rfl (by simp only [eq_false c13, eq_true c14, eq_false c15, eq_false c16, eq_false c19, true_and, and_true, false_and, and_false, true_or, or_true, false_or, or_false, not_true_eq_false, not_false_eq_true, decide_true, decide_false, Bool.true_eq_false, Bool.false_eq_true, eq_self, Bool.decide_eq_true])) (.cons (i := 7) rfl (.cons (i := 42) rfl (.cons (i := 5) rfl (.cons (i := 3) rfl (.cons (i := 1) rfl (.cons (i := 43) rfl (.nil _)))))))) rfl
          · refine L_skip rfl rfl rfl ?_
            refine L_skip rfl rfl rfl ?_
            refine L_yld (Y_pick_f rfl rfl) rfl rfl rfl ?_
            refine L_yld (Y_pick_f rfl rfl) rfl rfl rfl ?_
            refine L_yld (Y_move rfl) rfl rfl rfl ?_
            refine L_yld (Y_move rfl) rfl rfl rfl ?_
            refine L_yld (Y_geq rfl rfl) rfl rfl rfl ?_
            refine L_yld (Y_move rfl) rfl rfl rfl ?_
            refine L_splitd (d := 59) rfl (fun c20 => ?_) (fun c20 => ?_)
            · refine L_yld (Y_move rfl) rfl rfl rfl ?_
              refine L_yld (Y_lss rfl rfl) rfl rfl rfl ?_
              refine L_yld (Y_pick_t rfl rfl) rfl rfl rfl ?_
              refine L_yld (Y_pick_f rfl rfl) rfl rfl rfl ?_
              refine L_yld (Y_move rfl) rfl rfl rfl ?_
              refine L_splitd (d := 64) rfl (fun c21 => ?_) (fun c21 => ?_)
              · refine L_skip rfl rfl rfl ?_
                refine L_skip rfl rfl rfl ?_
                refine L_skip rfl rfl rfl ?_
                refine L_skip rfl rfl rfl ?_
                refine L_skip rfl rfl rfl ?_
                refine L_skip rfl rfl rfl ?_
                refine L_yld (Y_pick_t rfl rfl) rfl rfl rfl ?_
                refine L_yld (Y_assign rfl) rfl rfl rfl ?_
                refine L_nil ?_
                exact X_cut () (.cons (i := 8) (lkb rfl (by simp only [eq_false c13, eq_false c14, eq_true c20, eq_true c21, true_and, and_true, false_and, and_false, true_or, or_true, false_or, or_false, not_true_eq_false, not_false_eq_true, decide_true, decide_false, Bool.true_eq_false, Bool.false_eq_true, eq_self, Bool.decide_eq_true])) (.cons (i := 7) rfl (.cons (i := 42) rfl (.cons (i := 5) rfl (.cons (i := 3) rfl (.cons (i := 1) rfl (.cons (i := 43) rfl (.nil _)))))))) rfl
              · refine L_yld (Y_move rfl) rfl rfl rfl ?_
                refine L_yld (Y_geq rfl rfl) rfl rfl rfl ?_
                refine L_yld (Y_move rfl) rfl rfl rfl ?_
                refine L_splitd (d := 67) rfl (fun c22 => ?_) (fun c22 => ?_)
                · refine L_yld (Y_move rfl) rfl rfl rfl ?_
                  refine L_yld (Y_lss rfl rfl) rfl rfl rfl ?_
                  refine L_yld (Y_pick_t rfl rfl) rfl rfl rfl ?_
                  refine L_yld (Y_pick_f rfl rfl) rfl rfl rfl ?_
                  refine L_yld (Y_assign rfl) rfl rfl rfl ?_
                  refine L_nil ?_
                  exact X_cut () (.cons (i := 8) (lkb rfl (by simp only [eq_false c13, eq_false c14, eq_true c20, eq_false c21, eq_true c22, true_and, and_true, false_and, and_false, true_or, or_true, false_or, or_false, not_true_eq_false, not_false_eq_true, decide_true, decide_false, Bool.true_eq_false, Bool.false_eq_true, eq_self, Bool.decide_eq_true])) (.cons (i := 7) rfl (.cons (i := 42) rfl (.cons (i := 5) rfl (.cons (i := 3) rfl (.cons (i := 1) rfl (.cons (i := 43) rfl (.nil _)))))))) rfl
                · refine L_skip rfl rfl rfl ?_
                  refine L_skip rfl rfl rfl ?_
                  refine L_yld (Y_pick_f rfl rfl) rfl rfl rfl ?_
                  refine L_yld (Y_pick_f rfl rfl) rfl rfl rfl ?_
                  refine L_yld (Y_assign rfl) rfl rfl rfl ?_
                  refine L_nil ?_
                  exact X_cut () (.cons (i := 8) (lkb rfl (by simp only [eq_false c13, eq_false c14, eq_true c20, eq_false c21, eq_false c22, true_and, and_true, false_and, and_false, true_or, or_true, false_or, or_false, not_true_eq_false, not_false_eq_true, decide_true, decide_false, Bool.true_eq_false, Bool.false_eq_true, eq_self, Bool.decide_eq_true])) (.cons (i := 7) rfl (.cons (i := 42) rfl (.cons (i := 5) rfl (.cons (i := 3) rfl (.cons (i := 1) rfl (.cons (i := 43) rfl (.nil _)))))))) rfl
            · refine L_skip rfl rfl rfl ?_
              refine L_skip rfl rfl rfl ?_
              refine L_yld (Y_pick_f rfl rfl) rfl rfl rfl ?_
              refine L_yld (Y_pick_f rfl rfl) rfl rfl rfl ?_
              refine L_yld (Y_move rfl) rfl rfl rfl ?_
              refine L_yld (Y_move rfl) rfl rfl rfl ?_
              refine L_yld (Y_geq rfl rfl) rfl rfl rfl ?_
              refine L_yld (Y_move rfl) rfl rfl rfl ?_
              refine L_splitd (d := 67) rfl (fun c23 => ?_) (fun c23 => ?_)
              · refine L_yld (Y_move rfl) rfl rfl rfl ?_
                refine L_yld (Y_lss rfl rfl) rfl rfl rfl ?_
                refine L_yld (Y_pick_t rfl rfl) rfl rfl rfl ?_
                refine L_yld (Y_pick_f rfl rfl) rfl rfl rfl ?_
                refine L_yld (Y_assign rfl) rfl rfl rfl ?_
                refine L_nil ?_
                exact X_cut () (.cons (i := 8) (lkb rfl (by simp only [eq_false c13, eq_false c14, eq_false c20, eq_true c23, true_and, and_true, false_and, and_false, true_or, or_true, false_or, or_false, not_true_eq_false, not_false_eq_true, decide_true, decide_false, Bool.true_eq_false, Bool.false_eq_true, eq_self, Bool.decide_eq_true])) (.cons (i := 7) rfl (.cons (i := 42) rfl (.cons (i := 5) rfl (.cons (i := 3) rfl (.cons (i := 1) rfl (.cons (i := 43) rfl (.nil _)))))))) rfl
              · refine L_skip rfl rfl rfl ?_
                refine L_skip rfl rfl rfl ?_
                refine L_yld (Y_pick_f rfl rfl) rfl rfl rfl ?_
                refine L_yld (Y_pick_f rfl rfl) rfl rfl rfl ?_
                refine L_yld (Y_assign rfl) rfl rfl rfl ?_
                refine L_nil ?_
                exact X_cut () (.cons (i := 8) (lkb rfl (by simp only [eq_false c13, eq_false c14, eq_false c20, eq_false c23, true_and, and_true, false_and, and_false, true_or, or_true, false_or, or_false, not_true_eq_false, not_false_eq_true, decide_true, decide_false, Bool.true_eq_false, Bool.false_eq_true, eq_self, Bool.decide_eq_true])) (.cons (i := 7) rfl (.cons (i := 42) rfl (.cons (i := 5) rfl (.cons (i := 3) rfl (.cons (i := 1) rfl (.cons (i := 43) rfl (.nil _)))))))) rfl
      rintro _ h6 rfl
      show W _ _ _ _ _ [(8, .bool (decide (((((i : Int) < 108) ∨ ((124 ≤ (i : Int)) ∧ ((i : Int) < 136))) ∨ ((148 ≤ (i : Int)) ∧ ((i : Int) < 257))) ∨ ((345 ≤ (i : Int)) ∧ ((i : Int) < 500))))), (7, .int .i64 ((i : Int))), (42, .int .i64 (((uenc t name pre link mode size).length : Int))), (5, s010), (3, s03), (1, .pointer (some ⟨h.size, 0, none⟩)), (43, .int .i64 ((i : Int)))] _
      refine W_seq ?_
      refine W_slotd (d := 8) rfl (fun c => ?_) (fun c => ?_)
      · refine W_quiet (fun h' => h' = h6) (by kernel_rfl) (by kernel_rfl) rfl ?_
        refine LQ_yld (fun h_ hI_ => by subst hI_; exact Y_move rfl) rfl rfl rfl ?_
        refine LQ_yld (fun h_ hI_ => by subst hI_; exact Y_not rfl) rfl rfl rfl ?_
        refine LQ_yld (fun h_ hI_ => by subst hI_; exact Y_move rfl) rfl rfl rfl ?_
        refine LQ_skip rfl rfl rfl ?_
        refine LQ_skip rfl rfl rfl ?_
        refine LQ_skip rfl rfl rfl ?_
        refine LQ_skip rfl rfl rfl ?_
        refine LQ_skip rfl rfl rfl ?_
        refine LQ_skip rfl rfl rfl ?_
        refine LQ_skip rfl rfl rfl ?_
        refine LQ_skip rfl rfl rfl ?_
        refine LQ_skip rfl rfl rfl ?_
        refine LQ_yld (fun h_ hI_ => by subst hI_; exact Y_pick_f rfl rfl) rfl rfl rfl ?_
        refine LQ_nil ?_
        rintro h6 rfl
        refine X_then ?_
        refine W_sub _ (.cons (i := 84) rfl (.cons (i := 42) rfl (.cons (i := 5) rfl (.cons (i := 3) rfl (.cons (i := 1) rfl (.cons (i := 43) rfl (.nil _))))))) ?_
        refine W_false rfl ?_
        refine W_skip ?_
        refine X_block ?_
        refine X_then ?_
        refine W_sub _ (.cons (i := 42) rfl (.cons (i := 5) rfl (.cons (i := 3) rfl (.cons (i := 1) rfl (.cons (i := 43) rfl (.nil _)))))) ?_
        refine W_region ?_
        refine L_yld (Y_add rfl rfl (by omega) (by omega)) rfl rfl rfl ?_
        refine L_yld (Y_move rfl) rfl rfl rfl ?_
        refine L_nil ?_
        refine X_loop (i + 1) (.cons (i := 42) rfl (.cons (i := 5) rfl (.cons (i := 3) rfl (.cons (i := 1) rfl (.cons (i := 43) rfl (.nil _)))))) ?_ ?_
        · exact ⟨by omega, rfl⟩
        · (try dsimp only)
          omega
      · refine W_quiet (fun h' => h' = h6) (by kernel_rfl) (by kernel_rfl) rfl ?_
        refine LQ_yld (fun h_ hI_ => by subst hI_; exact Y_move rfl) rfl rfl rfl ?_
        refine LQ_yld (fun h_ hI_ => by subst hI_; exact Y_not rfl) rfl rfl rfl ?_
        refine LQ_yld (fun h_ hI_ => by subst hI_; exact Y_move rfl) rfl rfl rfl ?_
        refine LQ_yld (fun h_ hI_ => by subst hI_; exact Y_move rfl) rfl rfl rfl ?_
        refine LQ_yld (fun h_ hI_ => by subst hI_; exact Y_move rfl) rfl rfl rfl ?_
        refine LQ_yld (fun h_ hI_ => by subst hI_; exact Y_idx Tryd.underlying26 (show _ = some 1 by kernel_rfl) rfl rfl (hr04.ext (hx8.trans hx12)) (by omega) (by omega)) rfl rfl rfl ?_
        refine LQ_yld (fun h_ hI_ => by subst hI_; exact Y_ldbyte Tryd.underlying5 rfl rfl (hr04.ext (hx8.trans hx12)) (by omega) (by omega)) rfl rfl rfl ?_
        refine LQ_yld (fun h_ hI_ => by subst hI_; exact Y_move rfl) rfl rfl rfl ?_
        refine LQ_yld (fun h_ hI_ => by subst hI_; exact Y_move rfl) rfl rfl rfl ?_
        refine LQ_yld (fun h_ hI_ => by subst hI_; exact Y_idx Tryd.underlying26 (show _ = some 1 by kernel_rfl) rfl rfl hr011 (by omega) (by omega)) rfl rfl rfl ?_
        refine LQ_yld (fun h_ hI_ => by subst hI_; exact Y_ldbyte Tryd.underlying5 rfl rfl hr011 (by omega) (by omega)) rfl rfl rfl ?_
        refine LQ_yld (fun h_ hI_ => by subst hI_; exact Y_neq rfl rfl) rfl rfl rfl ?_
        refine LQ_yld (fun h_ hI_ => by subst hI_; exact Y_pick_t rfl rfl) rfl rfl rfl ?_
        refine LQ_nil ?_
        rintro h6 rfl
        refine X_then ?_
        refine W_sub _ (.cons (i := 84) rfl (.cons (i := 42) rfl (.cons (i := 5) rfl (.cons (i := 3) rfl (.cons (i := 1) rfl (.cons (i := 43) rfl (.nil _))))))) ?_
        refine W_known false rfl (by exact decide_eq_false (by exact fun h9 => h9 (uenc_same e' other_c (by omega) (by omega)))) ?_
        refine W_skip ?_
        refine X_block ?_
        refine X_then ?_
        refine W_sub _ (.cons (i := 42) rfl (.cons (i := 5) rfl (.cons (i := 3) rfl (.cons (i := 1) rfl (.cons (i := 43) rfl (.nil _)))))) ?_
        refine W_region ?_
        refine L_yld (Y_add rfl rfl (by omega) (by omega)) rfl rfl rfl ?_
        refine L_yld (Y_move rfl) rfl rfl rfl ?_
        refine L_nil ?_
        refine X_loop (i + 1) (.cons (i := 42) rfl (.cons (i := 5) rfl (.cons (i := 3) rfl (.cons (i := 1) rfl (.cons (i := 43) rfl (.nil _)))))) ?_ ?_
        · exact ⟨by omega, rfl⟩
        · (try dsimp only)
          omega
    · refine W_exit ?_
      refine X_then_exit ?_
      refine X_then_exit ?_
      refine X_block_hit ?_
      refine X_then ?_
      refine W_sub _ (.cons (i := 3) rfl (.cons (i := 1) rfl (.nil _))) ?_
      refine W_seq ?_
      refine W_quiet (fun h' => h' = h6) (by kernel_rfl) (by kernel_rfl) rfl ?_
      refine LQ_yld (fun h_ hI_ => by subst hI_; exact Y_fieldAddr (off := 1) (by kernel_rfl) rfl rfl) rfl rfl rfl ?_
      refine LQ_yld (fun h_ hI_ => by subst hI_; exact Y_ldblk Tryd.underlying9 rfl rfl (hk2.ext ((hx5.trans hx8).trans hx12)) rfl) rfl rfl rfl ?_
      refine LQ_yld (fun h_ hI_ => by subst hI_; exact Y_fieldAddr (off := 3) (by kernel_rfl) rfl rfl) rfl rfl rfl ?_
      refine LQ_yld (fun h_ hI_ => by subst hI_; exact Y_ldblk Tryd.underlying9 rfl rfl (hk2.ext ((hx5.trans hx8).trans hx12)) rfl) rfl rfl rfl ?_
      refine LQ_yld (fun h_ hI_ => by subst hI_; exact Y_fieldAddr (off := 2) (by kernel_rfl) rfl rfl) rfl rfl rfl ?_
      refine LQ_yld (fun h_ hI_ => by subst hI_; exact Y_ldblk Tryd.underlying9 rfl rfl (hk2.ext ((hx5.trans hx8).trans hx12)) rfl) rfl rfl rfl ?_
      refine LQ_yld (fun h_ hI_ => by subst hI_; exact Y_assign rfl) rfl rfl rfl ?_
      refine LQ_yld (fun h_ hI_ => by subst hI_; exact Y_assign rfl) rfl rfl rfl ?_
      refine LQ_yld (fun h_ hI_ => by subst hI_; exact Y_assign rfl) rfl rfl rfl ?_
      refine LQ_nil ?_
      rintro h6 rfl
      refine X_then ?_
      refine W_sub _ (.cons (i := 11) rfl (.cons (i := 10) rfl (.cons (i := 9) rfl (.cons (i := 3) rfl (.cons (i := 1) rfl (.nil _)))))) ?_
      refine W_seq ?_
      refine W_pers [(11, str pre), (10, str link), (9, str name), (3, s03), (1, .pointer (some ⟨h.size, 0, none⟩))] (.cons (i := 11) rfl (.cons (i := 10) rfl (.cons (i := 9) rfl (.cons (i := 3) rfl (.cons (i := 1) rfl (.nil _)))))) (by kernel_rfl) ?_
      refine LP_op 0 (fun _ vv => .bool true = vv) [] rfl rfl (by kernel_rfl) (fun _ _ _ _ p => p) ?_ ?_
      · intro h7 hx24
        refine Needs_nil ?_
        refine Stp_call (E_call (by kernel_rfl) rfl) (law07_alive _ (hG.ext ((((hn1.ext.trans hx5).trans hx8).trans hx12).trans hx24))) rfl ?_
        rintro _ h8 ⟨rfl, hx25⟩
        exact ⟨hx25, rfl⟩
      refine LP_op 1 (fun _ vv => .bool true = vv) [(0, 92)] rfl rfl (by kernel_rfl) (fun _ _ _ _ p => p) ?_ ?_
      · intro h9 hx26
        rintro _ rfl
        refine Needs_nil ?_
        refine Stp_yld (Y_move rfl) rfl ?_
        exact rfl
      refine LP_op 2 (fun _ vv => s03 = vv) [(1, 93)] rfl rfl (by kernel_rfl) (fun _ _ _ _ p => p) ?_ ?_
      · intro h10 hx27
        rintro _ rfl
        refine Needs_nil ?_
        refine Stp_yld (Y_move rfl) rfl ?_
        exact rfl
      refine LP_op 3 (fun _ vv => str name = vv) [(1, 93)] rfl rfl (by kernel_rfl) (fun _ _ _ _ p => p) ?_ ?_
      · intro h11 hx28
        rintro _ rfl
        refine Needs_nil ?_
        refine Stp_yld (Y_move rfl) rfl ?_
        exact rfl
      refine LP_op 4 (fun _ vv => .int .i64 ((name.length : Int)) = vv) [(1, 93), (3, 95)] rfl rfl (by kernel_rfl) (fun _ _ _ _ p => p) ?_ ?_
      · intro h12 hx29
        rintro _ rfl
        rintro _ rfl
        refine Needs_nil ?_
        refine Stp_yld (Y_slen Tryd.underlying9 rfl) rfl ?_
        exact rfl
      refine LP_op 5 (fun hh r15_1 => Bytes hh r15_1 ((uenc t name pre link mode size).take ((name.length : Int)).toNat)) [(4, 96), (1, 93), (2, 94)] rfl rfl (by kernel_rfl) (fun _ _ _ x_ p_ => p_.ext x_) ?_ ?_
      · intro h13 hx30
        rintro _ rfl
        rintro _ rfl
        rintro _ rfl
        refine Needs_nil ?_
        have hb31 : Bytes h13 (slcut 1 0 ((name.length : Int)).toNat s03) ((uenc t name pre link mode size).take ((name.length : Int)).toNat) := Bytes.cuth (hr04.ext ((hx8.trans hx12).trans hx30)) (by omega) 
        refine Stp_yld (Y_cut_h Tryd.underlying26 (show _ = some 1 by kernel_rfl) rfl (hr04.ext ((hx8.trans hx12).trans hx30)) rfl (by omega) (by omega)) rfl ?_
        exact hb31
      refine LP_op 6 (fun _ vv => str ((uenc t name pre link mode size).take ((name.length : Int)).toNat) = vv) [(5, 97), (1, 93)] rfl rfl (by kernel_rfl) (fun _ _ _ _ p => p) ?_ ?_
      · intro h14 hx32
        intro r15_1 q15_1
        rintro _ rfl
        refine Needs_nil ?_
        refine Stp_yld (Y_bytes_str Tryd.underlying26 Tryd.underlying5 Tryd.underlying9 rfl q15_1) rfl ?_
        exact rfl
      refine LP_op 7 (fun _ vv => str name = vv) [(1, 93)] rfl rfl (by kernel_rfl) (fun _ _ _ _ p => p) ?_ ?_
      · intro h15 hx33
        rintro _ rfl
        refine Needs_nil ?_
        refine Stp_yld (Y_move rfl) rfl ?_
        exact rfl
      refine LP_op 8 (fun _ vv => .bool (decide (((uenc t name pre link mode size).take ((name.length : Int)).toNat) = name)) = vv) [(6, 98), (7, 99), (1, 93)] rfl rfl (by kernel_rfl) (fun _ _ _ _ p => p) ?_ ?_
      · intro h16 hx34
        rintro _ rfl
        rintro _ rfl
        rintro _ rfl
        refine Needs_nil ?_
        refine Stp_yld (Y_seql rfl rfl) rfl ?_
        exact rfl
      refine LP_op 9 (fun _ vv => .bool (decide (((uenc t name pre link mode size).take ((name.length : Int)).toNat) = name)) = vv) [(8, 100), (1, 93)] rfl rfl (by kernel_rfl) (fun _ _ _ _ p => p) ?_ ?_
      · intro h17 hx35
        rintro _ rfl
        rintro _ rfl
        refine Needs_nil ?_
        refine Stp_yld (Y_pick_t rfl rfl) rfl ?_
        exact rfl
      refine LP_op 10 (fun _ vv => .bool true = vv) [(9, 101)] rfl rfl (by kernel_rfl) (fun _ _ _ _ p => p) ?_ ?_
      · intro h18 hx36
        rintro _ rfl
        refine Needs_nil ?_
        refine Stp_yld (Y_move rfl) rfl ?_
        exact (congrArg Value.bool (decide_eq_true (by rw [show ((name.length : Int)).toNat = name.length by omega]; exact uf_name e'))).symm
      refine LP_op 11 (fun _ vv => s03 = vv) [(10, 102)] rfl rfl (by kernel_rfl) (fun _ _ _ _ p => p) ?_ ?_
      · intro h19 hx37
        rintro _ rfl
        refine Needs_nil ?_
        refine Stp_yld (Y_move rfl) rfl ?_
        exact rfl
      refine LP_op 12 (fun _ vv => str link = vv) [(10, 102)] rfl rfl (by kernel_rfl) (fun _ _ _ _ p => p) ?_ ?_
      · intro h20 hx38
        rintro _ rfl
        refine Needs_nil ?_
        refine Stp_yld (Y_move rfl) rfl ?_
        exact rfl
      refine LP_op 13 (fun _ vv => .int .i64 ((link.length : Int)) = vv) [(12, 104), (10, 102)] rfl rfl (by kernel_rfl) (fun _ _ _ _ p => p) ?_ ?_
      · intro h21 hx39
        rintro _ rfl
        rintro _ rfl
        refine Needs_nil ?_
        refine Stp_yld (Y_slen Tryd.underlying9 rfl) rfl ?_
        exact rfl
      refine LP_op 14 (fun _ vv => .int .i64 (157 + (link.length : Int)) = vv) [(13, 105), (10, 102)] rfl rfl (by kernel_rfl) (fun _ _ _ _ p => p) ?_ ?_
      · intro h22 hx40
        rintro _ rfl
        rintro _ rfl
        refine Needs_nil ?_
        refine Stp_yld (Y_add rfl rfl (by omega) (by omega)) rfl ?_
        exact rfl
      refine LP_op 15 (fun hh r15_2 => Bytes hh r15_2 (((uenc t name pre link mode size).take (157 + (link.length : Int)).toNat).drop 157)) [(14, 106), (10, 102), (11, 103)] rfl rfl (by kernel_rfl) (fun _ _ _ x_ p_ => p_.ext x_) ?_ ?_
      · intro h23 hx41
        rintro _ rfl
        rintro _ rfl
        rintro _ rfl
        refine Needs_nil ?_
        have hb42 : Bytes h23 (slcut 1 (157 : Int).toNat (157 + (link.length : Int)).toNat s03) (((uenc t name pre link mode size).take (157 + (link.length : Int)).toNat).drop 157) := Bytes.cutb (hr04.ext ((hx8.trans hx12).trans hx41)) (by omega) (by omega)
        refine Stp_yld (Y_cut Tryd.underlying26 (show _ = some 1 by kernel_rfl) rfl (hr04.ext ((hx8.trans hx12).trans hx41)) rfl rfl (by omega) (by omega) (by omega)) rfl ?_
        exact hb42
      refine LP_op 16 (fun _ vv => str (((uenc t name pre link mode size).take (157 + (link.length : Int)).toNat).drop 157) = vv) [(15, 107), (10, 102)] rfl rfl (by kernel_rfl) (fun _ _ _ _ p => p) ?_ ?_
      · intro h24 hx43
        intro r15_2 q15_2
        rintro _ rfl
        refine Needs_nil ?_
        refine Stp_yld (Y_bytes_str Tryd.underlying26 Tryd.underlying5 Tryd.underlying9 rfl q15_2) rfl ?_
        exact rfl
      refine LP_op 17 (fun _ vv => str link = vv) [(10, 102)] rfl rfl (by kernel_rfl) (fun _ _ _ _ p => p) ?_ ?_
      · intro h25 hx44
        rintro _ rfl
        refine Needs_nil ?_
        refine Stp_yld (Y_move rfl) rfl ?_
        exact rfl
      refine LP_op 18 (fun _ vv => .bool (decide ((((uenc t name pre link mode size).take (157 + (link.length : Int)).toNat).drop 157) = link)) = vv) [(16, 108), (17, 109), (10, 102)] rfl rfl (by kernel_rfl) (fun _ _ _ _ p => p) ?_ ?_
      · intro h26 hx45
        rintro _ rfl
        rintro _ rfl
        rintro _ rfl
        refine Needs_nil ?_
        refine Stp_yld (Y_seql rfl rfl) rfl ?_
        exact rfl
      refine LP_op 19 (fun _ vv => .bool (decide ((((uenc t name pre link mode size).take (157 + (link.length : Int)).toNat).drop 157) = link)) = vv) [(18, 110), (10, 102)] rfl rfl (by kernel_rfl) (fun _ _ _ _ p => p) ?_ ?_
      · intro h27 hx46
        rintro _ rfl
        rintro _ rfl
        refine Needs_nil ?_
        refine Stp_yld (Y_pick_t rfl rfl) rfl ?_
        exact rfl
      refine LP_op 20 (fun _ vv => .bool true = vv) [(19, 111)] rfl rfl (by kernel_rfl) (fun _ _ _ _ p => p) ?_ ?_
      · intro h28 hx47
        rintro _ rfl
        refine Needs_nil ?_
        refine Stp_yld (Y_move rfl) rfl ?_
        exact (congrArg Value.bool (decide_eq_true (by rw [show (157 + (link.length : Int)).toNat = 157 + link.length by omega]; exact uf_link e'))).symm
      refine LP_op 21 (fun _ vv => s03 = vv) [(20, 112)] rfl rfl (by kernel_rfl) (fun _ _ _ _ p => p) ?_ ?_
      · intro h29 hx48
        rintro _ rfl
        refine Needs_nil ?_
        refine Stp_yld (Y_move rfl) rfl ?_
        exact rfl
      refine LP_op 22 (fun _ vv => str pre = vv) [(20, 112)] rfl rfl (by kernel_rfl) (fun _ _ _ _ p => p) ?_ ?_
      · intro h30 hx49
        rintro _ rfl
        refine Needs_nil ?_
        refine Stp_yld (Y_move rfl) rfl ?_
        exact rfl
      refine LP_op 23 (fun _ vv => .int .i64 ((pre.length : Int)) = vv) [(20, 112), (22, 114)] rfl rfl (by kernel_rfl) (fun _ _ _ _ p => p) ?_ ?_
      · intro h31 hx50
        rintro _ rfl
        rintro _ rfl
        refine Needs_nil ?_
        refine Stp_yld (Y_slen Tryd.underlying9 rfl) rfl ?_
        exact rfl
      refine LP_op 24 (fun _ vv => .int .i64 (345 + (pre.length : Int)) = vv) [(20, 112), (23, 115)] rfl rfl (by kernel_rfl) (fun _ _ _ _ p => p) ?_ ?_
      · intro h32 hx51
        rintro _ rfl
        rintro _ rfl
        refine Needs_nil ?_
        refine Stp_yld (Y_add rfl rfl (by omega) (by omega)) rfl ?_
        exact rfl
      refine LP_op 25 (fun hh r15_3 => Bytes hh r15_3 (((uenc t name pre link mode size).take (345 + (pre.length : Int)).toNat).drop 345)) [(20, 112), (21, 113), (24, 116)] rfl rfl (by kernel_rfl) (fun _ _ _ x_ p_ => p_.ext x_) ?_ ?_
      · intro h33 hx52
        rintro _ rfl
        rintro _ rfl
        rintro _ rfl
        refine Needs_nil ?_
        have hb53 : Bytes h33 (slcut 1 (345 : Int).toNat (345 + (pre.length : Int)).toNat s03) (((uenc t name pre link mode size).take (345 + (pre.length : Int)).toNat).drop 345) := Bytes.cutb (hr04.ext ((hx8.trans hx12).trans hx52)) (by omega) (by omega)
        refine Stp_yld (Y_cut Tryd.underlying26 (show _ = some 1 by kernel_rfl) rfl (hr04.ext ((hx8.trans hx12).trans hx52)) rfl rfl (by omega) (by omega) (by omega)) rfl ?_
        exact hb53
      refine LP_op 26 (fun _ vv => str (((uenc t name pre link mode size).take (345 + (pre.length : Int)).toNat).drop 345) = vv) [(20, 112), (25, 117)] rfl rfl (by kernel_rfl) (fun _ _ _ _ p => p) ?_ ?_
      · intro h34 hx54
        rintro _ rfl
        intro r15_3 q15_3
        refine Needs_nil ?_
        refine Stp_yld (Y_bytes_str Tryd.underlying26 Tryd.underlying5 Tryd.underlying9 rfl q15_3) rfl ?_
        exact rfl
      refine LP_op 27 (fun _ vv => str pre = vv) [(20, 112)] rfl rfl (by kernel_rfl) (fun _ _ _ _ p => p) ?_ ?_
      · intro h35 hx55
        rintro _ rfl
        refine Needs_nil ?_
        refine Stp_yld (Y_move rfl) rfl ?_
        exact rfl
      refine LP_op 28 (fun _ vv => .bool (decide ((((uenc t name pre link mode size).take (345 + (pre.length : Int)).toNat).drop 345) = pre)) = vv) [(20, 112), (26, 118), (27, 119)] rfl rfl (by kernel_rfl) (fun _ _ _ _ p => p) ?_ ?_
      · intro h36 hx56
        rintro _ rfl
        rintro _ rfl
        rintro _ rfl
        refine Needs_nil ?_
        refine Stp_yld (Y_seql rfl rfl) rfl ?_
        exact rfl
      refine LP_op 29 (fun _ vv => .bool (decide ((((uenc t name pre link mode size).take (345 + (pre.length : Int)).toNat).drop 345) = pre)) = vv) [(20, 112), (28, 120)] rfl rfl (by kernel_rfl) (fun _ _ _ _ p => p) ?_ ?_
      · intro h37 hx57
        rintro _ rfl
        rintro _ rfl
        refine Needs_nil ?_
        refine Stp_yld (Y_pick_t rfl rfl) rfl ?_
        exact rfl
      refine LP_op 30 (fun _ vv => .bool true = vv) [(29, 121)] rfl rfl (by kernel_rfl) (fun _ _ _ _ p => p) ?_ ?_
      · intro h38 hx58
        rintro _ rfl
        refine Needs_nil ?_
        refine Stp_yld (Y_move rfl) rfl ?_
        exact (congrArg Value.bool (decide_eq_true (by rw [show (345 + (pre.length : Int)).toNat = 345 + pre.length by omega]; exact uf_pre e'))).symm
      refine LP_op 31 (fun _ vv => s03 = vv) [(30, 122)] rfl rfl (by kernel_rfl) (fun _ _ _ _ p => p) ?_ ?_
      · intro h39 hx59
        rintro _ rfl
        refine Needs_nil ?_
        refine Stp_yld (Y_move rfl) rfl ?_
        exact rfl
      refine LP_op 32 (fun _ vv => .pointer (some (elemAddr s03 ((156 : Int).toNat * 1))) = vv) [(30, 122), (31, 123)] rfl rfl (by kernel_rfl) (fun _ _ _ _ p => p) ?_ ?_
      · intro h40 hx60
        rintro _ rfl
        rintro _ rfl
        refine Needs_nil ?_
        refine Stp_yld (Y_idx Tryd.underlying26 (show _ = some 1 by kernel_rfl) rfl rfl (hr04.ext ((hx8.trans hx12).trans hx60)) (by omega) (by omega)) rfl ?_
        exact rfl
      refine LP_op 33 (fun _ vv => .int .u8 (byt (uenc t name pre link mode size) 156) = vv) [(30, 122), (32, 124)] rfl rfl (by kernel_rfl) (fun _ _ _ _ p => p) ?_ ?_
      · intro h41 hx61
        rintro _ rfl
        rintro _ rfl
        refine Needs_nil ?_
        refine Stp_yld (Y_ldbyte Tryd.underlying5 rfl rfl (hr04.ext ((hx8.trans hx12).trans hx61)) (by omega) (by omega)) rfl ?_
        exact rfl
      refine LP_op 34 (fun _ vv => .pointer (some ⟨h.size, 0 + 0, none⟩) = vv) [(30, 122)] rfl rfl (by kernel_rfl) (fun _ _ _ _ p => p) ?_ ?_
      · intro h42 hx62
        rintro _ rfl
        refine Needs_nil ?_
        refine Stp_yld (Y_fieldAddr (off := 0) (by kernel_rfl) rfl rfl) rfl ?_
        exact rfl
      refine LP_op 35 (fun _ vv => .int .u8 (t) = vv) [(30, 122), (34, 126)] rfl rfl (by kernel_rfl) (fun _ _ _ _ p => p) ?_ ?_
      · intro h43 hx63
        rintro _ rfl
        rintro _ rfl
        refine Needs_nil ?_
        refine Stp_yld (Y_ldblk Tryd.underlying5 rfl rfl (hk2.ext (((hx5.trans hx8).trans hx12).trans hx63)) rfl) rfl ?_
        exact rfl
      refine LP_op 36 (fun _ vv => .bool (decide ((byt (uenc t name pre link mode size) 156) = t)) = vv) [(30, 122), (33, 125), (35, 127)] rfl rfl (by kernel_rfl) (fun _ _ _ _ p => p) ?_ ?_
      · intro h44 hx64
        rintro _ rfl
        rintro _ rfl
        rintro _ rfl
        refine Needs_nil ?_
        refine Stp_yld (Y_eql rfl rfl) rfl ?_
        exact rfl
      refine LP_op 37 (fun _ vv => .bool (decide ((byt (uenc t name pre link mode size) 156) = t)) = vv) [(36, 128), (30, 122)] rfl rfl (by kernel_rfl) (fun _ _ _ _ p => p) ?_ ?_
      · intro h45 hx65
        rintro _ rfl
        rintro _ rfl
        refine Needs_nil ?_
        refine Stp_yld (Y_pick_t rfl rfl) rfl ?_
        exact rfl
      refine LP_op 38 (fun _ vv => .bool (decide ((byt (uenc t name pre link mode size) 156) = t)) = vv) [(37, 129)] rfl rfl (by kernel_rfl) (fun _ _ _ _ p => p) ?_ ?_
      · intro h46 hx66
        rintro _ rfl
        refine Needs_nil ?_
        refine Stp_yld (Y_assign rfl) rfl ?_
        exact rfl
      refine LP_end [(38, 2)] rfl (by kernel_rfl) rfl ?_
      intro h47 hx67
      rintro _ rfl
      refine Needs_nil ?_
      refine X_then ?_
      refine W_sub _ (.cons (i := 2) rfl (.nil _)) ?_
      refine W_ret ?_
      refine X_ret1 rfl rfl ?_
      exact ⟨by simp [uf_type ht e'], ((((hn1.ext.trans hx5).trans hx8).trans hx12).trans hx67)⟩

end Go.Xp
