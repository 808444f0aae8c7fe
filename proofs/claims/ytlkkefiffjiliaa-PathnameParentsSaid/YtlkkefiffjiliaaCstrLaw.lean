/- Layer 2 (cstring): the laws' own text. -/
import Derived.Test.YtlkkefiffjiliaaCstr
import Derived.Test.YtlkkefiffjiliaaRepeat
set_option linter.unusedSimpArgs false
set_option linter.unusedVariables false
namespace Go.Xp
open Go.Proofs

set_option maxRecDepth 100000 in
theorem law02_alive (h : Heap) : Cal Try.prog 17 #[] h (fun v h' => v = .bool true ∧ Ext h h') := by
  refine Cal_enter (args := []) Try.func17 rfl rfl rfl (fun σ => ?_)
  refine W_seq ?_
  refine W_region ?_
  refine L_yld (Y_assign rfl) rfl rfl rfl ?_
  refine L_nil ?_
  refine X_then ?_
  refine W_seq ?_
  refine W_region ?_
  refine L_call (E_call (by kernel_rfl) rfl) (cstring_Format _ [97, 98] (4 : Int)) rfl rfl rfl ?_
  rintro _ h1 ⟨s01, rfl, hr02, hx3⟩
  refine L_yld (Y_move rfl) rfl rfl rfl ?_
  refine L_yld (Y_extract rfl rfl) rfl rfl rfl ?_
  refine L_yld (Y_extract rfl rfl) rfl rfl rfl ?_
  refine L_yld (Y_assign rfl) rfl rfl rfl ?_
  refine L_yld (Y_assign rfl) rfl rfl rfl ?_
  refine L_nil ?_
  refine X_then ?_
  refine W_sub _ (.cons (i := 2) rfl (.cons (i := 1) rfl (.cons (i := 0) rfl (.nil _)))) ?_
  refine W_seq ?_
  refine W_region ?_
  refine L_yld (Y_move rfl) rfl rfl rfl ?_
  refine L_yld (Y_eql rfl rfl) rfl rfl rfl ?_
  refine L_yld (Y_move rfl) rfl rfl rfl ?_
  refine L_known (d := 9) true rfl (by exact decide_eq_true (by simp [cfmt, cerr])) ?_
  refine L_yld (Y_move rfl) rfl rfl rfl ?_
  refine L_yld (Y_bytes_str Try.underlying23 Try.underlying5 Try.underlying9 rfl hr02) rfl rfl rfl ?_
  refine L_yld (Y_seql rfl rfl) rfl rfl rfl ?_
  refine L_yld (Y_pick_t rfl rfl) rfl rfl rfl ?_
  refine L_yld (Y_assign rfl) rfl rfl rfl ?_
  refine L_nil ?_
  refine X_then ?_
  refine W_sub _ (.cons (i := 0) rfl (.nil _)) ?_
  refine W_ret ?_
  refine X_ret1 rfl rfl ?_
  exact ⟨rfl, hx3⟩

set_option maxRecDepth 100000 in
theorem law02_Format (h : Heap) (s : List UInt8) (w : Int) (hs : s.length ≤ 9223372036854775807) (hw : -9223372036854775808 ≤ w ∧ w ≤ 9223372036854775807) : Cal Try.prog 3 #[str s, .int .i64 (w)] h (fun v h' => v = .bool true ∧ Ext h h') := by
  refine Cal_enter (args := [str s, .int .i64 (w)]) Try.func3 rfl rfl rfl (fun σ => ?_)
  refine W_seq ?_
  refine W_region ?_
  refine L_yld (Y_assign rfl) rfl rfl rfl ?_
  refine L_nil ?_
  refine X_then ?_
  refine W_seq ?_
  refine W_seq ?_
  refine W_region ?_
  refine L_yld (Y_move rfl) rfl rfl rfl ?_
  refine L_yld (Y_slen Try.underlying9 rfl) rfl rfl rfl ?_
  refine L_yld (Y_gtr rfl rfl) rfl rfl rfl ?_
  refine L_nil ?_
  refine X_then ?_
  refine W_sub _ (.cons (i := 11) rfl (.cons (i := 4) rfl (.cons (i := 0) rfl (.cons (i := 1) rfl (.nil _))))) ?_
  refine W_splitd rfl (fun g => ?_) (fun g => ?_)
  · refine W_seq ?_
    refine W_region ?_
    refine L_call (E_call (by kernel_rfl) rfl) (law02_alive _) rfl rfl rfl ?_
    rintro _ h1 ⟨rfl, hx1⟩
    refine L_yld (Y_assign rfl) rfl rfl rfl ?_
    refine L_nil ?_
    refine X_then ?_
    refine W_sub _ (.cons (i := 4) rfl (.cons (i := 0) rfl (.cons (i := 1) rfl (.nil _)))) ?_
    refine W_ret ?_
    refine X_then_ret ?_
    refine X_ret1 rfl rfl ?_
    exact ⟨by simp, hx1⟩
  · refine W_skip ?_
    refine X_then ?_
    refine W_sub _ (.cons (i := 4) rfl (.cons (i := 0) rfl (.cons (i := 1) rfl (.nil _)))) ?_
    refine W_seq ?_
    refine W_region ?_
    refine L_yld (Y_move rfl) rfl rfl rfl ?_
    refine L_yld (Y_move rfl) rfl rfl rfl ?_
    refine L_call (E_call (by kernel_rfl) rfl) (cstring_Format _ s w) rfl rfl rfl ?_
    rintro _ h2 ⟨s02, rfl, hr03, hx4⟩
    refine L_yld (Y_move rfl) rfl rfl rfl ?_
    refine L_yld (Y_extract rfl rfl) rfl rfl rfl ?_
    refine L_yld (Y_extract rfl rfl) rfl rfl rfl ?_
    refine L_yld (Y_assign rfl) rfl rfl rfl ?_
    refine L_yld (Y_assign rfl) rfl rfl rfl ?_
    refine L_nil ?_
    refine X_then ?_
    refine W_sub _ (.cons (i := 6) rfl (.cons (i := 5) rfl (.cons (i := 4) rfl (.cons (i := 0) rfl (.cons (i := 1) rfl (.nil _)))))) ?_
    refine W_seq ?_
    refine W_region ?_
    refine L_yld (Y_move rfl) rfl rfl rfl ?_
    refine L_yld (Y_move rfl) rfl rfl rfl ?_
    refine L_call (E_call (by kernel_rfl) rfl) (ref02_Format _ s w (by first | omega | rfl | (simp <;> omega))) rfl rfl rfl ?_
    rintro _ h3 ⟨s05, rfl, hr06, hx7⟩
    refine L_yld (Y_move rfl) rfl rfl rfl ?_
    refine L_yld (Y_extract rfl rfl) rfl rfl rfl ?_
    refine L_yld (Y_extract rfl rfl) rfl rfl rfl ?_
    refine L_yld (Y_assign rfl) rfl rfl rfl ?_
    refine L_yld (Y_assign rfl) rfl rfl rfl ?_
    refine L_nil ?_
    refine X_then ?_
    refine W_sub _ (.cons (i := 8) rfl (.cons (i := 7) rfl (.cons (i := 6) rfl (.cons (i := 5) rfl (.cons (i := 4) rfl (.cons (i := 0) rfl (.cons (i := 1) rfl (.nil _)))))))) ?_
    refine W_seq ?_
    refine W_region ?_
    refine L_call (E_call (by kernel_rfl) rfl) (law02_alive _) rfl rfl rfl ?_
    rintro _ h4 ⟨rfl, hx8⟩
    refine L_yld (Y_move rfl) rfl rfl rfl ?_
    refine L_yld (Y_move rfl) rfl rfl rfl ?_
    refine L_yld (Y_bytes_str Try.underlying23 Try.underlying5 Try.underlying9 rfl (hr03.ext (hx7.trans hx8))) rfl rfl rfl ?_
    refine L_yld (Y_move rfl) rfl rfl rfl ?_
    refine L_yld (Y_bytes_str Try.underlying23 Try.underlying5 Try.underlying9 rfl (hr06.ext hx8)) rfl rfl rfl ?_
    refine L_yld (Y_seql rfl rfl) rfl rfl rfl ?_
    refine L_yld (Y_pick_t rfl rfl) rfl rfl rfl ?_
    refine L_yld (Y_move rfl) rfl rfl rfl ?_
    refine L_known (d := 33) true rfl (by exact decide_eq_true (by simp)) ?_
    refine L_yld (Y_move rfl) rfl rfl rfl ?_
    refine L_yld (Y_move rfl) rfl rfl rfl ?_
    refine L_yld (Y_eql rfl rfl) rfl rfl rfl ?_
    refine L_yld (Y_pick_t rfl rfl) rfl rfl rfl ?_
    refine L_yld (Y_move rfl) rfl rfl rfl ?_
    refine L_known (d := 38) true rfl (by exact decide_eq_true (by simp)) ?_
    refine L_yld (Y_move rfl) rfl rfl rfl ?_
    refine L_yld (Y_move rfl) rfl rfl rfl ?_
    refine L_call (E_call (by kernel_rfl) rfl) (cstring_Fits _ s w) rfl rfl rfl ?_
    rintro _ h4 ⟨rfl, rfl⟩
    refine L_yld (Y_move rfl) rfl rfl rfl ?_
    refine L_yld (Y_eql rfl rfl) rfl rfl rfl ?_
    refine L_yld (Y_beql Try.underlying4 rfl rfl) rfl rfl rfl ?_
    refine L_yld (Y_pick_t rfl rfl) rfl rfl rfl ?_
    refine L_yld (Y_assign rfl) rfl rfl rfl ?_
    refine L_nil ?_
    refine X_then ?_
    refine W_sub _ (.cons (i := 4) rfl (.nil _)) ?_
    refine W_ret ?_
    refine X_ret1 rfl rfl ?_
    exact ⟨by simp, ((hx4.trans hx7).trans hx8)⟩

set_option maxRecDepth 100000 in
theorem law02_Parse (h : Heap) (v : Value) (b : List UInt8) (hb : Bytes h v b) (hs : b.length ≤ 9223372036854775807) : Cal Try.prog 5 #[v] h (fun v h' => v = .bool true ∧ Ext h h') := by
  refine Cal_enter (args := [v]) Try.func5 rfl rfl rfl (fun σ => ?_)
  refine W_seq ?_
  refine W_region ?_
  refine L_yld (Y_assign rfl) rfl rfl rfl ?_
  refine L_nil ?_
  refine X_then ?_
  refine W_seq ?_
  refine W_seq ?_
  refine W_region ?_
  refine L_yld (Y_move rfl) rfl rfl rfl ?_
  refine L_yld (Y_len Try.underlying23 rfl hb) rfl rfl rfl ?_
  refine L_yld (Y_gtr rfl rfl) rfl rfl rfl ?_
  refine L_nil ?_
  refine X_then ?_
  refine W_sub _ (.cons (i := 9) rfl (.cons (i := 2) rfl (.cons (i := 0) rfl (.nil _)))) ?_
  refine W_splitd rfl (fun g => ?_) (fun g => ?_)
  · refine W_seq ?_
    refine W_region ?_
    refine L_call (E_call (by kernel_rfl) rfl) (law02_alive _) rfl rfl rfl ?_
    rintro _ h1 ⟨rfl, hx1⟩
    refine L_yld (Y_assign rfl) rfl rfl rfl ?_
    refine L_nil ?_
    refine X_then ?_
    refine W_sub _ (.cons (i := 2) rfl (.cons (i := 0) rfl (.nil _))) ?_
    refine W_ret ?_
    refine X_then_ret ?_
    refine X_ret1 rfl rfl ?_
    exact ⟨by simp, hx1⟩
  · refine W_skip ?_
    refine X_then ?_
    refine W_sub _ (.cons (i := 2) rfl (.cons (i := 0) rfl (.nil _))) ?_
    refine W_seq ?_
    refine W_region ?_
    refine L_yld (Y_move rfl) rfl rfl rfl ?_
    refine L_call (E_call (by kernel_rfl) rfl) (cstring_Parse _ v b hb) rfl rfl rfl ?_
    rintro _ h2 ⟨rfl, hx2⟩
    refine L_yld (Y_move rfl) rfl rfl rfl ?_
    refine L_yld (Y_extract rfl rfl) rfl rfl rfl ?_
    refine L_yld (Y_extract rfl rfl) rfl rfl rfl ?_
    refine L_yld (Y_assign rfl) rfl rfl rfl ?_
    refine L_yld (Y_assign rfl) rfl rfl rfl ?_
    refine L_nil ?_
    refine X_then ?_
    refine W_sub _ (.cons (i := 4) rfl (.cons (i := 3) rfl (.cons (i := 2) rfl (.cons (i := 0) rfl (.nil _))))) ?_
    refine W_seq ?_
    refine W_region ?_
    refine L_yld (Y_move rfl) rfl rfl rfl ?_
    refine L_call (E_call (by kernel_rfl) rfl) (ref02_Parse _ v b (hb.ext hx2)) rfl rfl rfl ?_
    rintro _ h2 ⟨rfl, rfl⟩
    refine L_yld (Y_move rfl) rfl rfl rfl ?_
    refine L_yld (Y_extract rfl rfl) rfl rfl rfl ?_
    refine L_yld (Y_extract rfl rfl) rfl rfl rfl ?_
    refine L_yld (Y_assign rfl) rfl rfl rfl ?_
    refine L_yld (Y_assign rfl) rfl rfl rfl ?_
    refine L_nil ?_
    refine X_then ?_
    refine W_sub _ (.cons (i := 6) rfl (.cons (i := 5) rfl (.cons (i := 4) rfl (.cons (i := 3) rfl (.cons (i := 2) rfl (.nil _)))))) ?_
    refine W_seq ?_
    refine W_region ?_
    refine L_call (E_call (by kernel_rfl) rfl) (law02_alive _) rfl rfl rfl ?_
    rintro _ h3 ⟨rfl, hx3⟩
    refine L_yld (Y_move rfl) rfl rfl rfl ?_
    refine L_yld (Y_move rfl) rfl rfl rfl ?_
    refine L_yld (Y_move rfl) rfl rfl rfl ?_
    refine L_yld (Y_seql rfl rfl) rfl rfl rfl ?_
    refine L_yld (Y_pick_t rfl rfl) rfl rfl rfl ?_
    refine L_yld (Y_move rfl) rfl rfl rfl ?_
    refine L_known (d := 27) true rfl (by exact decide_eq_true (by simp)) ?_
    refine L_yld (Y_move rfl) rfl rfl rfl ?_
    refine L_yld (Y_move rfl) rfl rfl rfl ?_
    refine L_yld (Y_eql rfl rfl) rfl rfl rfl ?_
    refine L_yld (Y_pick_t rfl rfl) rfl rfl rfl ?_
    refine L_yld (Y_assign rfl) rfl rfl rfl ?_
    refine L_nil ?_
    refine X_then ?_
    refine W_sub _ (.cons (i := 2) rfl (.nil _)) ?_
    refine W_ret ?_
    refine X_ret1 rfl rfl ?_
    exact ⟨by simp, (hx2.trans hx3)⟩

theorem cerr_zero {s : List UInt8} {w : Int} : cerr s w = 0 ↔ (1 ≤ w ∧ w ≤ 256) ∧ (0 : UInt8) ∉ s ∧ (s.length : Int) ≤ w := by
  unfold cerr
  constructor
  · intro h
    split at h
    · cases h
    · split at h
      · cases h
      · split at h
        · cases h
        · exact ⟨by omega, by assumption, by omega⟩
  · rintro ⟨h1, h2, h3⟩
    rw [if_neg (by omega), if_neg h2, if_neg (by omega)]
theorem perr_zero {b : List UInt8} : perr b = 0 ↔ (1 ≤ b.length ∧ b.length ≤ 256) ∧ (b.dropWhile (· != 0)).all (· == 0) = true := by
  unfold perr
  constructor
  · intro h
    split at h
    · cases h
    · split at h
      · exact ⟨by omega, by assumption⟩
      · cases h
  · rintro ⟨h1, h2⟩
    rw [if_neg (by omega), if_pos h2]
theorem pad_take {s : List UInt8} (k : Nat) (h0 : (0 : UInt8) ∉ s) : (s ++ List.replicate k 0).takeWhile (· != 0) = s ∧ (s ++ List.replicate k 0).dropWhile (· != 0) = List.replicate k 0 := by
  have h1 : ∀ x ∈ s, (x != 0) = true := fun x hx => by
    have : x ≠ 0 := fun h => h0 (h ▸ hx)
    simpa using this
  rw [List.takeWhile_append_of_pos h1, List.dropWhile_append_of_pos h1]
  cases k <;> simp [List.replicate_succ]
theorem all_zero_eq {l : List UInt8} (h : l.all (· == 0) = true) : l = List.replicate l.length 0 := by
  rw [List.eq_replicate_iff]
  exact ⟨rfl, fun x hx => by simpa using List.all_eq_true.1 h x hx⟩
/-- A field that parses is its text and NUL bytes behind it. -/
theorem parse_split {b : List UInt8} (h : perr b = 0) : (0 : UInt8) ∉ pstr b ∧ b = pstr b ++ List.replicate (b.length - (pstr b).length) 0 ∧ (pstr b).length ≤ b.length := by
  obtain ⟨h1, h2⟩ := perr_zero.1 h
  have hp : pstr b = b.takeWhile (· != 0) := by unfold pstr; rw [if_pos h]
  have h3 := List.takeWhile_append_dropWhile (p := (· != (0 : UInt8))) (l := b)
  have h4 := all_zero_eq h2
  have h5 : b.length = (b.takeWhile (· != 0)).length + (b.dropWhile (· != 0)).length := by
    rw [← List.length_append, h3]
  refine ⟨fun h0 => ?_, ?_, by rw [hp]; omega⟩
  · rw [hp] at h0
    have := List.all_eq_true.1 (List.all_takeWhile (p := (· != (0 : UInt8))) (l := b)) _ h0
    simp at this
  · rw [hp, show b.length - (b.takeWhile (· != 0)).length = (b.dropWhile (· != 0)).length by omega, ← h4, h3]
theorem parse_of {s : List UInt8} {k : Nat} (h0 : (0 : UInt8) ∉ s) (hl : 1 ≤ s.length + k ∧ s.length + k ≤ 256) : perr (s ++ List.replicate k 0) = 0 ∧ pstr (s ++ List.replicate k 0) = s := by
  obtain ⟨h1, h2⟩ := pad_take k h0
  have hp : perr (s ++ List.replicate k 0) = 0 := perr_zero.2 ⟨by simpa using hl, by rw [h2]; simp⟩
  exact ⟨hp, by unfold pstr; rw [if_pos hp, h1]⟩
theorem parse_format {s : List UInt8} {w : Int} (h : cerr s w = 0) : perr (cfmt s w) = 0 ∧ pstr (cfmt s w) = s ∧ ((cfmt s w).length : Int) = w := by
  obtain ⟨h1, h2, h3⟩ := cerr_zero.1 h
  have hf : cfmt s w = s ++ List.replicate (w.toNat - s.length) 0 := by unfold cfmt; rw [if_pos h]
  rw [hf]
  exact ⟨(parse_of h2 (by omega)).1, (parse_of h2 (by omega)).2, by simp; omega⟩
theorem format_parse {b : List UInt8} (h : perr b = 0) : cerr (pstr b) b.length = 0 ∧ cfmt (pstr b) b.length = b := by
  obtain ⟨h1, h2, h3⟩ := parse_split h
  have hw := (perr_zero.1 h).1
  have hc : cerr (pstr b) b.length = 0 := cerr_zero.2 ⟨by omega, h1, by omega⟩
  refine ⟨hc, ?_⟩
  unfold cfmt
  rw [if_pos hc]
  exact h2.symm

set_option maxRecDepth 100000 in
theorem law02_RoundTrip (h : Heap) (s : List UInt8) (w : Int) (v : Value) (b : List UInt8) (hb : Bytes h v b) (hs : s.length ≤ 9223372036854775807) (hw : -9223372036854775808 ≤ w ∧ w ≤ 9223372036854775807) (hsb : b.length ≤ 9223372036854775807) : Cal Try.prog 6 #[str s, .int .i64 (w), v] h (fun v h' => v = .bool true ∧ Ext h h') := by
  refine Cal_enter (args := [str s, .int .i64 (w), v]) Try.func6 rfl rfl rfl (fun σ => ?_)
  refine W_seq ?_
  refine W_region ?_
  refine L_yld (Y_assign rfl) rfl rfl rfl ?_
  refine L_nil ?_
  refine X_then ?_
  refine W_seq ?_
  refine W_seq ?_
  refine W_region ?_
  refine L_yld (Y_move rfl) rfl rfl rfl ?_
  refine L_yld (Y_slen Try.underlying9 rfl) rfl rfl rfl ?_
  refine L_yld (Y_gtr rfl rfl) rfl rfl rfl ?_
  refine L_yld (Y_move rfl) rfl rfl rfl ?_
  refine L_splitd (d := 18) rfl (fun g1 => ?_) (fun g1 => ?_)
  · refine L_skip rfl rfl rfl ?_
    refine L_skip rfl rfl rfl ?_
    refine L_skip rfl rfl rfl ?_
    refine L_yld (Y_pick_t rfl rfl) rfl rfl rfl ?_
    refine L_nil ?_
    refine X_then ?_
    refine W_sub _ (.cons (i := 22) rfl (.cons (i := 6) rfl (.cons (i := 0) rfl (.cons (i := 1) rfl (.cons (i := 2) rfl (.nil _)))))) ?_
    refine W_true rfl ?_
    refine W_seq ?_
    refine W_region ?_
    refine L_call (E_call (by kernel_rfl) rfl) (law02_alive _) rfl rfl rfl ?_
    rintro _ h1 ⟨rfl, hx1⟩
    refine L_yld (Y_assign rfl) rfl rfl rfl ?_
    refine L_nil ?_
    refine X_then ?_
    refine W_sub _ (.cons (i := 6) rfl (.cons (i := 0) rfl (.cons (i := 1) rfl (.cons (i := 2) rfl (.nil _))))) ?_
    refine W_ret ?_
    refine X_then_ret ?_
    refine X_ret1 rfl rfl ?_
    exact ⟨by simp [*], hx1⟩
  · refine L_yld (Y_move rfl) rfl rfl rfl ?_
    refine L_yld (Y_len Try.underlying23 rfl hb) rfl rfl rfl ?_
    refine L_yld (Y_gtr rfl rfl) rfl rfl rfl ?_
    refine L_yld (Y_pick_f rfl rfl) rfl rfl rfl ?_
    refine L_nil ?_
    refine X_then ?_
    refine W_sub _ (.cons (i := 22) rfl (.cons (i := 6) rfl (.cons (i := 0) rfl (.cons (i := 1) rfl (.cons (i := 2) rfl (.nil _)))))) ?_
    refine W_splitd rfl (fun g2 => ?_) (fun g2 => ?_)
    · refine W_seq ?_
      refine W_region ?_
      refine L_call (E_call (by kernel_rfl) rfl) (law02_alive _) rfl rfl rfl ?_
      rintro _ h2 ⟨rfl, hx2⟩
      refine L_yld (Y_assign rfl) rfl rfl rfl ?_
      refine L_nil ?_
      refine X_then ?_
      refine W_sub _ (.cons (i := 6) rfl (.cons (i := 0) rfl (.cons (i := 1) rfl (.cons (i := 2) rfl (.nil _))))) ?_
      refine W_ret ?_
      refine X_then_ret ?_
      refine X_ret1 rfl rfl ?_
      exact ⟨by simp [*], hx2⟩
    · refine W_skip ?_
      refine X_then ?_
      refine W_sub _ (.cons (i := 6) rfl (.cons (i := 0) rfl (.cons (i := 1) rfl (.cons (i := 2) rfl (.nil _))))) ?_
      refine W_cut (S := Unit) (fun _u => [(2, v)]) (fun _u h' => Ext h h') ?_ ?_
      · refine W_seq ?_
        refine W_region ?_
        refine L_yld (Y_move rfl) rfl rfl rfl ?_
        refine L_yld (Y_move rfl) rfl rfl rfl ?_
        refine L_call (E_call (by kernel_rfl) rfl) (cstring_Format _ s w) rfl rfl rfl ?_
        rintro _ h3 ⟨s03, rfl, hr04, hx5⟩
        refine L_yld (Y_move rfl) rfl rfl rfl ?_
        refine L_yld (Y_extract rfl rfl) rfl rfl rfl ?_
        refine L_yld (Y_extract rfl rfl) rfl rfl rfl ?_
        refine L_yld (Y_assign rfl) rfl rfl rfl ?_
        refine L_yld (Y_assign rfl) rfl rfl rfl ?_
        refine L_nil ?_
        refine X_then ?_
        refine W_sub _ (.cons (i := 8) rfl (.cons (i := 7) rfl (.cons (i := 6) rfl (.cons (i := 0) rfl (.cons (i := 1) rfl (.cons (i := 2) rfl (.nil _))))))) ?_
        refine W_seq ?_
        refine W_region ?_
        refine L_yld (Y_move rfl) rfl rfl rfl ?_
        refine L_yld (Y_eql rfl rfl) rfl rfl rfl ?_
        refine L_nil ?_
        refine X_then ?_
        refine W_sub _ (.cons (i := 31) rfl (.cons (i := 7) rfl (.cons (i := 6) rfl (.cons (i := 0) rfl (.cons (i := 1) rfl (.cons (i := 2) rfl (.nil _))))))) ?_
        refine W_splitd rfl (fun e1 => ?_) (fun e1 => ?_)
        · refine W_seq ?_
          refine W_region ?_
          refine L_yld (Y_move rfl) rfl rfl rfl ?_
          refine L_call (E_call (by kernel_rfl) rfl) (cstring_Parse _ s03 (cfmt s w) hr04) rfl rfl rfl ?_
          rintro _ h4 ⟨rfl, hx6⟩
          refine L_yld (Y_move rfl) rfl rfl rfl ?_
          refine L_yld (Y_extract rfl rfl) rfl rfl rfl ?_
          refine L_yld (Y_extract rfl rfl) rfl rfl rfl ?_
          refine L_yld (Y_assign rfl) rfl rfl rfl ?_
          refine L_yld (Y_assign rfl) rfl rfl rfl ?_
          refine L_nil ?_
          refine X_then ?_
          refine W_sub _ (.cons (i := 10) rfl (.cons (i := 9) rfl (.cons (i := 7) rfl (.cons (i := 6) rfl (.cons (i := 0) rfl (.cons (i := 1) rfl (.cons (i := 2) rfl (.nil _)))))))) ?_
          refine W_seq ?_
          refine W_region ?_
          refine L_yld (Y_move rfl) rfl rfl rfl ?_
          refine L_yld (Y_neq rfl rfl) rfl rfl rfl ?_
          refine L_yld (Y_move rfl) rfl rfl rfl ?_
          refine L_known (d := 39) false rfl (by exact decide_eq_false (by simp [(parse_format e1).1])) ?_
          refine L_yld (Y_move rfl) rfl rfl rfl ?_
          refine L_yld (Y_move rfl) rfl rfl rfl ?_
          refine L_yld (Y_sneq rfl rfl) rfl rfl rfl ?_
          refine L_yld (Y_pick_f rfl rfl) rfl rfl rfl ?_
          refine L_yld (Y_move rfl) rfl rfl rfl ?_
          refine L_known (d := 44) false rfl (by exact decide_eq_false (by simp [(parse_format e1).2.1])) ?_
          refine L_yld (Y_move rfl) rfl rfl rfl ?_
          refine L_yld (Y_len Try.underlying23 rfl (hr04.ext hx6)) rfl rfl rfl ?_
          refine L_yld (Y_move rfl) rfl rfl rfl ?_
          refine L_yld (Y_neq rfl rfl) rfl rfl rfl ?_
          refine L_yld (Y_pick_f rfl rfl) rfl rfl rfl ?_
          refine L_nil ?_
          refine X_then ?_
          refine W_sub _ (.cons (i := 49) rfl (.cons (i := 6) rfl (.cons (i := 2) rfl (.nil _)))) ?_
          refine W_known false rfl (by exact decide_eq_false (by simp [(parse_format e1).2.2])) ?_
          refine W_skip ?_
          refine X_cut (()) (.cons (i := 2) rfl (.nil _)) ?_
          exact (hx5.trans hx6)
        · refine W_skip ?_
          refine X_cut (()) (.cons (i := 2) rfl (.nil _)) ?_
          exact hx5
      · rintro _u h5 hq
        show W _ _ _ _ _ [(2, v)] _
        refine W_seq ?_
        refine W_region ?_
        refine L_yld (Y_move rfl) rfl rfl rfl ?_
        refine L_call (E_call (by kernel_rfl) rfl) (cstring_Parse _ v b (hb.ext hq)) rfl rfl rfl ?_
        rintro _ h6 ⟨rfl, hx7⟩
        refine L_yld (Y_move rfl) rfl rfl rfl ?_
        refine L_yld (Y_extract rfl rfl) rfl rfl rfl ?_
        refine L_yld (Y_extract rfl rfl) rfl rfl rfl ?_
        refine L_yld (Y_assign rfl) rfl rfl rfl ?_
        refine L_yld (Y_assign rfl) rfl rfl rfl ?_
        refine L_nil ?_
        refine X_then ?_
        refine W_sub _ (.cons (i := 12) rfl (.cons (i := 11) rfl (.cons (i := 2) rfl (.nil _)))) ?_
        refine W_seq ?_
        refine W_seq ?_
        refine W_region ?_
        refine L_yld (Y_move rfl) rfl rfl rfl ?_
        refine L_yld (Y_neq rfl rfl) rfl rfl rfl ?_
        refine L_nil ?_
        refine X_then ?_
        refine W_sub _ (.cons (i := 56) rfl (.cons (i := 11) rfl (.cons (i := 2) rfl (.nil _)))) ?_
        refine W_splitd rfl (fun e2 => ?_) (fun e2 => ?_)
        · refine W_seq ?_
          refine W_region ?_
          refine L_call (E_call (by kernel_rfl) rfl) (law02_alive _) rfl rfl rfl ?_
          rintro _ h7 ⟨rfl, hx8⟩
          refine L_yld (Y_move rfl) rfl rfl rfl ?_
          refine L_yld (Y_move rfl) rfl rfl rfl ?_
          refine L_yld (Y_seql rfl rfl) rfl rfl rfl ?_
          refine L_yld (Y_pick_t rfl rfl) rfl rfl rfl ?_
          refine L_yld (Y_assign rfl) rfl rfl rfl ?_
          refine L_nil ?_
          refine X_then ?_
          refine W_sub _ (.cons (i := 6) rfl (.cons (i := 11) rfl (.cons (i := 2) rfl (.nil _)))) ?_
          refine W_ret ?_
          refine X_then_ret ?_
          refine X_ret1 rfl rfl ?_
          exact ⟨by simp [pstr, e2], ((hq.trans hx7).trans hx8)⟩
        · refine W_skip ?_
          refine X_then ?_
          refine W_sub _ (.cons (i := 11) rfl (.cons (i := 2) rfl (.nil _))) ?_
          refine W_seq ?_
          refine W_region ?_
          refine L_yld (Y_move rfl) rfl rfl rfl ?_
          refine L_yld (Y_move rfl) rfl rfl rfl ?_
          refine L_yld (Y_len Try.underlying23 rfl (hb.ext (hq.trans hx7))) rfl rfl rfl ?_
          refine L_call (E_call (by kernel_rfl) rfl) (cstring_Format _ (pstr b) (b.length : Int)) rfl rfl rfl ?_
          rintro _ h8 ⟨s09, rfl, hr010, hx11⟩
          refine L_yld (Y_move rfl) rfl rfl rfl ?_
          refine L_yld (Y_extract rfl rfl) rfl rfl rfl ?_
          refine L_yld (Y_extract rfl rfl) rfl rfl rfl ?_
          refine L_yld (Y_assign rfl) rfl rfl rfl ?_
          refine L_yld (Y_assign rfl) rfl rfl rfl ?_
          refine L_nil ?_
          refine X_then ?_
          refine W_sub _ (.cons (i := 14) rfl (.cons (i := 13) rfl (.cons (i := 2) rfl (.nil _)))) ?_
          refine W_seq ?_
          refine W_region ?_
          refine L_call (E_call (by kernel_rfl) rfl) (law02_alive _) rfl rfl rfl ?_
          rintro _ h9 ⟨rfl, hx12⟩
          refine L_yld (Y_move rfl) rfl rfl rfl ?_
          refine L_yld (Y_move rfl) rfl rfl rfl ?_
          refine L_yld (Y_eql rfl rfl) rfl rfl rfl ?_
          refine L_yld (Y_pick_t rfl rfl) rfl rfl rfl ?_
          refine L_yld (Y_move rfl) rfl rfl rfl ?_
          refine L_known (d := 74) true rfl (by exact decide_eq_true (by simp [(format_parse (by simpa using e2)).1])) ?_
          refine L_yld (Y_move rfl) rfl rfl rfl ?_
          refine L_yld (Y_bytes_str Try.underlying23 Try.underlying5 Try.underlying9 rfl (hr010.ext hx12)) rfl rfl rfl ?_
          refine L_yld (Y_move rfl) rfl rfl rfl ?_
          refine L_yld (Y_bytes_str Try.underlying23 Try.underlying5 Try.underlying9 rfl (hb.ext (((hq.trans hx7).trans hx11).trans hx12))) rfl rfl rfl ?_
          refine L_yld (Y_seql rfl rfl) rfl rfl rfl ?_
          refine L_yld (Y_pick_t rfl rfl) rfl rfl rfl ?_
          refine L_yld (Y_assign rfl) rfl rfl rfl ?_
          refine L_nil ?_
          refine X_then ?_
          refine W_sub _ (.cons (i := 6) rfl (.nil _)) ?_
          refine W_ret ?_
          refine X_ret1 rfl rfl ?_
          exact ⟨by simp [(format_parse (by simpa using e2)).2], (((hq.trans hx7).trans hx11).trans hx12)⟩

theorem parse_pad {b : List UInt8} {k : Nat} (h : perr b = 0) (hk : b.length + k ≤ 256) : perr (b ++ List.replicate k 0) = 0 ∧ pstr (b ++ List.replicate k 0) = pstr b := by
  obtain ⟨h1, h2, h3⟩ := parse_split h
  have h4 := (perr_zero.1 h).1
  have : b ++ List.replicate k 0 = pstr b ++ List.replicate (b.length - (pstr b).length + k) 0 := by
    conv => lhs; rw [h2]
    rw [List.append_assoc, List.replicate_append_replicate]
  rw [this]
  exact parse_of h1 (by omega)
theorem parse_odd {b : List UInt8} {c : UInt8} (h : perr b = 0) (hl : b.length + 1 ≤ 256) (hc : c ≠ 0) (hp : (pstr b).length < b.length) : perr (b ++ [c]) = 6 := by
  obtain ⟨h1, h2, h3⟩ := parse_split h
  have h4 := (perr_zero.1 h).1
  unfold perr
  rw [if_neg (by simp; omega), if_neg]
  intro h9
  have h5 : ∀ x ∈ pstr b, (x != 0) = true := fun x hx => by
    have : x ≠ 0 := fun h => h1 (h ▸ hx)
    simpa using this
  obtain ⟨k, hk⟩ : ∃ k, b.length - (pstr b).length = k + 1 := ⟨b.length - (pstr b).length - 1, by omega⟩
  rw [h2, List.append_assoc, List.dropWhile_append_of_pos h5, hk, List.replicate_succ] at h9
  simp at h9
  exact hc h9
theorem parse_more {b : List UInt8} {c : UInt8} (h : perr b = 0) (hl : b.length + 1 ≤ 256) (hc : c ≠ 0) (hp : ¬ (pstr b).length < b.length) : perr (b ++ [c]) = 0 ∧ pstr (b ++ [c]) = pstr b ++ [c] := by
  obtain ⟨h1, h2, h3⟩ := parse_split h
  have h4 : b = pstr b := by
    have h5 : b.length - (pstr b).length = 0 := by omega
    rw [h5] at h2; simpa using h2
  have h6 : (0 : UInt8) ∉ pstr b ++ [c] := by
    rw [List.mem_append]
    rintro (h | h)
    · exact h1 h
    · exact hc (List.mem_singleton.1 h).symm
  have := parse_of (k := 0) h6 (by simp; rw [← h4]; omega)
  simp only [List.replicate_zero, List.append_nil] at this
  rw [← h4] at this ⊢
  exact this
theorem u8_ne {c : Int} (h : 0 ≤ c ∧ c ≤ 255) (h0 : ¬ c = 0) : c.toNat.toUInt8 ≠ 0 := by
  intro h1
  have h2 := congrArg UInt8.toNat h1
  rw [show (c.toNat.toUInt8).toNat = c.toNat % 256 from rfl] at h2
  have : (0 : UInt8).toNat = 0 := rfl
  omega

set_option maxRecDepth 100000 in
theorem law02_Prefix (h : Heap) (v : Value) (b : List UInt8) (hb : Bytes h v b) (n : Int) (c : Int) (hsb : b.length ≤ 9223372036854775807) (hn : 0 ≤ n ∧ n ≤ 255) (hc : 0 ≤ c ∧ c ≤ 255) : Cal Try.prog 7 #[v, .int .u8 (n), .int .u8 (c)] h (fun v h' => v = .bool true ∧ Ext h h') := by
  refine Cal_enter (args := [v, .int .u8 (n), .int .u8 (c)]) Try.func7 rfl rfl rfl (fun σ => ?_)
  refine W_seq ?_
  refine W_region ?_
  refine L_yld (Y_assign rfl) rfl rfl rfl ?_
  refine L_nil ?_
  refine X_then ?_
  refine W_seq ?_
  refine W_seq ?_
  refine W_region ?_
  refine L_yld (Y_move rfl) rfl rfl rfl ?_
  refine L_yld (Y_len Try.underlying23 rfl hb) rfl rfl rfl ?_
  refine L_yld (Y_gtr rfl rfl) rfl rfl rfl ?_
  refine L_nil ?_
  refine X_then ?_
  refine W_sub _ (.cons (i := 19) rfl (.cons (i := 6) rfl (.cons (i := 0) rfl (.cons (i := 1) rfl (.cons (i := 2) rfl (.nil _)))))) ?_
  refine W_splitd rfl (fun g1 => ?_) (fun g1 => ?_)
  · refine W_seq ?_
    refine W_region ?_
    refine L_call (E_call (by kernel_rfl) rfl) (law02_alive _) rfl rfl rfl ?_
    rintro _ h1 ⟨rfl, hx1⟩
    refine L_yld (Y_assign rfl) rfl rfl rfl ?_
    refine L_nil ?_
    refine X_then ?_
    refine W_sub _ (.cons (i := 6) rfl (.cons (i := 0) rfl (.cons (i := 1) rfl (.cons (i := 2) rfl (.nil _))))) ?_
    refine W_ret ?_
    refine X_then_ret ?_
    refine X_ret1 rfl rfl ?_
    exact ⟨by simp [*], hx1⟩
  · refine W_skip ?_
    refine X_then ?_
    refine W_sub _ (.cons (i := 6) rfl (.cons (i := 0) rfl (.cons (i := 1) rfl (.cons (i := 2) rfl (.nil _))))) ?_
    refine W_seq ?_
    refine W_region ?_
    refine L_yld (Y_move rfl) rfl rfl rfl ?_
    refine L_call (E_call (by kernel_rfl) rfl) (cstring_Parse _ v b hb) rfl rfl rfl ?_
    rintro _ h2 ⟨rfl, hx2⟩
    refine L_yld (Y_move rfl) rfl rfl rfl ?_
    refine L_yld (Y_extract rfl rfl) rfl rfl rfl ?_
    refine L_yld (Y_extract rfl rfl) rfl rfl rfl ?_
    refine L_yld (Y_assign rfl) rfl rfl rfl ?_
    refine L_yld (Y_assign rfl) rfl rfl rfl ?_
    refine L_nil ?_
    refine X_then ?_
    refine W_sub _ (.cons (i := 8) rfl (.cons (i := 7) rfl (.cons (i := 6) rfl (.cons (i := 0) rfl (.cons (i := 1) rfl (.cons (i := 2) rfl (.nil _))))))) ?_
    refine W_seq ?_
    refine W_seq ?_
    refine W_region ?_
    refine L_yld (Y_move rfl) rfl rfl rfl ?_
    refine L_yld (Y_neq rfl rfl) rfl rfl rfl ?_
    refine L_nil ?_
    refine X_then ?_
    refine W_sub _ (.cons (i := 27) rfl (.cons (i := 7) rfl (.cons (i := 6) rfl (.cons (i := 0) rfl (.cons (i := 1) rfl (.cons (i := 2) rfl (.nil _))))))) ?_
    refine W_splitd rfl (fun e1 => ?_) (fun e1 => ?_)
    · refine W_seq ?_
      refine W_region ?_
      refine L_call (E_call (by kernel_rfl) rfl) (law02_alive _) rfl rfl rfl ?_
      rintro _ h3 ⟨rfl, hx3⟩
      refine L_yld (Y_assign rfl) rfl rfl rfl ?_
      refine L_nil ?_
      refine X_then ?_
      refine W_sub _ (.cons (i := 6) rfl (.cons (i := 7) rfl (.cons (i := 0) rfl (.cons (i := 1) rfl (.cons (i := 2) rfl (.nil _)))))) ?_
      refine W_ret ?_
      refine X_then_ret ?_
      refine X_ret1 rfl rfl ?_
      exact ⟨by simp [*], (hx2.trans hx3)⟩
    · refine W_skip ?_
      refine X_then ?_
      refine W_sub _ (.cons (i := 7) rfl (.cons (i := 6) rfl (.cons (i := 0) rfl (.cons (i := 1) rfl (.cons (i := 2) rfl (.nil _)))))) ?_
      have hpz : perr b = 0 := by simpa using e1
      have hq := parse_pad (k := (n % 100).toNat) hpz (by omega)
      have hsl := (parse_split hpz).2.2
      have hml : (b ++ List.replicate (n % 100).toNat 0).length ≤ 199 := by simp; omega
      refine W_seq ?_
      refine W_region ?_
      refine L_mks (M_litb (l := ([] : List UInt8)) (cells := []) (pv := []) (E := 5) (evp (is := []) (os := []) (vs := []) rfl rfl) rfl rfl (fun _ => by kernel_rfl)) rfl rfl rfl ?_
      rintro v4 h4 ⟨ho5, hx6⟩
      refine L_yld (Y_move rfl) rfl rfl rfl ?_
      refine L_mks (M_appb Try.underlying23 (by unfold elemRow; kernel_rfl) rfl rfl ho5 (hb.ext (hx2.trans hx6)) hx6.size (by first | omega | (simp; omega))) rfl rfl rfl ?_
      rintro v7 h5 ha8
      refine L_yld (Y_move rfl) rfl rfl rfl ?_
      refine L_yld (Y_rem rfl rfl (by omega) (by omega)) rfl rfl rfl ?_
      refine L_mks (M_appz Try.underlying23 Try.underlying5 (by unfold elemRow; kernel_rfl) rfl rfl ha8.own (hx6.then' ha8.only ha8.ge (Nat.le_refl _)).size (by omega) (by first | omega | (simp; omega))) rfl rfl rfl ?_
      rintro v9 h6 ha10
      refine L_yld (Y_assign rfl) rfl rfl rfl ?_
      refine L_nil ?_
      refine X_then ?_
      refine W_sub _ (.cons (i := 9) rfl (.cons (i := 7) rfl (.cons (i := 6) rfl (.cons (i := 2) rfl (.nil _))))) ?_
      refine W_seq ?_
      refine W_region ?_
      refine L_yld (Y_move rfl) rfl rfl rfl ?_
      refine L_call (E_call (by kernel_rfl) rfl) (cstring_Parse _ v9 (b ++ (List.replicate (n % 100).toNat 0)) ha10.own.bytes) rfl rfl rfl ?_
      rintro _ h7 ⟨rfl, hx11⟩
      refine L_yld (Y_move rfl) rfl rfl rfl ?_
      refine L_yld (Y_extract rfl rfl) rfl rfl rfl ?_
      refine L_yld (Y_extract rfl rfl) rfl rfl rfl ?_
      refine L_yld (Y_assign rfl) rfl rfl rfl ?_
      refine L_yld (Y_assign rfl) rfl rfl rfl ?_
      refine L_nil ?_
      refine X_then ?_
      refine W_sub _ (.cons (i := 11) rfl (.cons (i := 10) rfl (.cons (i := 9) rfl (.cons (i := 7) rfl (.cons (i := 6) rfl (.cons (i := 2) rfl (.nil _))))))) ?_
      refine W_seq ?_
      refine W_region ?_
      refine L_mks (M_litb (l := ([] : List UInt8)) (cells := []) (pv := []) (E := 5) (evp (is := []) (os := []) (vs := []) rfl rfl) rfl rfl (fun _ => by kernel_rfl)) rfl rfl rfl ?_
      rintro v12 h8 ⟨ho13, hx14⟩
      refine L_yld (Y_move rfl) rfl rfl rfl ?_
      refine L_mks (M_appb Try.underlying23 (by unfold elemRow; kernel_rfl) rfl rfl ho13 (ha10.own.bytes.ext (hx11.trans hx14)) hx14.size (by first | omega | (simp; omega))) rfl rfl rfl ?_
      rintro v15 h9 ha16
      refine L_yld (Y_move rfl) rfl rfl rfl ?_
      refine L_mks (M_litb (l := [(c).toNat.toUInt8]) (cells := [.int .u8 (c)]) (pv := [(0, .int .u8 (c))]) (E := 5) (evp (is := [0]) (os := [.tmp 43]) (vs := [.int .u8 (c)]) rfl rfl) rfl (by rw [bv_of (show 0 ≤ c ∧ c ≤ 255 by first | exact byt_lt _ _ | omega)]; rfl) (fun _ => by kernel_rfl)) rfl rfl rfl ?_
      rintro v17 h10 ⟨ho18, hx19⟩
      refine L_mks (M_appb Try.underlying23 (by unfold elemRow; kernel_rfl) rfl rfl (ha16.own.ext hx19) ho18.bytes ((hx14.then' ha16.only ha16.ge (Nat.le_refl _)).trans hx19).size (by first | omega | (simp; omega))) rfl rfl rfl ?_
      rintro v20 h11 ha21
      refine L_yld (Y_assign rfl) rfl rfl rfl ?_
      refine L_nil ?_
      refine X_then ?_
      refine W_sub _ (.cons (i := 12) rfl (.cons (i := 11) rfl (.cons (i := 10) rfl (.cons (i := 9) rfl (.cons (i := 7) rfl (.cons (i := 6) rfl (.cons (i := 2) rfl (.nil _)))))))) ?_
      refine W_seq ?_
      refine W_region ?_
      refine L_yld (Y_move rfl) rfl rfl rfl ?_
      refine L_call (E_call (by kernel_rfl) rfl) (cstring_Parse _ v20 ((b ++ (List.replicate (n % 100).toNat 0)) ++ [(c).toNat.toUInt8]) ha21.own.bytes) rfl rfl rfl ?_
      rintro _ h12 ⟨rfl, hx22⟩
      refine L_yld (Y_move rfl) rfl rfl rfl ?_
      refine L_yld (Y_extract rfl rfl) rfl rfl rfl ?_
      refine L_yld (Y_extract rfl rfl) rfl rfl rfl ?_
      refine L_yld (Y_assign rfl) rfl rfl rfl ?_
      refine L_yld (Y_assign rfl) rfl rfl rfl ?_
      refine L_nil ?_
      refine X_then ?_
      refine W_sub _ (.cons (i := 14) rfl (.cons (i := 13) rfl (.cons (i := 11) rfl (.cons (i := 10) rfl (.cons (i := 9) rfl (.cons (i := 7) rfl (.cons (i := 6) rfl (.cons (i := 2) rfl (.nil _))))))))) ?_
      refine W_seq ?_
      refine W_region ?_
      refine L_yld (Y_move rfl) rfl rfl rfl ?_
      refine L_yld (Y_slen Try.underlying9 rfl) rfl rfl rfl ?_
      refine L_yld (Y_move rfl) rfl rfl rfl ?_
      refine L_yld (Y_len Try.underlying23 rfl (ha10.own.bytes.ext (((((hx11.trans hx14).then' ha16.only ha16.ge hx11.size).trans hx19).then' ha21.only ha21.ge hx11.size).trans hx22))) rfl rfl rfl ?_
      refine L_yld (Y_lss rfl rfl) rfl rfl rfl ?_
      refine L_yld (Y_assign rfl) rfl rfl rfl ?_
      refine L_nil ?_
      refine X_then ?_
      refine W_sub _ (.cons (i := 15) rfl (.cons (i := 14) rfl (.cons (i := 13) rfl (.cons (i := 11) rfl (.cons (i := 10) rfl (.cons (i := 7) rfl (.cons (i := 6) rfl (.cons (i := 2) rfl (.nil _))))))))) ?_
      refine W_seq ?_
      refine W_seq ?_
      refine W_region ?_
      refine L_yld (Y_move rfl) rfl rfl rfl ?_
      refine L_yld (Y_move rfl) rfl rfl rfl ?_
      refine L_splitd (d := 57) rfl (fun hp => ?_) (fun hp => ?_)
      · refine L_yld (Y_move rfl) rfl rfl rfl ?_
        refine L_yld (Y_neq rfl rfl) rfl rfl rfl ?_
        refine L_yld (Y_pick_t rfl rfl) rfl rfl rfl ?_
        refine L_nil ?_
        refine X_then ?_
        refine W_sub _ (.cons (i := 60) rfl (.cons (i := 14) rfl (.cons (i := 13) rfl (.cons (i := 11) rfl (.cons (i := 10) rfl (.cons (i := 7) rfl (.cons (i := 6) rfl (.cons (i := 2) rfl (.nil _))))))))) ?_
        refine W_splitd rfl (fun hc0 => ?_) (fun hc0 => ?_)
        · refine W_seq ?_
          refine W_region ?_
          refine L_call (E_call (by kernel_rfl) rfl) (law02_alive _) rfl rfl rfl ?_
          rintro _ h13 ⟨rfl, hx23⟩
          refine L_yld (Y_move rfl) rfl rfl rfl ?_
          refine L_yld (Y_move rfl) rfl rfl rfl ?_
          refine L_yld (Y_eql rfl rfl) rfl rfl rfl ?_
          refine L_yld (Y_pick_t rfl rfl) rfl rfl rfl ?_
          refine L_yld (Y_move rfl) rfl rfl rfl ?_
          refine L_known (d := 66) true rfl (by exact decide_eq_true (by simp [hq.1])) ?_
          refine L_yld (Y_move rfl) rfl rfl rfl ?_
          refine L_yld (Y_move rfl) rfl rfl rfl ?_
          refine L_yld (Y_seql rfl rfl) rfl rfl rfl ?_
          refine L_yld (Y_pick_t rfl rfl) rfl rfl rfl ?_
          refine L_yld (Y_move rfl) rfl rfl rfl ?_
          refine L_known (d := 71) true rfl (by exact decide_eq_true (by simp [hq.2])) ?_
          refine L_yld (Y_move rfl) rfl rfl rfl ?_
          refine L_yld (Y_eql rfl rfl) rfl rfl rfl ?_
          refine L_yld (Y_pick_t rfl rfl) rfl rfl rfl ?_
          refine L_yld (Y_assign rfl) rfl rfl rfl ?_
          refine L_nil ?_
          refine X_then ?_
          refine W_sub _ (.cons (i := 6) rfl (.cons (i := 14) rfl (.cons (i := 13) rfl (.cons (i := 11) rfl (.cons (i := 10) rfl (.cons (i := 7) rfl (.cons (i := 2) rfl (.nil _)))))))) ?_
          refine W_ret ?_
          refine X_then_ret ?_
          refine X_ret1 rfl rfl ?_
          exact ⟨congrArg Value.bool (decide_eq_true (parse_odd (b := b ++ List.replicate (n % 100).toNat 0) hq.1 (by omega) (u8_ne hc (by simpa using hc0)) (by rw [hq.2]; have := hp; simp at this ⊢; omega))), ((((((((((hx2.trans hx6).then' ha8.only ha8.ge hx2.size).then' ha10.only ha10.ge hx2.size).trans hx11).trans hx14).then' ha16.only ha16.ge ((((hx2.trans hx6).then' ha8.only ha8.ge hx2.size).then' ha10.only ha10.ge hx2.size).trans hx11).size).trans hx19).then' ha21.only ha21.ge ((((hx2.trans hx6).then' ha8.only ha8.ge hx2.size).then' ha10.only ha10.ge hx2.size).trans hx11).size).trans hx22).trans hx23)⟩
        · refine W_skip ?_
          refine X_then ?_
          refine W_sub _ (.cons (i := 14) rfl (.cons (i := 13) rfl (.cons (i := 11) rfl (.cons (i := 10) rfl (.cons (i := 7) rfl (.cons (i := 6) rfl (.cons (i := 2) rfl (.nil _)))))))) ?_
          refine W_seq ?_
          refine W_region ?_
          refine L_yld (Y_move rfl) rfl rfl rfl ?_
          refine L_yld (Y_assign rfl) rfl rfl rfl ?_
          refine L_nil ?_
          refine X_then ?_
          refine W_sub _ (.cons (i := 16) rfl (.cons (i := 14) rfl (.cons (i := 13) rfl (.cons (i := 11) rfl (.cons (i := 10) rfl (.cons (i := 7) rfl (.cons (i := 6) rfl (.cons (i := 2) rfl (.nil _))))))))) ?_
          refine W_seq ?_
          refine W_seq ?_
          refine W_region ?_
          refine L_yld (Y_move rfl) rfl rfl rfl ?_
          refine L_yld (Y_neq rfl rfl) rfl rfl rfl ?_
          refine L_nil ?_
          refine X_then ?_
          refine W_sub _ (.cons (i := 77) rfl (.cons (i := 16) rfl (.cons (i := 14) rfl (.cons (i := 13) rfl (.cons (i := 11) rfl (.cons (i := 10) rfl (.cons (i := 7) rfl (.cons (i := 6) rfl (.cons (i := 2) rfl (.nil _)))))))))) ?_
          refine W_known false rfl (by exact decide_eq_false (by exact hc0)) ?_
          refine W_skip ?_
          refine X_then ?_
          refine W_sub _ (.cons (i := 16) rfl (.cons (i := 14) rfl (.cons (i := 13) rfl (.cons (i := 11) rfl (.cons (i := 10) rfl (.cons (i := 7) rfl (.cons (i := 6) rfl (.nil _)))))))) ?_
          obtain rfl : c = 0 := by simpa using hc0
          have hr := parse_pad (k := 1) hq.1 (by omega)
          refine W_seq ?_
          refine W_region ?_
          refine L_call (E_call (by kernel_rfl) rfl) (law02_alive _) rfl rfl rfl ?_
          rintro _ h14 ⟨rfl, hx24⟩
          refine L_yld (Y_move rfl) rfl rfl rfl ?_
          refine L_yld (Y_move rfl) rfl rfl rfl ?_
          refine L_yld (Y_eql rfl rfl) rfl rfl rfl ?_
          refine L_yld (Y_pick_t rfl rfl) rfl rfl rfl ?_
          refine L_yld (Y_move rfl) rfl rfl rfl ?_
          refine L_known (d := 88) true rfl (by exact decide_eq_true (by simp [hq.1])) ?_
          refine L_yld (Y_move rfl) rfl rfl rfl ?_
          refine L_yld (Y_move rfl) rfl rfl rfl ?_
          refine L_yld (Y_seql rfl rfl) rfl rfl rfl ?_
          refine L_yld (Y_pick_t rfl rfl) rfl rfl rfl ?_
          refine L_yld (Y_move rfl) rfl rfl rfl ?_
          refine L_known (d := 93) true rfl (by exact decide_eq_true (by simp [hq.2])) ?_
          refine L_yld (Y_move rfl) rfl rfl rfl ?_
          refine L_yld (Y_eql rfl rfl) rfl rfl rfl ?_
          refine L_yld (Y_pick_t rfl rfl) rfl rfl rfl ?_
          refine L_yld (Y_move rfl) rfl rfl rfl ?_
          refine L_known (d := 97) true rfl (by exact decide_eq_true (by exact hr.1)) ?_
          refine L_yld (Y_move rfl) rfl rfl rfl ?_
          refine L_yld (Y_move rfl) rfl rfl rfl ?_
          refine L_yld (Y_seql rfl rfl) rfl rfl rfl ?_
          refine L_yld (Y_pick_t rfl rfl) rfl rfl rfl ?_
          refine L_yld (Y_assign rfl) rfl rfl rfl ?_
          refine L_nil ?_
          refine X_then ?_
          refine W_sub _ (.cons (i := 6) rfl (.nil _)) ?_
          refine W_ret ?_
          refine X_ret1 rfl rfl ?_
          exact ⟨congrArg Value.bool (decide_eq_true (hr.2.trans hq.2)), ((((((((((hx2.trans hx6).then' ha8.only ha8.ge hx2.size).then' ha10.only ha10.ge hx2.size).trans hx11).trans hx14).then' ha16.only ha16.ge ((((hx2.trans hx6).then' ha8.only ha8.ge hx2.size).then' ha10.only ha10.ge hx2.size).trans hx11).size).trans hx19).then' ha21.only ha21.ge ((((hx2.trans hx6).then' ha8.only ha8.ge hx2.size).then' ha10.only ha10.ge hx2.size).trans hx11).size).trans hx22).trans hx24)⟩
      · refine L_skip rfl rfl rfl ?_
        refine L_skip rfl rfl rfl ?_
        refine L_yld (Y_pick_f rfl rfl) rfl rfl rfl ?_
        refine L_nil ?_
        refine X_then ?_
        refine W_sub _ (.cons (i := 60) rfl (.cons (i := 14) rfl (.cons (i := 13) rfl (.cons (i := 11) rfl (.cons (i := 10) rfl (.cons (i := 7) rfl (.cons (i := 6) rfl (.cons (i := 2) rfl (.nil _))))))))) ?_
        refine W_false rfl ?_
        refine W_skip ?_
        refine X_then ?_
        refine W_sub _ (.cons (i := 14) rfl (.cons (i := 13) rfl (.cons (i := 11) rfl (.cons (i := 10) rfl (.cons (i := 7) rfl (.cons (i := 6) rfl (.cons (i := 2) rfl (.nil _)))))))) ?_
        refine W_seq ?_
        refine W_region ?_
        refine L_yld (Y_move rfl) rfl rfl rfl ?_
        refine L_yld (Y_assign rfl) rfl rfl rfl ?_
        refine L_nil ?_
        refine X_then ?_
        refine W_sub _ (.cons (i := 16) rfl (.cons (i := 14) rfl (.cons (i := 13) rfl (.cons (i := 11) rfl (.cons (i := 10) rfl (.cons (i := 7) rfl (.cons (i := 6) rfl (.cons (i := 2) rfl (.nil _))))))))) ?_
        refine W_seq ?_
        refine W_seq ?_
        refine W_region ?_
        refine L_yld (Y_move rfl) rfl rfl rfl ?_
        refine L_yld (Y_neq rfl rfl) rfl rfl rfl ?_
        refine L_nil ?_
        refine X_then ?_
        refine W_sub _ (.cons (i := 77) rfl (.cons (i := 16) rfl (.cons (i := 14) rfl (.cons (i := 13) rfl (.cons (i := 11) rfl (.cons (i := 10) rfl (.cons (i := 7) rfl (.cons (i := 6) rfl (.cons (i := 2) rfl (.nil _)))))))))) ?_
        refine W_splitd rfl (fun hc1 => ?_) (fun hc1 => ?_)
        · refine W_region ?_
          refine L_yld (Y_move rfl) rfl rfl rfl ?_
          refine L_yld (Y_move rfl) rfl rfl rfl ?_
          refine L_mks (M_litb (l := [(c).toNat.toUInt8]) (cells := [.int .u8 (c)]) (pv := [(0, .int .u8 (c))]) (E := 5) (evp (is := [0]) (os := [.tmp 79]) (vs := [.int .u8 (c)]) rfl rfl) rfl (by rw [bv_of (show 0 ≤ c ∧ c ≤ 255 by first | exact byt_lt _ _ | omega)]; rfl) (fun _ => by kernel_rfl)) rfl rfl rfl ?_
          rintro v25 h15 ⟨ho26, hx27⟩
          refine L_yld (Y_bytes_str Try.underlying23 Try.underlying5 Try.underlying9 rfl ho26.bytes) rfl rfl rfl ?_
          refine L_yld (Y_sadd rfl rfl (by first | omega | (simp <;> omega))) rfl rfl rfl ?_
          refine L_yld (Y_assign rfl) rfl rfl rfl ?_
          refine L_nil ?_
          refine X_then ?_
          refine W_sub _ (.cons (i := 16) rfl (.cons (i := 14) rfl (.cons (i := 13) rfl (.cons (i := 11) rfl (.cons (i := 10) rfl (.cons (i := 7) rfl (.cons (i := 6) rfl (.nil _)))))))) ?_
          have hr := parse_more (b := b ++ List.replicate (n % 100).toNat 0) hq.1 (by omega) (u8_ne hc (by simpa using hc1)) (by rw [hq.2]; have := hp; simp at this ⊢; omega)
          refine W_seq ?_
          refine W_region ?_
          refine L_call (E_call (by kernel_rfl) rfl) (law02_alive _) rfl rfl rfl ?_
          rintro _ h16 ⟨rfl, hx28⟩
          refine L_yld (Y_move rfl) rfl rfl rfl ?_
          refine L_yld (Y_move rfl) rfl rfl rfl ?_
          refine L_yld (Y_eql rfl rfl) rfl rfl rfl ?_
          refine L_yld (Y_pick_t rfl rfl) rfl rfl rfl ?_
          refine L_yld (Y_move rfl) rfl rfl rfl ?_
          refine L_known (d := 88) true rfl (by exact decide_eq_true (by simp [hq.1])) ?_
          refine L_yld (Y_move rfl) rfl rfl rfl ?_
          refine L_yld (Y_move rfl) rfl rfl rfl ?_
          refine L_yld (Y_seql rfl rfl) rfl rfl rfl ?_
          refine L_yld (Y_pick_t rfl rfl) rfl rfl rfl ?_
          refine L_yld (Y_move rfl) rfl rfl rfl ?_
          refine L_known (d := 93) true rfl (by exact decide_eq_true (by simp [hq.2])) ?_
          refine L_yld (Y_move rfl) rfl rfl rfl ?_
          refine L_yld (Y_eql rfl rfl) rfl rfl rfl ?_
          refine L_yld (Y_pick_t rfl rfl) rfl rfl rfl ?_
          refine L_yld (Y_move rfl) rfl rfl rfl ?_
          refine L_known (d := 97) true rfl (by exact decide_eq_true (by exact hr.1)) ?_
          refine L_yld (Y_move rfl) rfl rfl rfl ?_
          refine L_yld (Y_move rfl) rfl rfl rfl ?_
          refine L_yld (Y_seql rfl rfl) rfl rfl rfl ?_
          refine L_yld (Y_pick_t rfl rfl) rfl rfl rfl ?_
          refine L_yld (Y_assign rfl) rfl rfl rfl ?_
          refine L_nil ?_
          refine X_then ?_
          refine W_sub _ (.cons (i := 6) rfl (.nil _)) ?_
          refine W_ret ?_
          refine X_ret1 rfl rfl ?_
          exact ⟨congrArg Value.bool (decide_eq_true (hr.2.trans (by rw [hq.2]))), (((((((((((hx2.trans hx6).then' ha8.only ha8.ge hx2.size).then' ha10.only ha10.ge hx2.size).trans hx11).trans hx14).then' ha16.only ha16.ge ((((hx2.trans hx6).then' ha8.only ha8.ge hx2.size).then' ha10.only ha10.ge hx2.size).trans hx11).size).trans hx19).then' ha21.only ha21.ge ((((hx2.trans hx6).then' ha8.only ha8.ge hx2.size).then' ha10.only ha10.ge hx2.size).trans hx11).size).trans hx22).trans hx27).trans hx28)⟩
        · refine W_skip ?_
          refine X_then ?_
          refine W_sub _ (.cons (i := 16) rfl (.cons (i := 14) rfl (.cons (i := 13) rfl (.cons (i := 11) rfl (.cons (i := 10) rfl (.cons (i := 7) rfl (.cons (i := 6) rfl (.nil _)))))))) ?_
          obtain rfl : c = 0 := by simpa using hc1
          have hr := parse_pad (k := 1) hq.1 (by omega)
          refine W_seq ?_
          refine W_region ?_
          refine L_call (E_call (by kernel_rfl) rfl) (law02_alive _) rfl rfl rfl ?_
          rintro _ h17 ⟨rfl, hx29⟩
          refine L_yld (Y_move rfl) rfl rfl rfl ?_
          refine L_yld (Y_move rfl) rfl rfl rfl ?_
          refine L_yld (Y_eql rfl rfl) rfl rfl rfl ?_
          refine L_yld (Y_pick_t rfl rfl) rfl rfl rfl ?_
          refine L_yld (Y_move rfl) rfl rfl rfl ?_
          refine L_known (d := 88) true rfl (by exact decide_eq_true (by simp [hq.1])) ?_
          refine L_yld (Y_move rfl) rfl rfl rfl ?_
          refine L_yld (Y_move rfl) rfl rfl rfl ?_
          refine L_yld (Y_seql rfl rfl) rfl rfl rfl ?_
          refine L_yld (Y_pick_t rfl rfl) rfl rfl rfl ?_
          refine L_yld (Y_move rfl) rfl rfl rfl ?_
          refine L_known (d := 93) true rfl (by exact decide_eq_true (by simp [hq.2])) ?_
          refine L_yld (Y_move rfl) rfl rfl rfl ?_
          refine L_yld (Y_eql rfl rfl) rfl rfl rfl ?_
          refine L_yld (Y_pick_t rfl rfl) rfl rfl rfl ?_
          refine L_yld (Y_move rfl) rfl rfl rfl ?_
          refine L_known (d := 97) true rfl (by exact decide_eq_true (by exact hr.1)) ?_
          refine L_yld (Y_move rfl) rfl rfl rfl ?_
          refine L_yld (Y_move rfl) rfl rfl rfl ?_
          refine L_yld (Y_seql rfl rfl) rfl rfl rfl ?_
          refine L_yld (Y_pick_t rfl rfl) rfl rfl rfl ?_
          refine L_yld (Y_assign rfl) rfl rfl rfl ?_
          refine L_nil ?_
          refine X_then ?_
          refine W_sub _ (.cons (i := 6) rfl (.nil _)) ?_
          refine W_ret ?_
          refine X_ret1 rfl rfl ?_
          exact ⟨congrArg Value.bool (decide_eq_true (hr.2.trans hq.2)), ((((((((((hx2.trans hx6).then' ha8.only ha8.ge hx2.size).then' ha10.only ha10.ge hx2.size).trans hx11).trans hx14).then' ha16.only ha16.ge ((((hx2.trans hx6).then' ha8.only ha8.ge hx2.size).then' ha10.only ha10.ge hx2.size).trans hx11).size).trans hx19).then' ha21.only ha21.ge ((((hx2.trans hx6).then' ha8.only ha8.ge hx2.size).then' ha10.only ha10.ge hx2.size).trans hx11).size).trans hx22).trans hx29)⟩

theorem beq_of_iff {p q : Prop} [Decidable p] [Decidable q] (h : p ↔ q) : (decide p == decide q) = true := by
  by_cases hp : p
  · simp [hp, h.1 hp]
  · simp [hp, mt h.2 hp]
theorem bne_of_iff {p q : Prop} [Decidable p] [Decidable q] (h : p ↔ q) : (decide p != decide q) = false := by
  by_cases hp : p
  · simp [hp, h.1 hp]
  · simp [hp, mt h.2 hp]

set_option maxRecDepth 100000 in
set_option maxHeartbeats 1000000 in
theorem law02_Maximal (h : Heap) (n : Int) (hn : 0 ≤ n ∧ n ≤ 65535) : Cal Try.prog 4 #[.int .u16 (n)] h (fun v h' => v = .bool true ∧ Ext h h') := by
  have hL : (Lib.repeatL [120] (n % 300).toNat).length = (n % 300).toNat := by rw [repeatL_one]; simp
  have h0 : (0 : UInt8) ∉ Lib.repeatL [120] (n % 300).toNat := by rw [repeatL_one]; simp
  generalize hLL : Lib.repeatL [120] (n % 300).toNat = L at hL h0
  have hk : (n % 300).toNat < 300 := by omega
  have c2 : ∀ w : Int, ¬ (1 ≤ w ∧ w ≤ 256) → cerr L w = 2 := fun w hw => by unfold cerr; rw [if_pos hw]
  have c0 : ∀ w : Int, cerr L w = 0 ↔ (1 ≤ w ∧ w ≤ 256) ∧ (L.length : Int) ≤ w := fun w => cerr_zero.trans ⟨fun h => ⟨h.1, h.2.2⟩, fun h => ⟨h.1, h0, h.2⟩⟩
  have c7 : ∀ w : Int, 1 ≤ w ∧ w ≤ 256 → w < L.length → cerr L w = 7 := fun w h1 h2 => by unfold cerr; rw [if_neg (by omega), if_neg h0, if_pos h2]
  refine Cal_enter (args := [.int .u16 (n)]) Try.func4 rfl rfl rfl (fun σ => ?_)
  refine W_seq ?_
  refine W_region ?_
  refine L_yld (Y_assign rfl) rfl rfl rfl ?_
  refine L_nil ?_
  refine X_then ?_
  refine W_seq ?_
  refine W_region ?_
  refine L_yld (Y_move rfl) rfl rfl rfl ?_
  refine L_yld (Y_convs Try.underlying30 Try.underlying3 rfl (wrap_i64 (by omega) (by omega))) rfl rfl rfl ?_
  refine L_yld (Y_rem rfl rfl (by omega) (by omega)) rfl rfl rfl ?_
  refine L_call (E_call (by kernel_rfl) rfl) (strings_Repeat _ [120] (n % 300) (by first | omega | rfl | (simp <;> omega)) (by first | omega | rfl | (simp <;> omega))) rfl rfl rfl ?_
  rintro _ h1 ⟨rfl, hx1⟩
  refine L_yld (Y_assign rfl) rfl rfl rfl ?_
  refine L_nil ?_
  refine X_then ?_
  refine W_sub _ (.cons (i := 3) rfl (.cons (i := 2) rfl (.nil _))) ?_
  rw [hLL]
  refine W_seq ?_
  refine W_region ?_
  refine L_yld (Y_move rfl) rfl rfl rfl ?_
  refine L_yld (Y_move rfl) rfl rfl rfl ?_
  refine L_yld (Y_slen Try.underlying9 rfl) rfl rfl rfl ?_
  refine L_call (E_call (by kernel_rfl) rfl) (cstring_Format _ L (L.length : Int)) rfl rfl rfl ?_
  rintro _ h2 ⟨s02, rfl, hr03, hx4⟩
  refine L_yld (Y_move rfl) rfl rfl rfl ?_
  refine L_yld (Y_extract rfl rfl) rfl rfl rfl ?_
  refine L_yld (Y_extract rfl rfl) rfl rfl rfl ?_
  refine L_yld (Y_assign rfl) rfl rfl rfl ?_
  refine L_yld (Y_assign rfl) rfl rfl rfl ?_
  refine L_nil ?_
  refine X_then ?_
  refine W_sub _ (.cons (i := 5) rfl (.cons (i := 4) rfl (.cons (i := 3) rfl (.cons (i := 2) rfl (.nil _))))) ?_
  refine W_seq ?_
  refine W_seq ?_
  refine W_region ?_
  refine L_yld (Y_move rfl) rfl rfl rfl ?_
  refine L_yld (Y_slen Try.underlying9 rfl) rfl rfl rfl ?_
  refine L_yld (Y_eql rfl rfl) rfl rfl rfl ?_
  refine L_yld (Y_move rfl) rfl rfl rfl ?_
  refine L_splitd (d := 22) rfl (fun z => ?_) (fun z => ?_)
  · refine L_skip rfl rfl rfl ?_
    refine L_skip rfl rfl rfl ?_
    refine L_skip rfl rfl rfl ?_
    refine L_yld (Y_pick_t rfl rfl) rfl rfl rfl ?_
    refine L_nil ?_
    refine X_then ?_
    refine W_sub _ (.cons (i := 26) rfl (.cons (i := 5) rfl (.cons (i := 4) rfl (.cons (i := 3) rfl (.cons (i := 2) rfl (.nil _)))))) ?_
    refine W_true rfl ?_
    refine W_seq ?_
    refine W_region ?_
    refine L_call (E_call (by kernel_rfl) rfl) (law02_alive _) rfl rfl rfl ?_
    rintro _ h3 ⟨rfl, hx5⟩
    refine L_yld (Y_move rfl) rfl rfl rfl ?_
    refine L_yld (Y_move rfl) rfl rfl rfl ?_
    refine L_yld (Y_eql rfl rfl) rfl rfl rfl ?_
    refine L_yld (Y_pick_t rfl rfl) rfl rfl rfl ?_
    refine L_yld (Y_move rfl) rfl rfl rfl ?_
    refine L_known (d := 32) true rfl (by exact decide_eq_true (by exact c2 _ (by omega))) ?_
    refine L_yld (Y_move rfl) rfl rfl rfl ?_
    refine L_call (E_call (by kernel_rfl) rfl) (cstring_Fits _ L (257 : Int)) rfl rfl rfl ?_
    rintro _ h3 ⟨rfl, rfl⟩
    refine L_yld (Y_notd rfl) rfl rfl rfl ?_
    refine L_yld (Y_pick_t rfl rfl) rfl rfl rfl ?_
    refine L_yld (Y_move rfl) rfl rfl rfl ?_
    refine L_known (d := 37) true rfl (by exact decide_eq_true (by intro h9; have := (c0 _).1 h9; omega)) ?_
    refine L_yld (Y_move rfl) rfl rfl rfl ?_
    refine L_call (E_call (by kernel_rfl) rfl) (cstring_Fits _ L (256 : Int)) rfl rfl rfl ?_
    rintro _ h3 ⟨rfl, rfl⟩
    refine L_yld (Y_move rfl) rfl rfl rfl ?_
    refine L_yld (Y_slen Try.underlying9 rfl) rfl rfl rfl ?_
    refine L_yld (Y_eql rfl rfl) rfl rfl rfl ?_
    refine L_yld (Y_beql Try.underlying4 rfl rfl) rfl rfl rfl ?_
    refine L_yld (Y_pick_t rfl rfl) rfl rfl rfl ?_
    refine L_yld (Y_assign rfl) rfl rfl rfl ?_
    refine L_nil ?_
    refine X_then ?_
    refine W_sub _ (.cons (i := 2) rfl (.cons (i := 5) rfl (.cons (i := 4) rfl (.cons (i := 3) rfl (.nil _))))) ?_
    refine W_ret ?_
    refine X_then_ret ?_
    refine X_ret1 rfl rfl ?_
    exact ⟨congrArg Value.bool (beq_of_iff ((c0 _).trans (by omega))), ((hx1.trans hx4).trans hx5)⟩
  · refine L_yld (Y_move rfl) rfl rfl rfl ?_
    refine L_yld (Y_slen Try.underlying9 rfl) rfl rfl rfl ?_
    refine L_yld (Y_gtr rfl rfl) rfl rfl rfl ?_
    refine L_yld (Y_pick_f rfl rfl) rfl rfl rfl ?_
    refine L_nil ?_
    refine X_then ?_
    refine W_sub _ (.cons (i := 26) rfl (.cons (i := 5) rfl (.cons (i := 4) rfl (.cons (i := 3) rfl (.cons (i := 2) rfl (.nil _)))))) ?_
    refine W_splitd rfl (fun zz => ?_) (fun zz => ?_)
    · refine W_seq ?_
      refine W_region ?_
      refine L_call (E_call (by kernel_rfl) rfl) (law02_alive _) rfl rfl rfl ?_
      rintro _ h4 ⟨rfl, hx6⟩
      refine L_yld (Y_move rfl) rfl rfl rfl ?_
      refine L_yld (Y_move rfl) rfl rfl rfl ?_
      refine L_yld (Y_eql rfl rfl) rfl rfl rfl ?_
      refine L_yld (Y_pick_t rfl rfl) rfl rfl rfl ?_
      refine L_yld (Y_move rfl) rfl rfl rfl ?_
      refine L_known (d := 32) true rfl (by exact decide_eq_true (by exact c2 _ (by omega))) ?_
      refine L_yld (Y_move rfl) rfl rfl rfl ?_
      refine L_call (E_call (by kernel_rfl) rfl) (cstring_Fits _ L (257 : Int)) rfl rfl rfl ?_
      rintro _ h4 ⟨rfl, rfl⟩
      refine L_yld (Y_notd rfl) rfl rfl rfl ?_
      refine L_yld (Y_pick_t rfl rfl) rfl rfl rfl ?_
      refine L_yld (Y_move rfl) rfl rfl rfl ?_
      refine L_known (d := 37) true rfl (by exact decide_eq_true (by intro h9; have := (c0 _).1 h9; omega)) ?_
      refine L_yld (Y_move rfl) rfl rfl rfl ?_
      refine L_call (E_call (by kernel_rfl) rfl) (cstring_Fits _ L (256 : Int)) rfl rfl rfl ?_
      rintro _ h4 ⟨rfl, rfl⟩
      refine L_yld (Y_move rfl) rfl rfl rfl ?_
      refine L_yld (Y_slen Try.underlying9 rfl) rfl rfl rfl ?_
      refine L_yld (Y_eql rfl rfl) rfl rfl rfl ?_
      refine L_yld (Y_beql Try.underlying4 rfl rfl) rfl rfl rfl ?_
      refine L_yld (Y_pick_t rfl rfl) rfl rfl rfl ?_
      refine L_yld (Y_assign rfl) rfl rfl rfl ?_
      refine L_nil ?_
      refine X_then ?_
      refine W_sub _ (.cons (i := 2) rfl (.cons (i := 5) rfl (.cons (i := 4) rfl (.cons (i := 3) rfl (.nil _))))) ?_
      refine W_ret ?_
      refine X_then_ret ?_
      refine X_ret1 rfl rfl ?_
      exact ⟨congrArg Value.bool (beq_of_iff ((c0 _).trans (by omega))), ((hx1.trans hx4).trans hx6)⟩
    · refine W_skip ?_
      refine X_then ?_
      refine W_sub _ (.cons (i := 5) rfl (.cons (i := 4) rfl (.cons (i := 3) rfl (.cons (i := 2) rfl (.nil _))))) ?_
      refine W_seq ?_
      refine W_region ?_
      refine L_yld (Y_move rfl) rfl rfl rfl ?_
      refine L_yld (Y_move rfl) rfl rfl rfl ?_
      refine L_yld (Y_slen Try.underlying9 rfl) rfl rfl rfl ?_
      refine L_yld (Y_sub rfl rfl (by omega) (by omega)) rfl rfl rfl ?_
      refine L_call (E_call (by kernel_rfl) rfl) (cstring_Format _ L ((L.length : Int) - 1)) rfl rfl rfl ?_
      rintro _ h5 ⟨s07, rfl, hr08, hx9⟩
      refine L_yld (Y_move rfl) rfl rfl rfl ?_
      refine L_yld (Y_extract rfl rfl) rfl rfl rfl ?_
      refine L_yld (Y_extract rfl rfl) rfl rfl rfl ?_
      refine L_yld (Y_assign rfl) rfl rfl rfl ?_
      refine L_yld (Y_assign rfl) rfl rfl rfl ?_
      refine L_nil ?_
      refine X_then ?_
      refine W_sub _ (.cons (i := 7) rfl (.cons (i := 5) rfl (.cons (i := 4) rfl (.cons (i := 3) rfl (.cons (i := 2) rfl (.nil _)))))) ?_
      refine W_seq ?_
      refine W_region ?_
      refine L_call (E_call (by kernel_rfl) rfl) (law02_alive _) rfl rfl rfl ?_
      rintro _ h6 ⟨rfl, hx10⟩
      refine L_yld (Y_move rfl) rfl rfl rfl ?_
      refine L_yld (Y_move rfl) rfl rfl rfl ?_
      refine L_yld (Y_eql rfl rfl) rfl rfl rfl ?_
      refine L_yld (Y_pick_t rfl rfl) rfl rfl rfl ?_
      refine L_yld (Y_move rfl) rfl rfl rfl ?_
      refine L_known (d := 58) true rfl (by exact decide_eq_true (by exact (c0 _).2 (by omega))) ?_
      refine L_yld (Y_move rfl) rfl rfl rfl ?_
      refine L_yld (Y_bytes_str Try.underlying23 Try.underlying5 Try.underlying9 rfl (hr03.ext (hx9.trans hx10))) rfl rfl rfl ?_
      refine L_yld (Y_move rfl) rfl rfl rfl ?_
      refine L_yld (Y_seql rfl rfl) rfl rfl rfl ?_
      refine L_yld (Y_pick_t rfl rfl) rfl rfl rfl ?_
      refine L_yld (Y_move rfl) rfl rfl rfl ?_
      refine L_known (d := 64) true rfl (by exact decide_eq_true (by have h9 := (c0 (L.length : Int)).2 (by omega); unfold cfmt; rw [if_pos h9]; simp)) ?_
      refine L_yld (Y_move rfl) rfl rfl rfl ?_
      refine L_call (E_call (by kernel_rfl) rfl) (cstring_Fits _ L (256 : Int)) rfl rfl rfl ?_
      rintro _ h6 ⟨rfl, rfl⟩
      refine L_yld (Y_pick_t rfl rfl) rfl rfl rfl ?_
      refine L_yld (Y_move rfl) rfl rfl rfl ?_
      refine L_known (d := 68) true rfl (by exact decide_eq_true (by exact (c0 _).2 (by omega))) ?_
      refine L_yld (Y_move rfl) rfl rfl rfl ?_
      refine L_yld (Y_eql rfl rfl) rfl rfl rfl ?_
      refine L_yld (Y_move rfl) rfl rfl rfl ?_
      refine L_yld (Y_slen Try.underlying9 rfl) rfl rfl rfl ?_
      refine L_yld (Y_gtr rfl rfl) rfl rfl rfl ?_
      refine L_yld (Y_beql Try.underlying4 rfl rfl) rfl rfl rfl ?_
      refine L_yld (Y_pick_t rfl rfl) rfl rfl rfl ?_
      refine L_yld (Y_assign rfl) rfl rfl rfl ?_
      refine L_nil ?_
      refine X_then ?_
      refine W_sub _ (.cons (i := 2) rfl (.nil _)) ?_
      refine W_ret ?_
      refine X_ret1 rfl rfl ?_
      refine ⟨congrArg Value.bool (beq_of_iff ⟨fun h9 => ?_, fun h9 => c7 _ (by omega) (by omega)⟩), (((hx1.trans hx4).trans hx9).trans hx10)⟩
      apply Int.not_le.1
      intro h8
      rw [c2 _ (by omega)] at h9
      cases h9

theorem cfmt_wider {s : List UInt8} {v w : Int} (h1 : cerr s v = 0) (h2 : cerr s w = 0) (hvw : v ≤ w) : cfmt s w = cfmt s v ++ Lib.repeatL [0] (w - v).toNat := by
  have h3 := (cerr_zero.1 h1).2.2
  unfold cfmt
  rw [if_pos h1, if_pos h2, repeatL_one, List.append_assoc, List.replicate_append_replicate]
  congr 2; omega
theorem cfmt_length (s : List UInt8) (w : Int) : (cfmt s w).length ≤ 256 := by
  unfold cfmt
  split
  · rename_i h
    obtain ⟨h1, h2, h3⟩ := cerr_zero.1 h
    simp; omega
  · simp

set_option maxRecDepth 100000 in
theorem law02_Widths (h : Heap) (s : List UInt8) (a : Int) (b : Int) (hs : s.length ≤ 9223372036854775807) (ha : 0 ≤ a ∧ a ≤ 255) (hb : 0 ≤ b ∧ b ≤ 255) : Cal Try.prog 8 #[str s, .int .u8 (a), .int .u8 (b)] h (fun v h' => v = .bool true ∧ Ext h h') := by
  refine Cal_enter (args := [str s, .int .u8 (a), .int .u8 (b)]) Try.func8 rfl rfl rfl (fun σ => ?_)
  refine W_seq ?_
  refine W_region ?_
  refine L_yld (Y_assign rfl) rfl rfl rfl ?_
  refine L_nil ?_
  refine X_then ?_
  refine W_seq ?_
  refine W_seq ?_
  refine W_region ?_
  refine L_yld (Y_move rfl) rfl rfl rfl ?_
  refine L_call (E_call (by kernel_rfl) rfl) (strings_Contains _ s [0] (by first | omega | rfl | (simp <;> omega))) rfl rfl rfl ?_
  rintro _ h ⟨rfl, rfl⟩
  refine L_yld (Y_move rfl) rfl rfl rfl ?_
  refine L_splitd (d := 15) rfl (fun g1 => ?_) (fun g1 => ?_)
  · refine L_skip rfl rfl rfl ?_
    refine L_skip rfl rfl rfl ?_
    refine L_skip rfl rfl rfl ?_
    refine L_yld (Y_pick_t rfl rfl) rfl rfl rfl ?_
    refine L_nil ?_
    refine X_then ?_
    refine W_sub _ (.cons (i := 19) rfl (.cons (i := 6) rfl (.cons (i := 0) rfl (.cons (i := 1) rfl (.cons (i := 2) rfl (.nil _)))))) ?_
    refine W_true rfl ?_
    refine W_seq ?_
    refine W_region ?_
    refine L_call (E_call (by kernel_rfl) rfl) (law02_alive _) rfl rfl rfl ?_
    rintro _ h1 ⟨rfl, hx1⟩
    refine L_yld (Y_assign rfl) rfl rfl rfl ?_
    refine L_nil ?_
    refine X_then ?_
    refine W_sub _ (.cons (i := 6) rfl (.cons (i := 0) rfl (.cons (i := 1) rfl (.cons (i := 2) rfl (.nil _))))) ?_
    refine W_ret ?_
    refine X_then_ret ?_
    refine X_ret1 rfl rfl ?_
    exact ⟨rfl, hx1⟩
  · refine L_yld (Y_move rfl) rfl rfl rfl ?_
    refine L_yld (Y_slen Try.underlying9 rfl) rfl rfl rfl ?_
    refine L_yld (Y_gtr rfl rfl) rfl rfl rfl ?_
    refine L_yld (Y_pick_f rfl rfl) rfl rfl rfl ?_
    refine L_nil ?_
    refine X_then ?_
    refine W_sub _ (.cons (i := 19) rfl (.cons (i := 6) rfl (.cons (i := 0) rfl (.cons (i := 1) rfl (.cons (i := 2) rfl (.nil _)))))) ?_
    refine W_splitd rfl (fun g2 => ?_) (fun g2 => ?_)
    · refine W_seq ?_
      refine W_region ?_
      refine L_call (E_call (by kernel_rfl) rfl) (law02_alive _) rfl rfl rfl ?_
      rintro _ h2 ⟨rfl, hx2⟩
      refine L_yld (Y_assign rfl) rfl rfl rfl ?_
      refine L_nil ?_
      refine X_then ?_
      refine W_sub _ (.cons (i := 6) rfl (.cons (i := 0) rfl (.cons (i := 1) rfl (.cons (i := 2) rfl (.nil _))))) ?_
      refine W_ret ?_
      refine X_then_ret ?_
      refine X_ret1 rfl rfl ?_
      exact ⟨rfl, hx2⟩
    · refine W_skip ?_
      refine X_then ?_
      refine W_sub _ (.cons (i := 6) rfl (.cons (i := 0) rfl (.cons (i := 1) rfl (.cons (i := 2) rfl (.nil _))))) ?_
      have h0 : (0 : UInt8) ∉ s := fun h9 => g1 ((indexByte_mem s _).2 h9)
      have hb1 := cfmt_length s (1 + min a b)
      have hb2 : (Lib.repeatL [0] (1 + max a b - (1 + min a b)).toNat).length ≤ 256 := by rw [repeatL_one]; simp; omega
      have hmm : 1 ≤ 1 + min a b ∧ 1 + min a b ≤ 1 + max a b ∧ 1 + max a b ≤ 256 := by omega
      have c0 : ∀ w : Int, 1 ≤ w ∧ w ≤ 256 → (cerr s w = 0 ↔ (s.length : Int) ≤ w) := fun w hw => cerr_zero.trans ⟨fun h => h.2.2, fun h => ⟨hw, h0, h⟩⟩
      have c7 : ∀ w : Int, 1 ≤ w ∧ w ≤ 256 → w < s.length → cerr s w = 7 := fun w h1 h2 => by unfold cerr; rw [if_neg (by omega), if_neg h0, if_pos h2]
      refine W_seq ?_
      refine W_region ?_
      refine L_yld (Y_move rfl) rfl rfl rfl ?_
      refine L_yld (Y_move rfl) rfl rfl rfl ?_
      refine L_yld (Y_min rfl rfl) rfl rfl rfl ?_
      refine L_yld (Y_convs Try.underlying5 Try.underlying3 rfl (wrap_i64 (by omega) (by omega))) rfl rfl rfl ?_
      refine L_yld (Y_add rfl rfl (by omega) (by omega)) rfl rfl rfl ?_
      refine L_yld (Y_move rfl) rfl rfl rfl ?_
      refine L_yld (Y_move rfl) rfl rfl rfl ?_
      refine L_yld (Y_max rfl rfl) rfl rfl rfl ?_
      refine L_yld (Y_convs Try.underlying5 Try.underlying3 rfl (wrap_i64 (by omega) (by omega))) rfl rfl rfl ?_
      refine L_yld (Y_add rfl rfl (by omega) (by omega)) rfl rfl rfl ?_
      refine L_yld (Y_assign rfl) rfl rfl rfl ?_
      refine L_yld (Y_assign rfl) rfl rfl rfl ?_
      refine L_nil ?_
      refine X_then ?_
      refine W_sub _ (.cons (i := 8) rfl (.cons (i := 7) rfl (.cons (i := 6) rfl (.cons (i := 0) rfl (.nil _))))) ?_
      refine W_seq ?_
      refine W_seq ?_
      refine W_region ?_
      refine L_yld (Y_move rfl) rfl rfl rfl ?_
      refine L_yld (Y_move rfl) rfl rfl rfl ?_
      refine L_call (E_call (by kernel_rfl) rfl) (cstring_Fits _ s (1 + (min a b))) rfl rfl rfl ?_
      rintro _ h ⟨rfl, rfl⟩
      refine L_yld (Y_move rfl) rfl rfl rfl ?_
      refine L_yld (Y_slen Try.underlying9 rfl) rfl rfl rfl ?_
      refine L_yld (Y_move rfl) rfl rfl rfl ?_
      refine L_yld (Y_leq rfl rfl) rfl rfl rfl ?_
      refine L_yld (Y_bneq Try.underlying4 rfl rfl) rfl rfl rfl ?_
      refine L_yld (Y_move rfl) rfl rfl rfl ?_
      refine L_known (d := 39) false rfl (by exact bne_of_iff (c0 _ (by omega))) ?_
      refine L_yld (Y_move rfl) rfl rfl rfl ?_
      refine L_yld (Y_move rfl) rfl rfl rfl ?_
      refine L_call (E_call (by kernel_rfl) rfl) (cstring_Fits _ s (1 + (min a b))) rfl rfl rfl ?_
      rintro _ h ⟨rfl, rfl⟩
      refine L_yld (Y_move rfl) rfl rfl rfl ?_
      refine L_splitd (d := 43) rfl (fun f => ?_) (fun f => ?_)
      · refine L_yld (Y_move rfl) rfl rfl rfl ?_
        refine L_yld (Y_move rfl) rfl rfl rfl ?_
        refine L_call (E_call (by kernel_rfl) rfl) (cstring_Fits _ s (1 + (max a b))) rfl rfl rfl ?_
        rintro _ h ⟨rfl, rfl⟩
        refine L_yld (Y_notd rfl) rfl rfl rfl ?_
        refine L_yld (Y_pick_t rfl rfl) rfl rfl rfl ?_
        refine L_yld (Y_pick_f rfl rfl) rfl rfl rfl ?_
        refine L_nil ?_
        refine X_then ?_
        refine W_sub _ (.cons (i := 49) rfl (.cons (i := 8) rfl (.cons (i := 7) rfl (.cons (i := 6) rfl (.cons (i := 0) rfl (.nil _)))))) ?_
        refine W_known false rfl (by exact decide_eq_false (by have := (c0 _ (by omega)).1 f; have := (c0 (1 + max a b) (by omega)).2 (by omega); simpa using this)) ?_
        refine W_skip ?_
        refine X_then ?_
        refine W_sub _ (.cons (i := 8) rfl (.cons (i := 7) rfl (.cons (i := 6) rfl (.cons (i := 0) rfl (.nil _))))) ?_
        refine W_seq ?_
        refine W_region ?_
        refine L_yld (Y_move rfl) rfl rfl rfl ?_
        refine L_yld (Y_move rfl) rfl rfl rfl ?_
        refine L_call (E_call (by kernel_rfl) rfl) (cstring_Format _ s (1 + (min a b))) rfl rfl rfl ?_
        rintro _ h3 ⟨s03, rfl, hr04, hx5⟩
        refine L_yld (Y_move rfl) rfl rfl rfl ?_
        refine L_yld (Y_extract rfl rfl) rfl rfl rfl ?_
        refine L_yld (Y_extract rfl rfl) rfl rfl rfl ?_
        refine L_yld (Y_assign rfl) rfl rfl rfl ?_
        refine L_yld (Y_assign rfl) rfl rfl rfl ?_
        refine L_nil ?_
        refine X_then ?_
        refine W_sub _ (.cons (i := 10) rfl (.cons (i := 9) rfl (.cons (i := 8) rfl (.cons (i := 7) rfl (.cons (i := 6) rfl (.cons (i := 0) rfl (.nil _))))))) ?_
        refine W_seq ?_
        refine W_region ?_
        refine L_yld (Y_move rfl) rfl rfl rfl ?_
        refine L_yld (Y_move rfl) rfl rfl rfl ?_
        refine L_call (E_call (by kernel_rfl) rfl) (cstring_Format _ s (1 + (max a b))) rfl rfl rfl ?_
        rintro _ h4 ⟨s06, rfl, hr07, hx8⟩
        refine L_yld (Y_move rfl) rfl rfl rfl ?_
        refine L_yld (Y_extract rfl rfl) rfl rfl rfl ?_
        refine L_yld (Y_extract rfl rfl) rfl rfl rfl ?_
        refine L_yld (Y_assign rfl) rfl rfl rfl ?_
        refine L_yld (Y_assign rfl) rfl rfl rfl ?_
        refine L_nil ?_
        refine X_then ?_
        refine W_sub _ (.cons (i := 12) rfl (.cons (i := 11) rfl (.cons (i := 10) rfl (.cons (i := 9) rfl (.cons (i := 8) rfl (.cons (i := 7) rfl (.cons (i := 6) rfl (.nil _)))))))) ?_
        refine W_seq ?_
        refine W_held (fun h' => Ext h4 h') 26 rfl (by kernel_rfl) ?_
        refine LH_one (i := 0) (by kernel_rfl) ?_
        refine LO_call (i := 0) rfl (E_call (by kernel_rfl) rfl) (law02_alive _) rfl rfl rfl ?_
        rintro _ h5 ⟨rfl, hx9⟩
        refine ⟨hx9, ?_⟩
        refine LH_take (i := 1) rfl (fun h_ hI_ => Y_move rfl) rfl rfl rfl (by kernel_rfl) (by kernel_rfl) (by kernel_rfl) (fun _ _ _ => by rintro ⟨_, _, h_, _⟩; cases h_) hx9 ?_
        refine LH_take (i := 2) rfl (fun h_ hI_ => Y_move rfl) rfl rfl rfl (by kernel_rfl) (by kernel_rfl) (by kernel_rfl) (fun _ _ _ => by rintro ⟨_, _, h_, _⟩; cases h_) hx9 ?_
        refine LH_take (i := 3) rfl (fun h_ hI_ => Y_neq rfl rfl) rfl rfl rfl (by kernel_rfl) (by kernel_rfl) (by kernel_rfl) (fun _ _ _ => by rintro ⟨_, _, h_, _⟩; cases h_) hx9 ?_
        refine LH_take (i := 4) rfl (fun h_ hI_ => Y_move rfl) rfl rfl rfl (by kernel_rfl) (by kernel_rfl) (by kernel_rfl) (fun _ _ _ => by rintro ⟨_, _, h_, _⟩; cases h_) hx9 ?_
        refine LH_known (d := 66) false rfl (by exact decide_eq_false (by simpa using f)) ?_
        refine LH_skip (i := 5) rfl rfl rfl rfl (by kernel_rfl) (by kernel_rfl) (by kernel_rfl) (fun _ _ _ => by rintro ⟨_, _, h_, _⟩; cases h_) hx9 ?_
        refine LH_skip (i := 6) rfl rfl rfl rfl (by kernel_rfl) (by kernel_rfl) (by kernel_rfl) (fun _ _ _ => by rintro ⟨_, _, h_, _⟩; cases h_) hx9 ?_
        refine LH_take (i := 7) rfl (fun h_ hI_ => Y_pick_f rfl rfl) rfl rfl rfl (by kernel_rfl) (by kernel_rfl) (by kernel_rfl) (fun _ _ _ => by rintro ⟨_, _, h_, _⟩; cases h_) hx9 ?_
        refine LH_take (i := 8) rfl (fun h_ hI_ => Y_move rfl) rfl rfl rfl (by kernel_rfl) (by kernel_rfl) (by kernel_rfl) (fun _ _ _ => by rintro ⟨_, _, h_, _⟩; cases h_) hx9 ?_
        refine LH_take (i := 9) rfl (fun h_ hI_ => Y_move rfl) rfl rfl rfl (by kernel_rfl) (by kernel_rfl) (by kernel_rfl) (fun _ _ _ => by rintro ⟨_, _, h_, _⟩; cases h_) hx9 ?_
        refine LH_take (i := 10) rfl (fun h_ hI_ => Y_eql rfl rfl) rfl rfl rfl (by kernel_rfl) (by kernel_rfl) (by kernel_rfl) (fun _ _ _ => by rintro ⟨_, _, h_, _⟩; cases h_) hx9 ?_
        refine LH_take (i := 11) rfl (fun h_ hI_ => Y_move rfl) rfl rfl rfl (by kernel_rfl) (by kernel_rfl) (by kernel_rfl) (fun _ _ _ => by rintro ⟨_, _, h_, _⟩; cases h_) hx9 ?_
        refine LH_known (d := 73) true rfl (by exact decide_eq_true (by exact (c0 _ (by omega)).2 (by have := (c0 _ (by omega)).1 f; omega))) ?_
        refine LH_take (i := 12) rfl (fun h_ hI_ => Y_move rfl) rfl rfl rfl (by kernel_rfl) (by kernel_rfl) (by kernel_rfl) (fun _ _ _ => by rintro ⟨_, _, h_, _⟩; cases h_) hx9 ?_
        refine LH_take (i := 13) rfl (fun h_ hI_ => Y_bytes_str Try.underlying23 Try.underlying5 Try.underlying9 rfl (hr07.ext hI_)) rfl rfl rfl (by kernel_rfl) (by kernel_rfl) (by kernel_rfl) (fun _ _ _ => by rintro ⟨_, _, h_, _⟩; cases h_) hx9 ?_
        refine LH_take (i := 14) rfl (fun h_ hI_ => Y_move rfl) rfl rfl rfl (by kernel_rfl) (by kernel_rfl) (by kernel_rfl) (fun _ _ _ => by rintro ⟨_, _, h_, _⟩; cases h_) hx9 ?_
        refine LH_take (i := 15) rfl (fun h_ hI_ => Y_bytes_str Try.underlying23 Try.underlying5 Try.underlying9 rfl (hr04.ext (hx8.trans hI_))) rfl rfl rfl (by kernel_rfl) (by kernel_rfl) (by kernel_rfl) (fun _ _ _ => by rintro ⟨_, _, h_, _⟩; cases h_) hx9 ?_
        refine LH_take (i := 16) rfl (fun h_ hI_ => Y_move rfl) rfl rfl rfl (by kernel_rfl) (by kernel_rfl) (by kernel_rfl) (fun _ _ _ => by rintro ⟨_, _, h_, _⟩; cases h_) hx9 ?_
        refine LH_take (i := 17) rfl (fun h_ hI_ => Y_move rfl) rfl rfl rfl (by kernel_rfl) (by kernel_rfl) (by kernel_rfl) (fun _ _ _ => by rintro ⟨_, _, h_, _⟩; cases h_) hx9 ?_
        refine LH_take (i := 18) rfl (fun h_ hI_ => Y_sub rfl rfl (by omega) (by omega)) rfl rfl rfl (by kernel_rfl) (by kernel_rfl) (by kernel_rfl) (fun _ _ _ => by rintro ⟨_, _, h_, _⟩; cases h_) hx9 ?_
        refine LH_one (i := 19) (by kernel_rfl) ?_
        refine LO_call (i := 19) rfl (E_call (by kernel_rfl) rfl) (strings_Repeat _ [0] ((1 + (max a b)) - (1 + (min a b))) (by first | omega | rfl | (simp <;> omega)) (by first | omega | rfl | (simp <;> omega))) rfl rfl rfl ?_
        rintro _ h6 ⟨rfl, hx10⟩
        refine ⟨(hx9.trans hx10), ?_⟩
        refine LH_take (i := 20) rfl (fun h_ hI_ => Y_sadd rfl rfl (by first | omega | (simp <;> omega))) rfl rfl rfl (by kernel_rfl) (by kernel_rfl) (by kernel_rfl) (fun _ _ _ => by rintro ⟨_, _, h_, _⟩; cases h_) (hx9.trans hx10) ?_
        refine LH_take (i := 21) rfl (fun h_ hI_ => Y_seql rfl rfl) rfl rfl rfl (by kernel_rfl) (by kernel_rfl) (by kernel_rfl) (fun _ _ _ => by rintro ⟨_, _, h_, _⟩; cases h_) (hx9.trans hx10) ?_
        refine LH_take (i := 22) rfl (fun h_ hI_ => Y_pick_t rfl rfl) rfl rfl rfl (by kernel_rfl) (by kernel_rfl) (by kernel_rfl) (fun _ _ _ => by rintro ⟨_, _, h_, _⟩; cases h_) (hx9.trans hx10) ?_
        refine LH_take (i := 23) rfl (fun h_ hI_ => Y_pick_f rfl rfl) rfl rfl rfl (by kernel_rfl) (by kernel_rfl) (by kernel_rfl) (fun _ _ _ => by rintro ⟨_, _, h_, _⟩; cases h_) (hx9.trans hx10) ?_
        refine LH_take (i := 24) rfl (fun h_ hI_ => Y_pick_t rfl rfl) rfl rfl rfl (by kernel_rfl) (by kernel_rfl) (by kernel_rfl) (fun _ _ _ => by rintro ⟨_, _, h_, _⟩; cases h_) (hx9.trans hx10) ?_
        refine LH_take (i := 25) rfl (fun h_ hI_ => Y_assign rfl) rfl rfl rfl (by kernel_rfl) (by kernel_rfl) (by kernel_rfl) (fun _ _ _ => by rintro ⟨_, _, h_, _⟩; cases h_) (hx9.trans hx10) ?_
        refine LH_done (by kernel_rfl) ?_
        refine X_then ?_
        refine W_sub _ (.cons (i := 6) rfl (.nil _)) ?_
        refine W_ret ?_
        refine X_ret1 rfl rfl ?_
        exact ⟨congrArg Value.bool (decide_eq_true (cfmt_wider f ((c0 _ (by omega)).2 (by have := (c0 _ (by omega)).1 f; omega)) (by omega))), (((hx5.trans hx8).trans hx9).trans hx10)⟩
      · refine L_skip rfl rfl rfl ?_
        refine L_skip rfl rfl rfl ?_
        refine L_skip rfl rfl rfl ?_
        refine L_skip rfl rfl rfl ?_
        refine L_yld (Y_pick_f rfl rfl) rfl rfl rfl ?_
        refine L_yld (Y_pick_f rfl rfl) rfl rfl rfl ?_
        refine L_nil ?_
        refine X_then ?_
        refine W_sub _ (.cons (i := 49) rfl (.cons (i := 8) rfl (.cons (i := 7) rfl (.cons (i := 6) rfl (.cons (i := 0) rfl (.nil _)))))) ?_
        refine W_false rfl ?_
        refine W_skip ?_
        refine X_then ?_
        refine W_sub _ (.cons (i := 8) rfl (.cons (i := 7) rfl (.cons (i := 6) rfl (.cons (i := 0) rfl (.nil _))))) ?_
        refine W_seq ?_
        refine W_region ?_
        refine L_yld (Y_move rfl) rfl rfl rfl ?_
        refine L_yld (Y_move rfl) rfl rfl rfl ?_
        refine L_call (E_call (by kernel_rfl) rfl) (cstring_Format _ s (1 + (min a b))) rfl rfl rfl ?_
        rintro _ h7 ⟨s011, rfl, hr012, hx13⟩
        refine L_yld (Y_move rfl) rfl rfl rfl ?_
        refine L_yld (Y_extract rfl rfl) rfl rfl rfl ?_
        refine L_yld (Y_extract rfl rfl) rfl rfl rfl ?_
        refine L_yld (Y_assign rfl) rfl rfl rfl ?_
        refine L_yld (Y_assign rfl) rfl rfl rfl ?_
        refine L_nil ?_
        refine X_then ?_
        refine W_sub _ (.cons (i := 10) rfl (.cons (i := 9) rfl (.cons (i := 8) rfl (.cons (i := 7) rfl (.cons (i := 6) rfl (.cons (i := 0) rfl (.nil _))))))) ?_
        refine W_seq ?_
        refine W_region ?_
        refine L_yld (Y_move rfl) rfl rfl rfl ?_
        refine L_yld (Y_move rfl) rfl rfl rfl ?_
        refine L_call (E_call (by kernel_rfl) rfl) (cstring_Format _ s (1 + (max a b))) rfl rfl rfl ?_
        rintro _ h8 ⟨s014, rfl, hr015, hx16⟩
        refine L_yld (Y_move rfl) rfl rfl rfl ?_
        refine L_yld (Y_extract rfl rfl) rfl rfl rfl ?_
        refine L_yld (Y_extract rfl rfl) rfl rfl rfl ?_
        refine L_yld (Y_assign rfl) rfl rfl rfl ?_
        refine L_yld (Y_assign rfl) rfl rfl rfl ?_
        refine L_nil ?_
        refine X_then ?_
        refine W_sub _ (.cons (i := 12) rfl (.cons (i := 11) rfl (.cons (i := 10) rfl (.cons (i := 9) rfl (.cons (i := 8) rfl (.cons (i := 7) rfl (.cons (i := 6) rfl (.nil _)))))))) ?_
        refine W_seq ?_
        refine W_held (fun h' => Ext h8 h') 26 rfl (by kernel_rfl) ?_
        refine LH_one (i := 0) (by kernel_rfl) ?_
        refine LO_call (i := 0) rfl (E_call (by kernel_rfl) rfl) (law02_alive _) rfl rfl rfl ?_
        rintro _ h9 ⟨rfl, hx17⟩
        refine ⟨hx17, ?_⟩
        refine LH_take (i := 1) rfl (fun h_ hI_ => Y_move rfl) rfl rfl rfl (by kernel_rfl) (by kernel_rfl) (by kernel_rfl) (fun _ _ _ => by rintro ⟨_, _, h_, _⟩; cases h_) hx17 ?_
        refine LH_take (i := 2) rfl (fun h_ hI_ => Y_move rfl) rfl rfl rfl (by kernel_rfl) (by kernel_rfl) (by kernel_rfl) (fun _ _ _ => by rintro ⟨_, _, h_, _⟩; cases h_) hx17 ?_
        refine LH_take (i := 3) rfl (fun h_ hI_ => Y_neq rfl rfl) rfl rfl rfl (by kernel_rfl) (by kernel_rfl) (by kernel_rfl) (fun _ _ _ => by rintro ⟨_, _, h_, _⟩; cases h_) hx17 ?_
        refine LH_take (i := 4) rfl (fun h_ hI_ => Y_move rfl) rfl rfl rfl (by kernel_rfl) (by kernel_rfl) (by kernel_rfl) (fun _ _ _ => by rintro ⟨_, _, h_, _⟩; cases h_) hx17 ?_
        refine LH_known (d := 66) true rfl (by exact decide_eq_true (by simpa using f)) ?_
        refine LH_take (i := 5) rfl (fun h_ hI_ => Y_move rfl) rfl rfl rfl (by kernel_rfl) (by kernel_rfl) (by kernel_rfl) (fun _ _ _ => by rintro ⟨_, _, h_, _⟩; cases h_) hx17 ?_
        refine LH_take (i := 6) rfl (fun h_ hI_ => Y_eql rfl rfl) rfl rfl rfl (by kernel_rfl) (by kernel_rfl) (by kernel_rfl) (fun _ _ _ => by rintro ⟨_, _, h_, _⟩; cases h_) hx17 ?_
        refine LH_take (i := 7) rfl (fun h_ hI_ => Y_pick_t rfl rfl) rfl rfl rfl (by kernel_rfl) (by kernel_rfl) (by kernel_rfl) (fun _ _ _ => by rintro ⟨_, _, h_, _⟩; cases h_) hx17 ?_
        refine LH_take (i := 8) rfl (fun h_ hI_ => Y_move rfl) rfl rfl rfl (by kernel_rfl) (by kernel_rfl) (by kernel_rfl) (fun _ _ _ => by rintro ⟨_, _, h_, _⟩; cases h_) hx17 ?_
        refine LH_known (d := 70) true rfl (by exact decide_eq_true (by exact c7 _ (by omega) (by have := mt (c0 _ (by omega)).2 f; omega))) ?_
        refine LH_skip (i := 9) rfl rfl rfl rfl (by kernel_rfl) (by kernel_rfl) (by kernel_rfl) (fun _ _ _ => by rintro ⟨_, _, h_, _⟩; cases h_) hx17 ?_
        refine LH_skip (i := 10) rfl rfl rfl rfl (by kernel_rfl) (by kernel_rfl) (by kernel_rfl) (fun _ _ _ => by rintro ⟨_, _, h_, _⟩; cases h_) hx17 ?_
        refine LH_skip (i := 11) rfl rfl rfl rfl (by kernel_rfl) (by kernel_rfl) (by kernel_rfl) (fun _ _ _ => by rintro ⟨_, _, h_, _⟩; cases h_) hx17 ?_
        refine LH_skip (i := 12) rfl rfl rfl rfl (by kernel_rfl) (by kernel_rfl) (by kernel_rfl) (fun _ _ _ => by rintro ⟨_, _, h_, _⟩; cases h_) hx17 ?_
        refine LH_skip (i := 13) rfl rfl rfl rfl (by kernel_rfl) (by kernel_rfl) (by kernel_rfl) (fun _ _ _ => by rintro ⟨_, _, h_, _⟩; cases h_) hx17 ?_
        refine LH_skip (i := 14) rfl rfl rfl rfl (by kernel_rfl) (by kernel_rfl) (by kernel_rfl) (fun _ _ _ => by rintro ⟨_, _, h_, _⟩; cases h_) hx17 ?_
        refine LH_skip (i := 15) rfl rfl rfl rfl (by kernel_rfl) (by kernel_rfl) (by kernel_rfl) (fun _ _ _ => by rintro ⟨_, _, h_, _⟩; cases h_) hx17 ?_
        refine LH_skip (i := 16) rfl rfl rfl rfl (by kernel_rfl) (by kernel_rfl) (by kernel_rfl) (fun _ _ _ => by rintro ⟨_, _, h_, _⟩; cases h_) hx17 ?_
        refine LH_skip (i := 17) rfl rfl rfl rfl (by kernel_rfl) (by kernel_rfl) (by kernel_rfl) (fun _ _ _ => by rintro ⟨_, _, h_, _⟩; cases h_) hx17 ?_
        refine LH_skip (i := 18) rfl rfl rfl rfl (by kernel_rfl) (by kernel_rfl) (by kernel_rfl) (fun _ _ _ => by rintro ⟨_, _, h_, _⟩; cases h_) hx17 ?_
        refine LH_skip (i := 19) rfl rfl rfl rfl (by kernel_rfl) (by kernel_rfl) (by kernel_rfl) (fun _ _ _ => by rintro ⟨_, _, h_, _⟩; cases h_) hx17 ?_
        refine LH_skip (i := 20) rfl rfl rfl rfl (by kernel_rfl) (by kernel_rfl) (by kernel_rfl) (fun _ _ _ => by rintro ⟨_, _, h_, _⟩; cases h_) hx17 ?_
        refine LH_skip (i := 21) rfl rfl rfl rfl (by kernel_rfl) (by kernel_rfl) (by kernel_rfl) (fun _ _ _ => by rintro ⟨_, _, h_, _⟩; cases h_) hx17 ?_
        refine LH_skip (i := 22) rfl rfl rfl rfl (by kernel_rfl) (by kernel_rfl) (by kernel_rfl) (fun _ _ _ => by rintro ⟨_, _, h_, _⟩; cases h_) hx17 ?_
        refine LH_take (i := 23) rfl (fun h_ hI_ => Y_pick_t rfl rfl) rfl rfl rfl (by kernel_rfl) (by kernel_rfl) (by kernel_rfl) (fun _ _ _ => by rintro ⟨_, _, h_, _⟩; cases h_) hx17 ?_
        refine LH_take (i := 24) rfl (fun h_ hI_ => Y_pick_t rfl rfl) rfl rfl rfl (by kernel_rfl) (by kernel_rfl) (by kernel_rfl) (fun _ _ _ => by rintro ⟨_, _, h_, _⟩; cases h_) hx17 ?_
        refine LH_take (i := 25) rfl (fun h_ hI_ => Y_assign rfl) rfl rfl rfl (by kernel_rfl) (by kernel_rfl) (by kernel_rfl) (fun _ _ _ => by rintro ⟨_, _, h_, _⟩; cases h_) hx17 ?_
        refine LH_done (by kernel_rfl) ?_
        refine X_then ?_
        refine W_sub _ (.cons (i := 6) rfl (.nil _)) ?_
        refine W_ret ?_
        refine X_ret1 rfl rfl ?_
        exact ⟨rfl, ((hx13.trans hx16).trans hx17)⟩

end Go.Xp
