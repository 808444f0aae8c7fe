/- Layer 7 (ustar): Check alone. -/
import Derived.Test.YtkcgabodpcfohaaDoorGlb
import Derived.Test.YtkcgabodpcfohaaDoorCstr
import Derived.Test.YtkcgabodpcfohaaDoorMap
set_option linter.unusedSimpArgs false
set_option linter.unusedVariables false
set_option linter.unusedSectionVars false
namespace Go.Xp
open Go.Proofs

def uknown (c : Int) : Bool := decide (c = 48 ∨ c = 49 ∨ c = 50 ∨ c = 53 ∨ c = 120)
def ucheck (t : Int) (name pre link : List UInt8) (mode size : Int) : Int := if uknown t = false then 8 else if ¬ cerr name 100 = 0 then cerr name 100 else if ¬ cerr link 100 = 0 then cerr link 100 else if ¬ cerr pre 155 = 0 then cerr pre 155 else if mode < 0 ∨ 4095 < mode then 16 else if size < 0 ∨ 8589934591 < size then 3 else 0
/-! ### ustar: Check -/
theorem u8_eq {t : Int} (ht : 0 ≤ t ∧ t ≤ 255) {n : Nat} (hn : n < 256) : t.toNat.toUInt8 = n.toUInt8 ↔ t = n := by
  constructor
  · intro h
    have h1 := congrArg UInt8.toNat h
    rw [show (t.toNat.toUInt8).toNat = t.toNat % 256 from rfl, show (n.toUInt8).toNat = n % 256 from rfl, Nat.mod_eq_of_lt (by omega), Nat.mod_eq_of_lt hn] at h1
    omega
  · rintro rfl; simp
theorem known_mem {t : Int} (ht : 0 ≤ t ∧ t ≤ 255) : uknown t = true ↔ t.toNat.toUInt8 ∈ ([48, 49, 50, 53, 120] : List UInt8) := by
  simp only [List.mem_cons, List.not_mem_nil, or_false, uknown, decide_eq_true_eq]
  rw [show (48 : UInt8) = (48 : Nat).toUInt8 from rfl, show (49 : UInt8) = (49 : Nat).toUInt8 from rfl, show (50 : UInt8) = (50 : Nat).toUInt8 from rfl, show (53 : UInt8) = (53 : Nat).toUInt8 from rfl, show (120 : UInt8) = (120 : Nat).toUInt8 from rfl,
    u8_eq ht (by decide), u8_eq ht (by decide), u8_eq ht (by decide), u8_eq ht (by decide), u8_eq ht (by decide)]
  omega
theorem known_idx {t : Int} (ht : 0 ≤ t ∧ t ≤ 255) : (Lib.indexByte [48, 49, 50, 53, 120] t.toNat.toUInt8 < 0) ↔ uknown t = false := by
  have h1 := indexByte_mem [48, 49, 50, 53, 120] t.toNat.toUInt8
  rw [← known_mem ht] at h1
  cases hk : uknown t <;> rw [hk] at h1 <;> simp at h1 ⊢ <;> omega

set_option maxRecDepth 100000 in
theorem ustar_Check (h : Heap) (hG : Glb h) (t : Int) (name : List UInt8) (pre : List UInt8) (link : List UInt8) (mode : Int) (size : Int) (ht : 0 ≤ t ∧ t ≤ 255) : Cal Tryd.prog 43 #[.agg #[.int .u8 (t), str name, str pre, str link, .int .i64 (mode), .int .i64 (size)]] h (fun v h' => v = .int .i64 (ucheck t name pre link mode size) ∧ Ext h h') := by
  refine Cal_enter (args := [.agg #[.int .u8 (t), str name, str pre, str link, .int .i64 (mode), .int .i64 (size)]]) Tryd.func43 rfl rfl rfl (fun σ => ?_)
  refine W_seq ?_
  refine W_region ?_
  refine L_mks (M_box rfl) rfl rfl rfl ?_
  rintro _ h1 ⟨rfl, hn1⟩
  have hk2 : Blk h1 h.size [.int .u8 (t), str name, str pre, str link, .int .i64 (mode), .int .i64 (size)] := hn1.blk
  refine L_yld (Y_assign rfl) rfl rfl rfl ?_
  refine L_nil ?_
  refine X_then ?_
  refine W_sub _ (.cons (i := 2) rfl (.cons (i := 1) rfl (.nil _))) ?_
  refine W_seq ?_
  refine W_seq ?_
  refine W_region ?_
  refine L_yld (Y_fieldAddr (off := 0) (by kernel_rfl) rfl rfl) rfl rfl rfl ?_
  refine L_yld (Y_ldblk Tryd.underlying5 rfl rfl hk2 rfl) rfl rfl rfl ?_
  refine L_call (E_call (by kernel_rfl) rfl) (strings_IndexByte _ [48, 49, 50, 53, 120] t) rfl rfl rfl ?_
  rintro _ h1 ⟨rfl, rfl⟩
  refine L_yld (Y_lss rfl rfl) rfl rfl rfl ?_
  refine L_nil ?_
  refine X_then ?_
  refine W_sub _ (.cons (i := 10) rfl (.cons (i := 2) rfl (.cons (i := 1) rfl (.nil _)))) ?_
  refine W_splitd rfl (fun k => ?_) (fun k => ?_)
  · refine W_seq ?_
    refine W_region ?_
    refine L_yld (Y_assign rfl) rfl rfl rfl ?_
    refine L_nil ?_
    refine X_then ?_
    refine W_sub _ (.cons (i := 2) rfl (.cons (i := 1) rfl (.nil _))) ?_
    refine W_ret ?_
    refine X_then_ret ?_
    refine X_ret1 rfl rfl ?_
    exact ⟨by unfold ucheck; rw [if_pos ((known_idx ht).1 k)], hn1.ext⟩
  · refine W_skip ?_
    refine X_then ?_
    refine W_sub _ (.cons (i := 2) rfl (.cons (i := 1) rfl (.nil _))) ?_
    have k' : ¬ uknown t = false := fun h9 => k ((known_idx ht).2 h9)
    refine W_seq ?_
    refine W_seq ?_
    refine W_region ?_
    refine L_yld (Y_fieldAddr (off := 1) (by kernel_rfl) rfl rfl) rfl rfl rfl ?_
    refine L_yld (Y_ldblk Tryd.underlying9 rfl rfl hk2 rfl) rfl rfl rfl ?_
    refine L_yld (Y_ldclsA (us := [.int .i64 0, .int .i64 100]) Tryd.underlying123 rfl (show _ = some 2 by kernel_rfl) rfl ((hG.ext hn1.ext)).g0 rfl) rfl rfl rfl ?_
    refine L_yld (Y_build (v := .agg #[str name, .int .i64 0, .int .i64 100]) (pv := [(0, str name), (1, .agg #[.int .i64 0, .int .i64 100])]) (evp (is := [0, 1]) (os := [.tmp 12, .tmp 13]) (vs := [str name, .agg #[.int .i64 0, .int .i64 100]]) rfl rfl) (fun _ => by kernel_rfl)) rfl rfl rfl ?_
    refine L_yld (Y_fieldAddr (off := 3) (by kernel_rfl) rfl rfl) rfl rfl rfl ?_
    refine L_yld (Y_ldblk Tryd.underlying9 rfl rfl hk2 rfl) rfl rfl rfl ?_
    refine L_yld (Y_ldclsA (us := [.int .i64 157, .int .i64 100]) Tryd.underlying123 rfl (show _ = some 2 by kernel_rfl) rfl ((hG.ext hn1.ext)).g1 rfl) rfl rfl rfl ?_
    refine L_yld (Y_build (v := .agg #[str link, .int .i64 157, .int .i64 100]) (pv := [(0, str link), (1, .agg #[.int .i64 157, .int .i64 100])]) (evp (is := [0, 1]) (os := [.tmp 16, .tmp 17]) (vs := [str link, .agg #[.int .i64 157, .int .i64 100]]) rfl rfl) (fun _ => by kernel_rfl)) rfl rfl rfl ?_
    refine L_yld (Y_fieldAddr (off := 2) (by kernel_rfl) rfl rfl) rfl rfl rfl ?_
    refine L_yld (Y_ldblk Tryd.underlying9 rfl rfl hk2 rfl) rfl rfl rfl ?_
    refine L_yld (Y_ldclsA (us := [.int .i64 345, .int .i64 155]) Tryd.underlying123 rfl (show _ = some 2 by kernel_rfl) rfl ((hG.ext hn1.ext)).g2 rfl) rfl rfl rfl ?_
    refine L_yld (Y_build (v := .agg #[str pre, .int .i64 345, .int .i64 155]) (pv := [(0, str pre), (1, .agg #[.int .i64 345, .int .i64 155])]) (evp (is := [0, 1]) (os := [.tmp 20, .tmp 21]) (vs := [str pre, .agg #[.int .i64 345, .int .i64 155]]) rfl rfl) (fun _ => by kernel_rfl)) rfl rfl rfl ?_
    refine L_mks (M_buildSlice (cells := [str name, .int .i64 0, .int .i64 100, str link, .int .i64 157, .int .i64 100, str pre, .int .i64 345, .int .i64 155]) (pv := [(0, .agg #[str name, .int .i64 0, .int .i64 100]), (1, .agg #[str link, .int .i64 157, .int .i64 100]), (2, .agg #[str pre, .int .i64 345, .int .i64 155])]) (E := 124) (evp (is := [0, 1, 2]) (os := [.tmp 14, .tmp 18, .tmp 22]) (vs := [.agg #[str name, .int .i64 0, .int .i64 100], .agg #[str link, .int .i64 157, .int .i64 100], .agg #[str pre, .int .i64 345, .int .i64 155]]) rfl rfl) (fun _ => by kernel_rfl)) rfl rfl rfl ?_
    rintro _ h2 ⟨rfl, hn3⟩
    have hk4 : Blk h2 h1.size [str name, .int .i64 0, .int .i64 100, str link, .int .i64 157, .int .i64 100, str pre, .int .i64 345, .int .i64 155] := hn3.blk
    refine L_yld (Y_lensl Tryd.underlying125 rfl) rfl rfl rfl ?_
    refine L_yld (Y_move rfl) rfl rfl rfl ?_
    refine L_nil ?_
    refine X_then ?_
    refine W_sub _ (.cons (i := 25) rfl (.cons (i := 24) rfl (.cons (i := 23) rfl (.cons (i := 2) rfl (.cons (i := 1) rfl (.nil _)))))) ?_
    refine W_block ?_
    refine W_rounds 3 ?_
    refine W_seq ?_
    refine W_region ?_
    refine L_yld (Y_lss rfl rfl) rfl rfl rfl ?_
    refine L_nil ?_
    refine X_then ?_
    refine W_seq ?_
    refine W_known true rfl (by first | rfl | decide | simp) ?_
    refine W_skip ?_
    refine X_then ?_
    refine W_seq ?_
    refine W_block ?_
    refine W_seq ?_
    refine W_region ?_
    refine L_yld (Y_idxlit (off := 0) Tryd.underlying125 (show _ = some 3 by kernel_rfl) rfl rfl (by decide) (by decide) rfl) rfl rfl rfl ?_
    refine L_yld (Y_ldbox (us := [str name, .int .i64 0, .int .i64 100]) Tryd.underlying124 rfl (show _ = some 3 by kernel_rfl) rfl hk4 rfl) rfl rfl rfl ?_
    refine L_mks (M_alloc (u := .agg #[str [], .int .i64 0, .int .i64 0]) (by kernel_rfl)) rfl rfl rfl ?_
    rintro _ h3 ⟨rfl, hn5⟩
    have hk6 : Blk h3 h2.size [str [], .int .i64 0, .int .i64 0] := hn5.blk
    refine L_dos (D_store (us := [str name, .int .i64 0, .int .i64 100]) (show _ = some 3 by kernel_rfl) rfl rfl rfl (by simp [Value.oneCell']) hk6 (by simp)) rfl rfl ?_
    rintro h4 hp7
    have hk8 : Blk h4 h2.size [str name, .int .i64 0, .int .i64 100] := hp7.blk
    refine L_nil ?_
    refine X_then ?_
    refine W_seq ?_
    refine W_region ?_
    refine L_yld (Y_fieldAddr (off := 0) (by kernel_rfl) rfl rfl) rfl rfl rfl ?_
    refine L_yld (Y_ldblk Tryd.underlying9 rfl rfl hk8 rfl) rfl rfl rfl ?_
    refine L_yld (Y_fieldAddr (off := 1) (by kernel_rfl) rfl rfl) rfl rfl rfl ?_
    refine L_yld (Y_fieldAddr (off := 1) (by kernel_rfl) rfl rfl) rfl rfl rfl ?_
    refine L_yld (Y_ldblk Tryd.underlying3 rfl rfl hk8 rfl) rfl rfl rfl ?_
    refine L_call (E_call (by kernel_rfl) rfl) (cstring_Format _ name (100 : Int)) rfl rfl rfl ?_
    rintro _ h5 ⟨s09, rfl, hr010, hx11⟩
    refine L_yld (Y_move rfl) rfl rfl rfl ?_
    refine L_yld (Y_extract (v := s09) rfl rfl) rfl rfl rfl ?_
    refine L_yld (Y_extract (v := .int .i64 (cerr name (100 : Int))) rfl rfl) rfl rfl rfl ?_
    refine L_yld (Y_assign rfl) rfl rfl rfl ?_
    refine L_yld (Y_assign rfl) rfl rfl rfl ?_
    refine L_nil ?_
    refine X_then ?_
    refine W_sub _ (.cons (i := 6) rfl (.cons (i := 37) rfl (.cons (i := 36) rfl (.cons (i := 29) rfl (.cons (i := 35) rfl (.cons (i := 34) rfl (.cons (i := 33) rfl (.cons (i := 32) rfl (.cons (i := 31) rfl (.cons (i := 30) rfl (.cons (i := 4) rfl (.cons (i := 28) rfl (.cons (i := 27) rfl (.cons (i := 26) rfl (.cons (i := 25) rfl (.cons (i := 24) rfl (.cons (i := 23) rfl (.cons (i := 2) rfl (.cons (i := 1) rfl (.nil _)))))))))))))))))))) ?_
    refine W_seq ?_
    refine W_region ?_
    refine L_yld (Y_move rfl) rfl rfl rfl ?_
    refine L_yld (Y_neq rfl rfl) rfl rfl rfl ?_
    refine L_nil ?_
    refine X_then ?_
    refine W_splitd rfl (fun e1 => ?_) (fun e1 => ?_)
    · refine W_seq ?_
      refine W_region ?_
      refine L_yld (Y_move rfl) rfl rfl rfl ?_
      refine L_yld (Y_assign rfl) rfl rfl rfl ?_
      refine L_nil ?_
      refine X_then ?_
      refine W_ret ?_
      refine X_block_ret ?_
      refine X_then_ret ?_
      refine X_then_ret ?_
      refine X_block_ret ?_
      refine X_then_ret ?_
      refine X_ret1 rfl rfl ?_
      exact ⟨by unfold ucheck; rw [if_neg k', if_pos e1], ((((hn1.ext.trans hn3.ext).trans hn5.ext).then' hp7.only (by simp) (Nat.le_trans hn1.ext.size hn3.ext.size)).trans hx11)⟩
    · refine W_skip ?_
      refine X_block ?_
      refine X_then ?_
      refine W_region ?_
      refine L_yld (Y_addl (r := 1) rfl rfl (by decide) (by decide) (by decide)) rfl rfl rfl ?_
      refine L_yld (Y_move rfl) rfl rfl rfl ?_
      refine L_nil ?_
      refine X_round ?_
      refine W_seq ?_
      refine W_region ?_
      refine L_yld (Y_lss rfl rfl) rfl rfl rfl ?_
      refine L_nil ?_
      refine X_then ?_
      refine W_seq ?_
      refine W_known true rfl (by first | rfl | decide | simp) ?_
      refine W_skip ?_
      refine X_then ?_
      refine W_seq ?_
      refine W_block ?_
      refine W_seq ?_
      refine W_region ?_
      refine L_yld (Y_idxlit (off := 3) Tryd.underlying125 (show _ = some 3 by kernel_rfl) rfl rfl (by decide) (by decide) rfl) rfl rfl rfl ?_
      refine L_yld (Y_ldbox (us := [str link, .int .i64 157, .int .i64 100]) Tryd.underlying124 rfl (show _ = some 3 by kernel_rfl) rfl (hk4.ext ((hn5.ext.then' hp7.only (by simp) (Nat.le_refl _)).trans hx11)) rfl) rfl rfl rfl ?_
      refine L_mks (M_alloc (u := .agg #[str [], .int .i64 0, .int .i64 0]) (by kernel_rfl)) rfl rfl rfl ?_
      rintro _ h6 ⟨rfl, hn12⟩
      have hk13 : Blk h6 h5.size [str [], .int .i64 0, .int .i64 0] := hn12.blk
      refine L_dos (D_store (us := [str link, .int .i64 157, .int .i64 100]) (show _ = some 3 by kernel_rfl) rfl rfl rfl (by simp [Value.oneCell']) hk13 (by simp)) rfl rfl ?_
      rintro h7 hp14
      have hk15 : Blk h7 h5.size [str link, .int .i64 157, .int .i64 100] := hp14.blk
      refine L_nil ?_
      refine X_then ?_
      refine W_seq ?_
      refine W_region ?_
      refine L_yld (Y_fieldAddr (off := 0) (by kernel_rfl) rfl rfl) rfl rfl rfl ?_
      refine L_yld (Y_ldblk Tryd.underlying9 rfl rfl hk15 rfl) rfl rfl rfl ?_
      refine L_yld (Y_fieldAddr (off := 1) (by kernel_rfl) rfl rfl) rfl rfl rfl ?_
      refine L_yld (Y_fieldAddr (off := 1) (by kernel_rfl) rfl rfl) rfl rfl rfl ?_
      refine L_yld (Y_ldblk Tryd.underlying3 rfl rfl hk15 rfl) rfl rfl rfl ?_
      refine L_call (E_call (by kernel_rfl) rfl) (cstring_Format _ link (100 : Int)) rfl rfl rfl ?_
      rintro _ h8 ⟨s016, rfl, hr017, hx18⟩
      refine L_yld (Y_move rfl) rfl rfl rfl ?_
      refine L_yld (Y_extract (v := s016) rfl rfl) rfl rfl rfl ?_
      refine L_yld (Y_extract (v := .int .i64 (cerr link (100 : Int))) rfl rfl) rfl rfl rfl ?_
      refine L_yld (Y_assign rfl) rfl rfl rfl ?_
      refine L_yld (Y_assign rfl) rfl rfl rfl ?_
      refine L_nil ?_
      refine X_then ?_
      refine W_sub _ (.cons (i := 6) rfl (.cons (i := 37) rfl (.cons (i := 36) rfl (.cons (i := 29) rfl (.cons (i := 35) rfl (.cons (i := 34) rfl (.cons (i := 33) rfl (.cons (i := 32) rfl (.cons (i := 31) rfl (.cons (i := 30) rfl (.cons (i := 4) rfl (.cons (i := 28) rfl (.cons (i := 27) rfl (.cons (i := 26) rfl (.cons (i := 25) rfl (.cons (i := 41) rfl (.cons (i := 39) rfl (.cons (i := 38) rfl (.cons (i := 24) rfl (.cons (i := 23) rfl (.cons (i := 2) rfl (.cons (i := 1) rfl (.nil _))))))))))))))))))))))) ?_
      refine W_seq ?_
      refine W_region ?_
      refine L_yld (Y_move rfl) rfl rfl rfl ?_
      refine L_yld (Y_neq rfl rfl) rfl rfl rfl ?_
      refine L_nil ?_
      refine X_then ?_
      refine W_splitd rfl (fun e2 => ?_) (fun e2 => ?_)
      · refine W_seq ?_
        refine W_region ?_
        refine L_yld (Y_move rfl) rfl rfl rfl ?_
        refine L_yld (Y_assign rfl) rfl rfl rfl ?_
        refine L_nil ?_
        refine X_then ?_
        refine W_ret ?_
        refine X_block_ret ?_
        refine X_then_ret ?_
        refine X_then_ret ?_
        refine X_block_ret ?_
        refine X_then_ret ?_
        refine X_ret1 rfl rfl ?_
        exact ⟨by unfold ucheck; rw [if_neg k', if_neg e1, if_pos e2], (((((((hn1.ext.trans hn3.ext).trans hn5.ext).then' hp7.only (by simp) (Nat.le_trans hn1.ext.size hn3.ext.size)).trans hx11).trans hn12.ext).then' hp14.only (by simp) (Nat.le_trans (Nat.le_trans (Nat.le_trans (Nat.le_trans hn1.ext.size hn3.ext.size) hn5.ext.size) hp7.only.size) hx11.size)).trans hx18)⟩
      · refine W_skip ?_
        refine X_block ?_
        refine X_then ?_
        refine W_region ?_
        refine L_yld (Y_addl (r := 2) rfl rfl (by decide) (by decide) (by decide)) rfl rfl rfl ?_
        refine L_yld (Y_move rfl) rfl rfl rfl ?_
        refine L_nil ?_
        refine X_round ?_
        refine W_seq ?_
        refine W_region ?_
        refine L_yld (Y_lss rfl rfl) rfl rfl rfl ?_
        refine L_nil ?_
        refine X_then ?_
        refine W_seq ?_
        refine W_known true rfl (by first | rfl | decide | simp) ?_
        refine W_skip ?_
        refine X_then ?_
        refine W_seq ?_
        refine W_block ?_
        refine W_seq ?_
        refine W_region ?_
        refine L_yld (Y_idxlit (off := 6) Tryd.underlying125 (show _ = some 3 by kernel_rfl) rfl rfl (by decide) (by decide) rfl) rfl rfl rfl ?_
        refine L_yld (Y_ldbox (us := [str pre, .int .i64 345, .int .i64 155]) Tryd.underlying124 rfl (show _ = some 3 by kernel_rfl) rfl (hk4.ext (((((hn5.ext.then' hp7.only (by simp) (Nat.le_refl _)).trans hx11).trans hn12.ext).then' hp14.only (by simp) (Nat.le_trans (Nat.le_trans hn5.ext.size hp7.only.size) hx11.size)).trans hx18)) rfl) rfl rfl rfl ?_
        refine L_mks (M_alloc (u := .agg #[str [], .int .i64 0, .int .i64 0]) (by kernel_rfl)) rfl rfl rfl ?_
        rintro _ h9 ⟨rfl, hn19⟩
        have hk20 : Blk h9 h8.size [str [], .int .i64 0, .int .i64 0] := hn19.blk
        refine L_dos (D_store (us := [str pre, .int .i64 345, .int .i64 155]) (show _ = some 3 by kernel_rfl) rfl rfl rfl (by simp [Value.oneCell']) hk20 (by simp)) rfl rfl ?_
        rintro h10 hp21
        have hk22 : Blk h10 h8.size [str pre, .int .i64 345, .int .i64 155] := hp21.blk
        refine L_nil ?_
        refine X_then ?_
        refine W_seq ?_
        refine W_region ?_
        refine L_yld (Y_fieldAddr (off := 0) (by kernel_rfl) rfl rfl) rfl rfl rfl ?_
        refine L_yld (Y_ldblk Tryd.underlying9 rfl rfl hk22 rfl) rfl rfl rfl ?_
        refine L_yld (Y_fieldAddr (off := 1) (by kernel_rfl) rfl rfl) rfl rfl rfl ?_
        refine L_yld (Y_fieldAddr (off := 1) (by kernel_rfl) rfl rfl) rfl rfl rfl ?_
        refine L_yld (Y_ldblk Tryd.underlying3 rfl rfl hk22 rfl) rfl rfl rfl ?_
        refine L_call (E_call (by kernel_rfl) rfl) (cstring_Format _ pre (155 : Int)) rfl rfl rfl ?_
        rintro _ h11 ⟨s023, rfl, hr024, hx25⟩
        refine L_yld (Y_move rfl) rfl rfl rfl ?_
        refine L_yld (Y_extract (v := s023) rfl rfl) rfl rfl rfl ?_
        refine L_yld (Y_extract (v := .int .i64 (cerr pre (155 : Int))) rfl rfl) rfl rfl rfl ?_
        refine L_yld (Y_assign rfl) rfl rfl rfl ?_
        refine L_yld (Y_assign rfl) rfl rfl rfl ?_
        refine L_nil ?_
        refine X_then ?_
        refine W_sub _ (.cons (i := 6) rfl (.cons (i := 37) rfl (.cons (i := 36) rfl (.cons (i := 29) rfl (.cons (i := 35) rfl (.cons (i := 34) rfl (.cons (i := 33) rfl (.cons (i := 32) rfl (.cons (i := 31) rfl (.cons (i := 30) rfl (.cons (i := 4) rfl (.cons (i := 28) rfl (.cons (i := 27) rfl (.cons (i := 26) rfl (.cons (i := 25) rfl (.cons (i := 41) rfl (.cons (i := 39) rfl (.cons (i := 38) rfl (.cons (i := 24) rfl (.cons (i := 23) rfl (.cons (i := 2) rfl (.cons (i := 1) rfl (.nil _))))))))))))))))))))))) ?_
        refine W_seq ?_
        refine W_region ?_
        refine L_yld (Y_move rfl) rfl rfl rfl ?_
        refine L_yld (Y_neq rfl rfl) rfl rfl rfl ?_
        refine L_nil ?_
        refine X_then ?_
        refine W_splitd rfl (fun e3 => ?_) (fun e3 => ?_)
        · refine W_seq ?_
          refine W_region ?_
          refine L_yld (Y_move rfl) rfl rfl rfl ?_
          refine L_yld (Y_assign rfl) rfl rfl rfl ?_
          refine L_nil ?_
          refine X_then ?_
          refine W_ret ?_
          refine X_block_ret ?_
          refine X_then_ret ?_
          refine X_then_ret ?_
          refine X_block_ret ?_
          refine X_then_ret ?_
          refine X_ret1 rfl rfl ?_
          exact ⟨by unfold ucheck; rw [if_neg k', if_neg e1, if_neg e2, if_pos e3], ((((((((((hn1.ext.trans hn3.ext).trans hn5.ext).then' hp7.only (by simp) (Nat.le_trans hn1.ext.size hn3.ext.size)).trans hx11).trans hn12.ext).then' hp14.only (by simp) (Nat.le_trans (Nat.le_trans (Nat.le_trans (Nat.le_trans hn1.ext.size hn3.ext.size) hn5.ext.size) hp7.only.size) hx11.size)).trans hx18).trans hn19.ext).then' hp21.only (by simp) (Nat.le_trans (Nat.le_trans (Nat.le_trans (Nat.le_trans (Nat.le_trans (Nat.le_trans (Nat.le_trans hn1.ext.size hn3.ext.size) hn5.ext.size) hp7.only.size) hx11.size) hn12.ext.size) hp14.only.size) hx18.size)).trans hx25)⟩
        · refine W_skip ?_
          refine X_block ?_
          refine X_then ?_
          refine W_region ?_
          refine L_yld (Y_addl (r := 3) rfl rfl (by decide) (by decide) (by decide)) rfl rfl rfl ?_
          refine L_yld (Y_move rfl) rfl rfl rfl ?_
          refine L_nil ?_
          refine X_round ?_
          refine W_seq ?_
          refine W_region ?_
          refine L_yld (Y_lss rfl rfl) rfl rfl rfl ?_
          refine L_nil ?_
          refine X_then ?_
          refine W_seq ?_
          refine W_known false rfl (by first | rfl | decide | simp) ?_
          refine W_exit ?_
          refine X_then_exit ?_
          refine X_then_exit ?_
          refine X_block_hit ?_
          refine X_then ?_
          refine W_sub _ (.cons (i := 2) rfl (.cons (i := 1) rfl (.nil _))) ?_
          refine W_seq ?_
          refine W_block ?_
          refine W_cut (S := Unit) (fun _ => [(42, .bool (decide ((mode < 0) ∨ (4095 < mode)))), (2, .int .i64 0), (1, .pointer (some ⟨h.size, 0, none⟩))]) (fun _ h' => h' = h11) ?_ ?_
          · refine W_region ?_
            refine L_yld (Y_fieldAddr (off := 4) (by kernel_rfl) rfl rfl) rfl rfl rfl ?_
            refine L_yld (Y_ldblk Tryd.underlying3 rfl rfl (hk2.ext (((((((((hn3.ext.trans hn5.ext).then' hp7.only (by simp) hn3.ext.size).trans hx11).trans hn12.ext).then' hp14.only (by simp) (Nat.le_trans (Nat.le_trans (Nat.le_trans hn3.ext.size hn5.ext.size) hp7.only.size) hx11.size)).trans hx18).trans hn19.ext).then' hp21.only (by simp) (Nat.le_trans (Nat.le_trans (Nat.le_trans (Nat.le_trans (Nat.le_trans (Nat.le_trans hn3.ext.size hn5.ext.size) hp7.only.size) hx11.size) hn12.ext.size) hp14.only.size) hx18.size)).trans hx25)) rfl) rfl rfl rfl ?_
            refine L_yld (Y_lss rfl rfl) rfl rfl rfl ?_
            refine L_yld (Y_move rfl) rfl rfl rfl ?_
            refine L_splitd (d := 46) rfl (fun c26 => ?_) (fun c26 => ?_)
            · refine L_skip rfl rfl rfl ?_
              refine L_skip rfl rfl rfl ?_
              refine L_skip rfl rfl rfl ?_
              refine L_yld (Y_pick_t rfl rfl) rfl rfl rfl ?_
              refine L_yld (Y_assign rfl) rfl rfl rfl ?_
              refine L_nil ?_
              exact X_cut () (.cons (i := 42) (lkb rfl (by simp only [eq_true c26, true_and, and_true, false_and, and_false, true_or, or_true, false_or, or_false, not_true_eq_false, not_false_eq_true, decide_true, decide_false, Bool.true_eq_false, Bool.false_eq_true, eq_self, Bool.decide_eq_true])) (.cons (i := 2) rfl (.cons (i := 1) rfl (.nil _)))) rfl
            · refine L_yld (Y_fieldAddr (off := 4) (by kernel_rfl) rfl rfl) rfl rfl rfl ?_
              refine L_yld (Y_ldblk Tryd.underlying3 rfl rfl (hk2.ext (((((((((hn3.ext.trans hn5.ext).then' hp7.only (by simp) hn3.ext.size).trans hx11).trans hn12.ext).then' hp14.only (by simp) (Nat.le_trans (Nat.le_trans (Nat.le_trans hn3.ext.size hn5.ext.size) hp7.only.size) hx11.size)).trans hx18).trans hn19.ext).then' hp21.only (by simp) (Nat.le_trans (Nat.le_trans (Nat.le_trans (Nat.le_trans (Nat.le_trans (Nat.le_trans hn3.ext.size hn5.ext.size) hp7.only.size) hx11.size) hn12.ext.size) hp14.only.size) hx18.size)).trans hx25)) rfl) rfl rfl rfl ?_
              refine L_yld (Y_gtr rfl rfl) rfl rfl rfl ?_
              refine L_yld (Y_pick_f rfl rfl) rfl rfl rfl ?_
              refine L_yld (Y_assign rfl) rfl rfl rfl ?_
              refine L_nil ?_
              exact X_cut () (.cons (i := 42) (lkb rfl (by simp only [eq_false c26, true_and, and_true, false_and, and_false, true_or, or_true, false_or, or_false, not_true_eq_false, not_false_eq_true, decide_true, decide_false, Bool.true_eq_false, Bool.false_eq_true, eq_self, Bool.decide_eq_true])) (.cons (i := 2) rfl (.cons (i := 1) rfl (.nil _)))) rfl
          rintro _ h11 rfl
          show W _ _ _ _ _ [(42, .bool (decide ((mode < 0) ∨ (4095 < mode)))), (2, .int .i64 0), (1, .pointer (some ⟨h.size, 0, none⟩))] _
          refine W_splitd rfl (fun m => ?_) (fun m => ?_)
          · refine W_seq ?_
            refine W_region ?_
            refine L_yld (Y_assign rfl) rfl rfl rfl ?_
            refine L_nil ?_
            refine X_then ?_
            refine W_sub _ (.cons (i := 2) rfl (.nil _)) ?_
            refine W_ret ?_
            refine X_block_ret ?_
            refine X_then_ret ?_
            refine X_ret1 rfl rfl ?_
            exact ⟨by unfold ucheck; rw [if_neg k', if_neg e1, if_neg e2, if_neg e3, if_pos m], ((((((((((hn1.ext.trans hn3.ext).trans hn5.ext).then' hp7.only (by simp) (Nat.le_trans hn1.ext.size hn3.ext.size)).trans hx11).trans hn12.ext).then' hp14.only (by simp) (Nat.le_trans (Nat.le_trans (Nat.le_trans (Nat.le_trans hn1.ext.size hn3.ext.size) hn5.ext.size) hp7.only.size) hx11.size)).trans hx18).trans hn19.ext).then' hp21.only (by simp) (Nat.le_trans (Nat.le_trans (Nat.le_trans (Nat.le_trans (Nat.le_trans (Nat.le_trans (Nat.le_trans hn1.ext.size hn3.ext.size) hn5.ext.size) hp7.only.size) hx11.size) hn12.ext.size) hp14.only.size) hx18.size)).trans hx25)⟩
          · refine W_cut (S := Unit) (fun _ => [(51, .bool (decide ((size < 0) ∨ (8589934591 < size)))), (2, .int .i64 0)]) (fun _ h' => h' = h11) ?_ ?_
            · refine W_region ?_
              refine L_yld (Y_fieldAddr (off := 5) (by kernel_rfl) rfl rfl) rfl rfl rfl ?_
              refine L_yld (Y_ldblk Tryd.underlying2 rfl rfl (hk2.ext (((((((((hn3.ext.trans hn5.ext).then' hp7.only (by simp) hn3.ext.size).trans hx11).trans hn12.ext).then' hp14.only (by simp) (Nat.le_trans (Nat.le_trans (Nat.le_trans hn3.ext.size hn5.ext.size) hp7.only.size) hx11.size)).trans hx18).trans hn19.ext).then' hp21.only (by simp) (Nat.le_trans (Nat.le_trans (Nat.le_trans (Nat.le_trans (Nat.le_trans (Nat.le_trans hn3.ext.size hn5.ext.size) hp7.only.size) hx11.size) hn12.ext.size) hp14.only.size) hx18.size)).trans hx25)) rfl) rfl rfl rfl ?_
              refine L_yld (Y_lss rfl rfl) rfl rfl rfl ?_
              refine L_yld (Y_move rfl) rfl rfl rfl ?_
              refine L_splitd (d := 55) rfl (fun c27 => ?_) (fun c27 => ?_)
              · refine L_skip rfl rfl rfl ?_
                refine L_skip rfl rfl rfl ?_
                refine L_skip rfl rfl rfl ?_
                refine L_yld (Y_pick_t rfl rfl) rfl rfl rfl ?_
                refine L_yld (Y_assign rfl) rfl rfl rfl ?_
                refine L_nil ?_
                exact X_cut () (.cons (i := 51) (lkb rfl (by simp only [eq_true c27, true_and, and_true, false_and, and_false, true_or, or_true, false_or, or_false, not_true_eq_false, not_false_eq_true, decide_true, decide_false, Bool.true_eq_false, Bool.false_eq_true, eq_self, Bool.decide_eq_true])) (.cons (i := 2) rfl (.nil _))) rfl
              · refine L_yld (Y_fieldAddr (off := 5) (by kernel_rfl) rfl rfl) rfl rfl rfl ?_
                refine L_yld (Y_ldblk Tryd.underlying2 rfl rfl (hk2.ext (((((((((hn3.ext.trans hn5.ext).then' hp7.only (by simp) hn3.ext.size).trans hx11).trans hn12.ext).then' hp14.only (by simp) (Nat.le_trans (Nat.le_trans (Nat.le_trans hn3.ext.size hn5.ext.size) hp7.only.size) hx11.size)).trans hx18).trans hn19.ext).then' hp21.only (by simp) (Nat.le_trans (Nat.le_trans (Nat.le_trans (Nat.le_trans (Nat.le_trans (Nat.le_trans hn3.ext.size hn5.ext.size) hp7.only.size) hx11.size) hn12.ext.size) hp14.only.size) hx18.size)).trans hx25)) rfl) rfl rfl rfl ?_
                refine L_yld (Y_gtr rfl rfl) rfl rfl rfl ?_
                refine L_yld (Y_pick_f rfl rfl) rfl rfl rfl ?_
                refine L_yld (Y_assign rfl) rfl rfl rfl ?_
                refine L_nil ?_
                exact X_cut () (.cons (i := 51) (lkb rfl (by simp only [eq_false c27, true_and, and_true, false_and, and_false, true_or, or_true, false_or, or_false, not_true_eq_false, not_false_eq_true, decide_true, decide_false, Bool.true_eq_false, Bool.false_eq_true, eq_self, Bool.decide_eq_true])) (.cons (i := 2) rfl (.nil _))) rfl
            rintro _ h11 rfl
            show W _ _ _ _ _ [(51, .bool (decide ((size < 0) ∨ (8589934591 < size)))), (2, .int .i64 0)] _
            refine W_splitd rfl (fun z => ?_) (fun z => ?_)
            · refine W_seq ?_
              refine W_region ?_
              refine L_yld (Y_assign rfl) rfl rfl rfl ?_
              refine L_nil ?_
              refine X_then ?_
              refine W_sub _ (.cons (i := 2) rfl (.nil _)) ?_
              refine W_ret ?_
              refine X_block_ret ?_
              refine X_then_ret ?_
              refine X_ret1 rfl rfl ?_
              exact ⟨by unfold ucheck; rw [if_neg k', if_neg e1, if_neg e2, if_neg e3, if_neg m, if_pos z], ((((((((((hn1.ext.trans hn3.ext).trans hn5.ext).then' hp7.only (by simp) (Nat.le_trans hn1.ext.size hn3.ext.size)).trans hx11).trans hn12.ext).then' hp14.only (by simp) (Nat.le_trans (Nat.le_trans (Nat.le_trans (Nat.le_trans hn1.ext.size hn3.ext.size) hn5.ext.size) hp7.only.size) hx11.size)).trans hx18).trans hn19.ext).then' hp21.only (by simp) (Nat.le_trans (Nat.le_trans (Nat.le_trans (Nat.le_trans (Nat.le_trans (Nat.le_trans (Nat.le_trans hn1.ext.size hn3.ext.size) hn5.ext.size) hp7.only.size) hx11.size) hn12.ext.size) hp14.only.size) hx18.size)).trans hx25)⟩
            · refine W_skip ?_
              refine X_block ?_
              refine X_then ?_
              refine W_sub _ (.cons (i := 2) rfl (.nil _)) ?_
              refine W_seq ?_
              refine W_region ?_
              refine L_yld (Y_assign rfl) rfl rfl rfl ?_
              refine L_nil ?_
              refine X_then ?_
              refine W_ret ?_
              refine X_ret1 rfl rfl ?_
              exact ⟨by unfold ucheck; rw [if_neg k', if_neg e1, if_neg e2, if_neg e3, if_neg m, if_neg z], ((((((((((hn1.ext.trans hn3.ext).trans hn5.ext).then' hp7.only (by simp) (Nat.le_trans hn1.ext.size hn3.ext.size)).trans hx11).trans hn12.ext).then' hp14.only (by simp) (Nat.le_trans (Nat.le_trans (Nat.le_trans (Nat.le_trans hn1.ext.size hn3.ext.size) hn5.ext.size) hp7.only.size) hx11.size)).trans hx18).trans hn19.ext).then' hp21.only (by simp) (Nat.le_trans (Nat.le_trans (Nat.le_trans (Nat.le_trans (Nat.le_trans (Nat.le_trans (Nat.le_trans hn1.ext.size hn3.ext.size) hn5.ext.size) hp7.only.size) hx11.size) hn12.ext.size) hp14.only.size) hx18.size)).trans hx25)⟩

end Go.Xp
