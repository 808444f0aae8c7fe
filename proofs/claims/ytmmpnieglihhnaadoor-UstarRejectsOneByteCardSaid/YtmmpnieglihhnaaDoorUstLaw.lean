/- Layer 7: the laws' own texts that do not reach Decode. -/
import Derived.Test.YtmmpnieglihhnaaDoorUstQ
set_option linter.unusedSimpArgs false
set_option linter.unusedVariables false
namespace Go.Xp
open Go.Proofs

theorem ubody_len {t : Int} {name pre link : List UInt8} {mode size : Int} (h : ucheck t name pre link mode size = 0) : (ubody t name pre link mode size).length = 512 := by
  obtain ⟨-, c1, c2, c3, hm, hs⟩ := ucheck_ok h
  have k1 : (cfmt name 100).length = 100 := cf_len (w := 100) c1
  have k2 : (cfmt link 100).length = 100 := cf_len (w := 100) c2
  have k3 : (cfmt pre 155).length = 155 := cf_len (w := 155) c3
  have l1 : (octf mode 8).length = 8 := of_len (w := 8) (oerr_mode hm) (by decide)
  have l2 : (octf size 12).length = 12 := of_len (w := 12) (oerr_size hs) (by decide)
  have l3 : (octf 0 8).length = 8 := of_len (n := 0) (w := 8) (by decide) (by decide)
  have l4 : (octf 0 12).length = 12 := of_len (n := 0) (w := 12) (by decide) (by decide)
  have z1 : (cfmt [] 32).length = 32 := cf_len (s := []) (w := 32) (by decide)
  have z2 : (cfmt [] 12).length = 12 := cf_len (s := []) (w := 12) (by decide)
  unfold ubody
  simp only [List.length_append, k1, k2, k3, l1, l2, l3, l4, z1, z2, List.length_cons, List.length_nil]
theorem uenc_len {t : Int} {name pre link : List UInt8} {mode size : Int} (h : ucheck t name pre link mode size = 0) : (uenc t name pre link mode size).length = 512 := by
  unfold uenc; rw [if_pos h]; exact sseal_len (ubody_len h)
theorem alive_c : ucheck 48 [97] [] [] 420 3 = 0 := by decide +kernel

set_option maxRecDepth 100000 in
theorem law07_alive (h : Heap) (hG : Glb h) : Cal Tryd.prog 12 #[] h (fun v h' => v = .bool true ∧ Ext h h') := by
  have hal := uenc_len alive_c
  refine Cal_enter (args := []) Tryd.func12 rfl rfl rfl (fun σ => ?_)
  refine W_seq ?_
  refine W_region ?_
  refine L_yld (Y_assign rfl) rfl rfl rfl ?_
  refine L_nil ?_
  refine X_then ?_
  refine W_seq ?_
  refine W_region ?_
  refine L_yld (Y_build (v := .agg #[.int .u8 48, str [97], str [], str [], .int .i64 420, .int .i64 3]) (pv := [(0, .int .u8 48), (1, str [97]), (4, .int .i64 420), (5, .int .i64 3)]) (evp (is := [0, 1, 4, 5]) (os := [.const (.int .u8 48), .const (str [97]), .const (.int .i64 420), .const (.int .i64 3)]) (vs := [.int .u8 48, str [97], .int .i64 420, .int .i64 3]) rfl rfl) (fun _ => by kernel_rfl)) rfl rfl rfl ?_
  refine L_call (E_call (by kernel_rfl) rfl) (ustar_Encode _ hG (48 : Int) [97] [] [] (420 : Int) (3 : Int) (by first | omega | rfl | (simp <;> omega))) rfl rfl rfl ?_
  rintro _ h1 ⟨s01, rfl, hr02, hx3⟩
  refine L_yld (Y_move rfl) rfl rfl rfl ?_
  refine L_yld (Y_extract (v := s01) rfl rfl) rfl rfl rfl ?_
  refine L_yld (Y_extract (v := .int .i64 (ucheck (48 : Int) [97] [] [] (420 : Int) (3 : Int))) rfl rfl) rfl rfl rfl ?_
  refine L_yld (Y_assign rfl) rfl rfl rfl ?_
  refine L_yld (Y_assign rfl) rfl rfl rfl ?_
  refine L_nil ?_
  refine X_then ?_
  refine W_sub _ (.cons (i := 2) rfl (.cons (i := 1) rfl (.cons (i := 0) rfl (.nil _)))) ?_
  refine W_seq ?_
  refine W_region ?_
  refine L_yld (Y_move rfl) rfl rfl rfl ?_
  refine L_yld (Y_eql rfl rfl) rfl rfl rfl ?_
  refine L_yld (Y_move rfl) rfl rfl rfl ?_
  refine L_known (d := 10) true rfl (by exact decide_eq_true (by first | exact alive_c | omega | decide +kernel)) ?_
  refine L_yld (Y_move rfl) rfl rfl rfl ?_
  refine L_yld (Y_len Tryd.underlying24 rfl hr02) rfl rfl rfl ?_
  refine L_yld (Y_eql rfl rfl) rfl rfl rfl ?_
  refine L_yld (Y_pick_t rfl rfl) rfl rfl rfl ?_
  refine L_yld (Y_move rfl) rfl rfl rfl ?_
  refine L_known (d := 15) true rfl (by exact decide_eq_true (by first | exact alive_c | omega | decide +kernel)) ?_
  refine L_yld (Y_move rfl) rfl rfl rfl ?_
  have hb4 : Bytes h1 (slcut 1 (100 : Int).toNat (107 : Int).toNat s01) (((uenc (48 : Int) [97] [] [] (420 : Int) (3 : Int)).take 107).drop 100) := Bytes.cutb hr02 (by omega) (by omega)
  refine L_yld (Y_cut Tryd.underlying24 (show _ = some 1 by kernel_rfl) rfl hr02 rfl rfl (by omega) (by omega) (by omega)) rfl rfl rfl ?_
  refine L_yld (Y_bytes_str Tryd.underlying24 Tryd.underlying5 Tryd.underlying9 rfl hb4) rfl rfl rfl ?_
  refine L_yld (Y_seql rfl rfl) rfl rfl rfl ?_
  refine L_yld (Y_pick_t rfl rfl) rfl rfl rfl ?_
  refine L_yld (Y_move rfl) rfl rfl rfl ?_
  refine L_known (d := 21) true rfl (by exact decide_eq_true (by first | exact alive_c | omega | decide +kernel)) ?_
  refine L_yld (Y_move rfl) rfl rfl rfl ?_
  have hb5 : Bytes h1 (slcut 1 (124 : Int).toNat (135 : Int).toNat s01) (((uenc (48 : Int) [97] [] [] (420 : Int) (3 : Int)).take 135).drop 124) := Bytes.cutb hr02 (by omega) (by omega)
  refine L_yld (Y_cut Tryd.underlying24 (show _ = some 1 by kernel_rfl) rfl hr02 rfl rfl (by omega) (by omega) (by omega)) rfl rfl rfl ?_
  refine L_yld (Y_bytes_str Tryd.underlying24 Tryd.underlying5 Tryd.underlying9 rfl hb5) rfl rfl rfl ?_
  refine L_yld (Y_seql rfl rfl) rfl rfl rfl ?_
  refine L_yld (Y_pick_t rfl rfl) rfl rfl rfl ?_
  refine L_yld (Y_assign rfl) rfl rfl rfl ?_
  refine L_nil ?_
  refine X_then ?_
  refine W_sub _ (.cons (i := 0) rfl (.nil _)) ?_
  refine W_ret ?_
  refine X_ret1 rfl rfl ?_
  exact ⟨rfl, hx3⟩

set_option maxRecDepth 100000 in
theorem law07_tooLarge (h : Heap) (t : Int) (name : List UInt8) (pre : List UInt8) (link : List UInt8) (mode : Int) (size : Int) (h1 : name.length ≤ 140737488355328) (h2 : pre.length ≤ 140737488355328) (h3 : link.length ≤ 140737488355328) : Cal Tryd.prog 16 #[.agg #[.int .u8 (t), str name, str pre, str link, .int .i64 (mode), .int .i64 (size)]] h (fun v h' => v = .bool (decide (2000 < (name.length : Int) + (pre.length : Int) + (link.length : Int))) ∧ Ext h h') := by
  refine Cal_enter (args := [.agg #[.int .u8 (t), str name, str pre, str link, .int .i64 (mode), .int .i64 (size)]]) Tryd.func16 rfl rfl rfl (fun σ => ?_)
  refine W_seq ?_
  refine W_region ?_
  refine L_mks (M_box rfl) rfl rfl rfl ?_
  rintro _ h1 ⟨rfl, hn1⟩
  have hk2 : Blk h1 h.size [.int .u8 (t), str name, str pre, str link, .int .i64 (mode), .int .i64 (size)] := hn1.blk
  refine L_yld (Y_assign rfl) rfl rfl rfl ?_
  refine L_nil ?_
  refine X_then ?_
  refine W_sub _ (.cons (i := 2) rfl (.cons (i := 1) rfl (.nil _))) ?_
  refine W_seq ?_
  refine W_region ?_
  refine L_yld (Y_fieldAddr (off := 1) (by kernel_rfl) rfl rfl) rfl rfl rfl ?_
  refine L_yld (Y_ldblk Tryd.underlying9 rfl rfl hk2 rfl) rfl rfl rfl ?_
  refine L_yld (Y_slen Tryd.underlying9 rfl) rfl rfl rfl ?_
  refine L_yld (Y_fieldAddr (off := 2) (by kernel_rfl) rfl rfl) rfl rfl rfl ?_
  refine L_yld (Y_ldblk Tryd.underlying9 rfl rfl hk2 rfl) rfl rfl rfl ?_
  refine L_yld (Y_slen Tryd.underlying9 rfl) rfl rfl rfl ?_
  refine L_yld (Y_add rfl rfl (by omega) (by omega)) rfl rfl rfl ?_
  refine L_yld (Y_fieldAddr (off := 3) (by kernel_rfl) rfl rfl) rfl rfl rfl ?_
  refine L_yld (Y_ldblk Tryd.underlying9 rfl rfl hk2 rfl) rfl rfl rfl ?_
  refine L_yld (Y_slen Tryd.underlying9 rfl) rfl rfl rfl ?_
  refine L_yld (Y_add rfl rfl (by omega) (by omega)) rfl rfl rfl ?_
  refine L_yld (Y_gtr rfl rfl) rfl rfl rfl ?_
  refine L_yld (Y_assign rfl) rfl rfl rfl ?_
  refine L_nil ?_
  refine X_then ?_
  refine W_sub _ (.cons (i := 2) rfl (.nil _)) ?_
  refine W_ret ?_
  refine X_ret1 rfl rfl ?_
  exact ⟨rfl, hn1.ext⟩


end Go.Xp
