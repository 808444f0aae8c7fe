/- Layer 7: the reference's Encode. -/
import Derived.Test.YtmmpnieglihhnaaDoorUst
import Derived.Test.YtmmpnieglihhnaaDoorDraw
set_option linter.unusedSimpArgs false
set_option linter.unusedVariables false
namespace Go.Xp
open Go.Proofs

set_option maxRecDepth 100000 in
theorem ref07_Encode (h : Heap) (t : Int) (name : List UInt8) (pre : List UInt8) (link : List UInt8) (mode : Int) (size : Int) (h1 : name.length ≤ 1048576) (h2 : pre.length ≤ 1048576) (h3 : link.length ≤ 1048576) (ht : 0 ≤ t ∧ t ≤ 255) (hm : mode ≤ 9223372036854775807) (hz : size ≤ 9223372036854775807) : Cal Tryd.prog 41 #[.agg #[.int .u8 (t), str name, str pre, str link, .int .i64 (mode), .int .i64 (size)]] h (fun v h' => ∃ s0, v = .tuple #[s0, .int .i64 (ucheck t name pre link mode size)] ∧ Bytes h' s0 (uenc t name pre link mode size) ∧ Ext h h') := by
  have c1 := cfmt_len name 100
  have c2 := cfmt_len link 100
  have c3 := cfmt_len [] 32
  have c4 := cfmt_len pre 155
  have c5 := cfmt_len [] 12
  have o1 := octf_len mode 8
  have o2 := octf_len 0 8
  have o3 := octf_len size 12
  have o4 := octf_len 0 12
  refine Cal_enter (args := [.agg #[.int .u8 (t), str name, str pre, str link, .int .i64 (mode), .int .i64 (size)]]) Tryd.func41 rfl rfl rfl (fun σ => ?_)
  refine W_seq ?_
  refine W_region ?_
  refine L_mks (M_box rfl) rfl rfl rfl ?_
  rintro _ h1 ⟨rfl, hn1⟩
  have hk2 : Blk h1 h.size [.int .u8 (t), str name, str pre, str link, .int .i64 (mode), .int .i64 (size)] := hn1.blk
  refine L_yld (Y_assign rfl) rfl rfl rfl ?_
  refine L_yld (Y_assign rfl) rfl rfl rfl ?_
  refine L_nil ?_
  refine X_then ?_
  refine W_sub _ (.cons (i := 3) rfl (.cons (i := 2) rfl (.cons (i := 1) rfl (.nil _)))) ?_
  refine W_seq ?_
  refine W_region ?_
  refine L_yld (Y_ldbox (us := [.int .u8 (t), str name, str pre, str link, .int .i64 (mode), .int .i64 (size)]) Tryd.underlying39 rfl (show _ = some 6 by kernel_rfl) rfl hk2 rfl) rfl rfl rfl ?_
  refine L_call (E_call (by kernel_rfl) rfl) (ref07_Check _ t name pre link mode size (by first | omega | rfl | (simp <;> omega)) (by first | omega | rfl | (simp <;> omega)) (by first | omega | rfl | (simp <;> omega))) rfl rfl rfl ?_
  rintro _ h2 ⟨rfl, hx3⟩
  refine L_yld (Y_assign rfl) rfl rfl rfl ?_
  refine L_nil ?_
  refine X_then ?_
  refine W_sub _ (.cons (i := 4) rfl (.cons (i := 3) rfl (.cons (i := 2) rfl (.cons (i := 1) rfl (.nil _))))) ?_
  refine W_seq ?_
  refine W_seq ?_
  refine W_region ?_
  refine L_yld (Y_move rfl) rfl rfl rfl ?_
  refine L_yld (Y_neq rfl rfl) rfl rfl rfl ?_
  refine L_nil ?_
  refine X_then ?_
  refine W_sub _ (.cons (i := 11) rfl (.cons (i := 4) rfl (.cons (i := 3) rfl (.cons (i := 2) rfl (.cons (i := 1) rfl (.nil _)))))) ?_
  refine W_splitd rfl (fun e => ?_) (fun e => ?_)
  · refine W_seq ?_
    refine W_region ?_
    refine L_yld (Y_move rfl) rfl rfl rfl ?_
    refine L_yld (Y_assign rfl) rfl rfl rfl ?_
    refine L_yld (Y_assign rfl) rfl rfl rfl ?_
    refine L_nil ?_
    refine X_then ?_
    refine W_sub _ (.cons (i := 3) rfl (.cons (i := 2) rfl (.cons (i := 1) rfl (.nil _)))) ?_
    refine W_ret ?_
    refine X_then_ret ?_
    refine X_ret2 rfl rfl rfl ?_
    refine ⟨_, rfl, ?_, (hn1.ext.trans hx3)⟩
    unfold uenc
    rw [if_neg e]
    exact Bytes.nil _
  · refine W_skip ?_
    refine X_then ?_
    refine W_sub _ (.cons (i := 3) rfl (.cons (i := 2) rfl (.cons (i := 1) rfl (.nil _)))) ?_
    refine W_seq ?_
    refine W_pers [(3, .int .i64 0), (2, .slice none 0 0), (1, .pointer (some ⟨h.size, 0, none⟩))] (.cons (i := 3) rfl (.cons (i := 2) rfl (.cons (i := 1) rfl (.nil _)))) (by kernel_rfl) ?_
    refine LP_op 0 (fun _ vv => .pointer (some ⟨h.size, 0 + 1, none⟩) = vv) [] rfl rfl (by kernel_rfl) (fun _ _ _ _ p => p) ?_ ?_
    · intro h3 hx4
      refine Needs_nil ?_
      refine Stp_yld (Y_fieldAddr (off := 1) (by kernel_rfl) rfl rfl) rfl ?_
      exact rfl
    refine LP_op 1 (fun _ vv => str name = vv) [(0, 13)] rfl rfl (by kernel_rfl) (fun _ _ _ _ p => p) ?_ ?_
    · intro h4 hx5
      rintro _ rfl
      refine Needs_nil ?_
      refine Stp_yld (Y_ldblk Tryd.underlying9 rfl rfl (hk2.ext (hx3.trans hx5)) rfl) rfl ?_
      exact rfl
    refine LP_op 2 (fun _ vv => str (cfmt name (100 : Int)) = vv) [(1, 14)] rfl rfl (by kernel_rfl) (fun _ _ _ _ p => p) ?_ ?_
    · intro h5 hx6
      rintro _ rfl
      refine Needs_nil ?_
      refine Stp_call (E_call (by kernel_rfl) rfl) (ref07_text _ name (100 : Int) (by first | omega | rfl | (simp <;> omega))) rfl ?_
      rintro _ h6 ⟨rfl, hx7⟩
      exact ⟨hx7, rfl⟩
    refine LP_op 3 (fun _ vv => .pointer (some ⟨h.size, 0 + 4, none⟩) = vv) [] rfl rfl (by kernel_rfl) (fun _ _ _ _ p => p) ?_ ?_
    · intro h7 hx8
      refine Needs_nil ?_
      refine Stp_yld (Y_fieldAddr (off := 4) (by kernel_rfl) rfl rfl) rfl ?_
      exact rfl
    refine LP_op 4 (fun _ vv => .int .i64 (mode) = vv) [(3, 16)] rfl rfl (by kernel_rfl) (fun _ _ _ _ p => p) ?_ ?_
    · intro h8 hx9
      rintro _ rfl
      refine Needs_nil ?_
      refine Stp_yld (Y_ldblk Tryd.underlying3 rfl rfl (hk2.ext (hx3.trans hx9)) rfl) rfl ?_
      exact rfl
    refine LP_op 5 (fun _ vv => str (octf mode (8 : Int)) = vv) [(4, 17)] rfl rfl (by kernel_rfl) (fun _ _ _ _ p => p) ?_ ?_
    · intro h9 hx10
      rintro _ rfl
      refine Needs_nil ?_
      refine Stp_call (E_call (by kernel_rfl) rfl) (ref07_octal _ mode (8 : Int) (by first | omega | rfl | (simp <;> omega))) rfl ?_
      rintro _ h10 ⟨rfl, hx11⟩
      exact ⟨hx11, rfl⟩
    refine LP_op 6 (fun _ vv => str ((cfmt name (100 : Int)) ++ (octf mode (8 : Int))) = vv) [(5, 18), (2, 15)] rfl rfl (by kernel_rfl) (fun _ _ _ _ p => p) ?_ ?_
    · intro h11 hx12
      rintro _ rfl
      rintro _ rfl
      refine Needs_nil ?_
      refine Stp_yld (Y_sadd rfl rfl (by first | omega | (simp <;> omega))) rfl ?_
      exact rfl
    refine LP_op 7 (fun _ vv => str (octf (0 : Int) (8 : Int)) = vv) [] rfl rfl (by kernel_rfl) (fun _ _ _ _ p => p) ?_ ?_
    · intro h12 hx13
      refine Needs_nil ?_
      refine Stp_call (E_call (by kernel_rfl) rfl) (ref07_octal _ (0 : Int) (8 : Int) (by first | omega | rfl | (simp <;> omega))) rfl ?_
      rintro _ h13 ⟨rfl, hx14⟩
      exact ⟨hx14, rfl⟩
    refine LP_op 8 (fun _ vv => str (((cfmt name (100 : Int)) ++ (octf mode (8 : Int))) ++ (octf (0 : Int) (8 : Int))) = vv) [(6, 19), (7, 20)] rfl rfl (by kernel_rfl) (fun _ _ _ _ p => p) ?_ ?_
    · intro h14 hx15
      rintro _ rfl
      rintro _ rfl
      refine Needs_nil ?_
      refine Stp_yld (Y_sadd rfl rfl (by first | omega | (simp <;> omega))) rfl ?_
      exact rfl
    refine LP_op 9 (fun _ vv => str (octf (0 : Int) (8 : Int)) = vv) [] rfl rfl (by kernel_rfl) (fun _ _ _ _ p => p) ?_ ?_
    · intro h15 hx16
      refine Needs_nil ?_
      refine Stp_call (E_call (by kernel_rfl) rfl) (ref07_octal _ (0 : Int) (8 : Int) (by first | omega | rfl | (simp <;> omega))) rfl ?_
      rintro _ h16 ⟨rfl, hx17⟩
      exact ⟨hx17, rfl⟩
    refine LP_op 10 (fun _ vv => str ((((cfmt name (100 : Int)) ++ (octf mode (8 : Int))) ++ (octf (0 : Int) (8 : Int))) ++ (octf (0 : Int) (8 : Int))) = vv) [(8, 21), (9, 22)] rfl rfl (by kernel_rfl) (fun _ _ _ _ p => p) ?_ ?_
    · intro h17 hx18
      rintro _ rfl
      rintro _ rfl
      refine Needs_nil ?_
      refine Stp_yld (Y_sadd rfl rfl (by first | omega | (simp <;> omega))) rfl ?_
      exact rfl
    refine LP_op 11 (fun _ vv => .pointer (some ⟨h.size, 0 + 5, none⟩) = vv) [] rfl rfl (by kernel_rfl) (fun _ _ _ _ p => p) ?_ ?_
    · intro h18 hx19
      refine Needs_nil ?_
      refine Stp_yld (Y_fieldAddr (off := 5) (by kernel_rfl) rfl rfl) rfl ?_
      exact rfl
    refine LP_op 12 (fun _ vv => .int .i64 (size) = vv) [(11, 24)] rfl rfl (by kernel_rfl) (fun _ _ _ _ p => p) ?_ ?_
    · intro h19 hx20
      rintro _ rfl
      refine Needs_nil ?_
      refine Stp_yld (Y_ldblk Tryd.underlying2 rfl rfl (hk2.ext (hx3.trans hx20)) rfl) rfl ?_
      exact rfl
    refine LP_op 13 (fun _ vv => str (octf size (12 : Int)) = vv) [(12, 25)] rfl rfl (by kernel_rfl) (fun _ _ _ _ p => p) ?_ ?_
    · intro h20 hx21
      rintro _ rfl
      refine Needs_nil ?_
      refine Stp_call (E_call (by kernel_rfl) rfl) (ref07_octal _ size (12 : Int) (by first | omega | rfl | (simp <;> omega))) rfl ?_
      rintro _ h21 ⟨rfl, hx22⟩
      exact ⟨hx22, rfl⟩
    refine LP_op 14 (fun _ vv => str (((((cfmt name (100 : Int)) ++ (octf mode (8 : Int))) ++ (octf (0 : Int) (8 : Int))) ++ (octf (0 : Int) (8 : Int))) ++ (octf size (12 : Int))) = vv) [(13, 26), (10, 23)] rfl rfl (by kernel_rfl) (fun _ _ _ _ p => p) ?_ ?_
    · intro h22 hx23
      rintro _ rfl
      rintro _ rfl
      refine Needs_nil ?_
      refine Stp_yld (Y_sadd rfl rfl (by first | omega | (simp <;> omega))) rfl ?_
      exact rfl
    refine LP_op 15 (fun _ vv => str (octf (0 : Int) (12 : Int)) = vv) [] rfl rfl (by kernel_rfl) (fun _ _ _ _ p => p) ?_ ?_
    · intro h23 hx24
      refine Needs_nil ?_
      refine Stp_call (E_call (by kernel_rfl) rfl) (ref07_octal _ (0 : Int) (12 : Int) (by first | omega | rfl | (simp <;> omega))) rfl ?_
      rintro _ h24 ⟨rfl, hx25⟩
      exact ⟨hx25, rfl⟩
    refine LP_op 16 (fun _ vv => str ((((((cfmt name (100 : Int)) ++ (octf mode (8 : Int))) ++ (octf (0 : Int) (8 : Int))) ++ (octf (0 : Int) (8 : Int))) ++ (octf size (12 : Int))) ++ (octf (0 : Int) (12 : Int))) = vv) [(14, 27), (15, 28)] rfl rfl (by kernel_rfl) (fun _ _ _ _ p => p) ?_ ?_
    · intro h25 hx26
      rintro _ rfl
      rintro _ rfl
      refine Needs_nil ?_
      refine Stp_yld (Y_sadd rfl rfl (by first | omega | (simp <;> omega))) rfl ?_
      exact rfl
    refine LP_op 17 (fun _ vv => str (((((((cfmt name (100 : Int)) ++ (octf mode (8 : Int))) ++ (octf (0 : Int) (8 : Int))) ++ (octf (0 : Int) (8 : Int))) ++ (octf size (12 : Int))) ++ (octf (0 : Int) (12 : Int))) ++ [32, 32, 32, 32, 32, 32, 32, 32]) = vv) [(16, 29)] rfl rfl (by kernel_rfl) (fun _ _ _ _ p => p) ?_ ?_
    · intro h26 hx27
      rintro _ rfl
      refine Needs_nil ?_
      refine Stp_yld (Y_sadd rfl rfl (by first | omega | (simp <;> omega))) rfl ?_
      exact rfl
    refine LP_op 18 (fun _ vv => .pointer (some ⟨h.size, 0 + 0, none⟩) = vv) [] rfl rfl (by kernel_rfl) (fun _ _ _ _ p => p) ?_ ?_
    · intro h27 hx28
      refine Needs_nil ?_
      refine Stp_yld (Y_fieldAddr (off := 0) (by kernel_rfl) rfl rfl) rfl ?_
      exact rfl
    refine LP_op 19 (fun _ vv => .int .u8 (t) = vv) [(18, 31)] rfl rfl (by kernel_rfl) (fun _ _ _ _ p => p) ?_ ?_
    · intro h28 hx29
      rintro _ rfl
      refine Needs_nil ?_
      refine Stp_yld (Y_ldblk Tryd.underlying5 rfl rfl (hk2.ext (hx3.trans hx29)) rfl) rfl ?_
      exact rfl
    refine LP_op 20 (fun hh r4_1 => OwnB hh h2.size r4_1 ([(t).toNat.toUInt8])) [(19, 32)] rfl rfl (by kernel_rfl) (fun _ _ _ x_ p_ => p_.ext x_) ?_ ?_
    · intro h29 hx30
      rintro _ rfl
      refine Needs_nil ?_
      refine Stp_mks (M_litb (l := [(t).toNat.toUInt8]) (cells := [.int .u8 (t)]) (pv := [(0, .int .u8 (t))]) (E := 5) (evp (is := [0]) (os := [.tmp 32]) (vs := [.int .u8 (t)]) rfl rfl) rfl (by rw [bv_of (show 0 ≤ t ∧ t ≤ 255 by first | exact byt_lt _ _ | omega)]; rfl) (fun _ => by kernel_rfl)) rfl ?_
      rintro v31 h30 ⟨ho32, hx33⟩
      exact ⟨hx33, (ho32.low hx30.size)⟩
    refine LP_op 21 (fun _ vv => str [(t).toNat.toUInt8] = vv) [(20, 33)] rfl rfl (by kernel_rfl) (fun _ _ _ _ p => p) ?_ ?_
    · intro h31 hx34
      intro r4_1 q4_1
      refine Needs_nil ?_
      refine Stp_yld (Y_bytes_str Tryd.underlying24 Tryd.underlying5 Tryd.underlying9 rfl q4_1.bytes) rfl ?_
      exact rfl
    refine LP_op 22 (fun _ vv => str ((((((((cfmt name (100 : Int)) ++ (octf mode (8 : Int))) ++ (octf (0 : Int) (8 : Int))) ++ (octf (0 : Int) (8 : Int))) ++ (octf size (12 : Int))) ++ (octf (0 : Int) (12 : Int))) ++ [32, 32, 32, 32, 32, 32, 32, 32]) ++ [(t).toNat.toUInt8]) = vv) [(21, 34), (17, 30)] rfl rfl (by kernel_rfl) (fun _ _ _ _ p => p) ?_ ?_
    · intro h32 hx35
      rintro _ rfl
      rintro _ rfl
      refine Needs_nil ?_
      refine Stp_yld (Y_sadd rfl rfl (by first | omega | (simp <;> omega))) rfl ?_
      exact rfl
    refine LP_op 23 (fun _ vv => .pointer (some ⟨h.size, 0 + 3, none⟩) = vv) [] rfl rfl (by kernel_rfl) (fun _ _ _ _ p => p) ?_ ?_
    · intro h33 hx36
      refine Needs_nil ?_
      refine Stp_yld (Y_fieldAddr (off := 3) (by kernel_rfl) rfl rfl) rfl ?_
      exact rfl
    refine LP_op 24 (fun _ vv => str link = vv) [(23, 36)] rfl rfl (by kernel_rfl) (fun _ _ _ _ p => p) ?_ ?_
    · intro h34 hx37
      rintro _ rfl
      refine Needs_nil ?_
      refine Stp_yld (Y_ldblk Tryd.underlying9 rfl rfl (hk2.ext (hx3.trans hx37)) rfl) rfl ?_
      exact rfl
    refine LP_op 25 (fun _ vv => str (cfmt link (100 : Int)) = vv) [(24, 37)] rfl rfl (by kernel_rfl) (fun _ _ _ _ p => p) ?_ ?_
    · intro h35 hx38
      rintro _ rfl
      refine Needs_nil ?_
      refine Stp_call (E_call (by kernel_rfl) rfl) (ref07_text _ link (100 : Int) (by first | omega | rfl | (simp <;> omega))) rfl ?_
      rintro _ h36 ⟨rfl, hx39⟩
      exact ⟨hx39, rfl⟩
    refine LP_op 26 (fun _ vv => str (((((((((cfmt name (100 : Int)) ++ (octf mode (8 : Int))) ++ (octf (0 : Int) (8 : Int))) ++ (octf (0 : Int) (8 : Int))) ++ (octf size (12 : Int))) ++ (octf (0 : Int) (12 : Int))) ++ [32, 32, 32, 32, 32, 32, 32, 32]) ++ [(t).toNat.toUInt8]) ++ (cfmt link (100 : Int))) = vv) [(22, 35), (25, 38)] rfl rfl (by kernel_rfl) (fun _ _ _ _ p => p) ?_ ?_
    · intro h37 hx40
      rintro _ rfl
      rintro _ rfl
      refine Needs_nil ?_
      refine Stp_yld (Y_sadd rfl rfl (by first | omega | (simp <;> omega))) rfl ?_
      exact rfl
    refine LP_op 27 (fun _ vv => str ((((((((((cfmt name (100 : Int)) ++ (octf mode (8 : Int))) ++ (octf (0 : Int) (8 : Int))) ++ (octf (0 : Int) (8 : Int))) ++ (octf size (12 : Int))) ++ (octf (0 : Int) (12 : Int))) ++ [32, 32, 32, 32, 32, 32, 32, 32]) ++ [(t).toNat.toUInt8]) ++ (cfmt link (100 : Int))) ++ [117, 115, 116, 97, 114, 0, 48, 48]) = vv) [(26, 39)] rfl rfl (by kernel_rfl) (fun _ _ _ _ p => p) ?_ ?_
    · intro h38 hx41
      rintro _ rfl
      refine Needs_nil ?_
      refine Stp_yld (Y_sadd rfl rfl (by first | omega | (simp <;> omega))) rfl ?_
      exact rfl
    refine LP_op 28 (fun _ vv => str (cfmt [] (32 : Int)) = vv) [] rfl rfl (by kernel_rfl) (fun _ _ _ _ p => p) ?_ ?_
    · intro h39 hx42
      refine Needs_nil ?_
      refine Stp_call (E_call (by kernel_rfl) rfl) (ref07_text _ [] (32 : Int) (by first | omega | rfl | (simp <;> omega))) rfl ?_
      rintro _ h40 ⟨rfl, hx43⟩
      exact ⟨hx43, rfl⟩
    refine LP_op 29 (fun _ vv => str (((((((((((cfmt name (100 : Int)) ++ (octf mode (8 : Int))) ++ (octf (0 : Int) (8 : Int))) ++ (octf (0 : Int) (8 : Int))) ++ (octf size (12 : Int))) ++ (octf (0 : Int) (12 : Int))) ++ [32, 32, 32, 32, 32, 32, 32, 32]) ++ [(t).toNat.toUInt8]) ++ (cfmt link (100 : Int))) ++ [117, 115, 116, 97, 114, 0, 48, 48]) ++ (cfmt [] (32 : Int))) = vv) [(27, 40), (28, 41)] rfl rfl (by kernel_rfl) (fun _ _ _ _ p => p) ?_ ?_
    · intro h41 hx44
      rintro _ rfl
      rintro _ rfl
      refine Needs_nil ?_
      refine Stp_yld (Y_sadd rfl rfl (by first | omega | (simp <;> omega))) rfl ?_
      exact rfl
    refine LP_op 30 (fun _ vv => str (cfmt [] (32 : Int)) = vv) [] rfl rfl (by kernel_rfl) (fun _ _ _ _ p => p) ?_ ?_
    · intro h42 hx45
      refine Needs_nil ?_
      refine Stp_call (E_call (by kernel_rfl) rfl) (ref07_text _ [] (32 : Int) (by first | omega | rfl | (simp <;> omega))) rfl ?_
      rintro _ h43 ⟨rfl, hx46⟩
      exact ⟨hx46, rfl⟩
    refine LP_op 31 (fun _ vv => str ((((((((((((cfmt name (100 : Int)) ++ (octf mode (8 : Int))) ++ (octf (0 : Int) (8 : Int))) ++ (octf (0 : Int) (8 : Int))) ++ (octf size (12 : Int))) ++ (octf (0 : Int) (12 : Int))) ++ [32, 32, 32, 32, 32, 32, 32, 32]) ++ [(t).toNat.toUInt8]) ++ (cfmt link (100 : Int))) ++ [117, 115, 116, 97, 114, 0, 48, 48]) ++ (cfmt [] (32 : Int))) ++ (cfmt [] (32 : Int))) = vv) [(29, 42), (30, 43)] rfl rfl (by kernel_rfl) (fun _ _ _ _ p => p) ?_ ?_
    · intro h44 hx47
      rintro _ rfl
      rintro _ rfl
      refine Needs_nil ?_
      refine Stp_yld (Y_sadd rfl rfl (by first | omega | (simp <;> omega))) rfl ?_
      exact rfl
    refine LP_op 32 (fun _ vv => str (octf (0 : Int) (8 : Int)) = vv) [] rfl rfl (by kernel_rfl) (fun _ _ _ _ p => p) ?_ ?_
    · intro h45 hx48
      refine Needs_nil ?_
      refine Stp_call (E_call (by kernel_rfl) rfl) (ref07_octal _ (0 : Int) (8 : Int) (by first | omega | rfl | (simp <;> omega))) rfl ?_
      rintro _ h46 ⟨rfl, hx49⟩
      exact ⟨hx49, rfl⟩
    refine LP_op 33 (fun _ vv => str (((((((((((((cfmt name (100 : Int)) ++ (octf mode (8 : Int))) ++ (octf (0 : Int) (8 : Int))) ++ (octf (0 : Int) (8 : Int))) ++ (octf size (12 : Int))) ++ (octf (0 : Int) (12 : Int))) ++ [32, 32, 32, 32, 32, 32, 32, 32]) ++ [(t).toNat.toUInt8]) ++ (cfmt link (100 : Int))) ++ [117, 115, 116, 97, 114, 0, 48, 48]) ++ (cfmt [] (32 : Int))) ++ (cfmt [] (32 : Int))) ++ (octf (0 : Int) (8 : Int))) = vv) [(31, 44), (32, 45)] rfl rfl (by kernel_rfl) (fun _ _ _ _ p => p) ?_ ?_
    · intro h47 hx50
      rintro _ rfl
      rintro _ rfl
      refine Needs_nil ?_
      refine Stp_yld (Y_sadd rfl rfl (by first | omega | (simp <;> omega))) rfl ?_
      exact rfl
    refine LP_op 34 (fun _ vv => str (octf (0 : Int) (8 : Int)) = vv) [] rfl rfl (by kernel_rfl) (fun _ _ _ _ p => p) ?_ ?_
    · intro h48 hx51
      refine Needs_nil ?_
      refine Stp_call (E_call (by kernel_rfl) rfl) (ref07_octal _ (0 : Int) (8 : Int) (by first | omega | rfl | (simp <;> omega))) rfl ?_
      rintro _ h49 ⟨rfl, hx52⟩
      exact ⟨hx52, rfl⟩
    refine LP_op 35 (fun _ vv => str ((((((((((((((cfmt name (100 : Int)) ++ (octf mode (8 : Int))) ++ (octf (0 : Int) (8 : Int))) ++ (octf (0 : Int) (8 : Int))) ++ (octf size (12 : Int))) ++ (octf (0 : Int) (12 : Int))) ++ [32, 32, 32, 32, 32, 32, 32, 32]) ++ [(t).toNat.toUInt8]) ++ (cfmt link (100 : Int))) ++ [117, 115, 116, 97, 114, 0, 48, 48]) ++ (cfmt [] (32 : Int))) ++ (cfmt [] (32 : Int))) ++ (octf (0 : Int) (8 : Int))) ++ (octf (0 : Int) (8 : Int))) = vv) [(33, 46), (34, 47)] rfl rfl (by kernel_rfl) (fun _ _ _ _ p => p) ?_ ?_
    · intro h50 hx53
      rintro _ rfl
      rintro _ rfl
      refine Needs_nil ?_
      refine Stp_yld (Y_sadd rfl rfl (by first | omega | (simp <;> omega))) rfl ?_
      exact rfl
    refine LP_op 36 (fun _ vv => .pointer (some ⟨h.size, 0 + 2, none⟩) = vv) [] rfl rfl (by kernel_rfl) (fun _ _ _ _ p => p) ?_ ?_
    · intro h51 hx54
      refine Needs_nil ?_
      refine Stp_yld (Y_fieldAddr (off := 2) (by kernel_rfl) rfl rfl) rfl ?_
      exact rfl
    refine LP_op 37 (fun _ vv => str pre = vv) [(36, 49)] rfl rfl (by kernel_rfl) (fun _ _ _ _ p => p) ?_ ?_
    · intro h52 hx55
      rintro _ rfl
      refine Needs_nil ?_
      refine Stp_yld (Y_ldblk Tryd.underlying9 rfl rfl (hk2.ext (hx3.trans hx55)) rfl) rfl ?_
      exact rfl
    refine LP_op 38 (fun _ vv => str (cfmt pre (155 : Int)) = vv) [(37, 50)] rfl rfl (by kernel_rfl) (fun _ _ _ _ p => p) ?_ ?_
    · intro h53 hx56
      rintro _ rfl
      refine Needs_nil ?_
      refine Stp_call (E_call (by kernel_rfl) rfl) (ref07_text _ pre (155 : Int) (by first | omega | rfl | (simp <;> omega))) rfl ?_
      rintro _ h54 ⟨rfl, hx57⟩
      exact ⟨hx57, rfl⟩
    refine LP_op 39 (fun _ vv => str (((((((((((((((cfmt name (100 : Int)) ++ (octf mode (8 : Int))) ++ (octf (0 : Int) (8 : Int))) ++ (octf (0 : Int) (8 : Int))) ++ (octf size (12 : Int))) ++ (octf (0 : Int) (12 : Int))) ++ [32, 32, 32, 32, 32, 32, 32, 32]) ++ [(t).toNat.toUInt8]) ++ (cfmt link (100 : Int))) ++ [117, 115, 116, 97, 114, 0, 48, 48]) ++ (cfmt [] (32 : Int))) ++ (cfmt [] (32 : Int))) ++ (octf (0 : Int) (8 : Int))) ++ (octf (0 : Int) (8 : Int))) ++ (cfmt pre (155 : Int))) = vv) [(35, 48), (38, 51)] rfl rfl (by kernel_rfl) (fun _ _ _ _ p => p) ?_ ?_
    · intro h55 hx58
      rintro _ rfl
      rintro _ rfl
      refine Needs_nil ?_
      refine Stp_yld (Y_sadd rfl rfl (by first | omega | (simp <;> omega))) rfl ?_
      exact rfl
    refine LP_op 40 (fun _ vv => str (cfmt [] (12 : Int)) = vv) [] rfl rfl (by kernel_rfl) (fun _ _ _ _ p => p) ?_ ?_
    · intro h56 hx59
      refine Needs_nil ?_
      refine Stp_call (E_call (by kernel_rfl) rfl) (ref07_text _ [] (12 : Int) (by first | omega | rfl | (simp <;> omega))) rfl ?_
      rintro _ h57 ⟨rfl, hx60⟩
      exact ⟨hx60, rfl⟩
    refine LP_op 41 (fun _ vv => str ((((((((((((((((cfmt name (100 : Int)) ++ (octf mode (8 : Int))) ++ (octf (0 : Int) (8 : Int))) ++ (octf (0 : Int) (8 : Int))) ++ (octf size (12 : Int))) ++ (octf (0 : Int) (12 : Int))) ++ [32, 32, 32, 32, 32, 32, 32, 32]) ++ [(t).toNat.toUInt8]) ++ (cfmt link (100 : Int))) ++ [117, 115, 116, 97, 114, 0, 48, 48]) ++ (cfmt [] (32 : Int))) ++ (cfmt [] (32 : Int))) ++ (octf (0 : Int) (8 : Int))) ++ (octf (0 : Int) (8 : Int))) ++ (cfmt pre (155 : Int))) ++ (cfmt [] (12 : Int))) = vv) [(39, 52), (40, 53)] rfl rfl (by kernel_rfl) (fun _ _ _ _ p => p) ?_ ?_
    · intro h58 hx61
      rintro _ rfl
      rintro _ rfl
      refine Needs_nil ?_
      refine Stp_yld (Y_sadd rfl rfl (by first | omega | (simp <;> omega))) rfl ?_
      exact rfl
    refine LP_op 42 (fun _ vv => str ((((((((((((((((cfmt name (100 : Int)) ++ (octf mode (8 : Int))) ++ (octf (0 : Int) (8 : Int))) ++ (octf (0 : Int) (8 : Int))) ++ (octf size (12 : Int))) ++ (octf (0 : Int) (12 : Int))) ++ [32, 32, 32, 32, 32, 32, 32, 32]) ++ [(t).toNat.toUInt8]) ++ (cfmt link (100 : Int))) ++ [117, 115, 116, 97, 114, 0, 48, 48]) ++ (cfmt [] (32 : Int))) ++ (cfmt [] (32 : Int))) ++ (octf (0 : Int) (8 : Int))) ++ (octf (0 : Int) (8 : Int))) ++ (cfmt pre (155 : Int))) ++ (cfmt [] (12 : Int))) = vv) [(41, 54)] rfl rfl (by kernel_rfl) (fun _ _ _ _ p => p) ?_ ?_
    · intro h59 hx62
      rintro _ rfl
      refine Needs_nil ?_
      refine Stp_yld (Y_assign rfl) rfl ?_
      exact rfl
    refine LP_end [(42, 5)] rfl (by kernel_rfl) rfl ?_
    intro h60 hx63
    rintro _ rfl
    refine Needs_nil ?_
    refine X_then ?_
    refine W_sub _ (.cons (i := 5) rfl (.cons (i := 3) rfl (.cons (i := 2) rfl (.nil _)))) ?_
    refine W_seq ?_
    refine W_region ?_
    refine L_yld (Y_move rfl) rfl rfl rfl ?_
    refine L_mks (M_strb Tryd.underlying9 Tryd.underlying24 Tryd.underlying5 rfl) rfl rfl rfl ?_
    rintro v64 h61 ⟨ho65, hx66⟩
    refine L_call (E_call (by kernel_rfl) rfl) (ref03_Seal _ v64 ((((((((((((((((cfmt name (100 : Int)) ++ (octf mode (8 : Int))) ++ (octf (0 : Int) (8 : Int))) ++ (octf (0 : Int) (8 : Int))) ++ (octf size (12 : Int))) ++ (octf (0 : Int) (12 : Int))) ++ [32, 32, 32, 32, 32, 32, 32, 32]) ++ [(t).toNat.toUInt8]) ++ (cfmt link (100 : Int))) ++ [117, 115, 116, 97, 114, 0, 48, 48]) ++ (cfmt [] (32 : Int))) ++ (cfmt [] (32 : Int))) ++ (octf (0 : Int) (8 : Int))) ++ (octf (0 : Int) (8 : Int))) ++ (cfmt pre (155 : Int))) ++ (cfmt [] (12 : Int))) ho65.bytes) rfl rfl rfl ?_
    rintro _ h62 ⟨s067, rfl, hr068, hx69⟩
    refine L_yld (Y_move rfl) rfl rfl rfl ?_
    refine L_yld (Y_extract (v := s067) rfl rfl) rfl rfl rfl ?_
    refine L_yld (Y_extract (v := .int .i64 (serr ((((((((((((((((cfmt name (100 : Int)) ++ (octf mode (8 : Int))) ++ (octf (0 : Int) (8 : Int))) ++ (octf (0 : Int) (8 : Int))) ++ (octf size (12 : Int))) ++ (octf (0 : Int) (12 : Int))) ++ [32, 32, 32, 32, 32, 32, 32, 32]) ++ [(t).toNat.toUInt8]) ++ (cfmt link (100 : Int))) ++ [117, 115, 116, 97, 114, 0, 48, 48]) ++ (cfmt [] (32 : Int))) ++ (cfmt [] (32 : Int))) ++ (octf (0 : Int) (8 : Int))) ++ (octf (0 : Int) (8 : Int))) ++ (cfmt pre (155 : Int))) ++ (cfmt [] (12 : Int))))) rfl rfl) rfl rfl rfl ?_
    refine L_yld (Y_assign rfl) rfl rfl rfl ?_
    refine L_yld (Y_assign rfl) rfl rfl rfl ?_
    refine L_nil ?_
    refine X_then ?_
    refine W_sub _ (.cons (i := 6) rfl (.cons (i := 3) rfl (.cons (i := 2) rfl (.nil _)))) ?_
    refine W_seq ?_
    refine W_region ?_
    refine L_yld (Y_move rfl) rfl rfl rfl ?_
    refine L_yld (Y_assign rfl) rfl rfl rfl ?_
    refine L_yld (Y_assign rfl) rfl rfl rfl ?_
    refine L_nil ?_
    refine X_then ?_
    refine W_sub _ (.cons (i := 3) rfl (.cons (i := 2) rfl (.nil _))) ?_
    refine W_ret ?_
    refine X_ret2 rfl rfl rfl ?_
    have e' : ucheck t name pre link mode size = 0 := by simpa using e
    refine ⟨_, by rw [e'], ?_, ((((hn1.ext.trans hx3).trans hx63).trans hx66).trans hx69)⟩
    unfold uenc
    rw [if_pos e']
    exact hr068

end Go.Xp
