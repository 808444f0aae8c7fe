/- Layer 7: the reference's Encode. -/
import Derived.Test.YtdmhigknppkniaaGreatDoorUst
import Derived.Test.YtdmhigknppkniaaGreatDoorDraw
set_option linter.unusedSimpArgs false
set_option linter.unusedVariables false
set_option maxRecDepth 100000
namespace Go.Xp
open Go.Proofs

theorem ref07_Encode (h : Heap) (t : Int) (name : List UInt8) (pre : List UInt8) (link : List UInt8) (mode : Int) (size : Int) (h1 : name.length ≤ 1048576) (h2 : pre.length ≤ 1048576) (h3 : link.length ≤ 1048576) (ht : 0 ≤ t ∧ t ≤ 255) (hm : mode ≤ 9223372036854775807) (hz : size ≤ 9223372036854775807) : Cal Tryz.prog 69 #[.agg #[.int .u8 (t), str name, str pre, str link, .int .i64 (mode), .int .i64 (size)]] h (fun v h' => ∃ s0, v = .tuple #[s0, .int .i64 (ucheck t name pre link mode size)] ∧ Bytes h' s0 (uenc t name pre link mode size) ∧ Ext h h') := by
 have c1 := cfmt_len name 100
 have c2 := cfmt_len link 100
 have c3 := cfmt_len [] 32
 have c4 := cfmt_len pre 155
 have c5 := cfmt_len [] 12
 have o1 := octf_len mode 8
 have o2 := octf_len 0 8
 have o3 := octf_len size 12
 have o4 := octf_len 0 12
 refine Ce Tryz.func69 fun σ => ?_
 refine Wr ?_
 refine L_mks (M_box rfl) rfl rfl rfl ?_
 rintro _ h1 ⟨rfl, hn1⟩
 have hk2 : Blk h1 h.size [.int .u8 (t), str name, str pre, str link, .int .i64 (mode), .int .i64 (size)] := hn1.blk
 refine A2 ?_
 refine Ln (Xt (Wq (Wg ?_)))
 refine Lg Tryz.underlying82 hk2 ?_
 refine Lc (ref07_Check _ t name pre link mode size (by first | omega | rfl | (simp <;> omega)) (by first | omega | rfl | (simp <;> omega)) (by first | omega | rfl | (simp <;> omega))) ?_
 rintro _ h2 ⟨rfl, hx3⟩
 refine Av ?_
 refine Ln (Xt (Wq (Wq (Wg ?_))))
 refine Mv ?_
 refine Ly Yne ?_
 refine Nx ?_
 refine Sd (fun e => ?_) fun e => ?_
 ·refine Wm ?_
  refine A2 ?_
  refine Nx ?_
  refine Wu _ (tk3 3 2 1) ?_
  refine Wt (Xr ?_)
  refine Xv2 ?_
  refine ⟨_, rfl, ?_, (hn1.ext.trans hx3)⟩
  unfold uenc
  rw [if_neg e]
  exact Bytes.nil _
 refine Ws ?_
 refine Wu _ (tk3 3 2 1) ?_
 refine Wq ?_
 refine W_pers [(3, .int .i64 0), (2, .slice none 0 0), (1, .pointer (some ⟨h.size, 0, none⟩))] (tk3 3 2 1) (by kernel_rfl) ?_
 refine LPc 0 (.pointer (some ⟨h.size, 0 + 1, none⟩)) [] ?_ ?_
 ·intro h3 hx4
  exact Sf 1
 refine LPc 1 (str name) [(0, 13)] ?_ ?_
 ·intro h4 hx5
  rintro _ rfl
  exact Sb Tryz.underlying9 (hk2.ext (hx3.trans hx5))
 refine LPc 2 (str (cfmt name (100 : Int))) [(1, 14)] ?_ ?_
 ·intro h5 hx6
  rintro _ rfl
  refine Nn ?_
  refine Stp_call (E_call (by kernel_rfl) rfl) (ref07_text _ name (100 : Int) (by first | omega | rfl | (simp <;> omega))) rfl ?_
  rintro _ h6 ⟨rfl, hx7⟩
  exact ⟨hx7, rfl⟩
 refine LPc 3 (.pointer (some ⟨h.size, 0 + 4, none⟩)) [] ?_ ?_
 ·intro h7 hx8
  exact Sf 4
 refine LPc 4 (.int .i64 (mode)) [(3, 16)] ?_ ?_
 ·intro h8 hx9
  rintro _ rfl
  exact Sb Tryz.underlying3 (hk2.ext (hx3.trans hx9))
 refine LPc 5 (str (octf mode (8 : Int))) [(4, 17)] ?_ ?_
 ·intro h9 hx10
  rintro _ rfl
  refine Nn ?_
  refine Stp_call (E_call (by kernel_rfl) rfl) (ref07_octal _ mode (8 : Int) (by first | omega | rfl | (simp <;> omega))) rfl ?_
  rintro _ h10 ⟨rfl, hx11⟩
  exact ⟨hx11, rfl⟩
 refine LPc 6 (str ((cfmt name (100 : Int)) ++ (octf mode (8 : Int)))) [(5, 18), (2, 15)] ?_ ?_
 ·intro h11 hx12
  rintro _ rfl
  rintro _ rfl
  exact Sy (Y_sadd rfl rfl (by first | omega | (simp <;> omega)))
 refine LPc 7 (str (octf (0 : Int) (8 : Int))) [] ?_ ?_
 ·intro h12 hx13
  refine Nn ?_
  refine Stp_call (E_call (by kernel_rfl) rfl) (ref07_octal _ (0 : Int) (8 : Int) (by first | omega | rfl | (simp <;> omega))) rfl ?_
  rintro _ h13 ⟨rfl, hx14⟩
  exact ⟨hx14, rfl⟩
 refine LPc 8 (str (((cfmt name (100 : Int)) ++ (octf mode (8 : Int))) ++ (octf (0 : Int) (8 : Int)))) [(6, 19), (7, 20)] ?_ ?_
 ·intro h14 hx15
  rintro _ rfl
  rintro _ rfl
  exact Sy (Y_sadd rfl rfl (by first | omega | (simp <;> omega)))
 refine LPc 9 (str (octf (0 : Int) (8 : Int))) [] ?_ ?_
 ·intro h15 hx16
  refine Nn ?_
  refine Stp_call (E_call (by kernel_rfl) rfl) (ref07_octal _ (0 : Int) (8 : Int) (by first | omega | rfl | (simp <;> omega))) rfl ?_
  rintro _ h16 ⟨rfl, hx17⟩
  exact ⟨hx17, rfl⟩
 refine LPc 10 (str ((((cfmt name (100 : Int)) ++ (octf mode (8 : Int))) ++ (octf (0 : Int) (8 : Int))) ++ (octf (0 : Int) (8 : Int)))) [(8, 21), (9, 22)] ?_ ?_
 ·intro h17 hx18
  rintro _ rfl
  rintro _ rfl
  exact Sy (Y_sadd rfl rfl (by first | omega | (simp <;> omega)))
 refine LPc 11 (.pointer (some ⟨h.size, 0 + 5, none⟩)) [] ?_ ?_
 ·intro h18 hx19
  exact Sf 5
 refine LPc 12 (.int .i64 (size)) [(11, 24)] ?_ ?_
 ·intro h19 hx20
  rintro _ rfl
  exact Sb Tryz.underlying2 (hk2.ext (hx3.trans hx20))
 refine LPc 13 (str (octf size (12 : Int))) [(12, 25)] ?_ ?_
 ·intro h20 hx21
  rintro _ rfl
  refine Nn ?_
  refine Stp_call (E_call (by kernel_rfl) rfl) (ref07_octal _ size (12 : Int) (by first | omega | rfl | (simp <;> omega))) rfl ?_
  rintro _ h21 ⟨rfl, hx22⟩
  exact ⟨hx22, rfl⟩
 refine LPc 14 (str (((((cfmt name (100 : Int)) ++ (octf mode (8 : Int))) ++ (octf (0 : Int) (8 : Int))) ++ (octf (0 : Int) (8 : Int))) ++ (octf size (12 : Int)))) [(13, 26), (10, 23)] ?_ ?_
 ·intro h22 hx23
  rintro _ rfl
  rintro _ rfl
  exact Sy (Y_sadd rfl rfl (by first | omega | (simp <;> omega)))
 refine LPc 15 (str (octf (0 : Int) (12 : Int))) [] ?_ ?_
 ·intro h23 hx24
  refine Nn ?_
  refine Stp_call (E_call (by kernel_rfl) rfl) (ref07_octal _ (0 : Int) (12 : Int) (by first | omega | rfl | (simp <;> omega))) rfl ?_
  rintro _ h24 ⟨rfl, hx25⟩
  exact ⟨hx25, rfl⟩
 refine LPc 16 (str ((((((cfmt name (100 : Int)) ++ (octf mode (8 : Int))) ++ (octf (0 : Int) (8 : Int))) ++ (octf (0 : Int) (8 : Int))) ++ (octf size (12 : Int))) ++ (octf (0 : Int) (12 : Int)))) [(14, 27), (15, 28)] ?_ ?_
 ·intro h25 hx26
  rintro _ rfl
  rintro _ rfl
  exact Sy (Y_sadd rfl rfl (by first | omega | (simp <;> omega)))
 refine LPc 17 (str (((((((cfmt name (100 : Int)) ++ (octf mode (8 : Int))) ++ (octf (0 : Int) (8 : Int))) ++ (octf (0 : Int) (8 : Int))) ++ (octf size (12 : Int))) ++ (octf (0 : Int) (12 : Int))) ++ [32, 32, 32, 32, 32, 32, 32, 32])) [(16, 29)] ?_ ?_
 ·intro h26 hx27
  rintro _ rfl
  exact Sy (Y_sadd rfl rfl (by first | omega | (simp <;> omega)))
 refine LPc 18 (.pointer (some ⟨h.size, 0 + 0, none⟩)) [] ?_ ?_
 ·intro h27 hx28
  exact Sf 0
 refine LPc 19 (.int .u8 (t)) [(18, 31)] ?_ ?_
 ·intro h28 hx29
  rintro _ rfl
  exact Sb Tryz.underlying5 (hk2.ext (hx3.trans hx29))
 refine LP_op 20 (fun hh r4_1 => OwnB hh h2.size r4_1 ([(t).toNat.toUInt8])) [(19, 32)] rfl rfl (by kernel_rfl) (fun _ _ _ x_ p_ => p_.ext x_) ?_ ?_
 ·intro h29 hx30
  rintro _ rfl
  refine Nn ?_
  refine Stp_mks (M_litb (l := [(t).toNat.toUInt8]) (cells := [.int .u8 (t)]) (pv := [(0, .int .u8 (t))]) (E := 5) (evp (is := [0]) (os := [.tmp 32]) (vs := [.int .u8 (t)]) rfl rfl) rfl (by rw [bv_of (show 0 ≤ t ∧ t ≤ 255 by first | exact byt_lt _ _ | omega)]; rfl) (fun _ => by kernel_rfl)) rfl ?_
  rintro v31 h30 ⟨ho32, hx33⟩
  exact ⟨hx33, (ho32.low hx30.size)⟩
 refine LPc 21 (str [(t).toNat.toUInt8]) [(20, 33)] ?_ ?_
 ·intro h31 hx34
  intro r4_1 q4_1
  exact Sy (Y_bytes_str Tryz.underlying22 Tryz.underlying5 Tryz.underlying9 rfl q4_1.bytes)
 refine LPc 22 (str ((((((((cfmt name (100 : Int)) ++ (octf mode (8 : Int))) ++ (octf (0 : Int) (8 : Int))) ++ (octf (0 : Int) (8 : Int))) ++ (octf size (12 : Int))) ++ (octf (0 : Int) (12 : Int))) ++ [32, 32, 32, 32, 32, 32, 32, 32]) ++ [(t).toNat.toUInt8])) [(21, 34), (17, 30)] ?_ ?_
 ·intro h32 hx35
  rintro _ rfl
  rintro _ rfl
  exact Sy (Y_sadd rfl rfl (by first | omega | (simp <;> omega)))
 refine LPc 23 (.pointer (some ⟨h.size, 0 + 3, none⟩)) [] ?_ ?_
 ·intro h33 hx36
  exact Sf 3
 refine LPc 24 (str link) [(23, 36)] ?_ ?_
 ·intro h34 hx37
  rintro _ rfl
  exact Sb Tryz.underlying9 (hk2.ext (hx3.trans hx37))
 refine LPc 25 (str (cfmt link (100 : Int))) [(24, 37)] ?_ ?_
 ·intro h35 hx38
  rintro _ rfl
  refine Nn ?_
  refine Stp_call (E_call (by kernel_rfl) rfl) (ref07_text _ link (100 : Int) (by first | omega | rfl | (simp <;> omega))) rfl ?_
  rintro _ h36 ⟨rfl, hx39⟩
  exact ⟨hx39, rfl⟩
 refine LPc 26 (str (((((((((cfmt name (100 : Int)) ++ (octf mode (8 : Int))) ++ (octf (0 : Int) (8 : Int))) ++ (octf (0 : Int) (8 : Int))) ++ (octf size (12 : Int))) ++ (octf (0 : Int) (12 : Int))) ++ [32, 32, 32, 32, 32, 32, 32, 32]) ++ [(t).toNat.toUInt8]) ++ (cfmt link (100 : Int)))) [(22, 35), (25, 38)] ?_ ?_
 ·intro h37 hx40
  rintro _ rfl
  rintro _ rfl
  exact Sy (Y_sadd rfl rfl (by first | omega | (simp <;> omega)))
 refine LPc 27 (str ((((((((((cfmt name (100 : Int)) ++ (octf mode (8 : Int))) ++ (octf (0 : Int) (8 : Int))) ++ (octf (0 : Int) (8 : Int))) ++ (octf size (12 : Int))) ++ (octf (0 : Int) (12 : Int))) ++ [32, 32, 32, 32, 32, 32, 32, 32]) ++ [(t).toNat.toUInt8]) ++ (cfmt link (100 : Int))) ++ [117, 115, 116, 97, 114, 0, 48, 48])) [(26, 39)] ?_ ?_
 ·intro h38 hx41
  rintro _ rfl
  exact Sy (Y_sadd rfl rfl (by first | omega | (simp <;> omega)))
 refine LPc 28 (str (cfmt [] (32 : Int))) [] ?_ ?_
 ·intro h39 hx42
  refine Nn ?_
  refine Stp_call (E_call (by kernel_rfl) rfl) (ref07_text _ [] (32 : Int) (by first | omega | rfl | (simp <;> omega))) rfl ?_
  rintro _ h40 ⟨rfl, hx43⟩
  exact ⟨hx43, rfl⟩
 refine LPc 29 (str (((((((((((cfmt name (100 : Int)) ++ (octf mode (8 : Int))) ++ (octf (0 : Int) (8 : Int))) ++ (octf (0 : Int) (8 : Int))) ++ (octf size (12 : Int))) ++ (octf (0 : Int) (12 : Int))) ++ [32, 32, 32, 32, 32, 32, 32, 32]) ++ [(t).toNat.toUInt8]) ++ (cfmt link (100 : Int))) ++ [117, 115, 116, 97, 114, 0, 48, 48]) ++ (cfmt [] (32 : Int)))) [(27, 40), (28, 41)] ?_ ?_
 ·intro h41 hx44
  rintro _ rfl
  rintro _ rfl
  exact Sy (Y_sadd rfl rfl (by first | omega | (simp <;> omega)))
 refine LPc 30 (str (cfmt [] (32 : Int))) [] ?_ ?_
 ·intro h42 hx45
  refine Nn ?_
  refine Stp_call (E_call (by kernel_rfl) rfl) (ref07_text _ [] (32 : Int) (by first | omega | rfl | (simp <;> omega))) rfl ?_
  rintro _ h43 ⟨rfl, hx46⟩
  exact ⟨hx46, rfl⟩
 refine LPc 31 (str ((((((((((((cfmt name (100 : Int)) ++ (octf mode (8 : Int))) ++ (octf (0 : Int) (8 : Int))) ++ (octf (0 : Int) (8 : Int))) ++ (octf size (12 : Int))) ++ (octf (0 : Int) (12 : Int))) ++ [32, 32, 32, 32, 32, 32, 32, 32]) ++ [(t).toNat.toUInt8]) ++ (cfmt link (100 : Int))) ++ [117, 115, 116, 97, 114, 0, 48, 48]) ++ (cfmt [] (32 : Int))) ++ (cfmt [] (32 : Int)))) [(29, 42), (30, 43)] ?_ ?_
 ·intro h44 hx47
  rintro _ rfl
  rintro _ rfl
  exact Sy (Y_sadd rfl rfl (by first | omega | (simp <;> omega)))
 refine LPc 32 (str (octf (0 : Int) (8 : Int))) [] ?_ ?_
 ·intro h45 hx48
  refine Nn ?_
  refine Stp_call (E_call (by kernel_rfl) rfl) (ref07_octal _ (0 : Int) (8 : Int) (by first | omega | rfl | (simp <;> omega))) rfl ?_
  rintro _ h46 ⟨rfl, hx49⟩
  exact ⟨hx49, rfl⟩
 refine LPc 33 (str (((((((((((((cfmt name (100 : Int)) ++ (octf mode (8 : Int))) ++ (octf (0 : Int) (8 : Int))) ++ (octf (0 : Int) (8 : Int))) ++ (octf size (12 : Int))) ++ (octf (0 : Int) (12 : Int))) ++ [32, 32, 32, 32, 32, 32, 32, 32]) ++ [(t).toNat.toUInt8]) ++ (cfmt link (100 : Int))) ++ [117, 115, 116, 97, 114, 0, 48, 48]) ++ (cfmt [] (32 : Int))) ++ (cfmt [] (32 : Int))) ++ (octf (0 : Int) (8 : Int)))) [(31, 44), (32, 45)] ?_ ?_
 ·intro h47 hx50
  rintro _ rfl
  rintro _ rfl
  exact Sy (Y_sadd rfl rfl (by first | omega | (simp <;> omega)))
 refine LPc 34 (str (octf (0 : Int) (8 : Int))) [] ?_ ?_
 ·intro h48 hx51
  refine Nn ?_
  refine Stp_call (E_call (by kernel_rfl) rfl) (ref07_octal _ (0 : Int) (8 : Int) (by first | omega | rfl | (simp <;> omega))) rfl ?_
  rintro _ h49 ⟨rfl, hx52⟩
  exact ⟨hx52, rfl⟩
 refine LPc 35 (str ((((((((((((((cfmt name (100 : Int)) ++ (octf mode (8 : Int))) ++ (octf (0 : Int) (8 : Int))) ++ (octf (0 : Int) (8 : Int))) ++ (octf size (12 : Int))) ++ (octf (0 : Int) (12 : Int))) ++ [32, 32, 32, 32, 32, 32, 32, 32]) ++ [(t).toNat.toUInt8]) ++ (cfmt link (100 : Int))) ++ [117, 115, 116, 97, 114, 0, 48, 48]) ++ (cfmt [] (32 : Int))) ++ (cfmt [] (32 : Int))) ++ (octf (0 : Int) (8 : Int))) ++ (octf (0 : Int) (8 : Int)))) [(33, 46), (34, 47)] ?_ ?_
 ·intro h50 hx53
  rintro _ rfl
  rintro _ rfl
  exact Sy (Y_sadd rfl rfl (by first | omega | (simp <;> omega)))
 refine LPc 36 (.pointer (some ⟨h.size, 0 + 2, none⟩)) [] ?_ ?_
 ·intro h51 hx54
  exact Sf 2
 refine LPc 37 (str pre) [(36, 49)] ?_ ?_
 ·intro h52 hx55
  rintro _ rfl
  exact Sb Tryz.underlying9 (hk2.ext (hx3.trans hx55))
 refine LPc 38 (str (cfmt pre (155 : Int))) [(37, 50)] ?_ ?_
 ·intro h53 hx56
  rintro _ rfl
  refine Nn ?_
  refine Stp_call (E_call (by kernel_rfl) rfl) (ref07_text _ pre (155 : Int) (by first | omega | rfl | (simp <;> omega))) rfl ?_
  rintro _ h54 ⟨rfl, hx57⟩
  exact ⟨hx57, rfl⟩
 refine LPc 39 (str (((((((((((((((cfmt name (100 : Int)) ++ (octf mode (8 : Int))) ++ (octf (0 : Int) (8 : Int))) ++ (octf (0 : Int) (8 : Int))) ++ (octf size (12 : Int))) ++ (octf (0 : Int) (12 : Int))) ++ [32, 32, 32, 32, 32, 32, 32, 32]) ++ [(t).toNat.toUInt8]) ++ (cfmt link (100 : Int))) ++ [117, 115, 116, 97, 114, 0, 48, 48]) ++ (cfmt [] (32 : Int))) ++ (cfmt [] (32 : Int))) ++ (octf (0 : Int) (8 : Int))) ++ (octf (0 : Int) (8 : Int))) ++ (cfmt pre (155 : Int)))) [(35, 48), (38, 51)] ?_ ?_
 ·intro h55 hx58
  rintro _ rfl
  rintro _ rfl
  exact Sy (Y_sadd rfl rfl (by first | omega | (simp <;> omega)))
 refine LPc 40 (str (cfmt [] (12 : Int))) [] ?_ ?_
 ·intro h56 hx59
  refine Nn ?_
  refine Stp_call (E_call (by kernel_rfl) rfl) (ref07_text _ [] (12 : Int) (by first | omega | rfl | (simp <;> omega))) rfl ?_
  rintro _ h57 ⟨rfl, hx60⟩
  exact ⟨hx60, rfl⟩
 refine LPc 41 (str ((((((((((((((((cfmt name (100 : Int)) ++ (octf mode (8 : Int))) ++ (octf (0 : Int) (8 : Int))) ++ (octf (0 : Int) (8 : Int))) ++ (octf size (12 : Int))) ++ (octf (0 : Int) (12 : Int))) ++ [32, 32, 32, 32, 32, 32, 32, 32]) ++ [(t).toNat.toUInt8]) ++ (cfmt link (100 : Int))) ++ [117, 115, 116, 97, 114, 0, 48, 48]) ++ (cfmt [] (32 : Int))) ++ (cfmt [] (32 : Int))) ++ (octf (0 : Int) (8 : Int))) ++ (octf (0 : Int) (8 : Int))) ++ (cfmt pre (155 : Int))) ++ (cfmt [] (12 : Int)))) [(39, 52), (40, 53)] ?_ ?_
 ·intro h58 hx61
  rintro _ rfl
  rintro _ rfl
  exact Sy (Y_sadd rfl rfl (by first | omega | (simp <;> omega)))
 refine LPc 42 (str ((((((((((((((((cfmt name (100 : Int)) ++ (octf mode (8 : Int))) ++ (octf (0 : Int) (8 : Int))) ++ (octf (0 : Int) (8 : Int))) ++ (octf size (12 : Int))) ++ (octf (0 : Int) (12 : Int))) ++ [32, 32, 32, 32, 32, 32, 32, 32]) ++ [(t).toNat.toUInt8]) ++ (cfmt link (100 : Int))) ++ [117, 115, 116, 97, 114, 0, 48, 48]) ++ (cfmt [] (32 : Int))) ++ (cfmt [] (32 : Int))) ++ (octf (0 : Int) (8 : Int))) ++ (octf (0 : Int) (8 : Int))) ++ (cfmt pre (155 : Int))) ++ (cfmt [] (12 : Int)))) [(41, 54)] ?_ ?_
 ·intro h59 hx62
  rintro _ rfl
  exact Sy (Y_assign rfl)
 refine LP_end [(42, 5)] rfl (by kernel_rfl) rfl ?_
 intro h60 hx63
 rintro _ rfl
 refine Nn ?_
 refine Xt (Wq (Wg ?_))
 refine Mv ?_
 refine L_mks (M_strb Tryz.underlying9 Tryz.underlying22 Tryz.underlying5 rfl) rfl rfl rfl ?_
 rintro v64 h61 ⟨ho65, hx66⟩
 refine Lc (ref03_Seal _ v64 ((((((((((((((((cfmt name (100 : Int)) ++ (octf mode (8 : Int))) ++ (octf (0 : Int) (8 : Int))) ++ (octf (0 : Int) (8 : Int))) ++ (octf size (12 : Int))) ++ (octf (0 : Int) (12 : Int))) ++ [32, 32, 32, 32, 32, 32, 32, 32]) ++ [(t).toNat.toUInt8]) ++ (cfmt link (100 : Int))) ++ [117, 115, 116, 97, 114, 0, 48, 48]) ++ (cfmt [] (32 : Int))) ++ (cfmt [] (32 : Int))) ++ (octf (0 : Int) (8 : Int))) ++ (octf (0 : Int) (8 : Int))) ++ (cfmt pre (155 : Int))) ++ (cfmt [] (12 : Int))) ho65.bytes) ?_
 rintro _ h62 ⟨s067, rfl, hr068, hx69⟩
 refine Mx ?_
 refine A2 ?_
 refine Nx ?_
 refine Wu _ (tk3 6 3 2) ?_
 refine Wm ?_
 refine A2 ?_
 refine Ln (Xt (Wt ?_))
 refine Xv2 ?_
 have e' : ucheck t name pre link mode size = 0 := by simpa using e
 refine ⟨_, by rw [e'], ?_, ((((hn1.ext.trans hx3).trans hx63).trans hx66).trans hx69)⟩
 unfold uenc
 rw [if_pos e']
 exact hr068

end Go.Xp
