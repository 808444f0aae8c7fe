/- Layer 12 (entry): Decode inverts Encode, no proper prefix is accepted, and what is accepted is an encoding (plain). -/
import Derived.Test.YtdmhigknppkniaaGreatDoorRt
import Derived.Test.YtdmhigknppkniaaGreatDoorDch
import Derived.Test.YtdmhigknppkniaaGreatDoorEncL
set_option linter.unusedSimpArgs false
set_option linter.unusedVariables false
set_option linter.unusedSectionVars false
namespace Go.Xp
open Go.Proofs

theorem stp_all {D : List UInt8} {P : Nat} : stp D (-1) P = D.length := by unfold stp; rw [if_neg (by omega)]
theorem len_of {D E B : List UInt8} {P : Nat} (h : D.drop P = E ++ B) (he : 1 ≤ E.length) : P + E.length + B.length = D.length := by
  have := congrArg List.length h
  simp only [List.length_drop, List.length_append] at this
  omega
theorem drop_of {D E B : List UInt8} {P n : Nat} (h : D.drop P = E ++ B) (hn : E.length = n) : D.drop (P + n) = B := by
  rw [← List.drop_drop, h, ← hn, List.drop_left]
theorem nzx_some : ∀ {l : List UInt8} {m : Nat}, m < l.length → ¬ byt l m = 0 → 0 ≤ nzx l
  | [], m, h, _ => by simp at h
  | a :: l, 0, _, h => by
    unfold nzx
    have : ¬ a = 0 := fun e => h (by rw [e]; rfl)
    rw [if_pos this]; exact Int.le_refl 0
  | a :: l, m + 1, h, hb => by
    have ih := nzx_some (l := l) (m := m) (by simpa using h) (by rwa [byt_succ] at hb)
    unfold nzx
    split
    · exact Int.le_refl 0
    · split <;> omega
theorem nzx_rep : ∀ n : Nat, ¬ 0 ≤ nzx (List.replicate n 0)
  | 0 => by decide
  | n + 1 => by
    have ih := nzx_rep n
    rw [List.replicate_succ]
    unfold nzx
    rw [if_neg (by simp), if_pos (by omega)]
    decide
theorem uknown_ne {t : Int} (h : uknown t = true) : ¬ t = 0 := by rintro rfl; revert h; decide
theorem hdr_nz {t : Int} {name pre link : List UInt8} {mode size : Int} (ht : 0 ≤ t ∧ t ≤ 255) (h : ucheck t name pre link mode size = 0) : 0 ≤ nzx (uenc t name pre link mode size) :=
  nzx_some (m := 156) (by rw [uenc_len h]; decide) (by rw [uf_type ht h]; exact uknown_ne (ucheck_ok h).1)
/-- The last header of an entry, and the header ahead of its records. -/
def lhd (k : Int) (p : List UInt8) (m : Int) (tg : List UInt8) (z : Int) : List UInt8 :=
  uenc (fT (fcheck k p m tg z) k) (fN (fcheck k p m tg z) p) (fP (fcheck k p m tg z) p) (fL (fcheck k p m tg z) tg) (fM (fcheck k p m tg z) m) (fZ (fcheck k p m tg z) z)
def xhead (n : Nat) : List UInt8 := uenc 120 [112, 97, 120] [] [] 0 (n : Int)
theorem xhead_len {n : Nat} (hn : n ≤ 196800) : (xhead n).length = 512 := uenc_len (ext_ok hn)
theorem xhead_ud {n : Nat} (hn : n ≤ 196800) : uderr (xhead n) = 0 ∧ udT (xhead n) = 120 ∧ udN (xhead n) = [112, 97, 120] ∧ udP (xhead n) = [] ∧ udL (xhead n) = [] ∧ udM (xhead n) = 0 ∧ udS (xhead n) = (n : Int) := dec_enc (by decide) (ext_ok hn)
theorem dk_pad {n : Nat} (hn : 1 ≤ n ∧ n ≤ 196800) : 512 * dk (xhead n) = n + padn n := by
  have h1 := (xhead_ud hn.2).2.2.2.2.2.2
  unfold dk nblk padn
  rw [h1, if_neg (by omega)]
  omega
section
variable {k m z : Int} {p tg : List UInt8}
theorem lhd_len (e : fcheck k p m tg z = 0) : (lhd k p m tg z).length = 512 := uenc_len (ucheck_plan e)
theorem lhd_nz (e : fcheck k p m tg z = 0) : 0 ≤ nzx (lhd k p m tg z) := hdr_nz (fT_range _ _) (ucheck_plan e)
theorem lhd_ud (e : fcheck k p m tg z = 0) : uderr (lhd k p m tg z) = 0 ∧ ¬ udT (lhd k p m tg z) = 120 := by
  have h := dec_enc (fT_range (fcheck k p m tg z) k) (ucheck_plan e)
  refine ⟨h.1, fun q => ?_⟩
  have h1 : udT (lhd k p m tg z) = fT (fcheck k p m tg z) k := h.2.1
  rw [h1, fT, if_pos e] at q
  obtain ⟨i, rfl⟩ := Int.eq_ofNat_of_zero_le (fcheck_kind e).1
  have hi : i < 4 := by have := (fcheck_kind e).2; omega
  have key : ∀ i : Fin 4, ¬ ftyp ((i.val : Nat) : Int) = 120 := by decide
  exact key ⟨i, hi⟩ q
theorem dcm_plan {start last : Int} {pos : Nat} (e : fcheck k p m tg z = 0) : dcm start last pos (lhd k p m tg z) (fR (fcheck k p m tg z) p tg z) = ⟨k, p, m, tg, z, start, 0, pos, 0⟩ := by
  obtain ⟨-, h1, h2, h3, h4, h5, h6⟩ := dec_enc (fT_range (fcheck k p m tg z) k) (ucheck_plan e)
  obtain ⟨g1, g2⟩ := mres_plan e
  have hd : dmr (lhd k p m tg z) (fR (fcheck k p m tg z) p tg z) = some (p, tg, z) := by
    unfold dmr lhd; rw [h1, h2, h3, h4, h5, h6]; exact g1
  unfold dcm
  rw [hd, if_neg (by simp [oE])]
  have e1 : mkind (udT (lhd k p m tg z)) = k := by unfold lhd; rw [h1]; exact g2
  have e2 : udM (lhd k p m tg z) = m := by unfold lhd; rw [h5, fM, if_pos e]
  show Dc.mk (mkind (udT (lhd k p m tg z))) p (udM (lhd k p m tg z)) tg z start 0 pos 0 = _
  rw [e1, e2]
theorem eenc_one (e : fcheck k p m tg z = 0) (hR : fR (fcheck k p m tg z) p tg z = []) : eenc k p m tg z = lhd k p m tg z := by
  unfold eenc epre lhd; rw [if_pos e, if_pos hR, List.nil_append]
theorem eenc_two (e : fcheck k p m tg z = 0) (hR : ¬ fR (fcheck k p m tg z) p tg z = []) : eenc k p m tg z = xhead (rfmt (fR (fcheck k p m tg z) p tg z)).length ++ (rfmt (fR (fcheck k p m tg z) p tg z) ++ (List.replicate (padn (rfmt (fR (fcheck k p m tg z) p tg z)).length) 0 ++ lhd k p m tg z)) := by
  unfold eenc epre lhd xhead; rw [if_pos e, if_neg hR]; simp only [List.append_assoc]
theorem nE_at {D E B : List UInt8} {P : Nat} (hD : D.drop P = E ++ B) (hE : E.length = 512) : nE D (-1) P 0 = 0 ∧ nB D P = E := by
  have h1 := len_of hD (by omega)
  exact ⟨(nE_ok (by rw [stp_all]; omega)).1, by unfold nB; rw [hD]; exact List.take_left' hE⟩
/-- An extended header and its records, read. -/
theorem dcr_at {D B : List UInt8} {P : Nat} {l : List Rec} (hl : rlerr none l = 0) (hn : 1 ≤ (rfmt l).length ∧ (rfmt l).length ≤ 196800) (hD : D.drop P = xhead (rfmt l).length ++ (rfmt l ++ (List.replicate (padn (rfmt l).length) 0 ++ B))) :
    (dcr D (-1) P (xhead (rfmt l).length)).e = 0 ∧ dq P (xhead (rfmt l).length) = P + 512 + ((rfmt l).length + padn (rfmt l).length) ∧ (dl D P (xhead (rfmt l).length)).1 = l := by
  have hx := xhead_len hn.2
  obtain ⟨u0, u1, u2, u3, u4, u5, u6⟩ := xhead_ud hn.2
  have hk := dk_pad hn
  have h1 := len_of hD (by omega)
  have hd2 := drop_of hD hx
  have hdx : dx D P (xhead (rfmt l).length) = rfmt l ++ List.replicate (padn (rfmt l).length) 0 := by
    unfold dx; rw [hd2, hk, ← List.append_assoc]; exact List.take_left' (by simp)
  simp only [List.length_append, List.length_replicate] at h1
  have hpe := pE_ok (D := D) (f := -1) (p := P + 512) (k := dk (xhead (rfmt l).length)) (by rw [stp_all]; omega)
  have htk : (dx D P (xhead (rfmt l).length)).take (udS (xhead (rfmt l).length)).toNat = rfmt l := by
    rw [hdx, u6]; exact List.take_left' rfl
  have hdr : (dx D P (xhead (rfmt l).length)).drop (udS (xhead (rfmt l).length)).toNat = List.replicate (padn (rfmt l).length) 0 := by
    rw [hdx, u6]; exact List.drop_left' rfl
  have hdl : dl D P (xhead (rfmt l).length) = (l, ((rfmt l).length : Int), 0) := by
    unfold dl; rw [htk]; exact parse_fmt hl (by omega)
  have hxh : xhd (xhead (rfmt l).length) := ⟨⟨u1, u2, u3, u4, u5⟩, by rw [u6]; omega, by rw [u6]; omega⟩
  refine ⟨?_, by unfold dq; rw [hk], by rw [hdl]⟩
  unfold dcr
  rw [if_neg (fun q => q hxh), if_neg (fun q => q hpe.1), hdr, if_neg (nzx_rep _), hdl, if_neg (by simp)]
  rfl
/-- Decode inverts Encode. -/
theorem dcd_eenc (e : fcheck k p m tg z = 0) {D B : List UInt8} {P : Nat} (hD : D.drop P = eenc k p m tg z ++ B) : dcd D (-1) P 0 = ⟨k, p, m, tg, z, P, 0, P + (eenc k p m tg z).length, 0⟩ := by
  by_cases hR : fR (fcheck k p m tg z) p tg z = []
  · rw [eenc_one e hR] at hD ⊢
    obtain ⟨n1, n2⟩ := nE_at hD (lhd_len e)
    have hu := lhd_ud e
    have := dcm_plan (start := P) (last := P) (pos := P + 512) e
    rw [hR] at this
    rw [dcd_m n1 (by rw [n2]; exact fun q => q (lhd_nz e)) (by rw [n2]; exact fun q => q hu.1) (by rw [n2]; exact hu.2), n2, this, lhd_len e]
  · have hn : 1 ≤ (rfmt (fR (fcheck k p m tg z) p tg z)).length ∧ (rfmt (fR (fcheck k p m tg z) p tg z)).length ≤ 196800 := ⟨rfmt_ge e hR, rfmt_le e⟩
    have hlen : (eenc k p m tg z).length = 512 + ((rfmt (fR (fcheck k p m tg z) p tg z)).length + padn (rfmt (fR (fcheck k p m tg z) p tg z)).length) + 512 := by rw [eenc_len e, if_neg hR]
    have hrl := rlerr_plan e
    have hx := xhead_len hn.2
    have hxu := xhead_ud hn.2
    rw [hlen]
    rw [eenc_two e hR] at hD
    simp only [List.append_assoc] at hD
    obtain ⟨n1, n2⟩ := nE_at hD hx
    obtain ⟨r1, r2, r3⟩ := dcr_at hrl hn hD
    have hd3 : D.drop (P + 512 + ((rfmt (fR (fcheck k p m tg z) p tg z)).length + padn (rfmt (fR (fcheck k p m tg z) p tg z)).length)) = lhd k p m tg z ++ B := by
      refine drop_of (E := rfmt (fR (fcheck k p m tg z) p tg z) ++ List.replicate (padn (rfmt (fR (fcheck k p m tg z) p tg z)).length) 0) ?_ (by simp)
      rw [drop_of hD hx]; simp only [List.append_assoc]
    rw [← r2] at hd3
    obtain ⟨m1, m2⟩ := nE_at hd3 (lhd_len e)
    have hu := lhd_ud e
    rw [dcd_x n1 (by rw [n2]; exact fun q => q (hdr_nz (by decide) (ext_ok hn.2))) (by rw [n2]; exact fun q => q hxu.1) (by rw [n2]; exact hxu.2.1), n2, dcx_m r1 m1 (by rw [m2]; exact fun q => q hu.1), m2, r3, dcm_plan e, r2]
    simp only [Nat.add_assoc]
/-- No proper prefix of an encoding is accepted. -/
theorem dcd_cut (e : fcheck k p m tg z = 0) {j : Nat} (hj : j < (eenc k p m tg z).length) : ∃ pos er, dcd ((eenc k p m tg z).take j) (-1) 0 0 = dz j (if j = 0 then 4 else 5) pos er := by
  have hl : ((eenc k p m tg z).take j).length = j := by rw [List.length_take]; omega
  by_cases h5 : j < 512
  · obtain ⟨q1, q2⟩ := nE_no (D := (eenc k p m tg z).take j) (f := -1) (p := 0) (by rw [stp_all, hl]; omega)
    rw [stp_all, hl] at q1 q2
    rw [if_neg (by omega)] at q1
    refine ⟨j, if j = 0 then 4 else 5, ?_⟩
    rw [dcd_n (by rw [q1]; split <;> decide), q1, q2]
  · by_cases hR : fR (fcheck k p m tg z) p tg z = []
    · rw [eenc_one e hR, lhd_len e] at hj; omega
    · have hn : 1 ≤ (rfmt (fR (fcheck k p m tg z) p tg z)).length ∧ (rfmt (fR (fcheck k p m tg z) p tg z)).length ≤ 196800 := ⟨rfmt_ge e hR, rfmt_le e⟩
      have hlen : (eenc k p m tg z).length = 512 + ((rfmt (fR (fcheck k p m tg z) p tg z)).length + padn (rfmt (fR (fcheck k p m tg z) p tg z)).length) + 512 := by rw [eenc_len e, if_neg hR]
      have hx := xhead_len hn.2
      have hxu := xhead_ud hn.2
      have hk := dk_pad hn
      have hE := eenc_two e hR
      generalize hlst : fR (fcheck k p m tg z) p tg z = l at *
      generalize hD : (eenc k p m tg z).take j = D at *
      have hD1 : D.drop 0 = xhead (rfmt l).length ++ (rfmt l ++ (List.replicate (padn (rfmt l).length) 0 ++ lhd k p m tg z)).take (j - 512) := by
        rw [List.drop_zero, ← hD, hE, List.take_append, List.take_of_length_le (by omega), hx]
      obtain ⟨n1, n2⟩ := nE_at hD1 hx
      rw [dcd_x n1 (by rw [n2]; exact fun q => q (hdr_nz (by decide) (ext_ok hn.2))) (by rw [n2]; exact fun q => q hxu.1) (by rw [n2]; exact hxu.2.1), n2]
      by_cases h6 : 512 + ((rfmt l).length + padn (rfmt l).length) ≤ j
      · have hD2 : D.drop 0 = xhead (rfmt l).length ++ (rfmt l ++ (List.replicate (padn (rfmt l).length) 0 ++ (lhd k p m tg z).take (j - 512 - ((rfmt l).length + padn (rfmt l).length)))) := by
          rw [hD1, ← List.append_assoc (rfmt l), List.take_append, List.take_of_length_le (by simp; omega)]
          simp only [List.length_append, List.length_replicate, List.append_assoc]
        obtain ⟨r1, r2, r3⟩ := dcr_at (by rw [← hlst]; exact rlerr_plan e) hn hD2
        obtain ⟨q1, q2⟩ := nE_no (D := D) (f := -1) (p := dq 0 (xhead (rfmt l).length)) (by rw [stp_all, hl, r2]; omega)
        rw [stp_all, hl, if_neg (by omega)] at q1
        rw [stp_all, hl] at q2
        refine ⟨nP D (-1) (dq 0 (xhead (rfmt l).length)) 0, nE D (-1) (dq 0 (xhead (rfmt l).length)) 0, ?_⟩
        have q3 : ¬ nE D (-1) (dq 0 (xhead (rfmt l).length)) 0 = 0 := by rw [q1]; split <;> decide
        rw [dcx_n r1 q3]
        have q4 : (if nE D (-1) (dq 0 (xhead (rfmt l).length)) 0 = 4 then (5 : Int) else nE D (-1) (dq 0 (xhead (rfmt l).length)) 0) = 5 := by rw [q1]; split <;> simp
        rw [q4, q2, if_neg (show ¬ j = 0 by omega)]
      · have hpe : ¬ pE D (-1) (0 + 512) (dk (xhead (rfmt l).length)) = 0 := by
          unfold pE; rw [stp_all, hl, if_neg (by omega), if_neg (by omega)]; decide
        have hpe5 : pE D (-1) (0 + 512) (dk (xhead (rfmt l).length)) = 5 := by
          unfold pE; rw [stp_all, hl, if_neg (by omega), if_neg (by omega)]
        have hpp : pP D (-1) (0 + 512) (dk (xhead (rfmt l).length)) = j := by
          unfold pP; rw [stp_all, hl, if_neg (by omega)]
        have hxh : xhd (xhead (rfmt l).length) := ⟨⟨hxu.2.1, hxu.2.2.1, hxu.2.2.2.1, hxu.2.2.2.2.1, hxu.2.2.2.2.2.1⟩, by rw [hxu.2.2.2.2.2.2]; omega, by rw [hxu.2.2.2.2.2.2]; omega⟩
        have hr : dcr D (-1) 0 (xhead (rfmt l).length) = dz j 5 j (pR D (-1) (0 + 512) (dk (xhead (rfmt l).length))) := by
          unfold dcr; rw [if_neg (fun q => q hxh), if_pos hpe, hpe5, hpp]
        refine ⟨j, pR D (-1) (0 + 512) (dk (xhead (rfmt l).length)), ?_⟩
        rw [dcx_r (by rw [hr]; exact (by decide : ¬ (5 : Int) = 0)), hr, if_neg (show ¬ j = 0 by omega)]
end
/-! ### What is accepted is an encoding -/
end Go.Xp
