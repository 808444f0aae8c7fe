/- Layer 12 (entry): Decode inverts Encode, no proper prefix is accepted, and what is accepted is an encoding (plain). -/
import Derived.Test.YtdmhigknppkniaaGreatDoorRt
import Derived.Test.YtdmhigknppkniaaGreatDoorDcd
import Derived.Test.YtdmhigknppkniaaGreatDoorEncL
set_option linter.unusedSimpArgs false
set_option linter.unusedVariables false
set_option linter.unusedSectionVars false
namespace Go.Xp
open Go.Proofs

theorem stp_all {D : List UInt8} {P : Nat} : stp D (-1) P = D.length := by unfold stp; rw [if_neg (by omega)]
theorem nzx_neg : ∀ {l : List UInt8}, ¬ 0 ≤ nzx l → l = List.replicate l.length 0
  | [], _ => rfl
  | a :: l, h => by
    unfold nzx at h
    by_cases ha : a = 0
    · rw [if_neg (fun q => q ha)] at h
      have ih : ¬ 0 ≤ nzx l := fun q => by rw [if_neg (by omega)] at h; omega
      rw [List.length_cons, List.replicate_succ, ha, ← nzx_neg ih]
    · rw [if_pos ha] at h; exact absurd (Int.le_refl 0) h
/-- The last header of an entry, and the header ahead of its records. -/
def lhd (k : Int) (p : List UInt8) (m : Int) (tg : List UInt8) (z : Int) : List UInt8 :=
  uenc (fT (fcheck k p m tg z) k) (fN (fcheck k p m tg z) p) (fP (fcheck k p m tg z) p) (fL (fcheck k p m tg z) tg) (fM (fcheck k p m tg z) m) (fZ (fcheck k p m tg z) z)
def xhead (n : Nat) : List UInt8 := uenc 120 [112, 97, 120] [] [] 0 (n : Int)
section
variable {k m z : Int} {p tg : List UInt8}
theorem eenc_one (e : fcheck k p m tg z = 0) (hR : fR (fcheck k p m tg z) p tg z = []) : eenc k p m tg z = lhd k p m tg z := by
  unfold eenc epre lhd; rw [if_pos e, if_pos hR, List.nil_append]
theorem eenc_two (e : fcheck k p m tg z = 0) (hR : ¬ fR (fcheck k p m tg z) p tg z = []) : eenc k p m tg z = xhead (rfmt (fR (fcheck k p m tg z) p tg z)).length ++ (rfmt (fR (fcheck k p m tg z) p tg z) ++ (List.replicate (padn (rfmt (fR (fcheck k p m tg z) p tg z)).length) 0 ++ lhd k p m tg z)) := by
  unfold eenc epre lhd xhead; rw [if_pos e, if_neg hR]; simp only [List.append_assoc]
end
/-! ### What is accepted is an encoding -/
theorem dcm_back {start last : Int} {pos : Nat} {b : List UInt8} {l : List Rec} (hb : uderr b = 0) (h : (dcm start last pos b l).e = 0) :
    fcheck (dcm start last pos b l).k (dcm start last pos b l).p (dcm start last pos b l).m (dcm start last pos b l).tg (dcm start last pos b l).z = 0 ∧ lhd (dcm start last pos b l).k (dcm start last pos b l).p (dcm start last pos b l).m (dcm start last pos b l).tg (dcm start last pos b l).z = b ∧ l = fR 0 (dcm start last pos b l).p (dcm start last pos b l).tg (dcm start last pos b l).z ∧ (dcm start last pos b l).n = start ∧ (dcm start last pos b l).pos = pos ∧ (dcm start last pos b l).er = 0 := by
  have hE : oE (dmr b l) l = 0 := Classical.byContradiction fun c => by
    unfold dcm at h; rw [if_pos c] at h; exact c h
  cases hd : dmr b l with
  | none => rw [hd] at hE; unfold oE at hE; simp only at hE; split at hE <;> cases hE
  | some x =>
    obtain ⟨p, tg, z⟩ := x
    have e1 : dcm start last pos b l = ⟨mkind (udT b), p, udM b, tg, z, start, 0, pos, 0⟩ := by
      unfold dcm; rw [hd, if_neg (by simp [oE])]; rfl
    have hm : mok (mkind (udT b)) (udM b) (udT b) (udN b) (udP b) (udL b) (udM b) (udS b) l p tg z := by
      unfold dmr mres mcheck at hd
      split at hd
      · rename_i x1 p1 t1 z1 hf
        split at hd
        · rename_i hk
          injection hd with hd
          injection hd with d1 d2
          injection d2 with d2 d3
          subst d1; subst d2; subst d3
          exact hk
        · cases hd
      · cases hd
    obtain ⟨m0, ⟨m1, m2, m3, m4, m5, m6⟩, m7⟩ := hm
    rw [e1]
    refine ⟨m0, ?_, by rw [m0] at m7; exact m7, rfl, rfl, rfl⟩
    unfold lhd
    show uenc (fT (fcheck (mkind (udT b)) p (udM b) tg z) (mkind (udT b))) _ _ _ _ _ = b
    rw [m1, m2, m3, m4, m5, m6]
    exact (udok_parts hb).2.2
theorem cut3 {D : List UInt8} {P a b c Q : Nat} (hQ : Q = P + a + b + c) : (D.take Q).drop P = (D.drop P).take a ++ ((D.drop (P + a)).take b ++ (D.drop (P + a + b)).take c) := by
  subst hQ
  rw [List.drop_take, show P + a + b + c - P = a + (b + c) by omega, List.take_add, List.drop_drop, List.take_add, List.drop_drop]
theorem dcr_e0 {D : List UInt8} {f : Int} {p : Nat} {b : List UInt8} (h : (dcr D f p b).e = 0) : xhd b ∧ pE D f (p + 512) (dk b) = 0 ∧ ¬ 0 ≤ nzx ((dx D p b).drop (udS b).toNat) ∧ (dl D p b).2.2 = 0 := by
  obtain ⟨h1, -, -, h4, h5, h6⟩ := dcr_ok h
  exact ⟨h1, h5, h6, h4⟩
theorem dcd_back {D : List UInt8} {P : Nat} {er : Int} (h : (dcd D (-1) P er).e = 0) :
    (dcd D (-1) P er).n = P ∧ (dcd D (-1) P er).er = 0 ∧ P < (dcd D (-1) P er).pos ∧ (dcd D (-1) P er).pos ≤ D.length ∧ fcheck (dcd D (-1) P er).k (dcd D (-1) P er).p (dcd D (-1) P er).m (dcd D (-1) P er).tg (dcd D (-1) P er).z = 0 ∧ eenc (dcd D (-1) P er).k (dcd D (-1) P er).p (dcd D (-1) P er).m (dcd D (-1) P er).tg (dcd D (-1) P er).z = (D.take (dcd D (-1) P er).pos).drop P := by
  by_cases e0 : nE D (-1) P er = 0
  · by_cases z0 : ¬ (0 ≤ nzx (nB D P))
    · rw [dcd_z e0 z0] at h; cases h
    · by_cases u0 : ¬ uderr (nB D P) = 0
      · rw [dcd_u e0 z0 u0] at h; exact absurd h u0
      · have hu := Classical.not_not.1 u0
        have hp := nE_pos e0
        have hst := hp.2.1
        rw [stp_all] at hst
        have hb : nB D P = (D.take (P + 512)).drop P := by unfold nB; rw [List.drop_take]; congr 1; omega
        by_cases t0 : udT (nB D P) = 120
        · rw [dcd_x e0 z0 u0 t0] at h ⊢
          by_cases r0 : (dcr D (-1) P (nB D P)).e = 0
          · by_cases g0 : nE D (-1) (dq P (nB D P)) 0 = 0
            · by_cases v0 : ¬ uderr (nB D (dq P (nB D P))) = 0
              · rw [dcx_u r0 g0 v0] at h; exact absurd h v0
              · rw [dcx_m r0 g0 v0] at h ⊢
                obtain ⟨c1, c2, c3, c4, c5, c6⟩ := dcm_back (Classical.not_not.1 v0) h
                have hq := (nE_pos g0).2.1
                rw [stp_all] at hq
                have hqd : dq P (nB D P) = P + 512 + 512 * dk (nB D P) := rfl
                rw [c4, c5, c6]
                refine ⟨rfl, rfl, by omega, hq, c1, ?_⟩
                obtain ⟨x1, x2, x3, x4⟩ := dcr_e0 r0
                obtain ⟨f1, f2, f3⟩ := fmt_parse x4
                generalize hX : dcm (P : Int) (dq P (nB D P) : Int) (dq P (nB D P) + 512) (nB D (dq P (nB D P))) (dl D P (nB D P)).1 = X at *
                have hl2 : (pres ((dx D P (nB D P)).take (udS (nB D P)).toNat)).1 = fR (fcheck X.k X.p X.m X.tg X.z) X.p X.tg X.z := by rw [c1]; exact c3
                rw [hl2] at f1 f2
                have hS := x1.2
                have hdk : ((dk (nB D P) : Nat) : Int) = (udS (nB D P) - 1) / 512 + 1 := by unfold dk nblk; rw [if_neg (by omega)]; omega
                have hdxl : (dx D P (nB D P)).length = 512 * dk (nB D P) := by unfold dx; rw [List.length_take, List.length_drop]; omega
                have hFl : (rfmt (fR (fcheck X.k X.p X.m X.tg X.z) X.p X.tg X.z)).length = (udS (nB D P)).toNat := by rw [f2, List.length_take, hdxl]; omega
                have hR : ¬ fR (fcheck X.k X.p X.m X.tg X.z) X.p X.tg X.z = [] := fun q => by
                  rw [q] at hFl
                  have : (rfmt ([] : List Rec)).length = 0 := by decide
                  omega
                rw [eenc_two c1 hR, c2, hFl, f2]
                have hxb : xhead (udS (nB D P)).toNat = nB D P := by
                  have := (udok_parts hu).2.2
                  obtain ⟨⟨a1, a2, a3, a4, a5⟩, -⟩ := x1
                  rw [a1, a2, a3, a4, a5] at this
                  unfold xhead
                  rw [Int.toNat_of_nonneg (by omega)]
                  exact this
                have hpad : List.replicate (padn (udS (nB D P)).toNat) 0 = (dx D P (nB D P)).drop (udS (nB D P)).toNat := by
                  have hz := nzx_neg x3
                  rw [hz]
                  congr 1
                  rw [List.length_drop, hdxl]
                  unfold padn
                  omega
                rw [hxb, hpad, ← List.append_assoc ((dx D P (nB D P)).take _), List.take_append_drop]
                have s1 : (D.take (dq P (nB D P) + 512)).drop P = nB D P ++ (dx D P (nB D P) ++ nB D (dq P (nB D P))) := cut3 rfl
                rw [s1]
            · rw [dcx_n r0 g0] at h
              have : (if nE D (-1) (dq P (nB D P)) 0 = 4 then (5 : Int) else nE D (-1) (dq P (nB D P)) 0) = 0 := h
              split at this
              · cases this
              · exact absurd this g0
          · rw [dcx_r r0] at h; exact absurd h r0
        · rw [dcd_m e0 z0 u0 t0] at h ⊢
          obtain ⟨c1, c2, c3, c4, c5, c6⟩ := dcm_back hu h
          rw [c4, c5, c6]
          refine ⟨rfl, rfl, by omega, hst, c1, ?_⟩
          rw [eenc_one c1 (by rw [c1]; exact c3.symm), c2, hb]
  · rw [dcd_n e0] at h; exact absurd h e0
theorem dcm_n2 (start last : Int) (pos : Nat) (b : List UInt8) (l : List Rec) : ((dcm start last pos b l).n = start ∨ (dcm start last pos b l).n = last) ∧ (dcm start last pos b l).pos = pos := by
  unfold dcm; split
  · exact ⟨.inr rfl, rfl⟩
  · exact ⟨.inl rfl, rfl⟩
theorem nzx_ltl : ∀ l : List UInt8, nzx l < (l.length : Int)
  | [] => by decide
  | a :: l => by
    have := nzx_ltl l
    unfold nzx; rw [List.length_cons]
    split
    · omega
    · split <;> omega
theorem pP_le {D : List UInt8} {f : Int} {p j : Nat} (hp : p ≤ D.length) : p ≤ pP D f p j ∧ pP D f p j ≤ D.length := by
  have h1 := stp_ge (f := f) hp
  have h2 := stp_le (D := D) (f := f) (p := p)
  unfold pP; split <;> omega
theorem dcd_rng {D : List UInt8} {P : Nat} {er : Int} (hP : P ≤ D.length) : (P : Int) ≤ (dcd D (-1) P er).n ∧ (dcd D (-1) P er).n ≤ (D.length : Int) ∧ (dcd D (-1) P er).pos ≤ D.length := by
  by_cases e0 : nE D (-1) P er = 0
  · have hst := (nE_pos e0).2.1
    rw [stp_all] at hst
    by_cases z0 : ¬ (0 ≤ nzx (nB D P))
    · rw [dcd_z e0 z0]; exact ⟨Int.le_refl _, by show (P : Int) ≤ _; omega, hst⟩
    · by_cases u0 : ¬ uderr (nB D P) = 0
      · rw [dcd_u e0 z0 u0]; exact ⟨Int.le_refl _, by show (P : Int) ≤ _; omega, hst⟩
      · by_cases t0 : udT (nB D P) = 120
        · rw [dcd_x e0 z0 u0 t0]
          generalize nB D P = b
          by_cases r0 : (dcr D (-1) P b).e = 0
          · have hpe := (dcr_e0 r0).2.1
            have hq : dq P b ≤ D.length := by
              have : P + 512 + 512 * dk b ≤ D.length := Classical.byContradiction fun c => by
                unfold pE at hpe; rw [stp_all, if_neg c] at hpe; split at hpe <;> cases hpe
              exact this
            have hPq : P ≤ dq P b := by unfold dq; omega
            by_cases g0 : nE D (-1) (dq P b) 0 = 0
            · have hq2 := (nE_pos g0).2.1
              rw [stp_all] at hq2
              by_cases v0 : ¬ uderr (nB D (dq P b)) = 0
              · rw [dcx_u r0 g0 v0]; exact ⟨by show (P : Int) ≤ (dq P b : Nat); omega, by show ((dq P b : Nat) : Int) ≤ _; omega, hq2⟩
              · rw [dcx_m r0 g0 v0]
                obtain ⟨m1, m2⟩ := dcm_n2 (P : Int) (dq P b : Int) (dq P b + 512) (nB D (dq P b)) (dl D P b).1
                rw [m2]
                rcases m1 with m1 | m1 <;> rw [m1] <;> omega
            · rw [dcx_n r0 g0]
              have := nP_le (f := -1) (er := 0) hq
              exact ⟨by show (P : Int) ≤ (nP D (-1) (dq P b) 0 : Nat); omega, by show ((nP D (-1) (dq P b) 0 : Nat) : Int) ≤ _; omega, by show nP D (-1) (dq P b) 0 ≤ _; omega⟩
          · rw [dcx_r r0]
            unfold dcr
            split
            · exact ⟨Int.le_refl _, by show (P : Int) ≤ _; omega, hst⟩
            · rename_i hx
              have hS := (Classical.not_not.1 hx).2
              split
              · have := pP_le (f := -1) (j := dk b) hst
                exact ⟨by show (P : Int) ≤ (pP D (-1) (P + 512) (dk b) : Nat); omega, by show ((pP D (-1) (P + 512) (dk b) : Nat) : Int) ≤ _; omega, this.2⟩
              · rename_i hp
                have hp2 : P + 512 + 512 * dk b ≤ D.length := Classical.byContradiction fun c => hp (by
                  unfold pE; rw [stp_all, if_neg c]; split <;> decide)
                have hdk : ((dk b : Nat) : Int) = (udS b - 1) / 512 + 1 := by unfold dk nblk; rw [if_neg (by omega)]; omega
                have hdxl : (dx D P b).length = 512 * dk b := by unfold dx; rw [List.length_take, List.length_drop]; omega
                have hnl := nzx_ltl ((dx D P b).drop (udS b).toNat)
                have hpl := (pres_at ((dx D P b).take (udS b).toNat)).1
                rw [List.length_drop, hdxl] at hnl
                rw [List.length_take, hdxl] at hpl
                split
                · exact ⟨by show (P : Int) ≤ (P : Int) + 512 + udS b + nzx ((dx D P b).drop (udS b).toNat); omega, by show (P : Int) + 512 + udS b + nzx ((dx D P b).drop (udS b).toNat) ≤ _; omega, hp2⟩
                · split <;> exact ⟨by show (P : Int) ≤ (P : Int) + 512 + (dl D P b).2.1; unfold dl; omega, by show (P : Int) + 512 + (dl D P b).2.1 ≤ _; unfold dl; omega, hp2⟩
        · rw [dcd_m e0 z0 u0 t0]
          obtain ⟨m1, m2⟩ := dcm_n2 (P : Int) (P : Int) (P + 512) (nB D P) []
          rw [m2]
          rcases m1 with m1 | m1 <;> rw [m1] <;> omega
  · rw [dcd_n e0]
    have := nP_le (f := -1) (er := er) hP
    exact ⟨by show (P : Int) ≤ (nP D (-1) P er : Nat); omega, by show ((nP D (-1) P er : Nat) : Int) ≤ _; omega, this.2⟩
end Go.Xp
