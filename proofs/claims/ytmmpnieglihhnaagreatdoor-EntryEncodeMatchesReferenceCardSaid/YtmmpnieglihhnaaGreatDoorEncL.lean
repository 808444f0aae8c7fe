/- Layer 12 (entry): how long an encoding is, and how it begins. -/
import Derived.Test.YtmmpnieglihhnaaGreatDoorEnc
set_option linter.unusedSimpArgs false
set_option linter.unusedVariables false
set_option linter.unusedSectionVars false
namespace Go.Xp
open Go.Proofs

theorem ext_four {n : Nat} (h : n ≤ 196800) : (uenc 120 [112, 97, 120] [] [] 0 (n : Int)).take 4 = [112, 97, 120, 0] := by
  have hu := ext_ok h
  have hl := uenc_len hu
  have := sub_ext (F := []) (b := uenc 120 [112, 97, 120] [] [] 0 (n : Int)) (s := [112, 97, 120, 0]) (a := 0) (fun i hi => by
    have hi4 : i < 4 := hi
    rw [Nat.zero_add, uenc_byt hu (by omega) (by omega)]
    have k1 : (cfmt [112, 97, 120] 100).length = 100 := cf_len (w := 100) (by decide)
    have hb : ubody 120 [112, 97, 120] [] [] 0 (n : Int) = [] ++ (cfmt [112, 97, 120] 100 ++ (octf 0 8 ++ octf 0 8 ++ octf 0 8 ++ octf (n : Int) 12 ++ octf 0 12 ++ [32, 32, 32, 32, 32, 32, 32, 32] ++ [(120 : Int).toNat.toUInt8] ++ cfmt [] 100 ++ [117, 115, 116, 97, 114, 0, 48, 48] ++ cfmt [] 32 ++ cfmt [] 32 ++ octf 0 8 ++ octf 0 8 ++ cfmt [] 155 ++ cfmt [] 12)) := by
      unfold ubody; simp only [List.append_assoc, List.nil_append]
    rw [ub_mid (i := i) (a := 0) [] (cfmt [112, 97, 120] 100) _ hb rfl (by omega) (by omega), Nat.sub_zero]
    have key : ∀ i : Fin 4, byt (cfmt [112, 97, 120] 100) i.val = byt [112, 97, 120, 0] i.val := by decide +kernel
    exact key ⟨i, hi4⟩) (by rw [hl]; decide)
  simpa using this
theorem byt_left {a b : List UInt8} {i : Nat} (h : i < a.length) : byt (a ++ b) i = byt a i := by
  unfold byt; congr 2; simp only [List.getD_eq_getElem?_getD]; rw [List.getElem?_append_left h]
section
variable {k m z : Int} {p tg : List UInt8}
theorem eenc_long (e : fcheck k p m tg z = 0) (hne : fR (fcheck k p m tg z) p tg z ≠ []) :
    1536 ≤ (eenc k p m tg z).length ∧ (eenc k p m tg z).length % 512 = 0 ∧ byt (eenc k p m tg z) 156 = 120 ∧ (eenc k p m tg z).take 4 = [112, 97, 120, 0] ∧ (eenc k p m tg z).length ≤ 400000 := by
  have hg := rfmt_ge e hne
  have hl := rfmt_le e
  have hu := uenc_len (ext_ok hl)
  have hL := eenc_len e
  rw [if_neg hne] at hL
  have hp := padn_lt (rfmt (fR (fcheck k p m tg z) p tg z)).length
  have hE : eenc k p m tg z = uenc 120 [112, 97, 120] [] [] 0 ((rfmt (fR (fcheck k p m tg z) p tg z)).length : Int) ++ (rfmt (fR (fcheck k p m tg z) p tg z) ++ List.replicate (padn (rfmt (fR (fcheck k p m tg z) p tg z)).length) 0 ++ uenc (fT (fcheck k p m tg z) k) (fN (fcheck k p m tg z) p) (fP (fcheck k p m tg z) p) (fL (fcheck k p m tg z) tg) (fM (fcheck k p m tg z) m) (fZ (fcheck k p m tg z) z)) := by
    unfold eenc epre
    rw [if_pos e, if_neg hne]; simp only [List.append_assoc]
  refine ⟨by omega, by omega, ?_, ?_, by omega⟩
  · rw [hE, byt_left (by rw [hu]; decide)]; exact uf_type (by decide) (ext_ok hl)
  · rw [hE, List.take_append_of_le_length (by rw [hu]; decide)]; exact ext_four hl
theorem eenc_short (e : fcheck k p m tg z = 0) (hne : fR (fcheck k p m tg z) p tg z = []) : (eenc k p m tg z).length = 512 := by
  rw [eenc_len e, if_pos hne]
theorem eenc_none (e : ¬ fcheck k p m tg z = 0) : eenc k p m tg z = [] := if_neg e
end
end Go.Xp
