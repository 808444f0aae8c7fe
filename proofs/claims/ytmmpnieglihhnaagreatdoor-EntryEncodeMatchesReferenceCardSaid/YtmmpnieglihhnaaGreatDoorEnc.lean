/- Layer 12 (entry): what Encode answers. -/
import Derived.Test.YtmmpnieglihhnaaGreatDoorPlanOk
import Derived.Test.YtmmpnieglihhnaaGreatDoorUstL2
import Derived.Test.YtmmpnieglihhnaaGreatDoorByt
set_option linter.unusedSimpArgs false
set_option linter.unusedVariables false
set_option linter.unusedSectionVars false
namespace Go.Xp
open Go.Proofs

/-- How many bytes pad n bytes to a whole number of blocks. -/
def padn (n : Nat) : Nat := (512 - n % 512) % 512
def epre (l : List Rec) : List UInt8 :=
  if l = [] then [] else uenc 120 [112, 97, 120] [] [] 0 ((rfmt l).length : Int) ++ rfmt l ++ List.replicate (padn (rfmt l).length) 0
def eenc (k : Int) (p : List UInt8) (m : Int) (tg : List UInt8) (z : Int) : List UInt8 :=
  if fcheck k p m tg z = 0 then epre (fR (fcheck k p m tg z) p tg z) ++ uenc (fT (fcheck k p m tg z) k) (fN (fcheck k p m tg z) p) (fP (fcheck k p m tg z) p) (fL (fcheck k p m tg z) tg) (fM (fcheck k p m tg z) m) (fZ (fcheck k p m tg z) z) else []
theorem rlerr_each : ∀ {l : List Rec} {p : Option (List UInt8)}, rlerr p l = 0 → ∀ r ∈ l, rerr r.key r.val = 0
  | [], _, _, r, hr => by cases hr
  | x :: l, p, h, r, hr => by
    unfold rlerr at h
    split at h
    · rename_i h1; exact absurd h h1
    · rename_i h1
      split at h
      · cases h
      · rcases List.mem_cons.1 hr with e | hr
        · rw [e]; exact Classical.not_not.1 h1
        · exact rlerr_each h r hr
theorem flat_le : ∀ {l : List Rec}, (∀ r ∈ l, rerr r.key r.val = 0) → (l.flatMap rone).length ≤ 65600 * l.length
  | [], _ => by simp
  | x :: l, h => by
    have h1 := rone_len (h x (by simp))
    have h2 := flat_le (l := l) (fun r hr => h r (by simp [hr]))
    rw [List.flatMap_cons, List.length_append, List.length_cons]; omega
theorem flat_ge : ∀ {l : List Rec}, l ≠ [] → 1 ≤ (l.flatMap rone).length
  | [], h => absurd rfl h
  | x :: l, _ => by
    rw [List.flatMap_cons, List.length_append]
    have : 1 ≤ (rone x).length := by unfold rone; simp; omega
    omega
theorem fR_len3 (c : Int) (p tg : List UInt8) (z : Int) : (fR c p tg z).length ≤ 3 := by
  unfold fR frecs
  split
  · simp only [List.length_append]; split <;> split <;> split <;> simp
  · simp
section
variable {k m z : Int} {p tg : List UInt8}
theorem rfmt_le (e : fcheck k p m tg z = 0) : (rfmt (fR (fcheck k p m tg z) p tg z)).length ≤ 196800 := by
  have h1 := rlerr_plan e
  have h2 := flat_le (rlerr_each h1)
  have h3 := fR_len3 (fcheck k p m tg z) p tg z
  unfold rfmt
  rw [if_pos h1]
  have := Nat.mul_le_mul_left 65600 h3
  omega
theorem rfmt_ge (e : fcheck k p m tg z = 0) (hne : fR (fcheck k p m tg z) p tg z ≠ []) : 1 ≤ (rfmt (fR (fcheck k p m tg z) p tg z)).length := by
  unfold rfmt
  rw [if_pos (rlerr_plan e)]; exact flat_ge hne
end
theorem ext_ok {n : Nat} (h : n ≤ 196800) : ucheck 120 [112, 97, 120] [] [] 0 (n : Int) = 0 := by
  have c1 : cerr [112, 97, 120] 100 = 0 := by decide
  have c2 : cerr [] 100 = 0 := by decide
  have c3 : cerr [] 155 = 0 := by decide
  unfold ucheck
  rw [if_neg (by decide), if_neg (by rw [c1]; decide), if_neg (by rw [c2]; decide), if_neg (by rw [c3]; decide), if_neg (by omega), if_neg (by omega)]
theorem padn_lt (n : Nat) : padn n < 512 ∧ (n + padn n) % 512 = 0 := by unfold padn; omega
theorem blocks_pad {n : Nat} (h : 1 ≤ n) : (((n : Int) - 1) / 512 + 1) * 512 - (n : Int) = (padn n : Int) := by unfold padn; omega
theorem fcheck_lens {k m z : Int} {p tg : List UInt8} (e : fcheck k p m tg z = 0) : p.length ≤ 65536 ∧ tg.length ≤ 65536 := ⟨(pcheck_valid (fcheck_path e)).1, (ftarget_valid (fcheck_target e)).2⟩
theorem eenc_len {k m z : Int} {p tg : List UInt8} (e : fcheck k p m tg z = 0) : (eenc k p m tg z).length = (if fR (fcheck k p m tg z) p tg z = [] then 0 else 512 + ((rfmt (fR (fcheck k p m tg z) p tg z)).length + padn (rfmt (fR (fcheck k p m tg z) p tg z)).length)) + 512 := by
  unfold eenc
  rw [if_pos e, List.length_append, uenc_len (ucheck_plan e)]
  unfold epre
  split
  · rfl
  · rw [List.length_append, List.length_append, uenc_len (ext_ok (rfmt_le e)), List.length_replicate]; omega
end Go.Xp
