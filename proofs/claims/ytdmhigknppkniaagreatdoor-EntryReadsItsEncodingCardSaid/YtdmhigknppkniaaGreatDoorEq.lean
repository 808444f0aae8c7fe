/- '==' of structs of numbers, texts and truth values. -/
import Derived.Test.YtdmhigknppkniaaGreatDoorRws
import Derived.Laws.StructEq
set_option linter.unusedSimpArgs false
set_option linter.unusedVariables false
set_option linter.unusedSectionVars false
namespace Go.Xp
open MapKept

/-- '==' of two cells of one type. -/
def eqv : TypeDesc → Value → Value → Option Bool
  | .int _, .int k a, .int k' b => if k = k' then some (decide (a = b)) else none
  | .string, .string a, .string b => some (decide (a.data.toList = b.data.toList))
  | .bool, .bool a, .bool b => some (decide (a = b))
  | _, _, _ => none
/-- '==' of the cells of a list of fields, in order. -/
def eqvs (P : Program) : List Field → Nat → List Value → List Value → Option Bool
  | [], _, [], [] => some true
  | f :: fs, off, x :: xs, y :: ys => match P.underlying f.type with
    | some D => if f.offset = off ∧ f.name ≠ "_" ∧ isAggD D = false then (match eqv D x y, eqvs P fs (off + 1) xs ys with
      | some a, some b => some (a && b)
      | _, _ => none) else none
    | none => none
  | _, _, _, _ => none
section
variable {P : Program} {n : Nat} {e : Env} {h : Heap} {d : Option Tmp} {t : TypeId} {pos : String} {af : Array Edge} {g : Option (Nat × Bool)}
variable {T T' : TypeId} {x y : Operand}
theorem run_eqv {D : TypeDesc} {F : TypeId} {a b : Value} {r : Bool} (hF : P.underlying F = some D) (h : eqv D a b = some r) (k : Nat) (w : World) : (Op.equalIn (k + 1) F a b).run P w = .ok r w := by
  cases D <;> cases a <;> cases b <;> simp only [eqv] at h <;> try (cases h; done)
  · simp only [Option.some.injEq] at h; subst h
    simp only [Op.equalIn, Sem.run_bind, run_underlying hF, Result.andThen_ok, Sem.run_pure]
    congr 1
  · split at h
    · rename_i hk
      simp only [Option.some.injEq] at h; subst h
      simp only [Op.equalIn, Sem.run_bind, run_underlying hF, Result.andThen_ok, if_pos hk, Sem.run_pure]
      congr 1
    · cases h
  · rename_i s u
    simp only [Option.some.injEq] at h; subst h
    simp only [Op.equalIn, Sem.run_bind, run_underlying hF, Result.andThen_ok, Sem.run_pure]
    congr 1
    rw [Bool.eq_iff_iff, bytes_beq]
    obtain ⟨⟨s⟩⟩ := s
    obtain ⟨⟨u⟩⟩ := u
    simp
theorem run_eqvs (k : Nat) (w : World) : ∀ (fs : List Field) (off : Nat) (xs ys XS YS : List Value) (r : Bool), eqvs P fs off xs ys = some r → (∀ i u, xs[i]? = some u → XS[off + i]? = some u) → (∀ i u, ys[i]? = some u → YS[off + i]? = some u) →
    (Op.eqFields (k + 1) XS.toArray YS.toArray fs).run P w = .ok r w
  | [], _, [], [], _, _, r, h, _, _ => by simp only [eqvs, Option.some.injEq] at h; subst h; simp [Op.eqFields]
  | [], _, [], _ :: _, _, _, _, h, _, _ => by cases h
  | [], _, _ :: _, _, _, _, _, h, _, _ => by cases h
  | _ :: _, _, [], _, _, _, _, h, _, _ => by simp [eqvs] at h
  | _ :: _, _, _ :: _, [], _, _, _, h, _, _ => by simp [eqvs] at h
  | f :: fs, off, x :: xs, y :: ys, XS, YS, r, h, hx, hy => by
    simp only [eqvs] at h
    cases hF : P.underlying f.type with
    | none => rw [hF] at h; cases h
    | some D =>
      rw [hF] at h
      simp only at h
      split at h
      · rename_i hc
        obtain ⟨ho, hn, hD⟩ := hc
        cases hv : eqv D x y with
        | none => rw [hv] at h; cases h
        | some a =>
          rw [hv] at h
          cases hvs : eqvs P fs (off + 1) xs ys with
          | none => rw [hvs] at h; cases h
          | some b =>
            rw [hvs] at h
            simp only [Option.some.injEq] at h
            subst h
            have h1 : XS[off]? = some x := by simpa using hx 0 x rfl
            have h2 : YS[off]? = some y := by simpa using hy 0 y rfl
            have ih := run_eqvs k w fs (off + 1) xs ys XS YS b hvs (fun i u hi => by have := hx (i + 1) u (by simpa using hi); rw [← this]; congr 1; omega) (fun i u hi => by have := hy (i + 1) u (by simpa using hi); rw [← this]; congr 1; omega)
            have p1 : (part f.type XS.toArray f.offset).run P w = .ok x w := by
              simp only [part, Sem.run_bind, run_isAgg w hF, hD, Result.andThen_ok, Bool.false_eq_true, if_false, ho, List.getElem?_toArray, h1, Sem.run_pure]
            have p2 : (part f.type YS.toArray f.offset).run P w = .ok y w := by
              simp only [part, Sem.run_bind, run_isAgg w hF, hD, Result.andThen_ok, Bool.false_eq_true, if_false, ho, List.getElem?_toArray, h2, Sem.run_pure]
            simp only [Op.eqFields, if_pos hn, Sem.run_bind, p1, p2, Result.andThen_ok, run_eqv hF hv k w]
            cases a with
            | true => simpa using ih
            | false => simp
      · cases h
theorem run_equal_struct {xs ys : List Value} {r : Bool} (hT : P.underlying T = some (.struct (P.fieldsOf T))) (hp : P.stoodInHeld T = false) (hr : eqvs P (P.fieldsOf T).toList 0 xs ys = some r) (w : World) : (Op.equal T (.agg xs.toArray) (.agg ys.toArray)).run P w = .ok r w := by
  unfold Op.equal
  rw [show Op.maxDepth = 9999 + 1 from rfl, run_equalIn_struct w 9999 T _ _ hT hp]
  exact run_eqvs 9998 w _ 0 xs ys xs ys r hr (fun i u hi => by simpa using hi) (fun i u hi => by simpa using hi)
theorem Y_stneq {xs ys : List Value} {r : Bool} (hT : P.underlying T = some (.struct (P.fieldsOf T))) (hp : P.stoodInHeld T = false) (hg : P.eqGuardType P.depth T = false) (hx : ev e x = some (.agg xs.toArray)) (hy : ev e y = some (.agg ys.toArray)) (hr : eqvs P (P.fieldsOf T).toList 0 xs ys = some r) :
    Yld P n e h ⟨d, .binOp .neq T x y T', t, pos, af, g⟩ (.bool (!r)) := fun w a _ he => by
  have h1 := run_equal_struct hT hp hr w
  simp only [execOp, he.eval hx, he.eval hy, eqGuard, Sem.run_bind, run_program, Result.andThen_ok, hg, Bool.not_false, if_true, Sem.run_pure, Sem.run_ite, binOp, h1]
  simp [h1]
theorem Y_decneg {o : Oper} {p : Prop} {i : Decidable p} (hy : Yld P n e h o (.bool (!decide p))) : Yld P n e h o (.bool (decide (¬ p))) := by
  have hb : (!decide p) = decide (¬ p) := by rw [Bool.eq_iff_iff]; simp
  rwa [hb] at hy

inductive Kd where
  | i (k : IntKind)
  | s
  | b
def kfits : Kd → TypeDesc → Bool
  | .i k, .int k' => k == k'
  | .s, .string => true
  | .b, .bool => true
  | _, _ => false
def fldsOk (P : Program) : List Field → Nat → List Kd → Bool
  | [], _, [] => true
  | f :: fs, off, k :: ks => (match P.underlying f.type with
    | some D => kfits k D
    | none => false) && Nat.beq f.offset off && !(f.name == "_") && fldsOk P fs (off + 1) ks
  | _, _, _ => false
def eqk : Kd → Value → Value → Option Bool
  | .i _, .int k a, .int k' b => if k = k' then some (decide (a = b)) else none
  | .s, .string a, .string b => some (decide (a.data.toList = b.data.toList))
  | .b, .bool a, .bool b => some (decide (a = b))
  | _, _, _ => none
def eqks : List Kd → List Value → List Value → Option Bool
  | [], [], [] => some true
  | k :: ks, x :: xs, y :: ys => match eqk k x y, eqks ks xs ys with
    | some a, some b => some (a && b)
    | _, _ => none
  | _, _, _ => none
theorem eqk_of {k : Kd} {D : TypeDesc} {a b : Value} {r : Bool} (hk : kfits k D = true) (h : eqk k a b = some r) : eqv D a b = some r ∧ isAggD D = false := by
  cases k <;> cases D <;> simp only [kfits, Bool.false_eq_true] at hk <;> cases a <;> cases b <;> simp only [eqk] at h <;> try (cases h; done)
  all_goals exact ⟨by simpa only [eqv] using h, rfl⟩
theorem eqvs_of {r : Bool} : ∀ (fs : List Field) (off : Nat) (ks : List Kd) (xs ys : List Value) (r : Bool), fldsOk P fs off ks = true → eqks ks xs ys = some r → eqvs P fs off xs ys = some r
  | [], _, [], [], [], r, _, h => h
  | [], _, [], [], _ :: _, r, _, h => by simp [eqks] at h
  | [], _, [], _ :: _, [], r, _, h => by simp [eqks] at h
  | [], _, [], _ :: _, _ :: _, r, _, h => by simp [eqks] at h
  | [], _, _ :: _, _, _, r, h, _ => by simp [fldsOk] at h
  | _ :: _, _, [], _, _, r, h, _ => by simp [fldsOk] at h
  | f :: fs, off, k :: ks, [], _, r, _, h => by simp [eqks] at h
  | f :: fs, off, k :: ks, _ :: _, [], r, _, h => by simp [eqks] at h
  | f :: fs, off, k :: ks, x :: xs, y :: ys, r, hf, h => by
    simp only [fldsOk, Bool.and_eq_true] at hf
    obtain ⟨⟨⟨h1, h2⟩, h3⟩, h4⟩ := hf
    simp only [eqks] at h
    cases ha : eqk k x y with
    | none => rw [ha] at h; cases h
    | some a =>
      rw [ha] at h
      cases hb : eqks ks xs ys with
      | none => rw [hb] at h; cases h
      | some b =>
        rw [hb] at h
        cases hu : P.underlying f.type with
        | none => rw [hu] at h1; cases h1
        | some D =>
          rw [hu] at h1
          obtain ⟨e1, e2⟩ := eqk_of h1 ha
          have ih := eqvs_of (r := b) fs (off + 1) ks xs ys b h4 hb
          have hn : f.name ≠ "_" := by simpa using h3
          simp only [eqvs, hu]
          rw [if_pos ⟨Nat.eq_of_beq_eq_true h2, hn, e2⟩, e1, ih]
          exact h
theorem steq {ks : List Kd} {xs ys : List Value} {r : Bool} (hk : fldsOk P (P.fieldsOf T).toList 0 ks = true) (hr : eqks ks xs ys = some r) : eqvs P (P.fieldsOf T).toList 0 xs ys = some r := eqvs_of (r := r) _ 0 ks xs ys r hk hr
end
end Go.Xp
