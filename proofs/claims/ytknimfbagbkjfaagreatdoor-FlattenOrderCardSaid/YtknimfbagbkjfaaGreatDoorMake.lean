/- The base of this claim's walks: a judgement on what is left of a function's text ('L', 'W', 'X'), over a frame told by a short list of slots and a heap told by facts. -/
import Derived.Tactics
import Derived.Below
import Derived.Deep.Quiet
import Derived.Deep.Draws
import Derived.Deep.LoopGhost
import Derived.Laws.AppendOwn
import Derived.WalkKit
set_option linter.unusedSimpArgs false
set_option linter.unusedVariables false
namespace Go.Xp

abbrev Heap := Array Obj
structure Std where
  os : Os
  tape : Nat → Question → Nat
  output : Array (Nat × ByteArray)
def std (w : World) : Std := ⟨w.os, w.tape, w.output⟩

/-! ### The frame -/
abbrev Env := List (Nat × Value)
def lk : Env → Nat → Option Value
  | [], _ => none
  | (j, v) :: r, i => bif Nat.beq j i then some v else lk r i

def EOk (n : Nat) (e : Env) (a : Act) : Prop := a.defers = [] ∧ a.tmps.size = n ∧ ∀ i v, lk e i = some v → a.tmps[i]? = some v

def ev (e : Env) : Operand → Option Value
  | .tmp t => lk e t
  | .const v => some v
  | .global g => some (.pointer (some ⟨g, 0, none⟩))
  | .func f => some (.func (.func f) #[] #[])

theorem EOk.eval {n : Nat} {e : Env} {a : Act} (h : EOk n e a) {x : Operand} {v : Value} (hx : ev e x = some v) : a.eval x = v := by
  cases x with
  | tmp t =>
    have := h.2.2 t v hx
    simp only [Act.eval]
    rw [Array.getD_eq_getD_getElem?, this]; rfl
  | const u => simpa [ev, Act.eval] using hx
  | global g => simpa [ev, Act.eval] using hx
  | func f => simpa [ev, Act.eval] using hx

theorem beq_ne {j i : Nat} (h : Nat.beq j i = false) : j ≠ i := by
  intro e; subst e; simp at h

theorem EOk.put {n : Nat} {e : Env} {a : Act} (h : EOk n e a) {d : Nat} (hd : Nat.blt d n = true) (v : Value) : EOk n ((d, v) :: e) (a.put (some d) v) := by
  obtain ⟨h1, h2, h3⟩ := h
  have hdn : d < n := by simpa [Nat.blt_eq] using hd
  refine ⟨h1, by simpa [Act.put] using h2, fun i u hi => ?_⟩
  simp only [lk] at hi
  simp only [Act.put, Array.getElem?_setIfInBounds]
  cases hb : Nat.beq d i with
  | true =>
    rw [hb] at hi
    simp only [cond_true, Option.some.injEq] at hi
    have : d = i := Nat.eq_of_beq_eq_true hb
    subst this; subst hi
    simp [h2, hdn]
  | false =>
    rw [hb] at hi
    simp only [cond_false] at hi
    rw [if_neg (beq_ne hb)]
    exact h3 i u hi

/-- Every slot that 'e'' tells, 'e' tells alike. -/
def Sub (e' e : Env) : Prop := ∀ i v, lk e' i = some v → lk e i = some v
theorem Sub.nil (e : Env) : Sub [] e := fun _ _ h => by cases h
theorem Sub.cons {e' e : Env} {i : Nat} {v : Value} (h : lk e i = some v) (hs : Sub e' e) : Sub ((i, v) :: e') e := by
  intro j u hj
  simp only [lk] at hj
  cases hb : Nat.beq i j with
  | true => rw [hb] at hj; simp only [cond_true, Option.some.injEq] at hj; rw [← Nat.eq_of_beq_eq_true hb, ← hj]; exact h
  | false => rw [hb] at hj; exact hs j u hj
theorem sN {e : Env} : Sub [] e := Sub.nil e
theorem sk1 {e' e : Env} (i0 : Nat) {v0 : Value} (h0 : lk e i0 = some v0) (r : Sub e' e) : Sub ((i0, v0) :: e') e := (.cons h0 r)
theorem sk2 {e' e : Env} (i0 i1 : Nat) {v0 v1 : Value} (h0 : lk e i0 = some v0) (h1 : lk e i1 = some v1) (r : Sub e' e) : Sub ((i0, v0) :: (i1, v1) :: e') e := (.cons h0 (.cons h1 r))
theorem sk3 {e' e : Env} (i0 i1 i2 : Nat) {v0 v1 v2 : Value} (h0 : lk e i0 = some v0) (h1 : lk e i1 = some v1) (h2 : lk e i2 = some v2) (r : Sub e' e) : Sub ((i0, v0) :: (i1, v1) :: (i2, v2) :: e') e := (.cons h0 (.cons h1 (.cons h2 r)))
theorem sk4 {e' e : Env} (i0 i1 i2 i3 : Nat) {v0 v1 v2 v3 : Value} (h0 : lk e i0 = some v0) (h1 : lk e i1 = some v1) (h2 : lk e i2 = some v2) (h3 : lk e i3 = some v3) (r : Sub e' e) : Sub ((i0, v0) :: (i1, v1) :: (i2, v2) :: (i3, v3) :: e') e := (.cons h0 (.cons h1 (.cons h2 (.cons h3 r))))
theorem sk5 {e' e : Env} (i0 i1 i2 i3 i4 : Nat) {v0 v1 v2 v3 v4 : Value} (h0 : lk e i0 = some v0) (h1 : lk e i1 = some v1) (h2 : lk e i2 = some v2) (h3 : lk e i3 = some v3) (h4 : lk e i4 = some v4) (r : Sub e' e) : Sub ((i0, v0) :: (i1, v1) :: (i2, v2) :: (i3, v3) :: (i4, v4) :: e') e := (.cons h0 (.cons h1 (.cons h2 (.cons h3 (.cons h4 r)))))
theorem sk6 {e' e : Env} (i0 i1 i2 i3 i4 i5 : Nat) {v0 v1 v2 v3 v4 v5 : Value} (h0 : lk e i0 = some v0) (h1 : lk e i1 = some v1) (h2 : lk e i2 = some v2) (h3 : lk e i3 = some v3) (h4 : lk e i4 = some v4) (h5 : lk e i5 = some v5) (r : Sub e' e) : Sub ((i0, v0) :: (i1, v1) :: (i2, v2) :: (i3, v3) :: (i4, v4) :: (i5, v5) :: e') e := (.cons h0 (.cons h1 (.cons h2 (.cons h3 (.cons h4 (.cons h5 r))))))
theorem sk7 {e' e : Env} (i0 i1 i2 i3 i4 i5 i6 : Nat) {v0 v1 v2 v3 v4 v5 v6 : Value} (h0 : lk e i0 = some v0) (h1 : lk e i1 = some v1) (h2 : lk e i2 = some v2) (h3 : lk e i3 = some v3) (h4 : lk e i4 = some v4) (h5 : lk e i5 = some v5) (h6 : lk e i6 = some v6) (r : Sub e' e) : Sub ((i0, v0) :: (i1, v1) :: (i2, v2) :: (i3, v3) :: (i4, v4) :: (i5, v5) :: (i6, v6) :: e') e := (.cons h0 (.cons h1 (.cons h2 (.cons h3 (.cons h4 (.cons h5 (.cons h6 r)))))))
theorem sk8 {e' e : Env} (i0 i1 i2 i3 i4 i5 i6 i7 : Nat) {v0 v1 v2 v3 v4 v5 v6 v7 : Value} (h0 : lk e i0 = some v0) (h1 : lk e i1 = some v1) (h2 : lk e i2 = some v2) (h3 : lk e i3 = some v3) (h4 : lk e i4 = some v4) (h5 : lk e i5 = some v5) (h6 : lk e i6 = some v6) (h7 : lk e i7 = some v7) (r : Sub e' e) : Sub ((i0, v0) :: (i1, v1) :: (i2, v2) :: (i3, v3) :: (i4, v4) :: (i5, v5) :: (i6, v6) :: (i7, v7) :: e') e := (.cons h0 (.cons h1 (.cons h2 (.cons h3 (.cons h4 (.cons h5 (.cons h6 (.cons h7 r))))))))
theorem tk1 {e : Env} (i0 : Nat) {v0 : Value} (h0 : lk e i0 = some v0 := by exact rfl) : Sub [(i0, v0)] e := sk1 i0 h0 sN
theorem tk2 {e : Env} (i0 i1 : Nat) {v0 v1 : Value} (h0 : lk e i0 = some v0 := by exact rfl) (h1 : lk e i1 = some v1 := by exact rfl) : Sub [(i0, v0), (i1, v1)] e := sk2 i0 i1 h0 h1 sN
theorem tk3 {e : Env} (i0 i1 i2 : Nat) {v0 v1 v2 : Value} (h0 : lk e i0 = some v0 := by exact rfl) (h1 : lk e i1 = some v1 := by exact rfl) (h2 : lk e i2 = some v2 := by exact rfl) : Sub [(i0, v0), (i1, v1), (i2, v2)] e := sk3 i0 i1 i2 h0 h1 h2 sN
theorem tk4 {e : Env} (i0 i1 i2 i3 : Nat) {v0 v1 v2 v3 : Value} (h0 : lk e i0 = some v0 := by exact rfl) (h1 : lk e i1 = some v1 := by exact rfl) (h2 : lk e i2 = some v2 := by exact rfl) (h3 : lk e i3 = some v3 := by exact rfl) : Sub [(i0, v0), (i1, v1), (i2, v2), (i3, v3)] e := sk4 i0 i1 i2 i3 h0 h1 h2 h3 sN
theorem tk5 {e : Env} (i0 i1 i2 i3 i4 : Nat) {v0 v1 v2 v3 v4 : Value} (h0 : lk e i0 = some v0 := by exact rfl) (h1 : lk e i1 = some v1 := by exact rfl) (h2 : lk e i2 = some v2 := by exact rfl) (h3 : lk e i3 = some v3 := by exact rfl) (h4 : lk e i4 = some v4 := by exact rfl) : Sub [(i0, v0), (i1, v1), (i2, v2), (i3, v3), (i4, v4)] e := sk5 i0 i1 i2 i3 i4 h0 h1 h2 h3 h4 sN
theorem tk6 {e : Env} (i0 i1 i2 i3 i4 i5 : Nat) {v0 v1 v2 v3 v4 v5 : Value} (h0 : lk e i0 = some v0 := by exact rfl) (h1 : lk e i1 = some v1 := by exact rfl) (h2 : lk e i2 = some v2 := by exact rfl) (h3 : lk e i3 = some v3 := by exact rfl) (h4 : lk e i4 = some v4 := by exact rfl) (h5 : lk e i5 = some v5 := by exact rfl) : Sub [(i0, v0), (i1, v1), (i2, v2), (i3, v3), (i4, v4), (i5, v5)] e := sk6 i0 i1 i2 i3 i4 i5 h0 h1 h2 h3 h4 h5 sN
theorem tk7 {e : Env} (i0 i1 i2 i3 i4 i5 i6 : Nat) {v0 v1 v2 v3 v4 v5 v6 : Value} (h0 : lk e i0 = some v0 := by exact rfl) (h1 : lk e i1 = some v1 := by exact rfl) (h2 : lk e i2 = some v2 := by exact rfl) (h3 : lk e i3 = some v3 := by exact rfl) (h4 : lk e i4 = some v4 := by exact rfl) (h5 : lk e i5 = some v5 := by exact rfl) (h6 : lk e i6 = some v6 := by exact rfl) : Sub [(i0, v0), (i1, v1), (i2, v2), (i3, v3), (i4, v4), (i5, v5), (i6, v6)] e := sk7 i0 i1 i2 i3 i4 i5 i6 h0 h1 h2 h3 h4 h5 h6 sN
theorem tk8 {e : Env} (i0 i1 i2 i3 i4 i5 i6 i7 : Nat) {v0 v1 v2 v3 v4 v5 v6 v7 : Value} (h0 : lk e i0 = some v0 := by exact rfl) (h1 : lk e i1 = some v1 := by exact rfl) (h2 : lk e i2 = some v2 := by exact rfl) (h3 : lk e i3 = some v3 := by exact rfl) (h4 : lk e i4 = some v4 := by exact rfl) (h5 : lk e i5 = some v5 := by exact rfl) (h6 : lk e i6 = some v6 := by exact rfl) (h7 : lk e i7 = some v7 := by exact rfl) : Sub [(i0, v0), (i1, v1), (i2, v2), (i3, v3), (i4, v4), (i5, v5), (i6, v6), (i7, v7)] e := sk8 i0 i1 i2 i3 i4 i5 i6 i7 h0 h1 h2 h3 h4 h5 h6 h7 sN
theorem EOk.sub {n : Nat} {e e' : Env} {a : Act} (h : EOk n e a) (hs : Sub e' e) : EOk n e' a := ⟨h.1, h.2.1, fun i v hi => h.2.2 i v (hs i v hi)⟩

/-! ### The judgements -/
def L (σ : Std) (P : Program) (ops : Array Oper) (n : Nat) (Q : Exit → Act → World → Prop) (rest : List Oper) (e : Env) (h : Heap) : Prop :=
  ∀ w a, std w = σ → w.heap = h → EOk n e a → wpList P ops Q rest a w
def W (σ : Std) (P : Program) (n : Nat) (c : Code) (Q : Exit → Act → World → Prop) (e : Env) (h : Heap) : Prop :=
  ∀ w a, std w = σ → w.heap = h → EOk n e a → c.wp P Q a w
def X (σ : Std) (n : Nat) (Q : Exit → Act → World → Prop) (ex : Exit) (e : Env) (h : Heap) : Prop :=
  ∀ w a, std w = σ → w.heap = h → EOk n e a → Q ex a w

/-- The call returns, whatever world bears this heap; the streams are as they were. -/
def Cal (P : Program) (f : FuncId) (args : Array Value) (h : Heap) (R : Value → Heap → Prop) : Prop :=
  ∀ w, w.heap = h → Calls P f args w fun e w' => ∃ v, e = .returned v ∧ std w' = std w ∧ R v w'.heap

theorem Cal.mono {P : Program} {f : FuncId} {args : Array Value} {h : Heap} {R R' : Value → Heap → Prop} (c : Cal P f args h R) (hr : ∀ v h', R v h' → R' v h') : Cal P f args h R' :=
  fun w hw => (c w hw).mono fun _ _ ⟨v, h1, h2, h3⟩ => ⟨v, h1, h2, hr _ _ h3⟩

section
variable {σ : Std} {P : Program} {n : Nat} {Q : Exit → Act → World → Prop} {e e' : Env} {h : Heap} {ops : Array Oper} {rest : List Oper}

/-! ### Control -/
theorem W_seq {x y : Code} (k : W σ P n x (Exit.then (y.wp P Q) Q) e h) : W σ P n (.seq x y) Q e h := fun w a hs hh he => wp_seq (k w a hs hh he)
theorem W_skip (k : X σ n Q .normal e h) : W σ P n .skip Q e h := fun w a hs hh he => wp_skip (k w a hs hh he)
theorem W_exit {id : Nat} (k : X σ n Q (.exit id) e h) : W σ P n (.exit id) Q e h := fun w a hs hh he => wp_exit (k w a hs hh he)
theorem W_ret (k : X σ n Q .ret e h) : W σ P n .ret Q e h := fun w a hs hh he => wp_ret (k w a hs hh he)
theorem W_block {id : Nat} {c : Code} (k : W σ P n c (Exit.inBlock id Q) e h) : W σ P n (.block id c) Q e h := fun w a hs hh he => wp_block (k w a hs hh he)
theorem W_true {c : Operand} {x y : Code} (hc : ev e c = some (.bool true)) (k : W σ P n x Q e h) : W σ P n (.cond c x y) Q e h :=
  fun w a hs hh he => wp_cond_true (he.eval hc) (k w a hs hh he)
theorem W_false {c : Operand} {x y : Code} (hc : ev e c = some (.bool false)) (k : W σ P n y Q e h) : W σ P n (.cond c x y) Q e h :=
  fun w a hs hh he => wp_cond_false (he.eval hc) (k w a hs hh he)
/-- A test that is known. -/
theorem W_known {c : Operand} {x y : Code} {b : Bool} (t : Bool) (hc : ev e c = some (.bool b)) (ht : b = t) (k : W σ P n (match t with | true => x | false => y) Q e h) : W σ P n (.cond c x y) Q e h := by
  subst ht
  cases b with
  | true => exact W_true hc k
  | false => exact W_false hc k
theorem W_split {c : Operand} {x y : Code} {b : Bool} (hc : ev e c = some (.bool b)) (k1 : b = true → W σ P n x Q e h) (k2 : b = false → W σ P n y Q e h) : W σ P n (.cond c x y) Q e h := by
  cases b with
  | true => exact W_true hc (k1 rfl)
  | false => exact W_false hc (k2 rfl)
theorem W_splitd {c : Operand} {x y : Code} {p : Prop} {i : Decidable p} (hc : ev e c = some (.bool (decide p))) (k1 : p → W σ P n x Q e h) (k2 : ¬ p → W σ P n y Q e h) : W σ P n (.cond c x y) Q e h :=
  W_split hc (fun hb => k1 (of_decide_eq_true hb)) (fun hb => k2 (of_decide_eq_false hb))
theorem W_sub (e' : Env) (hs : Sub e' e) {c : Code} (k : W σ P n c Q e' h) : W σ P n c Q e h := fun w a hs' hh he => k w a hs' hh (he.sub hs)
theorem L_sub (e' : Env) (hs : Sub e' e) (k : L σ P ops n Q rest e' h) : L σ P ops n Q rest e h := fun w a hs' hh he => k w a hs' hh (he.sub hs)
/-- A loop: 'env s' the frame, 'I s h' what is known, 's' running. -/
def LoopQ {S : Type} (σ : Std) (n : Nat) (env : S → Env) (I : S → Heap → Prop) (μ : S → Nat) (m : Nat) : Act → World → Prop :=
  fun a w => ∃ m', m' < m ∧ std w = σ ∧ ∃ s, EOk n (env s) a ∧ I s w.heap ∧ μ s = m'
theorem W_loop {S : Type} (env : S → Env) (I : S → Heap → Prop) (μ : S → Nat) {c : Code} (s0 : S) (hsub : Sub (env s0) e) (h0 : I s0 h)
    (round : ∀ s h', I s h' → W σ P n c (Exit.then (LoopQ σ n env I μ (μ s)) Q) (env s) h') : W σ P n (.loop c) Q e h := by
  intro w a hs hh he
  refine wp_loop_ghost (fun m a w => std w = σ ∧ ∃ s, EOk n (env s) a ∧ I s w.heap ∧ μ s = m) (μ s0) ⟨hs, s0, he.sub hsub, hh ▸ h0, rfl⟩ ?_
  rintro m a w ⟨hs, s, he, hI, rfl⟩
  exact round s _ hI w a hs rfl he
theorem X_loop {S : Type} {env : S → Env} {I : S → Heap → Prop} {μ : S → Nat} {m : Nat} (s : S) (hsub : Sub (env s) e) (hI : I s h) (hμ : μ s < m) : X σ n (Exit.then (LoopQ σ n env I μ m) Q) .normal e h :=
  fun _ _ hs hh he => ⟨μ s, hμ, hs, s, he.sub hsub, hh ▸ hI, rfl⟩

/-- The ways through 'x' meet again behind it. -/
def CutQ {S : Type} (σ : Std) (n : Nat) (env : S → Env) (I : S → Heap → Prop) : Act → World → Prop :=
  fun a w => std w = σ ∧ ∃ s, EOk n (env s) a ∧ I s w.heap
theorem W_cut {S : Type} (env : S → Env) (I : S → Heap → Prop) {x y : Code} (k1 : W σ P n x (Exit.then (CutQ σ n env I) Q) e h) (k2 : ∀ s h', I s h' → W σ P n y Q (env s) h') : W σ P n (.seq x y) Q e h := by
  refine fun w a hs hh he => wp_seq (wp_mono (k1 w a hs hh he) ?_)
  intro ex a' w' hq
  cases ex with
  | normal =>
    obtain ⟨h1, s, h2, h3⟩ := hq
    exact k2 s _ h3 w' a' h1 rfl h2
  | exit id => exact hq
  | goto l => exact hq
  | ret => exact hq
  | panic ch => exact hq
  | outgrown => exact hq
theorem X_cut {S : Type} {env : S → Env} {I : S → Heap → Prop} (s : S) (hsub : Sub (env s) e) (hI : I s h) : X σ n (Exit.then (CutQ σ n env I) Q) .normal e h :=
  fun _ _ hs hh he => ⟨hs, s, he.sub hsub, hh ▸ hI⟩

theorem X_then {y : Code} (k : W σ P n y Q e h) : X σ n (Exit.then (y.wp P Q) Q) .normal e h := k
theorem X_then_exit {K : Act → World → Prop} {id : Nat} (k : X σ n Q (.exit id) e h) : X σ n (Exit.then K Q) (.exit id) e h := k
theorem X_then_ret {K : Act → World → Prop} (k : X σ n Q .ret e h) : X σ n (Exit.then K Q) .ret e h := k
theorem X_block {id : Nat} (k : X σ n Q .normal e h) : X σ n (Exit.inBlock id Q) .normal e h := k
theorem X_block_ret {id : Nat} (k : X σ n Q .ret e h) : X σ n (Exit.inBlock id Q) .ret e h := k
theorem X_block_hit {id : Nat} (k : X σ n Q .normal e h) : X σ n (Exit.inBlock id Q) (.exit id) e h := fun w a hs hh he => by
  show (if id = id then Q .normal a w else Q (.exit id) a w)
  rw [if_pos rfl]; exact k w a hs hh he
/-! ### A function's begin and end -/
def Post (σ : Std) (R : Value → Heap → Prop) : Ending → World → Prop := fun e w' => ∃ v, e = .returned v ∧ std w' = σ ∧ R v w'.heap
def argEnv : Nat → List Value → Env
  | _, [] => []
  | k, v :: vs => (k, v) :: argEnv (k + 1) vs
theorem lk_argEnv (vs : List Value) : ∀ (k i : Nat) (v : Value), lk (argEnv k vs) i = some v → ∃ j, i = k + j ∧ vs[j]? = some v := by
  induction vs with
  | nil => intro k i v h; cases h
  | cons u vs ih =>
    intro k i v h
    simp only [argEnv, lk] at h
    cases hb : Nat.beq k i with
    | true => rw [hb] at h; simp only [cond_true] at h; exact ⟨0, (Nat.eq_of_beq_eq_true hb).symm, by simpa using h⟩
    | false =>
      rw [hb] at h
      obtain ⟨j, h1, h2⟩ := ih (k + 1) i v h
      exact ⟨j + 1, by omega, by simpa using h2⟩
theorem Cal_enter {f : FuncId} {fn : Func} {c : Code} {args : List Value} {R : Value → Heap → Prop} (hf : P.funcs[f]? = some fn) (hb : fn.body = some c) (hn : Nat.ble args.length fn.ntmps = true) (he : argEnv 0 args = e)
    (k : ∀ σ, W σ P fn.ntmps c (bodyPost P fn (Post σ R)) e h) : Cal P f args.toArray h R := by
  intro w hw
  refine calls_of_wp hf hb (k (std w) w _ rfl hw ⟨rfl, ?_, ?_⟩)
  · have := Nat.le_of_ble_eq_true hn; simp; omega
  · intro i v hi
    subst he
    obtain ⟨j, h1, h2⟩ := lk_argEnv args 0 i v hi
    have hj : j < args.length := (List.getElem?_eq_some_iff.1 h2).1
    have : i = j := by omega
    subst this
    rw [Array.getElem?_append_left (by simpa using hj)]
    simpa using h2
theorem X_ret1 {fn : Func} {R : Value → Heap → Prop} {t : Nat} {v : Value} (hr : fn.results = #[.tmp t]) (hv : lk e t = some v) (k : R v h) : X σ n (bodyPost P fn (Post σ R)) .ret e h :=
  fun w a hs hh he => ⟨he.1, v, by rw [results_tmp hr, Array.getD_eq_getD_getElem?, he.2.2 t v hv]; rfl, v, rfl, hs, hh ▸ k⟩
theorem X_ret2 {fn : Func} {R : Value → Heap → Prop} {t u : Nat} {v v' : Value} (hr : fn.results = #[.tmp t, .tmp u]) (hv : lk e t = some v) (hv' : lk e u = some v') (k : R (.tuple #[v, v']) h) : X σ n (bodyPost P fn (Post σ R)) .ret e h :=
  fun w a hs hh he => ⟨he.1, _, by rw [results_tmp2 hr, Array.getD_eq_getD_getElem?, he.2.2 t v hv, Array.getD_eq_getD_getElem?, he.2.2 u v' hv']; rfl, _, rfl, hs, hh ▸ k⟩
theorem results_tmp3' {fn : Func} {t u s : Tmp} (h : fn.results = #[.tmp t, .tmp u, .tmp s]) (tmps : Array Value) (P : Program) (w : World) :
    (results fn tmps).run P w = .ok (.tuple #[tmps.getD t undef, tmps.getD u undef, tmps.getD s undef]) w := by
  simp [results, h]
theorem X_ret3 {fn : Func} {R : Value → Heap → Prop} {t u s : Nat} {v v' v'' : Value} (hr : fn.results = #[.tmp t, .tmp u, .tmp s]) (hv : lk e t = some v) (hv' : lk e u = some v') (hv'' : lk e s = some v'') (k : R (.tuple #[v, v', v'']) h) : X σ n (bodyPost P fn (Post σ R)) .ret e h :=
  fun w a hs hh he => ⟨he.1, _, by rw [results_tmp3' hr, Array.getD_eq_getD_getElem?, he.2.2 t v hv, Array.getD_eq_getD_getElem?, he.2.2 u v' hv', Array.getD_eq_getD_getElem?, he.2.2 s v'' hv'']; rfl, _, rfl, hs, hh ▸ k⟩
theorem X_end0 {fn : Func} {R : Value → Heap → Prop} (hr : fn.results = #[]) (k : R (.tuple #[]) h) : X σ n (bodyPost P fn (Post σ R)) .ret e h :=
  fun w a hs hh he => ⟨he.1, _, results_none hr _ _ _, _, rfl, hs, hh ▸ k⟩
/-- The text has come to its end without 'return'. -/
theorem X_end {fn : Func} {R : Value → Heap → Prop} (k : X σ n (bodyPost P fn (Post σ R)) .ret e h) : X σ n (bodyPost P fn (Post σ R)) .normal e h := k

/-! ### Regions -/
theorem W_region {id : Nat} {l : List Oper} (k : L σ P l.toArray n Q l e h) : W σ P n (.region id l.toArray false) Q e h := fun w a hs hh he => wp_region_lit (k w a hs hh he)
theorem L_nil (k : X σ n Q .normal e h) : L σ P ops n Q [] e h := k

/-- Does the operation's guard let it run? -/
def gd (ops : Array Oper) (e : Env) : Option (Nat × Bool) → Option Bool
  | none => some true
  | some (k, b) => match (ops[k]?).bind (·.dst) with
    | some d => match lk e d with
      | some (.bool c) => some (c == b)
      | some (.tuple _) => some false
      | _ => none
    | none => none
theorem wanted_of_gd {o : Oper} {a : Act} {t : Bool} (he : EOk n e a) (hg : gd ops e o.guard = some t) : Region.wanted o (yielded ops a.tmps) = t := by
  unfold Region.wanted
  cases ho : o.guard with
  | none => rw [ho] at hg; simpa [gd] using hg
  | some kb =>
    obtain ⟨k, b⟩ := kb
    rw [ho] at hg
    simp only [gd] at hg
    simp only [yielded]
    cases hd : (ops[k]?).bind (·.dst) with
    | none => rw [hd] at hg; cases hg
    | some d =>
      rw [hd] at hg
      simp only at hg
      cases hl : lk e d with
      | none => rw [hl] at hg; cases hg
      | some v =>
        rw [hl] at hg
        cases v with
        | bool c =>
          simp only [Option.some.injEq] at hg
          have := he.2.2 d _ hl
          simp only [Option.bind_some, this, ← hg]
          cases c <;> cases b <;> rfl
        | tuple c =>
          simp only [Option.some.injEq] at hg
          have := he.2.2 d _ hl
          simp only [Option.bind_some, this, ← hg]
          rfl
        | _ => cases hg

/-- In every world over this heap the operation yields 'v', and leaves the world as it is. -/
def Yld (P : Program) (n : Nat) (e : Env) (h : Heap) (o : Oper) (v : Value) : Prop := ∀ w a, w.heap = h → EOk n e a → (execOp a.eval o).run P w = .ok (.value v) w

theorem L_skip {o : Oper} {d : Nat} (hd : o.dst = some d) (hn : Nat.blt d n = true) (hg : gd ops e o.guard = some false) (k : L σ P ops n Q rest ((d, undef) :: e) h) : L σ P ops n Q (o :: rest) e h := by
  intro w a hs hh he
  unfold wpList
  rw [wanted_of_gd he hg, if_neg (by simp), hd]
  exact k w _ hs hh (he.put hn _)
theorem L_yld {o : Oper} {d : Nat} {v : Value} (hy : Yld P n e h o v) (hd : o.dst = some d) (hn : Nat.blt d n = true) (hg : gd ops e o.guard = some true) (k : L σ P ops n Q rest ((d, v) :: e) h) : L σ P ops n Q (o :: rest) e h := by
  intro w a hs hh he
  unfold wpList
  rw [wanted_of_gd he hg, if_pos rfl]
  refine .inl ?_
  unfold Oper.wp
  rw [hy w a hh he, Oper.upon_value, hd]
  exact k w _ hs hh (he.put hn _)
/-- An operation that makes or writes memory: the value, and what is known of the heap behind it. -/
def Mks (P : Program) (n : Nat) (e : Env) (h : Heap) (o : Oper) (R : Value → Heap → Prop) : Prop :=
  ∀ w a, w.heap = h → EOk n e a → ∃ v w', (execOp a.eval o).run P w = .ok (.value v) w' ∧ std w' = std w ∧ R v w'.heap
theorem L_mks {o : Oper} {d : Nat} {R : Value → Heap → Prop} (hy : Mks P n e h o R) (hd : o.dst = some d) (hn : Nat.blt d n = true) (hg : gd ops e o.guard = some true) (k : ∀ v h', R v h' → L σ P ops n Q rest ((d, v) :: e) h') : L σ P ops n Q (o :: rest) e h := by
  intro w a hs hh he
  unfold wpList
  rw [wanted_of_gd he hg, if_pos rfl]
  refine .inl ?_
  obtain ⟨v, w', h1, h2, h3⟩ := hy w a hh he
  unfold Oper.wp
  rw [h1, Oper.upon_value, hd]
  exact k v _ h3 w' _ (h2.trans hs) rfl (he.put hn _)
/-- An operation that writes memory and yields nothing. -/
def Dos (P : Program) (n : Nat) (e : Env) (h : Heap) (o : Oper) (R : Heap → Prop) : Prop :=
  ∀ w a, w.heap = h → EOk n e a → ∃ w', (execOp a.eval o).run P w = .ok .skip w' ∧ std w' = std w ∧ R w'.heap
theorem L_dos {o : Oper} {R : Heap → Prop} (hy : Dos P n e h o R) (hd : o.dst = none) (hg : gd ops e o.guard = some true) (k : ∀ h', R h' → L σ P ops n Q rest e h') : L σ P ops n Q (o :: rest) e h := by
  intro w a hs hh he
  unfold wpList
  rw [wanted_of_gd he hg, if_pos rfl]
  refine .inl ?_
  obtain ⟨w', h1, h2, h3⟩ := hy w a hh he
  unfold Oper.wp
  rw [h1, Oper.upon_skip, hd]
  exact k _ h3 w' _ (h2.trans hs) rfl he
/-- A call of a Go function. -/
def Ent (P : Program) (n : Nat) (e : Env) (h : Heap) (o : Oper) (f : FuncId) (args : Array Value) : Prop :=
  ∀ w a, w.heap = h → EOk n e a → (execOp a.eval o).run P w = .ok (.enter f args) w
theorem L_call {o : Oper} {d : Nat} {f : FuncId} {args : Array Value} {R : Value → Heap → Prop} (hy : Ent P n e h o f args) (c : Cal P f args h R) (hd : o.dst = some d) (hn : Nat.blt d n = true) (hg : gd ops e o.guard = some true)
    (k : ∀ v h', R v h' → L σ P ops n Q rest ((d, v) :: e) h') : L σ P ops n Q (o :: rest) e h := by
  intro w a hs hh he
  unfold wpList
  rw [wanted_of_gd he hg, if_pos rfl]
  refine .inl ?_
  unfold Oper.wp
  rw [hy w a hh he, Oper.upon_enter, hd]
  refine (c w hh).mono ?_
  rintro _ w' ⟨v, rfl, h2, h3⟩
  exact k v _ h3 w' _ (h2.trans hs) rfl (he.put hn _)
/-- A truth value in a slot is told. -/
theorem L_known {d : Nat} {b : Bool} (t : Bool) (hl : lk e d = some (.bool b)) (ht : b = t) (k : L σ P ops n Q rest ((d, .bool t) :: e) h) : L σ P ops n Q rest e h := by
  refine L_sub _ (fun i v hi => ?_) k
  simp only [lk] at hi
  cases hb : Nat.beq d i with
  | true => rw [hb] at hi; simp only [cond_true, Option.some.injEq] at hi; rw [← Nat.eq_of_beq_eq_true hb, ← hi, ← ht]; exact hl
  | false => rw [hb] at hi; exact hi
theorem L_split {d : Nat} {b : Bool} (hl : lk e d = some (.bool b)) (k1 : b = true → L σ P ops n Q rest ((d, .bool true) :: e) h) (k2 : b = false → L σ P ops n Q rest ((d, .bool false) :: e) h) : L σ P ops n Q rest e h := by
  cases hb : b with
  | true => exact L_known true hl hb (k1 hb)
  | false => exact L_known false hl hb (k2 hb)
theorem L_splitd {d : Nat} {p : Prop} {i : Decidable p} (hl : lk e d = some (.bool (decide p))) (k1 : p → L σ P ops n Q rest ((d, .bool true) :: e) h) (k2 : ¬ p → L σ P ops n Q rest ((d, .bool false) :: e) h) : L σ P ops n Q rest e h :=
  L_split hl (fun hb => k1 (of_decide_eq_true hb)) (fun hb => k2 (of_decide_eq_false hb))

/-! ### A region that draws its order, every operation quiet in a class of heaps -/
def LQ (σ : Std) (P : Program) (ops : Array Oper) (n : Nat) (I : Heap → Prop) (Q : Exit → Act → World → Prop) (rest : List Oper) (e : Env) : Prop :=
  ∀ a, EOk n e a → wpQuiet P ops (fun w => std w = σ ∧ I w.heap) (fun a' => ∀ w', (std w' = σ ∧ I w'.heap) → Q .normal a' w') rest a
theorem W_quiet {id : Nat} {l : List Oper} (I : Heap → Prop) (hm : P.follows .mixedOrders = true) (hB : Region.lexB .any l.toArray = true) (hI : I h) (k : LQ σ P l.toArray n I Q l e) : W σ P n (.region id l.toArray true) Q e h :=
  fun w a hs hh he => wp_region_quiet (C := fun w => std w = σ ∧ I w.heap) hm hB ⟨hs, hh ▸ hI⟩ (by simpa using k a he)
section
variable {I : Heap → Prop}
theorem LQ_nil (k : ∀ h', I h' → X σ n Q .normal e h') : LQ σ P ops n I Q [] e := fun a he w' hw' => k _ hw'.2 w' a hw'.1 rfl he
theorem LQ_yld {o : Oper} {d : Nat} {v : Value} (hy : ∀ h, I h → Yld P n e h o v) (hd : o.dst = some d) (hn : Nat.blt d n = true) (hg : gd ops e o.guard = some true) (k : LQ σ P ops n I Q rest ((d, v) :: e)) : LQ σ P ops n I Q (o :: rest) e := by
  intro a he
  unfold wpQuiet
  rw [wanted_of_gd he hg, if_pos rfl]
  refine ⟨v, fun w hw => ?_, ?_⟩
  · unfold Oper.quietAt
    rw [hy _ hw.2 w a rfl he]
    exact ⟨rfl, rfl⟩
  · rw [hd]; exact k _ (he.put hn _)
theorem LQ_call {o : Oper} {d : Nat} {f : FuncId} {args : Array Value} {v : Value} (hy : ∀ h, I h → Ent P n e h o f args) (c : ∀ h, I h → Cal P f args h (fun u h' => u = v ∧ I h')) (hd : o.dst = some d) (hn : Nat.blt d n = true) (hg : gd ops e o.guard = some true) (k : LQ σ P ops n I Q rest ((d, v) :: e)) : LQ σ P ops n I Q (o :: rest) e := by
  intro a he
  unfold wpQuiet
  rw [wanted_of_gd he hg, if_pos rfl]
  refine ⟨v, fun w hw => ?_, ?_⟩
  · unfold Oper.quietAt
    rw [hy _ hw.2 w a rfl he]
    refine ⟨rfl, (c _ hw.2 w rfl).mono ?_⟩
    rintro _ w' ⟨u, rfl, h2, rfl, h4⟩
    exact ⟨rfl, h2.trans hw.1, h4⟩
  · rw [hd]; exact k _ (he.put hn _)
theorem LQ_skip {o : Oper} {d : Nat} (hd : o.dst = some d) (hn : Nat.blt d n = true) (hg : gd ops e o.guard = some false) (k : LQ σ P ops n I Q rest ((d, undef) :: e)) : LQ σ P ops n I Q (o :: rest) e := by
  intro a he
  unfold wpQuiet
  rw [wanted_of_gd he hg, if_neg (by simp), hd]
  exact k _ (he.put hn _)
theorem LQ_sub (e' : Env) (hs : Sub e' e) (k : LQ σ P ops n I Q rest e') : LQ σ P ops n I Q rest e := fun a he => k a (he.sub hs)
theorem LQ_known {d : Nat} {b : Bool} (t : Bool) (hl : lk e d = some (.bool b)) (ht : b = t) (k : LQ σ P ops n I Q rest ((d, .bool t) :: e)) : LQ σ P ops n I Q rest e := by
  refine LQ_sub _ (fun i v hi => ?_) k
  simp only [lk] at hi
  cases hb : Nat.beq d i with
  | true => rw [hb] at hi; simp only [cond_true, Option.some.injEq] at hi; rw [← Nat.eq_of_beq_eq_true hb, ← hi, ← ht]; exact hl
  | false => rw [hb] at hi; exact hi
theorem LQ_split {d : Nat} {b : Bool} (hl : lk e d = some (.bool b)) (k1 : b = true → LQ σ P ops n I Q rest ((d, .bool true) :: e)) (k2 : b = false → LQ σ P ops n I Q rest ((d, .bool false) :: e)) : LQ σ P ops n I Q rest e := by
  cases hb : b with
  | true => exact LQ_known true hl hb (k1 hb)
  | false => exact LQ_known false hl hb (k2 hb)
theorem LQ_splitd {d : Nat} {p : Prop} {i : Decidable p} (hl : lk e d = some (.bool (decide p))) (k1 : p → LQ σ P ops n I Q rest ((d, .bool true) :: e)) (k2 : ¬ p → LQ σ P ops n I Q rest ((d, .bool false) :: e)) : LQ σ P ops n I Q rest e :=
  LQ_split hl (fun hb => k1 (of_decide_eq_true hb)) (fun hb => k2 (of_decide_eq_false hb))
end
end
end Go.Xp

/- What each operation of a function's text yields, as facts for the judgement of the base: whole numbers, truth values, strings, rows of cells, variables in blocks of their own. -/
set_option linter.unusedSimpArgs false
set_option linter.unusedVariables false
namespace Go.Xp

/-- A text as its list of bytes. -/
abbrev str (l : List UInt8) : Value := .string ⟨l.toArray⟩
/-- A byte as a value. -/
abbrev bv (b : UInt8) : Value := .int .u8 (b.toNat : Int)

section
variable {σ : Std} {P : Program} {n : Nat} {Q : Exit → Act → World → Prop} {e : Env} {h : Heap} {ops : Array Oper} {rest : List Oper}
variable {d : Option Tmp} {t : TypeId} {pos : String} {af : Array Edge} {g : Option (Nat × Bool)}

theorem Y_move {x : Operand} {v : Value} (hx : ev e x = some v) : Yld P n e h ⟨d, .move x, t, pos, af, g⟩ v := fun w a _ he => by simp [execOp, he.eval hx]
theorem Y_assign {x : Operand} {v : Value} (hx : ev e x = some v) : Yld P n e h ⟨d, .assign x, t, pos, af, g⟩ v := fun w a _ he => by simp [execOp, he.eval hx]
theorem Y_pick_t {c x y : Operand} {v : Value} (hc : ev e c = some (.bool true)) (hx : ev e x = some v) : Yld P n e h ⟨d, .pick c x y, t, pos, af, g⟩ v := fun w a _ he => by simp [execOp, he.eval hc, he.eval hx, asBool]
theorem Y_pick_f {c x y : Operand} {v : Value} (hc : ev e c = some (.bool false)) (hy : ev e y = some v) : Yld P n e h ⟨d, .pick c x y, t, pos, af, g⟩ v := fun w a _ he => by simp [execOp, he.eval hc, he.eval hy, asBool]
theorem Y_extract {x : Operand} {vs : Array Value} {i : Nat} {v : Value} (hx : ev e x = some (.tuple vs)) (hi : vs[i]? = some v) : Yld P n e h ⟨d, .extract x i, t, pos, af, g⟩ v := fun w a _ he => by simp [execOp, he.eval hx, Instr.extract, hi]
/-! ### Whole numbers -/
section
variable {T T' : TypeId} {x y : Operand} {k : IntKind} {p q : Int}
theorem Y_addw (hx : ev e x = some (.int k p)) (hy : ev e y = some (.int k q)) : Yld P n e h ⟨d, .binOp .add T x y T', t, pos, af, g⟩ (.int k (k.wrap (p + q))) := fun w a _ he => by
  simp [execOp, he.eval hx, he.eval hy, eqGuard, binOp, Op.intArith]
theorem Y_subw (hx : ev e x = some (.int k p)) (hy : ev e y = some (.int k q)) : Yld P n e h ⟨d, .binOp .sub T x y T', t, pos, af, g⟩ (.int k (k.wrap (p - q))) := fun w a _ he => by
  simp [execOp, he.eval hx, he.eval hy, eqGuard, binOp, Op.intArith]
theorem Y_mulw (hx : ev e x = some (.int k p)) (hy : ev e y = some (.int k q)) : Yld P n e h ⟨d, .binOp .mul T x y T', t, pos, af, g⟩ (.int k (k.wrap (p * q))) := fun w a _ he => by
  simp [execOp, he.eval hx, he.eval hy, eqGuard, binOp, Op.intArith]
theorem wrap_i64 {z : Int} (h0 : -9223372036854775808 ≤ z) (h1 : z ≤ 9223372036854775807) : IntKind.i64.wrap z = z := by
  rw [IntKind.wrap_i64]; omega
theorem wrap_u8 {z : Int} (h0 : 0 ≤ z) (h1 : z ≤ 255) : IntKind.u8.wrap z = z := by
  rw [IntKind.wrap_u8]; omega
theorem Y_add (hx : ev e x = some (.int .i64 p)) (hy : ev e y = some (.int .i64 q)) (h0 : -9223372036854775808 ≤ p + q) (h1 : p + q ≤ 9223372036854775807) : Yld P n e h ⟨d, .binOp .add T x y T', t, pos, af, g⟩ (.int .i64 (p + q)) := by
  have := Y_addw (P := P) (n := n) (h := h) (d := d) (t := t) (pos := pos) (af := af) (g := g) (T := T) (T' := T') hx hy
  rwa [wrap_i64 h0 h1] at this
theorem Y_sub (hx : ev e x = some (.int .i64 p)) (hy : ev e y = some (.int .i64 q)) (h0 : -9223372036854775808 ≤ p - q) (h1 : p - q ≤ 9223372036854775807) : Yld P n e h ⟨d, .binOp .sub T x y T', t, pos, af, g⟩ (.int .i64 (p - q)) := by
  have := Y_subw (P := P) (n := n) (h := h) (d := d) (t := t) (pos := pos) (af := af) (g := g) (T := T) (T' := T') hx hy
  rwa [wrap_i64 h0 h1] at this
theorem Y_mul (hx : ev e x = some (.int .i64 p)) (hy : ev e y = some (.int .i64 q)) (h0 : -9223372036854775808 ≤ p * q) (h1 : p * q ≤ 9223372036854775807) : Yld P n e h ⟨d, .binOp .mul T x y T', t, pos, af, g⟩ (.int .i64 (p * q)) := by
  have := Y_mulw (P := P) (n := n) (h := h) (d := d) (t := t) (pos := pos) (af := af) (g := g) (T := T) (T' := T') hx hy
  rwa [wrap_i64 h0 h1] at this
theorem Y_quow (hx : ev e x = some (.int k p)) (hy : ev e y = some (.int k q)) (hq : q ≠ 0) : Yld P n e h ⟨d, .binOp .quo T x y T', t, pos, af, g⟩ (.int k (k.wrap (p.tdiv q))) := fun w a _ he => by
  simp [execOp, he.eval hx, he.eval hy, eqGuard, binOp, Op.intDiv, hq]
/-- '/' of numbers that are not negative. -/
theorem Y_quo (hx : ev e x = some (.int .i64 p)) (hy : ev e y = some (.int .i64 q)) (hp : 0 ≤ p) (hp' : p ≤ 9223372036854775807) (hq : 0 < q) : Yld P n e h ⟨d, .binOp .quo T x y T', t, pos, af, g⟩ (.int .i64 (p / q)) := by
  have := Y_quow (P := P) (n := n) (h := h) (d := d) (t := t) (pos := pos) (af := af) (g := g) (T := T) (T' := T') hx hy (by omega)
  have h2 : 0 ≤ p / q := Int.ediv_nonneg hp (by omega)
  have h3 : p / q ≤ p := Int.ediv_le_self q hp
  rwa [Int.tdiv_eq_ediv_of_nonneg hp, wrap_i64 (by omega) (by omega)] at this
theorem Y_lss (hx : ev e x = some (.int k p)) (hy : ev e y = some (.int k q)) : Yld P n e h ⟨d, .binOp .lss T x y T', t, pos, af, g⟩ (.bool (decide (p < q))) := fun w a _ he => by
  simp [execOp, he.eval hx, he.eval hy, eqGuard, binOp, Op.intCmp]
theorem Y_leq (hx : ev e x = some (.int k p)) (hy : ev e y = some (.int k q)) : Yld P n e h ⟨d, .binOp .leq T x y T', t, pos, af, g⟩ (.bool (decide (p ≤ q))) := fun w a _ he => by
  simp [execOp, he.eval hx, he.eval hy, eqGuard, binOp, Op.intCmp]
theorem Y_gtr (hx : ev e x = some (.int k p)) (hy : ev e y = some (.int k q)) : Yld P n e h ⟨d, .binOp .gtr T x y T', t, pos, af, g⟩ (.bool (decide (q < p))) := fun w a _ he => by
  simp [execOp, he.eval hx, he.eval hy, eqGuard, binOp, Op.intCmp]
theorem Y_geq (hx : ev e x = some (.int k p)) (hy : ev e y = some (.int k q)) : Yld P n e h ⟨d, .binOp .geq T x y T', t, pos, af, g⟩ (.bool (decide (q ≤ p))) := fun w a _ he => by
  simp [execOp, he.eval hx, he.eval hy, eqGuard, binOp, Op.intCmp]
theorem Y_eql (hx : ev e x = some (.int k p)) (hy : ev e y = some (.int k q)) : Yld P n e h ⟨d, .binOp .eql T x y T', t, pos, af, g⟩ (.bool (decide (p = q))) := fun w a _ he => by
  have hb : (p == q) = decide (p = q) := by rw [Bool.eq_iff_iff]; simp
  simp [execOp, he.eval hx, he.eval hy, eqGuard, binOp, Op.intCmp, hb]
theorem Y_neq (hx : ev e x = some (.int k p)) (hy : ev e y = some (.int k q)) : Yld P n e h ⟨d, .binOp .neq T x y T', t, pos, af, g⟩ (.bool (decide (¬ p = q))) := fun w a _ he => by
  have hb : (p != q) = decide (¬ p = q) := by rw [Bool.eq_iff_iff]; simp
  simp [execOp, he.eval hx, he.eval hy, eqGuard, binOp, Op.intCmp, hb]
theorem Y_conv {k' : IntKind} (hT : P.underlying T = some (.int k)) (hT' : P.underlying T' = some (.int k')) (hx : ev e x = some (.int k p)) : Yld P n e h ⟨d, .convert T T' x, t, pos, af, g⟩ (.int k' (k'.wrap p)) := fun w a _ he => by
  simp [execOp, he.eval hx, convert, run_underlying hT, run_underlying hT', Conv.intToInt]
theorem Y_max {A : Array TypeId} (hx : ev e x = some (.int k p)) (hy : ev e y = some (.int k q)) : Yld P n e h ⟨d, .call { callee := .builtin .max, args := #[x, y], argTypes := A }, t, pos, af, g⟩ (.int k (max p q)) := fun w a _ he => by
  have : (if q > p then q else p) = max p q := by rw [Int.max_def]; split <;> split <;> omega
  simp [execOp, resolve, invoke, builtin, he.eval hx, he.eval hy, Builtin.max_, Builtin.max2, this]
end

/-! ### Truth values -/
section
variable {T T' : TypeId} {x y : Operand} {b c : Bool}
theorem Y_not (hx : ev e x = some (.bool b)) : Yld P n e h ⟨d, .unOp .not T x, t, pos, af, g⟩ (.bool (!b)) := fun w a _ he => by
  simp [execOp, he.eval hx, Op.unary]
theorem Y_notd {p : Prop} {i : Decidable p} (hx : ev e x = some (.bool (decide p))) : Yld P n e h ⟨d, .unOp .not T x, t, pos, af, g⟩ (.bool (decide (¬ p))) := fun w a _ he => by
  have hb : (!decide p) = decide (¬ p) := by rw [Bool.eq_iff_iff]; simp
  simp only [execOp, he.eval hx, Op.unary, hb, Sem.run_bind, Sem.run_pure, Result.andThen_ok]
end

/-! ### Texts -/
section
variable {T T' : TypeId} {x y : Operand} {l m : List UInt8}
theorem Y_seql (hx : ev e x = some (str l)) (hy : ev e y = some (str m)) : Yld P n e h ⟨d, .binOp .eql T x y T', t, pos, af, g⟩ (.bool (decide (l = m))) := fun w a _ he => by
  have hb : (l == m) = decide (l = m) := by rw [Bool.eq_iff_iff]; simp
  simp [execOp, he.eval hx, he.eval hy, eqGuard, binOp, Op.stringOp, hb]
theorem Y_sneq (hx : ev e x = some (str l)) (hy : ev e y = some (str m)) : Yld P n e h ⟨d, .binOp .neq T x y T', t, pos, af, g⟩ (.bool (decide (¬ l = m))) := fun w a _ he => by
  have hb : (!(l == m)) = decide (¬ l = m) := by rw [Bool.eq_iff_iff]; simp
  simp [execOp, he.eval hx, he.eval hy, eqGuard, binOp, Op.stringOp, hb]
theorem Y_slss (hx : ev e x = some (str l)) (hy : ev e y = some (str m)) : Yld P n e h ⟨d, .binOp .lss T x y T', t, pos, af, g⟩ (.bool (Op.bytesLess l m)) := fun w a _ he => by
  simp [execOp, he.eval hx, he.eval hy, eqGuard, binOp, Op.stringOp]
theorem Y_sleq (hx : ev e x = some (str l)) (hy : ev e y = some (str m)) : Yld P n e h ⟨d, .binOp .leq T x y T', t, pos, af, g⟩ (.bool (Op.bytesLess l m || l == m)) := fun w a _ he => by
  simp [execOp, he.eval hx, he.eval hy, eqGuard, binOp, Op.stringOp]
theorem Y_sgtr (hx : ev e x = some (str l)) (hy : ev e y = some (str m)) : Yld P n e h ⟨d, .binOp .gtr T x y T', t, pos, af, g⟩ (.bool !(Op.bytesLess l m || l == m)) := fun w a _ he => by
  simp [execOp, he.eval hx, he.eval hy, eqGuard, binOp, Op.stringOp]
theorem Y_sadd (hx : ev e x = some (str l)) (hy : ev e y = some (str m)) (hl : l.length + m.length ≤ 9223372036854775807) : Yld P n e h ⟨d, .binOp .add T x y T', t, pos, af, g⟩ (str (l ++ m)) := fun w a _ he => by
  have h1 : (⟨l.toArray⟩ : ByteArray).size = l.length := by simp [ByteArray.size]
  have h2 : (⟨m.toArray⟩ : ByteArray).size = m.length := by simp [ByteArray.size]
  have h4 : IntKind.i64.max = 9223372036854775807 := rfl
  have h3 : ¬ (((⟨l.toArray⟩ : ByteArray).size + (⟨m.toArray⟩ : ByteArray).size : Nat) : Int) > IntKind.i64.max := by
    rw [h1, h2, h4]; omega
  have h5 : (⟨l.toArray⟩ : ByteArray) ++ ⟨m.toArray⟩ = ⟨(l ++ m).toArray⟩ := by
    apply ByteArray.ext; simp
  simp only [execOp, he.eval hx, he.eval hy, eqGuard, binOp, Op.stringOp, if_neg h3, h5]
  simp
theorem run_blt {ρ : Operand → Value} {b : Builtin} {as : Array Operand} {A : Array TypeId} {w w' : World} {v : Value} {s : Sem Value} (hb : builtin b A t (as.map fun | .const _ => true | _ => false) (as.map ρ) = (do pure (.value (← s)))) (hs : s.run P w = .ok v w') :
    (execOp ρ ⟨d, .call { callee := .builtin b, args := as, argTypes := A }, t, pos, af, g⟩).run P w = .ok (.value v) w' := by
  show (builtin b A t (as.map fun | .const _ => true | _ => false) (as.map ρ)).run P w = _
  rw [hb]; simp [hs]
theorem Y_slen (hT : P.underlying T = some .string) (hx : ev e x = some (str l)) : Yld P n e h ⟨d, .call { callee := .builtin .len, args := #[x], argTypes := #[T] }, t, pos, af, g⟩ (.int .i64 (l.length : Int)) := fun w a _ he => by
  have hs : (⟨l.toArray⟩ : ByteArray).size = l.length := by simp [ByteArray.size]
  refine run_blt rfl ?_
  have := run_len_string (P := P) (w := w) T t ⟨l.toArray⟩ hT
  rw [hs] at this
  simpa [he.eval hx, goInt] using this
theorem Y_sindex {k : IntKind} {p : Int} (hT : P.underlying T = some .string) (hx : ev e x = some (str l)) (hy : ev e y = some (.int k p)) (h0 : 0 ≤ p) (h1 : p < l.length) : Yld P n e h ⟨d, .index T x y, t, pos, af, g⟩ (bv (l[p.toNat]'(by omega))) := fun w a _ he => by
  have hi : p.toNat < l.length := by omega
  have hs : (⟨l.toArray⟩ : ByteArray).size = l.length := by simp [ByteArray.size]
  have h3 : (⟨l.toArray⟩ : ByteArray)[p.toNat]? = some (l[p.toNat]) := by
    rw [ByteArray.getElem?_lt' _ _ (by rw [hs]; exact hi)]
    rfl
  simp only [execOp, he.eval hx, he.eval hy, Instr.index, asIntOf, Sem.run_bind, Sem.run_pure, Result.andThen_ok, run_underlying hT, if_pos h0, h3]
/-- 's[lo:hi]', either bound open. -/
theorem extract_list (l : List UInt8) (a b : Nat) : (⟨l.toArray⟩ : ByteArray).extract a b = ⟨((l.take b).drop a).toArray⟩ := by
  rw [ByteArray.extract_mk, List.drop_take]
theorem Y_sslice_l {lo : Operand} {k : IntKind} {p : Int} (hT : P.underlying T = some .string) (hx : ev e x = some (str l)) (hl : ev e lo = some (.int k p)) (h0 : 0 ≤ p) (h1 : p ≤ l.length) :
    Yld P n e h ⟨d, .slice T x (some lo) none none, t, pos, af, g⟩ (str (l.drop p.toNat)) := fun w a _ he => by
  have hs : (⟨l.toArray⟩ : ByteArray).size = l.length := by simp [ByteArray.size]
  have e2 : 0 ≤ p ∧ p ≤ ((l.length : Nat) : Int) := ⟨h0, h1⟩
  have e3 : l.take l.length = l := List.take_length
  simp only [execOp, he.eval hx, Option.map, he.eval hl, run_sliceAt_string w T _ _ _ _ hT, Instr.slice, Instr.sliceBounds, Instr.sliceBound, asIntOf, hs, extract_list, Sem.run_bind, Sem.run_pure, Result.andThen_ok, run_underlying hT, Sem.run_ite, if_pos e2, e3, Option.isSome, Bool.false_eq_true, if_false]
theorem Y_sslice_h {hi : Operand} {k' : IntKind} {q : Int} (hT : P.underlying T = some .string) (hx : ev e x = some (str l)) (hh : ev e hi = some (.int k' q)) (h0 : 0 ≤ q) (h2 : q ≤ l.length) :
    Yld P n e h ⟨d, .slice T x none (some hi) none, t, pos, af, g⟩ (str (l.take q.toNat)) := fun w a _ he => by
  have hs : (⟨l.toArray⟩ : ByteArray).size = l.length := by simp [ByteArray.size]
  have e1 : 0 ≤ q ∧ q ≤ ((l.length : Nat) : Int) := ⟨h0, h2⟩
  simp only [execOp, he.eval hx, Option.map, he.eval hh, run_sliceAt_string w T _ _ _ _ hT, Instr.slice, Instr.sliceBounds, Instr.sliceBound, asIntOf, hs, extract_list, Sem.run_bind, Sem.run_pure, Result.andThen_ok, run_underlying hT, Sem.run_ite, if_pos e1, List.drop_zero, Option.isSome, Bool.false_eq_true, if_false]
end
end
section
variable {σ : Std} {P : Program} {n : Nat} {Q : Exit → Act → World → Prop} {e : Env} {h : Heap} {ops : Array Oper} {rest : List Oper}
variable {dt : Option Tmp} {t : TypeId} {pos : String} {af : Array Edge} {g : Option (Nat × Bool)} {x : Operand} {v : Value} {d : Nat}
/-- A move, as a step of a region. -/
theorem Lm (hx : ev e x = some v) (hd : (⟨dt, .move x, t, pos, af, g⟩ : Oper).dst = some d) (hn : Nat.blt d n = true) (hg : gd ops e (⟨dt, .move x, t, pos, af, g⟩ : Oper).guard = some true) (k : L σ P ops n Q rest ((d, v) :: e) h) : L σ P ops n Q (⟨dt, .move x, t, pos, af, g⟩ :: rest) e h := L_yld (Y_move hx) hd hn hg k
/-- An assignment, as a step of a region. -/
theorem La (hx : ev e x = some v) (hd : (⟨dt, .assign x, t, pos, af, g⟩ : Oper).dst = some d) (hn : Nat.blt d n = true) (hg : gd ops e (⟨dt, .assign x, t, pos, af, g⟩ : Oper).guard = some true) (k : L σ P ops n Q rest ((d, v) :: e) h) : L σ P ops n Q (⟨dt, .assign x, t, pos, af, g⟩ :: rest) e h := L_yld (Y_assign hx) hd hn hg k
/-- Steps whose side conditions close themselves. -/
theorem Mv (k : L σ P ops n Q rest ((d, v) :: e) h) (hx : ev e x = some v := by exact rfl) (hd : (⟨dt, .move x, t, pos, af, g⟩ : Oper).dst = some d := by exact rfl) (hn : Nat.blt d n = true := by exact rfl) (hg : gd ops e (⟨dt, .move x, t, pos, af, g⟩ : Oper).guard = some true := by exact rfl) : L σ P ops n Q (⟨dt, .move x, t, pos, af, g⟩ :: rest) e h := Lm hx hd hn hg k
theorem Av (k : L σ P ops n Q rest ((d, v) :: e) h) (hx : ev e x = some v := by exact rfl) (hd : (⟨dt, .assign x, t, pos, af, g⟩ : Oper).dst = some d := by exact rfl) (hn : Nat.blt d n = true := by exact rfl) (hg : gd ops e (⟨dt, .assign x, t, pos, af, g⟩ : Oper).guard = some true := by exact rfl) : L σ P ops n Q (⟨dt, .assign x, t, pos, af, g⟩ :: rest) e h := La hx hd hn hg k
theorem Ly {o : Oper} (hy : Yld P n e h o v) (k : L σ P ops n Q rest ((d, v) :: e) h) (hd : o.dst = some d := by exact rfl) (hn : Nat.blt d n = true := by exact rfl) (hg : gd ops e o.guard = some true := by exact rfl) : L σ P ops n Q (o :: rest) e h := L_yld hy hd hn hg k
theorem Skp {o : Oper} (k : L σ P ops n Q rest ((d, undef) :: e) h) (hd : o.dst = some d := by exact rfl) (hn : Nat.blt d n = true := by exact rfl) (hg : gd ops e o.guard = some false := by exact rfl) : L σ P ops n Q (o :: rest) e h := L_skip hd hn hg k
theorem Nx {y : Code} (k : W σ P n y Q e h) : L σ P ops n (Exit.then (y.wp P Q) Q) [] e h := L_nil (X_then k)
theorem Wr {id : Nat} {l : List Oper} {y : Code} (k : L σ P l.toArray n (Exit.then (y.wp P Q) Q) l e h) : W σ P n (.seq (.region id l.toArray false) y) Q e h := W_seq (W_region k)
theorem Ws {y : Code} (k : W σ P n y Q e h) : W σ P n .skip (Exit.then (y.wp P Q) Q) e h := W_skip (X_then k)
end
/-- What a truth value with known parts comes to. -/
theorem SB : (∀ p : Prop, (True ∧ p) = p) ∧ (∀ p : Prop, (p ∧ True) = p) ∧ (∀ p : Prop, (False ∧ p) = False) ∧ (∀ p : Prop, (p ∧ False) = False) ∧ (∀ p : Prop, (True ∨ p) = True) ∧ (∀ p : Prop, (p ∨ True) = True) ∧ (∀ p : Prop, (False ∨ p) = p) ∧ (∀ p : Prop, (p ∨ False) = p) ∧ ((¬ True) = False) ∧ ((¬ False) = True) ∧ (∀ q : Decidable True, @decide True q = true) ∧ (∀ q : Decidable False, @decide False q = false) ∧ ((true = false) = False) ∧ ((false = true) = False) ∧ (∀ (α : Type) (a : α), (a = a) = True) ∧ (∀ (b : Bool) (q : Decidable (b = true)), @decide (b = true) q = b) :=
  ⟨by simp, by simp, by simp, by simp, by simp, by simp, by simp, by simp, by simp, by simp, by simp, by simp, by simp, by simp, by simp, fun b q => by cases b <;> simp⟩
end Go.Xp

/- Memory for the walks: cells of a heap, blocks known whole, rows of cells behind a slice; what the loading, storing and making operations do to them. -/
set_option linter.unusedSimpArgs false
set_option linter.unusedVariables false
namespace Go.Xp

/-! ### Heaps -/
def cellAt (h : Heap) (b o : Nat) : Option Value := match h[b]? with
  | some (.cells c _ _) => c[o]?
  | _ => none
theorem cell?_cellAt (w : World) (b o : Nat) : w.cell? ⟨b, o, none⟩ = cellAt w.heap b o := by
  unfold World.cell? cellAt
  cases hb : w.heap[b]? with
  | none => rfl
  | some x => cases x <;> rfl

/-- 'h'' is 'h' with new blocks, and with changes in the blocks 'bs' alone. -/
structure Only (bs : List Nat) (h h' : Heap) : Prop where
  size : h.size ≤ h'.size
  same : ∀ k, k < h.size → k ∉ bs → h'[k]? = h[k]?
abbrev Ext (h h' : Heap) : Prop := Only [] h h'
theorem Only.refl (bs : List Nat) (h : Heap) : Only bs h h := ⟨Nat.le_refl _, fun _ _ _ => rfl⟩
theorem Ext.refl (h : Heap) : Ext h h := Only.refl [] h
theorem Only.trans {bs cs : List Nat} {h h' h'' : Heap} (x : Only bs h h') (y : Only cs h' h'') (hc : ∀ b ∈ cs, b ∈ bs ∨ h.size ≤ b) : Only bs h h'' :=
  ⟨Nat.le_trans x.size y.size, fun k hk hb => (y.same k (Nat.lt_of_lt_of_le hk x.size) (fun hm => (hc k hm).elim hb (fun hh => absurd hk (by omega)))).trans (x.same k hk hb)⟩
theorem Ext.trans {h h' h'' : Heap} (x : Ext h h') (y : Ext h' h'') : Ext h h'' := Only.trans x y (fun _ hb => by cases hb)
theorem Only.mono {bs cs : List Nat} {h h' : Heap} (x : Only bs h h') (hc : ∀ b ∈ bs, b ∈ cs) : Only cs h h' := ⟨x.size, fun k hk hb => x.same k hk (fun hm => hb (hc k hm))⟩
/-- What is written lies in blocks that are newer than 'h'. -/
theorem Ext.then {bs : List Nat} {h h' h'' : Heap} (x : Ext h h') (y : Only bs h' h'') (hb : ∀ b ∈ bs, h.size ≤ b) : Ext h h'' := Only.trans x y (fun b hm => .inr (hb b hm))
theorem Only.cellAt {bs : List Nat} {h h' : Heap} (x : Only bs h h') {b o : Nat} (hb : b < h.size) (hn : b ∉ bs) : cellAt h' b o = cellAt h b o := by
  unfold Go.Xp.cellAt; rw [x.same b hb hn]
theorem cellAt_lt {h : Heap} {b o : Nat} {v : Value} (hc : cellAt h b o = some v) : b < h.size := by
  unfold cellAt at hc
  cases hb : h[b]? with
  | none => rw [hb] at hc; cases hc
  | some x => exact (Array.getElem?_eq_some_iff.1 hb).1

/-- Block 'b' holds just these cells, and they may be written. -/
def Blk (h : Heap) (b : Nat) (vs : List Value) : Prop := ∃ T lo hi, h[b]? = some (.cells vs.toArray T (lo, hi)) ∧ ∀ i, i < vs.length → ¬ (lo ≤ i ∧ i < hi)
theorem Blk.lt {h : Heap} {b : Nat} {vs : List Value} (x : Blk h b vs) : b < h.size := by
  obtain ⟨T, lo, hi, h1, _⟩ := x
  exact (Array.getElem?_eq_some_iff.1 h1).1
theorem Blk.cell {h : Heap} {b : Nat} {vs : List Value} (x : Blk h b vs) (o : Nat) : cellAt h b o = vs[o]? := by
  obtain ⟨T, lo, hi, h1, _⟩ := x
  unfold cellAt; rw [h1]; simp
theorem Blk.only {bs : List Nat} {h h' : Heap} {b : Nat} {vs : List Value} (x : Blk h b vs) (y : Only bs h h') (hn : b ∉ bs) : Blk h' b vs := by
  have := x.lt
  obtain ⟨T, lo, hi, h1, h2⟩ := x
  exact ⟨T, lo, hi, (y.same b this hn).trans h1, h2⟩
theorem Blk.ext {h h' : Heap} {b : Nat} {vs : List Value} (x : Blk h b vs) (y : Ext h h') : Blk h' b vs := x.only y (by simp)
theorem Blk.inj {h : Heap} {b : Nat} {vs us : List Value} (x : Blk h b vs) (y : Blk h b us) : vs = us := by
  obtain ⟨T, lo, hi, h1, _⟩ := x
  obtain ⟨T', lo', hi', h1', _⟩ := y
  rw [h1] at h1'
  simp only [Option.some.injEq, Obj.cells.injEq] at h1'
  simpa using h1'.1

/-- The slice 'v' of 'n' elements, 'z' cells each, reads as the cells 'cs'. -/
structure Row (h : Heap) (z : Nat) (v : Value) (n : Nat) (cs : List Value) : Prop where
  ex : ∃ a cap, v = .slice a n cap ∧ n ≤ cap ∧ (a = none → cap = 0) ∧ ∀ ad, a = some ad → (0 < n → ad.spot = none ∧ ad.block < h.size) ∧ ∀ i u, cs[i]? = some u → cellAt h ad.block (ad.off + i) = some u
  len : cs.length = n * z
/-- The block behind a slice. -/
def blockOf : Value → Option Nat
  | .slice (some a) _ _ => some a.block
  | _ => none
theorem Row.only {bs : List Nat} {h h' : Heap} {z n : Nat} {v : Value} {cs : List Value} (x : Row h z v n cs) (y : Only bs h h') (hb : ∀ b, blockOf v = some b → b ∉ bs) : Row h' z v n cs := by
  obtain ⟨⟨a, cap, rfl, h1, h2, h3⟩, h4⟩ := x
  refine ⟨⟨a, cap, rfl, h1, h2, fun ad ha => ?_⟩, h4⟩
  obtain ⟨k1, k3⟩ := h3 ad ha
  subst ha
  exact ⟨fun hn => ⟨(k1 hn).1, Nat.lt_of_lt_of_le (k1 hn).2 y.size⟩, fun i u hi => by rw [y.cellAt (cellAt_lt (k3 i u hi)) (hb _ rfl)]; exact k3 i u hi⟩
theorem Row.ext {h h' : Heap} {z n : Nat} {v : Value} {cs : List Value} (x : Row h z v n cs) (y : Ext h h') : Row h' z v n cs := x.only y (by simp)
theorem Row.nil (h : Heap) (z : Nat) : Row h z (.slice none 0 0) 0 [] := ⟨⟨none, 0, rfl, Nat.le_refl _, fun _ => rfl, fun _ h => by cases h⟩, by simp⟩
theorem Row.of_blk {h : Heap} {z b n cap : Nat} {vs cs : List Value} (x : Blk h b vs) (hn : n ≤ cap) (hc : cs.length = n * z) (hp : ∀ (i : Nat) (u : Value), cs[i]? = some u → vs[i]? = some u) : Row h z (.slice (some ⟨b, 0, none⟩) n cap) n cs :=
  by
  refine ⟨⟨_, _, rfl, hn, ?_, ?_⟩, hc⟩
  · intro h; cases h
  · intro ad ha; cases ha
    exact ⟨fun _ => ⟨rfl, x.lt⟩, fun i u hi => by rw [x.cell]; simpa using hp i u hi⟩
/-- The address of cell 'k' behind a slice. -/
def elemAddr (v : Value) (k : Nat) : Addr := match v with
  | .slice (some ad) _ _ => ⟨ad.block, ad.off + k, none⟩
  | _ => ⟨0, 0, none⟩
theorem Row.at {h : Heap} {z n : Nat} {v : Value} {cs : List Value} (x : Row h z v n cs) {k : Nat} {u : Value} (hk : cs[k]? = some u) : (elemAddr v k).spot = none ∧ cellAt h (elemAddr v k).block (elemAddr v k).off = some u := by
  obtain ⟨⟨a, cap, rfl, h1, h2, h3⟩, h4⟩ := x
  have hlt : k < cs.length := (List.getElem?_eq_some_iff.1 hk).1
  cases a with
  | none =>
    have : n = 0 := by have := h2 rfl; omega
    subst this
    simp at h4; subst h4; simp at hlt
  | some ad =>
    exact ⟨rfl, (h3 ad rfl).2 k u hk⟩
/-- The part '[lo:hi]' of a slice, as the machine makes it. -/
def slcut (z lo hi : Nat) : Value → Value
  | .slice a _ cap => .slice (if cap = lo then a else a.map (·.add (lo * z))) (hi - lo) (cap - lo)
  | v => v
theorem Row.cut {h : Heap} {z n : Nat} {v : Value} {cs : List Value} (x : Row h z v n cs) {lo hi : Nat} (h1 : lo ≤ hi) (h2 : hi ≤ n) : Row h z (slcut z lo hi v) (hi - lo) ((cs.take (hi * z)).drop (lo * z)) := by
  obtain ⟨⟨a, cap, rfl, k1, k2, k3⟩, k4⟩ := x
  have hm : hi * z ≤ n * z := Nat.mul_le_mul_right z h2
  refine ⟨⟨_, _, rfl, by omega, fun ha => ?_, fun ad ha => ?_⟩, by rw [List.length_drop, List.length_take, k4, Nat.min_eq_left hm, Nat.sub_mul]⟩
  · split at ha
    · omega
    · cases a with
      | none => have := k2 rfl; omega
      | some ad => cases ha
  · split at ha
    · subst ha
      obtain ⟨j1, j3⟩ := k3 ad rfl
      refine ⟨fun h0 => j1 (by omega), fun i u hi' => ?_⟩
      have hl : lo = hi := by omega
      subst hl
      rw [List.drop_eq_nil_of_le (by simp; omega)] at hi'
      cases hi'
    · cases a with
      | none => cases ha
      | some a0 =>
        obtain ⟨j1, j3⟩ := k3 a0 rfl
        have e1 : a0.add (lo * z) = ad := by simpa using ha
        have hb : ad.block = a0.block := by rw [← e1]; unfold Addr.add; split <;> rfl
        have ho : ad.off = a0.off + lo * z := by rw [← e1]; unfold Addr.add; split <;> simp_all
        refine ⟨fun h0 => ⟨by rw [← e1]; unfold Addr.add; split; exact (j1 (by omega)).1; rfl, by rw [hb]; exact (j1 (by omega)).2⟩, fun i u hi' => ?_⟩
        rw [hb, ho]
        have := j3 (lo * z + i) u (by
          rw [List.getElem?_drop] at hi'
          rw [List.getElem?_take] at hi'
          split at hi'
          · exact hi'
          · cases hi')
        rwa [Nat.add_assoc]

/-- A slice of bytes. -/
def Bytes (h : Heap) (v : Value) (l : List UInt8) : Prop := Row h 1 v l.length (l.map bv)
theorem Bytes.ext {h h' : Heap} {v : Value} {l : List UInt8} (x : Bytes h v l) (y : Ext h h') : Bytes h' v l := Row.ext x y
theorem Bytes.only {bs : List Nat} {h h' : Heap} {v : Value} {l : List UInt8} (x : Bytes h v l) (y : Only bs h h') (hb : ∀ b, blockOf v = some b → b ∉ bs) : Bytes h' v l := Row.only x y hb
theorem Bytes.nil (h : Heap) : Bytes h (.slice none 0 0) [] := Row.nil h 1
theorem Bytes.cut {h : Heap} {v : Value} {l : List UInt8} (x : Bytes h v l) {lo hi : Nat} (h1 : lo ≤ hi) (h2 : hi ≤ l.length) : Bytes h (slcut 1 lo hi v) ((l.take hi).drop lo) := by
  have := Row.cut x h1 h2
  unfold Bytes
  rw [List.length_drop, List.length_take, Nat.min_eq_left h2]
  simpa [List.map_drop, List.map_take] using this

/-! ### Operations -/
def isAggD : TypeDesc → Bool
  | .struct _ | .array _ _ => true
  | _ => false
theorem run_isAgg {P : Program} {T : TypeId} {D : TypeDesc} (w : World) (hT : P.underlying T = some D) : (isAgg T).run P w = .ok (isAggD D) w := by
  unfold isAgg
  rw [Sem.run_bind, run_underlying hT, Result.andThen_ok]
  cases D <;> rfl
theorem run_sizeOf {P : Program} {T : TypeId} {z : Nat} (w : World) (hz : (P.info? T).map (·.size) = some z) : (sizeOf T).run P w = .ok z w := by
  cases hi : P.info? T with
  | none => rw [hi] at hz; cases hz
  | some i =>
    rw [hi] at hz
    simp only [Option.map_some, Option.some.injEq] at hz
    simp [sizeOf, typeInfo, hi, hz]

section
variable {σ : Std} {P : Program} {n : Nat} {Q : Exit → Act → World → Prop} {e : Env} {h : Heap} {ops : Array Oper} {rest : List Oper}
variable {d : Option Tmp} {t : TypeId} {pos : String} {af : Array Edge} {g : Option (Nat × Bool)}
variable {T T' E : TypeId} {x y : Operand} {v : Value} {z : Nat} {cs : List Value} {m : Nat}

theorem elem_underlying {T E : TypeId} (hT : P.underlying T = some (.slice E)) : P.underlying T = some (.slice (P.elem T)) := by
  rw [hT]; simp [Program.elem, hT]

/-- 'len(x)' of a slice. -/
theorem Y_len (hT : P.underlying T = some (.slice E)) (hx : ev e x = some v) (hr : Row h z v m cs) : Yld P n e h ⟨d, .call { callee := .builtin .len, args := #[x], argTypes := #[T] }, t, pos, af, g⟩ (.int .i64 (m : Int)) := fun w a _ he => by
  obtain ⟨⟨a0, cap, rfl, _⟩, _⟩ := hr
  refine run_blt rfl ?_
  simp [he.eval hx, Builtin.len_, run_underlying hT, goInt]
/-- '&x[i]'. -/
theorem Y_idx {k : IntKind} {p : Int} (hT : P.underlying T = some (.slice E)) (hE : (P.info? E).map (·.size) = some z) (hx : ev e x = some v) (hy : ev e y = some (.int k p)) (hr : Row h z v m cs) (h0 : 0 ≤ p) (h1 : p < m) :
    Yld P n e h ⟨d, .indexAddr T x y, t, pos, af, g⟩ (.pointer (some (elemAddr v (p.toNat * z)))) := fun w a _ he => by
  obtain ⟨⟨a0, cap, rfl, k1, k2, k3⟩, _⟩ := hr
  cases a0 with
  | none => have := k2 rfl; omega
  | some ad =>
    obtain ⟨j1, -⟩ := k3 ad rfl
    obtain ⟨j1, -⟩ := j1 (by omega)
    have e1 : ad.add (p.toNat * z) = elemAddr (.slice (some ad) m cap) (p.toNat * z) := by
      unfold Addr.add elemAddr
      split
      · rename_i h'; cases ad; simp_all
      · cases ad; simp_all
    have e2 : 0 ≤ p ∧ p < ((m : Nat) : Int) := ⟨h0, h1⟩
    simp only [execOp, he.eval hx, he.eval hy, Instr.indexAt, asIntOf, Sem.run_bind, Sem.run_pure, Result.andThen_ok, run_underlying hT, run_sizeOf w hE, Sem.run_ite, if_pos e2, e1]
/-- The load of one cell. -/
theorem Y_ld {D : TypeDesc} {ad : Addr} {u : Value} (hT : P.underlying T = some D) (hD : isAggD D = false) (hx : ev e x = some (.pointer (some ad))) (hs : ad.spot = none) (hc : cellAt h ad.block ad.off = some u) :
    Yld P n e h ⟨d, .load T x, t, pos, af, g⟩ u := fun w a hh he => by
  obtain ⟨b, o, sp⟩ := ad
  simp only at hs hc
  subst hs
  have hc' : w.cell? ⟨b, o, none⟩ = some u := by rw [cell?_cellAt, hh]; exact hc
  simp [execOp, he.eval hx, Instr.loadAt, Instr.sureAddr, loadVar, run_isAgg w hT, hD, hc']
theorem Y_ldrow {D : TypeDesc} {u : Value} {k : Nat} (hT : P.underlying T = some D) (hD : isAggD D = false) (hx : ev e x = some (.pointer (some (elemAddr v k)))) (hr : Row h z v m cs) (hk : cs[k]? = some u) :
    Yld P n e h ⟨d, .load T x, t, pos, af, g⟩ u := Y_ld hT hD hx (hr.at hk).1 (hr.at hk).2
theorem Y_ldblk {D : TypeDesc} {u : Value} {b o : Nat} {vs : List Value} (hT : P.underlying T = some D) (hD : isAggD D = false) (hx : ev e x = some (.pointer (some ⟨b, o, none⟩))) (hb : Blk h b vs) (hk : vs[o]? = some u) :
    Yld P n e h ⟨d, .load T x, t, pos, af, g⟩ u := Y_ld hT hD hx rfl (by rw [hb.cell]; exact hk)
/-- The load of a struct or an array. -/
theorem Y_ldagg {D : TypeDesc} {ad : Addr} {us : List Value} (hT : P.underlying T = some D) (hD : isAggD D = true) (hz : (P.info? T).map (·.size) = some us.length) (hx : ev e x = some (.pointer (some ad))) (hs : ad.spot = none)
    (hc : ∀ i u, us[i]? = some u → cellAt h ad.block (ad.off + i) = some u) : Yld P n e h ⟨d, .load T x, t, pos, af, g⟩ (.agg us.toArray) := fun w a hh he => by
  obtain ⟨b, o, sp⟩ := ad
  simp only at hs hc
  subst hs
  have hc' : ∀ j v, us[j]? = some v → w.cell? ((⟨b, o, none⟩ : Addr).add j) = some v := fun j v hj => by
    have : (⟨b, o, none⟩ : Addr).add j = ⟨b, o + j, none⟩ := by unfold Addr.add; split <;> simp_all
    rw [this, cell?_cellAt, hh]; exact hc j v hj
  have := run_loadCells_list (P := P) (w := w) ⟨b, o, none⟩ us hc'
  simp [execOp, he.eval hx, Instr.loadAt, Instr.sureAddr, loadVar, run_isAgg w hT, hD, run_sizeOf w hz, this]
/-- The number of cells before field 'f' of struct type 'S' (a field that takes room). -/
def fld (P : Program) (S f : Nat) : Option Nat := match P.underlying S with
  | some (.struct fs) => match fs[f]? with
    | some fd => match P.info? fd.type with
      | some i => if i.size = 0 then none else some fd.offset
      | none => none
    | none => none
  | _ => none
theorem Y_fieldAddr {S f off : Nat} {ad : Addr} (hf : fld P S f = some off) (hx : ev e x = some (.pointer (some ad))) (hs : ad.spot = none) : Yld P n e h ⟨d, .fieldAddr S x f, t, pos, af, g⟩ (.pointer (some ⟨ad.block, ad.off + off, none⟩)) := fun w a _ he => by
  unfold fld at hf
  cases hS : P.underlying S with
  | none => rw [hS] at hf; cases hf
  | some D =>
    rw [hS] at hf
    cases D with
    | struct fs =>
      simp only at hf
      cases hfd : fs[f]? with
      | none => rw [hfd] at hf; cases hf
      | some fd =>
        rw [hfd] at hf
        simp only at hf
        cases hi : P.info? fd.type with
        | none => rw [hi] at hf; cases hf
        | some i =>
          rw [hi] at hf
          simp only at hf
          split at hf
          · cases hf
          · rename_i hz
            simp only [Option.some.injEq] at hf
            subst hf
            have e1 : ad.add fd.offset = ⟨ad.block, ad.off + fd.offset, none⟩ := by
              unfold Addr.add
              split
              · rename_i h'; cases ad; simp_all
              · cases ad; simp_all
            simp [execOp, he.eval hx, Instr.fieldAt, run_underlying hS, hfd, Instr.sureAddr, fieldPlace, run_sizeOf w (show (P.info? fd.type).map (·.size) = some i.size by rw [hi]; rfl), hz, e1]
    | _ => simp at hf
/-- 'x[lo:hi]' of a slice. -/
theorem Y_cut {lo hi : Operand} {k k' : IntKind} {p q : Int} (hT : P.underlying T = some (.slice E)) (hE : (P.info? E).map (·.size) = some z) (hx : ev e x = some v) (hr : Row h z v m cs) (hl : ev e lo = some (.int k p)) (hh : ev e hi = some (.int k' q)) (h0 : 0 ≤ p) (h1 : p ≤ q) (h2 : q ≤ m) :
    Yld P n e h ⟨d, .slice T x (some lo) (some hi) none, t, pos, af, g⟩ (slcut z p.toNat q.toNat v) := fun w a _ he => by
  obtain ⟨⟨a0, cap, rfl, k1, k2, k3⟩, _⟩ := hr
  have e1 : 0 ≤ q ∧ q ≤ ((cap : Nat) : Int) := ⟨by omega, by omega⟩
  have e2 : 0 ≤ p ∧ p ≤ ((q.toNat : Nat) : Int) := ⟨h0, by omega⟩
  simp only [execOp, he.eval hx, Option.map, he.eval hl, he.eval hh, run_sliceAt_slice w T _ _ _ _ (elem_underlying hT), Instr.slice, Instr.sliceBounds, Instr.sliceBound, asIntOf, Sem.run_bind, Sem.run_pure, Result.andThen_ok, run_underlying hT, Sem.run_ite, if_pos e1, if_pos e2, run_sizeOf w hE, Option.isSome, Bool.false_eq_true, if_false, if_true]
  rfl
theorem Y_cut_h {hi : Operand} {k' : IntKind} {q : Int} (hT : P.underlying T = some (.slice E)) (hE : (P.info? E).map (·.size) = some z) (hx : ev e x = some v) (hr : Row h z v m cs) (hh : ev e hi = some (.int k' q)) (h1 : 0 ≤ q) (h2 : q ≤ m) :
    Yld P n e h ⟨d, .slice T x none (some hi) none, t, pos, af, g⟩ (slcut z 0 q.toNat v) := fun w a _ he => by
  obtain ⟨⟨a0, cap, rfl, k1, k2, k3⟩, _⟩ := hr
  have e1 : 0 ≤ q ∧ q ≤ ((cap : Nat) : Int) := ⟨by omega, by omega⟩
  simp only [execOp, he.eval hx, Option.map, he.eval hh, run_sliceAt_slice w T _ _ _ _ (elem_underlying hT), Instr.slice, Instr.sliceBounds, Instr.sliceBound, asIntOf, Sem.run_bind, Sem.run_pure, Result.andThen_ok, run_underlying hT, Sem.run_ite, if_pos e1, run_sizeOf w hE, Option.isSome, Bool.false_eq_true, if_false, if_true]
  rfl
end
end Go.Xp

/- Calls, and the operations that make or write memory, for the walks. -/
set_option linter.unusedSimpArgs false
set_option linter.unusedVariables false
namespace Go.Xp

/-! ### Calls -/
def evs (e : Env) : List Operand → Option (List Value)
  | [] => some []
  | x :: xs => match ev e x, evs e xs with
    | some v, some vs => some (v :: vs)
    | _, _ => none
theorem evs_map {n : Nat} {e : Env} {a : Act} (he : EOk n e a) : ∀ (l : List Operand) (vs : List Value), evs e l = some vs → l.map a.eval = vs
  | [], vs, h => by simp [evs] at h; subst h; rfl
  | x :: xs, vs, h => by
    simp only [evs] at h
    cases hx : ev e x with
    | none => rw [hx] at h; cases h
    | some v =>
      rw [hx] at h
      cases hxs : evs e xs with
      | none => rw [hxs] at h; cases h
      | some us =>
        rw [hxs] at h
        simp only [Option.some.injEq] at h
        rw [← h, List.map_cons, he.eval hx, evs_map he xs us hxs]
/-- Function 'f' has a text of its own. -/
def entr (P : Program) (f : FuncId) : Bool := match P.funcs[f]? with
  | some fn => !(fn.name == "runtime.NumGoroutine") && fn.body.isSome
  | none => false
theorem run_enter {P : Program} {f : FuncId} (hf : entr P f = true) (args : Array Value) (w : World) : (callFunc f args).run P w = .ok (.enter f args) w := by
  unfold entr at hf
  cases hfn : P.funcs[f]? with
  | none => rw [hfn] at hf; cases hf
  | some fn =>
    rw [hfn] at hf
    simp only [Bool.and_eq_true, Bool.not_eq_true'] at hf
    obtain ⟨h1, h2⟩ := hf
    have h3 : fn.body.isNone = false := by cases hb : fn.body <;> simp_all
    simp only [callFunc, program, Sem.run_bind]
    simp only [Sem.run, Result.andThen_ok, hfn, h1, h3, Bool.false_eq_true, if_false, Sem.run_pure]

section
variable {σ : Std} {P : Program} {n : Nat} {Q : Exit → Act → World → Prop} {e : Env} {h : Heap} {ops : Array Oper} {rest : List Oper}
variable {d : Option Tmp} {t : TypeId} {pos : String} {af : Array Edge} {g : Option (Nat × Bool)}
variable {T T' E : TypeId} {x y : Operand} {v : Value} {z : Nat} {cs : List Value} {m : Nat}

theorem E_call {f : FuncId} {as : List Operand} {A : Array TypeId} {vs : List Value} (hf : entr P f = true) (ha : evs e as = some vs) : Ent P n e h ⟨d, .call { callee := .value (.func f), args := as.toArray, argTypes := A }, t, pos, af, g⟩ f vs.toArray := fun w a _ he => by
  have h1 : as.toArray.map a.eval = vs.toArray := by rw [List.map_toArray, evs_map he as vs ha]
  have h2 : (execOp a.eval ⟨d, .call { callee := .value (.func f), args := as.toArray, argTypes := A }, t, pos, af, g⟩ : Sem Next) = callFunc f ((#[] ++ as.toArray.map a.eval) ++ #[]) := rfl
  rw [h2, h1, Array.append_empty, Array.empty_append]
  exact run_enter hf _ w
/-- The call of a function value. -/
theorem E_callv {f : FuncId} {as : List Operand} {A : Array TypeId} {vs fs cs : List Value} (hf : entr P f = true) (hx : ev e x = some (.func (.func f) fs.toArray cs.toArray)) (ha : evs e as = some vs) : Ent P n e h ⟨d, .call { callee := .value x, args := as.toArray, argTypes := A }, t, pos, af, g⟩ f (fs ++ vs ++ cs).toArray := fun w a _ he => by
  have h1 : as.toArray.map a.eval = vs.toArray := by rw [List.map_toArray, evs_map he as vs ha]
  have h2 : (execOp a.eval ⟨d, .call { callee := .value x, args := as.toArray, argTypes := A }, t, pos, af, g⟩ : Sem Next) = (do let dd ← Deferred.ofValue (a.eval x) (as.toArray.map a.eval); invoke dd.target dd.args) := rfl
  rw [h2, h1, he.eval hx]
  have h3 : (do let dd ← Deferred.ofValue (.func (.func f) fs.toArray cs.toArray) vs.toArray; invoke dd.target dd.args) = callFunc f ((fs.toArray ++ vs.toArray) ++ cs.toArray) := rfl
  rw [h3, run_enter hf]
  simp

/-! ### New variables -/
theorem heap_push (h : Heap) (o : Obj) : Ext h (h.push o) ∧ (h.push o).size = h.size + 1 ∧ (h.push o)[h.size]? = some o := by
  refine ⟨⟨by simp, fun k hk _ => ?_⟩, by simp, by simp⟩
  rw [Array.getElem?_push, if_neg (by omega)]
/-- What is known behind a new block of cells. -/
structure New (h h' : Heap) (cs : List Value) : Prop where
  ext : Ext h h'
  size : h'.size = h.size + 1
  blk : Blk h' h.size cs
theorem new_push (h : Heap) (cs : List Value) (T : TypeId) : New h (h.push (.cells cs.toArray T)) cs := by
  obtain ⟨h1, h2, h3⟩ := heap_push h (.cells cs.toArray T)
  exact ⟨h1, h2, T, 0, 0, h3, fun i _ => by omega⟩
theorem run_newRow {P : Program} (w : World) (E : TypeId) (cs : Array Value) : (newRow E cs).run P w = .ok ⟨w.heap.size, 0, none⟩ { w with heap := w.heap.push (.cells cs E) } := by
  simp [newRow, newObj, Sem.run]
theorem M_box (hx : ev e x = some v) : Mks P n e h ⟨d, .box T x, t, pos, af, g⟩ (fun u h' => u = .pointer (some ⟨h.size, 0, none⟩) ∧ New h h' v.cells.toList) := fun w a hh he => by
  subst hh
  refine ⟨_, { w with heap := w.heap.push (.cells v.cells T) }, ?_, rfl, rfl, ?_⟩
  · simp [execOp, he.eval hx, Instr.box, newVar, run_newRow]
  · have := new_push w.heap v.cells.toList T
    simpa using this
theorem M_alloc {u : Value} (hz : (P.info? T).bind (·.zero) = some u) : Mks P n e h ⟨d, .alloc T, t, pos, af, g⟩ (fun v' h' => v' = .pointer (some ⟨h.size, 0, none⟩) ∧ New h h' u.cells.toList) := fun w a hh he => by
  subst hh
  refine ⟨_, { w with heap := w.heap.push (.cells u.cells T) }, ?_, rfl, rfl, ?_⟩
  · cases hi : P.info? T with
    | none => rw [hi] at hz; cases hz
    | some i =>
      rw [hi] at hz
      simp only [Option.bind_some] at hz
      simp [execOp, Instr.alloc, zeroValue, typeInfo, hi, hz, newVar, run_newRow]
  · have := new_push w.heap u.cells.toList T
    simpa using this

/-! ### Stores -/
/-- Behind a write into block 'b'. -/
structure Put (h h' : Heap) (b : Nat) (cs : List Value) : Prop where
  only : Only [b] h h'
  size : h'.size = h.size
  blk : Blk h' b cs
theorem put_setCell {w : World} {b o : Nat} {vs : List Value} {u : Value} (x : Blk w.heap b vs) (ho : o < vs.length) : (w.frozen? ⟨b, o, none⟩ = false) ∧ Put w.heap (w.setCell ⟨b, o, none⟩ u).heap b (vs.set o u) := by
  have hlt := x.lt
  obtain ⟨T, lo, hi, h1, h2⟩ := x
  constructor
  · simp only [World.frozen?, h1]
    have := h2 o ho
    simp only [Bool.and_eq_false_imp, decide_eq_true_eq, decide_eq_false_iff_not]
    omega
  · refine ⟨⟨by simp [World.setCell], fun k hk hb => ?_⟩, by simp [World.setCell], T, lo, hi, ?_, ?_⟩
    · simp only [World.setCell, Array.getElem?_modify]
      rw [if_neg (by intro e; subst e; simp at hb)]
    · simp only [World.setCell, Array.getElem?_modify, if_pos, h1, Option.map_some]
      simp
    · intro i hi'; simp at hi'; exact h2 i hi'
theorem run_storeCells_put {P : Program} : ∀ (us : List Value) (b o i : Nat) (w : World) (vs : List Value), Blk w.heap b vs → o + i + us.length ≤ vs.length → (∀ u ∈ us, u.oneCell' = true) →
    ∃ w', (storeCells ⟨b, o, none⟩ us i).run P w = .ok () w' ∧ std w' = std w ∧ Put w.heap w'.heap b (vs.take (o + i) ++ us ++ vs.drop (o + i + us.length))
  | [], b, o, i, w, vs, hb, _, _ => ⟨w, by simp [storeCells], rfl, Only.refl _ _, rfl, by simpa using hb⟩
  | u :: us, b, o, i, w, vs, hb, hl, h1 => by
    simp only [List.length_cons] at hl
    have e0 : (⟨b, o, none⟩ : Addr).add i = ⟨b, o + i, none⟩ := by unfold Addr.add; split <;> simp_all
    obtain ⟨hf, hp⟩ := put_setCell (w := w) (o := o + i) (u := u) hb (by omega)
    have hcell : w.cell? ⟨b, o + i, none⟩ = some vs[o + i] := by rw [cell?_cellAt, hb.cell, List.getElem?_eq_getElem (by omega)]
    obtain ⟨w', k1, k2, k3⟩ := run_storeCells_put (P := P) us b o (i + 1) (w.setCell ⟨b, o + i, none⟩ u) (vs.set (o + i) u) hp.blk (by simp; omega) (fun v hv => h1 v (by simp [hv]))
    have hst : (store ⟨b, o + i, none⟩ u).run P w = .ok () (w.setCell ⟨b, o + i, none⟩ u) := by
      have := h1 u (by simp)
      cases u <;> simp [store, Sem.run, hcell, hf, Value.oneCell'] at this ⊢
    refine ⟨w', ?_, k2.trans rfl, ?_⟩
    · simp only [storeCells, e0, Sem.run_bind, hst, Result.andThen_ok, k1]
    · refine ⟨hp.only.trans k3.only (fun c hc => .inl hc), k3.size.trans hp.size, ?_⟩
      have e1 : (vs.set (o + i) u).take (o + (i + 1)) ++ us ++ (vs.set (o + i) u).drop (o + (i + 1) + us.length) = vs.take (o + i) ++ u :: us ++ vs.drop (o + i + (us.length + 1)) := by
        have a1 : (vs.set (o + i) u).drop (o + (i + 1) + us.length) = vs.drop (o + i + (us.length + 1)) := by
          rw [List.drop_set_of_lt (by omega)]; congr 1; omega
        have a2 : (vs.set (o + i) u).take (o + (i + 1)) = vs.take (o + i) ++ [u] := by
          rw [show o + (i + 1) = (o + i) + 1 from by omega, List.take_succ_eq_append_getElem (by simp; omega)]
          simp [List.take_set_of_le]
        rw [a1, a2]; simp
      rw [List.length_cons, ← e1]; exact k3.blk
/-- A store into a block that is known whole. -/
theorem D_store {b o : Nat} {vs us : List Value} (hz : (P.info? T).map (·.size) = some us.length) (hx : ev e x = some (.pointer (some ⟨b, o, none⟩))) (hy : ev e y = some v) (hv : v.cells.toList = us) (h1 : ∀ u ∈ us, u.oneCell' = true) (hb : Blk h b vs) (ho : o + us.length ≤ vs.length) :
    Dos P n e h ⟨d, .store T x y, t, pos, af, g⟩ (fun h' => Put h h' b (vs.take o ++ us ++ vs.drop (o + us.length))) := fun w a hh he => by
  subst hh
  obtain ⟨w', k1, k2, k3⟩ := run_storeCells_put (P := P) us b o 0 w vs hb (by omega) h1
  refine ⟨w', ?_, k2, by simpa using k3⟩
  have e2 : v.cells.size = us.length := by rw [← hv]; simp
  simp only [execOp, he.eval hx, he.eval hy, Instr.storeAt, Instr.sureAddr, storeVar, Sem.run_bind, Sem.run_pure, Result.andThen_ok, run_sizeOf w hz, Sem.run_ite]
  rw [if_neg (by rw [e2]; simp), hv]
  simp only [Result.andThen_ok, k1]
end
end Go.Xp
