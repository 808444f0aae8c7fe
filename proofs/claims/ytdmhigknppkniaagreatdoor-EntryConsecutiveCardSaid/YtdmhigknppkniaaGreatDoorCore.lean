/- The base of this claim's walks: a judgement on what is left of a function's text ('L', 'W', 'X'), over a frame told by a short list of slots and a heap told by facts. -/
import Derived.Tactics
import Derived.Below
import Derived.Deep.Quiet
import Derived.Deep.Draws
import Derived.Deep.LoopGhost
import Derived.Laws.AppendOwn
set_option linter.unusedSimpArgs false
set_option linter.unusedVariables false
namespace Go.Xp
theorem nt {a b c : Nat} (h : a ≤ b) (k : b ≤ c) : a ≤ c := Nat.le_trans h k
theorem ntl {a b c : Nat} (h : a < b) (k : b ≤ c) : a < c := Nat.lt_of_lt_of_le h k

abbrev Heap := Array Obj
structure Std where
  os : Os
  tape : Nat → Question → Nat
  output : Array (Nat × ByteArray)
def std (w : World) : Std := ⟨w.os, w.tape, w.output⟩

/-! ### The frame -/
abbrev Env := List (Nat × Value)
def lk : Env → Nat → Option Value
  | [], _ => none
  | (j, v) :: r, i => bif Nat.beq j i then some v else lk r i

def EOk (n : Nat) (e : Env) (a : Act) : Prop := a.defers = [] ∧ a.tmps.size = n ∧ ∀ i v, lk e i = some v → a.tmps[i]? = some v

def ev (e : Env) : Operand → Option Value
  | .tmp t => lk e t
  | .const v => some v
  | .global g => some (.pointer (some ⟨g, 0, none⟩))
  | .func f => some (.func (.func f) #[] #[])

theorem EOk.eval {n : Nat} {e : Env} {a : Act} (h : EOk n e a) {x : Operand} {v : Value} (hx : ev e x = some v) : a.eval x = v := by
  cases x with
  | tmp t =>
    have := h.2.2 t v hx
    simp only [Act.eval]
    rw [Array.getD_eq_getD_getElem?, this]; rfl
  | const u => simpa [ev, Act.eval] using hx
  | global g => simpa [ev, Act.eval] using hx
  | func f => simpa [ev, Act.eval] using hx

theorem beq_ne {j i : Nat} (h : Nat.beq j i = false) : j ≠ i := by
  intro e; subst e; simp at h

theorem EOk.put {n : Nat} {e : Env} {a : Act} (h : EOk n e a) {d : Nat} (hd : Nat.blt d n = true) (v : Value) : EOk n ((d, v) :: e) (a.put (some d) v) := by
  obtain ⟨h1, h2, h3⟩ := h
  have hdn : d < n := by simpa [Nat.blt_eq] using hd
  refine ⟨h1, by simpa [Act.put] using h2, fun i u hi => ?_⟩
  simp only [lk] at hi
  simp only [Act.put, Array.getElem?_setIfInBounds]
  cases hb : Nat.beq d i with
  | true =>
    rw [hb] at hi
    simp only [cond_true, Option.some.injEq] at hi
    have : d = i := Nat.eq_of_beq_eq_true hb
    subst this; subst hi
    simp [h2, hdn]
  | false =>
    rw [hb] at hi
    simp only [cond_false] at hi
    rw [if_neg (beq_ne hb)]
    exact h3 i u hi

/-- Every slot that 'e'' tells, 'e' tells alike. -/
def Sub (e' e : Env) : Prop := ∀ i v, lk e' i = some v → lk e i = some v
theorem Sub.nil (e : Env) : Sub [] e := fun _ _ h => by cases h
theorem Sub.cons {e' e : Env} {i : Nat} {v : Value} (h : lk e i = some v) (hs : Sub e' e) : Sub ((i, v) :: e') e := by
  intro j u hj
  simp only [lk] at hj
  cases hb : Nat.beq i j with
  | true => rw [hb] at hj; simp only [cond_true, Option.some.injEq] at hj; rw [← Nat.eq_of_beq_eq_true hb, ← hj]; exact h
  | false => rw [hb] at hj; exact hs j u hj
theorem sN {e : Env} : Sub [] e := Sub.nil e
theorem sk1 {e' e : Env} (i0 : Nat) {v0 : Value} (h0 : lk e i0 = some v0) (r : Sub e' e) : Sub ((i0, v0) :: e') e := (.cons h0 r)
theorem sk2 {e' e : Env} (i0 i1 : Nat) {v0 v1 : Value} (h0 : lk e i0 = some v0) (h1 : lk e i1 = some v1) (r : Sub e' e) : Sub ((i0, v0) :: (i1, v1) :: e') e := (.cons h0 (.cons h1 r))
theorem sk3 {e' e : Env} (i0 i1 i2 : Nat) {v0 v1 v2 : Value} (h0 : lk e i0 = some v0) (h1 : lk e i1 = some v1) (h2 : lk e i2 = some v2) (r : Sub e' e) : Sub ((i0, v0) :: (i1, v1) :: (i2, v2) :: e') e := (.cons h0 (.cons h1 (.cons h2 r)))
theorem sk4 {e' e : Env} (i0 i1 i2 i3 : Nat) {v0 v1 v2 v3 : Value} (h0 : lk e i0 = some v0) (h1 : lk e i1 = some v1) (h2 : lk e i2 = some v2) (h3 : lk e i3 = some v3) (r : Sub e' e) : Sub ((i0, v0) :: (i1, v1) :: (i2, v2) :: (i3, v3) :: e') e := (.cons h0 (.cons h1 (.cons h2 (.cons h3 r))))
theorem sk5 {e' e : Env} (i0 i1 i2 i3 i4 : Nat) {v0 v1 v2 v3 v4 : Value} (h0 : lk e i0 = some v0) (h1 : lk e i1 = some v1) (h2 : lk e i2 = some v2) (h3 : lk e i3 = some v3) (h4 : lk e i4 = some v4) (r : Sub e' e) : Sub ((i0, v0) :: (i1, v1) :: (i2, v2) :: (i3, v3) :: (i4, v4) :: e') e := (.cons h0 (.cons h1 (.cons h2 (.cons h3 (.cons h4 r)))))
theorem sk6 {e' e : Env} (i0 i1 i2 i3 i4 i5 : Nat) {v0 v1 v2 v3 v4 v5 : Value} (h0 : lk e i0 = some v0) (h1 : lk e i1 = some v1) (h2 : lk e i2 = some v2) (h3 : lk e i3 = some v3) (h4 : lk e i4 = some v4) (h5 : lk e i5 = some v5) (r : Sub e' e) : Sub ((i0, v0) :: (i1, v1) :: (i2, v2) :: (i3, v3) :: (i4, v4) :: (i5, v5) :: e') e := (.cons h0 (.cons h1 (.cons h2 (.cons h3 (.cons h4 (.cons h5 r))))))
theorem sk7 {e' e : Env} (i0 i1 i2 i3 i4 i5 i6 : Nat) {v0 v1 v2 v3 v4 v5 v6 : Value} (h0 : lk e i0 = some v0) (h1 : lk e i1 = some v1) (h2 : lk e i2 = some v2) (h3 : lk e i3 = some v3) (h4 : lk e i4 = some v4) (h5 : lk e i5 = some v5) (h6 : lk e i6 = some v6) (r : Sub e' e) : Sub ((i0, v0) :: (i1, v1) :: (i2, v2) :: (i3, v3) :: (i4, v4) :: (i5, v5) :: (i6, v6) :: e') e := (.cons h0 (.cons h1 (.cons h2 (.cons h3 (.cons h4 (.cons h5 (.cons h6 r)))))))
theorem sk8 {e' e : Env} (i0 i1 i2 i3 i4 i5 i6 i7 : Nat) {v0 v1 v2 v3 v4 v5 v6 v7 : Value} (h0 : lk e i0 = some v0) (h1 : lk e i1 = some v1) (h2 : lk e i2 = some v2) (h3 : lk e i3 = some v3) (h4 : lk e i4 = some v4) (h5 : lk e i5 = some v5) (h6 : lk e i6 = some v6) (h7 : lk e i7 = some v7) (r : Sub e' e) : Sub ((i0, v0) :: (i1, v1) :: (i2, v2) :: (i3, v3) :: (i4, v4) :: (i5, v5) :: (i6, v6) :: (i7, v7) :: e') e := (.cons h0 (.cons h1 (.cons h2 (.cons h3 (.cons h4 (.cons h5 (.cons h6 (.cons h7 r))))))))
theorem tk1 {e : Env} (i0 : Nat) {v0 : Value} (h0 : lk e i0 = some v0 := by exact rfl) : Sub [(i0, v0)] e := sk1 i0 h0 sN
theorem tk2 {e : Env} (i0 i1 : Nat) {v0 v1 : Value} (h0 : lk e i0 = some v0 := by exact rfl) (h1 : lk e i1 = some v1 := by exact rfl) : Sub [(i0, v0), (i1, v1)] e := sk2 i0 i1 h0 h1 sN
theorem tk3 {e : Env} (i0 i1 i2 : Nat) {v0 v1 v2 : Value} (h0 : lk e i0 = some v0 := by exact rfl) (h1 : lk e i1 = some v1 := by exact rfl) (h2 : lk e i2 = some v2 := by exact rfl) : Sub [(i0, v0), (i1, v1), (i2, v2)] e := sk3 i0 i1 i2 h0 h1 h2 sN
theorem tk4 {e : Env} (i0 i1 i2 i3 : Nat) {v0 v1 v2 v3 : Value} (h0 : lk e i0 = some v0 := by exact rfl) (h1 : lk e i1 = some v1 := by exact rfl) (h2 : lk e i2 = some v2 := by exact rfl) (h3 : lk e i3 = some v3 := by exact rfl) : Sub [(i0, v0), (i1, v1), (i2, v2), (i3, v3)] e := sk4 i0 i1 i2 i3 h0 h1 h2 h3 sN
theorem tk5 {e : Env} (i0 i1 i2 i3 i4 : Nat) {v0 v1 v2 v3 v4 : Value} (h0 : lk e i0 = some v0 := by exact rfl) (h1 : lk e i1 = some v1 := by exact rfl) (h2 : lk e i2 = some v2 := by exact rfl) (h3 : lk e i3 = some v3 := by exact rfl) (h4 : lk e i4 = some v4 := by exact rfl) : Sub [(i0, v0), (i1, v1), (i2, v2), (i3, v3), (i4, v4)] e := sk5 i0 i1 i2 i3 i4 h0 h1 h2 h3 h4 sN
theorem tk6 {e : Env} (i0 i1 i2 i3 i4 i5 : Nat) {v0 v1 v2 v3 v4 v5 : Value} (h0 : lk e i0 = some v0 := by exact rfl) (h1 : lk e i1 = some v1 := by exact rfl) (h2 : lk e i2 = some v2 := by exact rfl) (h3 : lk e i3 = some v3 := by exact rfl) (h4 : lk e i4 = some v4 := by exact rfl) (h5 : lk e i5 = some v5 := by exact rfl) : Sub [(i0, v0), (i1, v1), (i2, v2), (i3, v3), (i4, v4), (i5, v5)] e := sk6 i0 i1 i2 i3 i4 i5 h0 h1 h2 h3 h4 h5 sN
theorem tk7 {e : Env} (i0 i1 i2 i3 i4 i5 i6 : Nat) {v0 v1 v2 v3 v4 v5 v6 : Value} (h0 : lk e i0 = some v0 := by exact rfl) (h1 : lk e i1 = some v1 := by exact rfl) (h2 : lk e i2 = some v2 := by exact rfl) (h3 : lk e i3 = some v3 := by exact rfl) (h4 : lk e i4 = some v4 := by exact rfl) (h5 : lk e i5 = some v5 := by exact rfl) (h6 : lk e i6 = some v6 := by exact rfl) : Sub [(i0, v0), (i1, v1), (i2, v2), (i3, v3), (i4, v4), (i5, v5), (i6, v6)] e := sk7 i0 i1 i2 i3 i4 i5 i6 h0 h1 h2 h3 h4 h5 h6 sN
theorem tk8 {e : Env} (i0 i1 i2 i3 i4 i5 i6 i7 : Nat) {v0 v1 v2 v3 v4 v5 v6 v7 : Value} (h0 : lk e i0 = some v0 := by exact rfl) (h1 : lk e i1 = some v1 := by exact rfl) (h2 : lk e i2 = some v2 := by exact rfl) (h3 : lk e i3 = some v3 := by exact rfl) (h4 : lk e i4 = some v4 := by exact rfl) (h5 : lk e i5 = some v5 := by exact rfl) (h6 : lk e i6 = some v6 := by exact rfl) (h7 : lk e i7 = some v7 := by exact rfl) : Sub [(i0, v0), (i1, v1), (i2, v2), (i3, v3), (i4, v4), (i5, v5), (i6, v6), (i7, v7)] e := sk8 i0 i1 i2 i3 i4 i5 i6 i7 h0 h1 h2 h3 h4 h5 h6 h7 sN
theorem EOk.sub {n : Nat} {e e' : Env} {a : Act} (h : EOk n e a) (hs : Sub e' e) : EOk n e' a := ⟨h.1, h.2.1, fun i v hi => h.2.2 i v (hs i v hi)⟩

/-! ### The judgements -/
def L (σ : Std) (P : Program) (ops : Array Oper) (n : Nat) (Q : Exit → Act → World → Prop) (rest : List Oper) (e : Env) (h : Heap) : Prop :=
  ∀ w a, std w = σ → w.heap = h → EOk n e a → wpList P ops Q rest a w
def W (σ : Std) (P : Program) (n : Nat) (c : Code) (Q : Exit → Act → World → Prop) (e : Env) (h : Heap) : Prop :=
  ∀ w a, std w = σ → w.heap = h → EOk n e a → c.wp P Q a w
def X (σ : Std) (n : Nat) (Q : Exit → Act → World → Prop) (ex : Exit) (e : Env) (h : Heap) : Prop :=
  ∀ w a, std w = σ → w.heap = h → EOk n e a → Q ex a w

/-- The call returns, whatever world bears this heap; the streams are as they were. -/
def Cal (P : Program) (f : FuncId) (args : Array Value) (h : Heap) (R : Value → Heap → Prop) : Prop :=
  ∀ w, w.heap = h → Calls P f args w fun e w' => ∃ v, e = .returned v ∧ std w' = std w ∧ R v w'.heap

theorem Cal.mono {P : Program} {f : FuncId} {args : Array Value} {h : Heap} {R R' : Value → Heap → Prop} (c : Cal P f args h R) (hr : ∀ v h', R v h' → R' v h') : Cal P f args h R' :=
  fun w hw => (c w hw).mono fun _ _ ⟨v, h1, h2, h3⟩ => ⟨v, h1, h2, hr _ _ h3⟩

section
variable {σ : Std} {P : Program} {n : Nat} {Q : Exit → Act → World → Prop} {e e' : Env} {h : Heap} {ops : Array Oper} {rest : List Oper}

/-! ### Control -/
theorem Wq {x y : Code} (k : W σ P n x (Exit.then (y.wp P Q) Q) e h) : W σ P n (.seq x y) Q e h := fun w a hs hh he => wp_seq (k w a hs hh he)
theorem Wk (k : X σ n Q .normal e h) : W σ P n .skip Q e h := fun w a hs hh he => wp_skip (k w a hs hh he)
theorem W_exit {id : Nat} (k : X σ n Q (.exit id) e h) : W σ P n (.exit id) Q e h := fun w a hs hh he => wp_exit (k w a hs hh he)
theorem Wt (k : X σ n Q .ret e h) : W σ P n .ret Q e h := fun w a hs hh he => wp_ret (k w a hs hh he)
theorem Wb {id : Nat} {c : Code} (k : W σ P n c (Exit.inBlock id Q) e h) : W σ P n (.block id c) Q e h := fun w a hs hh he => wp_block (k w a hs hh he)
theorem W_true {c : Operand} {x y : Code} (hc : ev e c = some (.bool true)) (k : W σ P n x Q e h) : W σ P n (.cond c x y) Q e h :=
  fun w a hs hh he => wp_cond_true (he.eval hc) (k w a hs hh he)
theorem W_false {c : Operand} {x y : Code} (hc : ev e c = some (.bool false)) (k : W σ P n y Q e h) : W σ P n (.cond c x y) Q e h :=
  fun w a hs hh he => wp_cond_false (he.eval hc) (k w a hs hh he)
/-- A test that is known. -/
theorem W_known {c : Operand} {x y : Code} {b : Bool} (t : Bool) (hc : ev e c = some (.bool b)) (ht : b = t) (k : W σ P n (match t with | true => x | false => y) Q e h) : W σ P n (.cond c x y) Q e h := by
  subst ht
  cases b with
  | true => exact W_true hc k
  | false => exact W_false hc k
theorem W_split {c : Operand} {x y : Code} {b : Bool} (hc : ev e c = some (.bool b)) (k1 : b = true → W σ P n x Q e h) (k2 : b = false → W σ P n y Q e h) : W σ P n (.cond c x y) Q e h := by
  cases b with
  | true => exact W_true hc (k1 rfl)
  | false => exact W_false hc (k2 rfl)
theorem W_splitd {c : Operand} {x y : Code} {p : Prop} {i : Decidable p} (hc : ev e c = some (.bool (decide p))) (k1 : p → W σ P n x Q e h) (k2 : ¬ p → W σ P n y Q e h) : W σ P n (.cond c x y) Q e h :=
  W_split hc (fun hb => k1 (of_decide_eq_true hb)) (fun hb => k2 (of_decide_eq_false hb))
theorem Sd {c : Operand} {x y : Code} {p : Prop} {i : Decidable p} (k1 : p → W σ P n x Q e h) (k2 : ¬ p → W σ P n y Q e h) (hc : ev e c = some (.bool (decide p)) := by exact rfl) : W σ P n (.cond c x y) Q e h := W_splitd hc k1 k2
theorem Wu (e' : Env) (hs : Sub e' e) {c : Code} (k : W σ P n c Q e' h) : W σ P n c Q e h := fun w a hs' hh he => k w a hs' hh (he.sub hs)
theorem L_sub (e' : Env) (hs : Sub e' e) (k : L σ P ops n Q rest e' h) : L σ P ops n Q rest e h := fun w a hs' hh he => k w a hs' hh (he.sub hs)
/-- A loop: 'env s' the frame, 'I s h' what is known, 's' running. -/
def LoopQ {S : Type} (σ : Std) (n : Nat) (env : S → Env) (I : S → Heap → Prop) (μ : S → Nat) (m : Nat) : Act → World → Prop :=
  fun a w => ∃ m', m' < m ∧ std w = σ ∧ ∃ s, EOk n (env s) a ∧ I s w.heap ∧ μ s = m'
theorem W_loop {S : Type} (env : S → Env) (I : S → Heap → Prop) (μ : S → Nat) {c : Code} (s0 : S) (hsub : Sub (env s0) e) (h0 : I s0 h)
    (round : ∀ s h', I s h' → W σ P n c (Exit.then (LoopQ σ n env I μ (μ s)) Q) (env s) h') : W σ P n (.loop c) Q e h := by
  intro w a hs hh he
  refine wp_loop_ghost (fun m a w => std w = σ ∧ ∃ s, EOk n (env s) a ∧ I s w.heap ∧ μ s = m) (μ s0) ⟨hs, s0, he.sub hsub, hh ▸ h0, rfl⟩ ?_
  rintro m a w ⟨hs, s, he, hI, rfl⟩
  exact round s _ hI w a hs rfl he
theorem X_loop {S : Type} {env : S → Env} {I : S → Heap → Prop} {μ : S → Nat} {m : Nat} (s : S) (hsub : Sub (env s) e) (hI : I s h) (hμ : μ s < m) : X σ n (Exit.then (LoopQ σ n env I μ m) Q) .normal e h :=
  fun _ _ hs hh he => ⟨μ s, hμ, hs, s, he.sub hsub, hh ▸ hI, rfl⟩

/-- The ways through 'x' meet again behind it. -/
def CutQ {S : Type} (σ : Std) (n : Nat) (env : S → Env) (I : S → Heap → Prop) : Act → World → Prop :=
  fun a w => std w = σ ∧ ∃ s, EOk n (env s) a ∧ I s w.heap
theorem W_cut {S : Type} (env : S → Env) (I : S → Heap → Prop) {x y : Code} (k1 : W σ P n x (Exit.then (CutQ σ n env I) Q) e h) (k2 : ∀ s h', I s h' → W σ P n y Q (env s) h') : W σ P n (.seq x y) Q e h := by
  refine fun w a hs hh he => wp_seq (wp_mono (k1 w a hs hh he) ?_)
  intro ex a' w' hq
  cases ex with
  | normal =>
    obtain ⟨h1, s, h2, h3⟩ := hq
    exact k2 s _ h3 w' a' h1 rfl h2
  | exit id => exact hq
  | goto l => exact hq
  | ret => exact hq
  | panic ch => exact hq
  | outgrown => exact hq
theorem Wc (e' : Env) (I : Heap → Prop) {x y : Code} (k1 : W σ P n x (Exit.then (CutQ σ n (fun _ : Unit => e') (fun _ => I)) Q) e h) (k2 : ∀ h', I h' → W σ P n y Q e' h') : W σ P n (.seq x y) Q e h := W_cut (S := Unit) (fun _ => e') (fun _ => I) k1 (fun _ h' => k2 h')
theorem X_cut {S : Type} {env : S → Env} {I : S → Heap → Prop} (s : S) (hsub : Sub (env s) e) (hI : I s h) : X σ n (Exit.then (CutQ σ n env I) Q) .normal e h :=
  fun _ _ hs hh he => ⟨hs, s, he.sub hsub, hh ▸ hI⟩

theorem Xt {y : Code} (k : W σ P n y Q e h) : X σ n (Exit.then (y.wp P Q) Q) .normal e h := k
theorem Xe {K : Act → World → Prop} {id : Nat} (k : X σ n Q (.exit id) e h) : X σ n (Exit.then K Q) (.exit id) e h := k
theorem Xr {K : Act → World → Prop} (k : X σ n Q .ret e h) : X σ n (Exit.then K Q) .ret e h := k
theorem Xb {id : Nat} (k : X σ n Q .normal e h) : X σ n (Exit.inBlock id Q) .normal e h := k
theorem Yr {id : Nat} (k : X σ n Q .ret e h) : X σ n (Exit.inBlock id Q) .ret e h := k
theorem X_block_hit {id : Nat} (k : X σ n Q .normal e h) : X σ n (Exit.inBlock id Q) (.exit id) e h := fun w a hs hh he => by
  show (if id = id then Q .normal a w else Q (.exit id) a w)
  rw [if_pos rfl]; exact k w a hs hh he
/-! ### A function's begin and end -/
def Post (σ : Std) (R : Value → Heap → Prop) : Ending → World → Prop := fun e w' => ∃ v, e = .returned v ∧ std w' = σ ∧ R v w'.heap
def argEnv : Nat → List Value → Env
  | _, [] => []
  | k, v :: vs => (k, v) :: argEnv (k + 1) vs
theorem lk_argEnv (vs : List Value) : ∀ (k i : Nat) (v : Value), lk (argEnv k vs) i = some v → ∃ j, i = k + j ∧ vs[j]? = some v := by
  induction vs with
  | nil => intro k i v h; cases h
  | cons u vs ih =>
    intro k i v h
    simp only [argEnv, lk] at h
    cases hb : Nat.beq k i with
    | true => rw [hb] at h; simp only [cond_true] at h; exact ⟨0, (Nat.eq_of_beq_eq_true hb).symm, by simpa using h⟩
    | false =>
      rw [hb] at h
      obtain ⟨j, h1, h2⟩ := ih (k + 1) i v h
      exact ⟨j + 1, by omega, by simpa using h2⟩
theorem Cal_enter {f : FuncId} {fn : Func} {c : Code} {args : List Value} {R : Value → Heap → Prop} (hf : P.funcs[f]? = some fn) (hb : fn.body = some c) (hn : Nat.ble args.length fn.ntmps = true) (he : argEnv 0 args = e)
    (k : ∀ σ, W σ P fn.ntmps c (bodyPost P fn (Post σ R)) e h) : Cal P f args.toArray h R := by
  intro w hw
  refine calls_of_wp hf hb (k (std w) w _ rfl hw ⟨rfl, ?_, ?_⟩)
  · have := Nat.le_of_ble_eq_true hn; simp; omega
  · intro i v hi
    subst he
    obtain ⟨j, h1, h2⟩ := lk_argEnv args 0 i v hi
    have hj : j < args.length := (List.getElem?_eq_some_iff.1 h2).1
    have : i = j := by omega
    subst this
    rw [Array.getElem?_append_left (by simpa using hj)]
    simpa using h2
theorem Ce {f : FuncId} {fn : Func} {c : Code} {args : List Value} {R : Value → Heap → Prop} (hf : P.funcs[f]? = some fn) (k : ∀ σ, W σ P fn.ntmps c (bodyPost P fn (Post σ R)) e h) (hb : fn.body = some c := by exact rfl) (hn : Nat.ble args.length fn.ntmps = true := by exact rfl) (he : argEnv 0 args = e := by exact rfl) : Cal P f args.toArray h R := Cal_enter hf hb hn he k
theorem X_ret1 {fn : Func} {R : Value → Heap → Prop} {t : Nat} {v : Value} (hr : fn.results = #[.tmp t]) (hv : lk e t = some v) (k : R v h) : X σ n (bodyPost P fn (Post σ R)) .ret e h :=
  fun w a hs hh he => ⟨he.1, v, by rw [results_tmp hr, Array.getD_eq_getD_getElem?, he.2.2 t v hv]; rfl, v, rfl, hs, hh ▸ k⟩
theorem X_ret2 {fn : Func} {R : Value → Heap → Prop} {t u : Nat} {v v' : Value} (hr : fn.results = #[.tmp t, .tmp u]) (hv : lk e t = some v) (hv' : lk e u = some v') (k : R (.tuple #[v, v']) h) : X σ n (bodyPost P fn (Post σ R)) .ret e h :=
  fun w a hs hh he => ⟨he.1, _, by rw [results_tmp2 hr, Array.getD_eq_getD_getElem?, he.2.2 t v hv, Array.getD_eq_getD_getElem?, he.2.2 u v' hv']; rfl, _, rfl, hs, hh ▸ k⟩
theorem results_tmp3' {fn : Func} {t u s : Tmp} (h : fn.results = #[.tmp t, .tmp u, .tmp s]) (tmps : Array Value) (P : Program) (w : World) :
    (results fn tmps).run P w = .ok (.tuple #[tmps.getD t undef, tmps.getD u undef, tmps.getD s undef]) w := by
  simp [results, h]
theorem X_ret3 {fn : Func} {R : Value → Heap → Prop} {t u s : Nat} {v v' v'' : Value} (hr : fn.results = #[.tmp t, .tmp u, .tmp s]) (hv : lk e t = some v) (hv' : lk e u = some v') (hv'' : lk e s = some v'') (k : R (.tuple #[v, v', v'']) h) : X σ n (bodyPost P fn (Post σ R)) .ret e h :=
  fun w a hs hh he => ⟨he.1, _, by rw [results_tmp3' hr, Array.getD_eq_getD_getElem?, he.2.2 t v hv, Array.getD_eq_getD_getElem?, he.2.2 u v' hv', Array.getD_eq_getD_getElem?, he.2.2 s v'' hv'']; rfl, _, rfl, hs, hh ▸ k⟩
theorem Xv1 {fn : Func} {R : Value → Heap → Prop} {t : Nat} {v : Value} (k : R v h) (hr : fn.results = #[.tmp t] := by exact rfl) (hv : lk e t = some v := by exact rfl) : X σ n (bodyPost P fn (Post σ R)) .ret e h := X_ret1 hr hv k
theorem Xv2 {fn : Func} {R : Value → Heap → Prop} {t u : Nat} {v v' : Value} (k : R (.tuple #[v, v']) h) (hr : fn.results = #[.tmp t, .tmp u] := by exact rfl) (hv : lk e t = some v := by exact rfl) (hv' : lk e u = some v' := by exact rfl) : X σ n (bodyPost P fn (Post σ R)) .ret e h := X_ret2 hr hv hv' k
theorem Xv3 {fn : Func} {R : Value → Heap → Prop} {t u s : Nat} {v v' v'' : Value} (k : R (.tuple #[v, v', v'']) h) (hr : fn.results = #[.tmp t, .tmp u, .tmp s] := by exact rfl) (hv : lk e t = some v := by exact rfl) (hv' : lk e u = some v' := by exact rfl) (hv'' : lk e s = some v'' := by exact rfl) : X σ n (bodyPost P fn (Post σ R)) .ret e h := X_ret3 hr hv hv' hv'' k
theorem X_end0 {fn : Func} {R : Value → Heap → Prop} (hr : fn.results = #[]) (k : R (.tuple #[]) h) : X σ n (bodyPost P fn (Post σ R)) .ret e h :=
  fun w a hs hh he => ⟨he.1, _, results_none hr _ _ _, _, rfl, hs, hh ▸ k⟩
/-- The text has come to its end without 'return'. -/
theorem X_end {fn : Func} {R : Value → Heap → Prop} (k : X σ n (bodyPost P fn (Post σ R)) .ret e h) : X σ n (bodyPost P fn (Post σ R)) .normal e h := k

/-! ### Regions -/
theorem Wg {id : Nat} {l : List Oper} (k : L σ P l.toArray n Q l e h) : W σ P n (.region id l.toArray false) Q e h := fun w a hs hh he => wp_region_lit (k w a hs hh he)
theorem Ln (k : X σ n Q .normal e h) : L σ P ops n Q [] e h := k

/-- Does the operation's guard let it run? -/
def gd (ops : Array Oper) (e : Env) : Option (Nat × Bool) → Option Bool
  | none => some true
  | some (k, b) => match (ops[k]?).bind (·.dst) with
    | some d => match lk e d with
      | some (.bool c) => some (c == b)
      | some (.tuple _) => some false
      | _ => none
    | none => none
theorem wanted_of_gd {o : Oper} {a : Act} {t : Bool} (he : EOk n e a) (hg : gd ops e o.guard = some t) : Region.wanted o (yielded ops a.tmps) = t := by
  unfold Region.wanted
  cases ho : o.guard with
  | none => rw [ho] at hg; simpa [gd] using hg
  | some kb =>
    obtain ⟨k, b⟩ := kb
    rw [ho] at hg
    simp only [gd] at hg
    simp only [yielded]
    cases hd : (ops[k]?).bind (·.dst) with
    | none => rw [hd] at hg; cases hg
    | some d =>
      rw [hd] at hg
      simp only at hg
      cases hl : lk e d with
      | none => rw [hl] at hg; cases hg
      | some v =>
        rw [hl] at hg
        cases v with
        | bool c =>
          simp only [Option.some.injEq] at hg
          have := he.2.2 d _ hl
          simp only [Option.bind_some, this, ← hg]
          cases c <;> cases b <;> rfl
        | tuple c =>
          simp only [Option.some.injEq] at hg
          have := he.2.2 d _ hl
          simp only [Option.bind_some, this, ← hg]
          rfl
        | _ => cases hg

/-- In every world over this heap the operation yields 'v', and leaves the world as it is. -/
def Yld (P : Program) (n : Nat) (e : Env) (h : Heap) (o : Oper) (v : Value) : Prop := ∀ w a, w.heap = h → EOk n e a → (execOp a.eval o).run P w = .ok (.value v) w

theorem L_skip {o : Oper} {d : Nat} (hd : o.dst = some d) (hn : Nat.blt d n = true) (hg : gd ops e o.guard = some false) (k : L σ P ops n Q rest ((d, undef) :: e) h) : L σ P ops n Q (o :: rest) e h := by
  intro w a hs hh he
  unfold wpList
  rw [wanted_of_gd he hg, if_neg (by simp), hd]
  exact k w _ hs hh (he.put hn _)
theorem L_yld {o : Oper} {d : Nat} {v : Value} (hy : Yld P n e h o v) (hd : o.dst = some d) (hn : Nat.blt d n = true) (hg : gd ops e o.guard = some true) (k : L σ P ops n Q rest ((d, v) :: e) h) : L σ P ops n Q (o :: rest) e h := by
  intro w a hs hh he
  unfold wpList
  rw [wanted_of_gd he hg, if_pos rfl]
  refine .inl ?_
  unfold Oper.wp
  rw [hy w a hh he, Oper.upon_value, hd]
  exact k w _ hs hh (he.put hn _)
/-- An operation that makes or writes memory: the value, and what is known of the heap behind it. -/
def Mks (P : Program) (n : Nat) (e : Env) (h : Heap) (o : Oper) (R : Value → Heap → Prop) : Prop :=
  ∀ w a, w.heap = h → EOk n e a → ∃ v w', (execOp a.eval o).run P w = .ok (.value v) w' ∧ std w' = std w ∧ R v w'.heap
theorem L_mks {o : Oper} {d : Nat} {R : Value → Heap → Prop} (hy : Mks P n e h o R) (hd : o.dst = some d) (hn : Nat.blt d n = true) (hg : gd ops e o.guard = some true) (k : ∀ v h', R v h' → L σ P ops n Q rest ((d, v) :: e) h') : L σ P ops n Q (o :: rest) e h := by
  intro w a hs hh he
  unfold wpList
  rw [wanted_of_gd he hg, if_pos rfl]
  refine .inl ?_
  obtain ⟨v, w', h1, h2, h3⟩ := hy w a hh he
  unfold Oper.wp
  rw [h1, Oper.upon_value, hd]
  exact k v _ h3 w' _ (h2.trans hs) rfl (he.put hn _)
/-- An operation that writes memory and yields nothing. -/
def Dos (P : Program) (n : Nat) (e : Env) (h : Heap) (o : Oper) (R : Heap → Prop) : Prop :=
  ∀ w a, w.heap = h → EOk n e a → ∃ w', (execOp a.eval o).run P w = .ok .skip w' ∧ std w' = std w ∧ R w'.heap
theorem L_dos {o : Oper} {R : Heap → Prop} (hy : Dos P n e h o R) (hd : o.dst = none) (hg : gd ops e o.guard = some true) (k : ∀ h', R h' → L σ P ops n Q rest e h') : L σ P ops n Q (o :: rest) e h := by
  intro w a hs hh he
  unfold wpList
  rw [wanted_of_gd he hg, if_pos rfl]
  refine .inl ?_
  obtain ⟨w', h1, h2, h3⟩ := hy w a hh he
  unfold Oper.wp
  rw [h1, Oper.upon_skip, hd]
  exact k _ h3 w' _ (h2.trans hs) rfl he
/-- A call of a Go function. -/
def Ent (P : Program) (n : Nat) (e : Env) (h : Heap) (o : Oper) (f : FuncId) (args : Array Value) : Prop :=
  ∀ w a, w.heap = h → EOk n e a → (execOp a.eval o).run P w = .ok (.enter f args) w
theorem L_call {o : Oper} {d : Nat} {f : FuncId} {args : Array Value} {R : Value → Heap → Prop} (hy : Ent P n e h o f args) (c : Cal P f args h R) (hd : o.dst = some d) (hn : Nat.blt d n = true) (hg : gd ops e o.guard = some true)
    (k : ∀ v h', R v h' → L σ P ops n Q rest ((d, v) :: e) h') : L σ P ops n Q (o :: rest) e h := by
  intro w a hs hh he
  unfold wpList
  rw [wanted_of_gd he hg, if_pos rfl]
  refine .inl ?_
  unfold Oper.wp
  rw [hy w a hh he, Oper.upon_enter, hd]
  refine (c w hh).mono ?_
  rintro _ w' ⟨v, rfl, h2, h3⟩
  exact k v _ h3 w' _ (h2.trans hs) rfl (he.put hn _)
/-- A truth value in a slot is told. -/
theorem L_known {d : Nat} {b : Bool} (t : Bool) (hl : lk e d = some (.bool b)) (ht : b = t) (k : L σ P ops n Q rest ((d, .bool t) :: e) h) : L σ P ops n Q rest e h := by
  refine L_sub _ (fun i v hi => ?_) k
  simp only [lk] at hi
  cases hb : Nat.beq d i with
  | true => rw [hb] at hi; simp only [cond_true, Option.some.injEq] at hi; rw [← Nat.eq_of_beq_eq_true hb, ← hi, ← ht]; exact hl
  | false => rw [hb] at hi; exact hi
theorem L_split {d : Nat} {b : Bool} (hl : lk e d = some (.bool b)) (k1 : b = true → L σ P ops n Q rest ((d, .bool true) :: e) h) (k2 : b = false → L σ P ops n Q rest ((d, .bool false) :: e) h) : L σ P ops n Q rest e h := by
  cases hb : b with
  | true => exact L_known true hl hb (k1 hb)
  | false => exact L_known false hl hb (k2 hb)
theorem L_splitd {d : Nat} {p : Prop} {i : Decidable p} (hl : lk e d = some (.bool (decide p))) (k1 : p → L σ P ops n Q rest ((d, .bool true) :: e) h) (k2 : ¬ p → L σ P ops n Q rest ((d, .bool false) :: e) h) : L σ P ops n Q rest e h :=
  L_split hl (fun hb => k1 (of_decide_eq_true hb)) (fun hb => k2 (of_decide_eq_false hb))

/-! ### A region that draws its order, every operation quiet in a class of heaps -/
def LQ (σ : Std) (P : Program) (ops : Array Oper) (n : Nat) (I : Heap → Prop) (Q : Exit → Act → World → Prop) (rest : List Oper) (e : Env) : Prop :=
  ∀ a, EOk n e a → wpQuiet P ops (fun w => std w = σ ∧ I w.heap) (fun a' => ∀ w', (std w' = σ ∧ I w'.heap) → Q .normal a' w') rest a
theorem W_quiet {id : Nat} {l : List Oper} (I : Heap → Prop) (hm : P.follows .mixedOrders = true) (hB : Region.lexB .any l.toArray = true) (hI : I h) (k : LQ σ P l.toArray n I Q l e) : W σ P n (.region id l.toArray true) Q e h :=
  fun w a hs hh he => wp_region_quiet (C := fun w => std w = σ ∧ I w.heap) hm hB ⟨hs, hh ▸ hI⟩ (by simpa using k a he)
section
variable {I : Heap → Prop}
theorem LQ_nil (k : ∀ h', I h' → X σ n Q .normal e h') : LQ σ P ops n I Q [] e := fun a he w' hw' => k _ hw'.2 w' a hw'.1 rfl he
theorem LQ_yld {o : Oper} {d : Nat} {v : Value} (hy : ∀ h, I h → Yld P n e h o v) (hd : o.dst = some d) (hn : Nat.blt d n = true) (hg : gd ops e o.guard = some true) (k : LQ σ P ops n I Q rest ((d, v) :: e)) : LQ σ P ops n I Q (o :: rest) e := by
  intro a he
  unfold wpQuiet
  rw [wanted_of_gd he hg, if_pos rfl]
  refine ⟨v, fun w hw => ?_, ?_⟩
  · unfold Oper.quietAt
    rw [hy _ hw.2 w a rfl he]
    exact ⟨rfl, rfl⟩
  · rw [hd]; exact k _ (he.put hn _)
theorem LQ_call {o : Oper} {d : Nat} {f : FuncId} {args : Array Value} {v : Value} (hy : ∀ h, I h → Ent P n e h o f args) (c : ∀ h, I h → Cal P f args h (fun u h' => u = v ∧ I h')) (hd : o.dst = some d) (hn : Nat.blt d n = true) (hg : gd ops e o.guard = some true) (k : LQ σ P ops n I Q rest ((d, v) :: e)) : LQ σ P ops n I Q (o :: rest) e := by
  intro a he
  unfold wpQuiet
  rw [wanted_of_gd he hg, if_pos rfl]
  refine ⟨v, fun w hw => ?_, ?_⟩
  · unfold Oper.quietAt
    rw [hy _ hw.2 w a rfl he]
    refine ⟨rfl, (c _ hw.2 w rfl).mono ?_⟩
    rintro _ w' ⟨u, rfl, h2, rfl, h4⟩
    exact ⟨rfl, h2.trans hw.1, h4⟩
  · rw [hd]; exact k _ (he.put hn _)
theorem LQ_skip {o : Oper} {d : Nat} (hd : o.dst = some d) (hn : Nat.blt d n = true) (hg : gd ops e o.guard = some false) (k : LQ σ P ops n I Q rest ((d, undef) :: e)) : LQ σ P ops n I Q (o :: rest) e := by
  intro a he
  unfold wpQuiet
  rw [wanted_of_gd he hg, if_neg (by simp), hd]
  exact k _ (he.put hn _)
theorem LQ_sub (e' : Env) (hs : Sub e' e) (k : LQ σ P ops n I Q rest e') : LQ σ P ops n I Q rest e := fun a he => k a (he.sub hs)
theorem LQ_known {d : Nat} {b : Bool} (t : Bool) (hl : lk e d = some (.bool b)) (ht : b = t) (k : LQ σ P ops n I Q rest ((d, .bool t) :: e)) : LQ σ P ops n I Q rest e := by
  refine LQ_sub _ (fun i v hi => ?_) k
  simp only [lk] at hi
  cases hb : Nat.beq d i with
  | true => rw [hb] at hi; simp only [cond_true, Option.some.injEq] at hi; rw [← Nat.eq_of_beq_eq_true hb, ← hi, ← ht]; exact hl
  | false => rw [hb] at hi; exact hi
theorem LQ_split {d : Nat} {b : Bool} (hl : lk e d = some (.bool b)) (k1 : b = true → LQ σ P ops n I Q rest ((d, .bool true) :: e)) (k2 : b = false → LQ σ P ops n I Q rest ((d, .bool false) :: e)) : LQ σ P ops n I Q rest e := by
  cases hb : b with
  | true => exact LQ_known true hl hb (k1 hb)
  | false => exact LQ_known false hl hb (k2 hb)
theorem LQ_splitd {d : Nat} {p : Prop} {i : Decidable p} (hl : lk e d = some (.bool (decide p))) (k1 : p → LQ σ P ops n I Q rest ((d, .bool true) :: e)) (k2 : ¬ p → LQ σ P ops n I Q rest ((d, .bool false) :: e)) : LQ σ P ops n I Q rest e :=
  LQ_split hl (fun hb => k1 (of_decide_eq_true hb)) (fun hb => k2 (of_decide_eq_false hb))
end
end
end Go.Xp
