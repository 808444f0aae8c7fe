/- '==' of structs of numbers, texts and truth values. -/
import Derived.Test.YtdmhigknppkniaaGreatDoorRws
import Derived.Laws.StructEq
import Derived.Test.YtdmhigknppkniaaGreatDoorDec
import Derived.Test.YtdmhigknppkniaaGreatDoorCstr
import Derived.Test.YtdmhigknppkniaaGreatDoorPath
set_option linter.unusedSimpArgs false
set_option linter.unusedVariables false
set_option linter.unusedSectionVars false
namespace Go.Xp
open MapKept

/-- '==' of two cells of one type. -/
def eqv : TypeDesc → Value → Value → Option Bool
  | .int _, .int k a, .int k' b => if k = k' then some (decide (a = b)) else none
  | .string, .string a, .string b => some (decide (a.data.toList = b.data.toList))
  | .bool, .bool a, .bool b => some (decide (a = b))
  | _, _, _ => none
/-- '==' of the cells of a list of fields, in order. -/
def eqvs (P : Program) : List Field → Nat → List Value → List Value → Option Bool
  | [], _, [], [] => some true
  | f :: fs, off, x :: xs, y :: ys => match P.underlying f.type with
    | some D => if f.offset = off ∧ f.name ≠ "_" ∧ isAggD D = false then (match eqv D x y, eqvs P fs (off + 1) xs ys with
      | some a, some b => some (a && b)
      | _, _ => none) else none
    | none => none
  | _, _, _, _ => none
section
variable {P : Program} {n : Nat} {e : Env} {h : Heap} {d : Option Tmp} {t : TypeId} {pos : String} {af : Array Edge} {g : Option (Nat × Bool)}
variable {T T' : TypeId} {x y : Operand}
theorem run_eqv {D : TypeDesc} {F : TypeId} {a b : Value} {r : Bool} (hF : P.underlying F = some D) (h : eqv D a b = some r) (k : Nat) (w : World) : (Op.equalIn (k + 1) F a b).run P w = .ok r w := by
  cases D <;> cases a <;> cases b <;> simp only [eqv] at h <;> try (cases h; done)
  · simp only [Option.some.injEq] at h; subst h
    simp only [Op.equalIn, Sem.run_bind, run_underlying hF, Result.andThen_ok, Sem.run_pure]
    congr 1
  · split at h
    · rename_i hk
      simp only [Option.some.injEq] at h; subst h
      simp only [Op.equalIn, Sem.run_bind, run_underlying hF, Result.andThen_ok, if_pos hk, Sem.run_pure]
      congr 1
    · cases h
  · rename_i s u
    simp only [Option.some.injEq] at h; subst h
    simp only [Op.equalIn, Sem.run_bind, run_underlying hF, Result.andThen_ok, Sem.run_pure]
    congr 1
    rw [Bool.eq_iff_iff, bytes_beq]
    obtain ⟨⟨s⟩⟩ := s
    obtain ⟨⟨u⟩⟩ := u
    simp
theorem run_eqvs (k : Nat) (w : World) : ∀ (fs : List Field) (off : Nat) (xs ys XS YS : List Value) (r : Bool), eqvs P fs off xs ys = some r → (∀ i u, xs[i]? = some u → XS[off + i]? = some u) → (∀ i u, ys[i]? = some u → YS[off + i]? = some u) →
    (Op.eqFields (k + 1) XS.toArray YS.toArray fs).run P w = .ok r w
  | [], _, [], [], _, _, r, h, _, _ => by simp only [eqvs, Option.some.injEq] at h; subst h; simp [Op.eqFields]
  | [], _, [], _ :: _, _, _, _, h, _, _ => by cases h
  | [], _, _ :: _, _, _, _, _, h, _, _ => by cases h
  | _ :: _, _, [], _, _, _, _, h, _, _ => by simp [eqvs] at h
  | _ :: _, _, _ :: _, [], _, _, _, h, _, _ => by simp [eqvs] at h
  | f :: fs, off, x :: xs, y :: ys, XS, YS, r, h, hx, hy => by
    simp only [eqvs] at h
    cases hF : P.underlying f.type with
    | none => rw [hF] at h; cases h
    | some D =>
      rw [hF] at h
      simp only at h
      split at h
      · rename_i hc
        obtain ⟨ho, hn, hD⟩ := hc
        cases hv : eqv D x y with
        | none => rw [hv] at h; cases h
        | some a =>
          rw [hv] at h
          cases hvs : eqvs P fs (off + 1) xs ys with
          | none => rw [hvs] at h; cases h
          | some b =>
            rw [hvs] at h
            simp only [Option.some.injEq] at h
            subst h
            have h1 : XS[off]? = some x := by simpa using hx 0 x rfl
            have h2 : YS[off]? = some y := by simpa using hy 0 y rfl
            have ih := run_eqvs k w fs (off + 1) xs ys XS YS b hvs (fun i u hi => by have := hx (i + 1) u (by simpa using hi); rw [← this]; congr 1; omega) (fun i u hi => by have := hy (i + 1) u (by simpa using hi); rw [← this]; congr 1; omega)
            have p1 : (part f.type XS.toArray f.offset).run P w = .ok x w := by
              simp only [part, Sem.run_bind, run_isAgg w hF, hD, Result.andThen_ok, Bool.false_eq_true, if_false, ho, List.getElem?_toArray, h1, Sem.run_pure]
            have p2 : (part f.type YS.toArray f.offset).run P w = .ok y w := by
              simp only [part, Sem.run_bind, run_isAgg w hF, hD, Result.andThen_ok, Bool.false_eq_true, if_false, ho, List.getElem?_toArray, h2, Sem.run_pure]
            simp only [Op.eqFields, if_pos hn, Sem.run_bind, p1, p2, Result.andThen_ok, run_eqv hF hv k w]
            cases a with
            | true => simpa using ih
            | false => simp
      · cases h
theorem run_equal_struct {xs ys : List Value} {r : Bool} (hT : P.underlying T = some (.struct (P.fieldsOf T))) (hp : P.stoodInHeld T = false) (hr : eqvs P (P.fieldsOf T).toList 0 xs ys = some r) (w : World) : (Op.equal T (.agg xs.toArray) (.agg ys.toArray)).run P w = .ok r w := by
  unfold Op.equal
  rw [show Op.maxDepth = 9999 + 1 from rfl, run_equalIn_struct w 9999 T _ _ hT hp]
  exact run_eqvs 9998 w _ 0 xs ys xs ys r hr (fun i u hi => by simpa using hi) (fun i u hi => by simpa using hi)
theorem Y_stneq {xs ys : List Value} {r : Bool} (hT : P.underlying T = some (.struct (P.fieldsOf T))) (hp : P.stoodInHeld T = false) (hg : P.eqGuardType P.depth T = false) (hx : ev e x = some (.agg xs.toArray)) (hy : ev e y = some (.agg ys.toArray)) (hr : eqvs P (P.fieldsOf T).toList 0 xs ys = some r) :
    Yld P n e h ⟨d, .binOp .neq T x y T', t, pos, af, g⟩ (.bool (!r)) := fun w a _ he => by
  have h1 := run_equal_struct hT hp hr w
  simp only [execOp, he.eval hx, he.eval hy, eqGuard, Sem.run_bind, run_program, Result.andThen_ok, hg, Bool.not_false, if_true, Sem.run_pure, Sem.run_ite, binOp, h1]
  simp [h1]
theorem Y_decneg {o : Oper} {p : Prop} {i : Decidable p} (hy : Yld P n e h o (.bool (!decide p))) : Yld P n e h o (.bool (decide (¬ p))) := by
  have hb : (!decide p) = decide (¬ p) := by rw [Bool.eq_iff_iff]; simp
  rwa [hb] at hy

inductive Kd where
  | i (k : IntKind)
  | s
  | b
def kfits : Kd → TypeDesc → Bool
  | .i k, .int k' => k == k'
  | .s, .string => true
  | .b, .bool => true
  | _, _ => false
def fldsOk (P : Program) : List Field → Nat → List Kd → Bool
  | [], _, [] => true
  | f :: fs, off, k :: ks => (match P.underlying f.type with
    | some D => kfits k D
    | none => false) && Nat.beq f.offset off && !(f.name == "_") && fldsOk P fs (off + 1) ks
  | _, _, _ => false
def eqk : Kd → Value → Value → Option Bool
  | .i _, .int k a, .int k' b => if k = k' then some (decide (a = b)) else none
  | .s, .string a, .string b => some (decide (a.data.toList = b.data.toList))
  | .b, .bool a, .bool b => some (decide (a = b))
  | _, _, _ => none
def eqks : List Kd → List Value → List Value → Option Bool
  | [], [], [] => some true
  | k :: ks, x :: xs, y :: ys => match eqk k x y, eqks ks xs ys with
    | some a, some b => some (a && b)
    | _, _ => none
  | _, _, _ => none
theorem eqk_of {k : Kd} {D : TypeDesc} {a b : Value} {r : Bool} (hk : kfits k D = true) (h : eqk k a b = some r) : eqv D a b = some r ∧ isAggD D = false := by
  cases k <;> cases D <;> simp only [kfits, Bool.false_eq_true] at hk <;> cases a <;> cases b <;> simp only [eqk] at h <;> try (cases h; done)
  all_goals exact ⟨by simpa only [eqv] using h, rfl⟩
theorem eqvs_of {r : Bool} : ∀ (fs : List Field) (off : Nat) (ks : List Kd) (xs ys : List Value) (r : Bool), fldsOk P fs off ks = true → eqks ks xs ys = some r → eqvs P fs off xs ys = some r
  | [], _, [], [], [], r, _, h => h
  | [], _, [], [], _ :: _, r, _, h => by simp [eqks] at h
  | [], _, [], _ :: _, [], r, _, h => by simp [eqks] at h
  | [], _, [], _ :: _, _ :: _, r, _, h => by simp [eqks] at h
  | [], _, _ :: _, _, _, r, h, _ => by simp [fldsOk] at h
  | _ :: _, _, [], _, _, r, h, _ => by simp [fldsOk] at h
  | f :: fs, off, k :: ks, [], _, r, _, h => by simp [eqks] at h
  | f :: fs, off, k :: ks, _ :: _, [], r, _, h => by simp [eqks] at h
  | f :: fs, off, k :: ks, x :: xs, y :: ys, r, hf, h => by
    simp only [fldsOk, Bool.and_eq_true] at hf
    obtain ⟨⟨⟨h1, h2⟩, h3⟩, h4⟩ := hf
    simp only [eqks] at h
    cases ha : eqk k x y with
    | none => rw [ha] at h; cases h
    | some a =>
      rw [ha] at h
      cases hb : eqks ks xs ys with
      | none => rw [hb] at h; cases h
      | some b =>
        rw [hb] at h
        cases hu : P.underlying f.type with
        | none => rw [hu] at h1; cases h1
        | some D =>
          rw [hu] at h1
          obtain ⟨e1, e2⟩ := eqk_of h1 ha
          have ih := eqvs_of (r := b) fs (off + 1) ks xs ys b h4 hb
          have hn : f.name ≠ "_" := by simpa using h3
          simp only [eqvs, hu]
          rw [if_pos ⟨Nat.eq_of_beq_eq_true h2, hn, e2⟩, e1, ih]
          exact h
theorem steq {ks : List Kd} {xs ys : List Value} {r : Bool} (hk : fldsOk P (P.fieldsOf T).toList 0 ks = true) (hr : eqks ks xs ys = some r) : eqvs P (P.fieldsOf T).toList 0 xs ys = some r := eqvs_of (r := r) _ 0 ks xs ys r hk hr
end
end Go.Xp

/- Layer 9 (paxrec): keys, Check, Size. -/
set_option maxRecDepth 100000
namespace Go.Xp
open Go.Proofs

def sidx : List (List UInt8) → List UInt8 → Nat → Int
  | [], _, _ => -1
  | a :: r, x, k => if x = a then (k : Int) else sidx r x (k + 1)
theorem sidx_mem : ∀ (l : List (List UInt8)) (x : List UInt8) (k : Nat), 0 ≤ sidx l x k ↔ x ∈ l
  | [], x, k => by simp [sidx]
  | a :: r, x, k => by
    have := sidx_mem r x (k + 1)
    unfold sidx
    split
    · rename_i h; simp [h]
    · rename_i h; rw [this]; simp [h]
theorem sidx_skip {l : List (List UInt8)} {x : List UInt8} : ∀ {i : Nat}, i ≤ l.length → (∀ k, k < i → ¬ x = at_str l k) → sidx l x 0 = sidx (l.drop i) x i
  | 0, _, _ => by simp
  | i + 1, h, hd => by
    rw [sidx_skip (i := i) (by omega) (fun k hk => hd k (by omega)), List.drop_eq_getElem_cons (by omega)]
    have := hd i (by omega)
    rw [at_str, List.getD_eq_getElem?_getD, List.getElem?_eq_getElem (by omega)] at this
    rw [sidx, if_neg (by simpa using this)]
theorem sidx_at {l : List (List UInt8)} {x : List UInt8} {i : Nat} (h : i < l.length) (hd : ∀ k, k < i → ¬ x = at_str l k) (hx : x = at_str l i) : sidx l x 0 = i := by
  rw [sidx_skip (by omega) hd, List.drop_eq_getElem_cons h, sidx, if_pos]
  rw [hx, at_str, List.getD_eq_getElem?_getD, List.getElem?_eq_getElem h]; rfl

theorem slices_IndexS (h : Heap) (v : Value) (l : List (List UInt8)) (hl : Rows strS h v l) (x : List UInt8) (hn : l.length ≤ 140737488355328) : Cal Tryz.prog 144 #[v, str x] h (fun v h' => v = .int .i64 (sidx l x 0) ∧ h' = h) := by
 refine Ce Tryz.func144 fun σ => ?_
 refine Wa ?_
 refine Ln (Xt (Wq (Wq (Wg ?_))))
 refine Mv ?_
 refine Ly (Y_lenr Tryz.underlying160 rfl hl) ?_
 refine Mv ?_
 refine Ln (Xt (Wb ?_))
 refine W_loop (S := Nat) (fun i => [(7, .int .i64 ((l.length : Int))), (0, v), (1, str x), (8, .int .i64 ((i : Int)))]) (fun i h' => i ≤ l.length ∧ (∀ k, k < i → ¬ x = at_str l k) ∧ h' = h) (fun i => l.length - i) 0 (tk4 7 0 1 8) ?_ ?_
 ·exact ⟨Nat.zero_le _, (fun _ hk => absurd hk (Nat.not_lt_zero _)), rfl⟩
 rintro i h ⟨hi, hip, rfl⟩
 show W _ _ _ _ _ [(7, .int .i64 ((l.length : Int))), (0, v), (1, str x), (8, .int .i64 ((i : Int)))] _
 refine Wr ?_
 refine Ly Yls ?_
 refine Ln (Xt (Wq ?_))
 refine Sd (fun hl2 => ?_) fun hl2 => ?_
 ·refine Wk (Xt (Wq (Wb (Wq (Wg ?_)))))
  refine Mv ?_
  refine Av ?_
  refine Ln (Xt (Wq (Wg ?_)))
  refine M2 ?_
  refine Mv ?_
  refine Ly (Y_idxr Tryz.underlying160 (show _ = some 1 by kernel_rfl) rfl rfl rfl hl (by omega) (by omega)) ?_
  refine Ly (Y_ldr0 (k := ((i : Int)).toNat) Tryz.underlying9 rfl rfl rfl hl (by omega) rfl) ?_
  refine Ly (Y_seql rfl rfl) ?_
  refine Nx ?_
  refine Wu _ (tk6 16 5 7 0 1 8) ?_
  refine Sd (fun hne => ?_) fun hne => ?_
  ·refine Wm ?_
   refine Av ?_
   refine Ln (Xt (Wt (Yr (Xr (Xr (Yr (Xr ?_)))))))
   refine Xv1 ?_
   exact ⟨by rw [sidx_at (i := i) (by omega) hip (hne)], rfl⟩
  refine Wk (Xb (Xt (Wg ?_)))
  refine Lad ?_
  refine Mv ?_
  refine Ln ?_
  refine X_loop (i + 1) (tk4 7 0 1 8) ?_ ?_
  ·exact ⟨by omega, (step_ne hip (hne)), rfl⟩
  (try dsimp only)
  omega
 refine W_exit ?_
 refine Xe (Xe ?_)
 refine X_block_hit ?_
 refine Xt (Wq (Wg ?_))
 refine Av ?_
 refine Ln (Xt (Wt ?_))
 refine Xv1 ?_
 have hi9 : i = l.length := by omega
 exact ⟨by rw [sidx_skip (i := i) (by omega) hip, hi9, List.drop_length]; rfl, rfl⟩
theorem slices_ContainsS (h : Heap) (v : Value) (l : List (List UInt8)) (hl : Rows strS h v l) (x : List UInt8) (hn : l.length ≤ 140737488355328) : Cal Tryz.prog 117 #[v, str x] h (fun v h' => v = .bool (decide (x ∈ l)) ∧ h' = h) := by
 refine Ce Tryz.func117 fun σ => ?_
 refine Wa ?_
 refine Ln (Xt (Wq (Wg ?_)))
 refine M2 ?_
 refine Lc (slices_IndexS _ v l hl x (by first | omega | rfl | (simp <;> omega))) ?_
 rintro _ h ⟨rfl, rfl⟩
 refine Ly (Y_geq rfl rfl) ?_
 refine An ?_
 refine Wu _ (tk1 4) ?_
 refine Wt ?_
 refine Xv1 ?_
 exact ⟨by simp only [sidx_mem], rfl⟩

/-! ### Check -/
def rerr (k v : List UInt8) : Int :=
  if k = [115, 105, 122, 101] then nerr v 1099511627776
  else if k = [108, 105, 110, 107, 112, 97, 116, 104] ∨ k = [112, 97, 116, 104] then (if 65536 < v.length then 7 else if v = [] ∨ (0 : UInt8) ∈ v then 6 else 0)
  else 17
theorem rerr_key {k v : List UInt8} (h : ¬ k ∈ [[108, 105, 110, 107, 112, 97, 116, 104], [112, 97, 116, 104], [115, 105, 122, 101]]) : rerr k v = 17 := by
  simp only [List.mem_cons, List.not_mem_nil, or_false, not_or] at h
  unfold rerr; rw [if_neg h.2.2, if_neg (fun e => e.elim h.1 h.2.1)]
theorem rerr_path {k v : List UInt8} (h : k ∈ [[108, 105, 110, 107, 112, 97, 116, 104], [112, 97, 116, 104], [115, 105, 122, 101]]) (h2 : ¬ k = [115, 105, 122, 101]) : rerr k v = (if 65536 < v.length then 7 else if v = [] ∨ (0 : UInt8) ∈ v then 6 else 0) := by
  simp only [List.mem_cons, List.not_mem_nil, or_false] at h
  unfold rerr; rw [if_neg h2, if_pos (h.elim .inl (fun h => h.elim .inr (fun h => absurd h h2)))]

theorem rec_Check (h : Heap) (hK : GlbK h) (hE : GlbE h) (kk : List UInt8) (vv : List UInt8) (h1 : vv.length ≤ 140737488355328) : Cal Tryz.prog 82 #[.agg #[str kk, str vv]] h (fun v h' => v = .int .i64 (rerr kk vv) ∧ Ext h h') := by
 refine Ce Tryz.func82 fun σ => ?_
 refine Wr ?_
 refine L_mks (M_box rfl) rfl rfl rfl ?_
 rintro _ h1 ⟨rfl, hn1⟩
 have hk2 : Blk h1 h.size [str kk, str vv] := hn1.blk
 refine Av ?_
 refine Ln (Xt (Wq (Wq ?_)))
 refine W_quiet (fun h' => h' = h1) (by kernel_rfl) (by kernel_rfl) rfl ?_
 have hb3 : Rows strS h1 (.slice (some ⟨13, 0, none⟩) 3 3) ([[108, 105, 110, 107, 112, 97, 116, 104], [112, 97, 116, 104], [115, 105, 122, 101]]) := Cls.rowsS (l := [[108, 105, 110, 107, 112, 97, 116, 104], [112, 97, 116, 104], [115, 105, 122, 101]]) (hK.ext hn1.ext).g0 rfl (by decide)
 refine Qy (Y_arrall Tryz.underlying200 (show _ = some 1 by kernel_rfl) (by decide) rfl) ?_
 refine Qy (Y_fieldAddr (off := 0) (by kernel_rfl) rfl rfl) ?_
 refine Qy (Y_ldblk Tryz.underlying9 rfl rfl hk2 rfl) ?_
 refine LQ_call (v := .bool (decide (kk ∈ [[108, 105, 110, 107, 112, 97, 116, 104], [112, 97, 116, 104], [115, 105, 122, 101]]))) (fun _ _ => E_call (by kernel_rfl) rfl) (fun h_ hI_ => by subst hI_; exact (slices_ContainsS _ (.slice (some ⟨13, 0, none⟩) 3 3) [[108, 105, 110, 107, 112, 97, 116, 104], [112, 97, 116, 104], [115, 105, 122, 101]] hb3 kk (by first | omega | rfl | (simp <;> omega)))) rfl rfl rfl ?_
 refine Qy (Y_notd rfl) ?_
 refine LQ_nil ?_
 rintro h1 rfl
 refine Xt ?_
 refine Sd (fun c => ?_) fun c => ?_
 ·refine Wa ?_
  refine Nx ?_
  refine Wu _ (tk2 2 1) ?_
  refine Wt (Xr ?_)
  refine Xv1 ?_
  exact ⟨by rw [rerr_key c], hn1.ext⟩
 refine Ws ?_
 refine Wu _ (tk2 2 1) ?_
 have c' := Classical.not_not.1 c
 refine Wq (Wq (Wg ?_))
 refine Lf 0 ?_
 refine Lb Tryz.underlying9 hk2 ?_
 refine Ly (Y_seql rfl rfl) ?_
 refine Nx ?_
 refine Sd (fun z => ?_) fun z => ?_
 ·refine Wr ?_
  refine Lf 1 ?_
  refine Lb Tryz.underlying9 hk2 ?_
  refine Lc (rec_number _ (hE.ext hn1.ext) vv (1099511627776 : Int) (by first | omega | rfl | (simp <;> omega)) (by first | omega | rfl | (simp <;> omega))) ?_
  rintro _ h2 ⟨rfl, hx4⟩
  refine Mx ?_
  refine A2 ?_
  refine Nx ?_
  refine Wu _ (tk3 4 2 1) ?_
  refine Wm ?_
  refine Av ?_
  refine Ln (Xt (Wt (Xr ?_)))
  refine Xv1 ?_
  exact ⟨by unfold rerr; rw [if_pos z], (hn1.ext.trans hx4)⟩
 refine Wk (Xt (Wq (Wb (Wq (Wg ?_)))))
 refine Lf 1 ?_
 refine Lb Tryz.underlying9 hk2 ?_
 refine Ly (Y_slen Tryz.underlying9 rfl) ?_
 refine Ly (Y_gtr rfl rfl) ?_
 refine An ?_
 refine Wu _ (tk3 20 2 1) ?_
 refine Sd (fun g => ?_) fun g => ?_
 ·refine Wa ?_
  refine Ln (Xt (Wt (Yr (Xr ?_))))
  refine Xv1 ?_
  exact ⟨by rw [rerr_path c' z, if_pos (by omega)], hn1.ext⟩
 refine Wc [(25, .bool (decide ((vv = []) ∨ (0 ≤ (Lib.indexByte vv (0 : Int).toNat.toUInt8))))), (2, .int .i64 0)] (fun h' => h' = h1) ?_ ?_
 ·refine Wg ?_
  refine Lf 1 ?_
  refine Lb Tryz.underlying9 hk2 ?_
  refine Ly (Y_seql rfl rfl) ?_
  refine Mv ?_
  refine L_splitd (d := 29) rfl (fun c5 => ?_) (fun c5 => ?_)
  ·refine Sk2 ?_
   refine Sk2 ?_
   refine Ly Ypt ?_
   refine Av ?_
   refine Ln ?_
   exact X_cut () (sk1 25 (lkb rfl (by first | (simp only [eq_true c5, SB]; done) | (simp only [eq_true c5, SB]; rfl))) (tk1 2)) rfl
  refine Lf 1 ?_
  refine Lb Tryz.underlying9 hk2 ?_
  refine Lc (strings_IndexByte _ vv (0 : Int)) ?_
  rintro _ h1 ⟨rfl, rfl⟩
  refine Ly (Y_geq rfl rfl) ?_
  refine Ly Ypf ?_
  refine Av ?_
  refine Ln ?_
  exact X_cut () (sk1 25 (lkb rfl (by first | (simp only [eq_false c5, SB]; done) | (simp only [eq_false c5, SB]; rfl))) (tk1 2)) rfl
 rintro h1 rfl
 refine Sd (fun b => ?_) fun b => ?_
 ·refine Wa ?_
  refine Ln (Xt (Wt (Yr (Xr ?_))))
  refine Xv1 ?_
  have b' : vv = [] ∨ (0 : UInt8) ∈ vv := b.imp id (fun b => (indexByte_mem _ _).1 b)
  exact ⟨by rw [rerr_path c' z, if_neg (by omega), if_pos b'], hn1.ext⟩
 refine Wk (Xb (Xt (Wq (Wg ?_))))
 refine Av ?_
 refine Ln (Xt (Wt ?_))
 refine Xv1 ?_
 have b' : ¬ (vv = [] ∨ (0 : UInt8) ∈ vv) := fun e => b (e.imp id (fun e => (indexByte_mem _ _).2 e))
 exact ⟨by rw [rerr_path c' z, if_neg (by omega), if_neg b'], hn1.ext⟩

/-! ### Size -/
theorem nDigits_mono : ∀ {b a : Nat}, a ≤ b → Lib.nDigits a ≤ Lib.nDigits b := by
  intro b
  induction b using Nat.strongRecOn with
  | ind b ih =>
    intro a h
    rcases Nat.lt_or_ge a 10 with h1 | h1
    · rw [Lib.nDigits_small h1]; exact Lib.nDigits_pos b
    · rw [Lib.nDigits_big (by omega), Lib.nDigits_big (u := b) (by omega)]
      have := ih (b / 10) (by omega) (a := a / 10) (by omega)
      omega
def pgo (rest : Nat) : Nat → Nat → Nat
  | 0, d => d
  | f + 1, d => if Lib.nDigits (rest + d) ≤ d then d else pgo rest f (d + 1)
/-- How many digits the number of a record's length has, and that number. -/
def pdig (rest : Nat) : Nat := pgo rest 24 1
def psz (rest : Nat) : Nat := rest + pdig rest
theorem pgo_ok {rest : Nat} (hr : rest ≤ 1152921504606846976) : ∀ (f d : Nat), 24 ≤ f + d → d ≤ 25 → (∀ e, 1 ≤ e → e < d → e < Lib.nDigits (rest + e)) → d ≤ pgo rest f d ∧ pgo rest f d ≤ 25 ∧ Lib.nDigits (rest + pgo rest f d) ≤ pgo rest f d ∧ ∀ e, 1 ≤ e → e < pgo rest f d → e < Lib.nDigits (rest + e)
  | 0, d, h, h1, hd => by
    have := nDigits_le (u := rest + d) (by omega)
    exact ⟨Nat.le_refl _, h1, by unfold pgo; omega, hd⟩
  | f + 1, d, h, h1, hd => by
    by_cases hc : Lib.nDigits (rest + d) ≤ d
    · have e : pgo rest (f + 1) d = d := by rw [pgo, if_pos hc]
      rw [e]; exact ⟨Nat.le_refl _, h1, hc, hd⟩
    · have hn := nDigits_le (u := rest + d) (by omega)
      have e : pgo rest (f + 1) d = pgo rest f (d + 1) := by rw [pgo, if_neg hc]
      have := pgo_ok hr f (d + 1) (by omega) (by omega) (fun e h2 h3 => by
        rcases Nat.lt_or_ge e d with h4 | h4
        · exact hd e h2 h4
        · obtain rfl : e = d := by omega
          omega)
      rw [e]; exact ⟨by omega, this.2⟩
theorem pdig_ok {rest : Nat} (hr : rest ≤ 1152921504606846976) : 1 ≤ pdig rest ∧ pdig rest ≤ 25 ∧ Lib.nDigits (rest + pdig rest) = pdig rest ∧ ∀ e, 1 ≤ e → e < pdig rest → e < Lib.nDigits (rest + e) := by
  obtain ⟨h1, h2, h3, h4⟩ := pgo_ok hr 24 1 (by omega) (by omega) (fun e h2 h3 => by omega)
  refine ⟨h1, h2, Nat.le_antisymm h3 ?_, h4⟩
  have h5 : pgo rest 24 1 = pdig rest := rfl
  rw [h5] at h1 h4
  rcases Nat.lt_or_ge 1 (pdig rest) with h6 | h6
  · have h7 := h4 (pdig rest - 1) (by omega) (by omega)
    have h8 := nDigits_mono (a := rest + (pdig rest - 1)) (b := rest + pdig rest) (by omega)
    omega
  · have := Lib.nDigits_pos (rest + pdig rest); omega
theorem itoa_len {n : Int} (h : 0 ≤ n) : (Lib.itoa n).length = Lib.nDigits n.toNat := by
  unfold Lib.itoa; rw [if_neg (by omega), Lib.decDigits_length]
theorem itoa_pos {n : Int} (h : 0 ≤ n) : Lib.itoa n = Lib.decDigits n.toNat := by
  unfold Lib.itoa; rw [if_neg (by omega)]
/-- The length of what stands behind the number. -/
def rrest (k v : List UInt8) : Nat := k.length + v.length + 3

theorem rec_Size (h : Heap) (hN : GlbN h) (kk : List UInt8) (vv : List UInt8) (h1 : kk.length ≤ 140737488355328) (h2 : vv.length ≤ 140737488355328) : Cal Tryz.prog 84 #[.agg #[str kk, str vv]] h (fun v h' => v = .int .i64 ((psz (rrest kk vv) : Int)) ∧ Ext h h') := by
 have hr : rrest kk vv ≤ 1152921504606846976 := by unfold rrest; omega
 have hp := pdig_ok hr
 refine Ce Tryz.func84 fun σ => ?_
 refine Wr ?_
 refine L_mks (M_box rfl) rfl rfl rfl ?_
 rintro _ h1 ⟨rfl, hn1⟩
 have hk2 : Blk h1 h.size [str kk, str vv] := hn1.blk
 refine Av ?_
 refine Ln (Xt (Wq (Wg ?_)))
 refine Lf 0 ?_
 refine Lb Tryz.underlying9 hk2 ?_
 refine Ly (Y_slen Tryz.underlying9 rfl) ?_
 refine Lf 1 ?_
 refine Lb Tryz.underlying9 hk2 ?_
 refine Ly (Y_slen Tryz.underlying9 rfl) ?_
 refine Lad ?_
 refine Lad ?_
 refine An ?_
 refine Wu _ (tk2 3 2) ?_
 refine Wm ?_
 refine Lad ?_
 refine Av ?_
 refine Ln (Xt (Wq (Wq (Wg ?_))))
 refine Av ?_
 refine Ln (Xt (Wb ?_))
 refine W_loop (S := Nat) (fun d => [(3, .int .i64 (((kk.length : Int) + (vv.length : Int)) + 3)), (2, .int .i64 0), (4, .int .i64 (((rrest kk vv + d : Nat) : Int))), (5, .int .i64 ((d : Int)))]) (fun d h' => 1 ≤ d ∧ d ≤ pdig (rrest kk vv) ∧ Ext h1 h') (fun d => 26 - d) 1 (sk2 3 2 rfl rfl (sk1 4 (lki rfl (by unfold rrest; omega)) (tk1 5))) ?_ ?_
 ·exact ⟨by omega, by omega, Ext.refl _⟩
 rintro d h2 ⟨hd1, hd2, hx⟩
 show W _ _ _ _ _ [(3, .int .i64 (((kk.length : Int) + (vv.length : Int)) + 3)), (2, .int .i64 0), (4, .int .i64 (((rrest kk vv + d : Nat) : Int))), (5, .int .i64 ((d : Int)))] _
 have hil := itoa_len (n := ((rrest kk vv + d : Nat) : Int)) (by omega)
 rw [Int.toNat_natCast] at hil
 refine Wq (Wq (Wg ?_))
 refine Mv ?_
 refine Lc (strconv_Itoa _ (hN.ext (hn1.ext.trans hx)) ((rrest kk vv + d : Nat) : Int) (by first | omega | rfl | (simp <;> omega))) ?_
 rintro _ h3 ⟨rfl, hx3⟩
 refine Ly (Y_slen Tryz.underlying9 rfl) ?_
 refine Mv ?_
 refine Ly (Y_gtr rfl rfl) ?_
 refine Nx ?_
 refine Sd (fun hl => ?_) fun hl => ?_
 ·refine Ws ?_
  have hlt : d < pdig (rrest kk vv) := by rcases Nat.lt_or_ge d (pdig (rrest kk vv)) with h9 | h9; exact h9; exfalso; obtain rfl : d = pdig (rrest kk vv) := (by omega); rw [hil] at hl; omega
  refine Wb (Wq (Wg ?_))
  refine Mv ?_
  refine Lad ?_
  refine An ?_
  refine Wu _ (tk4 5 3 2 4) ?_
  refine Wg ?_
  refine M2 ?_
  refine Lad ?_
  refine Av ?_
  refine Ln (Xb ?_)
  refine X_loop (d + 1) (sk2 3 2 rfl rfl (sk1 4 (lki rfl (by unfold rrest; omega)) (tk1 5))) ?_ ?_
  ·exact ⟨by omega, by omega, (hx.trans hx3)⟩
  (try dsimp only)
  omega
 refine W_exit ?_
 refine Xe (Xe ?_)
 refine X_block_hit ?_
 refine Xt ?_
 refine Wu _ (tk2 2 4) ?_
 refine Wm ?_
 refine Av ?_
 refine Ln (Xt (Wt ?_))
 refine Xv1 ?_
 have h9 : d = pdig (rrest kk vv) := by rcases Nat.lt_or_ge d (pdig (rrest kk vv)) with h9 | h9; have := hp.2.2.2 d (by omega) h9; rw [hil] at hl; omega; omega
 exact ⟨by rw [h9]; rfl, ((hn1.ext.trans hx).trans hx3)⟩

end Go.Xp
