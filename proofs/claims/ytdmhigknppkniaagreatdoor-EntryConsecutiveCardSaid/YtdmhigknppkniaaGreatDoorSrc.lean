/- Layers 4 and 6 (source, block): reading a stream. -/
import Derived.Test.YtdmhigknppkniaaGreatDoorStm
import Derived.Test.YtdmhigknppkniaaGreatDoorMerge
import Derived.Test.YtdmhigknppkniaaGreatDoorBye
set_option linter.unusedSimpArgs false
set_option linter.unusedVariables false
set_option linter.unusedSectionVars false
set_option maxRecDepth 100000
namespace Go.Xp
open Go.Proofs

section
variable {P : Program} {n : Nat} {e : Env} {h : Heap} {d : Option Tmp} {t : TypeId} {pos : String} {af : Array Edge} {g : Option (Nat × Bool)} {k : IntKind} {p q r : Int} {x y z : Operand}
theorem Y_pnil {T T' : TypeId} {ad : Option Addr} (hT : P.underlying T = some (.pointer (P.pointee T))) (hx : ev e x = some (.pointer ad)) (hy : ev e y = some (.pointer none)) : Yld P n e h ⟨d, .binOp .eql T x y T', t, pos, af, g⟩ (.bool ad.isNone) := fun w a _ he => by
  simp only [execOp, he.eval hx, he.eval hy, eqGuard, Sem.run_bind, Sem.run_pure, Result.andThen_ok, run_eql_pointer_nil w T ad hT, Bool.not_true, Bool.not_false, Bool.false_eq_true, if_false, ite_self]
theorem Y_min3 {A : Array TypeId} (hx : ev e x = some (.int k p)) (hy : ev e y = some (.int k q)) (hz : ev e z = some (.int k r)) : Yld P n e h ⟨d, .call { callee := .builtin .min, args := #[x, y, z], argTypes := A }, t, pos, af, g⟩ (.int k (min (min p q) r)) := fun w a _ he => by
  have h1 : (if q < p then q else p) = min p q := by rw [Int.min_def]; split <;> split <;> omega
  have h2 : (if r < min p q then r else min p q) = min (min p q) r := by rw [Int.min_def (n := min p q)]; split <;> split <;> omega
  simp [execOp, resolve, invoke, builtin, he.eval hx, he.eval hy, he.eval hz, Builtin.min_, Builtin.min2, h1, h2]
end
section
variable {P : Program} {n : Nat} {e : Env} {h : Heap} {d : Option Tmp} {t : TypeId} {pos : String} {af : Array Edge} {g : Option (Nat × Bool)} {T E : TypeId}
/-- make([]byte, 0, c). -/
theorem M_mkcap {lo hi : Operand} {kd kd' : IntKind} {c : Int} (hT : P.underlying T = some (.slice E)) (hE : elemRow P E 1 1 (.int .u8 0)) (hl : ev e lo = some (.int kd 0)) (hh : ev e hi = some (.int kd' c)) (h0 : 0 ≤ c ∧ c ≤ 100000) :
    Mks P n e h ⟨d, .makeSlice T lo hi, t, pos, af, g⟩ (fun u h' => OwnB h' h.size u [] ∧ Ext h h') := fun w a hw he => by
  subst hw
  unfold elemRow at hE
  cases hi' : P.info? E with
  | none => rw [hi'] at hE; cases hE
  | some i =>
    rw [hi'] at hE
    simp only [Option.map_some, Option.some.injEq, Prod.mk.injEq] at hE
    obtain ⟨h1, h2, h3⟩ := hE
    have r1 := run_make (P := P) w T E i (.int .u8 0) hT hi' h3 kd kd' 0 c (by decide) h0.1 (by rw [h2]; omega) (by omega)
    rw [h1, Nat.mul_one] at r1
    change Sem.run P (Instr.makeSlice T (.int kd 0) (.int kd' c)) w = .ok (.slice (some ⟨w.heap.size, 0, none⟩) 0 c.toNat) _ at r1
    have hn := new_push w.heap (madeCells (Value.int IntKind.u8 0).cells c.toNat).toList E
    rw [Array.toArray_toList] at hn
    refine ⟨.slice (some ⟨w.heap.size, 0, none⟩) 0 c.toNat, w.alloc (.cells (madeCells (Value.int IntKind.u8 0).cells c.toNat) E), by simp [execOp, he.eval hl, he.eval hh, r1], rfl, ?_, ?_⟩
    · have hb := hn.blk
      refine ⟨by simp, .inr ⟨w.heap.size, c.toNat, (madeCells (Value.int IntKind.u8 0).cells c.toNat).toList, rfl, Nat.le_refl _, hb, ?_, Nat.zero_le _⟩⟩
      rw [show (Value.int IntKind.u8 0).cells = #[.int .u8 0] from rfl, madeCells_one]; simp
    · exact hn.ext
end
theorem blockOf_cut {z lo hi : Nat} {v : Value} {d : Nat} (h : blockOf (slcut z lo hi v) = some d) : blockOf v = some d := by
  cases v with
  | slice a n cap =>
    have e0 : slcut z lo hi (.slice a n cap) = .slice (if cap = lo then a else a.map (·.add (lo * z))) (hi - lo) (cap - lo) := rfl
    rw [e0] at h
    cases a with
    | none =>
      split at h
      · exact h
      · exact h
    | some a =>
      split at h
      · exact h
      · have h2 : (a.add (lo * z)).block = a.block := by unfold Addr.add; split <;> rfl
        simp only [Option.map_some, blockOf, h2] at h ⊢
        exact h
  | _ => exact h
theorem Rows.onlyI {h h' : Heap} {v : Value} {C : List Int} {bs : List Nat} (x : Rows intS h v C) (y : Only bs h h') (hb : ∀ b, blockOf v = some b → b ∉ bs) : Rows intS h' v C :=
  ⟨Row.only x.1 y hb, fun a ha => trivial⟩
/-- What stands of a source in memory: its box s, its bytes and chunks, in blocks from lo on and ahead of hi, away from the box r. -/
structure SrcA (lo hi : Nat) (h : Heap) (s r : Nat) (D : List UInt8) (f : Int) (p : Nat) : Prop where
  st : ∃ vr vc C rd, Blk h s [vr, vc, .int .i64 f, .int .i64 p, .int .i64 rd] ∧ Bytes h vr (D.drop p) ∧ Rows intS h vc C ∧ (0 ≤ rd ∧ rd ≤ p) ∧ C.length ≤ 1000000000 ∧
    (∀ d, blockOf vr = some d → (lo ≤ d ∧ d < hi) ∧ d ≠ s ∧ d ≠ r) ∧ (∀ d, blockOf vc = some d → (lo ≤ d ∧ d < hi) ∧ d ≠ s ∧ d ≠ r)
  le : p ≤ D.length
  rg : (lo ≤ s ∧ s < hi) ∧ s ≠ r ∧ hi ≤ h.size
section
variable {lo hi : Nat} {h h' : Heap} {s r : Nat} {D : List UInt8} {f : Int} {p : Nat} {bs : List Nat}
/-- Writes elsewhere. -/
theorem SrcA.out (S : SrcA lo hi h s r D f p) (y : Only bs h h') (hb : ∀ b ∈ bs, (b < lo ∨ hi ≤ b) ∨ b = r) : SrcA lo hi h' s r D f p := by
  obtain ⟨⟨vr, vc, C, rd, a1, a2, a3, a4, a5, a6, a7⟩, le, rg⟩ := S
  refine ⟨⟨vr, vc, C, rd, a1.only y (fun q => ?_), Bytes.only a2 y (fun d hd q => ?_), a3.onlyI y (fun d hd q => ?_), a4, a5, a6, a7⟩, le, rg.1, rg.2.1, nt rg.2.2 y.size⟩
  · rcases hb _ q with c | c
    · omega
    · exact rg.2.1 c
  · have := a6 d hd
    rcases hb _ q with c | c
    · omega
    · exact this.2.2 c
  · have := a7 d hd
    rcases hb _ q with c | c
    · omega
    · exact this.2.2 c
theorem SrcA.ext (S : SrcA lo hi h s r D f p) (y : Ext h h') : SrcA lo hi h' s r D f p := S.out y (fun b q => absurd q List.not_mem_nil)
theorem SrcA.lt (S : SrcA lo hi h s r D f p) : s < h.size := ntl S.rg.1.2 S.rg.2.2
end
def chk (C : List Int) (rd : Int) : Int := if (C.length : Int) = 0 then 1048576 else max 1 (at_int C (rd % (C.length : Int)).toNat)
theorem chk_pos (C : List Int) (rd : Int) : 1 ≤ chk C rd := by unfold chk; split <;> omega
theorem source_chunk (h : Heap) (s : Nat) (vr : Value) (L : List UInt8) (hr : Bytes h vr L) (vc : Value) (C : List Int) (hc : Rows intS h vc C) (f : Int) (q : Int) (rd : Int) (hb : Blk h s [vr, vc, .int .i64 f, .int .i64 q, .int .i64 rd]) (hC : C.length ≤ 1000000000) (hrd : 0 ≤ rd) : Cal Tryz.prog 92 #[.pointer (some ⟨s, 0, none⟩)] h (fun v h' => v = .int .i64 (chk C rd) ∧ h' = h) := by
 refine Ce Tryz.func92 fun σ => ?_
 refine Wa ?_
 refine Ln (Xt (Wq (Wq (Wg ?_))))
 refine Mv ?_
 refine Ly (Y_nilCheck rfl) ?_
 refine Lf 1 ?_
 refine Lb Tryz.underlying23 hb ?_
 refine Ly (Y_lenr Tryz.underlying23 rfl hc) ?_
 refine Ly Yeq ?_
 refine Nx ?_
 refine Sd (fun c => ?_) fun c => ?_
 ·refine Wa ?_
  refine Nx ?_
  refine Wu _ (tk2 2 0) ?_
  refine Wt (Xr ?_)
  refine Xv1 ?_
  exact ⟨by unfold chk; rw [if_pos c], rfl⟩
 refine Ws ?_
 refine Wu _ (tk2 2 0) ?_
 refine Wq ?_
 refine W_quiet (fun h' => h' = h) (by kernel_rfl) (by kernel_rfl) rfl ?_
 refine Qm ?_
 refine Qy (Y_nilCheck rfl) ?_
 refine Qy (Y_fieldAddr (off := 1) (by kernel_rfl) rfl rfl) ?_
 refine Qy (Y_ldblk Tryz.underlying23 rfl rfl hb rfl) ?_
 refine Qm ?_
 refine Qy (Y_nilCheck rfl) ?_
 refine Qy (Y_fieldAddr (off := 4) (by kernel_rfl) rfl rfl) ?_
 refine Qy (Y_ldblk Tryz.underlying3 rfl rfl hb rfl) ?_
 refine Qm ?_
 refine Qy (Y_nilCheck rfl) ?_
 refine Qy (Y_fieldAddr (off := 1) (by kernel_rfl) rfl rfl) ?_
 refine Qy (Y_ldblk Tryz.underlying23 rfl rfl hb rfl) ?_
 refine Qy (Y_lenr Tryz.underlying23 rfl hc) ?_
 refine Qy (Y_rem rfl rfl (by omega) (by omega)) ?_
 refine Qy (Y_idxr Tryz.underlying23 (show _ = some 1 by kernel_rfl) rfl rfl rfl hc (by first | (have h1 := Int.emod_nonneg rd (show (C.length : Int) ≠ 0 by omega); have h2 := Int.emod_lt_of_pos rd (show 0 < (C.length : Int) by omega); omega)) (by first | (have h1 := Int.emod_nonneg rd (show (C.length : Int) ≠ 0 by omega); have h2 := Int.emod_lt_of_pos rd (show 0 < (C.length : Int) by omega); omega))) ?_
 refine Qy (Y_ldr0 (k := (rd % (C.length : Int)).toNat) Tryz.underlying3 rfl rfl rfl hc (by first | (have h1 := Int.emod_nonneg rd (show (C.length : Int) ≠ 0 by omega); have h2 := Int.emod_lt_of_pos rd (show 0 < (C.length : Int) by omega); omega)) rfl) ?_
 refine Qy (Y_max rfl rfl) ?_
 refine Qa ?_
 refine LQ_nil ?_
 rintro h rfl
 refine Xt ?_
 refine Wu _ (tk1 2) ?_
 refine Wt ?_
 refine Xv1 ?_
 exact ⟨by unfold chk; rw [if_neg c]; rfl, rfl⟩
section
variable {D : List UInt8} {f n rd : Int} {p : Nat} {C : List Int}
theorem left_cases (hf : -9223372036854775808 ≤ f ∧ f ≤ 9223372036854775807) (hp : p ≤ 100000000000) : (IntKind.i64.wrap (f - (p : Int)) = f - (p : Int)) ∨ (f < (p : Int) ∧ IntKind.i64.wrap (f - (p : Int)) = f - (p : Int) + 18446744073709551616 ∧ 9000000000000000000 ≤ IntKind.i64.wrap (f - (p : Int))) := by
  by_cases c : -9223372036854775808 ≤ f - (p : Int)
  · exact .inl (wrap_i64 c (by omega))
  · refine .inr ?_
    have e : IntKind.i64.wrap (f - (p : Int)) = f - (p : Int) + 18446744073709551616 := by
      rw [IntKind.wrap_i64]
      omega
    omega
theorem amt0 (hf : -9223372036854775808 ≤ f ∧ f ≤ 9223372036854775807) (hl : D.length ≤ 100000000000) (hp : p ≤ D.length) (hn : 1 ≤ n ∧ n ≤ 512) (c2 : ¬ ((D.drop p).length : Int) = 0) (c3 : ¬ 0 < IntKind.i64.wrap (f - (p : Int))) (c1 : ¬ ((p : Int)) = f) : ∃ m : Nat, min (min n (chk C rd)) ((D.drop p).length : Int) = (m : Int) ∧ 1 ≤ m ∧ (m : Int) ≤ n ∧ p + m ≤ stp D f p := by
  have hk := chk_pos C rd
  have hw := left_cases (f := f) (p := p) hf (by omega)
  rw [List.length_drop] at *
  refine ⟨(min (min n (chk C rd)) ((D.length - p : Nat) : Int)).toNat, by omega, by omega, by omega, ?_⟩
  unfold stp
  rw [if_neg (by omega)]; omega
theorem amt1 (hf : -9223372036854775808 ≤ f ∧ f ≤ 9223372036854775807) (hl : D.length ≤ 100000000000) (hp : p ≤ D.length) (hn : 1 ≤ n ∧ n ≤ 512) (c2 : ¬ ((D.drop p).length : Int) = 0) (c3 : 0 < IntKind.i64.wrap (f - (p : Int))) : ∃ m : Nat, min (min (min n (chk C rd)) ((D.drop p).length : Int)) (IntKind.i64.wrap (f - (p : Int))) = (m : Int) ∧ 1 ≤ m ∧ (m : Int) ≤ n ∧ p + m ≤ stp D f p := by
  have hk := chk_pos C rd
  have hw := left_cases (f := f) (p := p) hf (by omega)
  rw [List.length_drop] at *
  refine ⟨(min (min (min n (chk C rd)) ((D.length - p : Nat) : Int)) (IntKind.i64.wrap (f - (p : Int)))).toNat, by omega, by omega, by omega, ?_⟩
  unfold stp
  split <;> omega
end
theorem drop_go {h : Heap} {v : Value} {D : List UInt8} {p m : Nat} (x : Bytes h v ((D.drop p).drop m)) : Bytes h v (D.drop (p + m)) := by rw [← List.drop_drop]; exact x
theorem source_Read (h : Heap) (s : Nat) (vr : Value) (D : List UInt8) (p : Nat) (hr : Bytes h vr (D.drop p)) (vc : Value) (C : List Int) (hc : Rows intS h vc C) (f : Int) (rd : Int) (hb : Blk h s [vr, vc, .int .i64 f, .int .i64 (p : Int), .int .i64 rd]) (n : Int) (hC : C.length ≤ 1000000000) (hrd : 0 ≤ rd ∧ rd ≤ p) (hl : D.length ≤ 100000000000) (hp : p ≤ D.length) (hn : 1 ≤ n ∧ n ≤ 512) (hf : -9223372036854775808 ≤ f ∧ f ≤ 9223372036854775807) (hvs : ∀ d, blockOf vr = some d → d ≠ s) : Cal Tryz.prog 46 #[.pointer (some ⟨s, 0, none⟩), .int .i64 (n)] h (fun v h' => (v = .tuple #[.slice none 0 0, .int .i64 (if (p : Int) = f then 11 else 4)] ∧ ((p : Int) = f ∨ D.length ≤ p) ∧ Ext h h') ∨ ∃ (m : Nat) (bv vr' : Value) (rd' : Int), v = .tuple #[bv, .int .i64 0] ∧ (1 ≤ m ∧ (m : Int) ≤ n ∧ p + m ≤ stp D f p) ∧ ¬ ((p : Int) = f ∨ D.length ≤ p) ∧ OwnB h' h.size bv ((D.drop p).take m) ∧ Only [s] h h' ∧ Blk h' s [vr', vc, .int .i64 f, .int .i64 ((p + m : Nat) : Int), .int .i64 rd'] ∧ Bytes h' vr' (D.drop (p + m)) ∧ (0 ≤ rd' ∧ rd' ≤ ((p + m : Nat) : Int)) ∧ ∀ d, blockOf vr' = some d → blockOf vr = some d) := by
 refine Ce Tryz.func46 fun σ => ?_
 refine Wa ?_
 refine Av ?_
 refine Ln (Xt (Wq (Wb (Wq (Wg ?_)))))
 refine Mv ?_
 refine Ly (Y_pnil (ad := some ⟨s, 0, none⟩) (show _ = some (TypeDesc.pointer (Tryz.prog.pointee 29)) by kernel_rfl) rfl rfl) ?_
 refine An ?_
 refine W_false rfl ?_
 refine Wm ?_
 refine Ly Yls ?_
 refine An ?_
 refine W_known false rfl (by exact decide_eq_false (by omega)) ?_
 refine Wq ?_
 refine W_quiet (fun h' => h' = h) (by kernel_rfl) (by kernel_rfl) rfl ?_
 refine Qm ?_
 refine Qy (Y_nilCheck rfl) ?_
 refine Qy (Y_fieldAddr (off := 3) (by kernel_rfl) rfl rfl) ?_
 refine Qy (Y_ldblk Tryz.underlying2 rfl rfl hb rfl) ?_
 refine Qm ?_
 refine Qy (Y_nilCheck rfl) ?_
 refine Qy (Y_fieldAddr (off := 2) (by kernel_rfl) rfl rfl) ?_
 refine Qy (Y_ldblk Tryz.underlying2 rfl rfl hb rfl) ?_
 refine Qy (Y_eql rfl rfl) ?_
 refine Qa ?_
 refine LQ_nil ?_
 rintro h rfl
 refine Xt ?_
 refine Wu _ (tk5 15 5 4 0 1) ?_
 refine Sd (fun c1 => ?_) fun c1 => ?_
 ·refine Wa ?_
  refine Av ?_
  refine Ln (Xt (Wt (Yr (Xr ?_))))
  refine Xv2 ?_
  exact .inl ⟨by rw [if_pos c1], .inl c1, (Ext.refl _)⟩
 refine Wm ?_
 refine Ly (Y_nilCheck rfl) ?_
 refine Lf 0 ?_
 refine Lb Tryz.underlying22 hb ?_
 refine Ly (Y_len Tryz.underlying22 rfl hr) ?_
 refine Ly Yeq ?_
 refine An ?_
 refine Wu _ (tk5 25 5 4 0 1) ?_
 refine Sd (fun c2 => ?_) fun c2 => ?_
 ·refine Wa ?_
  refine Av ?_
  refine Ln (Xt (Wt (Yr (Xr ?_))))
  refine Xv2 ?_
  exact .inl ⟨by rw [if_neg c1], .inr (by rw [List.length_drop] at c2; omega), (Ext.refl _)⟩
 refine Wk (Xb (Xt (Wq (Wg ?_))))
 refine Mv ?_
 refine Ly (Y_makeFunc1 (f := 92) rfl) ?_
 refine Av ?_
 refine Ln (Xt (Wq ?_))
 refine W_quiet (fun h' => h' = h) (by kernel_rfl) (by kernel_rfl) rfl ?_
 refine Qm ?_
 refine Qm ?_
 refine LQ_call (v := .int .i64 (chk C rd)) (fun _ _ => E_callv (fs := [.pointer (some ⟨s, 0, none⟩)]) (cs := []) (by kernel_rfl) rfl rfl) (fun h_ hI_ => by subst hI_; exact (source_chunk _ s vr (D.drop p) hr vc C hc f (p : Int) rd hb (by first | first | omega | (simp only [List.length_drop]; omega) | rfl | (simp <;> omega)) (by first | first | omega | (simp only [List.length_drop]; omega) | rfl | (simp <;> omega)))) rfl rfl rfl ?_
 refine Qm ?_
 refine Qy (Y_nilCheck rfl) ?_
 refine Qy (Y_fieldAddr (off := 0) (by kernel_rfl) rfl rfl) ?_
 refine Qy (Y_ldblk Tryz.underlying22 rfl rfl hb rfl) ?_
 refine Qy (Y_len Tryz.underlying22 rfl hr) ?_
 refine Qy (Y_min3 rfl rfl rfl) ?_
 refine Qa ?_
 refine LQ_nil ?_
 rintro h rfl
 refine Xt ?_
 refine Wu _ (tk4 1 5 4 0) ?_
 refine Wq (Wq ?_)
 refine W_quiet (fun h' => h' = h) (by kernel_rfl) (by kernel_rfl) rfl ?_
 refine Qm ?_
 refine Qy (Y_nilCheck rfl) ?_
 refine Qy (Y_fieldAddr (off := 2) (by kernel_rfl) rfl rfl) ?_
 refine Qy (Y_ldblk Tryz.underlying2 rfl rfl hb rfl) ?_
 refine Qm ?_
 refine Qy (Y_nilCheck rfl) ?_
 refine Qy (Y_fieldAddr (off := 3) (by kernel_rfl) rfl rfl) ?_
 refine Qy (Y_ldblk Tryz.underlying2 rfl rfl hb rfl) ?_
 refine Qy (Y_subw rfl rfl) ?_
 refine Qa ?_
 refine LQ_nil ?_
 rintro h rfl
 refine Xt ?_
 refine Wu _ (tk5 7 1 5 4 0) ?_
 refine Wm ?_
 refine Ly (Y_gtr rfl rfl) ?_
 refine Nx ?_
 refine Sd (fun c3 => ?_) fun c3 => ?_
 ·refine Wg ?_
  refine M2 ?_
  refine Ly (Y_min rfl rfl) ?_
  refine An ?_
  refine Wu _ (tk4 1 5 4 0) ?_
  obtain ⟨m, hm, m1, m2, m3⟩ := amt1 (C := C) (rd := rd) hf hl hp hn c2 c3; rw [hm]; have m4 := stp_le (D := D) (f := f) (p := p)
  refine Wm ?_
  refine Ly (Y_nilCheck rfl) ?_
  refine Lf 0 ?_
  refine Lb Tryz.underlying22 hb ?_
  refine Mv ?_
  have hb1 : Bytes h (slcut 1 0 ((m : Int)).toNat vr) ((D.drop p).take ((m : Int)).toNat) := Bytes.cuth hr (by first | omega | (simp only [List.length_drop]; omega)) 
  refine Ly (Y_cut_h Tryz.underlying22 (show _ = some 1 by kernel_rfl) rfl hr rfl (by first | omega | (simp only [List.length_drop]; omega)) (by first | omega | (simp only [List.length_drop]; omega))) ?_
  refine Lc (slices_CloneB _ (slcut 1 0 ((m : Int)).toNat vr) ((D.drop p).take ((m : Int)).toNat) hb1 (by first | first | omega | (simp only [List.length_drop]; omega) | rfl | (simp <;> omega))) ?_
  rintro s02 h1 ⟨_, rfl, hr03, hx4⟩
  refine An ?_
  refine Wu _ (tk5 8 1 5 4 0) ?_
  refine Wm ?_
  refine Mv ?_
  refine Ly (Y_nilCheck rfl) ?_
  refine Lf 0 ?_
  refine Lb Tryz.underlying22 (hb.ext hx4) ?_
  refine Mv ?_
  have hb5 : Bytes h1 (slcut 1 ((m : Int)).toNat (D.drop p).length vr) ((D.drop p).drop ((m : Int)).toNat) := Bytes.cutl (hr.ext hx4) (by first | omega | (simp only [List.length_drop]; omega)) 
  refine Ly (Y_cut_l Tryz.underlying22 (show _ = some 1 by kernel_rfl) rfl (hr.ext hx4) rfl (by first | omega | (simp only [List.length_drop]; omega)) (by first | omega | (simp only [List.length_drop]; omega))) ?_
  refine Ly (Y_nilCheck rfl) ?_
  refine Lf 0 ?_
  refine L_dos (D_store (us := [slcut 1 ((m : Int)).toNat (D.drop p).length vr]) (show _ = some 1 by kernel_rfl) rfl rfl (cells_slice hb5) (by intro u_ hu_; simp only [List.mem_cons, List.not_mem_nil, or_false] at hu_; rcases hu_ with rfl <;> first | rfl | exact (hb5).cell1) (hb.ext hx4) (by simp)) rfl rfl ?_
  rintro h2 hp6
  have hk7 : Blk h2 s [slcut 1 ((m : Int)).toNat (D.drop p).length vr, vc, .int .i64 (f), .int .i64 ((p : Int)), .int .i64 (rd)] := hp6.blk
  refine Nx ?_
  refine Wu _ (tk5 8 1 5 4 0) ?_
  refine Wm ?_
  refine Ly (Y_nilCheck rfl) ?_
  refine Lf 3 ?_
  refine Lb Tryz.underlying2 hk7 ?_
  refine Mv ?_
  refine Ly (Y_add rfl rfl (by first | omega | (simp only [List.length_drop]; omega)) (by first | omega | (simp only [List.length_drop]; omega))) ?_
  refine Ly (Y_nilCheck rfl) ?_
  refine Lf 3 ?_
  refine Lds [.int .i64 ((p : Int) + (m : Int))] hk7 ?_
  rintro h3 hp8
  have hk9 : Blk h3 s [slcut 1 ((m : Int)).toNat (D.drop p).length vr, vc, .int .i64 (f), .int .i64 ((p : Int) + (m : Int)), .int .i64 (rd)] := hp8.blk
  refine Nx ?_
  refine Wu _ (tk4 8 5 4 0) ?_
  refine Wm ?_
  refine Ly (Y_nilCheck rfl) ?_
  refine Lf 4 ?_
  refine Lb Tryz.underlying3 hk9 ?_
  refine Ly (Y_add rfl rfl (by first | omega | (simp only [List.length_drop]; omega)) (by first | omega | (simp only [List.length_drop]; omega))) ?_
  refine Ly (Y_nilCheck rfl) ?_
  refine Lf 4 ?_
  refine Lds [.int .i64 (rd + 1)] hk9 ?_
  rintro h4 hp10
  have hk11 : Blk h4 s [slcut 1 ((m : Int)).toNat (D.drop p).length vr, vc, .int .i64 (f), .int .i64 ((p : Int) + (m : Int)), .int .i64 (rd + 1)] := hp10.blk
  refine Nx ?_
  refine Wu _ (tk3 8 5 4) ?_
  refine Wm ?_
  refine A2 ?_
  refine Ln (Xt (Wt ?_))
  refine Xv2 ?_
  exact .inr ⟨m, _, _, _, rfl, ⟨m1, m2, m3⟩, (fun q => q.elim c1 (fun q => c2 (by rw [List.length_drop]; omega))), (((hr03.only1 hp6.only (ntl hb.lt (Nat.le_refl _))).only1 hp8.only (ntl hb.lt (Nat.le_refl _))).only1 hp10.only (ntl hb.lt (Nat.le_refl _))), (Only.trans (Only.trans (Only.trans (Only.trans (Only.refl _ _) hx4 (fun _ hb_ => by cases hb_)) hp6.only (fun b_ hb_ => .inl (by simp only [List.mem_cons, List.not_mem_nil, or_false] at hb_ ⊢; omega))) hp8.only (fun b_ hb_ => .inl (by simp only [List.mem_cons, List.not_mem_nil, or_false] at hb_ ⊢; omega))) hp10.only (fun b_ hb_ => .inl (by simp only [List.mem_cons, List.not_mem_nil, or_false] at hb_ ⊢; omega))), (by rw [show ((p + m : Nat) : Int) = (p : Int) + (m : Int) by omega]; exact hk11), drop_go (Bytes.only (hr.cutl (p := (m : Int)) (by rw [List.length_drop]; omega)) (Only.trans (Only.trans (Only.trans (Only.trans (Only.refl _ _) hx4 (fun _ hb_ => by cases hb_)) hp6.only (fun b_ hb_ => .inl (by simp only [List.mem_cons, List.not_mem_nil, or_false] at hb_ ⊢; omega))) hp8.only (fun b_ hb_ => .inl (by simp only [List.mem_cons, List.not_mem_nil, or_false] at hb_ ⊢; omega))) hp10.only (fun b_ hb_ => .inl (by simp only [List.mem_cons, List.not_mem_nil, or_false] at hb_ ⊢; omega))) (fun d hd q => hvs d (blockOf_cut hd) (List.mem_singleton.1 q))), by omega, fun d hd => blockOf_cut hd⟩
 refine Ws ?_
 obtain ⟨m, hm, m1, m2, m3⟩ := amt0 (C := C) (rd := rd) hf hl hp hn c2 c3 c1; rw [hm]; have m4 := stp_le (D := D) (f := f) (p := p)
 refine Wm ?_
 refine Ly (Y_nilCheck rfl) ?_
 refine Lf 0 ?_
 refine Lb Tryz.underlying22 hb ?_
 refine Mv ?_
 have hb12 : Bytes h (slcut 1 0 ((m : Int)).toNat vr) ((D.drop p).take ((m : Int)).toNat) := Bytes.cuth hr (by first | omega | (simp only [List.length_drop]; omega)) 
 refine Ly (Y_cut_h Tryz.underlying22 (show _ = some 1 by kernel_rfl) rfl hr rfl (by first | omega | (simp only [List.length_drop]; omega)) (by first | omega | (simp only [List.length_drop]; omega))) ?_
 refine Lc (slices_CloneB _ (slcut 1 0 ((m : Int)).toNat vr) ((D.drop p).take ((m : Int)).toNat) hb12 (by first | first | omega | (simp only [List.length_drop]; omega) | rfl | (simp <;> omega))) ?_
 rintro s013 h5 ⟨_, rfl, hr014, hx15⟩
 refine An ?_
 refine Wu _ (tk5 8 1 5 4 0) ?_
 refine Wm ?_
 refine Mv ?_
 refine Ly (Y_nilCheck rfl) ?_
 refine Lf 0 ?_
 refine Lb Tryz.underlying22 (hb.ext hx15) ?_
 refine Mv ?_
 have hb16 : Bytes h5 (slcut 1 ((m : Int)).toNat (D.drop p).length vr) ((D.drop p).drop ((m : Int)).toNat) := Bytes.cutl (hr.ext hx15) (by first | omega | (simp only [List.length_drop]; omega)) 
 refine Ly (Y_cut_l Tryz.underlying22 (show _ = some 1 by kernel_rfl) rfl (hr.ext hx15) rfl (by first | omega | (simp only [List.length_drop]; omega)) (by first | omega | (simp only [List.length_drop]; omega))) ?_
 refine Ly (Y_nilCheck rfl) ?_
 refine Lf 0 ?_
 refine L_dos (D_store (us := [slcut 1 ((m : Int)).toNat (D.drop p).length vr]) (show _ = some 1 by kernel_rfl) rfl rfl (cells_slice hb16) (by intro u_ hu_; simp only [List.mem_cons, List.not_mem_nil, or_false] at hu_; rcases hu_ with rfl <;> first | rfl | exact (hb16).cell1) (hb.ext hx15) (by simp)) rfl rfl ?_
 rintro h6 hp17
 have hk18 : Blk h6 s [slcut 1 ((m : Int)).toNat (D.drop p).length vr, vc, .int .i64 (f), .int .i64 ((p : Int)), .int .i64 (rd)] := hp17.blk
 refine Nx ?_
 refine Wu _ (tk5 8 1 5 4 0) ?_
 refine Wm ?_
 refine Ly (Y_nilCheck rfl) ?_
 refine Lf 3 ?_
 refine Lb Tryz.underlying2 hk18 ?_
 refine Mv ?_
 refine Ly (Y_add rfl rfl (by first | omega | (simp only [List.length_drop]; omega)) (by first | omega | (simp only [List.length_drop]; omega))) ?_
 refine Ly (Y_nilCheck rfl) ?_
 refine Lf 3 ?_
 refine Lds [.int .i64 ((p : Int) + (m : Int))] hk18 ?_
 rintro h7 hp19
 have hk20 : Blk h7 s [slcut 1 ((m : Int)).toNat (D.drop p).length vr, vc, .int .i64 (f), .int .i64 ((p : Int) + (m : Int)), .int .i64 (rd)] := hp19.blk
 refine Nx ?_
 refine Wu _ (tk4 8 5 4 0) ?_
 refine Wm ?_
 refine Ly (Y_nilCheck rfl) ?_
 refine Lf 4 ?_
 refine Lb Tryz.underlying3 hk20 ?_
 refine Ly (Y_add rfl rfl (by first | omega | (simp only [List.length_drop]; omega)) (by first | omega | (simp only [List.length_drop]; omega))) ?_
 refine Ly (Y_nilCheck rfl) ?_
 refine Lf 4 ?_
 refine Lds [.int .i64 (rd + 1)] hk20 ?_
 rintro h8 hp21
 have hk22 : Blk h8 s [slcut 1 ((m : Int)).toNat (D.drop p).length vr, vc, .int .i64 (f), .int .i64 ((p : Int) + (m : Int)), .int .i64 (rd + 1)] := hp21.blk
 refine Nx ?_
 refine Wu _ (tk3 8 5 4) ?_
 refine Wm ?_
 refine A2 ?_
 refine Ln (Xt (Wt ?_))
 refine Xv2 ?_
 exact .inr ⟨m, _, _, _, rfl, ⟨m1, m2, m3⟩, (fun q => q.elim c1 (fun q => c2 (by rw [List.length_drop]; omega))), (((hr014.only1 hp17.only (ntl hb.lt (Nat.le_refl _))).only1 hp19.only (ntl hb.lt (Nat.le_refl _))).only1 hp21.only (ntl hb.lt (Nat.le_refl _))), (Only.trans (Only.trans (Only.trans (Only.trans (Only.refl _ _) hx15 (fun _ hb_ => by cases hb_)) hp17.only (fun b_ hb_ => .inl (by simp only [List.mem_cons, List.not_mem_nil, or_false] at hb_ ⊢; omega))) hp19.only (fun b_ hb_ => .inl (by simp only [List.mem_cons, List.not_mem_nil, or_false] at hb_ ⊢; omega))) hp21.only (fun b_ hb_ => .inl (by simp only [List.mem_cons, List.not_mem_nil, or_false] at hb_ ⊢; omega))), (by rw [show ((p + m : Nat) : Int) = (p : Int) + (m : Int) by omega]; exact hk22), drop_go (Bytes.only (hr.cutl (p := (m : Int)) (by rw [List.length_drop]; omega)) (Only.trans (Only.trans (Only.trans (Only.trans (Only.refl _ _) hx15 (fun _ hb_ => by cases hb_)) hp17.only (fun b_ hb_ => .inl (by simp only [List.mem_cons, List.not_mem_nil, or_false] at hb_ ⊢; omega))) hp19.only (fun b_ hb_ => .inl (by simp only [List.mem_cons, List.not_mem_nil, or_false] at hb_ ⊢; omega))) hp21.only (fun b_ hb_ => .inl (by simp only [List.mem_cons, List.not_mem_nil, or_false] at hb_ ⊢; omega))) (fun d hd q => hvs d (blockOf_cut hd) (List.mem_singleton.1 q))), by omega, fun d hd => blockOf_cut hd⟩
end Go.Xp
