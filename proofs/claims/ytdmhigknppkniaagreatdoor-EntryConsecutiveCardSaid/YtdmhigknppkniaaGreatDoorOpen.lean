/- An argument of a row, opened: from the reading of its datum to what each cell holds. -/
import Derived.Test.YtdmhigknppkniaaGreatDoorRow
import Derived.SizedLaws
import Derived.ChangeArms
import Derived.DataReads
set_option linter.unusedSimpArgs false
set_option linter.unusedVariables false
namespace Go.Xp

theorem addr_add (a : Addr) (i j : Nat) : (a.add i).add j = a.add (i + j) := by
  unfold Addr.add
  by_cases hi : i = 0 <;> by_cases hj : j = 0 <;> simp [hi, hj, Nat.add_assoc]
/-- What a cell holds. -/
inductive CSh where
  | bool
  | int (k : IntKind)
  | str
  | sl (es : List CSh)
def flatFs (P : Program) (F : TypeId → Option (List CSh)) : List Field → Nat → Option (List CSh)
  | [], _ => some []
  | fd :: r, off => match F fd.type with
    | none => none
    | some es => if fd.offset = off ∧ P.cellsOf fd.type = es.length then (flatFs P F r (off + es.length)).map (es ++ ·) else none
/-- The cells of a type. -/
def flatT (P : Program) : Nat → TypeId → Option (List CSh)
  | 0, _ => none
  | f + 1, t => match P.underlying t with
    | some .bool => some [.bool]
    | some (.int k) => some [.int k]
    | some .string => some [.str]
    | some (.slice e) => match flatT P f e with
      | some es => if es.length = P.cellsOf e ∧ P.bytesOf e ≠ 0 then some [.sl es] else none
      | none => none
    | some (.struct fs) => match flatFs P (flatT P f) fs.toList 0 with
      | some es => if es.length = P.cellsOf t then some es else none
      | none => none
    | some (.array n e) => match flatT P f e with
      | some [c] => if P.cellsOf e = 1 ∧ P.cellsOf t = n then some (List.replicate n c) else none
      | _ => none
    | _ => none
mutual
/-- A datum's leaves. -/
def dflat {H : Type} : DataW H → List (DataW H)
  | .agg parts => dflatAll parts
  | .lit l => [.lit l]
  | .nil => [.nil]
  | .ptr d => [.ptr d]
  | .slice a b => [.slice a b]
  | .iface t d => [.iface t d]
  | .map e => [.map e]
  | .held h => [.held h]
def dflatAll {H : Type} : List (DataW H) → List (DataW H)
  | [] => []
  | d :: r => dflat d ++ dflatAll r
end
def CRead {H : Type} (w : World) (R : Nat) : Nat → CSh → Value → DataW H → Prop
  | 0, _, _, _ => False
  | _ + 1, .bool, v, l => ∃ b, v = .bool b ∧ l = .lit (.bool b)
  | _ + 1, .int k, v, l => ∃ z, v = .int k z ∧ l = .lit (.int k z) ∧ (Lit.int k z).wf = true
  | _ + 1, .str, v, l => ∃ s : ByteArray, v = .string s ∧ l = .lit (.string s.data.toList) ∧ s.size ≤ R
  | f + 1, .sl es, v, l => (v = .slice none 0 0 ∧ l = .nil) ∨ ∃ ad len cap elems spare, v = .slice (some ad) len cap ∧ l = .slice elems spare ∧ len ≤ cap ∧ len ≤ R ∧ elems.length = len ∧
      ∀ i, i < len → ∃ (ecs : List Value) (ed : DataW H), ecs.length = es.length ∧ (∀ j, j < es.length → w.cell? (ad.add (i * es.length + j)) = ecs[j]?) ∧ elems[i]? = some ed ∧
        ∀ (j : Nat) (c : CSh), es[j]? = some c → ∃ (u : Value) (l : DataW H), ecs[j]? = some u ∧ (dflat ed)[j]? = some l ∧ CRead w R f c u l
def CReads {H : Type} (w : World) (R : Nat) (f : Nat) (shs : List CSh) (cs : List Value) (ls : List (DataW H)) : Prop :=
  cs.length = shs.length ∧ ls.length = shs.length ∧ ∀ (j : Nat) (c : CSh), shs[j]? = some c → ∃ (u : Value) (l : DataW H), cs[j]? = some u ∧ ls[j]? = some l ∧ CRead w R f c u l

section
variable {H : Type} {enc : TypeId × Value → H} {P : Program} {w : World} {base : Nat} {spare : Nat → Bool} {held : Bool} {R : Nat}
theorem CReads.one {f : Nat} {c : CSh} {u : Value} {l : DataW H} (h : CRead w R f c u l) : CReads w R f [c] [u] [l] :=
  ⟨rfl, rfl, fun j c' hj => by
    cases j with
    | zero => simp at hj; subst hj; exact ⟨u, l, rfl, rfl, h⟩
    | succ j => simp at hj⟩
theorem CRead.up {w : World} {R : Nat} : ∀ {f : Nat} {c : CSh} {u : Value} {l : DataW H}, CRead w R f c u l → CRead w R (f + 1) c u l
  | 0, _, _, _, h => h.elim
  | f + 1, .bool, _, _, h => by simpa only [CRead] using h
  | f + 1, .int _, _, _, h => by simpa only [CRead] using h
  | f + 1, .str, _, _, h => by simpa only [CRead] using h
  | f + 1, .sl es, v, l, h => by
    simp only [CRead] at h ⊢
    rcases h with h | ⟨ad, len, cap, elems, spare, h1, h2, h3, h4, h5, h6⟩
    · exact .inl h
    · refine .inr ⟨ad, len, cap, elems, spare, h1, h2, h3, h4, h5, fun i hi => ?_⟩
      obtain ⟨ecs, ed, k1, k2, k3, k4⟩ := h6 i hi
      refine ⟨ecs, ed, k1, k2, k3, fun j c hj => ?_⟩
      obtain ⟨u, l, m1, m2, m3⟩ := k4 j c hj
      exact ⟨u, l, m1, m2, m3.up⟩
theorem flatFs_read {f n : Nat} {cs : List Value}
    (ih : ∀ t shs, flatT P f t = some shs → ∀ cs d p, DataW.trod enc P w base spare held n t cs = some (d, p) → (∀ k ∈ d.weights P t, k ≤ R) → CReads w R f shs cs (dflat d)) :
    ∀ (fl : List Field) (off : Nat) (shs : List CSh) (ys : List (DataW H × List MemPlace)), flatFs P (flatT P f) fl off = some shs → ys.length = fl.length →
      (∀ (i : Nat) (fd : Field), fl[i]? = some fd → DataW.trod enc P w base spare held n fd.type ((cs.drop fd.offset).take (P.cellsOf fd.type)) = ys[i]?) →
      (∀ k ∈ DataW.weightsEach P (fl.map (·.type)) (ys.map (·.1)), k ≤ R) →
      (dflatAll (ys.map (·.1))).length = shs.length ∧ ∀ (j : Nat) (c : CSh), shs[j]? = some c → ∃ (u : Value) (l : DataW H), cs[off + j]? = some u ∧ (dflatAll (ys.map (·.1)))[j]? = some l ∧ CRead w R f c u l
  | [], off, shs, ys, hs, hy, _, _ => by
    simp only [flatFs, Option.some.injEq] at hs
    subst hs
    have : ys = [] := List.eq_nil_of_length_eq_zero (by simpa using hy)
    subst this
    exact ⟨rfl, fun j c hj => by simp at hj⟩
  | fd :: r, off, shs, [], hs, hy, _, _ => by simp at hy
  | fd :: r, off, shs, y :: ys, hs, hy, ht, hw => by
    simp only [flatFs] at hs
    cases hF : flatT P f fd.type with
    | none => rw [hF] at hs; cases hs
    | some es =>
      rw [hF] at hs
      simp only at hs
      split at hs
      · rename_i hc
        obtain ⟨ho, hk⟩ := hc
        obtain ⟨shr, hr, rfl⟩ := Option.map_eq_some_iff.1 hs
        have h0 := ht 0 fd rfl
        simp only [List.getElem?_cons_zero] at h0
        have hw0 : ∀ k ∈ y.1.weights P fd.type, k ≤ R := fun k hk => hw k (by simp only [List.map_cons, DataW.weightsEach, List.mem_append]; exact .inl hk)
        obtain ⟨a1, a2, a3⟩ := ih fd.type es hF _ y.1 y.2 h0 hw0
        obtain ⟨b1, b2⟩ := flatFs_read ih r (off + es.length) shr ys hr (by simpa using hy) (fun i fd' hi => by have := ht (i + 1) fd' (by simpa using hi); simpa using this) (fun k hk => hw k (by simp only [List.map_cons, DataW.weightsEach, List.mem_append]; exact .inr hk))
        refine ⟨by simp only [List.map_cons, dflatAll, List.length_append, a2, b1], fun j c hj => ?_⟩
        by_cases hlt : j < es.length
        · rw [List.getElem?_append_left hlt] at hj
          obtain ⟨u, l, m1, m2, m3⟩ := a3 j c hj
          refine ⟨u, l, ?_, ?_, m3⟩
          · rw [List.getElem?_take] at m1
            split at m1
            · rw [List.getElem?_drop, ho] at m1; exact m1
            · cases m1
          · simp only [List.map_cons, dflatAll]
            rw [List.getElem?_append_left (by omega)]; exact m2
        · rw [List.getElem?_append_right (by omega)] at hj
          obtain ⟨u, l, m1, m2, m3⟩ := b2 _ c hj
          refine ⟨u, l, ?_, ?_, m3⟩
          · rw [← m1]; congr 1; omega
          · simp only [List.map_cons, dflatAll]
            rw [List.getElem?_append_right (by omega), a2]; exact m2
      · cases hs
theorem read_of : ∀ (f : Nat) (t : TypeId) (shs : List CSh), flatT P f t = some shs → ∀ (fuel : Nat) (cs : List Value) (d : DataW H) (p : List MemPlace), DataW.trod enc P w base spare held fuel t cs = some (d, p) → (∀ k ∈ d.weights P t, k ≤ R) → CReads w R f shs cs (dflat d)
  | 0, _, _, h => by cases h
  | f + 1, t, shs, h => by
    intro fuel cs d p ht hw
    simp only [flatT] at h
    cases hu : P.underlying t with
    | none => rw [hu] at h; cases h
    | some D =>
      rw [hu] at h
      cases D with
      | bool =>
        simp only [Option.some.injEq] at h; subst h
        obtain ⟨b, rfl, hx⟩ := DataW.trod_bool hu ht
        simp only [Prod.mk.injEq] at hx; obtain ⟨rfl, rfl⟩ := hx
        exact CReads.one ⟨b, rfl, rfl⟩
      | int k =>
        simp only [Option.some.injEq] at h; subst h
        obtain ⟨b, rfl, hx, hwf⟩ := DataW.trod_int hu ht
        simp only [Prod.mk.injEq] at hx; obtain ⟨rfl, rfl⟩ := hx
        exact CReads.one ⟨b, rfl, rfl, hwf⟩
      | string =>
        simp only [Option.some.injEq] at h; subst h
        obtain ⟨s, rfl, hx, hsz⟩ := DataW.trod_string hu ht
        simp only [Prod.mk.injEq] at hx; obtain ⟨rfl, rfl⟩ := hx
        refine CReads.one ⟨s, rfl, rfl, ?_⟩
        have := hw s.data.toList.length (by simp [DataW.weights])
        exact this
      | slice e =>
        simp only at h
        cases hF : flatT P f e with
        | none => rw [hF] at h; cases h
        | some es =>
          rw [hF] at h
          simp only at h
          split at h
          · rename_i hc
            obtain ⟨hc1, hc2⟩ := hc
            simp only [Option.some.injEq] at h; subst h
            rcases DataW.trod_slice hu ht with ⟨rfl, hx⟩ | ⟨a, len, cap, elems, rest, n, rfl, rfl, hx, hb, hl, hcap, hel, hi, _, _⟩
            · simp only [Prod.mk.injEq] at hx; obtain ⟨rfl, rfl⟩ := hx
              exact CReads.one (.inl ⟨rfl, rfl⟩)
            · simp only [Prod.mk.injEq] at hx; obtain ⟨rfl, rfl⟩ := hx
              refine CReads.one (.inr ⟨a, len, cap, _, _, rfl, rfl, hl, ?_, by simpa using hel, fun i hi' => ?_⟩)
              · have := hw ((elems.length + rest.length) * P.bytesOf e) (by simp [DataW.weights, hu])
                have h1 : elems.length ≤ (elems.length + rest.length) * P.bytesOf e := nt (Nat.le_add_right _ _) (Nat.le_mul_of_pos_right _ (Nat.pos_of_ne_zero hc2))
                omega
              · have h1 := hi i hi'
                have h2 : elems[i]? = some (elems[i]'(by omega)) := List.getElem?_eq_getElem (by omega)
                rw [h2] at h1
                obtain ⟨ecs, he1, he2⟩ := Option.bind_eq_some_iff.1 h1
                obtain ⟨_, he3, he4⟩ := World.cells?_some he1
                have hwe : ∀ k ∈ (elems[i]'(by omega)).1.weights P e, k ≤ R := fun k hk => hw k (by
                  simp only [DataW.weights, hu, List.mem_cons, List.mem_append]
                  refine .inr (.inl ?_)
                  have : ∀ (l : List (DataW H)) (d : DataW H), d ∈ l → k ∈ d.weights P e → k ∈ DataW.weightsAll P e l := by
                    intro l
                    induction l with
                    | nil => intro d hd; cases hd
                    | cons x l ih2 =>
                      intro d hd hk
                      simp only [DataW.weightsAll, List.mem_append]
                      rcases List.mem_cons.1 hd with rfl | hd
                      · exact .inl hk
                      · exact .inr (ih2 d hd hk)
                  exact this _ _ (List.mem_map.2 ⟨_, List.getElem_mem (by omega), rfl⟩) hk)
                obtain ⟨r1, r2, r3⟩ := read_of f e es hF n ecs _ _ he2 hwe
                refine ⟨ecs, (elems[i]'(by omega)).1, r1, fun j hj => ?_, by rw [List.getElem?_map, h2]; rfl, fun j c hj => r3 j c hj⟩
                have := he4 j (by omega)
                rw [← hc1] at this
                rw [← this, addr_add]
          · cases h
      | struct fs =>
        simp only at h
        cases hF : flatFs P (flatT P f) fs.toList 0 with
        | none => rw [hF] at h; cases h
        | some es =>
          rw [hF] at h
          simp only at h
          split at h
          · rename_i hc
            simp only [Option.some.injEq] at h; subst h
            obtain ⟨xs, n, rfl, hx, hlen, hxl, hg⟩ := DataW.trod_struct hu ht
            simp only [Prod.mk.injEq] at hx; obtain ⟨rfl, rfl⟩ := hx
            obtain ⟨b1, b2⟩ := flatFs_read (cs := cs) (n := n) (fun t shs hs cs d p ht hw => read_of f t shs hs n cs d p ht hw) fs.toList 0 es xs hF (by simpa using hxl) (fun i fd hi => hg i fd (by simpa using hi)) (fun k hk => hw k (by simp only [DataW.weights, hu]; exact hk))
            refine ⟨by omega, by simp only [dflat]; exact b1, fun j c hj => ?_⟩
            obtain ⟨u, l, m1, m2, m3⟩ := b2 j c hj
            exact ⟨u, l, by rw [← m1, Nat.zero_add], by simp only [dflat]; exact m2, m3.up⟩
          · cases h
      | array n e =>
        simp only at h
        cases hF : flatT P f e with
        | none => rw [hF] at h; cases h
        | some es =>
          rw [hF] at h
          match es, hF, h with
          | [], _, h => cases h
          | c :: c' :: r, _, h => cases h
          | [c], hF, h =>
            simp only at h
            split at h
            · rename_i hc
              obtain ⟨hc1, hc2⟩ := hc
              simp only [Option.some.injEq] at h; subst h
              cases fuel with
              | zero => simp [DataW.trod] at ht
              | succ m =>
                unfold DataW.trod at ht
                rw [hu] at ht
                simp only [hc1, hc2, Nat.mul_one] at ht
                split at ht
                · rename_i hl
                  obtain ⟨xs, hm, hx⟩ := Option.map_eq_some_iff.1 ht
                  simp only [Prod.mk.injEq] at hx; obtain ⟨rfl, rfl⟩ := hx
                  have hxl : xs.length = n := by simpa using mapM_some_length hm
                  have key : ∀ (l : List (DataW H × List MemPlace)), (∀ x ∈ l, (dflat x.1).length = 1) → (dflatAll (l.map (·.1))).length = l.length ∧ ∀ (i : Nat) (x : DataW H × List MemPlace), l[i]? = some x → (dflatAll (l.map (·.1)))[i]? = (dflat x.1)[0]? := by
                    intro l
                    induction l with
                    | nil => intro _; exact ⟨rfl, fun i x hi => by simp at hi⟩
                    | cons y l ih2 =>
                      intro hl'
                      obtain ⟨k1, k2⟩ := ih2 (fun x hx => hl' x (by simp [hx]))
                      have hy := hl' y (by simp)
                      refine ⟨by simp only [List.map_cons, dflatAll, List.length_append, hy, k1, List.length_cons]; omega, fun i x hi => ?_⟩
                      simp only [List.map_cons, dflatAll]
                      cases i with
                      | zero => simp at hi; subst hi; rw [List.getElem?_append_left (by omega)]
                      | succ i => rw [List.getElem?_append_right (by omega), hy]; simp at hi; simpa using k2 i x hi
                  have each : ∀ (i : Nat) (hi : i < n), ∃ u l, cs[i]? = some u ∧ dflat (xs[i]'(by omega)).1 = [l] ∧ CRead w R (f + 1) c u l := by
                    intro i hi
                    have h1 := mapM_some_get hm i i (by simp [hi])
                    rw [List.getElem?_eq_getElem (by omega)] at h1
                    have hwe : ∀ k ∈ (xs[i]'(by omega)).1.weights P e, k ≤ R := fun k hk => hw k (by
                      simp only [DataW.weights, hu]
                      have : ∀ (l : List (DataW H)) (d : DataW H), d ∈ l → k ∈ d.weights P e → k ∈ DataW.weightsAll P e l := by
                        intro l
                        induction l with
                        | nil => intro d hd; cases hd
                        | cons x l ih2 =>
                          intro d hd hk
                          simp only [DataW.weightsAll, List.mem_append]
                          rcases List.mem_cons.1 hd with rfl | hd
                          · exact .inl hk
                          · exact .inr (ih2 d hd hk)
                      exact this _ _ (List.mem_map.2 ⟨_, List.getElem_mem (by omega), rfl⟩) hk)
                    obtain ⟨r1, r2, r3⟩ := read_of f e [c] hF m _ _ _ h1 hwe
                    obtain ⟨u, l, m1, m2, m3⟩ := r3 0 c rfl
                    refine ⟨u, l, ?_, ?_, m3.up⟩
                    · rw [List.getElem?_take] at m1
                      simpa using m1
                    · generalize dflat (xs[i]'(by omega)).1 = L at r2 m2
                      match L, r2, m2 with
                      | [x], _, m2 => simp at m2; rw [m2]
                  obtain ⟨k1, k2⟩ := key xs (fun x hx => by
                    obtain ⟨i, hi, rfl⟩ := List.getElem_of_mem hx
                    obtain ⟨u, l, _, h2, _⟩ := each i (by omega)
                    rw [h2]; rfl)
                  refine ⟨by simp [hl], by simp only [dflat, List.length_replicate]; omega, fun j c' hj => ?_⟩
                  rw [List.getElem?_replicate] at hj
                  split at hj
                  · rename_i hjn
                    simp only [Option.some.injEq] at hj; subst hj
                    obtain ⟨u, l, h1, h2, h3⟩ := each j hjn
                    refine ⟨u, l, h1, ?_, h3⟩
                    simp only [dflat]
                    rw [k2 j _ (List.getElem?_eq_getElem (by omega)), h2]; rfl
                  · cases hj
                · cases ht
            · cases h
      | _ => cases h
end

/-! ### What the cells give -/
section
variable {H : Type} {w : World} {R f : Nat} {c : CSh} {shs : List CSh} {cs : List Value} {ls : List (DataW H)} {u : Value} {l : DataW H}
theorem CReads.uncons (h : CReads w R f (c :: shs) cs ls) : ∃ u cs' l ls', cs = u :: cs' ∧ ls = l :: ls' ∧ CRead w R f c u l ∧ CReads w R f shs cs' ls' := by
  obtain ⟨h1, h2, h3⟩ := h
  match cs, h1, ls, h2 with
  | u :: cs', h1, l :: ls', h2 =>
    obtain ⟨u', l', k1, k2, k3⟩ := h3 0 c rfl
    simp only [List.getElem?_cons_zero, Option.some.injEq] at k1 k2
    subst k1; subst k2
    exact ⟨_, _, _, _, rfl, rfl, k3, by simpa using h1, by simpa using h2, fun j c hj => by
      obtain ⟨u2, l2, m1, m2, m3⟩ := h3 (j + 1) c (by simpa using hj)
      exact ⟨u2, l2, by simpa using m1, by simpa using m2, m3⟩⟩
theorem CReads.fin (h : CReads w R f [] cs ls) : cs = [] ∧ ls = [] := ⟨List.eq_nil_of_length_eq_zero h.1, List.eq_nil_of_length_eq_zero h.2.1⟩
theorem rd_int {k : IntKind} (h : CRead w R (f + 1) (.int k) u l) : ∃ z, u = .int k z ∧ l = .lit (.int k z) ∧ (Lit.int k z).wf = true := by simpa only [CRead] using h
theorem rd_bool (h : CRead w R (f + 1) .bool u l) : ∃ z, u = .bool z ∧ l = .lit (.bool z) := by simpa only [CRead] using h
theorem rd_str (h : CRead w R (f + 1) .str u l) : ∃ s : List UInt8, u = str s ∧ l = .lit (.string s) ∧ s.length ≤ R := by
  have h' : ∃ s : ByteArray, u = .string s ∧ l = .lit (.string s.data.toList) ∧ s.size ≤ R := by simpa only [CRead] using h
  obtain ⟨s, rfl, rfl, h3⟩ := h'
  exact ⟨s.data.toList, rfl, rfl, h3⟩
theorem wf_i64 {z : Int} (h : (Lit.int .i64 z).wf = true) : -9223372036854775808 ≤ z ∧ z ≤ 9223372036854775807 := by
  simp [Lit.wf, IntKind.min, IntKind.max, IntKind.bits, IntKind.signed] at h; omega
theorem addr_zero (a : Addr) : a.add 0 = a := rfl
theorem cell_none {w : World} {a : Addr} {v : Value} (h : w.cell? a = some v) : a.spot = none ∧ cellAt w.heap a.block a.off = some v := by
  have h1 := World.cell?_spot h
  obtain ⟨b, o, sp⟩ := a
  simp only at h1
  subst h1
  exact ⟨rfl, by rw [← cell?_cellAt]; exact h⟩
theorem addr_parts (a : Addr) (i : Nat) (h : a.spot = none) : a.add i = ⟨a.block, a.off + i, none⟩ := by
  obtain ⟨b, o, sp⟩ := a
  simp only at h
  subst h
  unfold Addr.add; split <;> simp_all
/-- A slice: its rows of cells. -/
theorem rd_rows {es : List CSh} (h : CRead w R (f + 1) (.sl es) u l) (hes : 0 < es.length) : ∃ (rows : List (List Value)) (ds : List (DataW H)), Row w.heap es.length u rows.length rows.flatten ∧ rows.length ≤ R ∧ ds.length = rows.length ∧ (l = .nil ∧ ds = [] ∨ ∃ sp, l = .slice ds sp) ∧ ∀ (i : Nat) (r : List Value), rows[i]? = some r → ∃ d, ds[i]? = some d ∧ r.length = es.length ∧ ∀ (j : Nat) (c : CSh), es[j]? = some c → ∃ (u : Value) (l : DataW H), r[j]? = some u ∧ (dflat d)[j]? = some l ∧ CRead w R f c u l := by
  have h' := h
  simp only [CRead] at h'
  rcases h' with ⟨rfl, rfl⟩ | ⟨ad, len, cap, elems, spare, rfl, rfl, h1, h2, h3, h4⟩
  · exact ⟨[], [], Row.nil _ _, by simp, rfl, .inl ⟨rfl, rfl⟩, fun i r hr => by simp at hr⟩
  · -- choose the rows
    have key : ∀ n, n ≤ len → ∃ rows : List (List Value), rows.length = n ∧ ∀ (i : Nat) (r : List Value), rows[i]? = some r → r.length = es.length ∧ (∀ j, j < es.length → w.cell? (ad.add (i * es.length + j)) = r[j]?) ∧ ∃ d, elems[i]? = some d ∧ ∀ (j : Nat) (c : CSh), es[j]? = some c → ∃ (u : Value) (l : DataW H), r[j]? = some u ∧ (dflat d)[j]? = some l ∧ CRead w R f c u l := by
      intro n
      induction n with
      | zero => intro _; exact ⟨[], rfl, fun i r hr => by simp at hr⟩
      | succ n ih =>
        intro hn
        obtain ⟨rows, k1, k2⟩ := ih (by omega)
        obtain ⟨ecs, ed, m1, m2, m3, m4⟩ := h4 n (by omega)
        refine ⟨rows ++ [ecs], by simp [k1], fun i r hr => ?_⟩
        by_cases hi : i < n
        · rw [List.getElem?_append_left (by omega)] at hr
          exact k2 i r hr
        · have hin : i = n := by
            have := (List.getElem?_eq_some_iff.1 hr).1
            simp [k1] at this; omega
          subst hin
          rw [List.getElem?_append_right (by omega), k1] at hr
          simp at hr
          subst hr
          exact ⟨m1, m2, ed, m3, m4⟩
    obtain ⟨rows, k1, k2⟩ := key len (Nat.le_refl _)
    have hfl : ∀ (rs : List (List Value)), (∀ (i : Nat) (r : List Value), rs[i]? = some r → r.length = es.length) → rs.flatten.length = rs.length * es.length ∧ ∀ (q : Nat) (v : Value), rs.flatten[q]? = some v → ∃ r, rs[q / es.length]? = some r ∧ r[q % es.length]? = some v := by
      intro rs
      induction rs with
      | nil => intro _; exact ⟨by simp, fun q v hq => by simp at hq⟩
      | cons r rs ih =>
        intro hr
        have h0 := hr 0 r rfl
        obtain ⟨i1, i2⟩ := ih (fun i r' hr' => hr (i + 1) r' (by simpa using hr'))
        refine ⟨by simp only [List.flatten_cons, List.length_append, h0, i1, List.length_cons, Nat.succ_mul]; omega, fun q v hq => ?_⟩
        rw [List.flatten_cons] at hq
        by_cases hlt : q < es.length
        · rw [List.getElem?_append_left (by omega)] at hq
          refine ⟨r, by rw [Nat.div_eq_of_lt hlt]; rfl, by rw [Nat.mod_eq_of_lt hlt]; exact hq⟩
        · rw [List.getElem?_append_right (by omega), h0] at hq
          obtain ⟨r', a1, a2⟩ := i2 _ _ hq
          have e1 : q / es.length = (q - es.length) / es.length + 1 := by
            rw [← Nat.sub_add_cancel (show es.length ≤ q by omega), Nat.add_div_right _ hes]
            simp
          have e2 : q % es.length = (q - es.length) % es.length := by
            rw [Nat.mod_eq_sub_mod (by omega)]
          exact ⟨r', by rw [e1]; simpa using a1, by rw [e2]; exact a2⟩
    obtain ⟨f1, f2⟩ := hfl rows (fun i r hr => (k2 i r hr).1)
    refine ⟨rows, elems, ⟨⟨some ad, cap, by rw [k1], by omega, (fun h => by cases h), fun ad' had => ?_⟩, f1⟩, by omega, by omega, .inr ⟨spare, rfl⟩, fun i r hr => ?_⟩
    · cases had
      have cellq : ∀ (q : Nat) (v : Value), rows.flatten[q]? = some v → w.cell? (ad.add q) = some v := fun q v hq => by
        obtain ⟨r, b1, b2⟩ := f2 q v hq
        obtain ⟨c1, c2, _⟩ := k2 _ r b1
        have := c2 (q % es.length) (Nat.mod_lt _ hes)
        rw [b2, Nat.mul_comm, Nat.div_add_mod] at this
        exact this
      refine ⟨fun h0 => ?_, fun q v hq => ?_⟩
      · have hl0 : 0 < rows.flatten.length := by rw [f1]; exact Nat.mul_pos h0 hes
        have h9 := cellq 0 _ (List.getElem?_eq_getElem hl0)
        rw [addr_zero] at h9
        obtain ⟨c1, c2⟩ := cell_none h9
        exact ⟨c1, cellAt_lt c2⟩
      · have hl0 : 0 < rows.flatten.length := Nat.lt_of_le_of_lt (Nat.zero_le _) (List.getElem?_eq_some_iff.1 hq).1
        have h9 := cellq 0 _ (List.getElem?_eq_getElem hl0)
        rw [addr_zero] at h9
        have h8 := cellq q v hq
        rw [addr_parts ad q (cell_none h9).1] at h8
        exact (cell_none h8).2
    · obtain ⟨c1, c2, d, c3, c4⟩ := k2 i r hr
      exact ⟨d, c3, c1, c4⟩
/-- The cells of a variable whose datum is literal. -/
def valL : Lit → Value
  | .bool b => .bool b
  | .int k z => .int k z
  | .string s => str s
  | _ => undef
theorem le_sum_mem : ∀ (l : List Nat) (k : Nat), k ∈ l → k ≤ l.sum
  | x :: l, k, h => by
    rw [List.sum_cons]
    rcases List.mem_cons.1 h with rfl | h
    · omega
    · have := le_sum_mem l k h; omega
theorem cells_lit : ∀ (shs : List CSh) (cs : List Value) (lits : List Lit), CReads (H := H) w R (f + 1) shs cs (lits.map DataW.lit) → cs = lits.map valL
  | [], cs, lits, h => by
    obtain ⟨h1, h2⟩ := h.fin
    subst h1
    cases lits with
    | nil => rfl
    | cons x r => cases h2
  | c :: shs, cs, lits, h => by
    obtain ⟨u, cs', l, ls', rfl, h2, h3, h4⟩ := h.uncons
    cases lits with
    | nil => cases h2
    | cons x r =>
      simp only [List.map_cons, List.cons.injEq] at h2
      obtain ⟨rfl, rfl⟩ := h2
      rw [List.map_cons, ← cells_lit shs cs' r h4]
      congr 1
      cases c with
      | bool => obtain ⟨z, rfl, hl⟩ := rd_bool h3; simp only [DataW.lit.injEq] at hl; subst hl; rfl
      | int k => obtain ⟨z, rfl, hl, _⟩ := rd_int h3; simp only [DataW.lit.injEq] at hl; subst hl; rfl
      | str => obtain ⟨z, rfl, hl, _⟩ := rd_str h3; simp only [DataW.lit.injEq] at hl; subst hl; rfl
      | sl es =>
        simp only [CRead] at h3
        rcases h3 with ⟨_, h3⟩ | ⟨_, _, _, _, _, _, h3, _⟩ <;> cases h3
theorem cls_of_laid {enc : TypeId × Value → H} {P : Program} {base : Nat} {sp : Nat → Bool} {held : Bool} {fuel g : Nat} {name : String} {t : TypeId} {d : DataW H} {p : List MemPlace} {shs : List CSh} {lits : List Lit} {cs : Array Value} (hg : P.globalNamed name = some g) (hf : flatT P 4 t = some shs) (hd : dflat d = lits.map DataW.lit)
    (hv : w.var? P name = some cs) (ht : DataW.trod enc P w base sp held fuel t cs.toList = some (d, p)) (hl : 0 < lits.length) : ∀ i u, (lits.map valL)[i]? = some u → w.cell? ⟨g, i, none⟩ = some u := by
  have hr := read_of (R := (d.weights P t).sum) 4 t shs hf fuel cs.toList d p ht (fun k hk => le_sum_mem _ _ hk)
  rw [hd] at hr
  have := cells_lit shs cs.toList lits hr
  intro i u hi
  have h1 := World.var?_cell hg hv i
  rw [h1, ← hi, ← this]
  simp
end
end Go.Xp
