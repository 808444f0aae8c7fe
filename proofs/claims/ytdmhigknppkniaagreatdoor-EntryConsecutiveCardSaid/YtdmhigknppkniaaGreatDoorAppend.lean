/- make, append, copy, slice and struct literals, []byte(s): what they leave, for the walks. -/
import Derived.Test.YtdmhigknppkniaaGreatDoorMake
set_option linter.unusedSimpArgs false
set_option linter.unusedVariables false
namespace Go.Xp

/-- The slice 'v' is nil, or lies at the head of a block of the call's own (number 'base' or above), which may be written to its end; its elements are the cells 'xs'. -/
def Own (h : Heap) (base z : Nat) (v : Value) (n : Nat) (xs : List Value) : Prop :=
  xs.length = n * z ∧ ((v = .slice none 0 0 ∧ n = 0) ∨ ∃ g cap extra, v = .slice (some ⟨g, 0, none⟩) n cap ∧ base ≤ g ∧ Blk h g (xs ++ extra) ∧ (xs ++ extra).length = cap * z ∧ n ≤ cap)
theorem Own.row {h : Heap} {base z n : Nat} {v : Value} {xs : List Value} (x : Own h base z v n xs) : Row h z v n xs := by
  obtain ⟨h1, ⟨rfl, rfl⟩ | ⟨g, cap, extra, rfl, hg, hb, hl, hn⟩⟩ := x
  · have : xs = [] := List.eq_nil_of_length_eq_zero (by simpa using h1)
    subst this; exact Row.nil h z
  · refine Row.of_blk hb hn h1 (fun i u hi => ?_)
    rw [List.getElem?_append_left (List.getElem?_eq_some_iff.1 hi).1]; exact hi
theorem Own.nil (h : Heap) (base z : Nat) : Own h base z (.slice none 0 0) 0 [] := ⟨by simp, .inl ⟨rfl, rfl⟩⟩
theorem Own.of_blk {h : Heap} {base z g n cap : Nat} {xs extra : List Value} (hb : Blk h g (xs ++ extra)) (hg : base ≤ g) (hx : xs.length = n * z) (hl : (xs ++ extra).length = cap * z) (hn : n ≤ cap) : Own h base z (.slice (some ⟨g, 0, none⟩) n cap) n xs :=
  ⟨hx, .inr ⟨g, cap, extra, rfl, hg, hb, hl, hn⟩⟩
theorem Own.only {bs : List Nat} {h h' : Heap} {base z n : Nat} {v : Value} {xs : List Value} (x : Own h base z v n xs) (y : Only bs h h') (hb : ∀ b, blockOf v = some b → b ∉ bs) : Own h' base z v n xs := by
  obtain ⟨h1, ⟨rfl, rfl⟩ | ⟨g, cap, extra, rfl, hg, hbk, hl, hn⟩⟩ := x
  · exact ⟨h1, .inl ⟨rfl, rfl⟩⟩
  · exact ⟨h1, .inr ⟨g, cap, extra, rfl, hg, hbk.only y (hb g rfl), hl, hn⟩⟩
theorem Own.ext {h h' : Heap} {base z n : Nat} {v : Value} {xs : List Value} (x : Own h base z v n xs) (y : Ext h h') : Own h' base z v n xs := x.only y (by simp)
theorem Own.lt {h : Heap} {base z n : Nat} {v : Value} {xs : List Value} (x : Own h base z v n xs) : ∀ b, blockOf v = some b → base ≤ b ∧ b < h.size := by
  obtain ⟨h1, ⟨rfl, rfl⟩ | ⟨g, cap, extra, rfl, hg, hbk, hl, hn⟩⟩ := x
  · intro b hb; cases hb
  · intro b hb; cases hb; exact ⟨hg, hbk.lt⟩

theorem nextslicecap_le {need old : Nat} (h : old < need) : Builtin.nextslicecap need old ≤ 2 * need := by
  have hg : ∀ rounds c, c ≤ 2 * need → (c < need → c + (c + 768) / 4 ≤ 2 * need ∨ c < 256) → 256 ≤ c → Builtin.growBy need rounds c ≤ 2 * need := by
    intro rounds
    induction rounds with
    | zero => intro c h1 _ _; exact h1
    | succ r ih =>
      intro c h1 h2 h3
      unfold Builtin.growBy
      split
      · exact h1
      · rename_i hlt
        have hlt' : c < need := by omega
        refine ih _ ?_ ?_ ?_
        · omega
        · intro _; left; omega
        · omega
  unfold Builtin.nextslicecap
  split
  · omega
  · split
    · omega
    · refine hg 4 old (by omega) (fun _ => ?_) (by omega)
      left; omega

section
variable {P : Program}
theorem run_typeInfo {T : TypeId} {i : TypeInfo} (w : World) (hi : P.info? T = some i) : (typeInfo T).run P w = .ok i w := by simp [typeInfo, hi]
theorem run_askRoom (k : Nat) (w : World) : (askRoom k).run P w = .ok () w := by
  unfold askRoom; split <;> simp [mark, Sem.run]

def capOf : Value → Nat
  | .slice _ _ c => c
  | _ => 0
/-- append, whatever is appended. 'isI': the second argument's type is no whole number (the make-append of gc). -/
theorem run_append {T T2 E ty : TypeId} {i : TypeInfo} {z0 v x : Value} {z n m base : Nat} {xs news : List Value} (h : Heap) (w : World) (hh : w.heap = h)
    (hT : P.underlying T = some (.slice E)) (hT2 : P.underlying T2 = some (.slice E) ∨ P.underlying T2 = some .string) (hi : P.info? E = some i) (hz : i.size = z) (hz0 : i.zero = some z0) (hzz : z0.cells.size = z)
    (hlen : ∀ w, (Builtin.lenOf x).run P w = .ok m w) (hx : ∀ w, w.heap = h → (Builtin.firstCells z m x).run P w = .ok news.toArray w) (hnl : news.length = m * z) (h1 : ∀ u ∈ news, u.oneCell' = true)
    (hrow : Row h z v n xs) (hown' : n + m ≤ capOf v → Own h base z v n xs) (hbase : base ≤ h.size) (hb : (n + m) * i.bytes ≤ 140737488355328) (hbp : 0 < i.bytes) :
    ∃ v' w', (Builtin.append_ #[T, T2] ty #[v, x]).run P w = .ok v' w' ∧ std w' = std w ∧ Own w'.heap base z v' (n + m) (xs ++ news) ∧ Only (blockOf v).toList h w'.heap ∧ (blockOf v' = blockOf v ∨ blockOf v' = some h.size) ∧ (0 < n + m → (blockOf v').isSome = true) := by
  rcases hT2 with hT2 | hT2
  all_goals
    have hnm : n + m ≤ 140737488355328 := by
      refine nt ?_ hb
      exact Nat.le_mul_of_pos_right _ hbp
    obtain ⟨base', cap, hv⟩ : ∃ base' cap, v = .slice base' n cap := by
      obtain ⟨⟨a0, cap, rfl, _⟩, _⟩ := hrow
      exact ⟨_, _, rfl⟩
    have hxl := hrow.len
    -- the cells that are there
    have hold : ∀ w, w.heap = h → (Builtin.firstCells z n v).run P w = .ok xs.toArray w := by
      intro w hw
      obtain ⟨⟨a0, cap0, hv0, k1, k2, k3⟩, k4⟩ := hrow
      subst hv0
      cases a0 with
      | none =>
        have : n = 0 := by have := k2 rfl; omega
        subst this
        have : xs = [] := List.eq_nil_of_length_eq_zero (by simpa using hxl)
        subst this
        simp [Builtin.firstCells]
      | some ad =>
        obtain ⟨j1, j3⟩ := k3 ad rfl
        obtain ⟨b, o, sp⟩ := ad
        have := run_loadCells_list (P := P) (w := w) ⟨b, o, sp⟩ xs (fun j u hj => by
          have hj' := (List.getElem?_eq_some_iff.1 hj).1
          obtain ⟨j1, -⟩ := j1 (Nat.pos_of_ne_zero (fun h0 => by subst h0; simp at hxl; subst hxl; simp at hj'))
          simp only at j1 j3
          subst j1
          have e0 : (⟨b, o, none⟩ : Addr).add j = ⟨b, o + j, none⟩ := by unfold Addr.add; split <;> simp_all
          rw [e0, cell?_cellAt, hw]; exact j3 j u hj)
        simp only [Builtin.firstCells]
        rw [← hxl]; exact this
    subst hv
    by_cases hroom : n + m ≤ cap
    · -- there is room
      obtain ⟨_, ⟨hv, hn0⟩ | ⟨g, cap', extra, hv, hg, hbk, hl, hn⟩⟩ := hown' hroom
      · simp only [Value.slice.injEq] at hv
        obtain ⟨rfl, rfl, rfl⟩ := hv
        have hm0 : m = 0 := by omega
        subst hm0
        have : xs = [] := List.eq_nil_of_length_eq_zero (by simpa using hxl)
        subst this
        have : news = [] := List.eq_nil_of_length_eq_zero (by simpa using hnl)
        subst this
        refine ⟨.slice none 0 0, w, ?_, rfl, Own.nil _ _ _, hh ▸ Only.refl _ _, .inl rfl, by simp⟩
        simp only [Builtin.append_, List.getElem?_toArray, List.getElem?_cons_zero, List.getElem?_cons_succ, Sem.run_bind, run_underlying hT, run_underlying hT2, Result.andThen_ok, run_sizeOf w (show (P.info? E).map (·.size) = some z by rw [hi]; simp [hz]), Sem.run_pure, Bool.false_eq_true, if_false, Sem.run_ite, hlen, Nat.zero_add, Nat.le_refl, if_true, Bool.not_false, hx w hh]
      · simp only [Value.slice.injEq] at hv
        obtain ⟨rfl, -, rfl⟩ := hv
        subst hh
        have hfit : n * z + 0 + news.length ≤ (xs ++ extra).length := by rw [hl, hnl, Nat.add_zero, ← Nat.add_mul]; exact Nat.mul_le_mul_right _ hroom
        obtain ⟨w', k1, k2, k3⟩ := run_storeCells_put (P := P) news g (n * z) 0 w (xs ++ extra) hbk hfit h1
        have e1 : (xs ++ extra).take (n * z + 0) ++ news ++ (xs ++ extra).drop (n * z + 0 + news.length) = (xs ++ news) ++ extra.drop news.length := by
          rw [Nat.add_zero, ← hxl, List.take_left, List.drop_append]
          simp [List.drop_eq_nil_of_le]
        rw [e1] at k3
        have e2 : (⟨g, 0, none⟩ : Addr).add (n * z) = ⟨g, n * z, none⟩ := by unfold Addr.add; split <;> simp_all
        refine ⟨.slice (some ⟨g, 0, none⟩) (n + m) cap, w', ?_, k2, Own.of_blk k3.blk hg (by rw [List.length_append, hxl, hnl, Nat.add_mul]) ?_ hroom, k3.only, .inl rfl, fun _ => rfl⟩
        · simp only [Builtin.append_, List.getElem?_toArray, List.getElem?_cons_zero, List.getElem?_cons_succ, Sem.run_bind, run_underlying hT, run_underlying hT2, Result.andThen_ok, run_sizeOf w (show (P.info? E).map (·.size) = some z by rw [hi]; simp [hz]), Sem.run_pure, Bool.false_eq_true, if_false, Sem.run_ite, hlen, hroom, if_true, Bool.not_false, hx w rfl, e2, k1]
        · have e3 := congrArg List.length e1
          simp only [List.length_append, List.length_take, List.length_drop] at e3 hl hfit ⊢
          omega
    · -- it grows
      have hcap : cap < n + m := by omega
      have hns : Builtin.nextslicecap (n + m) cap * i.bytes ≤ 281474976710656 := by
        have := nextslicecap_le hcap
        have h2 : Builtin.nextslicecap (n + m) cap * i.bytes ≤ 2 * (n + m) * i.bytes := Nat.mul_le_mul_right _ this
        rw [Nat.mul_assoc] at h2
        omega
      obtain ⟨newCap, hnc, w1, hch, hw1, hstd⟩ : ∃ newCap, n + m ≤ newCap ∧ ∃ w1, (choose (.appendCap (n + m) cap E)).run P w = .ok newCap w1 ∧ w1.heap = h ∧ std w1 = std w := by
        refine ⟨(n + m) + w.tape w.drawn (.appendCap (n + m) cap E) % (2 ^ 63 - (n + m)), by omega, { w with drawn := w.drawn + 1 }, ?_, hh, rfl⟩
        simp [choose, Sem.run, Question.forced, Question.cut]
      have e4 : ((n + m : Nat) : Int) > IntKind.i64.max ∧ ((false = true) ∨ i.bytes = 0) ↔ False := by
        have : IntKind.i64.max = 9223372036854775807 := rfl
        simp only [this]; constructor
        · rintro ⟨h1, _⟩; omega
        · intro h; cases h
      have e5 : ¬ (Builtin.nextslicecap (n + m) cap * i.bytes > 2 ^ 48) := by
        have : (2 : Nat) ^ 48 = 281474976710656 := by decide
        omega
      refine ⟨.slice (some ⟨h.size, 0, none⟩) (n + m) newCap, { w1 with heap := w1.heap.push (.cells (xs.toArray ++ news.toArray ++ Builtin.zeroCells z0.cells (newCap - (n + m))) E) }, ?_, hstd, ?_, ?_, .inr rfl, fun _ => rfl⟩
      · have hzv : ∀ w, (zeroValue E).run P w = .ok z0 w := by intro w; simp [zeroValue, typeInfo, hi, hz0]
        simp only [Builtin.append_, List.getElem?_toArray, List.getElem?_cons_zero, List.getElem?_cons_succ, Sem.run_bind, run_underlying hT, run_underlying hT2, Result.andThen_ok, run_sizeOf w (show (P.info? E).map (·.size) = some z by rw [hi]; simp [hz]), Sem.run_pure, Bool.false_eq_true, Sem.run_ite, if_false, hlen, if_neg hroom, run_typeInfo w hi, run_typeInfo w1 hi, hch, run_askRoom, hold w1 hw1, hx w1 hw1, hzv, run_newRow, hw1, Bool.not_false, if_true]
        have e6 : ¬ (((n + m : Nat) : Int) > IntKind.i64.max ∧ (False ∨ i.bytes = 0)) := by rintro ⟨_, h | h⟩ <;> omega
        rw [if_neg e6, if_neg e5]
      · have hzl : (Builtin.zeroCells z0.cells (newCap - (n + m))).toList.length = (newCap - (n + m)) * z := by
          simp [Builtin.zeroCells, hzz]
        have hpn := new_push h (xs ++ news ++ (Builtin.zeroCells z0.cells (newCap - (n + m))).toList) E
        have e7 : (xs ++ news ++ (Builtin.zeroCells z0.cells (newCap - (n + m))).toList).toArray = xs.toArray ++ news.toArray ++ Builtin.zeroCells z0.cells (newCap - (n + m)) := by simp
        rw [e7] at hpn
        simp only [hw1]
        refine Own.of_blk hpn.blk hbase (by rw [List.length_append, hxl, hnl, Nat.add_mul]) ?_ hnc
        rw [List.length_append, List.length_append, hxl, hnl, hzl, ← Nat.add_mul, ← Nat.add_mul]
        congr 1; omega
      · simp only [hw1]
        exact ((heap_push h _).1).mono (by simp)

/-- What an append leaves. -/
structure App (h h' : Heap) (base z : Nat) (v u : Value) (n m : Nat) (xs news : List Value) : Prop where
  own : Own h' base z u (n + m) (xs ++ news)
  only : Only (blockOf v).toList h h'
  lies : blockOf u = blockOf v ∨ blockOf u = some h.size
  some : 0 < n + m → (blockOf u).isSome = true
/-- The element type's row of the table. -/
def elemRow (P : Program) (E : TypeId) (z bytes : Nat) (z0 : Value) : Prop := (P.info? E).map (fun i => (i.size, i.bytes, i.zero)) = some (z, bytes, Option.some z0)

section
variable {σ : Std} {n : Nat} {Q : Exit → Act → World → Prop} {e : Env} {h : Heap} {ops : Array Oper} {rest : List Oper}
variable {d : Option Tmp} {t : TypeId} {pos : String} {af : Array Edge} {g : Option (Nat × Bool)}
variable {T T' E : TypeId} {x y : Operand} {v : Value} {z : Nat} {cs : List Value} {m : Nat}
theorem firstCells_row {P : Program} {h : Heap} {z m : Nat} {v : Value} {cs : List Value} (r : Row h z v m cs) (w : World) (hw : w.heap = h) : (Builtin.firstCells z m v).run P w = .ok cs.toArray w := by
  obtain ⟨⟨a0, cap0, rfl, k1, k2, k3⟩, k4⟩ := r
  cases a0 with
  | none =>
    have : m = 0 := by have := k2 rfl; omega
    subst this
    have : cs = [] := List.eq_nil_of_length_eq_zero (by simpa using k4)
    subst this
    simp [Builtin.firstCells]
  | some ad =>
    obtain ⟨j1, j3⟩ := k3 ad rfl
    obtain ⟨b, o, sp⟩ := ad
    by_cases hm : m = 0
    · subst hm
      have : cs = [] := List.eq_nil_of_length_eq_zero (by simpa using k4)
      subst this
      simp [Builtin.firstCells, loadCells, loadCellsFrom]
    obtain ⟨j1, -⟩ := j1 (by omega)
    simp only at j1 j3
    subst j1
    have := run_loadCells_list (P := P) (w := w) ⟨b, o, none⟩ cs (fun j u hj => by
      have e0 : (⟨b, o, none⟩ : Addr).add j = ⟨b, o + j, none⟩ := by unfold Addr.add; split <;> simp_all
      rw [e0, cell?_cellAt, hw]; exact j3 j u hj)
    simp only [Builtin.firstCells]
    rw [← k4]; exact this
theorem lenOf_row {h : Heap} {z m : Nat} {v : Value} {cs : List Value} (r : Row h z v m cs) (w : World) : (Builtin.lenOf v).run P w = .ok m w := by
  obtain ⟨⟨a0, cap0, rfl, k1, k2, k3⟩, k4⟩ := r
  rfl
theorem M_append' {bytes k base : Nat} {z0 u : Value} {xs news : List Value} (hT : P.underlying T = some (.slice E)) (hT2 : P.underlying T' = some (.slice E) ∨ P.underlying T' = some .string) (hE : elemRow P E z bytes z0) (hzz : z0.cells.size = z) (hbp : 0 < bytes)
    (hs : ev e x = some v) (hx : ev e y = some u) (hrow : Row h z v k xs) (hown : k + m ≤ capOf v → Own h base z v k xs) (hlen : ∀ w, (Builtin.lenOf u).run P w = .ok m w) (hfc : ∀ w, w.heap = h → (Builtin.firstCells z m u).run P w = .ok news.toArray w)
    (hnl : news.length = m * z) (h1 : ∀ u ∈ news, u.oneCell' = true) (hbase : base ≤ h.size) (hb : (k + m) * bytes ≤ 140737488355328) :
    Mks P n e h ⟨d, .call { callee := .builtin .append, args := #[x, y], argTypes := #[T, T'] }, t, pos, af, g⟩ (fun r h' => App h h' base z v r k m xs news) := fun w a hh he => by
  unfold elemRow at hE
  cases hi : P.info? E with
  | none => rw [hi] at hE; cases hE
  | some i =>
    rw [hi] at hE
    simp only [Option.map_some, Option.some.injEq, Prod.mk.injEq] at hE
    obtain ⟨hz, hby, hz0⟩ := hE
    obtain ⟨v', w', k1, k2, k3, k4, k5, k6⟩ := run_append (P := P) (ty := t) h w hh hT hT2 hi hz hz0 hzz hlen hfc hnl h1 hrow hown hbase (by rw [hby]; exact hb) (by rw [hby]; exact hbp)
    refine ⟨v', w', run_blt rfl ?_, k2, k3, k4, k5, k6⟩
    simpa [he.eval hs, he.eval hx] using k1
/-- append(xs, ys...), xs the call's own. -/
theorem M_append {bytes k base : Nat} {z0 u : Value} {xs news : List Value} (hT : P.underlying T = some (.slice E)) (hE : elemRow P E z bytes z0) (hzz : z0.cells.size = z) (hbp : 0 < bytes)
    (hs : ev e x = some v) (hx : ev e y = some u) (hown : Own h base z v k xs) (hr : Row h z u m news) (h1 : ∀ u ∈ news, u.oneCell' = true) (hbase : base ≤ h.size) (hb : (k + m) * bytes ≤ 140737488355328) :
    Mks P n e h ⟨d, .call { callee := .builtin .append, args := #[x, y], argTypes := #[T, T] }, t, pos, af, g⟩ (fun r h' => App h h' base z v r k m xs news) :=
  M_append' hT (.inl hT) hE hzz hbp hs hx hown.row (fun _ => hown) (lenOf_row hr) (firstCells_row hr) hr.len h1 hbase hb
/-- append(xs, s...), s a text. -/
theorem M_append_str {k base : Nat} {xs : List Value} {l : List UInt8} (hT : P.underlying T = some (.slice E)) (hT' : P.underlying T' = some .string) (hE : elemRow P E 1 1 (.int .u8 0))
    (hs : ev e x = some v) (hx : ev e y = some (str l)) (hown : Own h base 1 v k xs) (hbase : base ≤ h.size) (hb : k + l.length ≤ 140737488355328) :
    Mks P n e h ⟨d, .call { callee := .builtin .append, args := #[x, y], argTypes := #[T, T'] }, t, pos, af, g⟩ (fun r h' => App h h' base 1 v r k l.length xs (l.map bv)) := by
  have hsz : (⟨l.toArray⟩ : ByteArray).size = l.length := by simp [ByteArray.size]
  refine M_append' hT (.inr hT') hE rfl (by decide) hs hx hown.row (fun _ => hown) (fun w => ?_) (fun w hw => ?_) (by simp) ?_ hbase (by omega)
  · simp [Builtin.lenOf, hsz]
  · have e1 : (⟨l.toArray⟩ : ByteArray).extract 0 l.length = ⟨l.toArray⟩ := by rw [extract_list]; simp
    simp only [Builtin.firstCells, e1, Sem.run_pure]
    simp
  · intro u hu; obtain ⟨b, _, rfl⟩ := List.mem_map.1 hu; rfl
end
end
end Go.Xp
