/- append(xs, make([]byte, n)...), which the machine takes as one step: n zero bytes behind. -/
import Derived.Test.YtdmhigknppkniaaGreatDoorRow
set_option linter.unusedSimpArgs false
set_option linter.unusedVariables false
namespace Go.Xp

theorem zeroCells_one (v : Value) (k : Nat) : (Builtin.zeroCells #[v] k) = (List.replicate k v).toArray := by
  apply Array.ext
  · simp [Builtin.zeroCells]
  · intro i h1 h2
    simp [Builtin.zeroCells, Nat.mod_one]
section
variable {P : Program}
theorem run_appendz {T T2 E ty : TypeId} {i : TypeInfo} {v : Value} {kn : IntKind} {n m base : Nat} {xs : List Value} (h : Heap) (w : World) (hh : w.heap = h)
    (hT : P.underlying T = some (.slice E)) (hT2 : P.underlying T2 = some (.int kn)) (hi : P.info? E = some i) (hz : i.size = 1) (hz0 : i.zero = some (.int .u8 0)) (hby : i.bytes = 1)
    (hown : Own h base 1 v n xs) (hbase : base ≤ h.size) (hb : n + m ≤ 140737488355328) :
    ∃ v' w', (Builtin.append_ #[T, T2] ty #[v, .int kn (m : Int)]).run P w = .ok v' w' ∧ std w' = std w ∧ Own w'.heap base 1 v' (n + m) (xs ++ List.replicate m (.int .u8 0)) ∧ Only (blockOf v).toList h w'.heap := by
  have hrow := hown.row
  have hxl := hrow.len
  have hsz : (sizeOf E).run P w = .ok 1 w := run_sizeOf w (by rw [hi]; simp [hz])
  have hzv : ∀ w, (zeroValue E).run P w = .ok (.int .u8 0) w := by intro w; simp [zeroValue, typeInfo, hi, hz0]
  have hwr : IntKind.i64.wrap ((m : Int)) = (m : Int) := wrap_i64 (by omega) (by omega)
  have h48 : ¬ ((m : Int) * ((1 : Nat) : Int) > 2 ^ 48) := by
    have : (2 : Int) ^ 48 = 281474976710656 := by decide
    omega
  have hcells : (Value.int .u8 0).cells = #[.int .u8 0] := rfl
  have happ : ∀ w, (if m * 1 = 0 then Result.ok #[] w else ((zeroValue E).run P w).andThen fun u w' => Result.ok (Builtin.zeroCells u.cells m) w') = .ok (List.replicate m (Value.int .u8 0)).toArray w := by
    intro w
    by_cases h0 : m = 0
    · subst h0; simp
    · rw [if_neg (by omega), hzv]
      simp only [Result.andThen_ok, hcells, zeroCells_one]
  obtain ⟨base', cap, hv⟩ : ∃ base' cap, v = .slice base' n cap := by
    obtain ⟨⟨a0, cap, rfl, _⟩, _⟩ := hrow
    exact ⟨_, _, rfl⟩
  have hold : ∀ w, w.heap = h → (Builtin.firstCells 1 n v).run P w = .ok xs.toArray w := fun w hw => firstCells_row hrow w hw
  subst hv
  by_cases hroom : n + m ≤ cap
  · obtain ⟨_, ⟨hv, hn0⟩ | ⟨g, cap', extra, hv, hg, hbk, hl, hn⟩⟩ := hown
    · simp only [Value.slice.injEq] at hv
      obtain ⟨rfl, rfl, rfl⟩ := hv
      have hm0 : m = 0 := by omega
      subst hm0
      have : xs = [] := List.eq_nil_of_length_eq_zero (by simpa using hxl)
      subst this
      refine ⟨.slice none 0 0, w, ?_, rfl, Own.nil _ _ _, hh ▸ Only.refl _ _⟩
      have hn1 : ¬ (((0 : Nat) : Int) < 0) := by omega
      simp only [Builtin.append_, List.getElem?_toArray, List.getElem?_cons_zero, List.getElem?_cons_succ, Sem.run_bind, run_underlying hT, run_underlying hT2, Result.andThen_ok, hsz, Sem.run_pure, Sem.run_ite, asInt, asIntOf, hwr, run_typeInfo w hi, hby, if_true, if_neg hn1, if_neg h48, Int.toNat_natCast, Nat.zero_add, Nat.le_refl, Bool.not_true, Bool.false_eq_true, if_false, Nat.zero_mul]
    · simp only [Value.slice.injEq] at hv
      obtain ⟨rfl, -, rfl⟩ := hv
      subst hh
      have hfit : n * 1 + 0 + (List.replicate m (Value.int .u8 0)).length ≤ (xs ++ extra).length := by rw [hl]; simp; omega
      obtain ⟨w', k1, k2, k3⟩ := run_storeCells_put (P := P) (List.replicate m (Value.int .u8 0)) g (n * 1) 0 w (xs ++ extra) hbk hfit (fun u hu => by obtain ⟨_, rfl⟩ := List.mem_replicate.1 hu; rfl)
      have e1 : (xs ++ extra).take (n * 1 + 0) ++ List.replicate m (Value.int .u8 0) ++ (xs ++ extra).drop (n * 1 + 0 + (List.replicate m (Value.int .u8 0)).length) = (xs ++ List.replicate m (Value.int .u8 0)) ++ extra.drop (List.replicate m (Value.int .u8 0)).length := by
        rw [Nat.add_zero, ← hxl, List.take_left, List.drop_append]
        simp [List.drop_eq_nil_of_le]
      rw [e1] at k3
      have e2 : (⟨g, 0, none⟩ : Addr).add (n * 1) = ⟨g, n * 1, none⟩ := by unfold Addr.add; split <;> simp_all
      refine ⟨.slice (some ⟨g, 0, none⟩) (n + m) cap, w', ?_, k2, Own.of_blk k3.blk hg (by simp [hxl]) ?_ hroom, k3.only⟩
      · have hn1 : ¬ ((m : Int) < 0) := by omega
        have ha := happ w
        simp only [Builtin.append_, List.getElem?_toArray, List.getElem?_cons_zero, List.getElem?_cons_succ, Sem.run_bind, run_underlying hT, run_underlying hT2, Result.andThen_ok, hsz, Sem.run_pure, Sem.run_ite, asInt, asIntOf, hwr, run_typeInfo w hi, hby, if_true, if_neg hn1, if_neg h48, Int.toNat_natCast, if_pos hroom, Bool.not_true, Bool.false_eq_true, if_false, e2]
        rw [ha]
        simp only [Result.andThen_ok, k1]
      · have e3 := congrArg List.length e1
        simp only [List.length_append, List.length_take, List.length_drop] at e3 hl hfit ⊢
        omega
  · have hcap : cap < n + m := by omega
    have hns : Builtin.nextslicecap (n + m) cap * 1 ≤ 281474976710656 := by
      have := nextslicecap_le hcap
      omega
    obtain ⟨newCap, hnc, w1, hch, hw1, hstd⟩ : ∃ newCap, n + m ≤ newCap ∧ ∃ w1, (choose (.appendCap (n + m) cap E)).run P w = .ok newCap w1 ∧ w1.heap = h ∧ std w1 = std w := by
      refine ⟨(n + m) + w.tape w.drawn (.appendCap (n + m) cap E) % (2 ^ 63 - (n + m)), by omega, { w with drawn := w.drawn + 1 }, ?_, hh, rfl⟩
      simp [choose, Sem.run, Question.forced, Question.cut]
    have e5 : ¬ (Builtin.nextslicecap (n + m) cap * 1 > 2 ^ 48) := by
      have : (2 : Nat) ^ 48 = 281474976710656 := by decide
      omega
    have e6 : ¬ (((n + m : Nat) : Int) > IntKind.i64.max) := by
      have : IntKind.i64.max = 9223372036854775807 := rfl
      omega
    have hn1 : ¬ ((m : Int) < 0) := by omega
    have ha := happ w1
    refine ⟨.slice (some ⟨h.size, 0, none⟩) (n + m) newCap, { w1 with heap := w1.heap.push (.cells (xs.toArray ++ (List.replicate m (Value.int .u8 0)).toArray ++ Builtin.zeroCells (Value.int .u8 0).cells (newCap - (n + m))) E) }, ?_, hstd, ?_, ?_⟩
    · simp only [Builtin.append_, List.getElem?_toArray, List.getElem?_cons_zero, List.getElem?_cons_succ, Sem.run_bind, run_underlying hT, run_underlying hT2, Result.andThen_ok, hsz, Sem.run_pure, Sem.run_ite, asInt, asIntOf, hwr, run_typeInfo w hi, run_typeInfo w1 hi, hby, if_true, if_neg hn1, if_neg h48, Int.toNat_natCast, if_neg hroom, Bool.not_true, Bool.false_eq_true, if_false, true_or, and_true, hch, run_askRoom, hold w1 hw1, ha, hzv, run_newRow, hw1]
      have ha2 : (if m * 1 = 0 then Result.ok #[] w1 else Result.ok (Builtin.zeroCells (Value.int .u8 0).cells m) w1) = .ok (List.replicate m (Value.int .u8 0)).toArray w1 := by
        simpa only [hzv, Result.andThen_ok] using ha
      rw [if_neg e6, if_neg e5, ha2]
      simp only [Result.andThen_ok, hw1]
    · have hpn := new_push h (xs ++ List.replicate m (Value.int .u8 0) ++ (Builtin.zeroCells (Value.int .u8 0).cells (newCap - (n + m))).toList) E
      have e7 : (xs ++ List.replicate m (Value.int .u8 0) ++ (Builtin.zeroCells (Value.int .u8 0).cells (newCap - (n + m))).toList).toArray = xs.toArray ++ (List.replicate m (Value.int .u8 0)).toArray ++ Builtin.zeroCells (Value.int .u8 0).cells (newCap - (n + m)) := by simp
      rw [e7] at hpn
      simp only [hw1]
      have hzl : (Builtin.zeroCells (Value.int .u8 0).cells (newCap - (n + m))).toList.length = newCap - (n + m) := by simp [Builtin.zeroCells, hcells]
      refine Own.of_blk hpn.blk hbase (by simp [hxl]) ?_ hnc
      rw [List.length_append, List.length_append, hxl, hzl, List.length_replicate]; omega
    · simp only [hw1]
      exact ((heap_push h _).1).mono (by simp)
variable {n : Nat} {e : Env} {h : Heap} {d : Option Tmp} {t : TypeId} {pos : String} {af : Array Edge} {g : Option (Nat × Bool)}
theorem M_appz {T T' E : TypeId} {x y : Operand} {v : Value} {l : List UInt8} {base : Nat} {kn : IntKind} {p : Int} (hT : P.underlying T = some (.slice E)) (hT' : P.underlying T' = some (.int kn)) (hE : elemRow P E 1 1 (.int .u8 0)) (hs : ev e x = some v) (hx : ev e y = some (.int kn p)) (hown : OwnB h base v l) (hbase : base ≤ h.size) (h0 : 0 ≤ p) (hb : (l.length : Int) + p ≤ 140737488355328) :
    Mks P n e h ⟨d, .call { callee := .builtin .append, args := #[x, y], argTypes := #[T, T'] }, t, pos, af, g⟩ (fun r h' => AppB h h' base v r (l ++ List.replicate p.toNat 0)) := fun w a hh he => by
  unfold elemRow at hE
  cases hi : P.info? E with
  | none => rw [hi] at hE; cases hE
  | some i =>
    rw [hi] at hE
    simp only [Option.map_some, Option.some.injEq, Prod.mk.injEq] at hE
    obtain ⟨hz, hby, hz0⟩ := hE
    obtain ⟨v', w', k1, k2, k3, k4⟩ := run_appendz (P := P) (ty := t) (kn := kn) (m := p.toNat) h w hh hT hT' hi hz hz0 hby hown hbase (by omega)
    rw [Int.toNat_of_nonneg h0] at k1
    refine ⟨v', w', run_blt rfl ?_, k2, ?_, k4, hown.ge⟩
    · simpa [he.eval hs, he.eval hx] using k1
    · unfold OwnB
      rw [List.map_append, List.length_append, List.length_replicate, List.map_replicate]
      exact k3
end
end Go.Xp

/- Shifts and bit operations of numbers that are not negative; a byte stored into a row that the call made. -/
namespace Go.Xp
section
variable {P : Program} {n : Nat} {e : Env} {h : Heap} {d : Option Tmp} {t : TypeId} {pos : String} {af : Array Edge} {g : Option (Nat × Bool)}
variable {T T' : TypeId} {x y : Operand} {k k' : IntKind} {p q : Int}
theorem Y_shrw (hx : ev e x = some (.int k p)) (hy : ev e y = some (.int k' q)) (hq : 0 ≤ q) : Yld P n e h ⟨d, .binOp .shr T x y T', t, pos, af, g⟩ (.int k (p.fdiv (2 ^ (min q.toNat k.bits)))) := fun w a _ he => by
  simp [execOp, he.eval hx, he.eval hy, eqGuard, binOp, Op.shift, show ¬ q < 0 by omega]
theorem Y_shlw (hx : ev e x = some (.int k p)) (hy : ev e y = some (.int k' q)) (hq : 0 ≤ q) : Yld P n e h ⟨d, .binOp .shl T x y T', t, pos, af, g⟩ (.int k (k.wrap (p * 2 ^ (min q.toNat k.bits)))) := fun w a _ he => by
  simp [execOp, he.eval hx, he.eval hy, eqGuard, binOp, Op.shift, show ¬ q < 0 by omega]
theorem Y_shr (hx : ev e x = some (.int .i64 p)) (hy : ev e y = some (.int k' q)) (hq : 0 ≤ q) (hq' : q ≤ 64) : Yld P n e h ⟨d, .binOp .shr T x y T', t, pos, af, g⟩ (.int .i64 (p / 2 ^ q.toNat)) := by
  have := Y_shrw (P := P) (n := n) (h := h) (d := d) (t := t) (pos := pos) (af := af) (g := g) (T := T) (T' := T') hx hy hq
  rw [Nat.min_eq_left (show q.toNat ≤ IntKind.i64.bits by show q.toNat ≤ 64; omega), Int.fdiv_eq_ediv_of_nonneg p (Int.le_of_lt (Int.pow_pos (by decide)))] at this
  exact this
theorem Y_shl (hx : ev e x = some (.int .i64 p)) (hy : ev e y = some (.int k' q)) (hq : 0 ≤ q) (hq' : q ≤ 64) (h0 : 0 ≤ p * 2 ^ q.toNat) (h1 : p * 2 ^ q.toNat ≤ 9223372036854775807) : Yld P n e h ⟨d, .binOp .shl T x y T', t, pos, af, g⟩ (.int .i64 (p * 2 ^ q.toNat)) := by
  have := Y_shlw (P := P) (n := n) (h := h) (d := d) (t := t) (pos := pos) (af := af) (g := g) (T := T) (T' := T') hx hy hq
  rw [Nat.min_eq_left (show q.toNat ≤ IntKind.i64.bits by show q.toNat ≤ 64; omega), wrap_i64 (by omega) h1] at this
  exact this
theorem Y_shlu (hx : ev e x = some (.int .u64 p)) (hy : ev e y = some (.int k' q)) (hq : 0 ≤ q) (hq' : q ≤ 64) (h0 : 0 ≤ p * 2 ^ q.toNat) (h1 : p * 2 ^ q.toNat ≤ 18446744073709551615) : Yld P n e h ⟨d, .binOp .shl T x y T', t, pos, af, g⟩ (.int .u64 (p * 2 ^ q.toNat)) := by
  have := Y_shlw (P := P) (n := n) (h := h) (d := d) (t := t) (pos := pos) (af := af) (g := g) (T := T) (T' := T') hx hy hq
  rw [Nat.min_eq_left (show q.toNat ≤ IntKind.u64.bits by show q.toNat ≤ 64; omega), IntKind.wrap_u64, Int.emod_eq_of_lt h0 (by omega)] at this
  exact this
theorem ofInt_toNat {z : Int} (h0 : 0 ≤ z) (h1 : z ≤ 9223372036854775807) : (BitVec.ofInt 64 z).toNat = z.toNat := by
  rw [BitVec.toNat_ofInt, Int.emod_eq_of_lt h0 (by simp; omega)]
theorem Y_and7 (hx : ev e x = some (.int .i64 p)) (hy : ev e y = some (.int .i64 7)) (h0 : 0 ≤ p) (h1 : p ≤ 9223372036854775807) : Yld P n e h ⟨d, .binOp .and T x y T', t, pos, af, g⟩ (.int .i64 (p % 8)) := fun w a _ he => by
  have hb : (BitVec.ofInt 64 p &&& BitVec.ofInt 64 7).toNat = p.toNat % 8 := by
    rw [BitVec.toNat_and, ofInt_toNat h0 h1, ofInt_toNat (by decide) (by decide)]
    exact Nat.and_two_pow_sub_one_eq_mod p.toNat 3
  have hw : IntKind.i64.wrap (((BitVec.ofInt 64 p &&& BitVec.ofInt 64 7).toNat : Nat) : Int) = p % 8 := by
    rw [hb, wrap_i64 (by omega) (by omega)]; omega
  simp only [execOp, he.eval hx, he.eval hy, eqGuard, binOp, Op.intBits]
  show Sem.run P _ w = _
  simp [hw, IntKind.bits]
  exact hw
theorem Y_or8 {m c : Int} (hx : ev e x = some (.int .i64 (m * 2 ^ (Int.toNat 3)))) (hy : ev e y = some (.int .i64 c)) (h0 : 0 ≤ m) (h1 : 0 ≤ c) (h2 : c ≤ 7) (h3 : m * 8 + c ≤ 9223372036854775807) : Yld P n e h ⟨d, .binOp .or T x y T', t, pos, af, g⟩ (.int .i64 (m * 8 + c)) := fun w a _ he => by
  have e8 : m * 2 ^ (Int.toNat 3) = m * 8 := rfl
  have hb : (BitVec.ofInt 64 (m * 2 ^ (Int.toNat 3)) ||| BitVec.ofInt 64 c).toNat = m.toNat * 8 + c.toNat := by
    rw [BitVec.toNat_or, e8, ofInt_toNat (by omega) (by omega), ofInt_toNat h1 (by omega)]
    have := Nat.two_pow_add_eq_or_of_lt (b := c.toNat) (i := 3) (by omega) m.toNat
    rw [show (m * 8).toNat = 2 ^ 3 * m.toNat by omega, ← this]; omega
  have hw : IntKind.i64.wrap (((BitVec.ofInt 64 (m * 2 ^ (Int.toNat 3)) ||| BitVec.ofInt 64 c).toNat : Nat) : Int) = m * 8 + c := by
    rw [hb, wrap_i64 (by omega) (by omega)]; omega
  simp only [execOp, he.eval hx, he.eval hy, eqGuard, binOp, Op.intBits]
  show Sem.run P _ w = _
  simp [IntKind.bits]
  rw [e8] at hw
  exact hw
/-- 's[i] = c' in a row of bytes that the call made. -/
theorem D_storeb {b k : Nat} {l : List UInt8} {c : Int} (hz : (P.info? T).map (·.size) = some 1) (hx : ev e x = some (.pointer (some ⟨b, k, none⟩))) (hy : ev e y = some (.int .u8 c)) (hc : 0 ≤ c ∧ c ≤ 255) (hb : Buf h b l) (hk : k < l.length) :
    Dos P n e h ⟨none, .store T x y, t, pos, af, g⟩ (fun h' => Only [b] h h' ∧ h'.size = h.size ∧ Buf h' b (l.set k c.toNat.toUInt8)) := fun w a hh he => by
  obtain ⟨w', k1, k2, k3⟩ := D_store (P := P) (n := n) (t := t) (pos := pos) (af := af) (g := g) (us := [.int .u8 c]) hz hx hy rfl (by intro u hu; rw [List.mem_singleton.1 hu]; rfl) hb (by simp; omega) w a hh he
  refine ⟨w', k1, k2, k3.only, k3.size, ?_⟩
  have h1 := k3.blk
  unfold Buf
  rw [List.map_set, ← bv_of hc, List.set_eq_take_append_cons_drop, if_pos (by simpa using hk)]
  simpa using h1
theorem D_storee {b k N M : Nat} {l : List UInt8} {c : Int} (hz : (P.info? T).map (·.size) = some 1) (hx : ev e x = some (.pointer (some (elemAddr (.slice (some ⟨b, 0, none⟩) N M) (k * 1))))) (hy : ev e y = some (.int .u8 c)) (hc : 0 ≤ c ∧ c ≤ 255) (hb : Buf h b l) (hk : k < l.length) :
    Dos P n e h ⟨none, .store T x y, t, pos, af, g⟩ (fun h' => Only [b] h h' ∧ h'.size = h.size ∧ Buf h' b (l.set k c.toNat.toUInt8)) := by
  have e1 : elemAddr (.slice (some ⟨b, 0, none⟩) N M) (k * 1) = ⟨b, k, none⟩ := by simp [elemAddr]
  rw [e1] at hx
  exact D_storeb hz hx hy hc hb hk
theorem Y_addu8 (hx : ev e x = some (.int .u8 p)) (hy : ev e y = some (.int .u8 q)) (h0 : 0 ≤ p + q) (h1 : p + q ≤ 255) : Yld P n e h ⟨d, .binOp .add T x y T', t, pos, af, g⟩ (.int .u8 (p + q)) := by
  have := Y_addw (P := P) (n := n) (h := h) (d := d) (t := t) (pos := pos) (af := af) (g := g) (T := T) (T' := T') hx hy
  rwa [wrap_u8 h0 h1] at this
theorem Y_subu8 (hx : ev e x = some (.int .u8 p)) (hy : ev e y = some (.int .u8 q)) (h0 : 0 ≤ p - q) (h1 : p - q ≤ 255) : Yld P n e h ⟨d, .binOp .sub T x y T', t, pos, af, g⟩ (.int .u8 (p - q)) := by
  have := Y_subw (P := P) (n := n) (h := h) (d := d) (t := t) (pos := pos) (af := af) (g := g) (T := T) (T' := T') hx hy
  rwa [wrap_u8 h0 h1] at this
end
end Go.Xp
