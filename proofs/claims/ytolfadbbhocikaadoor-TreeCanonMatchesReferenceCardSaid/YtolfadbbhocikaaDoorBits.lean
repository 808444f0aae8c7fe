/- Shifts and bit operations of numbers that are not negative; a byte stored into a row that the call made. -/
import Derived.Test.YtolfadbbhocikaaDoorZeros
set_option linter.unusedSimpArgs false
set_option linter.unusedVariables false
namespace Go.Xp
section
variable {P : Program} {n : Nat} {e : Env} {h : Heap} {d : Option Tmp} {t : TypeId} {pos : String} {af : Array Edge} {g : Option (Nat × Bool)}
variable {T T' : TypeId} {x y : Operand} {k k' : IntKind} {p q : Int}
theorem Y_shrw (hx : ev e x = some (.int k p)) (hy : ev e y = some (.int k' q)) (hq : 0 ≤ q) : Yld P n e h ⟨d, .binOp .shr T x y T', t, pos, af, g⟩ (.int k (p.fdiv (2 ^ (min q.toNat k.bits)))) := fun w a _ he => by
  simp [execOp, he.eval hx, he.eval hy, eqGuard, binOp, Op.shift, show ¬ q < 0 by omega]
theorem Y_shlw (hx : ev e x = some (.int k p)) (hy : ev e y = some (.int k' q)) (hq : 0 ≤ q) : Yld P n e h ⟨d, .binOp .shl T x y T', t, pos, af, g⟩ (.int k (k.wrap (p * 2 ^ (min q.toNat k.bits)))) := fun w a _ he => by
  simp [execOp, he.eval hx, he.eval hy, eqGuard, binOp, Op.shift, show ¬ q < 0 by omega]
theorem Y_shr (hx : ev e x = some (.int .i64 p)) (hy : ev e y = some (.int k' q)) (hq : 0 ≤ q) (hq' : q ≤ 64) : Yld P n e h ⟨d, .binOp .shr T x y T', t, pos, af, g⟩ (.int .i64 (p / 2 ^ q.toNat)) := by
  have := Y_shrw (P := P) (n := n) (h := h) (d := d) (t := t) (pos := pos) (af := af) (g := g) (T := T) (T' := T') hx hy hq
  rw [Nat.min_eq_left (show q.toNat ≤ IntKind.i64.bits by show q.toNat ≤ 64; omega), Int.fdiv_eq_ediv_of_nonneg p (Int.le_of_lt (Int.pow_pos (by decide)))] at this
  exact this
theorem Y_shl (hx : ev e x = some (.int .i64 p)) (hy : ev e y = some (.int k' q)) (hq : 0 ≤ q) (hq' : q ≤ 64) (h0 : 0 ≤ p * 2 ^ q.toNat) (h1 : p * 2 ^ q.toNat ≤ 9223372036854775807) : Yld P n e h ⟨d, .binOp .shl T x y T', t, pos, af, g⟩ (.int .i64 (p * 2 ^ q.toNat)) := by
  have := Y_shlw (P := P) (n := n) (h := h) (d := d) (t := t) (pos := pos) (af := af) (g := g) (T := T) (T' := T') hx hy hq
  rw [Nat.min_eq_left (show q.toNat ≤ IntKind.i64.bits by show q.toNat ≤ 64; omega), wrap_i64 (by omega) h1] at this
  exact this
theorem Y_shlu (hx : ev e x = some (.int .u64 p)) (hy : ev e y = some (.int k' q)) (hq : 0 ≤ q) (hq' : q ≤ 64) (h0 : 0 ≤ p * 2 ^ q.toNat) (h1 : p * 2 ^ q.toNat ≤ 18446744073709551615) : Yld P n e h ⟨d, .binOp .shl T x y T', t, pos, af, g⟩ (.int .u64 (p * 2 ^ q.toNat)) := by
  have := Y_shlw (P := P) (n := n) (h := h) (d := d) (t := t) (pos := pos) (af := af) (g := g) (T := T) (T' := T') hx hy hq
  rw [Nat.min_eq_left (show q.toNat ≤ IntKind.u64.bits by show q.toNat ≤ 64; omega), IntKind.wrap_u64, Int.emod_eq_of_lt h0 (by omega)] at this
  exact this
theorem ofInt_toNat {z : Int} (h0 : 0 ≤ z) (h1 : z ≤ 9223372036854775807) : (BitVec.ofInt 64 z).toNat = z.toNat := by
  rw [BitVec.toNat_ofInt, Int.emod_eq_of_lt h0 (by simp; omega)]
theorem Y_and7 (hx : ev e x = some (.int .i64 p)) (hy : ev e y = some (.int .i64 7)) (h0 : 0 ≤ p) (h1 : p ≤ 9223372036854775807) : Yld P n e h ⟨d, .binOp .and T x y T', t, pos, af, g⟩ (.int .i64 (p % 8)) := fun w a _ he => by
  have hb : (BitVec.ofInt 64 p &&& BitVec.ofInt 64 7).toNat = p.toNat % 8 := by
    rw [BitVec.toNat_and, ofInt_toNat h0 h1, ofInt_toNat (by decide) (by decide)]
    exact Nat.and_two_pow_sub_one_eq_mod p.toNat 3
  have hw : IntKind.i64.wrap (((BitVec.ofInt 64 p &&& BitVec.ofInt 64 7).toNat : Nat) : Int) = p % 8 := by
    rw [hb, wrap_i64 (by omega) (by omega)]; omega
  simp only [execOp, he.eval hx, he.eval hy, eqGuard, binOp, Op.intBits]
  show Sem.run P _ w = _
  simp [hw, IntKind.bits]
  exact hw
theorem Y_or8 {m c : Int} (hx : ev e x = some (.int .i64 (m * 2 ^ (Int.toNat 3)))) (hy : ev e y = some (.int .i64 c)) (h0 : 0 ≤ m) (h1 : 0 ≤ c) (h2 : c ≤ 7) (h3 : m * 8 + c ≤ 9223372036854775807) : Yld P n e h ⟨d, .binOp .or T x y T', t, pos, af, g⟩ (.int .i64 (m * 8 + c)) := fun w a _ he => by
  have e8 : m * 2 ^ (Int.toNat 3) = m * 8 := rfl
  have hb : (BitVec.ofInt 64 (m * 2 ^ (Int.toNat 3)) ||| BitVec.ofInt 64 c).toNat = m.toNat * 8 + c.toNat := by
    rw [BitVec.toNat_or, e8, ofInt_toNat (by omega) (by omega), ofInt_toNat h1 (by omega)]
    have := Nat.two_pow_add_eq_or_of_lt (b := c.toNat) (i := 3) (by omega) m.toNat
    rw [show (m * 8).toNat = 2 ^ 3 * m.toNat by omega, ← this]; omega
  have hw : IntKind.i64.wrap (((BitVec.ofInt 64 (m * 2 ^ (Int.toNat 3)) ||| BitVec.ofInt 64 c).toNat : Nat) : Int) = m * 8 + c := by
    rw [hb, wrap_i64 (by omega) (by omega)]; omega
  simp only [execOp, he.eval hx, he.eval hy, eqGuard, binOp, Op.intBits]
  show Sem.run P _ w = _
  simp [IntKind.bits]
  rw [e8] at hw
  exact hw
/-- 's[i] = c' in a row of bytes that the call made. -/
theorem D_storeb {b k : Nat} {l : List UInt8} {c : Int} (hz : (P.info? T).map (·.size) = some 1) (hx : ev e x = some (.pointer (some ⟨b, k, none⟩))) (hy : ev e y = some (.int .u8 c)) (hc : 0 ≤ c ∧ c ≤ 255) (hb : Buf h b l) (hk : k < l.length) :
    Dos P n e h ⟨none, .store T x y, t, pos, af, g⟩ (fun h' => Only [b] h h' ∧ h'.size = h.size ∧ Buf h' b (l.set k c.toNat.toUInt8)) := fun w a hh he => by
  obtain ⟨w', k1, k2, k3⟩ := D_store (P := P) (n := n) (t := t) (pos := pos) (af := af) (g := g) (us := [.int .u8 c]) hz hx hy rfl (by intro u hu; rw [List.mem_singleton.1 hu]; rfl) hb (by simp; omega) w a hh he
  refine ⟨w', k1, k2, k3.only, k3.size, ?_⟩
  have h1 := k3.blk
  unfold Buf
  rw [List.map_set, ← bv_of hc, List.set_eq_take_append_cons_drop, if_pos (by simpa using hk)]
  simpa using h1
theorem D_storee {b k N M : Nat} {l : List UInt8} {c : Int} (hz : (P.info? T).map (·.size) = some 1) (hx : ev e x = some (.pointer (some (elemAddr (.slice (some ⟨b, 0, none⟩) N M) (k * 1))))) (hy : ev e y = some (.int .u8 c)) (hc : 0 ≤ c ∧ c ≤ 255) (hb : Buf h b l) (hk : k < l.length) :
    Dos P n e h ⟨none, .store T x y, t, pos, af, g⟩ (fun h' => Only [b] h h' ∧ h'.size = h.size ∧ Buf h' b (l.set k c.toNat.toUInt8)) := by
  have e1 : elemAddr (.slice (some ⟨b, 0, none⟩) N M) (k * 1) = ⟨b, k, none⟩ := by simp [elemAddr]
  rw [e1] at hx
  exact D_storeb hz hx hy hc hb hk
theorem Y_addu8 (hx : ev e x = some (.int .u8 p)) (hy : ev e y = some (.int .u8 q)) (h0 : 0 ≤ p + q) (h1 : p + q ≤ 255) : Yld P n e h ⟨d, .binOp .add T x y T', t, pos, af, g⟩ (.int .u8 (p + q)) := by
  have := Y_addw (P := P) (n := n) (h := h) (d := d) (t := t) (pos := pos) (af := af) (g := g) (T := T) (T' := T') hx hy
  rwa [wrap_u8 h0 h1] at this
theorem Y_subu8 (hx : ev e x = some (.int .u8 p)) (hy : ev e y = some (.int .u8 q)) (h0 : 0 ≤ p - q) (h1 : p - q ≤ 255) : Yld P n e h ⟨d, .binOp .sub T x y T', t, pos, af, g⟩ (.int .u8 (p - q)) := by
  have := Y_subw (P := P) (n := n) (h := h) (d := d) (t := t) (pos := pos) (af := af) (g := g) (T := T) (T' := T') hx hy
  rwa [wrap_u8 h0 h1] at this
end
end Go.Xp
