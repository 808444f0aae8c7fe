/- Forms of the walks' facts in which the program that prints them wants them. -/
import Derived.Test.YtmmpnieglihhnaaDoorAppend
set_option linter.unusedSimpArgs false
set_option linter.unusedVariables false
namespace Go.Xp

/-- Byte 'k' of a text as a number. -/
def byt (l : List UInt8) (k : Nat) : Int := ((l.getD k 0).toNat : Int)
theorem byt_lt (l : List UInt8) (k : Nat) : 0 ≤ byt l k ∧ byt l k ≤ 255 := by
  have h : (l.getD k 0).toNat < 256 := UInt8.toNat_lt _
  unfold byt; omega
theorem byt_eq {l : List UInt8} {k : Nat} (h : k < l.length) : byt l k = (l[k].toNat : Int) := by
  unfold byt; rw [List.getD_eq_getElem?_getD, List.getElem?_eq_getElem h]; rfl

theorem lki {e : Env} {i : Nat} {k : IntKind} {p q : Int} (hl : lk e i = some (.int k p)) (hb : p = q) : lk e i = some (.int k q) := hb ▸ hl
theorem lks {e : Env} {i : Nat} {p q : List UInt8} (hl : lk e i = some (str p)) (hb : p = q) : lk e i = some (str q) := hb ▸ hl
theorem lkb {e : Env} {i : Nat} {b b' : Bool} (hl : lk e i = some (.bool b)) (hb : b = b') : lk e i = some (.bool b') := hb ▸ hl

section
variable {σ : Std} {P : Program} {n : Nat} {Q : Exit → Act → World → Prop} {e : Env} {h : Heap} {ops : Array Oper} {rest : List Oper}
variable {d : Option Tmp} {t : TypeId} {pos : String} {af : Array Edge} {g : Option (Nat × Bool)}
variable {T T' E : TypeId} {x y : Operand} {v : Value} {z : Nat} {cs : List Value} {m : Nat} {l : List UInt8}

theorem Y_sidx {k : IntKind} {p : Int} (hT : P.underlying T = some .string) (hx : ev e x = some (str l)) (hy : ev e y = some (.int k p)) (h0 : 0 ≤ p) (h1 : p < l.length) : Yld P n e h ⟨d, .index T x y, t, pos, af, g⟩ (.int .u8 (byt l p.toNat)) := by
  have := Y_sindex (P := P) (n := n) (h := h) (d := d) (t := t) (pos := pos) (af := af) (g := g) hT hx hy h0 h1
  rw [byt_eq (show p.toNat < l.length by omega)]
  exact this
theorem Y_ldbyte {D : TypeDesc} {k : Nat} (hT : P.underlying T = some D) (hD : isAggD D = false) (hx : ev e x = some (.pointer (some (elemAddr v (k * 1))))) (hr : Bytes h v l) (h0 : 0 ≤ (k : Int)) (hk : (k : Int) < l.length) :
    Yld P n e h ⟨d, .load T x, t, pos, af, g⟩ (.int .u8 (byt l k)) := by
  have hk' : k < l.length := by omega
  refine Y_ldrow hT hD hx hr ?_
  rw [Nat.mul_one, byt_eq hk']
  simp [hk']
theorem Y_convs {k : IntKind} {k' : IntKind} {p : Int} (hT : P.underlying T = some (.int k)) (hT' : P.underlying T' = some (.int k')) (hx : ev e x = some (.int k p)) (hw : k'.wrap p = p) : Yld P n e h ⟨d, .convert T T' x, t, pos, af, g⟩ (.int k' p) := by
  have := Y_conv (P := P) (n := n) (h := h) (d := d) (t := t) (pos := pos) (af := af) (g := g) hT hT' hx
  rwa [hw] at this
theorem Y_convss (hT : P.underlying T = some .string) (hT' : P.underlying T' = some .string) (hx : ev e x = some (str l)) : Yld P n e h ⟨d, .convert T T' x, t, pos, af, g⟩ (str l) := fun w a _ he => by
  simp [execOp, he.eval hx, convert, run_underlying hT, run_underlying hT']
theorem Bytes.cutb (hb : Bytes h v l) {p q : Int} (h0 : 0 ≤ p ∧ p ≤ q) (h1 : q ≤ l.length) : Bytes h (slcut 1 p.toNat q.toNat v) ((l.take q.toNat).drop p.toNat) := hb.cut (by omega) (by omega)
theorem Bytes.cutl (hb : Bytes h v l) {p : Int} (h1 : 0 ≤ p ∧ p ≤ l.length) : Bytes h (slcut 1 p.toNat l.length v) (l.drop p.toNat) := by
  have := hb.cut (lo := p.toNat) (hi := l.length) (by omega) (Nat.le_refl _)
  rwa [List.take_length] at this
theorem Bytes.cuth (hb : Bytes h v l) {q : Int} (h1 : 0 ≤ q ∧ q ≤ l.length) : Bytes h (slcut 1 0 q.toNat v) (l.take q.toNat) := by
  have := hb.cut (lo := 0) (hi := q.toNat) (Nat.zero_le _) (by omega)
  rwa [List.drop_zero] at this
end
end Go.Xp
