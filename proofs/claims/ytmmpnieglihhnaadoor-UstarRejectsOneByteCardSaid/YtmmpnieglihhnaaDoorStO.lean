/- A byte stored into a row that an append has left; the exclusive or of bytes. -/
import Derived.Test.YtmmpnieglihhnaaDoorOwn
import Derived.Test.YtmmpnieglihhnaaDoorBits
set_option linter.unusedSimpArgs false
set_option linter.unusedVariables false
set_option linter.unusedSectionVars false
namespace Go.Xp
def ux (p q : Int) : Int := ((BitVec.ofInt 8 p ^^^ BitVec.ofInt 8 q).toNat : Int)
theorem ux_le (p q : Int) : 0 ≤ ux p q ∧ ux p q ≤ 255 := by
  have := (BitVec.ofInt 8 p ^^^ BitVec.ofInt 8 q).isLt
  unfold ux; omega
theorem ux_ne {p q : Int} (hp : 0 ≤ p ∧ p ≤ 255) (hq : 0 ≤ q ∧ q ≤ 255) (h : ¬ q = 0) : ¬ ux p q = p := by
  intro h1
  have ep : (BitVec.ofInt 8 p).toNat = p.toNat := by rw [BitVec.toNat_ofInt, Int.emod_eq_of_lt hp.1 (by simp; omega)]
  have eq : (BitVec.ofInt 8 q).toNat = q.toNat := by rw [BitVec.toNat_ofInt, Int.emod_eq_of_lt hq.1 (by simp; omega)]
  have h2 : BitVec.ofInt 8 p ^^^ BitVec.ofInt 8 q = BitVec.ofInt 8 p := BitVec.eq_of_toNat_eq (by unfold ux at h1; omega)
  have h3 := congrArg (BitVec.ofInt 8 p ^^^ ·) h2
  simp only [← BitVec.xor_assoc, BitVec.xor_self, BitVec.zero_xor] at h3
  have h4 := congrArg BitVec.toNat h3
  rw [eq] at h4
  simp at h4
  omega
section
variable {P : Program} {n : Nat} {e : Env} {h : Heap} {d : Option Tmp} {t : TypeId} {pos : String} {af : Array Edge} {g : Option (Nat × Bool)}
variable {T T' : TypeId} {x y : Operand} {p q : Int}
theorem Y_xoru8 (hx : ev e x = some (.int .u8 p)) (hy : ev e y = some (.int .u8 q)) : Yld P n e h ⟨d, .binOp .xor T x y T', t, pos, af, g⟩ (.int .u8 (ux p q)) := fun w a _ he => by
  have hw : IntKind.u8.wrap (((BitVec.ofInt 8 p ^^^ BitVec.ofInt 8 q).toNat : Nat) : Int) = ux p q := wrap_u8 (ux_le p q).1 (ux_le p q).2
  simp only [execOp, he.eval hx, he.eval hy, eqGuard, binOp, Op.intBits]
  show Sem.run P _ w = _
  simp [IntKind.bits]
  exact hw
theorem D_storeo {base k : Nat} {v : Value} {l : List UInt8} {c : Int} (hz : (P.info? T).map (·.size) = some 1) (hx : ev e x = some (.pointer (some (elemAddr v (k * 1))))) (hy : ev e y = some (.int .u8 c)) (hc : 0 ≤ c ∧ c ≤ 255) (ho : OwnB h base v l) (hk : k < l.length) :
    Dos P n e h ⟨none, .store T x y, t, pos, af, g⟩ (fun h' => AppB h h' base v v (l.set k c.toNat.toUInt8)) := fun w a hh he => by
  have hge := ho.ge
  obtain ⟨o1, ⟨rfl, o2⟩ | ⟨B, cap, extra, rfl, o3, o4, o5, o6⟩⟩ := ho
  · omega
  · have e1 : elemAddr (.slice (some ⟨B, 0, none⟩) l.length cap) (k * 1) = ⟨B, k, none⟩ := by simp [elemAddr]
    rw [e1] at hx
    obtain ⟨w', k1, k2, k3⟩ := D_store (P := P) (n := n) (t := t) (pos := pos) (af := af) (g := g) (us := [.int .u8 c]) hz hx hy rfl (by intro u hu; rw [List.mem_singleton.1 hu]; rfl) o4 (by simp; omega) w a hh he
    refine ⟨w', k1, k2, ⟨by simp, .inr ⟨B, cap, extra, by simp, o3, ?_, by simpa using o5, by simpa using o6⟩⟩, by simpa [blockOf] using k3.only, hge⟩
    have h1 := k3.blk
    have h2 : ((l.map bv ++ extra).take k ++ [Value.int .u8 c] ++ (l.map bv ++ extra).drop (k + 1)) = (l.set k c.toNat.toUInt8).map bv ++ extra := by
      rw [List.map_set, ← bv_of hc, List.set_eq_take_append_cons_drop, if_pos (by simpa using hk), List.take_append_of_le_length (by simp; omega), List.drop_append_of_le_length (by simp; omega)]
      simp
    rw [← h2]
    exact h1
end
end Go.Xp
