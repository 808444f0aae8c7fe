/- strings.Repeat, by the shelf's contract. -/
import Derived.Test.YtmmpnieglihhnaaDoorShelf
import Derived.Test.YtmmpnieglihhnaaDoorLib
import Derived.Below
set_option linter.unusedSimpArgs false
set_option linter.unusedVariables false
namespace Go.Xp
open Go.Proofs Go.RowKit

theorem repeatL_one (c : UInt8) (k : Nat) : Lib.repeatL [c] k = List.replicate k c := by
  induction k with
  | zero => rfl
  | succ k ih => simp [Lib.repeatL, ih, List.replicate_succ]
theorem strings_Repeat (h : Heap) (l : List UInt8) (c : Int) (h0 : 0 ≤ c) (h1 : (l.length : Int) * c ≤ 140737488355328 ∧ c ≤ 9223372036854775807) : Cal Tryd.prog 25 #[str l, .int .i64 c] h (fun v h' => v = str (Lib.repeatL l c.toNat) ∧ Ext h h') := fun w hw => by
  have hsz : (⟨l.toArray⟩ : ByteArray).size = l.length := by simp [ByteArray.size]
  have h2 : l.length * c.toNat ≤ 140737488355328 := by
    have : ((l.length * c.toNat : Nat) : Int) = (l.length : Int) * c := by rw [Int.natCast_mul, Int.toNat_of_nonneg h0]
    omega
  have k := Tryd.strings_Repeat ⟨l.toArray⟩ c.toNat w (by omega) (by rw [hsz]; exact h2)
  rw [Int.toNat_of_nonneg h0] at k
  refine k.mono ?_
  rintro e w' ⟨rfl, hb⟩
  refine ⟨_, rfl, by unfold std; rw [hb.os, hb.tape, hb.output], rfl, hw ▸ ⟨hb.size, fun k hk _ => hb.block k hk⟩⟩
end Go.Xp
