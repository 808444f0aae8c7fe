/- From a contract of this claim's form to what a row's frame asks of its walk; the arguments' memory as the walks tell it. -/
import Derived.Test.YtknimfbagbkjfaaGreatDoorOwn
import Derived.Below
set_option linter.unusedSimpArgs false
set_option linter.unusedVariables false
namespace Go.Xp
open Go.RowKit

theorem law_of_cal {P : Program} {f : FuncId} {args : Array Value} {w : World} (c : Cal P f args w.heap (fun v h' => v = .bool true ∧ Ext w.heap h')) :
    Calls P f args w fun e w' => e = .returned (.bool true) ∧ Below w.heap.size w w' :=
  (c w rfl).mono fun e w' ⟨v, he, hs, hv, hx⟩ => by
    subst hv
    unfold std at hs
    simp only [Std.mk.injEq] at hs
    exact ⟨he, hs.1, hs.2.1, hs.2.2, hx.size, fun k hk => hx.same k hk (by simp)⟩

/-- A slice of integers that came in. -/
def IsRow (k : IntKind) (w : World) (a : Option Addr) (len cap : Nat) (zs : List Int) : Prop :=
  (a = none ∧ len = 0 ∧ cap = 0 ∧ zs = []) ∨
  ∃ x, a = some x ∧ len ≤ cap ∧ cap ≤ maxLen ∧ zs.length = cap ∧ (∀ i, i < zs.length → w.cell? (x.add i) = some (.int k (zs.getD i 0))) ∧ ∀ n ∈ zs, (Lit.int k n).wf = true
theorem add_none (b o i : Nat) : (⟨b, o, none⟩ : Addr).add i = ⟨b, o + i, none⟩ := by
  unfold Addr.add; split <;> simp_all
theorem bytes_of_row {w : World} {a : Option Addr} {len cap : Nat} {zs : List Int} (hr : IsRow .u8 w a len cap zs) : ∃ l : List UInt8, Bytes w.heap (.slice a len cap) l ∧ l.length = len ∧ len ≤ 9223372036854775807 := by
  rcases hr with ⟨rfl, rfl, rfl, rfl⟩ | ⟨x, rfl, hl, hm, hz, hcell, hwz⟩
  · exact ⟨[], Bytes.nil _, rfl, by omega⟩
  · have hwz' : ∀ n ∈ zs, 0 ≤ n ∧ n ≤ 255 := fun n hn => by
      have := hwz n hn
      simp [Lit.wf, IntKind.min, IntKind.max, IntKind.bits, IntKind.signed] at this
      omega
    have hmm : len ≤ 9223372036854775807 := by unfold maxLen at hm; omega
    have hget : ∀ (i : Nat), i < zs.length → ∃ c : UInt8, zs.getD i 0 = (c.toNat : Int) ∧ c = (zs.getD i 0).toNat.toUInt8 := fun i hi => by
      have hb := hwz' (zs.getD i 0) (by rw [List.getD_eq_getElem?_getD, List.getElem?_eq_getElem hi]; exact List.getElem_mem hi)
      refine ⟨_, ?_, rfl⟩
      generalize zs.getD i 0 = y at hb
      have : y.toNat < 256 := by omega
      rw [show (y.toNat.toUInt8).toNat = y.toNat % 256 from rfl, Nat.mod_eq_of_lt this]
      omega
    refine ⟨(zs.take len).map (fun z => z.toNat.toUInt8), ?_, by simp [hz]; omega, hmm⟩
    have hlen : ((zs.take len).map (fun z => z.toNat.toUInt8)).length = len := by simp [hz]; omega
    unfold Bytes
    rw [hlen]
    refine ⟨⟨some x, cap, rfl, hl, (fun h => by cases h), ?_⟩, by simp [hz]; omega⟩
    intro ad hd
    cases hd
    have hsp : ∀ i, i < zs.length → x.spot = none := fun i hi => by
      have h0 := hcell 0 (by omega)
      have h1 : x.add 0 = x := rfl
      rw [h1] at h0
      exact World.cell?_spot h0
    have key : ∀ i, i < zs.length → cellAt w.heap x.block (x.off + i) = some (.int .u8 (zs.getD i 0)) := fun i hi => by
      have h0 := hcell i hi
      have hs := hsp i hi
      obtain ⟨b, o, sp⟩ := x
      simp only at hs
      subst hs
      rw [add_none, cell?_cellAt] at h0
      exact h0
    refine ⟨fun hn => ⟨hsp 0 (by omega), cellAt_lt (key 0 (by omega))⟩, fun i u hi => ?_⟩
    have hlt := (List.getElem?_eq_some_iff.1 hi).1
    have hi2 : i < len ∧ i < zs.length := by simp [hz] at hlt; omega
    rw [key i hi2.2]
    obtain ⟨c, h1, h2⟩ := hget i hi2.2
    rw [h1, ← hi]
    rw [List.getElem?_map, List.getElem?_map, List.getElem?_take, if_pos hi2.1, List.getElem?_eq_getElem hi2.2]
    have h3 : zs.getD i 0 = zs[i]'hi2.2 := by rw [List.getD_eq_getElem?_getD, List.getElem?_eq_getElem hi2.2]; rfl
    show some (Value.int .u8 (c.toNat : Int)) = some (bv (zs[i]'hi2.2).toNat.toUInt8)
    rw [← h3, ← h2]
end Go.Xp
