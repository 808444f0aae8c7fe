/- Variables in blocks of their own: structs in a box, their fields, results that lie in cells. -/
import Derived.Test.YtdmhigknppkniaaGreatDoorBits
import Derived.Test.YtdmhigknppkniaaGreatDoorOct
import Derived.Test.YtdmhigknppkniaaGreatDoorCstr
import Derived.Test.YtdmhigknppkniaaGreatDoorDraw
import Derived.Test.YtdmhigknppkniaaGreatDoorProg
set_option linter.unusedSimpArgs false
set_option linter.unusedVariables false
namespace Go.Xp

theorem Blk.congr {h : Heap} {b : Nat} {vs us : List Value} (x : Blk h b vs) (e : vs = us) : Blk h b us := e ▸ x
theorem run_loadVar1 {P : Program} {T : TypeId} {D : TypeDesc} {b o : Nat} {u : Value} (hT : P.underlying T = some D) (hD : isAggD D = false) (w : World) (hc : cellAt w.heap b o = some u) : (loadVar T ⟨b, o, none⟩).run P w = .ok u w := by
  have hc' : w.cell? ⟨b, o, none⟩ = some u := by rw [cell?_cellAt]; exact hc
  simp [loadVar, run_isAgg w hT, hD, hc']
theorem run_loadVarA {P : Program} {T : TypeId} {D : TypeDesc} {b o : Nat} {us : List Value} (hT : P.underlying T = some D) (hD : isAggD D = true) (hz : (P.info? T).map (·.size) = some us.length) (w : World) (hc : ∀ i u, us[i]? = some u → cellAt w.heap b (o + i) = some u) : (loadVar T ⟨b, o, none⟩).run P w = .ok (.agg us.toArray) w := by
  have hc' : ∀ j v, us[j]? = some v → w.cell? ((⟨b, o, none⟩ : Addr).add j) = some v := fun j v hj => by
    have : (⟨b, o, none⟩ : Addr).add j = ⟨b, o + j, none⟩ := by unfold Addr.add; split <;> simp_all
    rw [this, cell?_cellAt]; exact hc j v hj
  have := run_loadCells_list (P := P) (w := w) ⟨b, o, none⟩ us hc'
  simp [loadVar, run_isAgg w hT, hD, run_sizeOf w hz, this]
/-- What a result comes to: a slot, or a variable in a cell. -/
def RV (P : Program) (e : Env) (h : Heap) : ResultVar → Value → Prop
  | .tmp t, v => lk e t = some v
  | .cell a T, v => ∃ b o, lk e a = some (.pointer (some ⟨b, o, none⟩)) ∧ ∀ w : World, w.heap = h → (loadVar T ⟨b, o, none⟩).run P w = .ok v w
theorem RV.one {P : Program} {e : Env} {h : Heap} {a T : Nat} {D : TypeDesc} {b o : Nat} {vs : List Value} {u : Value} (ha : lk e a = some (.pointer (some ⟨b, o, none⟩))) (hT : P.underlying T = some D) (hD : isAggD D = false) (hb : Blk h b vs) (hk : vs[o]? = some u) : RV P e h (.cell a T) u :=
  ⟨b, o, ha, fun w hw => run_loadVar1 hT hD w (by rw [hw, hb.cell]; exact hk)⟩
theorem RV.agg {P : Program} {e : Env} {h : Heap} {a T : Nat} {D : TypeDesc} {b : Nat} {vs : List Value} (ha : lk e a = some (.pointer (some ⟨b, 0, none⟩))) (hT : P.underlying T = some D) (hD : isAggD D = true) (hz : (P.info? T).map (·.size) = some vs.length) (hb : Blk h b vs) : RV P e h (.cell a T) (.agg vs.toArray) :=
  ⟨b, 0, ha, fun w hw => run_loadVarA hT hD hz w (fun i u hi => by rw [hw, hb.cell, Nat.zero_add]; exact hi)⟩
theorem RVa {P : Program} {e : Env} {h : Heap} {a T : Nat} {D : TypeDesc} {b : Nat} {vs : List Value} (hT : P.underlying T = some D) (hb : Blk h b vs) (ha : lk e a = some (.pointer (some ⟨b, 0, none⟩)) := by exact rfl) (hD : isAggD D = true := by exact rfl) (hz : (P.info? T).map (·.size) = some vs.length := by kernel_rfl) : RV P e h (.cell a T) (.agg vs.toArray) := RV.agg ha hT hD hz hb
section
variable {σ : Std} {P : Program} {n : Nat} {Q : Exit → Act → World → Prop} {e : Env} {h : Heap} {fn : Func} {R : Value → Heap → Prop}
theorem RV.tmp {a : Act} {t : Tmp} {v : Value} (he : EOk n e a) (x : RV P e h (.tmp t) v) : a.tmps.getD t undef = v := by
  have h1 := he.2.2 t v x
  rw [Array.getD_eq_getD_getElem?, h1]; rfl
theorem RV.cell {a : Act} {w : World} {t T : Nat} {v : Value} (he : EOk n e a) (hh : w.heap = h) (x : RV P e h (.cell t T) v) : ∃ b o, a.tmps.getD t undef = .pointer (some ⟨b, o, none⟩) ∧ (loadVar T ⟨b, o, none⟩).run P w = .ok v w := by
  obtain ⟨g, o, h1, h2⟩ := x
  have h3 := he.2.2 t _ h1
  exact ⟨g, o, by rw [Array.getD_eq_getD_getElem?, h3]; rfl, h2 w hh⟩
theorem X_retv1 {t T : Nat} {v : Value} (hr : fn.results = #[.cell t T]) (x : RV P e h (.cell t T) v) (k : R v h) : X σ n (bodyPost P fn (Post σ R)) .ret e h := fun w a hs hh he => by
  refine ⟨he.1, v, ?_, v, rfl, hs, hh ▸ k⟩
  obtain ⟨b, o, h1, h2⟩ := x.cell he hh
  rw [Array.getD_eq_getD_getElem?] at h1
  simp [results, hr, h1, asAddr, h2]
theorem Y_ldbox {d : Option Tmp} {t : TypeId} {pos : String} {af : Array Edge} {g : Option (Nat × Bool)} {T : TypeId} {x : Operand} {D : TypeDesc} {b o : Nat} {vs us : List Value} (hT : P.underlying T = some D) (hD : isAggD D = true) (hz : (P.info? T).map (·.size) = some us.length) (hx : ev e x = some (.pointer (some ⟨b, o, none⟩))) (hb : Blk h b vs) (hu : us = (vs.drop o).take us.length) :
    Yld P n e h ⟨d, .load T x, t, pos, af, g⟩ (.agg us.toArray) :=
  Y_ldagg hT hD hz hx rfl (fun i u hi => by
    rw [hb.cell]
    rw [hu, List.getElem?_take] at hi
    split at hi
    · rw [List.getElem?_drop] at hi; exact hi
    · cases hi)
end
section
variable {σ : Std} {P : Program} {n : Nat} {Q : Exit → Act → World → Prop} {e : Env} {h : Heap} {ops : Array Oper} {rest : List Oper}
variable {dt : Option Tmp} {t : TypeId} {pos : String} {af : Array Edge} {g : Option (Nat × Bool)} {x : Operand} {d : Nat}
theorem Lg {T : TypeId} {D : TypeDesc} {b : Nat} {us : List Value} (hT : P.underlying T = some D) (hb : Blk h b us) (k : L σ P ops n Q rest ((d, .agg us.toArray) :: e) h) (hD : isAggD D = true := by exact rfl) (hz : (P.info? T).map (·.size) = some us.length := by kernel_rfl) (hx : ev e x = some (.pointer (some ⟨b, 0, none⟩)) := by exact rfl) (hd : (⟨dt, .load T x, t, pos, af, g⟩ : Oper).dst = some d := by exact rfl) (hn : Nat.blt d n = true := by exact rfl) (hg : gd ops e (⟨dt, .load T x, t, pos, af, g⟩ : Oper).guard = some true := by exact rfl) : L σ P ops n Q (⟨dt, .load T x, t, pos, af, g⟩ :: rest) e h := L_yld (Y_ldbox (o := 0) hT hD hz hx hb (by simp)) hd hn hg k
end
end Go.Xp

/- Layer 3 (checksum): the reference's functions. -/
set_option maxRecDepth 100000
namespace Go.Xp
open Go.Proofs

/-! ### What the layer answers -/
def csumN (b : List UInt8) : Nat → Int
  | 0 => 0
  | i + 1 => csumN b i + (if 148 ≤ i ∧ i < 156 then 32 else byt b i)
theorem csumN_le (b : List UInt8) : ∀ i, 0 ≤ csumN b i ∧ csumN b i ≤ 255 * i
  | 0 => by simp [csumN]
  | i + 1 => by
    have h1 := csumN_le b i
    have h2 := byt_lt b i
    unfold csumN
    split <;> omega
def serr (b : List UInt8) : Int := if b.length = 512 then 0 else 2
def ssum (b : List UInt8) : Int := if b.length = 512 then csumN b 512 else 0
theorem ssum_le (b : List UInt8) : 0 ≤ ssum b ∧ ssum b ≤ 130560 := by
  have := csumN_le b 512
  unfold ssum; split <;> omega
def sseal (b : List UInt8) : List UInt8 := if b.length = 512 then b.take 148 ++ octf (ssum b) 7 ++ [32] ++ b.drop 156 else []
def sver (b : List UInt8) : Int := if b.length = 512 then (if sseal b = b then 0 else 9) else 2
theorem oct7 {n : Int} (h : 0 ≤ n ∧ n ≤ 130560) : oerr n 7 = 0 ∧ octf n 7 = octD n.toNat 6 ++ [0] := by
  have he : oerr n 7 = 0 := by unfold oerr omax; rw [if_neg (by omega), if_neg (by simp; omega)]
  exact ⟨he, by unfold octf; rw [if_pos he]; rfl⟩
theorem oct7_len (b : List UInt8) : (octf (ssum b) 7).length = 7 := by
  rw [(oct7 (ssum_le b)).2]; simp [octD_length]
theorem sseal_len {b : List UInt8} (h : b.length = 512) : (sseal b).length = 512 := by
  unfold sseal
  rw [if_pos h]
  simp only [List.length_append, List.length_take, List.length_drop, oct7_len, List.length_cons, List.length_nil]
  omega

end Go.Xp

/- Layer 7 (ustar): what Check answers. -/
set_option linter.unusedSectionVars false
namespace Go.Xp
open Go.Proofs

def uknown (c : Int) : Bool := decide (c = 48 ∨ c = 49 ∨ c = 50 ∨ c = 53 ∨ c = 120)
def ucheck (t : Int) (name pre link : List UInt8) (mode size : Int) : Int := if uknown t = false then 8 else if ¬ cerr name 100 = 0 then cerr name 100 else if ¬ cerr link 100 = 0 then cerr link 100 else if ¬ cerr pre 155 = 0 then cerr pre 155 else if mode < 0 ∨ 4095 < mode then 16 else if size < 0 ∨ 8589934591 < size then 3 else 0
end Go.Xp

/- A header, said in the reference's type. -/
namespace Go.Xp
open Go.Proofs

end Go.Xp

/- Layer 7 (ustar): the reference's functions. -/
namespace Go.Xp
open Go.Proofs

def ubody (t : Int) (name pre link : List UInt8) (mode size : Int) : List UInt8 :=
  cfmt name 100 ++ octf mode 8 ++ octf 0 8 ++ octf 0 8 ++ octf size 12 ++ octf 0 12 ++ [32, 32, 32, 32, 32, 32, 32, 32] ++ [t.toNat.toUInt8] ++ cfmt link 100 ++ [117, 115, 116, 97, 114, 0, 48, 48] ++ cfmt [] 32 ++ cfmt [] 32 ++ octf 0 8 ++ octf 0 8 ++ cfmt pre 155 ++ cfmt [] 12
def uenc (t : Int) (name pre link : List UInt8) (mode size : Int) : List UInt8 := if ucheck t name pre link mode size = 0 then sseal (ubody t name pre link mode size) else []

end Go.Xp

/- Layer 7: the reference's Encode. -/
namespace Go.Xp
open Go.Proofs

end Go.Xp
