/- A field stored into a row of structs that the call itself has made by appending; a made row of ints. -/
import Derived.Test.YtknimfbagbkjfaaDoorBufR
set_option linter.unusedSimpArgs false
set_option linter.unusedVariables false
set_option linter.unusedSectionVars false
namespace Go.Xp

instance : Sch2 intS where
  only2 _ _ _ := trivial
theorem okp_int {h : Heap} {p : Nat → Prop} {x : Int} : Okp intS h p x := ⟨trivial, fun u hu b hb => by
  rw [List.mem_singleton.1 hu] at hb; cases hb⟩
theorem okw {h0 h : Heap} {base k : Nat} {v : Value} {l : List Nod} {a : Nod} (hx0 : Ext h0 h) (hb0 : h0.size ≤ base) (o : ∀ x ∈ l, nodS.ok h0 x) (oa : nodS.ok h0 a) : ∀ h', Only (blockOf v).toList h h' → (∀ b ∈ (blockOf v).toList, base ≤ b) → ∀ x ∈ l.set k a, nodS.ok h' x := fun h' y hge x hx => by
  have hX := hx0.then' y hge hb0
  rcases List.mem_or_eq_of_mem_set hx with h1 | h1
  · exact nodS.ext (o x h1) hX
  · exact nodS.ext (h1 ▸ oa) hX
theorem nod_getD {l : List Nod} {k : Nat} (h : k < l.length) : l.getD k nodS.d ∈ l := by
  rw [List.getD_eq_getElem?_getD, List.getElem?_eq_getElem h]; exact List.getElem_mem h
section
variable {P : Program} {n : Nat} {e : Env} {h : Heap} {d : Option Tmp} {t : TypeId} {pos : String} {af : Array Edge} {g : Option (Nat × Bool)}
variable {T E : TypeId} {x y lo hi : Operand} {β : Type} {S : Sch β} [Sch2 S] {base k z off : Nat} {v u : Value} {l : List β}
theorem D_rseto {us : List Value} {a : β} (hsz : (P.info? T).map (·.size) = some us.length) (hz : z = S.z) (hx : ev e x = some (.pointer (some (elemAddr v (k * z + off))))) (hy : ev e y = some u) (hv : u.cells.toList = us) (h1 : ∀ u ∈ us, u.oneCell' = true)
    (ho : RowsO S h base v l) (hk : k < l.length) (hof : off + us.length ≤ z) (ha : S.cells a = (S.cells (l.getD k S.d)).take off ++ us ++ (S.cells (l.getD k S.d)).drop (off + us.length))
    (hok : ∀ h', Only (blockOf v).toList h h' → (∀ b ∈ (blockOf v).toList, base ≤ b) → ∀ x ∈ l.set k a, S.ok h' x) :
    Dos P n e h ⟨none, .store T x y, t, pos, af, g⟩ (fun h' => AppR S h h' base v v (l.set k a)) := fun w a0 hh he => by
  subst hz
  obtain ⟨⟨o1, hcase⟩, o0⟩ := ho
  have hge : ∀ b ∈ (blockOf v).toList, base ≤ b := fun b hb => (Own.lt (show Own h base S.z v l.length (l.flatMap S.cells) from ⟨o1, hcase⟩) b (by simpa using hb)).1
  rcases hcase with ⟨rfl, o2⟩ | ⟨B, cap, extra, rfl, o3, o4, o5, o6⟩
  · omega
  · have e1 : elemAddr (.slice (some ⟨B, 0, none⟩) l.length cap) (k * S.z + off) = ⟨B, k * S.z + off, none⟩ := by simp [elemAddr]
    rw [e1] at hx
    have hin : k * S.z + off + us.length ≤ (l.flatMap S.cells).length := by
      rw [flat_len]
      have : (k + 1) * S.z ≤ l.length * S.z := Nat.mul_le_mul_right _ hk
      rw [Nat.succ_mul] at this
      omega
    obtain ⟨w', k1, k2, k3⟩ := D_store (P := P) (n := n) (t := t) (pos := pos) (af := af) (g := g) (us := us) hsz hx hy hv h1 o4 (by rw [List.length_append]; omega) w a0 hh he
    have ho' : Only (blockOf (.slice (some ⟨B, 0, none⟩) l.length cap)).toList h w'.heap := by simpa [blockOf] using k3.only
    refine ⟨w', k1, k2, ⟨⟨⟨by rw [flat_len, List.length_set], .inr ⟨B, cap, extra, by simp, o3, ?_, ?_, by simpa using o6⟩⟩, hok _ ho' hge⟩, ho', hge⟩⟩
    · have hb := k3.blk
      rw [List.take_append_of_le_length (by omega), List.drop_append_of_le_length (by omega), ← List.append_assoc, flat_set l hk a us hof ha] at hb
      exact hb
    · rw [List.length_append, flat_len, List.length_set, ← flat_len (S := S) l, ← List.length_append]; exact o5
/-- 'make' of a slice of ints. -/
theorem M_makeI {kd kd' : IntKind} {k q : Int} (hT : P.underlying T = some (.slice E)) (hE : elemRow P E 1 8 (.int .i64 0)) (hl : ev e lo = some (.int kd k)) (hh : ev e hi = some (.int kd' q)) (hpq : k = q) (h0 : 0 ≤ k) (hb : 8 * k.toNat ≤ 281474976710656) (hb' : k ≤ 9223372036854775807) :
    Mks P n e h ⟨d, .makeSlice T lo hi, t, pos, af, g⟩ (fun u h' => u = .slice (some ⟨h.size, 0, none⟩) k.toNat k.toNat ∧ Ext h h' ∧ ∀ p, RBuf intS h' h.size p (List.replicate k.toNat 0)) := fun w a hw he => by
  obtain ⟨v, w', k1, k2, k3, k4⟩ := M_make (z := 1) hT hE hl hh hpq h0 hb hb' w a hw he
  refine ⟨v, w', k1, k2, k3, k4.ext, fun p => ⟨?_, fun a ha => okp_int⟩⟩
  have := k4.blk
  rw [Nat.mul_one, show (Value.int .i64 0).cells = #[.int .i64 0] from rfl, madeCells_one] at this
  have e : ∀ m : Nat, (List.replicate m (0 : Int)).flatMap intS.cells = List.replicate m (.int .i64 0) := by
    intro m
    induction m with
    | zero => rfl
    | succ m ih => rw [List.replicate_succ, List.flatMap_cons, ih]; rfl
  rw [e]; exact this
end
end Go.Xp
