/- A block that is a row of structs: elements read, stored, and fields stored. -/
import Derived.Test.YtknimfbagbkjfaaDoorRws
set_option linter.unusedSimpArgs false
set_option linter.unusedVariables false
set_option linter.unusedSectionVars false
namespace Go.Xp

/-- The block behind a slice that is not empty. -/
def blk2 : Value → Option Nat
  | .slice (some a) n _ => if n = 0 then none else some a.block
  | _ => none
theorem blk2_of {v : Value} {b : Nat} (h : blk2 v = some b) : blockOf v = some b := by
  unfold blk2 at h
  split at h
  · split at h
    · cases h
    · exact h
  · cases h
theorem Row.lt2 {h : Heap} {z n : Nat} {v : Value} {cs : List Value} (x : Row h z v n cs) {b : Nat} (hb : blk2 v = some b) : b < h.size := by
  obtain ⟨⟨a, cap, rfl, h1, h2, h3⟩, h4⟩ := x
  cases a with
  | none => cases hb
  | some ad =>
    by_cases hn : n = 0
    · simp [blk2, hn] at hb
    · simp [blk2, hn] at hb
      rw [← hb]; exact ((h3 ad rfl).1 (by omega)).2
theorem Row.only2 {bs : List Nat} {h h' : Heap} {z n : Nat} {v : Value} {cs : List Value} (x : Row h z v n cs) (y : Only bs h h') (hb : ∀ b, blk2 v = some b → b ∉ bs) : Row h' z v n cs := by
  by_cases hn : n = 0
  · subst hn
    obtain ⟨⟨a, cap, rfl, h1, h2, h3⟩, h4⟩ := x
    have : cs = [] := List.eq_nil_of_length_eq_zero (by simpa using h4)
    subst this
    exact ⟨⟨a, cap, rfl, h1, h2, fun ad _ => ⟨fun q => absurd q (by omega), fun i u q => by simp at q⟩⟩, h4⟩
  · refine x.only y (fun b hb2 => hb b ?_)
    obtain ⟨⟨a, cap, rfl, h1, h2, h3⟩, h4⟩ := x
    cases a with
    | none => cases hb2
    | some ad => simp [blockOf] at hb2; simp [blk2, hn, hb2]
theorem cells_slice {h : Heap} {v : Value} {l : List UInt8} (x : Bytes h v l) : v.cells.toList = [v] := by
  obtain ⟨⟨a, cap, rfl, _⟩, _⟩ := x; rfl
class Sch2 {β : Type} (S : Sch β) : Prop where
  only2 : ∀ {bs : List Nat} {h h' : Heap} {x : β}, S.ok h x → Only bs h h' → (∀ u ∈ S.cells x, ∀ b, blk2 u = some b → b ∉ bs) → S.ok h' x
instance : Sch2 nodS where
  only2 {bs h h' x} o y hb := Row.only2 (show Bytes h x.dv x.data from o) y (fun b e => hb x.dv (by simp [nodS]) b e)
section
variable {β : Type} {S : Sch β} [Sch2 S]
/-- The blocks into which a datum points meet 'p'. -/
def Pts (S : Sch β) (p : Nat → Prop) (x : β) : Prop := ∀ u ∈ S.cells x, ∀ b, blk2 u = some b → p b
/-- Block B is a row of these data, which point into blocks that meet 'p'. -/
def RBuf (S : Sch β) (h : Heap) (B : Nat) (p : Nat → Prop) (l : List β) : Prop := Blk h B (l.flatMap S.cells) ∧ ∀ x ∈ l, S.ok h x ∧ Pts S p x
theorem RBuf.lt {h : Heap} {B : Nat} {p : Nat → Prop} {l : List β} (x : RBuf S h B p l) : B < h.size := x.1.lt
theorem RBuf.only {bs : List Nat} {h h' : Heap} {B : Nat} {p : Nat → Prop} {l : List β} (x : RBuf S h B p l) (y : Only bs h h') (h1 : B ∉ bs) (h2 : ∀ b ∈ bs, ¬ p b) : RBuf S h' B p l :=
  ⟨x.1.only y h1, fun a ha => ⟨Sch2.only2 (x.2 a ha).1 y (fun u hu b hb hm => h2 b hm ((x.2 a ha).2 u hu b hb)), (x.2 a ha).2⟩⟩
theorem RBuf.ext {h h' : Heap} {B : Nat} {p : Nat → Prop} {l : List β} (x : RBuf S h B p l) (y : Ext h h') : RBuf S h' B p l := x.only y (by simp) (by simp)
theorem RBuf.congr {h : Heap} {B : Nat} {p : Nat → Prop} {l l' : List β} (x : RBuf S h B p l) (e : l = l') : RBuf S h B p l' := e ▸ x
theorem RBuf.mono {h : Heap} {B : Nat} {p q : Nat → Prop} {l : List β} (x : RBuf S h B p l) (hq : ∀ b, p b → q b) : RBuf S h B q l := ⟨x.1, fun a ha => ⟨(x.2 a ha).1, fun u hu b hb => hq b ((x.2 a ha).2 u hu b hb)⟩⟩
theorem RBuf.rows {h : Heap} {B N : Nat} {p : Nat → Prop} {l : List β} (x : RBuf S h B p l) (hN : N = l.length) : Rows S h (.slice (some ⟨B, 0, none⟩) N N) l := by
  subst hN
  have : RowsO S h 0 (.slice (some ⟨B, 0, none⟩) l.length l.length) l := ⟨⟨flat_len l, .inr ⟨B, l.length, [], rfl, Nat.zero_le _, by rw [List.append_nil]; exact x.1, by rw [List.append_nil]; exact flat_len l, Nat.le_refl _⟩⟩, fun a ha => (x.2 a ha).1⟩
  exact this.rows
theorem RBuf.pts {h : Heap} {B : Nat} {p : Nat → Prop} {l : List β} (x : RBuf S h B p l) {k : Nat} (hk : k < l.length) : Pts S p (l.getD k S.d) := by
  refine (x.2 _ ?_).2
  rw [List.getD_eq_getElem?_getD, List.getElem?_eq_getElem hk]
  exact List.getElem_mem hk
/-- What lasts of a datum of such a block. -/
def Okp (S : Sch β) (h : Heap) (p : Nat → Prop) (x : β) : Prop := S.ok h x ∧ Pts S p x
theorem Okp.ext {h h' : Heap} {p : Nat → Prop} {x : β} (o : Okp S h p x) (y : Ext h h') : Okp S h' p x := ⟨S.ext o.1 y, o.2⟩
theorem Okp.mono {h : Heap} {p q : Nat → Prop} {x : β} (o : Okp S h p x) (hq : ∀ b, p b → q b) : Okp S h q x := ⟨o.1, fun u hu b hb => hq b (o.2 u hu b hb)⟩
theorem Okp.only {h h' : Heap} {p : Nat → Prop} {x : β} {B : Nat} (o : Okp S h p x) (y : Only [B] h h') (hB : ¬ p B) : Okp S h' p x :=
  ⟨Sch2.only2 o.1 y (fun u hu b hb hm => hB (by rw [← List.mem_singleton.1 hm]; exact o.2 u hu b hb)), o.2⟩
theorem RBuf.okp {h : Heap} {B : Nat} {p : Nat → Prop} {l : List β} (x : RBuf S h B p l) {k : Nat} (hk : k < l.length) : Okp S h p (l.getD k S.d) :=
  ⟨(x.rows rfl).okat hk, x.pts hk⟩
theorem flat_set (l : List β) {k : Nat} (hk : k < l.length) (x : β) {off : Nat} (u : List Value) (h1 : off + u.length ≤ S.z) (hx : S.cells x = (S.cells (l.getD k S.d)).take off ++ u ++ (S.cells (l.getD k S.d)).drop (off + u.length)) :
    (l.flatMap S.cells).take (k * S.z + off) ++ u ++ (l.flatMap S.cells).drop (k * S.z + off + u.length) = (l.set k x).flatMap S.cells := by
  have hd : l.drop k = l.getD k S.d :: l.drop (k + 1) := by
    rw [List.drop_eq_getElem_cons hk, List.getD_eq_getElem?_getD, List.getElem?_eq_getElem hk]; rfl
  have e1 : l.flatMap S.cells = (l.take k).flatMap S.cells ++ (S.cells (l.getD k S.d) ++ (l.drop (k + 1)).flatMap S.cells) := by
    conv => lhs; rw [← List.take_append_drop k l]
    rw [List.flatMap_append, hd, List.flatMap_cons]
  have l1 : ((l.take k).flatMap S.cells).length = k * S.z := by rw [flat_len, List.length_take, Nat.min_eq_left (Nat.le_of_lt hk)]
  have l2 := S.len (l.getD k S.d)
  have e2 : (l.set k x).flatMap S.cells = (l.take k).flatMap S.cells ++ (S.cells x ++ (l.drop (k + 1)).flatMap S.cells) := by
    rw [List.set_eq_take_append_cons_drop, if_pos hk, List.flatMap_append, List.flatMap_cons]
  rw [e1, e2, hx, List.take_append, l1, List.take_of_length_le (by omega), show k * S.z + off - k * S.z = off by omega, List.take_append_of_le_length (by omega)]
  rw [List.drop_append, List.drop_of_length_le (by omega), l1, show k * S.z + off + u.length - k * S.z = off + u.length by omega, List.drop_append_of_le_length (by omega)]
  simp only [List.append_assoc, List.nil_append]
section
variable {P : Program} {n : Nat} {e : Env} {h : Heap} {d : Option Tmp} {t : TypeId} {pos : String} {af : Array Edge} {g : Option (Nat × Bool)}
variable {T E : TypeId} {x y : Operand} {B N k z off : Nat} {v : Value} {l : List β} {p : Nat → Prop}
/-- '&l[i]' of a slice that is a whole block: whatever the memory holds. -/
theorem Y_idxB {kd : IntKind} {i : Int} (hT : P.underlying T = some (.slice E)) (hE : (P.info? E).map (·.size) = some z) (hx : ev e x = some (.slice (some ⟨B, 0, none⟩) N N)) (hy : ev e y = some (.int kd i)) (h0 : 0 ≤ i) (h1 : i < N) :
    Yld P n e h ⟨d, .indexAddr T x y, t, pos, af, g⟩ (.pointer (some (elemAddr (.slice (some ⟨B, 0, none⟩) N N) (i.toNat * z)))) := by
  have e1 : elemAddr (.slice (some ⟨B, 0, none⟩) N N) (i.toNat * z) = ⟨B, i.toNat * z, none⟩ := by simp [elemAddr]
  rw [e1]
  exact Y_idxlit hT hE hx hy h0 h1 rfl
/-- A field behind such an address. -/
theorem Y_fldB {F f : Nat} {ad : Nat} (hf : fld P F f = some off) (hx : ev e x = some (.pointer (some (elemAddr (.slice (some ⟨B, 0, none⟩) N N) ad)))) : Yld P n e h ⟨d, .fieldAddr F x f, t, pos, af, g⟩ (.pointer (some (elemAddr (.slice (some ⟨B, 0, none⟩) N N) (ad + off)))) := by
  have hs : (elemAddr (.slice (some ⟨B, 0, none⟩) N N) ad).spot = none := by simp [elemAddr]
  have := Y_fieldAddr (P := P) (n := n) (h := h) (d := d) (t := t) (pos := pos) (af := af) (g := g) hf hx hs
  have e1 : (⟨(elemAddr (.slice (some ⟨B, 0, none⟩) N N) ad).block, (elemAddr (.slice (some ⟨B, 0, none⟩) N N) ad).off + off, none⟩ : Addr) = elemAddr (.slice (some ⟨B, 0, none⟩) N N) (ad + off) := by simp [elemAddr]
  rw [e1] at this; exact this
theorem D_rset {us : List Value} {a : β} (hsz : (P.info? T).map (·.size) = some us.length) (hz : z = S.z) (hx : ev e x = some (.pointer (some (elemAddr (.slice (some ⟨B, 0, none⟩) N N) (k * z + off))))) (hy : ev e y = some v) (hv : v.cells.toList = us) (h1 : ∀ u ∈ us, u.oneCell' = true)
    (hb : RBuf S h B p l) (hk : k < l.length) (ho : off + us.length ≤ z) (ha : S.cells a = (S.cells (l.getD k S.d)).take off ++ us ++ (S.cells (l.getD k S.d)).drop (off + us.length)) (hok : S.ok h a) (hpt : Pts S p a) (hpB : ¬ p B) :
    Dos P n e h ⟨none, .store T x y, t, pos, af, g⟩ (fun h' => Only [B] h h' ∧ h'.size = h.size ∧ RBuf S h' B p (l.set k a)) := fun w a0 hh he => by
  subst hz
  have e1 : elemAddr (.slice (some ⟨B, 0, none⟩) N N) (k * S.z + off) = ⟨B, k * S.z + off, none⟩ := by simp [elemAddr]
  rw [e1] at hx
  have hlen : (l.flatMap S.cells).length = l.length * S.z := flat_len l
  have hin : k * S.z + off + us.length ≤ (l.flatMap S.cells).length := by
    rw [hlen]
    have : (k + 1) * S.z ≤ l.length * S.z := Nat.mul_le_mul_right _ hk
    rw [Nat.succ_mul] at this
    omega
  obtain ⟨w', k1, k2, k3⟩ := D_store (P := P) (n := n) (t := t) (pos := pos) (af := af) (g := g) (us := us) hsz hx hy hv h1 hb.1 hin w a0 hh he
  refine ⟨w', k1, k2, k3.only, k3.size, ?_, fun b hb' => ?_⟩
  · have := k3.blk
    rwa [flat_set l hk a us ho ha] at this
  · have hmem : b ∈ l ∨ b = a := List.mem_or_eq_of_mem_set hb'
    rcases hmem with hm | rfl
    · exact ⟨Sch2.only2 (hb.2 b hm).1 k3.only (fun u hu c hc hm' => by
        have := (hb.2 b hm).2 u hu c hc
        rw [List.mem_singleton.1 hm'] at this; exact hpB this), (hb.2 b hm).2⟩
    · exact ⟨Sch2.only2 hok k3.only (fun u hu c hc hm' => by
        have := hpt u hu c hc
        rw [List.mem_singleton.1 hm'] at this; exact hpB this), hpt⟩
/-- A whole element is stored. -/
theorem D_rsetA {us : List Value} {a : β} (hsz : (P.info? T).map (·.size) = some us.length) (hz : z = S.z) (hx : ev e x = some (.pointer (some (elemAddr (.slice (some ⟨B, 0, none⟩) N N) (k * z))))) (hy : ev e y = some v) (hv : v.cells.toList = us)
    (hb : RBuf S h B p l) (hk : k < l.length) (ha : S.cells a = us) (hok : S.ok h a) (hpt : Pts S p a) (hpB : ¬ p B) :
    Dos P n e h ⟨none, .store T x y, t, pos, af, g⟩ (fun h' => Only [B] h h' ∧ h'.size = h.size ∧ RBuf S h' B p (l.set k a)) := by
  have hl : us.length = S.z := by rw [← ha]; exact S.len a
  exact D_rset (off := 0) hsz hz hx hy hv (fun u hu => S.one hok u (ha ▸ hu)) hb hk (by omega) (by rw [ha, List.take_zero, List.nil_append, Nat.zero_add, hl, List.drop_of_length_le (Nat.le_of_eq (S.len _)), List.append_nil]) hok hpt hpB
end
end
theorem okp_fld {h : Heap} {p : Nat → Prop} {x y : Nod} (e : (x.dv, x.data) = (y.dv, y.data)) (o : Okp nodS h p x) : Okp nodS h p y := by
  injection e with e1 e2
  refine ⟨show Bytes h y.dv y.data by rw [← e1, ← e2]; exact o.1, fun u hu b hb => ?_⟩
  simp [nodS] at hu
  rcases hu with rfl | rfl | rfl | rfl | rfl | rfl
  · cases hb
  · cases hb
  · cases hb
  · cases hb
  · rw [← e1] at hb; exact o.2 _ (by simp [nodS]) b hb
  · cases hb
/-- A node whose data are a row of the argument's: it points below. -/
theorem okp_arg {h h' : Heap} {x : Nod} (o : nodS.ok h x) (y : Ext h h') : Okp nodS h' (fun b => b ≠ h.size) x := ⟨nodS.ext o y, fun u hu b hb => by
  simp [nodS] at hu
  rcases hu with rfl | rfl | rfl | rfl | rfl | rfl
  · cases hb
  · cases hb
  · cases hb
  · cases hb
  · exact Nat.ne_of_lt (Row.lt2 (show Bytes h x.dv x.data from o) hb)
  · cases hb⟩
theorem pts_dv {p : Nat → Prop} {x : Nod} (o : ∀ b, blk2 x.dv = some b → p b) : Pts nodS p x := fun u hu b hb => by
  simp [nodS] at hu
  rcases hu with rfl | rfl | rfl | rfl | rfl | rfl
  · cases hb
  · cases hb
  · cases hb
  · cases hb
  · exact o b hb
  · cases hb
theorem pts_own {h : Heap} {base : Nat} {v : Value} {l : List UInt8} {p : Nat → Prop} {x : Nod} (o : OwnB h base v l) (e : x.dv = v) (hp : ∀ b, base ≤ b → p b) : Pts nodS p x :=
  pts_dv fun b hb => hp b (Own.lt o b (e ▸ blk2_of hb)).1
theorem okp_own {h : Heap} {base : Nat} {v : Value} {l : List UInt8} {p : Nat → Prop} {x : Nod} (o : OwnB h base v l) (e : x.dv = v) (e2 : x.data = l) (hp : ∀ b, base ≤ b → p b) : Okp nodS h p x :=
  ⟨by rw [← e, ← e2] at o; exact o.bytes, pts_own o e hp⟩
def nodZ : Nod := ⟨0, [], 0, [], .slice none 0 0, [], 0⟩
theorem rbuf_z {h : Heap} {B n : Nat} {p : Nat → Prop} (x : Blk h B ((List.replicate n nodZ).flatMap nodS.cells)) : RBuf nodS h B p (List.replicate n nodZ) := ⟨x, fun a ha => by
  obtain rfl := List.eq_of_mem_replicate ha
  exact ⟨Bytes.nil h, pts_dv fun b hb => by cases hb⟩⟩
theorem made_flat (c : Array Value) (z : Nat) (hz : c.size = z) (hp : 0 < z) : ∀ k, (madeCells c (k * z)).toList = (List.replicate k ()).flatMap (fun _ => c.toList) := by
  intro k
  apply List.ext_getElem
  · simp [madeCells, List.length_flatMap, hz]
  · intro i h1 h2
    simp [madeCells] at h1 ⊢
    have : ∀ (k i : Nat) (h : i < ((List.replicate k ()).flatMap (fun _ => c.toList)).length), some ((List.replicate k ()).flatMap (fun _ => c.toList))[i] = c[i % c.size]? := by
      intro k
      induction k with
      | zero => intro i h; simp at h
      | succ k ih =>
        intro i h
        simp only [List.replicate_succ, List.flatMap_cons] at h ⊢
        by_cases hi : i < c.size
        · rw [List.getElem_append_left (by simpa using hi), Nat.mod_eq_of_lt hi]; simp [hi]
        · rw [List.getElem_append_right (by simpa using hi)]
          have := ih (i - c.toList.length) (by simp at h ⊢; omega)
          rw [this]
          have e : (i - c.toList.length) % c.size = i % c.size := by
            conv => rhs; rw [show i = (i - c.size) + c.size by omega, Nat.add_mod_right]
            simp
          rw [e]
    have q := this k i h2
    have hlt : i % c.size < c.size := Nat.mod_lt _ (by omega)
    have q2 := Option.some.inj (q.trans (Array.getElem?_eq_getElem hlt))
    rw [getElem!_pos c (i % c.size) hlt, q2]
section
variable {P : Program} {n : Nat} {e : Env} {h : Heap} {d : Option Tmp} {t : TypeId} {pos : String} {af : Array Edge} {g : Option (Nat × Bool)}
variable {T E : TypeId} {lo hi : Operand} {bytes : Nat}
/-- 'make' of a slice of nodes. -/
theorem M_makeN {kd kd' : IntKind} {k q : Int} (hT : P.underlying T = some (.slice E)) (hE : elemRow P E 6 bytes (.agg #[.int .i64 0, str [], .int .i64 0, str [], .slice none 0 0, .int .i64 0])) (hl : ev e lo = some (.int kd k)) (hh : ev e hi = some (.int kd' q)) (hpq : k = q) (h0 : 0 ≤ k) (hb : bytes * k.toNat ≤ 281474976710656) (hb' : k ≤ 9223372036854775807) :
    Mks P n e h ⟨d, .makeSlice T lo hi, t, pos, af, g⟩ (fun u h' => u = .slice (some ⟨h.size, 0, none⟩) k.toNat k.toNat ∧ Ext h h' ∧ ∀ p, RBuf nodS h' h.size p (List.replicate k.toNat nodZ)) := fun w a hw he => by
  obtain ⟨v, w', k1, k2, k3, k4⟩ := M_make (z := 6) hT hE hl hh hpq h0 hb hb' w a hw he
  refine ⟨v, w', k1, k2, k3, k4.ext, fun p => rbuf_z ?_⟩
  have := k4.blk
  rw [made_flat _ 6 (by rfl) (by omega)] at this
  have e : (List.replicate k.toNat nodZ).flatMap nodS.cells = (List.replicate k.toNat ()).flatMap (fun _ => (Value.agg #[.int .i64 0, str [], .int .i64 0, str [], .slice none 0 0, .int .i64 0]).cells.toList) := by
    rw [← List.map_replicate (f := fun _ : Unit => nodZ) (a := ()), List.flatMap_map]; rfl
  rw [e]; exact this
end
end Go.Xp
