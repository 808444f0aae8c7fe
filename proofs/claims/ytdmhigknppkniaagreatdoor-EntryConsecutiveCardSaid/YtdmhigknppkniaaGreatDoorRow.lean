/- Regions that draw their order: the operations that only look are taken first, the others as they come up. -/
import Derived.Test.YtdmhigknppkniaaGreatDoorMore
import Derived.OrdersHeld
import Derived.Below
set_option linter.unusedSimpArgs false
set_option linter.unusedVariables false
namespace Go.Xp

def LH (σ : Std) (P : Program) (ops : Array Oper) (n : Nat) (S : Heap → Prop) (Q : Exit → Act → World → Prop) (fuel : Nat) (listed : Array Bool) (e : Env) (h : Heap) : Prop :=
  ∀ w a, std w = σ → w.heap = h → EOk n e a → wpAnyH P .any ops Q (fun w => S w.heap) fuel listed a w
def LO (σ : Std) (P : Program) (ops : Array Oper) (n : Nat) (S : Heap → Prop) (Q : Exit → Act → World → Prop) (fuel : Nat) (listed : Array Bool) (i : Nat) (e : Env) (h : Heap) : Prop :=
  ∀ w a, std w = σ → w.heap = h → EOk n e a → wpOp P ops Q i (fun a' w' => S w'.heap ∧ wpAnyH P .any ops Q (fun w => S w.heap) fuel (listed.setIfInBounds i true) a' w') a w

section
variable {σ : Std} {P : Program} {n : Nat} {Q : Exit → Act → World → Prop} {e e' : Env} {h : Heap} {ops : Array Oper} {S : Heap → Prop} {fuel : Nat} {listed : Array Bool}

theorem W_held {id : Nat} {l : List Oper} (S : Heap → Prop) (fuel : Nat) (hfu : l.length = fuel) (hm : P.follows .mixedOrders = true) (k : LH σ P l.toArray n S Q fuel (Array.replicate fuel false) e h) : W σ P n (.region id l.toArray true) Q e h := by
  intro w a hs hh he
  subst hfu
  refine wp_region_held (S := fun w => S w.heap) hm ?_
  have := k { w with drawn := w.drawn + 1 } a hs hh he
  simpa using this
theorem LH_take {i d : Nat} {o : Oper} {v : Value} (hi : ops[i]? = some o) (hy : ∀ h', S h' → Yld P n e h' o v) (hd : o.dst = some d) (hn : Nat.blt d n = true) (hg : gd ops e o.guard = some true) (hs : Region.noSelect ops = true) (hf : Region.free .any ops listed i = true) (hr : (Region.ready .any ops listed).contains i = true)
    (hQ : ∀ c a w, ¬ Q (.panic c) a w) (hS : S h) (k : LH σ P ops n S Q fuel (listed.setIfInBounds i true) ((d, v) :: e) h) : LH σ P ops n S Q (fuel + 1) listed e h := by
  intro w a h1 h2 he
  refine wpAnyH_take hi hs hf hr (fun c a w hq => absurd hq (hQ _ _ _)) (.inl ⟨wanted_of_gd he hg, fun w' hw' => hy _ hw' w' a rfl he⟩) (h2 ▸ hS) ?_
  rw [hd]
  exact k w _ h1 h2 (he.put hn _)
theorem Ht {S : Heap → Prop} (i : Nat) {d : Nat} {o : Oper} {v : Value} (hy : ∀ h', S h' → Yld P n e h' o v) (hS : S h) (k : LH σ P ops n S Q fuel (listed.setIfInBounds i true) ((d, v) :: e) h) (hi : ops[i]? = some o := by exact rfl) (hd : o.dst = some d := by exact rfl) (hn : Nat.blt d n = true := by exact rfl) (hg : gd ops e o.guard = some true := by exact rfl) (hs : Region.noSelect ops = true := by kernel_rfl) (hf : Region.free .any ops listed i = true := by kernel_rfl) (hr : (Region.ready .any ops listed).contains i = true := by kernel_rfl)
    (hQ : ∀ c a w, ¬ Q (.panic c) a w := by (intro _ _ _; rintro ⟨_, _, h_, _⟩; cases h_)) : LH σ P ops n S Q (fuel + 1) listed e h := LH_take hi hy hd hn hg hs hf hr hQ hS k
theorem LH_done (hr : Region.ready .any ops listed = []) (k : X σ n Q .normal e h) : LH σ P ops n S Q fuel listed e h := fun w a h1 h2 he => wpAnyH_done hr (k w a h1 h2 he) _
theorem LH_one {i : Nat} (hr : Region.ready .any ops listed = [i]) (k : LO σ P ops n S Q fuel listed i e h) : LH σ P ops n S Q (fuel + 1) listed e h := fun w a h1 h2 he => wpAnyH_all hr (by simp) (fun j hj => by
  rw [List.mem_singleton] at hj; subst hj; exact k w a h1 h2 he)
theorem LH_two {i j : Nat} (hr : Region.ready .any ops listed = [i, j]) (k : LO σ P ops n S Q fuel listed i e h) (k' : LO σ P ops n S Q fuel listed j e h) : LH σ P ops n S Q (fuel + 1) listed e h := fun w a h1 h2 he => wpAnyH_all hr (by simp) (fun x hx => by
  simp only [List.mem_cons, List.not_mem_nil, or_false] at hx
  rcases hx with rfl | rfl
  · exact k w a h1 h2 he
  · exact k' w a h1 h2 he)
theorem LH_three {i j m : Nat} (hr : Region.ready .any ops listed = [i, j, m]) (k : LO σ P ops n S Q fuel listed i e h) (k' : LO σ P ops n S Q fuel listed j e h) (k'' : LO σ P ops n S Q fuel listed m e h) : LH σ P ops n S Q (fuel + 1) listed e h := fun w a h1 h2 he => wpAnyH_all hr (by simp) (fun x hx => by
  simp only [List.mem_cons, List.not_mem_nil, or_false] at hx
  rcases hx with rfl | rfl | rfl
  · exact k w a h1 h2 he
  · exact k' w a h1 h2 he
  · exact k'' w a h1 h2 he)
theorem LO_yld {i d : Nat} {o : Oper} {v : Value} (hi : ops[i]? = some o) (hy : Yld P n e h o v) (hd : o.dst = some d) (hn : Nat.blt d n = true) (hg : gd ops e o.guard = some true) (hS : S h) (k : LH σ P ops n S Q fuel (listed.setIfInBounds i true) ((d, v) :: e) h) : LO σ P ops n S Q fuel listed i e h := by
  intro w a h1 h2 he
  unfold wpOp
  simp only [hi]
  rw [wanted_of_gd he hg, if_pos rfl]
  refine .inl ?_
  unfold Oper.wp
  rw [hy w a h2 he, Oper.upon_value, hd]
  exact ⟨h2 ▸ hS, k w _ h1 h2 (he.put hn _)⟩
theorem LO_mks {i d : Nat} {o : Oper} {R : Value → Heap → Prop} (hi : ops[i]? = some o) (hy : Mks P n e h o R) (hd : o.dst = some d) (hn : Nat.blt d n = true) (hg : gd ops e o.guard = some true) (k : ∀ v h', R v h' → S h' ∧ LH σ P ops n S Q fuel (listed.setIfInBounds i true) ((d, v) :: e) h') : LO σ P ops n S Q fuel listed i e h := by
  intro w a h1 h2 he
  unfold wpOp
  simp only [hi]
  rw [wanted_of_gd he hg, if_pos rfl]
  refine .inl ?_
  obtain ⟨v, w', k1, k2, k3⟩ := hy w a h2 he
  unfold Oper.wp
  rw [k1, Oper.upon_value, hd]
  exact ⟨(k v _ k3).1, (k v _ k3).2 w' _ (k2.trans h1) rfl (he.put hn _)⟩
theorem LO_dos {i : Nat} {o : Oper} {R : Heap → Prop} (hi : ops[i]? = some o) (hy : Dos P n e h o R) (hd : o.dst = none) (hg : gd ops e o.guard = some true) (k : ∀ h', R h' → S h' ∧ LH σ P ops n S Q fuel (listed.setIfInBounds i true) e h') : LO σ P ops n S Q fuel listed i e h := by
  intro w a h1 h2 he
  unfold wpOp
  simp only [hi]
  rw [wanted_of_gd he hg, if_pos rfl]
  refine .inl ?_
  obtain ⟨w', k1, k2, k3⟩ := hy w a h2 he
  unfold Oper.wp
  rw [k1, Oper.upon_skip, hd]
  exact ⟨(k _ k3).1, (k _ k3).2 w' _ (k2.trans h1) rfl he⟩
theorem LO_call {i d : Nat} {o : Oper} {f : FuncId} {args : Array Value} {R : Value → Heap → Prop} (hi : ops[i]? = some o) (hy : Ent P n e h o f args) (c : Cal P f args h R) (hd : o.dst = some d) (hn : Nat.blt d n = true) (hg : gd ops e o.guard = some true)
    (k : ∀ v h', R v h' → S h' ∧ LH σ P ops n S Q fuel (listed.setIfInBounds i true) ((d, v) :: e) h') : LO σ P ops n S Q fuel listed i e h := by
  intro w a h1 h2 he
  unfold wpOp
  simp only [hi]
  rw [wanted_of_gd he hg, if_pos rfl]
  refine .inl ?_
  unfold Oper.wp
  rw [hy w a h2 he, Oper.upon_enter, hd]
  refine (c w h2).mono ?_
  rintro _ w' ⟨v, rfl, k2, k3⟩
  exact ⟨(k v _ k3).1, (k v _ k3).2 w' _ (k2.trans h1) rfl (he.put hn _)⟩
end
end Go.Xp

/- Rows of bytes that the call itself has made, and what append, a literal and a conversion leave of them; the steps of the heap. -/
namespace Go.Xp

theorem Ext.then' {bs : List Nat} {h h' h'' : Heap} {base : Nat} (x : Ext h h') (y : Only bs h' h'') (hb : ∀ b ∈ bs, base ≤ b) (hs : h.size ≤ base) : Ext h h'' := x.then y (fun b hm => nt hs (hb b hm))
theorem Bytes.congr {h : Heap} {v : Value} {l l' : List UInt8} (x : Bytes h v l) (hl : l = l') : Bytes h v l' := hl ▸ x

theorem Buf.congr {h : Heap} {b : Nat} {l l' : List UInt8} (x : Buf h b l) (hl : l = l') : Buf h b l' := hl ▸ x

def OwnB (h : Heap) (base : Nat) (v : Value) (l : List UInt8) : Prop := Own h base 1 v l.length (l.map bv)
section
variable {P : Program} {n : Nat} {e : Env} {h h' : Heap} {d : Option Tmp} {t : TypeId} {pos : String} {af : Array Edge} {g : Option (Nat × Bool)}
variable {T T' E : TypeId} {x y : Operand} {v : Value} {l l2 : List UInt8} {base : Nat}
theorem OwnB.bytes (o : OwnB h base v l) : Bytes h v l := o.row
theorem OwnB.nil (h : Heap) (base : Nat) : OwnB h base (.slice none 0 0) [] := Own.nil h base 1
theorem OwnB.ext (o : OwnB h base v l) (x : Ext h h') : OwnB h' base v l := Own.ext o x
theorem OwnB.congr {l' : List UInt8} (o : OwnB h base v l) (hl : l = l') : OwnB h base v l' := hl ▸ o
theorem OwnB.low {base' : Nat} (o : OwnB h base v l) (hb : base' ≤ base) : OwnB h base' v l := by
  obtain ⟨h1, h2 | ⟨g, cap, extra, rfl, hg, k⟩⟩ := o
  · exact ⟨h1, .inl h2⟩
  · exact ⟨h1, .inr ⟨g, cap, extra, rfl, nt hb hg, k⟩⟩
theorem OwnB.ge (o : OwnB h base v l) : ∀ b ∈ (blockOf v).toList, base ≤ b := fun b hb => (Own.lt o b (by simpa using hb)).1
theorem Buf.ownb {b : Nat} (x : Buf h b l) (hb : base ≤ b) {k : Nat} (hk : k = l.length) : OwnB h base (.slice (some ⟨b, 0, none⟩) k k) l := by
  subst hk; exact x.own hb rfl
/-- What an append leaves. -/
structure AppB (h h' : Heap) (base : Nat) (v u : Value) (l : List UInt8) : Prop where
  own : OwnB h' base u l
  only : Only (blockOf v).toList h h'
  ge : ∀ b ∈ (blockOf v).toList, base ≤ b
theorem M_appb (hT : P.underlying T = some (.slice E)) (hE : elemRow P E 1 1 (.int .u8 0)) {u : Value} (hs : ev e x = some v) (hx : ev e y = some u) (hown : OwnB h base v l) (hr : Bytes h u l2) (hbase : base ≤ h.size) (hb : l.length + l2.length ≤ 140737488355328) :
    Mks P n e h ⟨d, .call { callee := .builtin .append, args := #[x, y], argTypes := #[T, T] }, t, pos, af, g⟩ (fun r h' => AppB h h' base v r (l ++ l2)) := fun w a hh he => by
  obtain ⟨r, w', k1, k2, k3⟩ := M_append (P := P) (n := n) (d := d) (t := t) (pos := pos) (af := af) (g := g) hT hE rfl (by decide) hs hx hown hr (fun u hu => by obtain ⟨b, _, rfl⟩ := List.mem_map.1 hu; rfl) hbase (by omega) w a hh he
  refine ⟨r, w', k1, k2, ?_, k3.only, hown.ge⟩
  have := k3.own
  unfold OwnB
  rw [List.map_append, List.length_append]; exact this
theorem M_appbs (hT : P.underlying T = some (.slice E)) (hT' : P.underlying T' = some .string) (hE : elemRow P E 1 1 (.int .u8 0)) (hs : ev e x = some v) (hx : ev e y = some (str l2)) (hown : OwnB h base v l) (hbase : base ≤ h.size) (hb : l.length + l2.length ≤ 140737488355328) :
    Mks P n e h ⟨d, .call { callee := .builtin .append, args := #[x, y], argTypes := #[T, T'] }, t, pos, af, g⟩ (fun r h' => AppB h h' base v r (l ++ l2)) := fun w a hh he => by
  obtain ⟨r, w', k1, k2, k3⟩ := M_append_str (P := P) (n := n) (d := d) (t := t) (pos := pos) (af := af) (g := g) hT hT' hE hs hx hown hbase hb w a hh he
  refine ⟨r, w', k1, k2, ?_, k3.only, hown.ge⟩
  have := k3.own
  unfold OwnB
  rw [List.map_append, List.length_append]; exact this
/-- []byte{..}. -/
theorem bv_of {c : Int} (h : 0 ≤ c ∧ c ≤ 255) : Value.int .u8 c = bv c.toNat.toUInt8 := by
  have : c.toNat < 256 := by omega
  show Value.int .u8 c = Value.int .u8 ((c.toNat.toUInt8).toNat : Int)
  rw [show (c.toNat.toUInt8).toNat = c.toNat % 256 from rfl, Nat.mod_eq_of_lt this, Int.toNat_of_nonneg h.1]
theorem M_litb {len : Nat} {ps : List (Nat × Operand)} {pv : List (Nat × Value)} {cells : List Value} (hps : ∀ a, EOk n e a → ps.map (fun (i, x) => (i, a.eval x)) = pv) (hl : l.length = len) (hc : cells = l.map bv)
    (hf : ∀ w, (Instr.buildSlice T len pv.toArray).run P w = .ok (.slice (some ⟨w.heap.size, 0, none⟩) len len) { w with heap := w.heap.push (.cells cells.toArray E) }) :
    Mks P n e h ⟨d, .buildSlice T len ps.toArray, t, pos, af, g⟩ (fun u h' => OwnB h' h.size u l ∧ Ext h h') := fun w a hh he => by
  subst hc
  obtain ⟨r, w', k1, k2, rfl, k4⟩ := M_buildSlice (P := P) (n := n) (d := d) (t := t) (pos := pos) (af := af) (g := g) (E := E) hps hf w a hh he
  refine ⟨_, w', k1, k2, ?_, k4.ext⟩
  exact (show Buf _ _ l from k4.blk).ownb (Nat.le_refl _) hl.symm
end
end Go.Xp

/- From a contract of this claim's form to what a row's frame asks of its walk; the arguments' memory as the walks tell it. -/
namespace Go.Xp
open Go.RowKit

theorem law_of_cal {P : Program} {f : FuncId} {args : Array Value} {w : World} (c : Cal P f args w.heap (fun v h' => v = .bool true ∧ Ext w.heap h')) :
    Calls P f args w fun e w' => e = .returned (.bool true) ∧ Below w.heap.size w w' :=
  (c w rfl).mono fun e w' ⟨v, he, hs, hv, hx⟩ => by
    subst hv
    unfold std at hs
    simp only [Std.mk.injEq] at hs
    exact ⟨he, hs.1, hs.2.1, hs.2.2, hx.size, fun k hk => hx.same k hk (by simp)⟩

end Go.Xp
