/- Rows of structs beside a map: what lasts when the map is written; an append with a proof of its own. -/
import Derived.Test.YtknimfbagbkjfaaDoorCanA
import Derived.Test.YtknimfbagbkjfaaDoorFlaL
import Derived.Test.YtknimfbagbkjfaaDoorCanL
import Derived.Test.YtknimfbagbkjfaaDoorTreeV
import Derived.Test.YtknimfbagbkjfaaDoorFlaM
import Derived.Test.YtknimfbagbkjfaaDoorTreeP
import Derived.Test.YtknimfbagbkjfaaDoorTreeR
import Derived.Test.YtknimfbagbkjfaaDoorAppE
import Derived.Test.YtknimfbagbkjfaaDoorGlb
set_option linter.unusedSimpArgs false
set_option linter.unusedVariables false
set_option linter.unusedSectionVars false
namespace Go.Xp

instance : Sch2 memS where
  only2 {bs h h' x} o y hb := Row.only2 (show Bytes h x.dv x.data from o) y (fun b e => hb x.dv (by simp [memS]) b e)
theorem Row.noMap {α : Type} [DecidableEq α] {h : Heap} {z : Nat} {v : Value} {n : Nat} {cs : List Value} (x : Row h z v n cs) (hz : 0 < z) {enc : α → Value} {M : Nat} {m : List (α × Value)} (hm : MapK enc h M m) : ∀ b, blk2 v = some b → b ∉ [M] := fun b hb hM => by
  obtain ⟨⟨a, cap, rfl, h1, h2, h3⟩, h4⟩ := x
  cases a with
  | none => cases hb
  | some ad =>
    by_cases hn : n = 0
    · simp [blk2, hn] at hb
    · simp [blk2, hn] at hb
      rw [List.mem_singleton] at hM
      subst hb
      subst hM
      have hl : 0 < cs.length := by rw [h4]; exact Nat.mul_pos (by omega) hz
      have hc : ∃ u, cs[0]? = some u := ⟨cs[0]'hl, List.getElem?_eq_getElem hl⟩
      obtain ⟨u, hu⟩ := hc
      have := (h3 ad rfl).2 0 u hu
      have hg := MapK.get hm
      simp [cellAt, hg] at this
section
variable {α : Type} [DecidableEq α] {enc : α → Value} {H h : Heap} {M : Nat} {m : List (α × Value)}
end
section
variable {P : Program} {n : Nat} {e : Env} {h : Heap} {d : Option Tmp} {t : TypeId} {pos : String} {af : Array Edge} {g : Option (Nat × Bool)}
variable {T E : TypeId} {x y : Operand} {v u : Value} {β : Type} {S : Sch β} {l l2 : List β} {z base : Nat}
/-- An append, the data of all elements shown by hand. -/
theorem M_apprG {bytes : Nat} {z0 : Value} (hT : P.underlying T = some (.slice E)) (hE : elemRow P E z bytes z0) (hz : z = S.z) (hzz : z0.cells.size = z) (hbp : 0 < bytes) (hs : ev e x = some v) (hx : ev e y = some u) (hown : RowsO S h base v l) (hr : Rows S h u l2)
    (hbase : base ≤ h.size) (hb : (l.length + l2.length) * bytes ≤ 140737488355328) (hok : ∀ h', Only (blockOf v).toList h h' → (∀ b ∈ (blockOf v).toList, base ≤ b) → ∀ x ∈ l ++ l2, S.ok h' x) :
    Mks P n e h ⟨d, .call { callee := .builtin .append, args := #[x, y], argTypes := #[T, T] }, t, pos, af, g⟩ (fun r h' => AppR S h h' base v r (l ++ l2) ∧ (blockOf r = blockOf v ∨ blockOf r = some h.size)) := fun w a hh he => by
  subst hz
  have h1 : ∀ u ∈ l2.flatMap S.cells, u.oneCell' = true := fun u hu => by
    obtain ⟨x, hx0, hx⟩ := List.mem_flatMap.1 hu
    exact S.one (hr.2 x hx0) u hx
  obtain ⟨r, w', k1, k2, k3⟩ := M_append (P := P) (n := n) (d := d) (t := t) (pos := pos) (af := af) (g := g) hT hE hzz hbp hs hx hown.1 hr.1 h1 hbase hb w a hh he
  have hge : ∀ b ∈ (blockOf v).toList, base ≤ b := fun b hb => (Own.lt hown.1 b (by simpa using hb)).1
  refine ⟨r, w', k1, k2, ⟨⟨?_, hok _ k3.only hge⟩, k3.only, hge⟩, k3.lies⟩
  have := k3.own
  rw [List.flatMap_append, List.length_append]; exact this
end
end Go.Xp

/- tree.Equal and the law that Canon and Equal are the reference's: what the code does. -/
set_option linter.unusedSimpArgs false
set_option linter.unusedVariables false
set_option linter.unusedSectionVars false
namespace Go.Xp
open Go.Proofs

def okl (p t d : List UInt8) : Prop := p.length ≤ 100000000000 ∧ t.length ≤ 100000000000 ∧ d.length ≤ 100000000000
theorem tree_Canon (h : Heap) (l : Value) (L : List Nod) (hL : Rows nodS h l L) (hm : L.length ≤ 1000000000) (hs : ∀ x ∈ L, x.path.length ≤ 100000000000 ∧ x.target.length ≤ 100000000000 ∧ x.data.length ≤ 100000000000) :
    Cal Tryd.prog 34 #[l] h (fun v h' => ∃ s0 L0, v = s0 ∧ Rows nodS h' s0 L0 ∧ (L0.length = L.length ∧ L0.map er = cno L) ∧ Ext h h') :=
  (tree_CanonR h l L hL (by omega) (fun x hx => by have := hs x hx; omega)).mono fun v h' ⟨e, x, L', q2, q1, q3, _⟩ => ⟨v, L', rfl, by rw [e, ← q1]; exact q2.rows rfl, ⟨q1, q3⟩, x⟩
end Go.Xp

/- Layer 14 (flatten): Members: what the code does, step by step. -/
set_option linter.unusedSimpArgs false
set_option linter.unusedVariables false
set_option linter.unusedSectionVars false
namespace Go.Xp
open Go.Proofs

/-- The members that Members answers. -/
def mbs (l : List Nod) : List Mem := if terr l = 0 then mem1 (cno l) else []
theorem at_erm (L : List Mem) (k : Nat) : at_mem (L.map erm) k = erm (at_mem L k) := by
  unfold at_mem
  rw [List.getD_eq_getElem?_getD, List.getD_eq_getElem?_getD, List.getElem?_map]
  cases L[k]? <;> rfl
end Go.Xp

/- Layer 14 (flatten): the example. -/
set_option linter.unusedSimpArgs false
set_option linter.unusedVariables false
set_option linter.unusedSectionVars false
namespace Go.Xp
open Go.Proofs

theorem can_okl {A : List Nod} (h : ¬ 0 < ntoo A) : A.length ≤ 40 ∧ A.length ≤ 1000000000 ∧ ∀ x ∈ A, x.path.length ≤ 100000000000 ∧ x.target.length ≤ 100000000000 ∧ x.data.length ≤ 100000000000 := by
  obtain ⟨h1, h2⟩ := ntoo_ok h
  refine ⟨h1, by omega, fun x hx => ?_⟩
  obtain ⟨k, hk, rfl⟩ := List.getElem_of_mem hx
  have := h2 k hk
  unfold nb at_nod at this
  rw [List.getD_eq_getElem?_getD, List.getElem?_eq_getElem hk] at this
  simp only [Option.getD_some] at this
  omega
end Go.Xp

/- Layer 14 (flatten): the reference's Members, and Same: what the code does, step by step. -/
set_option linter.unusedSimpArgs false
set_option linter.unusedVariables false
set_option linter.unusedSectionVars false
namespace Go.Xp
open Go.Proofs

theorem lst_er (C : List Nod) (i : Nat) : ∀ k, lst (C.map er) i k = lst C i k
  | 0 => rfl
  | k + 1 => by
    unfold lst
    rw [lst_er C i k, at_er, at_er, at_er]; rfl
theorem lst_y {C : List Nod} {i k : Nat} (h1 : 0 < (at_nod C i).cls) (h2 : (at_nod C k).cls = (at_nod C i).cls) (h3 : pcmp (at_nod C k).path (at_nod C (lst C i k)).path < 0) : lst C i (k + 1) = k := by
  conv => lhs; unfold lst
  exact if_pos ⟨⟨h1, h2⟩, h3⟩
theorem lst_n {C : List Nod} {i k : Nat} (h : ¬ (((0 < (at_nod C i).cls) ∧ ((at_nod C k).cls = (at_nod C i).cls)) ∧ pcmp (at_nod C k).path (at_nod C (lst C i k)).path < 0)) : lst C i (k + 1) = lst C i k := by
  conv => lhs; unfold lst
  exact if_neg h
theorem rmem_f {C : List Nod} {i : Nat} (hk : (at_nod C i).kind = 1) (hl : lst C i C.length = i) : rmem (C.map er) i = ⟨(at_nod C i).kind, (at_nod C i).path, (at_nod C i).mode, (at_nod C i).target, ((at_nod C i).data.length : Int), .slice none 0 0, (at_nod C i).data⟩ := by
  unfold rmem
  rw [at_er, List.length_map, lst_er, if_pos (show (er (at_nod C i)).kind = 1 from hk), if_pos hl]; rfl
theorem rmem_l {C : List Nod} {i : Nat} (hk : (at_nod C i).kind = 1) (hl : ¬ lst C i C.length = i) : rmem (C.map er) i = ⟨3, (at_nod C i).path, (at_nod C i).mode, (at_nod C (lst C i C.length)).path, 0, .slice none 0 0, []⟩ := by
  unfold rmem
  rw [at_er, List.length_map, lst_er, if_pos (show (er (at_nod C i)).kind = 1 from hk), if_neg hl, at_er]; rfl
theorem rmem_n {C : List Nod} {i : Nat} (hk : ¬ (at_nod C i).kind = 1) : rmem (C.map er) i = ⟨(at_nod C i).kind, (at_nod C i).path, (at_nod C i).mode, (at_nod C i).target, 0, .slice none 0 0, []⟩ := by
  unfold rmem
  rw [at_er, if_neg (show ¬ (er (at_nod C i)).kind = 1 from hk)]; rfl
theorem rms_mbs {l C : List Nod} {n : Nat} (hz : terr l = 0) (hq : C.length = n ∧ C.map er = cno l) : (List.range C.length).map (rmem (C.map er)) = mbs l := by
  have hT := (tok_of hz).set.cno
  have hu := hT.up (cno_asc l)
  rw [hq.2]
  unfold mbs mem1
  rw [if_pos hz, cno_len, hq.1.trans (show n = l.length by rw [← hq.1, ← cno_len l, ← hq.2, List.length_map])]
  exact List.map_congr_left (fun i hi => rmem_msp hu (by rw [cno_len]; exact List.mem_range.1 hi))
theorem okR {hA h' : Heap} {v : Value} {x : Mem} (o : memS.ok hA x) (y : Only (blockOf v).toList hA h') (ha : ∀ b, blk2 x.dv = some b → b ∉ (blockOf v).toList) : memS.ok h' x := Row.only2 (show Bytes hA x.dv x.data from o) y ha
theorem apR {hA : Heap} {v r : Value} {x : Mem} (hl : blockOf r = blockOf v ∨ blockOf r = some hA.size) (o : memS.ok hA x) (ha : ∀ b, blk2 x.dv = some b → b ∉ (blockOf v).toList) : ∀ b, blk2 x.dv = some b → b ∉ (blockOf r).toList := fun b hb => by
  rcases hl with h | h
  · rw [h]; exact ha b hb
  · rw [h]
    have := Row.lt2 (show Bytes hA x.dv x.data from o) hb
    simp; omega
theorem okRb {hA h' : Heap} {v dv : Value} {l : List UInt8} (o : Bytes hA dv l) (y : Only (blockOf v).toList hA h') (ha : ∀ b, blk2 dv = some b → b ∉ (blockOf v).toList) : Bytes h' dv l := Row.only2 o y ha
theorem apRb {hA : Heap} {v r dv : Value} {l : List UInt8} (hl : blockOf r = blockOf v ∨ blockOf r = some hA.size) (o : Bytes hA dv l) (ha : ∀ b, blk2 dv = some b → b ∉ (blockOf v).toList) : ∀ b, blk2 dv = some b → b ∉ (blockOf r).toList := fun b hb => by
  rcases hl with h | h
  · rw [h]; exact ha b hb
  · rw [h]
    have := Row.lt2 o hb
    simp; omega
theorem apOwn {h0 hA : Heap} {base : Nat} {v u : Value} {l : List UInt8} {b0 : Nat} {L : List Mem} (o : OwnB hA base v l) (hv : RowsO memS h0 b0 u L) (hb : h0.size ≤ base) : ∀ b, blk2 v = some b → b ∉ (blockOf u).toList := fun b hb2 hm => by
  have h1 := (Own.lt o b (blk2_of hb2)).1
  have h2 := (Own.lt hv.1 b (by simpa using hm)).2
  omega
theorem all_app {P : Mem → Prop} {O : List Mem} {x : Mem} (h : ∀ y ∈ O, P y) (hx : P x) : ∀ y ∈ O ++ [x], P y := fun y hy => by
  rcases List.mem_append.1 hy with q | q
  · exact h y q
  · rw [List.mem_singleton.1 q]; exact hx
theorem rng_app {O : List Mem} {x : Mem} {f : Nat → Mem} {i : Nat} (h : O.map erm = (List.range i).map f) (hx : erm x = f i) : (O ++ [x]).map erm = (List.range (i + 1)).map f := by
  rw [List.map_append, h, List.range_succ, List.map_append]; simp [hx]

end Go.Xp

/- A byte written into the data of a node of a new row: what lasts. -/
set_option linter.unusedSimpArgs false
set_option linter.unusedVariables false
set_option linter.unusedSectionVars false
namespace Go.Xp

/-- A new row of nodes, its data new too; of what the data hold only the lengths are kept in mind. -/
def RCan (h : Heap) (B : Nat) (L : List Nod) : Prop := RBuf nodS h B (fun b => b ≠ B ∧ B ≤ b) L ∧ ∀ x ∈ L, OwnB h (B + 1) x.dv x.data
theorem own_any {h h' : Heap} {base D k : Nat} {c : UInt8} {vs : List Value} (hD : Blk h D vs) (hD' : Blk h' D (vs.set k (bv c))) (y : Only [D] h h') {v : Value} {l : List UInt8} (o : OwnB h base v l) : ∃ m, m.length = l.length ∧ OwnB h' base v m := by
  obtain ⟨o1, ⟨rfl, o2⟩ | ⟨g, cap, extra, rfl, o3, o4, o5, o6⟩⟩ := o
  · exact ⟨[], by simpa using o2.symm, OwnB.nil _ _⟩
  · by_cases e : g = D
    · subst e
      have hv := Blk.inj hD o4
      rw [hv] at hD'
      by_cases hk : k < l.length
      · refine ⟨l.set k c, by simp, by simp, .inr ⟨g, cap, extra, by simp, o3, ?_, by simpa using o5, by simpa using o6⟩⟩
        have e2 : (l.map bv ++ extra).set k (bv c) = (l.set k c).map bv ++ extra := by
          rw [List.set_append_left _ _ (by simpa using hk), List.map_set]
        rw [← e2]; exact hD'
      · refine ⟨l, rfl, o1, .inr ⟨g, cap, extra.set (k - l.length) (bv c), rfl, o3, ?_, by simpa using o5, o6⟩⟩
        have e2 : (l.map bv ++ extra).set k (bv c) = l.map bv ++ extra.set (k - l.length) (bv c) := by
          rw [List.set_append_right _ _ (by simpa using hk)]; simp
        rw [← e2]; exact hD'
    · exact ⟨l, rfl, o1, .inr ⟨g, cap, extra, rfl, o3, o4.only y (fun hm => e (List.mem_singleton.1 hm)), o5, o6⟩⟩
theorem rcan_any {h h' : Heap} {B D : Nat} {L : List Nod} (x : RCan h B L) (y : Only [D] h h') (hD : B < D) (hany : ∀ v l, OwnB h (B + 1) v l → ∃ m, m.length = l.length ∧ OwnB h' (B + 1) v m) :
    ∃ L' : List Nod, L'.length = L.length ∧ (∀ j, (at_nod L' j).data.length = (at_nod L j).data.length) ∧ RCan h' B L' := by
  have hex : ∀ a ∈ L, ∃ m : List UInt8, m.length = a.data.length ∧ OwnB h' (B + 1) a.dv m := fun a ha => hany _ _ (x.2 a ha)
  have key : ∀ L : List Nod, (∀ a ∈ L, ∃ m : List UInt8, m.length = a.data.length ∧ OwnB h' (B + 1) a.dv m) → ∃ L' : List Nod, L'.length = L.length ∧ (∀ j, (at_nod L' j).data.length = (at_nod L j).data.length) ∧ L'.flatMap nodS.cells = L.flatMap nodS.cells ∧ (∀ a ∈ L', OwnB h' (B + 1) a.dv a.data ∧ ∃ b ∈ L, b.dv = a.dv) := by
    intro L
    induction L with
    | nil => intro _; exact ⟨[], rfl, fun _ => rfl, rfl, fun a ha => by cases ha⟩
    | cons a L ih =>
      intro hL
      obtain ⟨m, hm, ho⟩ := hL a (by simp)
      obtain ⟨L', q1, q2, q3, q4⟩ := ih (fun b hb => hL b (by simp [hb]))
      refine ⟨⟨a.kind, a.path, a.mode, a.target, a.dv, m, a.cls⟩ :: L', by simp [q1], fun j => ?_, ?_, fun b hb => ?_⟩
      · cases j with
        | zero => exact hm
        | succ j => rw [nod_cons_succ, nod_cons_succ]; exact q2 j
      · rw [List.flatMap_cons, List.flatMap_cons, q3]; rfl
      · rcases List.mem_cons.1 hb with rfl | hb
        · exact ⟨ho, a, by simp, rfl⟩
        · obtain ⟨r1, c, r2, r3⟩ := q4 b hb
          exact ⟨r1, c, by simp [r2], r3⟩
  obtain ⟨L', q1, q2, q3, q4⟩ := key L hex
  refine ⟨L', q1, q2, ⟨?_, fun a ha => ⟨(q4 a ha).1.bytes, ?_⟩⟩, fun a ha => (q4 a ha).1⟩
  · rw [q3]; exact x.1.1.only y (fun hm => by rw [List.mem_singleton.1 hm] at hD; omega)
  · obtain ⟨b, hb, e⟩ := (q4 a ha).2
    exact pts_dv fun d hd => (x.1.2 b hb).2 b.dv (by simp [nodS]) d (by rw [e]; exact hd)
section
variable {P : Program} {n : Nat} {e : Env} {h : Heap} {d : Option Tmp} {t : TypeId} {pos : String} {af : Array Edge} {g : Option (Nat × Bool)}
variable {T : TypeId} {x y : Operand}
theorem D_anyb {B i k : Nat} {L : List Nod} {c : Int} (hz : (P.info? T).map (·.size) = some 1) (hx : ev e x = some (.pointer (some (elemAddr (at_nod L i).dv (k * 1))))) (hy : ev e y = some (.int .u8 c)) (hc : 0 ≤ c ∧ c ≤ 255) (hb : RCan h B L) (hi : i < L.length) (hk : k < (at_nod L i).data.length) :
    Dos P n e h ⟨none, .store T x y, t, pos, af, g⟩ (fun h' => ∃ D, (∀ b ∈ [D], B ≤ b) ∧ Only [D] h h' ∧ ∃ L' : List Nod, L'.length = L.length ∧ (∀ j, (at_nod L' j).data.length = (at_nod L j).data.length) ∧ RCan h' B L') := fun w a hh he => by
  have ho := hb.2 _ (can_mem hi)
  obtain ⟨o1, ⟨e0, o2⟩ | ⟨D, cap, extra, e0, o3, o4, o5, o6⟩⟩ := ho
  · omega
  · rw [e0] at hx
    have e1 : elemAddr (.slice (some ⟨D, 0, none⟩) (at_nod L i).data.length cap) (k * 1) = ⟨D, k, none⟩ := by simp [elemAddr]
    rw [e1] at hx
    obtain ⟨w', k1, k2, k3⟩ := D_store (P := P) (n := n) (t := t) (pos := pos) (af := af) (g := g) (us := [.int .u8 c]) hz hx hy rfl (by intro u hu; rw [List.mem_singleton.1 hu]; rfl) o4 (by simp; omega) w a hh he
    have hblk := k3.blk
    have e2 : (((at_nod L i).data.map bv ++ extra).take k ++ [Value.int .u8 c] ++ ((at_nod L i).data.map bv ++ extra).drop (k + 1)) = ((at_nod L i).data.map bv ++ extra).set k (bv c.toNat.toUInt8) := by
      rw [← bv_of hc, List.set_eq_take_append_cons_drop, if_pos (by simp; omega)]; simp
    rw [show k + [Value.int IntKind.u8 c].length = k + 1 from rfl, e2] at hblk
    exact ⟨w', k1, k2, D, fun b hb => by rw [List.mem_singleton.1 hb]; omega, k3.only, rcan_any hb k3.only (by omega) (fun v l o => own_any o4 hblk k3.only o)⟩
end
/-- A field other than the data stored into such a row. -/
theorem rcan_set {h h' : Heap} {B i : Nat} {L : List Nod} {y : Nod} (x : RCan h B L) (o : Only [B] h h') (r : RBuf nodS h' B (fun b => b ≠ B ∧ B ≤ b) (L.set i y)) (hi : i < L.length) (e : y.dv = (at_nod L i).dv ∧ y.data = (at_nod L i).data) : RCan h' B (L.set i y) :=
  ⟨r, fun a ha => by
    rcases List.mem_or_eq_of_mem_set ha with h1 | h1
    · exact ownB_only (x.2 a h1) o
    · rw [h1, e.1, e.2]; exact ownB_only (x.2 _ (can_mem hi)) o⟩
end Go.Xp
