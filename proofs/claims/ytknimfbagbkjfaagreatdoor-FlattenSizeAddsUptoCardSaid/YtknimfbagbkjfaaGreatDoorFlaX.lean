/- tree.Equal and the law that Canon and Equal are the reference's: what the code does. -/
import Derived.Test.YtknimfbagbkjfaaGreatDoorCanL
import Derived.Test.YtknimfbagbkjfaaGreatDoorTreeV
import Derived.Test.YtknimfbagbkjfaaGreatDoorFlaM
import Derived.Test.YtknimfbagbkjfaaGreatDoorEncP
import Derived.Test.YtknimfbagbkjfaaGreatDoorAppE
set_option linter.unusedSimpArgs false
set_option linter.unusedVariables false
set_option linter.unusedSectionVars false
namespace Go.Xp
open Go.Proofs

def okl (p t d : List UInt8) : Prop := p.length ≤ 100000000000 ∧ t.length ≤ 100000000000 ∧ d.length ≤ 100000000000
theorem tree_Canon (h : Heap) (l : Value) (L : List Nod) (hL : Rows nodS h l L) (hm : L.length ≤ 20) (hs : ∀ x ∈ L, x.path.length ≤ 100000000000 ∧ x.target.length ≤ 100000000000 ∧ x.data.length ≤ 100000000000) :
    Cal Tryz.prog 16 #[l] h (fun v h' => ∃ s0 L0, v = s0 ∧ Rows nodS h' s0 L0 ∧ (L0.length = L.length ∧ L0.map er = cno L) ∧ Ext h h') :=
  (tree_CanonR h l L hL (by omega) (fun x hx => by have := hs x hx; omega)).mono fun v h' ⟨e, x, L', q2, q1, q3, _⟩ => ⟨v, L', rfl, by rw [e, ← q1]; exact q2.rows rfl, ⟨q1, q3⟩, x⟩

end Go.Xp

/- Rows of structs beside a map: what lasts when the map is written; an append with a proof of its own. -/
set_option linter.unusedSimpArgs false
set_option linter.unusedVariables false
set_option linter.unusedSectionVars false
namespace Go.Xp

instance : Sch2 memS where
  only2 {bs h h' x} o y hb := Row.only2 (show Bytes h x.dv x.data from o) y (fun b e => hb x.dv (by simp [memS]) b e)
theorem Row.noMap {α : Type} [DecidableEq α] {h : Heap} {z : Nat} {v : Value} {n : Nat} {cs : List Value} (x : Row h z v n cs) (hz : 0 < z) {enc : α → Value} {M : Nat} {m : List (α × Value)} (hm : MapK enc h M m) : ∀ b, blk2 v = some b → b ∉ [M] := fun b hb hM => by
  obtain ⟨⟨a, cap, rfl, h1, h2, h3⟩, h4⟩ := x
  cases a with
  | none => cases hb
  | some ad =>
    by_cases hn : n = 0
    · simp [blk2, hn] at hb
    · simp [blk2, hn] at hb
      rw [List.mem_singleton] at hM
      subst hb
      subst hM
      have hl : 0 < cs.length := by rw [h4]; exact Nat.mul_pos (by omega) hz
      have hc : ∃ u, cs[0]? = some u := ⟨cs[0]'hl, List.getElem?_eq_getElem hl⟩
      obtain ⟨u, hu⟩ := hc
      have := (h3 ad rfl).2 0 u hu
      have hg := MapK.get hm
      simp [cellAt, hg] at this
section
variable {α : Type} [DecidableEq α] {enc : α → Value} {H h : Heap} {M : Nat} {m : List (α × Value)}
/-- Rows of nodes that stood beside the map. -/
theorem rowsN_onlyM {v : Value} {L : List Nod} (x : Rows nodS H v L) (y : Only [M] H h) (hm : MapK enc H M m) : Rows nodS h v L :=
  ⟨Row.only2 x.1 y (Row.noMap x.1 (by decide) hm), fun a ha => Row.only2 (show Bytes H a.dv a.data from x.2 a ha) y (Row.noMap (show Bytes H a.dv a.data from x.2 a ha) (by decide) hm)⟩
theorem okM_onlyM {x : Mem} (o : memS.ok H x) (y : Only [M] H h) (hm : MapK enc H M m) : memS.ok h x :=
  Row.only2 (show Bytes H x.dv x.data from o) y (Row.noMap (show Bytes H x.dv x.data from o) (by decide) hm)
theorem rowsO_onlyM {base : Nat} {v : Value} {l : List Mem} (x : RowsO memS H base v l) (y : Only [M] H h) (hlt : M < base) (hm : MapK enc H M m) : RowsO memS h base v l :=
  ⟨Own.only x.1 y (fun b hb hM => by
    have := (Own.lt x.1 b hb).1
    rw [List.mem_singleton.1 hM] at this; omega), fun a ha => okM_onlyM (x.2 a ha) y hm⟩
theorem only_app {h' : Heap} {bs : List Nat} (x : Only [M] H h) (y : Only bs h h') (hge : ∀ b ∈ bs, H.size ≤ b) : Only [M] H h' := Only.trans x y (fun b hb => .inr (hge b hb))
end
section
variable {P : Program} {n : Nat} {e : Env} {h : Heap} {d : Option Tmp} {t : TypeId} {pos : String} {af : Array Edge} {g : Option (Nat × Bool)}
variable {T E : TypeId} {x y : Operand} {v u : Value} {β : Type} {S : Sch β} {l l2 : List β} {z base : Nat}
/-- An append, the data of all elements shown by hand. -/
theorem M_apprG {bytes : Nat} {z0 : Value} (hT : P.underlying T = some (.slice E)) (hE : elemRow P E z bytes z0) (hz : z = S.z) (hzz : z0.cells.size = z) (hbp : 0 < bytes) (hs : ev e x = some v) (hx : ev e y = some u) (hown : RowsO S h base v l) (hr : Rows S h u l2)
    (hbase : base ≤ h.size) (hb : (l.length + l2.length) * bytes ≤ 140737488355328) (hok : ∀ h', Only (blockOf v).toList h h' → (∀ b ∈ (blockOf v).toList, base ≤ b) → ∀ x ∈ l ++ l2, S.ok h' x) :
    Mks P n e h ⟨d, .call { callee := .builtin .append, args := #[x, y], argTypes := #[T, T] }, t, pos, af, g⟩ (fun r h' => AppR S h h' base v r (l ++ l2) ∧ (blockOf r = blockOf v ∨ blockOf r = some h.size)) := fun w a hh he => by
  subst hz
  have h1 : ∀ u ∈ l2.flatMap S.cells, u.oneCell' = true := fun u hu => by
    obtain ⟨x, hx0, hx⟩ := List.mem_flatMap.1 hu
    exact S.one (hr.2 x hx0) u hx
  obtain ⟨r, w', k1, k2, k3⟩ := M_append (P := P) (n := n) (d := d) (t := t) (pos := pos) (af := af) (g := g) hT hE hzz hbp hs hx hown.1 hr.1 h1 hbase hb w a hh he
  have hge : ∀ b ∈ (blockOf v).toList, base ≤ b := fun b hb => (Own.lt hown.1 b (by simpa using hb)).1
  refine ⟨r, w', k1, k2, ⟨⟨?_, hok _ k3.only hge⟩, k3.only, hge⟩, k3.lies⟩
  have := k3.own
  rw [List.flatMap_append, List.length_append]; exact this
end
end Go.Xp

/- Layer 14 (flatten): Members: what the code does, step by step. -/
set_option linter.unusedSimpArgs false
set_option linter.unusedVariables false
set_option linter.unusedSectionVars false
namespace Go.Xp
open Go.Proofs

/-- The members that Members answers. -/
def mbs (l : List Nod) : List Mem := if terr l = 0 then mem1 (cno l) else []
theorem at_erm (L : List Mem) (k : Nat) : at_mem (L.map erm) k = erm (at_mem L k) := by
  unfold at_mem
  rw [List.getD_eq_getElem?_getD, List.getD_eq_getElem?_getD, List.getElem?_map]
  cases L[k]? <;> rfl
theorem mmem_ok {H : Heap} {M : List (Int × List UInt8)} {x : Nod} (o : nodS.ok H x) : memS.ok H (mmem M x) := by
  unfold mmem
  split
  · exact Bytes.nil H
  · split
    · exact o
    · exact Bytes.nil H
theorem mms_ok {H : Heap} {C : List Nod} {i : Nat} (o : ∀ x ∈ mms C i, memS.ok H x) (h : nodS.ok H (at_nod C i)) : ∀ x ∈ mms C (i + 1), memS.ok H x := fun x hx => by
  unfold mms at hx
  rcases List.mem_append.1 hx with q | q
  · exact o x q
  · rw [List.mem_singleton.1 q]; exact mmem_ok h
theorem mbs_of {l C : List Nod} {n : Nat} (hz : terr l = 0) (hq : C.length = n ∧ C.map er = cno l) : (mms C C.length).map erm = mbs l := by
  have hC : Cfl C := fun x hx hc => by
    have := (tok_of hz).set.cno.cfl (er x) (by rw [← hq.2]; exact List.mem_map_of_mem hx) hc
    exact this
  rw [mms_mem1 hC, hq.2]
  unfold mbs; rw [if_pos hz]

theorem rowsO_congr {β : Type} {S : Sch β} {h : Heap} {b : Nat} {v : Value} {l l' : List β} (x : RowsO S h b v l) (e : l = l') : RowsO S h b v l' := e ▸ x
theorem mms_y {C : List Nod} {i : Nat} (h : lnk (mmk C i) (at_nod C i)) : mms C i ++ [⟨3, (at_nod C i).path, (at_nod C i).mode, (aget (mmk C i) (at_nod C i).cls).getD [], 0, .slice none 0 0, []⟩] = mms C (i + 1) ∧ mmk C i = mmk C (i + 1) := by
  conv => rhs; rhs; unfold mmk
  conv => lhs; rhs; unfold mms
  unfold mmem mmap
  rw [if_pos h, if_pos h]
  exact ⟨rfl, rfl⟩
theorem mms_f {C : List Nod} {i : Nat} (h : ¬ lnk (mmk C i) (at_nod C i)) (hk : (at_nod C i).kind = 1) : mms C i ++ [⟨(at_nod C i).kind, (at_nod C i).path, (at_nod C i).mode, (at_nod C i).target, ((at_nod C i).data.length : Int), (at_nod C i).dv, (at_nod C i).data⟩] = mms C (i + 1) ∧ aset (mmk C i) (at_nod C i).cls (at_nod C i).path = mmk C (i + 1) := by
  conv => rhs; rhs; unfold mmk
  conv => lhs; rhs; unfold mms
  unfold mmem mmap
  rw [if_neg h, if_neg h, if_pos hk, if_pos hk]
  exact ⟨rfl, rfl⟩
theorem mms_n {C : List Nod} {i : Nat} (h : ¬ lnk (mmk C i) (at_nod C i)) (hk : ¬ (at_nod C i).kind = 1) : mms C i ++ [⟨(at_nod C i).kind, (at_nod C i).path, (at_nod C i).mode, (at_nod C i).target, 0, .slice none 0 0, []⟩] = mms C (i + 1) ∧ mmk C i = mmk C (i + 1) := by
  conv => rhs; rhs; unfold mmk
  conv => lhs; rhs; unfold mms
  unfold mmem mmap
  rw [if_neg h, if_neg h, if_neg hk, if_neg hk]
  exact ⟨rfl, rfl⟩

set_option maxRecDepth 100000 in
theorem flatten_Members (h : Heap) (hK : GlbK h) (hE : GlbE h) (w : Value) (l : List Nod) (hl : Rows nodS h w l) (hm : l.length ≤ 20) (hs : ∀ x ∈ l, x.path.length ≤ 100000000000 ∧ x.target.length ≤ 100000000000 ∧ x.data.length ≤ 100000000000) : Cal Tryz.prog 8 #[w] h (fun v h' => ∃ s0 L0, v = .tuple #[s0, .int .i64 (tpos l), .int .i64 (terr l)] ∧ Rows memS h' s0 L0 ∧ (L0.map erm = mbs l) ∧ Ext h h') := by
 refine Cal_enter (args := [w]) Tryz.func8 rfl rfl rfl (fun σ => ?_)
 refine Wr ?_
 refine Av ?_
 refine Av ?_
 refine Av ?_
 refine L_nil (X_then (W_seq (W_seq (W_region ?_))))
 refine Mv ?_
 refine L_call (E_call (by kernel_rfl) rfl) (tree_Check _ hK hE w l hl (by omega) (fun x hx => by have := hs x hx; omega)) rfl rfl rfl ?_
 rintro _ h1 ⟨rfl, hx1⟩
 refine Mv ?_
 refine Ly (Y_extract (v := .int .i64 (tpos l)) rfl rfl) ?_
 refine Ly (Y_extract (v := .int .i64 (terr l)) rfl rfl) ?_
 refine Av ?_
 refine Av ?_
 refine Nx ?_
 refine W_sub _ (tk6 6 5 4 3 2 0) ?_
 refine Wr ?_
 refine Mv ?_
 refine Ly (Y_neq rfl rfl) ?_
 refine Nx ?_
 refine W_sub _ (tk7 20 6 5 4 3 2 0) ?_
 refine W_splitd rfl (fun e => ?_) (fun e => ?_)
 ·refine Wr ?_
  refine Mv ?_
  refine Mv ?_
  refine Av ?_
  refine Av ?_
  refine Av ?_
  refine Nx ?_
  refine W_sub _ (tk4 4 3 2 0) ?_
  refine W_ret (X_then_ret ?_)
  refine X_ret3 rfl rfl rfl rfl ?_
  exact ⟨_, [], rfl, Rows.nil memS _, by unfold mbs; rw [if_neg e]; rfl, hx1⟩
 refine Ws ?_
 refine W_sub _ (tk4 4 3 2 0) ?_
 have hz := Classical.not_not.1 e
 refine Wr ?_
 refine L_mks (M_makeMapA (enc := (fun z : Int => .int .i64 z)) (evl := (fun l : List UInt8 => str l))) rfl rfl rfl ?_
 rintro _ h2 ⟨rfl, hx2, hb3⟩
 refine Av ?_
 refine Nx ?_
 refine W_sub _ (tk5 7 4 3 2 0) ?_
 refine Wr ?_
 refine Av ?_
 refine L_nil (X_then (W_seq (W_seq (W_region ?_))))
 refine Mv ?_
 refine L_call (E_call (by kernel_rfl) rfl) (tree_Canon _ w l (hl.ext (hx1.trans hx2)) hm hs) rfl rfl rfl ?_
 rintro s04 h3 ⟨_, L05, rfl, hr06, hq07, hx8⟩
 refine Ly (Y_lenr Tryz.underlying22 rfl hr06) ?_
 refine Mv ?_
 refine Nx ?_
 refine W_sub _ (sk1 27 rfl (tk8 26 25 8 7 4 3 2 0)) ?_
 have hrC : Rows nodS h3 s04 L05 := hr06
 have hmC : MapIS h3 h1.size [] := (hb3.ext hx8)
 refine W_block ?_
 refine W_loop (S := Nat × Value) (fun (i, vo) => [(26, .int .i64 ((L05.length : Int))), (7, .map (some h1.size)), (4, .int .i64 0), (3, .int .i64 0), (2, .slice none 0 0), (0, w), (8, vo), (25, s04), (27, .int .i64 ((i : Int)))]) (fun (i, vo) h' => i ≤ (L05).length ∧ (∀ x ∈ mms L05 i, memS.ok h3 x) ∧ Only [h1.size] h3 h' ∧ RowsO memS h' h3.size vo (mms L05 i) ∧ MapIS h' h1.size (mmk L05 i)) (fun (i, vo) => (L05).length - i) (0, .slice none 0 0) (sk1 26 rfl (tk8 7 4 3 2 0 8 25 27)) ?_ ?_
 ·exact ⟨Nat.zero_le _, (fun x hx => by cases hx), Only.refl _ _, RowsO.nil _ _ _, hmC⟩
 rintro ⟨i, vo⟩ h4 ⟨hi, hkA, hxA, hoA, hmL⟩
 show W _ _ _ _ _ [(26, .int .i64 ((L05.length : Int))), (7, .map (some h1.size)), (4, .int .i64 0), (3, .int .i64 0), (2, .slice none 0 0), (0, w), (8, vo), (25, s04), (27, .int .i64 ((i : Int)))] _
 refine Wr ?_
 refine Ly (Y_lss rfl rfl) ?_
 refine L_nil (X_then (W_seq ?_))
 refine W_splitd rfl (fun c => ?_) (fun c => ?_)
 ·refine Ws ?_
  refine W_sub _ (sk1 26 rfl (tk8 7 4 3 2 0 8 25 27)) ?_
  refine W_seq (W_block (W_seq (W_region ?_)))
  refine Ly (Y_idxr Tryz.underlying22 (show _ = some 6 by kernel_rfl) rfl rfl rfl (rowsN_onlyM hrC (Only.trans (Only.refl _ _) hxA (fun _ hb_ => .inl hb_)) hmC) (by omega) (by omega)) ?_
  refine Ly (Y_ldrA0 (k := ((i : Int)).toNat) (us := [.int .i64 ((at_nod L05 ((i : Int)).toNat).kind), str ((at_nod L05 ((i : Int)).toNat).path), .int .i64 ((at_nod L05 ((i : Int)).toNat).mode), str ((at_nod L05 ((i : Int)).toNat).target), ((at_nod L05 ((i : Int)).toNat).dv), .int .i64 ((at_nod L05 ((i : Int)).toNat).cls)]) Tryz.underlying50 rfl (show _ = some 6 by kernel_rfl) rfl rfl (rowsN_onlyM hrC (Only.trans (Only.refl _ _) hxA (fun _ hb_ => .inl hb_)) hmC) (by omega) rfl) ?_
  refine L_mks (M_alloc (u := .agg #[.int .i64 0, str [], .int .i64 0, str [], .slice none 0 0, .int .i64 0]) (by kernel_rfl)) rfl rfl rfl ?_
  rintro _ h5 ⟨rfl, hn9⟩
  have hk10 : Blk h5 h4.size [.int .i64 0, str [], .int .i64 0, str [], .slice none 0 0, .int .i64 0] := hn9.blk
  refine L_dos (D_store (us := [.int .i64 ((at_nod L05 ((i : Int)).toNat).kind), str ((at_nod L05 ((i : Int)).toNat).path), .int .i64 ((at_nod L05 ((i : Int)).toNat).mode), str ((at_nod L05 ((i : Int)).toNat).target), ((at_nod L05 ((i : Int)).toNat).dv), .int .i64 ((at_nod L05 ((i : Int)).toNat).cls)]) (show _ = some 6 by kernel_rfl) rfl rfl rfl (by intro u_ hu_; simp only [List.mem_cons, List.not_mem_nil, or_false] at hu_; rcases hu_ with rfl | rfl | rfl | rfl | rfl | rfl <;> first | rfl | exact ((show Bytes _ ((at_nod L05 ((i : Int)).toNat).dv) ((at_nod L05 ((i : Int)).toNat).data) from (rowsN_onlyM hrC (Only.trans (Only.trans (Only.refl _ _) hxA (fun _ hb_ => .inl hb_)) hn9.ext (fun _ hb_ => by cases hb_)) hmC).okat (k := ((i : Int)).toNat) (by omega))).cell1) hk10 (by simp)) rfl rfl ?_
  rintro h6 hp11
  have hk12 : Blk h6 h4.size [.int .i64 ((at_nod L05 ((i : Int)).toNat).kind), str ((at_nod L05 ((i : Int)).toNat).path), .int .i64 ((at_nod L05 ((i : Int)).toNat).mode), str ((at_nod L05 ((i : Int)).toNat).target), ((at_nod L05 ((i : Int)).toNat).dv), .int .i64 ((at_nod L05 ((i : Int)).toNat).cls)] := hp11.blk
  refine Nx ?_
  refine W_sub _ (sk2 10 26 rfl rfl (tk8 7 4 3 2 0 8 25 27)) ?_
  refine Wr ?_
  refine Ly (Y_fieldAddr (off := 0) (by kernel_rfl) rfl rfl) ?_
  refine Ly (Y_ldblk Tryz.underlying3 rfl rfl hk12 rfl) ?_
  refine Ly (Y_fieldAddr (off := 1) (by kernel_rfl) rfl rfl) ?_
  refine Ly (Y_ldblk Tryz.underlying9 rfl rfl hk12 rfl) ?_
  refine Ly (Y_fieldAddr (off := 2) (by kernel_rfl) rfl rfl) ?_
  refine Ly (Y_ldblk Tryz.underlying3 rfl rfl hk12 rfl) ?_
  refine Ly (Y_fieldAddr (off := 3) (by kernel_rfl) rfl rfl) ?_
  refine Ly (Y_ldblk Tryz.underlying9 rfl rfl hk12 rfl) ?_
  refine Ly (Y_build (v := .agg #[.int .i64 ((at_nod L05 ((i : Int)).toNat).kind), str ((at_nod L05 ((i : Int)).toNat).path), .int .i64 ((at_nod L05 ((i : Int)).toNat).mode), str ((at_nod L05 ((i : Int)).toNat).target), .int .i64 0]) (pv := [(0, .int .i64 ((at_nod L05 ((i : Int)).toNat).kind)), (1, str ((at_nod L05 ((i : Int)).toNat).path)), (2, .int .i64 ((at_nod L05 ((i : Int)).toNat).mode)), (3, str ((at_nod L05 ((i : Int)).toNat).target))]) (evp (is := [0, 1, 2, 3]) (os := [.tmp 32, .tmp 34, .tmp 36, .tmp 38]) (vs := [.int .i64 ((at_nod L05 ((i : Int)).toNat).kind), str ((at_nod L05 ((i : Int)).toNat).path), .int .i64 ((at_nod L05 ((i : Int)).toNat).mode), str ((at_nod L05 ((i : Int)).toNat).target)]) rfl rfl) (fun _ => by kernel_rfl)) ?_
  refine Ly (Y_build (v := .agg #[.int .i64 ((at_nod L05 ((i : Int)).toNat).kind), str ((at_nod L05 ((i : Int)).toNat).path), .int .i64 ((at_nod L05 ((i : Int)).toNat).mode), str ((at_nod L05 ((i : Int)).toNat).target), .int .i64 0, .slice none 0 0]) (pv := [(0, .agg #[.int .i64 ((at_nod L05 ((i : Int)).toNat).kind), str ((at_nod L05 ((i : Int)).toNat).path), .int .i64 ((at_nod L05 ((i : Int)).toNat).mode), str ((at_nod L05 ((i : Int)).toNat).target), .int .i64 0])]) (evp (is := [0]) (os := [.tmp 39]) (vs := [.agg #[.int .i64 ((at_nod L05 ((i : Int)).toNat).kind), str ((at_nod L05 ((i : Int)).toNat).path), .int .i64 ((at_nod L05 ((i : Int)).toNat).mode), str ((at_nod L05 ((i : Int)).toNat).target), .int .i64 0]]) rfl rfl) (fun _ => by kernel_rfl)) ?_
  refine L_mks (M_alloc (u := .agg #[.int .i64 0, str [], .int .i64 0, str [], .int .i64 0, .slice none 0 0]) (by kernel_rfl)) rfl rfl rfl ?_
  rintro _ h7 ⟨rfl, hn13⟩
  have hk14 : Blk h7 h6.size [.int .i64 0, str [], .int .i64 0, str [], .int .i64 0, .slice none 0 0] := hn13.blk
  refine L_dos (D_store (us := [.int .i64 ((at_nod L05 ((i : Int)).toNat).kind), str ((at_nod L05 ((i : Int)).toNat).path), .int .i64 ((at_nod L05 ((i : Int)).toNat).mode), str ((at_nod L05 ((i : Int)).toNat).target), .int .i64 0, .slice none 0 0]) (show _ = some 6 by kernel_rfl) rfl rfl rfl (by simp [Value.oneCell']) hk14 (by simp)) rfl rfl ?_
  rintro h8 hp15
  have hk16 : Blk h8 h6.size [.int .i64 ((at_nod L05 ((i : Int)).toNat).kind), str ((at_nod L05 ((i : Int)).toNat).path), .int .i64 ((at_nod L05 ((i : Int)).toNat).mode), str ((at_nod L05 ((i : Int)).toNat).target), .int .i64 0, .slice none 0 0] := hp15.blk
  refine Nx ?_
  refine W_sub _ (sk3 11 10 26 rfl rfl rfl (tk8 7 4 3 2 0 8 25 27)) ?_
  refine Wr ?_
  refine Mv ?_
  refine Ly (Y_fieldAddr (off := 5) (by kernel_rfl) rfl rfl) ?_
  refine Ly (Y_ldblk Tryz.underlying3 rfl rfl (hk12.ext (hn13.ext.then' hp15.only (by simp) (Nat.le_refl _))) rfl) ?_
  have me1 := (hn9.ext.then' hp11.only (by simp) (Nat.le_refl _)).trans hn13.ext
  have me2 := me1.then' hp15.only (by simp) (Nat.le_trans hn9.ext.size hp11.only.size)
  refine Ly (Y_look2A (evl := (fun l : List UInt8 => str l)) (k := (at_nod L05 ((i : Int)).toNat).cls) (u := ([] : List UInt8)) keyI Tryz.underlying53 Tryz.underlying3 (by kernel_rfl) rfl rfl (hmL.ext me2)) ?_
  refine Mv ?_
  refine Ly (Y_extract (v := str ((aget (mmk L05 i) ((at_nod L05 ((i : Int)).toNat).cls)).getD ([] : List UInt8))) rfl rfl) ?_
  refine Ly (Y_extract (v := .bool ((aget (mmk L05 i) ((at_nod L05 ((i : Int)).toNat).cls)).isSome)) rfl rfl) ?_
  refine Av ?_
  refine Av ?_
  refine Nx ?_
  refine W_sub _ (sk5 13 12 11 10 26 rfl rfl rfl rfl rfl (tk8 7 4 3 2 0 8 25 27)) ?_
  refine W_seq (W_block ?_)
  refine W_cut (S := Unit) (fun _ => [(48, .bool (decide (((((at_nod L05 ((i : Int)).toNat).kind) = 1) ∧ (0 < ((at_nod L05 ((i : Int)).toNat).cls))) ∧ ((aget (mmk L05 i) ((at_nod L05 ((i : Int)).toNat).cls)).isSome = true)))), (12, str ((aget (mmk L05 i) ((at_nod L05 ((i : Int)).toNat).cls)).getD ([] : List UInt8))), (11, .pointer (some ⟨h6.size, 0, none⟩)), (10, .pointer (some ⟨h4.size, 0, none⟩)), (26, .int .i64 ((L05.length : Int))), (7, .map (some h1.size)), (4, .int .i64 0), (3, .int .i64 0), (2, .slice none 0 0), (0, w), (8, vo), (25, s04), (27, .int .i64 ((i : Int)))]) (fun _ h' => h' = h8) ?_ ?_
  ·refine W_region ?_
   refine Ly (Y_fieldAddr (off := 0) (by kernel_rfl) rfl rfl) ?_
   refine Ly (Y_ldblk Tryz.underlying3 rfl rfl (hk12.ext (hn13.ext.then' hp15.only (by simp) (Nat.le_refl _))) rfl) ?_
   refine Ly (Y_eql rfl rfl) ?_
   refine Mv ?_
   refine L_splitd (d := 52) rfl (fun a0 => ?_) (fun a0 => ?_)
   ·refine Ly (Y_fieldAddr (off := 5) (by kernel_rfl) rfl rfl) ?_
    refine Ly (Y_ldblk Tryz.underlying3 rfl rfl (hk12.ext (hn13.ext.then' hp15.only (by simp) (Nat.le_refl _))) rfl) ?_
    refine Ly (Y_gtr rfl rfl) ?_
    refine Ly (Y_pick_t rfl rfl) ?_
    refine Mv ?_
    refine L_splitd (d := 57) rfl (fun a1 => ?_) (fun a1 => ?_)
    ·refine Ly (Y_move rfl) ?_
     refine Ly (Y_pick_t rfl rfl) ?_
     refine Av ?_
     refine L_nil ?_
     exact X_cut () (sk1 48 (lkb rfl (by first | (simp only [eq_true a0, eq_true a1, SB]; done) | (simp only [eq_true a0, eq_true a1, SB]; rfl))) (sk1 12 rfl (sk1 11 rfl (sk1 10 rfl (sk1 26 rfl (sk1 7 rfl (sk1 4 rfl (sk1 3 rfl (sk1 2 rfl (sk1 0 rfl (sk1 8 rfl (sk1 25 rfl (tk1 27))))))))))))) rfl
    refine Skp ?_
    refine Ly (Y_pick_f rfl rfl) ?_
    refine Av ?_
    refine L_nil ?_
    exact X_cut () (sk1 48 (lkb rfl (by first | (simp only [eq_true a0, eq_false a1, SB]; done) | (simp only [eq_true a0, eq_false a1, SB]; rfl))) (sk1 12 rfl (sk1 11 rfl (sk1 10 rfl (sk1 26 rfl (sk1 7 rfl (sk1 4 rfl (sk1 3 rfl (sk1 2 rfl (sk1 0 rfl (sk1 8 rfl (sk1 25 rfl (tk1 27))))))))))))) rfl
   refine Skp ?_
   refine Skp ?_
   refine Skp ?_
   refine Ly (Y_pick_f rfl rfl) ?_
   refine Mv ?_
   refine Skp ?_
   refine Ly (Y_pick_f rfl rfl) ?_
   refine Av ?_
   refine L_nil ?_
   exact X_cut () (sk1 48 (lkb rfl (by first | (simp only [eq_false a0, SB]; done) | (simp only [eq_false a0, SB]; rfl))) (sk1 12 rfl (sk1 11 rfl (sk1 10 rfl (sk1 26 rfl (sk1 7 rfl (sk1 4 rfl (sk1 3 rfl (sk1 2 rfl (sk1 0 rfl (sk1 8 rfl (sk1 25 rfl (tk1 27))))))))))))) rfl
  rintro _ h8 rfl
  show W _ _ _ _ _ [(48, .bool (decide (((((at_nod L05 ((i : Int)).toNat).kind) = 1) ∧ (0 < ((at_nod L05 ((i : Int)).toNat).cls))) ∧ ((aget (mmk L05 i) ((at_nod L05 ((i : Int)).toNat).cls)).isSome = true)))), (12, str ((aget (mmk L05 i) ((at_nod L05 ((i : Int)).toNat).cls)).getD ([] : List UInt8))), (11, .pointer (some ⟨h6.size, 0, none⟩)), (10, .pointer (some ⟨h4.size, 0, none⟩)), (26, .int .i64 ((L05.length : Int))), (7, .map (some h1.size)), (4, .int .i64 0), (3, .int .i64 0), (2, .slice none 0 0), (0, w), (8, vo), (25, s04), (27, .int .i64 ((i : Int)))] _
  refine W_splitd rfl (fun a => ?_) (fun a => ?_)
  ·refine W_region ?_
   refine Mv ?_
   refine Ly (Y_fieldAddr (off := 0) (by kernel_rfl) rfl rfl) ?_
   refine Ly (Y_fieldAddr (off := 0) (by kernel_rfl) rfl rfl) ?_
   refine L_dos (D_store (us := [.int .i64 3]) (show _ = some 1 by kernel_rfl) rfl rfl rfl (by simp [Value.oneCell']) hk16 (by simp)) rfl rfl ?_
   rintro h9 hp17
   have hk18 : Blk h9 h6.size [.int .i64 3, str ((at_nod L05 ((i : Int)).toNat).path), .int .i64 ((at_nod L05 ((i : Int)).toNat).mode), str ((at_nod L05 ((i : Int)).toNat).target), .int .i64 0, .slice none 0 0] := hp17.blk
   refine Ly (Y_fieldAddr (off := 0) (by kernel_rfl) rfl rfl) ?_
   refine Ly (Y_fieldAddr (off := 3) (by kernel_rfl) rfl rfl) ?_
   refine L_dos (D_store (us := [str ((aget (mmk L05 i) ((at_nod L05 ((i : Int)).toNat).cls)).getD ([] : List UInt8))]) (show _ = some 1 by kernel_rfl) rfl rfl rfl (by simp [Value.oneCell']) hk18 (by simp)) rfl rfl ?_
   rintro h10 hp19
   have hk20 : Blk h10 h6.size [.int .i64 3, str ((at_nod L05 ((i : Int)).toNat).path), .int .i64 ((at_nod L05 ((i : Int)).toNat).mode), str ((aget (mmk L05 i) ((at_nod L05 ((i : Int)).toNat).cls)).getD ([] : List UInt8)), .int .i64 0, .slice none 0 0] := hp19.blk
   refine L_nil (X_block (X_then ?_))
   refine W_sub _ (sk2 11 26 rfl rfl (tk8 7 4 3 2 0 8 25 27)) ?_
   refine W_region ?_
   refine Mv ?_
   refine Ly (Y_ldbox (us := [.int .i64 3, str ((at_nod L05 ((i : Int)).toNat).path), .int .i64 ((at_nod L05 ((i : Int)).toNat).mode), str ((aget (mmk L05 i) ((at_nod L05 ((i : Int)).toNat).cls)).getD ([] : List UInt8)), .int .i64 0, .slice none 0 0]) Tryz.underlying35 rfl (show _ = some 6 by kernel_rfl) rfl hk20 rfl) ?_
   refine L_mks (M_litr (S := memS) (l := ([⟨(3 : Int), (at_nod L05 ((i : Int)).toNat).path, (at_nod L05 ((i : Int)).toNat).mode, (aget (mmk L05 i) ((at_nod L05 ((i : Int)).toNat).cls)).getD ([] : List UInt8), (0 : Int), .slice none 0 0, ([] : List UInt8)⟩] : List Mem)) (cells := [.int .i64 3, str ((at_nod L05 ((i : Int)).toNat).path), .int .i64 ((at_nod L05 ((i : Int)).toNat).mode), str ((aget (mmk L05 i) ((at_nod L05 ((i : Int)).toNat).cls)).getD ([] : List UInt8)), .int .i64 0, .slice none 0 0]) (pv := [(0, .agg #[.int .i64 3, str ((at_nod L05 ((i : Int)).toNat).path), .int .i64 ((at_nod L05 ((i : Int)).toNat).mode), str ((aget (mmk L05 i) ((at_nod L05 ((i : Int)).toNat).cls)).getD ([] : List UInt8)), .int .i64 0, .slice none 0 0])]) (E := 35) (evp (is := [0]) (os := [.tmp 83]) (vs := [.agg #[.int .i64 3, str ((at_nod L05 ((i : Int)).toNat).path), .int .i64 ((at_nod L05 ((i : Int)).toNat).mode), str ((aget (mmk L05 i) ((at_nod L05 ((i : Int)).toNat).cls)).getD ([] : List UInt8)), .int .i64 0, .slice none 0 0]]) rfl rfl) rfl rfl (fun _ => by kernel_rfl) (by simp only [List.mem_cons, List.not_mem_nil, or_false, forall_eq_or_imp, forall_eq]; exact (Bytes.nil _))) rfl rfl rfl ?_
   rintro v21 h11 ⟨ho22, hx23⟩
   have me3 := me2.then' hp17.only (by simp) (Nat.le_trans hn9.ext.size hp11.only.size)
   have me4 := me3.then' hp19.only (by simp) (Nat.le_trans hn9.ext.size hp11.only.size)
   have me5 := Nat.le_trans (Nat.le_trans hxA.size hn9.ext.size) hp11.only.size
   have me6 := Nat.le_trans (Nat.le_trans me5 hn13.ext.size) hp15.only.size
   have me7 := Nat.le_trans (Nat.le_trans me6 hp17.only.size) hp19.only.size
   refine L_mks (M_apprG (z := 6) (bytes := 80) (z0 := (.agg #[.int .i64 0, str [], .int .i64 0, str [], .int .i64 0, .slice none 0 0])) Tryz.underlying25 (by unfold elemRow; kernel_rfl) rfl rfl (by decide) rfl rfl (hoA.ext (me4.trans hx23)) ho22.rows (Nat.le_trans me7 hx23.size) (by first | (simp; omega) | (simp; done) | omega) (fun h' y hge x hx => okM_onlyM ((List.mem_append.1 hx).elim (hkA x) (fun q => by rw [List.mem_singleton.1 q]; exact Bytes.nil _)) (only_app (Only.trans (Only.trans (Only.trans (Only.trans (Only.trans (Only.trans (Only.trans (Only.trans (Only.refl _ _) hxA (fun _ hb_ => .inl hb_)) hn9.ext (fun _ hb_ => by cases hb_)) hp11.only (fun b_ hb_ => .inr (by rw [List.mem_singleton.1 hb_]; exact hxA.size))) hn13.ext (fun _ hb_ => by cases hb_)) hp15.only (fun b_ hb_ => .inr (by rw [List.mem_singleton.1 hb_]; exact me5))) hp17.only (fun b_ hb_ => .inr (by rw [List.mem_singleton.1 hb_]; exact me5))) hp19.only (fun b_ hb_ => .inr (by rw [List.mem_singleton.1 hb_]; exact me5))) hx23 (fun _ hb_ => by cases hb_)) y hge) hmC)) rfl rfl rfl ?_
   rintro v24 h12 ⟨ha25, ha25l⟩
   refine Av ?_
   refine L_nil (X_block (X_then ?_))
   refine W_sub _ (sk1 8 rfl (tk8 26 7 4 3 2 0 25 27)) ?_
   refine W_region ?_
   refine Ly (Y_add rfl rfl (by omega) (by omega)) ?_
   refine Mv ?_
   refine L_nil ?_
   refine X_loop ((i + 1, v24)) (sk1 26 rfl (tk8 7 4 3 2 0 8 25 27)) ?_ ?_
   have hc26 := ((((((((hmL.ext hn9.ext).only hp11.only (ni_lt (Nat.lt_of_lt_of_le hb3.lt (Nat.le_trans hx8.size hxA.size)))).ext hn13.ext).only hp15.only (ni_lt (Nat.lt_of_lt_of_le hb3.lt (Nat.le_trans (Nat.le_trans (Nat.le_trans hx8.size hxA.size) hn9.ext.size) hp11.only.size)))).only hp17.only (ni_lt (Nat.lt_of_lt_of_le hb3.lt (Nat.le_trans (Nat.le_trans (Nat.le_trans hx8.size hxA.size) hn9.ext.size) hp11.only.size)))).only hp19.only (ni_lt (Nat.lt_of_lt_of_le hb3.lt (Nat.le_trans (Nat.le_trans (Nat.le_trans hx8.size hxA.size) hn9.ext.size) hp11.only.size)))).ext hx23).only ha25.only (fun hb_ => Nat.lt_irrefl _ (Nat.lt_of_lt_of_le (Nat.lt_of_lt_of_le hb3.lt hx8.size) (ha25.ge _ hb_))))
   ·exact ⟨by omega, mms_ok hkA (hrC.2 _ (can_mem (by omega))), (Only.trans (Only.trans (Only.trans (Only.trans (Only.trans (Only.trans (Only.trans (Only.trans (Only.trans (Only.refl _ _) hxA (fun _ hb_ => .inl hb_)) hn9.ext (fun _ hb_ => by cases hb_)) hp11.only (fun b_ hb_ => .inr (by rw [List.mem_singleton.1 hb_]; exact hxA.size))) hn13.ext (fun _ hb_ => by cases hb_)) hp15.only (fun b_ hb_ => .inr (by rw [List.mem_singleton.1 hb_]; exact me5))) hp17.only (fun b_ hb_ => .inr (by rw [List.mem_singleton.1 hb_]; exact me5))) hp19.only (fun b_ hb_ => .inr (by rw [List.mem_singleton.1 hb_]; exact me5))) hx23 (fun _ hb_ => by cases hb_)) ha25.only (fun b_ hb_ => .inr (Nat.le_trans (Nat.le_refl _) (ha25.ge b_ hb_)))), rowsO_congr ha25.own (mms_y a).1, MapA.congr hc26 (mms_y a).2⟩
   (try dsimp only)
   omega
  refine Wr ?_
  refine Ly (Y_fieldAddr (off := 0) (by kernel_rfl) rfl rfl) ?_
  refine Ly (Y_ldblk Tryz.underlying3 rfl rfl (hk12.ext (hn13.ext.then' hp15.only (by simp) (Nat.le_refl _))) rfl) ?_
  refine Ly (Y_eql rfl rfl) ?_
  refine Av ?_
  refine Nx ?_
  refine W_sub _ (sk4 65 11 10 26 rfl rfl rfl rfl (tk8 7 4 3 2 0 8 25 27)) ?_
  refine W_splitd rfl (fun b => ?_) (fun b => ?_)
  ·refine W_seq ?_
   refine W_held (fun _ => True) 10 rfl (by kernel_rfl) ?_
   refine LH_take (i := 0) rfl (fun h_ hI_ => Y_fieldAddr (off := 4) (by kernel_rfl) rfl rfl) rfl rfl rfl (by kernel_rfl) (by kernel_rfl) (by kernel_rfl) (fun _ _ _ => by rintro ⟨_, _, h_, _⟩; cases h_) trivial ?_
   refine LH_take (i := 3) rfl (fun h_ hI_ => Y_fieldAddr (off := 4) (by kernel_rfl) rfl rfl) rfl rfl rfl (by kernel_rfl) (by kernel_rfl) (by kernel_rfl) (fun _ _ _ => by rintro ⟨_, _, h_, _⟩; cases h_) trivial ?_
   refine LH_two (i := 1) (j := 4) (by kernel_rfl) ?_ ?_
   ·refine LO_yld (i := 1) rfl (Y_ldblk Tryz.underlying33 rfl rfl (hk12.ext (hn13.ext.then' hp15.only (by simp) (Nat.le_refl _))) rfl) rfl rfl rfl trivial ?_
    refine LH_two (i := 2) (j := 4) (by kernel_rfl) ?_ ?_
    ·have me8 := Nat.le_trans (Nat.le_trans hxA.size hn9.ext.size) hp11.only.size
     refine LO_yld (i := 2) rfl (Y_len Tryz.underlying33 rfl (show Bytes _ ((at_nod L05 ((i : Int)).toNat).dv) ((at_nod L05 ((i : Int)).toNat).data) from (rowsN_onlyM hrC (Only.trans (Only.trans (Only.trans (Only.trans (Only.trans (Only.refl _ _) hxA (fun _ hb_ => .inl hb_)) hn9.ext (fun _ hb_ => by cases hb_)) hp11.only (fun b_ hb_ => .inr (by rw [List.mem_singleton.1 hb_]; exact hxA.size))) hn13.ext (fun _ hb_ => by cases hb_)) hp15.only (fun b_ hb_ => .inr (by rw [List.mem_singleton.1 hb_]; exact me8))) hmC).okat (k := ((i : Int)).toNat) (by omega))) rfl rfl rfl trivial ?_
     refine LH_take (i := 5) rfl (fun h_ hI_ => Y_fieldAddr (off := 0) (by kernel_rfl) rfl rfl) rfl rfl rfl (by kernel_rfl) (by kernel_rfl) (by kernel_rfl) (fun _ _ _ => by rintro ⟨_, _, h_, _⟩; cases h_) trivial ?_
     refine LH_take (i := 6) rfl (fun h_ hI_ => Y_fieldAddr (off := 4) (by kernel_rfl) rfl rfl) rfl rfl rfl (by kernel_rfl) (by kernel_rfl) (by kernel_rfl) (fun _ _ _ => by rintro ⟨_, _, h_, _⟩; cases h_) trivial ?_
     refine LH_two (i := 4) (j := 7) (by kernel_rfl) ?_ ?_
     ·refine LO_yld (i := 4) rfl (Y_ldblk Tryz.underlying33 rfl rfl (hk12.ext (hn13.ext.then' hp15.only (by simp) (Nat.le_refl _))) rfl) rfl rfl rfl trivial ?_
      refine LH_one (i := 7) (by kernel_rfl) ?_
      refine LO_dos (i := 7) rfl (D_store (us := [.int .i64 ((((at_nod L05 ((i : Int)).toNat).data).length : Int))]) (show _ = some 1 by kernel_rfl) rfl rfl rfl (by simp [Value.oneCell']) hk16 (by simp)) rfl rfl ?_
      rintro h13 hp27
      refine ⟨trivial, ?_⟩
      have hk28 : Blk h13 h6.size [.int .i64 ((at_nod L05 ((i : Int)).toNat).kind), str ((at_nod L05 ((i : Int)).toNat).path), .int .i64 ((at_nod L05 ((i : Int)).toNat).mode), str ((at_nod L05 ((i : Int)).toNat).target), .int .i64 ((((at_nod L05 ((i : Int)).toNat).data).length : Int)), .slice none 0 0] := hp27.blk
      refine LH_take (i := 8) rfl (fun h_ hI_ => Y_fieldAddr (off := 5) (by kernel_rfl) rfl rfl) rfl rfl rfl (by kernel_rfl) (by kernel_rfl) (by kernel_rfl) (fun _ _ _ => by rintro ⟨_, _, h_, _⟩; cases h_) trivial ?_
      refine LH_one (i := 9) (by kernel_rfl) ?_
      refine LO_dos (i := 9) rfl (D_store (us := [((at_nod L05 ((i : Int)).toNat).dv)]) (show _ = some 1 by kernel_rfl) rfl rfl (cells_slice (show Bytes _ ((at_nod L05 ((i : Int)).toNat).dv) ((at_nod L05 ((i : Int)).toNat).data) from (rowsN_onlyM hrC (Only.trans (Only.trans (Only.trans (Only.trans (Only.trans (Only.trans (Only.refl _ _) hxA (fun _ hb_ => .inl hb_)) hn9.ext (fun _ hb_ => by cases hb_)) hp11.only (fun b_ hb_ => .inr (by rw [List.mem_singleton.1 hb_]; exact hxA.size))) hn13.ext (fun _ hb_ => by cases hb_)) hp15.only (fun b_ hb_ => .inr (by rw [List.mem_singleton.1 hb_]; exact (Nat.le_trans (Nat.le_trans hxA.size hn9.ext.size) hp11.only.size)))) hp27.only (fun b_ hb_ => .inr (by rw [List.mem_singleton.1 hb_]; exact (Nat.le_trans (Nat.le_trans hxA.size hn9.ext.size) hp11.only.size)))) hmC).okat (k := ((i : Int)).toNat) (by omega))) (by intro u_ hu_; simp only [List.mem_cons, List.not_mem_nil, or_false] at hu_; rcases hu_ with rfl <;> first | rfl | exact ((show Bytes _ ((at_nod L05 ((i : Int)).toNat).dv) ((at_nod L05 ((i : Int)).toNat).data) from (rowsN_onlyM hrC (Only.trans (Only.trans (Only.trans (Only.trans (Only.trans (Only.trans (Only.refl _ _) hxA (fun _ hb_ => .inl hb_)) hn9.ext (fun _ hb_ => by cases hb_)) hp11.only (fun b_ hb_ => .inr (by rw [List.mem_singleton.1 hb_]; exact hxA.size))) hn13.ext (fun _ hb_ => by cases hb_)) hp15.only (fun b_ hb_ => .inr (by rw [List.mem_singleton.1 hb_]; exact (Nat.le_trans (Nat.le_trans hxA.size hn9.ext.size) hp11.only.size)))) hp27.only (fun b_ hb_ => .inr (by rw [List.mem_singleton.1 hb_]; exact (Nat.le_trans (Nat.le_trans hxA.size hn9.ext.size) hp11.only.size)))) hmC).okat (k := ((i : Int)).toNat) (by omega))).cell1) hk28 (by simp)) rfl rfl ?_
      rintro h14 hp29
      refine ⟨trivial, ?_⟩
      have hk30 : Blk h14 h6.size [.int .i64 ((at_nod L05 ((i : Int)).toNat).kind), str ((at_nod L05 ((i : Int)).toNat).path), .int .i64 ((at_nod L05 ((i : Int)).toNat).mode), str ((at_nod L05 ((i : Int)).toNat).target), .int .i64 ((((at_nod L05 ((i : Int)).toNat).data).length : Int)), ((at_nod L05 ((i : Int)).toNat).dv)] := hp29.blk
      refine LH_done (by kernel_rfl) ?_
      refine X_then ?_
      refine W_sub _ (sk3 11 10 26 rfl rfl rfl (tk8 7 4 3 2 0 8 25 27)) ?_
      refine W_region ?_
      refine Mv ?_
      refine Ly (Y_fieldAddr (off := 5) (by kernel_rfl) rfl rfl) ?_
      have me9 := (hn13.ext.then' hp15.only (by simp) (Nat.le_refl _)).then' hp27.only (by simp) (Nat.le_refl _)
      refine Ly (Y_ldblk Tryz.underlying3 rfl rfl (hk12.ext (me9.then' hp29.only (by simp) (Nat.le_refl _))) rfl) ?_
      refine Ly (Y_fieldAddr (off := 1) (by kernel_rfl) rfl rfl) ?_
      refine Ly (Y_ldblk Tryz.underlying9 rfl rfl (hk12.ext (me9.then' hp29.only (by simp) (Nat.le_refl _))) rfl) ?_
      have me10 := me2.then' hp27.only (by simp) (Nat.le_trans hn9.ext.size hp11.only.size)
      have me11 := me10.then' hp29.only (by simp) (Nat.le_trans hn9.ext.size hp11.only.size)
      refine L_dos (D_updA (evl := (fun l : List UInt8 => str l)) (k := (at_nod L05 ((i : Int)).toNat).cls) (v := (at_nod L05 ((i : Int)).toNat).path) keyI Tryz.underlying53 Tryz.underlying3 rfl rfl rfl (hmL.ext me11)) rfl rfl ?_
      rintro h15 ⟨hx31, -, hb32⟩
      refine L_nil (X_block (X_then ?_))
      refine W_sub _ (sk2 11 26 rfl rfl (tk8 7 4 3 2 0 8 25 27)) ?_
      refine W_region ?_
      refine Mv ?_
      have me12 := Nat.le_trans (Nat.le_trans hx8.size hxA.size) hn9.ext.size
      have hc33 := (hk30.only hx31 (ni_gt (Nat.lt_of_lt_of_le hb3.lt (Nat.le_trans me12 hp11.only.size))))
      refine Ly (Y_ldbox (us := [.int .i64 ((at_nod L05 ((i : Int)).toNat).kind), str ((at_nod L05 ((i : Int)).toNat).path), .int .i64 ((at_nod L05 ((i : Int)).toNat).mode), str ((at_nod L05 ((i : Int)).toNat).target), .int .i64 ((((at_nod L05 ((i : Int)).toNat).data).length : Int)), ((at_nod L05 ((i : Int)).toNat).dv)]) Tryz.underlying35 rfl (show _ = some 6 by kernel_rfl) rfl hc33 rfl) ?_
      refine L_mks (M_litr (S := memS) (l := ([⟨(at_nod L05 ((i : Int)).toNat).kind, (at_nod L05 ((i : Int)).toNat).path, (at_nod L05 ((i : Int)).toNat).mode, (at_nod L05 ((i : Int)).toNat).target, (((at_nod L05 ((i : Int)).toNat).data).length : Int), ((at_nod L05 ((i : Int)).toNat).dv), (at_nod L05 ((i : Int)).toNat).data⟩] : List Mem)) (cells := [.int .i64 ((at_nod L05 ((i : Int)).toNat).kind), str ((at_nod L05 ((i : Int)).toNat).path), .int .i64 ((at_nod L05 ((i : Int)).toNat).mode), str ((at_nod L05 ((i : Int)).toNat).target), .int .i64 ((((at_nod L05 ((i : Int)).toNat).data).length : Int)), ((at_nod L05 ((i : Int)).toNat).dv)]) (pv := [(0, .agg #[.int .i64 ((at_nod L05 ((i : Int)).toNat).kind), str ((at_nod L05 ((i : Int)).toNat).path), .int .i64 ((at_nod L05 ((i : Int)).toNat).mode), str ((at_nod L05 ((i : Int)).toNat).target), .int .i64 ((((at_nod L05 ((i : Int)).toNat).data).length : Int)), ((at_nod L05 ((i : Int)).toNat).dv)])]) (E := 35) (evp (is := [0]) (os := [.tmp 83]) (vs := [.agg #[.int .i64 ((at_nod L05 ((i : Int)).toNat).kind), str ((at_nod L05 ((i : Int)).toNat).path), .int .i64 ((at_nod L05 ((i : Int)).toNat).mode), str ((at_nod L05 ((i : Int)).toNat).target), .int .i64 ((((at_nod L05 ((i : Int)).toNat).data).length : Int)), ((at_nod L05 ((i : Int)).toNat).dv)]]) rfl rfl) rfl rfl (fun _ => by kernel_rfl) (by simp only [List.mem_cons, List.not_mem_nil, or_false, forall_eq_or_imp, forall_eq]; exact (show Bytes _ ((at_nod L05 ((i : Int)).toNat).dv) ((at_nod L05 ((i : Int)).toNat).data) from (rowsN_onlyM hrC (Only.trans (Only.trans (Only.trans (Only.trans (Only.trans (Only.trans (Only.trans (Only.trans (Only.refl _ _) hxA (fun _ hb_ => .inl hb_)) hn9.ext (fun _ hb_ => by cases hb_)) hp11.only (fun b_ hb_ => .inr (by rw [List.mem_singleton.1 hb_]; exact hxA.size))) hn13.ext (fun _ hb_ => by cases hb_)) hp15.only (fun b_ hb_ => .inr (by rw [List.mem_singleton.1 hb_]; exact me8))) hp27.only (fun b_ hb_ => .inr (by rw [List.mem_singleton.1 hb_]; exact me8))) hp29.only (fun b_ hb_ => .inr (by rw [List.mem_singleton.1 hb_]; exact me8))) hx31 (fun _ hb_ => .inl hb_)) hmC).okat (k := ((i : Int)).toNat) (by omega)))) rfl rfl rfl ?_
      rintro v34 h16 ⟨ho35, hx36⟩
      have me13 := Nat.le_trans (Nat.le_trans me8 hn13.ext.size) hp15.only.size
      have me14 := Nat.le_trans (Nat.le_trans me13 hp27.only.size) hp29.only.size
      refine L_mks (M_apprG (z := 6) (bytes := 80) (z0 := (.agg #[.int .i64 0, str [], .int .i64 0, str [], .int .i64 0, .slice none 0 0])) Tryz.underlying25 (by unfold elemRow; kernel_rfl) rfl rfl (by decide) rfl rfl ((rowsO_onlyM (hoA.ext me11) hx31 (Nat.lt_of_lt_of_le hb3.lt hx8.size) (hmL.ext me11)).ext hx36) ho35.rows (Nat.le_trans (Nat.le_trans me14 hx31.size) hx36.size) (by first | (simp; omega) | (simp; done) | omega) (fun h' y hge x hx => okM_onlyM ((List.mem_append.1 hx).elim (hkA x) (fun q => by rw [List.mem_singleton.1 q]; exact hrC.2 _ (can_mem (k := i) (by omega)))) (only_app (Only.trans (Only.trans (Only.trans (Only.trans (Only.trans (Only.trans (Only.trans (Only.trans (Only.trans (Only.refl _ _) hxA (fun _ hb_ => .inl hb_)) hn9.ext (fun _ hb_ => by cases hb_)) hp11.only (fun b_ hb_ => .inr (by rw [List.mem_singleton.1 hb_]; exact hxA.size))) hn13.ext (fun _ hb_ => by cases hb_)) hp15.only (fun b_ hb_ => .inr (by rw [List.mem_singleton.1 hb_]; exact me8))) hp27.only (fun b_ hb_ => .inr (by rw [List.mem_singleton.1 hb_]; exact me8))) hp29.only (fun b_ hb_ => .inr (by rw [List.mem_singleton.1 hb_]; exact me8))) hx31 (fun _ hb_ => .inl hb_)) hx36 (fun _ hb_ => by cases hb_)) y hge) hmC)) rfl rfl rfl ?_
      rintro v37 h17 ⟨ha38, ha38l⟩
      refine Av ?_
      refine L_nil (X_block (X_then ?_))
      refine W_sub _ (sk1 8 rfl (tk8 26 7 4 3 2 0 25 27)) ?_
      refine W_region ?_
      refine Ly (Y_add rfl rfl (by omega) (by omega)) ?_
      refine Mv ?_
      refine L_nil ?_
      refine X_loop ((i + 1, v37)) (sk1 26 rfl (tk8 7 4 3 2 0 8 25 27)) ?_ ?_
      have hc39 := ((hb32.ext hx36).only ha38.only (fun hb_ => Nat.lt_irrefl _ (Nat.lt_of_lt_of_le (Nat.lt_of_lt_of_le hb3.lt hx8.size) (ha38.ge _ hb_))))
      ·exact ⟨by omega, mms_ok hkA (hrC.2 _ (can_mem (by omega))), (Only.trans (Only.trans (Only.trans (Only.trans (Only.trans (Only.trans (Only.trans (Only.trans (Only.trans (Only.trans (Only.refl _ _) hxA (fun _ hb_ => .inl hb_)) hn9.ext (fun _ hb_ => by cases hb_)) hp11.only (fun b_ hb_ => .inr (by rw [List.mem_singleton.1 hb_]; exact hxA.size))) hn13.ext (fun _ hb_ => by cases hb_)) hp15.only (fun b_ hb_ => .inr (by rw [List.mem_singleton.1 hb_]; exact me8))) hp27.only (fun b_ hb_ => .inr (by rw [List.mem_singleton.1 hb_]; exact me8))) hp29.only (fun b_ hb_ => .inr (by rw [List.mem_singleton.1 hb_]; exact me8))) hx31 (fun _ hb_ => .inl hb_)) hx36 (fun _ hb_ => by cases hb_)) ha38.only (fun b_ hb_ => .inr (Nat.le_trans (Nat.le_refl _) (ha38.ge b_ hb_)))), rowsO_congr ha38.own (mms_f a b).1, MapA.congr hc39 (mms_f a b).2⟩
      (try dsimp only)
      omega
     refine LO_dos (i := 7) rfl (D_store (us := [.int .i64 ((((at_nod L05 ((i : Int)).toNat).data).length : Int))]) (show _ = some 1 by kernel_rfl) rfl rfl rfl (by simp [Value.oneCell']) hk16 (by simp)) rfl rfl ?_
     rintro h18 hp40
     refine ⟨trivial, ?_⟩
     have hk41 : Blk h18 h6.size [.int .i64 ((at_nod L05 ((i : Int)).toNat).kind), str ((at_nod L05 ((i : Int)).toNat).path), .int .i64 ((at_nod L05 ((i : Int)).toNat).mode), str ((at_nod L05 ((i : Int)).toNat).target), .int .i64 ((((at_nod L05 ((i : Int)).toNat).data).length : Int)), .slice none 0 0] := hp40.blk
     refine LH_one (i := 4) (by kernel_rfl) ?_
     have me15 := (hn13.ext.then' hp15.only (by simp) (Nat.le_refl _)).then' hp40.only (by simp) (Nat.le_refl _)
     refine LO_yld (i := 4) rfl (Y_ldblk Tryz.underlying33 rfl rfl (hk12.ext me15) rfl) rfl rfl rfl trivial ?_
     refine LH_take (i := 8) rfl (fun h_ hI_ => Y_fieldAddr (off := 5) (by kernel_rfl) rfl rfl) rfl rfl rfl (by kernel_rfl) (by kernel_rfl) (by kernel_rfl) (fun _ _ _ => by rintro ⟨_, _, h_, _⟩; cases h_) trivial ?_
     refine LH_one (i := 9) (by kernel_rfl) ?_
     refine LO_dos (i := 9) rfl (D_store (us := [((at_nod L05 ((i : Int)).toNat).dv)]) (show _ = some 1 by kernel_rfl) rfl rfl (cells_slice (show Bytes _ ((at_nod L05 ((i : Int)).toNat).dv) ((at_nod L05 ((i : Int)).toNat).data) from (rowsN_onlyM hrC (Only.trans (Only.trans (Only.trans (Only.trans (Only.trans (Only.trans (Only.refl _ _) hxA (fun _ hb_ => .inl hb_)) hn9.ext (fun _ hb_ => by cases hb_)) hp11.only (fun b_ hb_ => .inr (by rw [List.mem_singleton.1 hb_]; exact hxA.size))) hn13.ext (fun _ hb_ => by cases hb_)) hp15.only (fun b_ hb_ => .inr (by rw [List.mem_singleton.1 hb_]; exact (Nat.le_trans (Nat.le_trans hxA.size hn9.ext.size) hp11.only.size)))) hp40.only (fun b_ hb_ => .inr (by rw [List.mem_singleton.1 hb_]; exact (Nat.le_trans (Nat.le_trans hxA.size hn9.ext.size) hp11.only.size)))) hmC).okat (k := ((i : Int)).toNat) (by omega))) (by intro u_ hu_; simp only [List.mem_cons, List.not_mem_nil, or_false] at hu_; rcases hu_ with rfl <;> first | rfl | exact ((show Bytes _ ((at_nod L05 ((i : Int)).toNat).dv) ((at_nod L05 ((i : Int)).toNat).data) from (rowsN_onlyM hrC (Only.trans (Only.trans (Only.trans (Only.trans (Only.trans (Only.trans (Only.refl _ _) hxA (fun _ hb_ => .inl hb_)) hn9.ext (fun _ hb_ => by cases hb_)) hp11.only (fun b_ hb_ => .inr (by rw [List.mem_singleton.1 hb_]; exact hxA.size))) hn13.ext (fun _ hb_ => by cases hb_)) hp15.only (fun b_ hb_ => .inr (by rw [List.mem_singleton.1 hb_]; exact (Nat.le_trans (Nat.le_trans hxA.size hn9.ext.size) hp11.only.size)))) hp40.only (fun b_ hb_ => .inr (by rw [List.mem_singleton.1 hb_]; exact (Nat.le_trans (Nat.le_trans hxA.size hn9.ext.size) hp11.only.size)))) hmC).okat (k := ((i : Int)).toNat) (by omega))).cell1) hk41 (by simp)) rfl rfl ?_
     rintro h19 hp42
     refine ⟨trivial, ?_⟩
     have hk43 : Blk h19 h6.size [.int .i64 ((at_nod L05 ((i : Int)).toNat).kind), str ((at_nod L05 ((i : Int)).toNat).path), .int .i64 ((at_nod L05 ((i : Int)).toNat).mode), str ((at_nod L05 ((i : Int)).toNat).target), .int .i64 ((((at_nod L05 ((i : Int)).toNat).data).length : Int)), ((at_nod L05 ((i : Int)).toNat).dv)] := hp42.blk
     refine LH_done (by kernel_rfl) ?_
     refine X_then ?_
     refine W_sub _ (sk3 11 10 26 rfl rfl rfl (tk8 7 4 3 2 0 8 25 27)) ?_
     refine W_region ?_
     refine Mv ?_
     refine Ly (Y_fieldAddr (off := 5) (by kernel_rfl) rfl rfl) ?_
     refine Ly (Y_ldblk Tryz.underlying3 rfl rfl (hk12.ext (me15.then' hp42.only (by simp) (Nat.le_refl _))) rfl) ?_
     refine Ly (Y_fieldAddr (off := 1) (by kernel_rfl) rfl rfl) ?_
     refine Ly (Y_ldblk Tryz.underlying9 rfl rfl (hk12.ext (me15.then' hp42.only (by simp) (Nat.le_refl _))) rfl) ?_
     have me16 := me2.then' hp40.only (by simp) (Nat.le_trans hn9.ext.size hp11.only.size)
     have me17 := me16.then' hp42.only (by simp) (Nat.le_trans hn9.ext.size hp11.only.size)
     refine L_dos (D_updA (evl := (fun l : List UInt8 => str l)) (k := (at_nod L05 ((i : Int)).toNat).cls) (v := (at_nod L05 ((i : Int)).toNat).path) keyI Tryz.underlying53 Tryz.underlying3 rfl rfl rfl (hmL.ext me17)) rfl rfl ?_
     rintro h20 ⟨hx44, -, hb45⟩
     refine L_nil (X_block (X_then ?_))
     refine W_sub _ (sk2 11 26 rfl rfl (tk8 7 4 3 2 0 8 25 27)) ?_
     refine W_region ?_
     refine Mv ?_
     have me18 := Nat.le_trans (Nat.le_trans hx8.size hxA.size) hn9.ext.size
     have hc46 := (hk43.only hx44 (ni_gt (Nat.lt_of_lt_of_le hb3.lt (Nat.le_trans me18 hp11.only.size))))
     refine Ly (Y_ldbox (us := [.int .i64 ((at_nod L05 ((i : Int)).toNat).kind), str ((at_nod L05 ((i : Int)).toNat).path), .int .i64 ((at_nod L05 ((i : Int)).toNat).mode), str ((at_nod L05 ((i : Int)).toNat).target), .int .i64 ((((at_nod L05 ((i : Int)).toNat).data).length : Int)), ((at_nod L05 ((i : Int)).toNat).dv)]) Tryz.underlying35 rfl (show _ = some 6 by kernel_rfl) rfl hc46 rfl) ?_
     refine L_mks (M_litr (S := memS) (l := ([⟨(at_nod L05 ((i : Int)).toNat).kind, (at_nod L05 ((i : Int)).toNat).path, (at_nod L05 ((i : Int)).toNat).mode, (at_nod L05 ((i : Int)).toNat).target, (((at_nod L05 ((i : Int)).toNat).data).length : Int), ((at_nod L05 ((i : Int)).toNat).dv), (at_nod L05 ((i : Int)).toNat).data⟩] : List Mem)) (cells := [.int .i64 ((at_nod L05 ((i : Int)).toNat).kind), str ((at_nod L05 ((i : Int)).toNat).path), .int .i64 ((at_nod L05 ((i : Int)).toNat).mode), str ((at_nod L05 ((i : Int)).toNat).target), .int .i64 ((((at_nod L05 ((i : Int)).toNat).data).length : Int)), ((at_nod L05 ((i : Int)).toNat).dv)]) (pv := [(0, .agg #[.int .i64 ((at_nod L05 ((i : Int)).toNat).kind), str ((at_nod L05 ((i : Int)).toNat).path), .int .i64 ((at_nod L05 ((i : Int)).toNat).mode), str ((at_nod L05 ((i : Int)).toNat).target), .int .i64 ((((at_nod L05 ((i : Int)).toNat).data).length : Int)), ((at_nod L05 ((i : Int)).toNat).dv)])]) (E := 35) (evp (is := [0]) (os := [.tmp 83]) (vs := [.agg #[.int .i64 ((at_nod L05 ((i : Int)).toNat).kind), str ((at_nod L05 ((i : Int)).toNat).path), .int .i64 ((at_nod L05 ((i : Int)).toNat).mode), str ((at_nod L05 ((i : Int)).toNat).target), .int .i64 ((((at_nod L05 ((i : Int)).toNat).data).length : Int)), ((at_nod L05 ((i : Int)).toNat).dv)]]) rfl rfl) rfl rfl (fun _ => by kernel_rfl) (by simp only [List.mem_cons, List.not_mem_nil, or_false, forall_eq_or_imp, forall_eq]; exact (show Bytes _ ((at_nod L05 ((i : Int)).toNat).dv) ((at_nod L05 ((i : Int)).toNat).data) from (rowsN_onlyM hrC (Only.trans (Only.trans (Only.trans (Only.trans (Only.trans (Only.trans (Only.trans (Only.trans (Only.refl _ _) hxA (fun _ hb_ => .inl hb_)) hn9.ext (fun _ hb_ => by cases hb_)) hp11.only (fun b_ hb_ => .inr (by rw [List.mem_singleton.1 hb_]; exact hxA.size))) hn13.ext (fun _ hb_ => by cases hb_)) hp15.only (fun b_ hb_ => .inr (by rw [List.mem_singleton.1 hb_]; exact me8))) hp40.only (fun b_ hb_ => .inr (by rw [List.mem_singleton.1 hb_]; exact me8))) hp42.only (fun b_ hb_ => .inr (by rw [List.mem_singleton.1 hb_]; exact me8))) hx44 (fun _ hb_ => .inl hb_)) hmC).okat (k := ((i : Int)).toNat) (by omega)))) rfl rfl rfl ?_
     rintro v47 h21 ⟨ho48, hx49⟩
     have me19 := Nat.le_trans (Nat.le_trans me8 hn13.ext.size) hp15.only.size
     have me20 := Nat.le_trans (Nat.le_trans me19 hp40.only.size) hp42.only.size
     refine L_mks (M_apprG (z := 6) (bytes := 80) (z0 := (.agg #[.int .i64 0, str [], .int .i64 0, str [], .int .i64 0, .slice none 0 0])) Tryz.underlying25 (by unfold elemRow; kernel_rfl) rfl rfl (by decide) rfl rfl ((rowsO_onlyM (hoA.ext me17) hx44 (Nat.lt_of_lt_of_le hb3.lt hx8.size) (hmL.ext me17)).ext hx49) ho48.rows (Nat.le_trans (Nat.le_trans me20 hx44.size) hx49.size) (by first | (simp; omega) | (simp; done) | omega) (fun h' y hge x hx => okM_onlyM ((List.mem_append.1 hx).elim (hkA x) (fun q => by rw [List.mem_singleton.1 q]; exact hrC.2 _ (can_mem (k := i) (by omega)))) (only_app (Only.trans (Only.trans (Only.trans (Only.trans (Only.trans (Only.trans (Only.trans (Only.trans (Only.trans (Only.refl _ _) hxA (fun _ hb_ => .inl hb_)) hn9.ext (fun _ hb_ => by cases hb_)) hp11.only (fun b_ hb_ => .inr (by rw [List.mem_singleton.1 hb_]; exact hxA.size))) hn13.ext (fun _ hb_ => by cases hb_)) hp15.only (fun b_ hb_ => .inr (by rw [List.mem_singleton.1 hb_]; exact me8))) hp40.only (fun b_ hb_ => .inr (by rw [List.mem_singleton.1 hb_]; exact me8))) hp42.only (fun b_ hb_ => .inr (by rw [List.mem_singleton.1 hb_]; exact me8))) hx44 (fun _ hb_ => .inl hb_)) hx49 (fun _ hb_ => by cases hb_)) y hge) hmC)) rfl rfl rfl ?_
     rintro v50 h22 ⟨ha51, ha51l⟩
     refine Av ?_
     refine L_nil (X_block (X_then ?_))
     refine W_sub _ (sk1 8 rfl (tk8 26 7 4 3 2 0 25 27)) ?_
     refine W_region ?_
     refine Ly (Y_add rfl rfl (by omega) (by omega)) ?_
     refine Mv ?_
     refine L_nil ?_
     refine X_loop ((i + 1, v50)) (sk1 26 rfl (tk8 7 4 3 2 0 8 25 27)) ?_ ?_
     have hc52 := ((hb45.ext hx49).only ha51.only (fun hb_ => Nat.lt_irrefl _ (Nat.lt_of_lt_of_le (Nat.lt_of_lt_of_le hb3.lt hx8.size) (ha51.ge _ hb_))))
     ·exact ⟨by omega, mms_ok hkA (hrC.2 _ (can_mem (by omega))), (Only.trans (Only.trans (Only.trans (Only.trans (Only.trans (Only.trans (Only.trans (Only.trans (Only.trans (Only.trans (Only.refl _ _) hxA (fun _ hb_ => .inl hb_)) hn9.ext (fun _ hb_ => by cases hb_)) hp11.only (fun b_ hb_ => .inr (by rw [List.mem_singleton.1 hb_]; exact hxA.size))) hn13.ext (fun _ hb_ => by cases hb_)) hp15.only (fun b_ hb_ => .inr (by rw [List.mem_singleton.1 hb_]; exact me8))) hp40.only (fun b_ hb_ => .inr (by rw [List.mem_singleton.1 hb_]; exact me8))) hp42.only (fun b_ hb_ => .inr (by rw [List.mem_singleton.1 hb_]; exact me8))) hx44 (fun _ hb_ => .inl hb_)) hx49 (fun _ hb_ => by cases hb_)) ha51.only (fun b_ hb_ => .inr (Nat.le_trans (Nat.le_refl _) (ha51.ge b_ hb_)))), rowsO_congr ha51.own (mms_f a b).1, MapA.congr hc52 (mms_f a b).2⟩
     (try dsimp only)
     omega
    refine LO_yld (i := 4) rfl (Y_ldblk Tryz.underlying33 rfl rfl (hk12.ext (hn13.ext.then' hp15.only (by simp) (Nat.le_refl _))) rfl) rfl rfl rfl trivial ?_
    refine LH_one (i := 2) (by kernel_rfl) ?_
    have me21 := Nat.le_trans (Nat.le_trans hxA.size hn9.ext.size) hp11.only.size
    refine LO_yld (i := 2) rfl (Y_len Tryz.underlying33 rfl (show Bytes _ ((at_nod L05 ((i : Int)).toNat).dv) ((at_nod L05 ((i : Int)).toNat).data) from (rowsN_onlyM hrC (Only.trans (Only.trans (Only.trans (Only.trans (Only.trans (Only.refl _ _) hxA (fun _ hb_ => .inl hb_)) hn9.ext (fun _ hb_ => by cases hb_)) hp11.only (fun b_ hb_ => .inr (by rw [List.mem_singleton.1 hb_]; exact hxA.size))) hn13.ext (fun _ hb_ => by cases hb_)) hp15.only (fun b_ hb_ => .inr (by rw [List.mem_singleton.1 hb_]; exact me21))) hmC).okat (k := ((i : Int)).toNat) (by omega))) rfl rfl rfl trivial ?_
    refine LH_take (i := 5) rfl (fun h_ hI_ => Y_fieldAddr (off := 0) (by kernel_rfl) rfl rfl) rfl rfl rfl (by kernel_rfl) (by kernel_rfl) (by kernel_rfl) (fun _ _ _ => by rintro ⟨_, _, h_, _⟩; cases h_) trivial ?_
    refine LH_take (i := 6) rfl (fun h_ hI_ => Y_fieldAddr (off := 4) (by kernel_rfl) rfl rfl) rfl rfl rfl (by kernel_rfl) (by kernel_rfl) (by kernel_rfl) (fun _ _ _ => by rintro ⟨_, _, h_, _⟩; cases h_) trivial ?_
    refine LH_one (i := 7) (by kernel_rfl) ?_
    refine LO_dos (i := 7) rfl (D_store (us := [.int .i64 ((((at_nod L05 ((i : Int)).toNat).data).length : Int))]) (show _ = some 1 by kernel_rfl) rfl rfl rfl (by simp [Value.oneCell']) hk16 (by simp)) rfl rfl ?_
    rintro h23 hp53
    refine ⟨trivial, ?_⟩
    have hk54 : Blk h23 h6.size [.int .i64 ((at_nod L05 ((i : Int)).toNat).kind), str ((at_nod L05 ((i : Int)).toNat).path), .int .i64 ((at_nod L05 ((i : Int)).toNat).mode), str ((at_nod L05 ((i : Int)).toNat).target), .int .i64 ((((at_nod L05 ((i : Int)).toNat).data).length : Int)), .slice none 0 0] := hp53.blk
    refine LH_take (i := 8) rfl (fun h_ hI_ => Y_fieldAddr (off := 5) (by kernel_rfl) rfl rfl) rfl rfl rfl (by kernel_rfl) (by kernel_rfl) (by kernel_rfl) (fun _ _ _ => by rintro ⟨_, _, h_, _⟩; cases h_) trivial ?_
    refine LH_one (i := 9) (by kernel_rfl) ?_
    refine LO_dos (i := 9) rfl (D_store (us := [((at_nod L05 ((i : Int)).toNat).dv)]) (show _ = some 1 by kernel_rfl) rfl rfl (cells_slice (show Bytes _ ((at_nod L05 ((i : Int)).toNat).dv) ((at_nod L05 ((i : Int)).toNat).data) from (rowsN_onlyM hrC (Only.trans (Only.trans (Only.trans (Only.trans (Only.trans (Only.trans (Only.refl _ _) hxA (fun _ hb_ => .inl hb_)) hn9.ext (fun _ hb_ => by cases hb_)) hp11.only (fun b_ hb_ => .inr (by rw [List.mem_singleton.1 hb_]; exact hxA.size))) hn13.ext (fun _ hb_ => by cases hb_)) hp15.only (fun b_ hb_ => .inr (by rw [List.mem_singleton.1 hb_]; exact (Nat.le_trans (Nat.le_trans hxA.size hn9.ext.size) hp11.only.size)))) hp53.only (fun b_ hb_ => .inr (by rw [List.mem_singleton.1 hb_]; exact (Nat.le_trans (Nat.le_trans hxA.size hn9.ext.size) hp11.only.size)))) hmC).okat (k := ((i : Int)).toNat) (by omega))) (by intro u_ hu_; simp only [List.mem_cons, List.not_mem_nil, or_false] at hu_; rcases hu_ with rfl <;> first | rfl | exact ((show Bytes _ ((at_nod L05 ((i : Int)).toNat).dv) ((at_nod L05 ((i : Int)).toNat).data) from (rowsN_onlyM hrC (Only.trans (Only.trans (Only.trans (Only.trans (Only.trans (Only.trans (Only.refl _ _) hxA (fun _ hb_ => .inl hb_)) hn9.ext (fun _ hb_ => by cases hb_)) hp11.only (fun b_ hb_ => .inr (by rw [List.mem_singleton.1 hb_]; exact hxA.size))) hn13.ext (fun _ hb_ => by cases hb_)) hp15.only (fun b_ hb_ => .inr (by rw [List.mem_singleton.1 hb_]; exact (Nat.le_trans (Nat.le_trans hxA.size hn9.ext.size) hp11.only.size)))) hp53.only (fun b_ hb_ => .inr (by rw [List.mem_singleton.1 hb_]; exact (Nat.le_trans (Nat.le_trans hxA.size hn9.ext.size) hp11.only.size)))) hmC).okat (k := ((i : Int)).toNat) (by omega))).cell1) hk54 (by simp)) rfl rfl ?_
    rintro h24 hp55
    refine ⟨trivial, ?_⟩
    have hk56 : Blk h24 h6.size [.int .i64 ((at_nod L05 ((i : Int)).toNat).kind), str ((at_nod L05 ((i : Int)).toNat).path), .int .i64 ((at_nod L05 ((i : Int)).toNat).mode), str ((at_nod L05 ((i : Int)).toNat).target), .int .i64 ((((at_nod L05 ((i : Int)).toNat).data).length : Int)), ((at_nod L05 ((i : Int)).toNat).dv)] := hp55.blk
    refine LH_done (by kernel_rfl) ?_
    refine X_then ?_
    refine W_sub _ (sk3 11 10 26 rfl rfl rfl (tk8 7 4 3 2 0 8 25 27)) ?_
    refine W_region ?_
    refine Mv ?_
    refine Ly (Y_fieldAddr (off := 5) (by kernel_rfl) rfl rfl) ?_
    have me22 := (hn13.ext.then' hp15.only (by simp) (Nat.le_refl _)).then' hp53.only (by simp) (Nat.le_refl _)
    refine Ly (Y_ldblk Tryz.underlying3 rfl rfl (hk12.ext (me22.then' hp55.only (by simp) (Nat.le_refl _))) rfl) ?_
    refine Ly (Y_fieldAddr (off := 1) (by kernel_rfl) rfl rfl) ?_
    refine Ly (Y_ldblk Tryz.underlying9 rfl rfl (hk12.ext (me22.then' hp55.only (by simp) (Nat.le_refl _))) rfl) ?_
    have me23 := me2.then' hp53.only (by simp) (Nat.le_trans hn9.ext.size hp11.only.size)
    have me24 := me23.then' hp55.only (by simp) (Nat.le_trans hn9.ext.size hp11.only.size)
    refine L_dos (D_updA (evl := (fun l : List UInt8 => str l)) (k := (at_nod L05 ((i : Int)).toNat).cls) (v := (at_nod L05 ((i : Int)).toNat).path) keyI Tryz.underlying53 Tryz.underlying3 rfl rfl rfl (hmL.ext me24)) rfl rfl ?_
    rintro h25 ⟨hx57, -, hb58⟩
    refine L_nil (X_block (X_then ?_))
    refine W_sub _ (sk2 11 26 rfl rfl (tk8 7 4 3 2 0 8 25 27)) ?_
    refine W_region ?_
    refine Mv ?_
    have me25 := Nat.le_trans (Nat.le_trans hx8.size hxA.size) hn9.ext.size
    have hc59 := (hk56.only hx57 (ni_gt (Nat.lt_of_lt_of_le hb3.lt (Nat.le_trans me25 hp11.only.size))))
    refine Ly (Y_ldbox (us := [.int .i64 ((at_nod L05 ((i : Int)).toNat).kind), str ((at_nod L05 ((i : Int)).toNat).path), .int .i64 ((at_nod L05 ((i : Int)).toNat).mode), str ((at_nod L05 ((i : Int)).toNat).target), .int .i64 ((((at_nod L05 ((i : Int)).toNat).data).length : Int)), ((at_nod L05 ((i : Int)).toNat).dv)]) Tryz.underlying35 rfl (show _ = some 6 by kernel_rfl) rfl hc59 rfl) ?_
    refine L_mks (M_litr (S := memS) (l := ([⟨(at_nod L05 ((i : Int)).toNat).kind, (at_nod L05 ((i : Int)).toNat).path, (at_nod L05 ((i : Int)).toNat).mode, (at_nod L05 ((i : Int)).toNat).target, (((at_nod L05 ((i : Int)).toNat).data).length : Int), ((at_nod L05 ((i : Int)).toNat).dv), (at_nod L05 ((i : Int)).toNat).data⟩] : List Mem)) (cells := [.int .i64 ((at_nod L05 ((i : Int)).toNat).kind), str ((at_nod L05 ((i : Int)).toNat).path), .int .i64 ((at_nod L05 ((i : Int)).toNat).mode), str ((at_nod L05 ((i : Int)).toNat).target), .int .i64 ((((at_nod L05 ((i : Int)).toNat).data).length : Int)), ((at_nod L05 ((i : Int)).toNat).dv)]) (pv := [(0, .agg #[.int .i64 ((at_nod L05 ((i : Int)).toNat).kind), str ((at_nod L05 ((i : Int)).toNat).path), .int .i64 ((at_nod L05 ((i : Int)).toNat).mode), str ((at_nod L05 ((i : Int)).toNat).target), .int .i64 ((((at_nod L05 ((i : Int)).toNat).data).length : Int)), ((at_nod L05 ((i : Int)).toNat).dv)])]) (E := 35) (evp (is := [0]) (os := [.tmp 83]) (vs := [.agg #[.int .i64 ((at_nod L05 ((i : Int)).toNat).kind), str ((at_nod L05 ((i : Int)).toNat).path), .int .i64 ((at_nod L05 ((i : Int)).toNat).mode), str ((at_nod L05 ((i : Int)).toNat).target), .int .i64 ((((at_nod L05 ((i : Int)).toNat).data).length : Int)), ((at_nod L05 ((i : Int)).toNat).dv)]]) rfl rfl) rfl rfl (fun _ => by kernel_rfl) (by simp only [List.mem_cons, List.not_mem_nil, or_false, forall_eq_or_imp, forall_eq]; exact (show Bytes _ ((at_nod L05 ((i : Int)).toNat).dv) ((at_nod L05 ((i : Int)).toNat).data) from (rowsN_onlyM hrC (Only.trans (Only.trans (Only.trans (Only.trans (Only.trans (Only.trans (Only.trans (Only.trans (Only.refl _ _) hxA (fun _ hb_ => .inl hb_)) hn9.ext (fun _ hb_ => by cases hb_)) hp11.only (fun b_ hb_ => .inr (by rw [List.mem_singleton.1 hb_]; exact hxA.size))) hn13.ext (fun _ hb_ => by cases hb_)) hp15.only (fun b_ hb_ => .inr (by rw [List.mem_singleton.1 hb_]; exact me21))) hp53.only (fun b_ hb_ => .inr (by rw [List.mem_singleton.1 hb_]; exact me21))) hp55.only (fun b_ hb_ => .inr (by rw [List.mem_singleton.1 hb_]; exact me21))) hx57 (fun _ hb_ => .inl hb_)) hmC).okat (k := ((i : Int)).toNat) (by omega)))) rfl rfl rfl ?_
    rintro v60 h26 ⟨ho61, hx62⟩
    have me26 := Nat.le_trans (Nat.le_trans me21 hn13.ext.size) hp15.only.size
    have me27 := Nat.le_trans (Nat.le_trans me26 hp53.only.size) hp55.only.size
    refine L_mks (M_apprG (z := 6) (bytes := 80) (z0 := (.agg #[.int .i64 0, str [], .int .i64 0, str [], .int .i64 0, .slice none 0 0])) Tryz.underlying25 (by unfold elemRow; kernel_rfl) rfl rfl (by decide) rfl rfl ((rowsO_onlyM (hoA.ext me24) hx57 (Nat.lt_of_lt_of_le hb3.lt hx8.size) (hmL.ext me24)).ext hx62) ho61.rows (Nat.le_trans (Nat.le_trans me27 hx57.size) hx62.size) (by first | (simp; omega) | (simp; done) | omega) (fun h' y hge x hx => okM_onlyM ((List.mem_append.1 hx).elim (hkA x) (fun q => by rw [List.mem_singleton.1 q]; exact hrC.2 _ (can_mem (k := i) (by omega)))) (only_app (Only.trans (Only.trans (Only.trans (Only.trans (Only.trans (Only.trans (Only.trans (Only.trans (Only.trans (Only.refl _ _) hxA (fun _ hb_ => .inl hb_)) hn9.ext (fun _ hb_ => by cases hb_)) hp11.only (fun b_ hb_ => .inr (by rw [List.mem_singleton.1 hb_]; exact hxA.size))) hn13.ext (fun _ hb_ => by cases hb_)) hp15.only (fun b_ hb_ => .inr (by rw [List.mem_singleton.1 hb_]; exact me21))) hp53.only (fun b_ hb_ => .inr (by rw [List.mem_singleton.1 hb_]; exact me21))) hp55.only (fun b_ hb_ => .inr (by rw [List.mem_singleton.1 hb_]; exact me21))) hx57 (fun _ hb_ => .inl hb_)) hx62 (fun _ hb_ => by cases hb_)) y hge) hmC)) rfl rfl rfl ?_
    rintro v63 h27 ⟨ha64, ha64l⟩
    refine Av ?_
    refine L_nil (X_block (X_then ?_))
    refine W_sub _ (sk1 8 rfl (tk8 26 7 4 3 2 0 25 27)) ?_
    refine W_region ?_
    refine Ly (Y_add rfl rfl (by omega) (by omega)) ?_
    refine Mv ?_
    refine L_nil ?_
    refine X_loop ((i + 1, v63)) (sk1 26 rfl (tk8 7 4 3 2 0 8 25 27)) ?_ ?_
    have hc65 := ((hb58.ext hx62).only ha64.only (fun hb_ => Nat.lt_irrefl _ (Nat.lt_of_lt_of_le (Nat.lt_of_lt_of_le hb3.lt hx8.size) (ha64.ge _ hb_))))
    ·exact ⟨by omega, mms_ok hkA (hrC.2 _ (can_mem (by omega))), (Only.trans (Only.trans (Only.trans (Only.trans (Only.trans (Only.trans (Only.trans (Only.trans (Only.trans (Only.trans (Only.refl _ _) hxA (fun _ hb_ => .inl hb_)) hn9.ext (fun _ hb_ => by cases hb_)) hp11.only (fun b_ hb_ => .inr (by rw [List.mem_singleton.1 hb_]; exact hxA.size))) hn13.ext (fun _ hb_ => by cases hb_)) hp15.only (fun b_ hb_ => .inr (by rw [List.mem_singleton.1 hb_]; exact me21))) hp53.only (fun b_ hb_ => .inr (by rw [List.mem_singleton.1 hb_]; exact me21))) hp55.only (fun b_ hb_ => .inr (by rw [List.mem_singleton.1 hb_]; exact me21))) hx57 (fun _ hb_ => .inl hb_)) hx62 (fun _ hb_ => by cases hb_)) ha64.only (fun b_ hb_ => .inr (Nat.le_trans (Nat.le_refl _) (ha64.ge b_ hb_)))), rowsO_congr ha64.own (mms_f a b).1, MapA.congr hc65 (mms_f a b).2⟩
    (try dsimp only)
    omega
   refine LO_yld (i := 4) rfl (Y_ldblk Tryz.underlying33 rfl rfl (hk12.ext (hn13.ext.then' hp15.only (by simp) (Nat.le_refl _))) rfl) rfl rfl rfl trivial ?_
   refine LH_one (i := 1) (by kernel_rfl) ?_
   refine LO_yld (i := 1) rfl (Y_ldblk Tryz.underlying33 rfl rfl (hk12.ext (hn13.ext.then' hp15.only (by simp) (Nat.le_refl _))) rfl) rfl rfl rfl trivial ?_
   refine LH_one (i := 2) (by kernel_rfl) ?_
   have me28 := Nat.le_trans (Nat.le_trans hxA.size hn9.ext.size) hp11.only.size
   refine LO_yld (i := 2) rfl (Y_len Tryz.underlying33 rfl (show Bytes _ ((at_nod L05 ((i : Int)).toNat).dv) ((at_nod L05 ((i : Int)).toNat).data) from (rowsN_onlyM hrC (Only.trans (Only.trans (Only.trans (Only.trans (Only.trans (Only.refl _ _) hxA (fun _ hb_ => .inl hb_)) hn9.ext (fun _ hb_ => by cases hb_)) hp11.only (fun b_ hb_ => .inr (by rw [List.mem_singleton.1 hb_]; exact hxA.size))) hn13.ext (fun _ hb_ => by cases hb_)) hp15.only (fun b_ hb_ => .inr (by rw [List.mem_singleton.1 hb_]; exact me28))) hmC).okat (k := ((i : Int)).toNat) (by omega))) rfl rfl rfl trivial ?_
   refine LH_take (i := 5) rfl (fun h_ hI_ => Y_fieldAddr (off := 0) (by kernel_rfl) rfl rfl) rfl rfl rfl (by kernel_rfl) (by kernel_rfl) (by kernel_rfl) (fun _ _ _ => by rintro ⟨_, _, h_, _⟩; cases h_) trivial ?_
   refine LH_take (i := 6) rfl (fun h_ hI_ => Y_fieldAddr (off := 4) (by kernel_rfl) rfl rfl) rfl rfl rfl (by kernel_rfl) (by kernel_rfl) (by kernel_rfl) (fun _ _ _ => by rintro ⟨_, _, h_, _⟩; cases h_) trivial ?_
   refine LH_one (i := 7) (by kernel_rfl) ?_
   refine LO_dos (i := 7) rfl (D_store (us := [.int .i64 ((((at_nod L05 ((i : Int)).toNat).data).length : Int))]) (show _ = some 1 by kernel_rfl) rfl rfl rfl (by simp [Value.oneCell']) hk16 (by simp)) rfl rfl ?_
   rintro h28 hp66
   refine ⟨trivial, ?_⟩
   have hk67 : Blk h28 h6.size [.int .i64 ((at_nod L05 ((i : Int)).toNat).kind), str ((at_nod L05 ((i : Int)).toNat).path), .int .i64 ((at_nod L05 ((i : Int)).toNat).mode), str ((at_nod L05 ((i : Int)).toNat).target), .int .i64 ((((at_nod L05 ((i : Int)).toNat).data).length : Int)), .slice none 0 0] := hp66.blk
   refine LH_take (i := 8) rfl (fun h_ hI_ => Y_fieldAddr (off := 5) (by kernel_rfl) rfl rfl) rfl rfl rfl (by kernel_rfl) (by kernel_rfl) (by kernel_rfl) (fun _ _ _ => by rintro ⟨_, _, h_, _⟩; cases h_) trivial ?_
   refine LH_one (i := 9) (by kernel_rfl) ?_
   refine LO_dos (i := 9) rfl (D_store (us := [((at_nod L05 ((i : Int)).toNat).dv)]) (show _ = some 1 by kernel_rfl) rfl rfl (cells_slice (show Bytes _ ((at_nod L05 ((i : Int)).toNat).dv) ((at_nod L05 ((i : Int)).toNat).data) from (rowsN_onlyM hrC (Only.trans (Only.trans (Only.trans (Only.trans (Only.trans (Only.trans (Only.refl _ _) hxA (fun _ hb_ => .inl hb_)) hn9.ext (fun _ hb_ => by cases hb_)) hp11.only (fun b_ hb_ => .inr (by rw [List.mem_singleton.1 hb_]; exact hxA.size))) hn13.ext (fun _ hb_ => by cases hb_)) hp15.only (fun b_ hb_ => .inr (by rw [List.mem_singleton.1 hb_]; exact (Nat.le_trans (Nat.le_trans hxA.size hn9.ext.size) hp11.only.size)))) hp66.only (fun b_ hb_ => .inr (by rw [List.mem_singleton.1 hb_]; exact (Nat.le_trans (Nat.le_trans hxA.size hn9.ext.size) hp11.only.size)))) hmC).okat (k := ((i : Int)).toNat) (by omega))) (by intro u_ hu_; simp only [List.mem_cons, List.not_mem_nil, or_false] at hu_; rcases hu_ with rfl <;> first | rfl | exact ((show Bytes _ ((at_nod L05 ((i : Int)).toNat).dv) ((at_nod L05 ((i : Int)).toNat).data) from (rowsN_onlyM hrC (Only.trans (Only.trans (Only.trans (Only.trans (Only.trans (Only.trans (Only.refl _ _) hxA (fun _ hb_ => .inl hb_)) hn9.ext (fun _ hb_ => by cases hb_)) hp11.only (fun b_ hb_ => .inr (by rw [List.mem_singleton.1 hb_]; exact hxA.size))) hn13.ext (fun _ hb_ => by cases hb_)) hp15.only (fun b_ hb_ => .inr (by rw [List.mem_singleton.1 hb_]; exact (Nat.le_trans (Nat.le_trans hxA.size hn9.ext.size) hp11.only.size)))) hp66.only (fun b_ hb_ => .inr (by rw [List.mem_singleton.1 hb_]; exact (Nat.le_trans (Nat.le_trans hxA.size hn9.ext.size) hp11.only.size)))) hmC).okat (k := ((i : Int)).toNat) (by omega))).cell1) hk67 (by simp)) rfl rfl ?_
   rintro h29 hp68
   refine ⟨trivial, ?_⟩
   have hk69 : Blk h29 h6.size [.int .i64 ((at_nod L05 ((i : Int)).toNat).kind), str ((at_nod L05 ((i : Int)).toNat).path), .int .i64 ((at_nod L05 ((i : Int)).toNat).mode), str ((at_nod L05 ((i : Int)).toNat).target), .int .i64 ((((at_nod L05 ((i : Int)).toNat).data).length : Int)), ((at_nod L05 ((i : Int)).toNat).dv)] := hp68.blk
   refine LH_done (by kernel_rfl) ?_
   refine X_then ?_
   refine W_sub _ (sk3 11 10 26 rfl rfl rfl (tk8 7 4 3 2 0 8 25 27)) ?_
   refine W_region ?_
   refine Mv ?_
   refine Ly (Y_fieldAddr (off := 5) (by kernel_rfl) rfl rfl) ?_
   have me29 := (hn13.ext.then' hp15.only (by simp) (Nat.le_refl _)).then' hp66.only (by simp) (Nat.le_refl _)
   refine Ly (Y_ldblk Tryz.underlying3 rfl rfl (hk12.ext (me29.then' hp68.only (by simp) (Nat.le_refl _))) rfl) ?_
   refine Ly (Y_fieldAddr (off := 1) (by kernel_rfl) rfl rfl) ?_
   refine Ly (Y_ldblk Tryz.underlying9 rfl rfl (hk12.ext (me29.then' hp68.only (by simp) (Nat.le_refl _))) rfl) ?_
   have me30 := me2.then' hp66.only (by simp) (Nat.le_trans hn9.ext.size hp11.only.size)
   have me31 := me30.then' hp68.only (by simp) (Nat.le_trans hn9.ext.size hp11.only.size)
   refine L_dos (D_updA (evl := (fun l : List UInt8 => str l)) (k := (at_nod L05 ((i : Int)).toNat).cls) (v := (at_nod L05 ((i : Int)).toNat).path) keyI Tryz.underlying53 Tryz.underlying3 rfl rfl rfl (hmL.ext me31)) rfl rfl ?_
   rintro h30 ⟨hx70, -, hb71⟩
   refine L_nil (X_block (X_then ?_))
   refine W_sub _ (sk2 11 26 rfl rfl (tk8 7 4 3 2 0 8 25 27)) ?_
   refine W_region ?_
   refine Mv ?_
   have me32 := Nat.le_trans (Nat.le_trans hx8.size hxA.size) hn9.ext.size
   have hc72 := (hk69.only hx70 (ni_gt (Nat.lt_of_lt_of_le hb3.lt (Nat.le_trans me32 hp11.only.size))))
   refine Ly (Y_ldbox (us := [.int .i64 ((at_nod L05 ((i : Int)).toNat).kind), str ((at_nod L05 ((i : Int)).toNat).path), .int .i64 ((at_nod L05 ((i : Int)).toNat).mode), str ((at_nod L05 ((i : Int)).toNat).target), .int .i64 ((((at_nod L05 ((i : Int)).toNat).data).length : Int)), ((at_nod L05 ((i : Int)).toNat).dv)]) Tryz.underlying35 rfl (show _ = some 6 by kernel_rfl) rfl hc72 rfl) ?_
   refine L_mks (M_litr (S := memS) (l := ([⟨(at_nod L05 ((i : Int)).toNat).kind, (at_nod L05 ((i : Int)).toNat).path, (at_nod L05 ((i : Int)).toNat).mode, (at_nod L05 ((i : Int)).toNat).target, (((at_nod L05 ((i : Int)).toNat).data).length : Int), ((at_nod L05 ((i : Int)).toNat).dv), (at_nod L05 ((i : Int)).toNat).data⟩] : List Mem)) (cells := [.int .i64 ((at_nod L05 ((i : Int)).toNat).kind), str ((at_nod L05 ((i : Int)).toNat).path), .int .i64 ((at_nod L05 ((i : Int)).toNat).mode), str ((at_nod L05 ((i : Int)).toNat).target), .int .i64 ((((at_nod L05 ((i : Int)).toNat).data).length : Int)), ((at_nod L05 ((i : Int)).toNat).dv)]) (pv := [(0, .agg #[.int .i64 ((at_nod L05 ((i : Int)).toNat).kind), str ((at_nod L05 ((i : Int)).toNat).path), .int .i64 ((at_nod L05 ((i : Int)).toNat).mode), str ((at_nod L05 ((i : Int)).toNat).target), .int .i64 ((((at_nod L05 ((i : Int)).toNat).data).length : Int)), ((at_nod L05 ((i : Int)).toNat).dv)])]) (E := 35) (evp (is := [0]) (os := [.tmp 83]) (vs := [.agg #[.int .i64 ((at_nod L05 ((i : Int)).toNat).kind), str ((at_nod L05 ((i : Int)).toNat).path), .int .i64 ((at_nod L05 ((i : Int)).toNat).mode), str ((at_nod L05 ((i : Int)).toNat).target), .int .i64 ((((at_nod L05 ((i : Int)).toNat).data).length : Int)), ((at_nod L05 ((i : Int)).toNat).dv)]]) rfl rfl) rfl rfl (fun _ => by kernel_rfl) (by simp only [List.mem_cons, List.not_mem_nil, or_false, forall_eq_or_imp, forall_eq]; exact (show Bytes _ ((at_nod L05 ((i : Int)).toNat).dv) ((at_nod L05 ((i : Int)).toNat).data) from (rowsN_onlyM hrC (Only.trans (Only.trans (Only.trans (Only.trans (Only.trans (Only.trans (Only.trans (Only.trans (Only.refl _ _) hxA (fun _ hb_ => .inl hb_)) hn9.ext (fun _ hb_ => by cases hb_)) hp11.only (fun b_ hb_ => .inr (by rw [List.mem_singleton.1 hb_]; exact hxA.size))) hn13.ext (fun _ hb_ => by cases hb_)) hp15.only (fun b_ hb_ => .inr (by rw [List.mem_singleton.1 hb_]; exact me28))) hp66.only (fun b_ hb_ => .inr (by rw [List.mem_singleton.1 hb_]; exact me28))) hp68.only (fun b_ hb_ => .inr (by rw [List.mem_singleton.1 hb_]; exact me28))) hx70 (fun _ hb_ => .inl hb_)) hmC).okat (k := ((i : Int)).toNat) (by omega)))) rfl rfl rfl ?_
   rintro v73 h31 ⟨ho74, hx75⟩
   have me33 := Nat.le_trans (Nat.le_trans me28 hn13.ext.size) hp15.only.size
   have me34 := Nat.le_trans (Nat.le_trans me33 hp66.only.size) hp68.only.size
   refine L_mks (M_apprG (z := 6) (bytes := 80) (z0 := (.agg #[.int .i64 0, str [], .int .i64 0, str [], .int .i64 0, .slice none 0 0])) Tryz.underlying25 (by unfold elemRow; kernel_rfl) rfl rfl (by decide) rfl rfl ((rowsO_onlyM (hoA.ext me31) hx70 (Nat.lt_of_lt_of_le hb3.lt hx8.size) (hmL.ext me31)).ext hx75) ho74.rows (Nat.le_trans (Nat.le_trans me34 hx70.size) hx75.size) (by first | (simp; omega) | (simp; done) | omega) (fun h' y hge x hx => okM_onlyM ((List.mem_append.1 hx).elim (hkA x) (fun q => by rw [List.mem_singleton.1 q]; exact hrC.2 _ (can_mem (k := i) (by omega)))) (only_app (Only.trans (Only.trans (Only.trans (Only.trans (Only.trans (Only.trans (Only.trans (Only.trans (Only.trans (Only.refl _ _) hxA (fun _ hb_ => .inl hb_)) hn9.ext (fun _ hb_ => by cases hb_)) hp11.only (fun b_ hb_ => .inr (by rw [List.mem_singleton.1 hb_]; exact hxA.size))) hn13.ext (fun _ hb_ => by cases hb_)) hp15.only (fun b_ hb_ => .inr (by rw [List.mem_singleton.1 hb_]; exact me28))) hp66.only (fun b_ hb_ => .inr (by rw [List.mem_singleton.1 hb_]; exact me28))) hp68.only (fun b_ hb_ => .inr (by rw [List.mem_singleton.1 hb_]; exact me28))) hx70 (fun _ hb_ => .inl hb_)) hx75 (fun _ hb_ => by cases hb_)) y hge) hmC)) rfl rfl rfl ?_
   rintro v76 h32 ⟨ha77, ha77l⟩
   refine Av ?_
   refine L_nil (X_block (X_then ?_))
   refine W_sub _ (sk1 8 rfl (tk8 26 7 4 3 2 0 25 27)) ?_
   refine W_region ?_
   refine Ly (Y_add rfl rfl (by omega) (by omega)) ?_
   refine Mv ?_
   refine L_nil ?_
   refine X_loop ((i + 1, v76)) (sk1 26 rfl (tk8 7 4 3 2 0 8 25 27)) ?_ ?_
   have hc78 := ((hb71.ext hx75).only ha77.only (fun hb_ => Nat.lt_irrefl _ (Nat.lt_of_lt_of_le (Nat.lt_of_lt_of_le hb3.lt hx8.size) (ha77.ge _ hb_))))
   ·exact ⟨by omega, mms_ok hkA (hrC.2 _ (can_mem (by omega))), (Only.trans (Only.trans (Only.trans (Only.trans (Only.trans (Only.trans (Only.trans (Only.trans (Only.trans (Only.trans (Only.refl _ _) hxA (fun _ hb_ => .inl hb_)) hn9.ext (fun _ hb_ => by cases hb_)) hp11.only (fun b_ hb_ => .inr (by rw [List.mem_singleton.1 hb_]; exact hxA.size))) hn13.ext (fun _ hb_ => by cases hb_)) hp15.only (fun b_ hb_ => .inr (by rw [List.mem_singleton.1 hb_]; exact me28))) hp66.only (fun b_ hb_ => .inr (by rw [List.mem_singleton.1 hb_]; exact me28))) hp68.only (fun b_ hb_ => .inr (by rw [List.mem_singleton.1 hb_]; exact me28))) hx70 (fun _ hb_ => .inl hb_)) hx75 (fun _ hb_ => by cases hb_)) ha77.only (fun b_ hb_ => .inr (Nat.le_trans (Nat.le_refl _) (ha77.ge b_ hb_)))), rowsO_congr ha77.own (mms_f a b).1, MapA.congr hc78 (mms_f a b).2⟩
   (try dsimp only)
   omega
  refine W_skip (X_block (X_then ?_))
  refine W_sub _ (sk2 11 26 rfl rfl (tk8 7 4 3 2 0 8 25 27)) ?_
  refine W_region ?_
  refine Mv ?_
  refine Ly (Y_ldbox (us := [.int .i64 ((at_nod L05 ((i : Int)).toNat).kind), str ((at_nod L05 ((i : Int)).toNat).path), .int .i64 ((at_nod L05 ((i : Int)).toNat).mode), str ((at_nod L05 ((i : Int)).toNat).target), .int .i64 0, .slice none 0 0]) Tryz.underlying35 rfl (show _ = some 6 by kernel_rfl) rfl hk16 rfl) ?_
  refine L_mks (M_litr (S := memS) (l := ([⟨(at_nod L05 ((i : Int)).toNat).kind, (at_nod L05 ((i : Int)).toNat).path, (at_nod L05 ((i : Int)).toNat).mode, (at_nod L05 ((i : Int)).toNat).target, (0 : Int), .slice none 0 0, ([] : List UInt8)⟩] : List Mem)) (cells := [.int .i64 ((at_nod L05 ((i : Int)).toNat).kind), str ((at_nod L05 ((i : Int)).toNat).path), .int .i64 ((at_nod L05 ((i : Int)).toNat).mode), str ((at_nod L05 ((i : Int)).toNat).target), .int .i64 0, .slice none 0 0]) (pv := [(0, .agg #[.int .i64 ((at_nod L05 ((i : Int)).toNat).kind), str ((at_nod L05 ((i : Int)).toNat).path), .int .i64 ((at_nod L05 ((i : Int)).toNat).mode), str ((at_nod L05 ((i : Int)).toNat).target), .int .i64 0, .slice none 0 0])]) (E := 35) (evp (is := [0]) (os := [.tmp 83]) (vs := [.agg #[.int .i64 ((at_nod L05 ((i : Int)).toNat).kind), str ((at_nod L05 ((i : Int)).toNat).path), .int .i64 ((at_nod L05 ((i : Int)).toNat).mode), str ((at_nod L05 ((i : Int)).toNat).target), .int .i64 0, .slice none 0 0]]) rfl rfl) rfl rfl (fun _ => by kernel_rfl) (by simp only [List.mem_cons, List.not_mem_nil, or_false, forall_eq_or_imp, forall_eq]; exact (Bytes.nil _))) rfl rfl rfl ?_
  rintro v79 h33 ⟨ho80, hx81⟩
  have me35 := Nat.le_trans (Nat.le_trans hxA.size hn9.ext.size) hp11.only.size
  have me36 := Nat.le_trans (Nat.le_trans me35 hn13.ext.size) hp15.only.size
  refine L_mks (M_apprG (z := 6) (bytes := 80) (z0 := (.agg #[.int .i64 0, str [], .int .i64 0, str [], .int .i64 0, .slice none 0 0])) Tryz.underlying25 (by unfold elemRow; kernel_rfl) rfl rfl (by decide) rfl rfl (hoA.ext (me2.trans hx81)) ho80.rows (Nat.le_trans me36 hx81.size) (by first | (simp; omega) | (simp; done) | omega) (fun h' y hge x hx => okM_onlyM ((List.mem_append.1 hx).elim (hkA x) (fun q => by rw [List.mem_singleton.1 q]; exact Bytes.nil _)) (only_app (Only.trans (Only.trans (Only.trans (Only.trans (Only.trans (Only.trans (Only.refl _ _) hxA (fun _ hb_ => .inl hb_)) hn9.ext (fun _ hb_ => by cases hb_)) hp11.only (fun b_ hb_ => .inr (by rw [List.mem_singleton.1 hb_]; exact hxA.size))) hn13.ext (fun _ hb_ => by cases hb_)) hp15.only (fun b_ hb_ => .inr (by rw [List.mem_singleton.1 hb_]; exact me35))) hx81 (fun _ hb_ => by cases hb_)) y hge) hmC)) rfl rfl rfl ?_
  rintro v82 h34 ⟨ha83, ha83l⟩
  refine Av ?_
  refine L_nil (X_block (X_then ?_))
  refine W_sub _ (sk1 8 rfl (tk8 26 7 4 3 2 0 25 27)) ?_
  refine W_region ?_
  refine Ly (Y_add rfl rfl (by omega) (by omega)) ?_
  refine Mv ?_
  refine L_nil ?_
  refine X_loop ((i + 1, v82)) (sk1 26 rfl (tk8 7 4 3 2 0 8 25 27)) ?_ ?_
  have hc84 := ((((((hmL.ext hn9.ext).only hp11.only (ni_lt (Nat.lt_of_lt_of_le hb3.lt (Nat.le_trans hx8.size hxA.size)))).ext hn13.ext).only hp15.only (ni_lt (Nat.lt_of_lt_of_le hb3.lt (Nat.le_trans (Nat.le_trans (Nat.le_trans hx8.size hxA.size) hn9.ext.size) hp11.only.size)))).ext hx81).only ha83.only (fun hb_ => Nat.lt_irrefl _ (Nat.lt_of_lt_of_le (Nat.lt_of_lt_of_le hb3.lt hx8.size) (ha83.ge _ hb_))))
  ·exact ⟨by omega, mms_ok hkA (hrC.2 _ (can_mem (by omega))), (Only.trans (Only.trans (Only.trans (Only.trans (Only.trans (Only.trans (Only.trans (Only.refl _ _) hxA (fun _ hb_ => .inl hb_)) hn9.ext (fun _ hb_ => by cases hb_)) hp11.only (fun b_ hb_ => .inr (by rw [List.mem_singleton.1 hb_]; exact hxA.size))) hn13.ext (fun _ hb_ => by cases hb_)) hp15.only (fun b_ hb_ => .inr (by rw [List.mem_singleton.1 hb_]; exact me35))) hx81 (fun _ hb_ => by cases hb_)) ha83.only (fun b_ hb_ => .inr (Nat.le_trans (Nat.le_refl _) (ha83.ge b_ hb_)))), rowsO_congr ha83.own (mms_n a b).1, MapA.congr hc84 (mms_n a b).2⟩
  (try dsimp only)
  omega
 refine W_exit ?_
 refine X_then_exit (X_then_exit ?_)
 refine X_block_hit ?_
 refine X_then ?_
 refine W_sub _ (tk5 4 3 2 0 8) ?_
 refine Wr ?_
 refine Mv ?_
 refine Mv ?_
 refine Ly (Y_lenr Tryz.underlying22 rfl (hl.ext (((hx1.trans hx2).trans hx8).then' hxA (by simp) hx1.size))) ?_
 refine Av ?_
 refine Av ?_
 refine Av ?_
 refine Nx ?_
 refine W_sub _ (tk3 4 3 2) ?_
 refine W_ret ?_
 refine X_ret3 rfl rfl rfl rfl ?_
 exact ⟨_, _, by rw [hz, (tok_of hz).res.1], hoA.rows, by have e9 := mbs_of hz (by assumption); rw [← e9]; congr 1; congr 1; omega, (((hx1.trans hx2).trans hx8).then' hxA (by simp) hx1.size)⟩
end Go.Xp

/- Layer 14 (flatten): the example. -/
set_option linter.unusedSimpArgs false
set_option linter.unusedVariables false
set_option linter.unusedSectionVars false
namespace Go.Xp
open Go.Proofs

theorem can_okl {A : List Nod} (h : ¬ 0 < ntoo A) : A.length ≤ 40 ∧ A.length ≤ 1000000000 ∧ ∀ x ∈ A, x.path.length ≤ 100000000000 ∧ x.target.length ≤ 100000000000 ∧ x.data.length ≤ 100000000000 := by
  obtain ⟨h1, h2⟩ := ntoo_ok h
  refine ⟨h1, by omega, fun x hx => ?_⟩
  obtain ⟨k, hk, rfl⟩ := List.getElem_of_mem hx
  have := h2 k hk
  unfold nb at_nod at this
  rw [List.getD_eq_getElem?_getD, List.getElem?_eq_getElem hk] at this
  simp only [Option.getD_some] at this
  omega
def exF : List Nod := [⟨1, [98], 0, [], .slice none 0 0, [], 1⟩, ⟨1, [97], 0, [], .slice none 0 0, [], 1⟩]
def exM : List Mem := [⟨1, [97], 0, [], 0, .slice none 0 0, []⟩, ⟨3, [98], 0, [97], 0, .slice none 0 0, []⟩]
theorem exF_ok : terr exF = 0 := by decide +kernel
theorem exF_mem : mbs exF = exM := by
  unfold mbs
  rw [if_pos exF_ok]
  have : mem1 (cno exF) = exM := by kernel_rfl
  exact this
theorem exF_at {M : List Mem} (h : M.map erm = mbs exF) (k : Nat) : erm (at_mem M k) = at_mem exM k := by rw [← at_erm, h, exF_mem]
theorem exF_len {M : List Mem} (h : M.map erm = mbs exF) : M.length = 2 := by
  have := congrArg List.length h
  rw [exF_mem, List.length_map] at this; exact this
theorem exFS : ∀ x ∈ exF, x.path.length ≤ 100000000000 ∧ x.target.length ≤ 100000000000 ∧ x.data.length ≤ 100000000000 := by
  intro x hx
  simp [exF] at hx
  rcases hx with rfl | rfl <;> decide

theorem exF_all {M : List Mem} (h : M.map erm = mbs exF) : (((terr exF = 0 ∧ (M.length : Int) = 2) ∧ (at_mem M 0).path = [97]) ∧ (at_mem M 0).kind = 1) ∧ (at_mem M 1).kind = 3 ∧ (at_mem M 1).path = [98] ∧ (at_mem M 1).mode = 0 ∧ (at_mem M 1).target = [97] ∧ (at_mem M 1).size = 0 := by
  have h0 := exF_at h 0
  have h1 := exF_at h 1
  have hl := exF_len h
  refine ⟨⟨⟨⟨exF_ok, by omega⟩, congrArg Mem.path h0⟩, congrArg Mem.kind h0⟩, congrArg Mem.kind h1, congrArg Mem.path h1, congrArg Mem.mode h1, congrArg Mem.target h1, congrArg Mem.size h1⟩

set_option maxRecDepth 100000 in
theorem law14_alive (h : Heap) (hK : GlbK h) (hE : GlbE h) : Cal Tryz.prog 7 #[] h (fun v h' => v = .bool true ∧ Ext h h') := by
 refine Cal_enter (args := []) Tryz.func7 rfl rfl rfl (fun σ => ?_)
 refine Wr ?_
 refine Av ?_
 refine L_nil (X_then (W_seq (W_region ?_)))
 refine Ly (Y_build (v := .agg #[.int .i64 1, str [98], .int .i64 0, str [], .slice none 0 0, .int .i64 1]) (pv := [(0, .int .i64 1), (1, str [98]), (5, .int .i64 1)]) (evp (is := [0, 1, 5]) (os := [.const (.int .i64 1), .const (str [98]), .const (.int .i64 1)]) (vs := [.int .i64 1, str [98], .int .i64 1]) rfl rfl) (fun _ => by kernel_rfl)) ?_
 refine Ly (Y_build (v := .agg #[.int .i64 1, str [97], .int .i64 0, str [], .slice none 0 0, .int .i64 1]) (pv := [(0, .int .i64 1), (1, str [97]), (5, .int .i64 1)]) (evp (is := [0, 1, 5]) (os := [.const (.int .i64 1), .const (str [97]), .const (.int .i64 1)]) (vs := [.int .i64 1, str [97], .int .i64 1]) rfl rfl) (fun _ => by kernel_rfl)) ?_
 refine L_mks (M_litr (S := nodS) (l := ([⟨(1 : Int), [98], (0 : Int), [], .slice none 0 0, ([] : List UInt8), (1 : Int)⟩, ⟨(1 : Int), [97], (0 : Int), [], .slice none 0 0, ([] : List UInt8), (1 : Int)⟩] : List Nod)) (cells := [.int .i64 1, str [98], .int .i64 0, str [], .slice none 0 0, .int .i64 1, .int .i64 1, str [97], .int .i64 0, str [], .slice none 0 0, .int .i64 1]) (pv := [(0, .agg #[.int .i64 1, str [98], .int .i64 0, str [], .slice none 0 0, .int .i64 1]), (1, .agg #[.int .i64 1, str [97], .int .i64 0, str [], .slice none 0 0, .int .i64 1])]) (E := 50) (evp (is := [0, 1]) (os := [.tmp 5, .tmp 6]) (vs := [.agg #[.int .i64 1, str [98], .int .i64 0, str [], .slice none 0 0, .int .i64 1], .agg #[.int .i64 1, str [97], .int .i64 0, str [], .slice none 0 0, .int .i64 1]]) rfl rfl) rfl rfl (fun _ => by kernel_rfl) (by simp only [List.mem_cons, List.not_mem_nil, or_false, forall_eq_or_imp, forall_eq]; exact ⟨(Bytes.nil _), (Bytes.nil _)⟩)) rfl rfl rfl ?_
 rintro v1 h1 ⟨ho2, hx3⟩
 refine L_call (E_call (by kernel_rfl) rfl) (flatten_Members _ (hK.ext hx3) (hE.ext hx3) v1 ([⟨(1 : Int), [98], (0 : Int), [], .slice none 0 0, ([] : List UInt8), (1 : Int)⟩, ⟨(1 : Int), [97], (0 : Int), [], .slice none 0 0, ([] : List UInt8), (1 : Int)⟩] : List Nod) ho2.rows (by decide) exFS) rfl rfl rfl ?_
 rintro _ h2 ⟨s04, L05, rfl, hr06, hq07, hx8⟩
 refine Mv ?_
 refine Ly (Y_extract (v := s04) rfl rfl) ?_
 refine Ly (Y_extract (v := .int .i64 (tpos ([⟨(1 : Int), [98], (0 : Int), [], .slice none 0 0, ([] : List UInt8), (1 : Int)⟩, ⟨(1 : Int), [97], (0 : Int), [], .slice none 0 0, ([] : List UInt8), (1 : Int)⟩] : List Nod))) rfl rfl) ?_
 refine Ly (Y_extract (v := .int .i64 (terr ([⟨(1 : Int), [98], (0 : Int), [], .slice none 0 0, ([] : List UInt8), (1 : Int)⟩, ⟨(1 : Int), [97], (0 : Int), [], .slice none 0 0, ([] : List UInt8), (1 : Int)⟩] : List Nod))) rfl rfl) ?_
 refine Av ?_
 refine Av ?_
 refine Av ?_
 refine Nx ?_
 refine W_sub _ (tk3 3 1 0) ?_
 refine W_cut (S := Unit) (fun _ => [(0, .bool (decide ((((((terr ([⟨(1 : Int), [98], (0 : Int), [], .slice none 0 0, ([] : List UInt8), (1 : Int)⟩, ⟨(1 : Int), [97], (0 : Int), [], .slice none 0 0, ([] : List UInt8), (1 : Int)⟩] : List Nod)) = 0) ∧ ((L05.length : Int) = 2)) ∧ (((at_mem L05 0).path) = [97])) ∧ (((at_mem L05 0).kind) = 1)) ∧ (((at_mem L05 1).kind) = (3 : Int) ∧ ((at_mem L05 1).path) = [98] ∧ ((at_mem L05 1).mode) = (0 : Int) ∧ ((at_mem L05 1).target) = [97] ∧ ((at_mem L05 1).size) = (0 : Int)))))]) (fun _ h' => h' = h2) ?_ ?_
 ·refine W_region ?_
  refine Mv ?_
  refine Ly (Y_eql rfl rfl) ?_
  refine Mv ?_
  refine L_splitd (d := 14) rfl (fun c9 => ?_) (fun c9 => ?_)
  ·refine Ly (Y_move rfl) ?_
   refine Ly (Y_lenr Tryz.underlying25 rfl hr06) ?_
   refine Ly (Y_eql rfl rfl) ?_
   refine Ly (Y_pick_t rfl rfl) ?_
   refine Mv ?_
   refine L_splitd (d := 19) rfl (fun c10 => ?_) (fun c10 => ?_)
   ·refine Ly (Y_move rfl) ?_
    refine Ly (Y_idxr Tryz.underlying25 (show _ = some 6 by kernel_rfl) rfl rfl rfl hr06 (by omega) (by omega)) ?_
    refine Ly (Y_fldr (k := 0) (off := 0) (by kernel_rfl) rfl hr06 (by omega)) ?_
    refine Ly (Y_fldr (k := 0) (off := 1) (by kernel_rfl) rfl hr06 (by omega)) ?_
    refine Ly (Y_ldr1 (off := 1) (k := 0) (u := str ((at_mem L05 0).path)) Tryz.underlying9 rfl rfl rfl hr06 (by omega) rfl) ?_
    refine Ly (Y_seql rfl rfl) ?_
    refine Ly (Y_pick_t rfl rfl) ?_
    refine Mv ?_
    refine L_splitd (d := 27) rfl (fun c11 => ?_) (fun c11 => ?_)
    ·refine Ly (Y_move rfl) ?_
     refine Ly (Y_idxr Tryz.underlying25 (show _ = some 6 by kernel_rfl) rfl rfl rfl hr06 (by omega) (by omega)) ?_
     refine Ly (Y_fldr (k := 0) (off := 0) (by kernel_rfl) rfl hr06 (by omega)) ?_
     refine Ly (Y_fldr (k := 0) (off := 0) (by kernel_rfl) rfl hr06 (by omega)) ?_
     refine Ly (Y_ldr1 (off := 0) (k := 0) (u := .int .i64 ((at_mem L05 0).kind)) Tryz.underlying3 rfl rfl rfl hr06 (by omega) rfl) ?_
     refine Ly (Y_eql rfl rfl) ?_
     refine Ly (Y_pick_t rfl rfl) ?_
     refine Mv ?_
     refine L_splitd (d := 35) rfl (fun c12 => ?_) (fun c12 => ?_)
     ·refine Ly (Y_move rfl) ?_
      refine Ly (Y_idxr Tryz.underlying25 (show _ = some 6 by kernel_rfl) rfl rfl rfl hr06 (by omega) (by omega)) ?_
      refine Ly (Y_fldr (k := 1) (off := 0) (by kernel_rfl) rfl hr06 (by omega)) ?_
      refine Ly (Y_ldrA (off := 0) (k := 1) (us := [.int .i64 ((at_mem L05 1).kind), str ((at_mem L05 1).path), .int .i64 ((at_mem L05 1).mode), str ((at_mem L05 1).target), .int .i64 ((at_mem L05 1).size)]) Tryz.underlying32 rfl (show _ = some 5 by kernel_rfl) rfl rfl hr06 (by omega) rfl) ?_
      refine Ly (Y_build (v := .agg #[.int .i64 3, str [98], .int .i64 0, str [97], .int .i64 0]) (pv := [(0, .int .i64 3), (1, str [98]), (3, str [97])]) (evp (is := [0, 1, 3]) (os := [.const (.int .i64 3), .const (str [98]), .const (str [97])]) (vs := [.int .i64 3, str [98], str [97]]) rfl rfl) (fun _ => by kernel_rfl)) ?_
      refine Ly (Y_steql (xs := [.int .i64 ((at_mem L05 1).kind), str ((at_mem L05 1).path), .int .i64 ((at_mem L05 1).mode), str ((at_mem L05 1).target), .int .i64 ((at_mem L05 1).size)]) (ys := [.int .i64 3, str [98], .int .i64 0, str [97], .int .i64 0]) (r := decide (((at_mem L05 1).kind) = (3 : Int) ∧ ((at_mem L05 1).path) = [98] ∧ ((at_mem L05 1).mode) = (0 : Int) ∧ ((at_mem L05 1).target) = [97] ∧ ((at_mem L05 1).size) = (0 : Int))) (by kernel_rfl) (by kernel_rfl) (by kernel_rfl) rfl rfl (steq (ks := [.i .i64, .s, .i .i64, .s, .i .i64]) (by kernel_rfl) (by simp [eqks, eqk]))) ?_
      refine Ly (Y_pick_t rfl rfl) ?_
      refine Av ?_
      refine L_nil ?_
      exact X_cut () (sk1 0 (lkb rfl (by first | (simp only [eq_true c9, eq_true c10, eq_true c11, eq_true c12, SB]; done) | (exfalso; contradiction) | (exfalso; omega))) sN) rfl
     refine Skp ?_
     refine Skp ?_
     refine Skp ?_
     refine Skp ?_
     refine Skp ?_
     refine Skp ?_
     refine Ly (Y_pick_f rfl rfl) ?_
     refine Av ?_
     refine L_nil ?_
     exact X_cut () (sk1 0 (lkb rfl (by first | (simp only [eq_true c9, eq_true c10, eq_true c11, eq_false c12, SB]; done) | (exfalso; contradiction) | (exfalso; omega))) sN) rfl
    refine Skp ?_
    refine Skp ?_
    refine Skp ?_
    refine Skp ?_
    refine Skp ?_
    refine Skp ?_
    refine Ly (Y_pick_f rfl rfl) ?_
    refine Mv ?_
    refine Skp ?_
    refine Skp ?_
    refine Skp ?_
    refine Skp ?_
    refine Skp ?_
    refine Skp ?_
    refine Ly (Y_pick_f rfl rfl) ?_
    refine Av ?_
    refine L_nil ?_
    exact X_cut () (sk1 0 (lkb rfl (by first | (simp only [eq_true c9, eq_true c10, eq_false c11, SB]; done) | (simp only [eq_true c9, eq_true c10, eq_false c11, SB]; rfl))) sN) rfl
   refine Skp ?_
   refine Skp ?_
   refine Skp ?_
   refine Skp ?_
   refine Skp ?_
   refine Skp ?_
   refine Ly (Y_pick_f rfl rfl) ?_
   refine Mv ?_
   refine Skp ?_
   refine Skp ?_
   refine Skp ?_
   refine Skp ?_
   refine Skp ?_
   refine Skp ?_
   refine Ly (Y_pick_f rfl rfl) ?_
   refine Mv ?_
   refine Skp ?_
   refine Skp ?_
   refine Skp ?_
   refine Skp ?_
   refine Skp ?_
   refine Skp ?_
   refine Ly (Y_pick_f rfl rfl) ?_
   refine Av ?_
   refine L_nil ?_
   exact X_cut () (sk1 0 (lkb rfl (by first | (simp only [eq_true c9, eq_false c10, SB]; done) | (simp only [eq_true c9, eq_false c10, SB]; rfl))) sN) rfl
  refine Skp ?_
  refine Skp ?_
  refine Skp ?_
  refine Ly (Y_pick_f rfl rfl) ?_
  refine Mv ?_
  refine Skp ?_
  refine Skp ?_
  refine Skp ?_
  refine Skp ?_
  refine Skp ?_
  refine Skp ?_
  refine Ly (Y_pick_f rfl rfl) ?_
  refine Mv ?_
  refine Skp ?_
  refine Skp ?_
  refine Skp ?_
  refine Skp ?_
  refine Skp ?_
  refine Skp ?_
  refine Ly (Y_pick_f rfl rfl) ?_
  refine Mv ?_
  refine Skp ?_
  refine Skp ?_
  refine Skp ?_
  refine Skp ?_
  refine Skp ?_
  refine Skp ?_
  refine Ly (Y_pick_f rfl rfl) ?_
  refine Av ?_
  refine L_nil ?_
  exact X_cut () (sk1 0 (lkb rfl (by first | (simp only [eq_false c9, SB]; done) | (simp only [eq_false c9, SB]; rfl))) sN) rfl
 rintro _ h2 rfl
 show W _ _ _ _ _ [(0, .bool (decide ((((((terr ([⟨(1 : Int), [98], (0 : Int), [], .slice none 0 0, ([] : List UInt8), (1 : Int)⟩, ⟨(1 : Int), [97], (0 : Int), [], .slice none 0 0, ([] : List UInt8), (1 : Int)⟩] : List Nod)) = 0) ∧ ((L05.length : Int) = 2)) ∧ (((at_mem L05 0).path) = [97])) ∧ (((at_mem L05 0).kind) = 1)) ∧ (((at_mem L05 1).kind) = (3 : Int) ∧ ((at_mem L05 1).path) = [98] ∧ ((at_mem L05 1).mode) = (0 : Int) ∧ ((at_mem L05 1).target) = [97] ∧ ((at_mem L05 1).size) = (0 : Int)))))] _
 refine W_ret ?_
 refine X_ret1 rfl rfl ?_
 exact ⟨congrArg Value.bool (decide_eq_true (exF_all (by assumption))), (hx3.trans hx8)⟩

theorem mbs_len (l : List Nod) : (mbs l).length ≤ l.length := by
  unfold mbs mem1
  split
  · rw [List.length_map, List.length_range, cno_len]; exact Nat.le_refl _
  · exact Nat.zero_le _
theorem mem_len {a : List Mem} {l : List Nod} (h : a.map erm = mbs l) : a.length ≤ l.length := by
  have := congrArg List.length h
  rw [List.length_map] at this
  rw [this]; exact mbs_len l

end Go.Xp

/- Layer 14 (flatten): Size. -/
set_option linter.unusedSimpArgs false
set_option linter.unusedVariables false
set_option linter.unusedSectionVars false
namespace Go.Xp
open Go.Proofs

def mchk (x : Mem) : Int := fcheck x.kind x.path x.mode x.target x.size
def mbl (x : Mem) : Int := ((eenc x.kind x.path x.mode x.target x.size).length : Int) + nblk x.size * 512
def msum (l : List Mem) : Nat → Int
  | 0 => 1024
  | k + 1 => msum l k + mbl (at_mem l k)
def mbad (l : List Mem) : Nat := fbad (fun i => mchk (at_mem l i)) 0 l.length
def mserr (l : List Mem) : Int := if mbad l < l.length then mchk (at_mem l (mbad l)) else 0
def msize (l : List Mem) : Int := if mbad l < l.length then 0 else msum l l.length
theorem mbl_ok {x : Mem} (h : mchk x = 0) : 512 ≤ mbl x ∧ mbl x ≤ 2000000000000 ∧ mbl x % 512 = 0 := by
  have hz := fcheck_size h
  have he := eenc_len h
  have hr := rfmt_le h
  unfold mbl
  rw [he]
  have hn : nblk x.size * 512 % 512 = 0 ∧ 0 ≤ nblk x.size * 512 ∧ nblk x.size * 512 ≤ 1100000000000 := by
    unfold nblk; split <;> omega
  split
  · omega
  · unfold padn; omega
theorem nblk_le {x : Mem} (h : mchk x = 0) : 0 ≤ nblk x.size ∧ nblk x.size ≤ 2147483649 := by
  have hz := fcheck_size h
  unfold nblk; split <;> omega
theorem ms_bad {l : List Mem} {i : Nat} (h0 : ∀ k, k < i → mchk (at_mem l k) = 0) (hi : i < l.length) (hf : ¬ mchk (at_mem l i) = 0) : msize l = 0 ∧ mserr l = mchk (at_mem l i) := by
  have e : mbad l = i := fbad_at h0 hi hf
  unfold msize mserr
  rw [e, if_pos hi, if_pos hi]; exact ⟨rfl, rfl⟩
theorem ms_end {l : List Mem} (h0 : ∀ k, k < l.length → mchk (at_mem l k) = 0) : msize l = msum l l.length ∧ mserr l = 0 := by
  have e : mbad l = l.length := fbad_end h0
  unfold msize mserr
  rw [e, if_neg (Nat.lt_irrefl _), if_neg (Nat.lt_irrefl _)]; exact ⟨rfl, rfl⟩
theorem msum_le {l : List Mem} : ∀ {k : Nat}, (∀ j, j < k → mchk (at_mem l j) = 0) → 1024 ≤ msum l k ∧ msum l k ≤ 1024 + 2000000000000 * (k : Int) ∧ msum l k % 512 = 0
  | 0, _ => ⟨Int.le_refl _, Int.le_refl _, rfl⟩
  | k + 1, h => by
    have h1 := msum_le (k := k) (fun j hj => h j (by omega))
    have h2 := mbl_ok (h k (by omega))
    unfold msum
    omega
theorem mem_getm {l : List Mem} {k : Nat} (h : k < l.length) : at_mem l k ∈ l := by
  unfold at_mem; rw [List.getD_eq_getElem?_getD, List.getElem?_eq_getElem h]; exact List.getElem_mem h

set_option maxRecDepth 100000 in
theorem flatten_Size (h : Heap) (hG : Glb h) (hK : GlbK h) (hN : GlbN h) (hE : GlbE h) (hT : GlbT h) (v : Value) (l : List Mem) (hl : Rows memS h v l) (hn : l.length ≤ 1000) (hs : ∀ x ∈ l, x.path.length ≤ 140737488355328 ∧ x.target.length ≤ 140737488355328 ∧ x.data.length ≤ 140737488355328 ∧ -9223372036854775808 ≤ x.size ∧ x.size ≤ 9223372036854775807) : Cal Tryz.prog 13 #[v] h (fun v h' => v = .tuple #[.int .i64 (msize l), .int .i64 (mserr l)] ∧ Ext h h') := by
 refine Cal_enter (args := [v]) Tryz.func13 rfl rfl rfl (fun σ => ?_)
 refine Wr ?_
 refine Av ?_
 refine Av ?_
 refine L_nil (X_then (W_seq (W_region ?_)))
 refine Av ?_
 refine L_nil (X_then (W_seq (W_seq (W_region ?_))))
 refine Mv ?_
 refine Ly (Y_lenr Tryz.underlying25 rfl hl) ?_
 refine Mv ?_
 refine Nx ?_
 refine W_sub _ (tk6 11 10 9 4 3 2) ?_
 refine W_block ?_
 refine W_loop (S := Nat) (fun i => [(10, .int .i64 ((l.length : Int))), (9, v), (4, .int .i64 ((msum l i))), (11, .int .i64 ((i : Int)))]) (fun i h' => (i ≤ l.length ∧ ∀ k, k < i → mchk (at_mem l k) = 0) ∧ Ext h h') (fun i => l.length - i) 0 (tk4 10 9 4 11) ?_ ?_
 ·exact ⟨⟨Nat.zero_le _, fun k hk => absurd hk (Nat.not_lt_zero _)⟩, (Ext.refl _)⟩
 rintro i h1 ⟨⟨hi, h0⟩, hxL⟩
 show W _ _ _ _ _ [(10, .int .i64 ((l.length : Int))), (9, v), (4, .int .i64 ((msum l i))), (11, .int .i64 ((i : Int)))] _
 refine Wr ?_
 refine Ly (Y_lss rfl rfl) ?_
 refine L_nil (X_then (W_seq ?_))
 refine W_splitd rfl (fun c => ?_) (fun c => ?_)
 ·refine Ws ?_
  refine W_sub _ (tk4 10 9 4 11) ?_
  refine W_seq (W_block (W_seq (W_region ?_)))
  refine Ly (Y_idxr Tryz.underlying25 (show _ = some 6 by kernel_rfl) rfl rfl rfl (hl.ext hxL) (by omega) (by omega)) ?_
  refine Ly (Y_ldrA0 (k := ((i : Int)).toNat) (us := [.int .i64 ((at_mem l ((i : Int)).toNat).kind), str ((at_mem l ((i : Int)).toNat).path), .int .i64 ((at_mem l ((i : Int)).toNat).mode), str ((at_mem l ((i : Int)).toNat).target), .int .i64 ((at_mem l ((i : Int)).toNat).size), ((at_mem l ((i : Int)).toNat).dv)]) Tryz.underlying35 rfl (show _ = some 6 by kernel_rfl) rfl rfl (hl.ext hxL) (by omega) rfl) ?_
  refine L_mks (M_alloc (u := .agg #[.int .i64 0, str [], .int .i64 0, str [], .int .i64 0, .slice none 0 0]) (by kernel_rfl)) rfl rfl rfl ?_
  rintro _ h2 ⟨rfl, hn1⟩
  have hk2 : Blk h2 h1.size [.int .i64 0, str [], .int .i64 0, str [], .int .i64 0, .slice none 0 0] := hn1.blk
  refine L_dos (D_store (us := [.int .i64 ((at_mem l ((i : Int)).toNat).kind), str ((at_mem l ((i : Int)).toNat).path), .int .i64 ((at_mem l ((i : Int)).toNat).mode), str ((at_mem l ((i : Int)).toNat).target), .int .i64 ((at_mem l ((i : Int)).toNat).size), ((at_mem l ((i : Int)).toNat).dv)]) (show _ = some 6 by kernel_rfl) rfl rfl rfl (by intro u_ hu_; simp only [List.mem_cons, List.not_mem_nil, or_false] at hu_; rcases hu_ with rfl | rfl | rfl | rfl | rfl | rfl <;> first | rfl | exact ((show Bytes _ ((at_mem l ((i : Int)).toNat).dv) ((at_mem l ((i : Int)).toNat).data) from (hl.ext (hxL.trans hn1.ext)).okat (k := ((i : Int)).toNat) (by omega))).cell1) hk2 (by simp)) rfl rfl ?_
  rintro h3 hp3
  have hk4 : Blk h3 h1.size [.int .i64 ((at_mem l ((i : Int)).toNat).kind), str ((at_mem l ((i : Int)).toNat).path), .int .i64 ((at_mem l ((i : Int)).toNat).mode), str ((at_mem l ((i : Int)).toNat).target), .int .i64 ((at_mem l ((i : Int)).toNat).size), ((at_mem l ((i : Int)).toNat).dv)] := hp3.blk
  refine Nx ?_
  refine W_sub _ (tk5 6 10 9 4 11) ?_
  have hmm := hs _ (mem_getm (l := l) (k := (i : Int).toNat) (by omega))
  refine Wr ?_
  refine Ly (Y_fieldAddr (off := 0) (by kernel_rfl) rfl rfl) ?_
  refine Ly (Y_ldbox (us := [.int .i64 ((at_mem l ((i : Int)).toNat).kind), str ((at_mem l ((i : Int)).toNat).path), .int .i64 ((at_mem l ((i : Int)).toNat).mode), str ((at_mem l ((i : Int)).toNat).target), .int .i64 ((at_mem l ((i : Int)).toNat).size)]) Tryz.underlying32 rfl (show _ = some 5 by kernel_rfl) rfl hk4 rfl) ?_
  refine L_call (E_call (by kernel_rfl) rfl) (entry_Encode _ (hG.ext ((hxL.trans hn1.ext).then' hp3.only (by simp) hxL.size)) (hK.ext ((hxL.trans hn1.ext).then' hp3.only (by simp) hxL.size)) (hN.ext ((hxL.trans hn1.ext).then' hp3.only (by simp) hxL.size)) (hE.ext ((hxL.trans hn1.ext).then' hp3.only (by simp) hxL.size)) (hT.ext ((hxL.trans hn1.ext).then' hp3.only (by simp) hxL.size)) ((at_mem l ((i : Int)).toNat).kind) ((at_mem l ((i : Int)).toNat).path) ((at_mem l ((i : Int)).toNat).mode) ((at_mem l ((i : Int)).toNat).target) ((at_mem l ((i : Int)).toNat).size) (by first | omega | rfl | (simp <;> omega)) (by first | omega | rfl | (simp <;> omega)) (by first | omega | rfl | (simp <;> omega))) rfl rfl rfl ?_
  rintro _ h4 ⟨s05, rfl, hr06, hx7⟩
  refine Mv ?_
  refine Ly (Y_extract (v := s05) rfl rfl) ?_
  refine Ly (Y_extract (v := .int .i64 (fcheck ((at_mem l ((i : Int)).toNat).kind) ((at_mem l ((i : Int)).toNat).path) ((at_mem l ((i : Int)).toNat).mode) ((at_mem l ((i : Int)).toNat).target) ((at_mem l ((i : Int)).toNat).size))) rfl rfl) ?_
  refine Av ?_
  refine Av ?_
  refine Nx ?_
  refine W_sub _ (tk7 8 7 6 10 9 4 11) ?_
  refine W_seq (W_seq (W_region ?_))
  refine Mv ?_
  refine Ly (Y_neq rfl rfl) ?_
  refine Nx ?_
  refine W_sub _ (tk8 22 8 7 6 10 9 4 11) ?_
  refine W_splitd rfl (fun e => ?_) (fun e => ?_)
  ·refine Wr ?_
   refine Mv ?_
   refine Av ?_
   refine Av ?_
   refine Nx ?_
   refine W_sub _ (tk8 3 2 7 6 10 9 4 11) ?_
   refine W_ret (X_then_ret (X_block_ret (X_then_ret (X_then_ret (X_block_ret (X_then_ret ?_))))))
   refine X_ret2 rfl rfl rfl ?_
   have hr := ms_bad (l := l) (i := i) h0 (by omega) e
   have me1 := ((hxL.trans hn1.ext).then' hp3.only (by simp) hxL.size).trans hx7
   exact ⟨by rw [hr.1, hr.2]; rfl, me1⟩
  refine Ws ?_
  refine W_sub _ (tk6 7 6 10 9 4 11) ?_
  have hz : mchk (at_mem l i) = 0 := Classical.not_not.1 e
  have hb2 := mbl_ok hz
  have hm2 := msum_le h0
  have hb3 := nblk_le (show mchk (at_mem l (i : Int).toNat) = 0 from hz)
  have hb4 : mbl (at_mem l i) = ((eenc (at_mem l (i : Int).toNat).kind (at_mem l (i : Int).toNat).path (at_mem l (i : Int).toNat).mode (at_mem l (i : Int).toNat).target (at_mem l (i : Int).toNat).size).length : Int) + nblk (at_mem l (i : Int).toNat).size * 512 := rfl
  refine W_region ?_
  refine Mv ?_
  refine Mv ?_
  refine Ly (Y_len Tryz.underlying33 rfl hr06) ?_
  refine Ly (Y_fieldAddr (off := 0) (by kernel_rfl) rfl rfl) ?_
  refine Ly (Y_fieldAddr (off := 4) (by kernel_rfl) rfl rfl) ?_
  refine Ly (Y_ldblk Tryz.underlying2 rfl rfl (hk4.ext hx7) rfl) ?_
  refine L_call (E_call (by kernel_rfl) rfl) (payload_Blocks _ ((at_mem l ((i : Int)).toNat).size) (by first | omega | rfl | (simp <;> omega))) rfl rfl rfl ?_
  rintro _ h4 ⟨rfl, rfl⟩
  refine Ly (Y_mul rfl rfl (by omega) (by omega)) ?_
  refine Ly (Y_add rfl rfl (by omega) (by omega)) ?_
  refine Ly (Y_add rfl rfl (by omega) (by omega)) ?_
  refine Av ?_
  refine L_nil (X_block (X_then ?_))
  refine W_sub _ (tk4 4 10 9 11) ?_
  refine W_region ?_
  refine Ly (Y_add rfl rfl (by omega) (by omega)) ?_
  refine Mv ?_
  refine L_nil ?_
  refine X_loop (i + 1) (tk4 10 9 4 11) ?_ ?_
  ·exact ⟨⟨by omega, below_succ h0 hz⟩, (((hxL.trans hn1.ext).then' hp3.only (by simp) hxL.size).trans hx7)⟩
  (try dsimp only)
  omega
 refine W_exit ?_
 refine X_then_exit (X_then_exit ?_)
 refine X_block_hit ?_
 refine X_then ?_
 refine W_sub _ (tk1 4) ?_
 refine Wr ?_
 refine Mv ?_
 refine Av ?_
 refine Av ?_
 refine Nx ?_
 refine W_sub _ (tk2 3 2) ?_
 refine W_ret ?_
 refine X_ret2 rfl rfl rfl ?_
 have hr := ms_end (l := l) (fun k hk => h0 k (by omega))
 exact ⟨by rw [hr.1, hr.2, show i = l.length by omega], hxL⟩
end Go.Xp

/- Layer 14 (flatten): sizes add. -/
set_option linter.unusedSimpArgs false
set_option linter.unusedVariables false
set_option linter.unusedSectionVars false
namespace Go.Xp
open Go.Proofs

theorem mem_app {A B : List Mem} {k : Nat} (h : k < A.length) : at_mem (A ++ B) k = at_mem A k := by
  unfold at_mem; rw [List.getD_eq_getElem?_getD, List.getElem?_append_left h, List.getD_eq_getElem?_getD]
theorem mem_app2 {A B : List Mem} {k : Nat} : at_mem (A ++ B) (A.length + k) = at_mem B k := by
  unfold at_mem; rw [List.getD_eq_getElem?_getD, List.getElem?_append_right (by omega), Nat.add_sub_cancel_left, List.getD_eq_getElem?_getD]
theorem ms_all {l : List Mem} (h : mserr l = 0) : ∀ k, k < l.length → mchk (at_mem l k) = 0 := fun k hk => by
  obtain ⟨h1, h2, h3, h4⟩ := fbad_spec (fun i => mchk (at_mem l i)) l.length 0
  unfold mserr mbad at h
  split at h
  · rename_i q; exact absurd h (h4 (by omega))
  · exact h3 k (by omega) (by omega)
theorem ms_first {l : List Mem} (h : ¬ mserr l = 0) : ∃ i, i < l.length ∧ (∀ k, k < i → mchk (at_mem l k) = 0) ∧ ¬ mchk (at_mem l i) = 0 ∧ mserr l = mchk (at_mem l i) := by
  obtain ⟨h1, h2, h3, h4⟩ := fbad_spec (fun i => mchk (at_mem l i)) l.length 0
  unfold mserr at h ⊢
  split at h
  · rename_i q
    refine ⟨mbad l, q, fun k hk => h3 k (by omega) hk, h, ?_⟩
    rw [if_pos q]
  · exact absurd rfl h
theorem ms_app_a {A B : List Mem} (h : ¬ mserr A = 0) : msize (A ++ B) = 0 ∧ mserr (A ++ B) = mserr A := by
  obtain ⟨i, hi, h0, hf, he⟩ := ms_first h
  have := ms_bad (l := A ++ B) (i := i) (fun k hk => by rw [mem_app (by omega)]; exact h0 k hk) (by rw [List.length_append]; omega) (by rw [mem_app hi]; exact hf)
  rw [mem_app hi] at this
  rw [he]; exact this
theorem ms_app_b {A B : List Mem} (h : mserr A = 0) (h2 : ¬ mserr B = 0) : msize (A ++ B) = 0 ∧ mserr (A ++ B) = mserr B := by
  have ha := ms_all h
  obtain ⟨i, hi, h0, hf, he⟩ := ms_first h2
  have := ms_bad (l := A ++ B) (i := A.length + i) (fun k hk => by
    by_cases q : k < A.length
    · rw [mem_app q]; exact ha k q
    · have e := mem_app2 (A := A) (B := B) (k := k - A.length)
      rw [show A.length + (k - A.length) = k by omega] at e
      rw [e]; exact h0 _ (by omega)) (by rw [List.length_append]; omega) (by rw [mem_app2]; exact hf)
  rw [mem_app2] at this
  rw [he]; exact this
theorem msum_app (A B : List Mem) : ∀ k, msum (A ++ B) (A.length + k) = msum A A.length + msum B k - 1024
  | 0 => by
    have : ∀ k, k ≤ A.length → msum (A ++ B) k = msum A k := by
      intro k
      induction k with
      | zero => intro _; rfl
      | succ k ih => intro h; show msum (A ++ B) k + mbl (at_mem (A ++ B) k) = msum A k + mbl (at_mem A k); rw [ih (by omega), mem_app (by omega)]
    rw [Nat.add_zero, this _ (Nat.le_refl _)]
    show _ = _ + 1024 - 1024; omega
  | k + 1 => by
    show msum (A ++ B) (A.length + k) + mbl (at_mem (A ++ B) (A.length + k)) = msum A A.length + (msum B k + mbl (at_mem B k)) - 1024
    rw [msum_app A B k, mem_app2]; omega
theorem ms_app_0 {A B : List Mem} (h : mserr A = 0) (h2 : mserr B = 0) : mserr (A ++ B) = 0 ∧ msize (A ++ B) = msize A + msize B - 1024 ∧ (1024 ≤ msize A ∧ msize A % 512 = 0) ∧ (msize A ≤ 1024 + 2000000000000 * (A.length : Int) ∧ 0 ≤ msize B ∧ msize B ≤ 1024 + 2000000000000 * (B.length : Int)) := by
  have ha := ms_all h
  have hb := ms_all h2
  have e1 := ms_end ha
  have e2 := ms_end hb
  have e3 := ms_end (l := A ++ B) (fun k hk => by
    rw [List.length_append] at hk
    by_cases q : k < A.length
    · rw [mem_app q]; exact ha k q
    · have e := mem_app2 (A := A) (B := B) (k := k - A.length)
      rw [show A.length + (k - A.length) = k by omega] at e
      rw [e]; exact hb _ (by omega))
  have m1 := msum_le (l := A) ha
  have m2 := msum_le (l := B) hb
  rw [e1.1, e2.1, e3.1, List.length_append, msum_app]
  exact ⟨e3.2, rfl, ⟨m1.1, m1.2.2⟩, m1.2.1, by omega, m2.2.1⟩

set_option maxRecDepth 100000 in
theorem flattenSizeAdds (h : Heap) (hG : Glb h) (hK : GlbK h) (hN : GlbN h) (hE : GlbE h) (hT : GlbT h) (v : Value) (A : List Mem) (ha : Rows memS h v A) (u : Value) (B : List Mem) (hb : Rows memS h u B) (hn1 : A.length ≤ 1048576) (hs1 : ∀ x ∈ A, x.path.length ≤ 140737488355328 ∧ x.target.length ≤ 140737488355328 ∧ x.data.length ≤ 140737488355328 ∧ -9223372036854775808 ≤ x.size ∧ x.size ≤ 9223372036854775807) (hn2 : B.length ≤ 1048576) (hs2 : ∀ x ∈ B, x.path.length ≤ 140737488355328 ∧ x.target.length ≤ 140737488355328 ∧ x.data.length ≤ 140737488355328 ∧ -9223372036854775808 ≤ x.size ∧ x.size ≤ 9223372036854775807) : Cal Tryz.prog 5 #[v, u] h (fun v h' => v = .bool true ∧ Ext h h') := by
 have hsAB : ∀ x ∈ A ++ B, x.path.length ≤ 140737488355328 ∧ x.target.length ≤ 140737488355328 ∧ x.data.length ≤ 140737488355328 ∧ -9223372036854775808 ≤ x.size ∧ x.size ≤ 9223372036854775807 := fun x hx => (List.mem_append.1 hx).elim (hs1 x) (hs2 x)
 have hlAB : (A ++ B).length = A.length + B.length := List.length_append
 refine Cal_enter (args := [v, u]) Tryz.func5 rfl rfl rfl (fun σ => ?_)
 refine Wr ?_
 refine Av ?_
 refine L_nil (X_then (W_seq (W_seq (W_region ?_))))
 refine L_mks (M_litr0 (S := memS) (cells := []) (E := 35) rfl rfl (fun _ => by kernel_rfl)) rfl rfl rfl ?_
 rintro v1 h1 ⟨ho2, hx3⟩
 refine Mv ?_
 refine L_mks (M_appe (z := 6) (bytes := 80) (z0 := (.agg #[.int .i64 0, str [], .int .i64 0, str [], .int .i64 0, .slice none 0 0])) Tryz.underlying25 (by unfold elemRow; kernel_rfl) rfl rfl (by decide) rfl rfl ho2 (ha.ext hx3) hx3.size (by first | (simp; done) | (simp; omega) | omega)) rfl rfl rfl ?_
 rintro v4 h2 ⟨ho5, hx6⟩
 refine Mv ?_
 refine L_mks (M_apprO (z := 6) (bytes := 80) (z0 := (.agg #[.int .i64 0, str [], .int .i64 0, str [], .int .i64 0, .slice none 0 0])) Tryz.underlying25 (by unfold elemRow; kernel_rfl) rfl rfl (by decide) rfl rfl ho5 (hb.ext (hx3.trans hx6)) (Nat.le_trans hx3.size hx6.size) (by first | (simp; done) | (simp; omega) | omega) (hx3.trans hx6) (Nat.le_refl _) (fun x hx => ha.2 x hx) (fun x hx => hb.2 x hx)) rfl rfl rfl ?_
 rintro v7 h3 ha8
 refine Ly (Y_lenr Tryz.underlying25 rfl ha8.own.rows) ?_
 refine Mv ?_
 refine Nx ?_
 refine W_sub _ (tk6 19 18 17 4 0 1) ?_
 refine W_block ?_
 refine W_loop (S := Nat) (fun i => [(18, .int .i64 (((A ++ B).length : Int))), (17, v7), (0, v), (1, u), (19, .int .i64 ((i : Int)))]) (fun i h' => (i ≤ (A ++ B).length ∧ (0 < i → A.length + B.length ≤ 20)) ∧ Ext h3 h') (fun i => (A ++ B).length - i) 0 (tk5 18 17 0 1 19) ?_ ?_
 ·exact ⟨⟨Nat.zero_le _, fun q => absurd q (Nat.not_lt_zero _)⟩, Ext.refl _⟩
 rintro i h4 ⟨⟨hi, h0⟩, hxL⟩
 show W _ _ _ _ _ [(18, .int .i64 (((A ++ B).length : Int))), (17, v7), (0, v), (1, u), (19, .int .i64 ((i : Int)))] _
 refine Wr ?_
 refine Ly (Y_lss rfl rfl) ?_
 refine L_nil (X_then (W_seq ?_))
 refine W_splitd rfl (fun c => ?_) (fun c => ?_)
 ·refine Ws ?_
  refine W_sub _ (tk5 18 17 0 1 19) ?_
  refine W_seq (W_block (W_seq (W_region ?_)))
  refine Ly (Y_idxr Tryz.underlying25 (show _ = some 6 by kernel_rfl) rfl rfl rfl (ha8.own.rows.ext hxL) (by omega) (by omega)) ?_
  refine Ly (Y_ldrA0 (k := ((i : Int)).toNat) (us := [.int .i64 ((at_mem (A ++ B) ((i : Int)).toNat).kind), str ((at_mem (A ++ B) ((i : Int)).toNat).path), .int .i64 ((at_mem (A ++ B) ((i : Int)).toNat).mode), str ((at_mem (A ++ B) ((i : Int)).toNat).target), .int .i64 ((at_mem (A ++ B) ((i : Int)).toNat).size), ((at_mem (A ++ B) ((i : Int)).toNat).dv)]) Tryz.underlying35 rfl (show _ = some 6 by kernel_rfl) rfl rfl (ha8.own.rows.ext hxL) (by omega) rfl) ?_
  refine L_mks (M_alloc (u := .agg #[.int .i64 0, str [], .int .i64 0, str [], .int .i64 0, .slice none 0 0]) (by kernel_rfl)) rfl rfl rfl ?_
  rintro _ h5 ⟨rfl, hn9⟩
  have hk10 : Blk h5 h4.size [.int .i64 0, str [], .int .i64 0, str [], .int .i64 0, .slice none 0 0] := hn9.blk
  refine L_dos (D_store (us := [.int .i64 ((at_mem (A ++ B) ((i : Int)).toNat).kind), str ((at_mem (A ++ B) ((i : Int)).toNat).path), .int .i64 ((at_mem (A ++ B) ((i : Int)).toNat).mode), str ((at_mem (A ++ B) ((i : Int)).toNat).target), .int .i64 ((at_mem (A ++ B) ((i : Int)).toNat).size), ((at_mem (A ++ B) ((i : Int)).toNat).dv)]) (show _ = some 6 by kernel_rfl) rfl rfl rfl (by intro u_ hu_; simp only [List.mem_cons, List.not_mem_nil, or_false] at hu_; rcases hu_ with rfl | rfl | rfl | rfl | rfl | rfl <;> first | rfl | exact ((show Bytes _ ((at_mem (A ++ B) ((i : Int)).toNat).dv) ((at_mem (A ++ B) ((i : Int)).toNat).data) from (ha8.own.rows.ext (hxL.trans hn9.ext)).okat (k := ((i : Int)).toNat) (by omega))).cell1) hk10 (by simp)) rfl rfl ?_
  rintro h6 hp11
  have hk12 : Blk h6 h4.size [.int .i64 ((at_mem (A ++ B) ((i : Int)).toNat).kind), str ((at_mem (A ++ B) ((i : Int)).toNat).path), .int .i64 ((at_mem (A ++ B) ((i : Int)).toNat).mode), str ((at_mem (A ++ B) ((i : Int)).toNat).target), .int .i64 ((at_mem (A ++ B) ((i : Int)).toNat).size), ((at_mem (A ++ B) ((i : Int)).toNat).dv)] := hp11.blk
  refine Nx ?_
  refine W_sub _ (tk6 6 18 17 0 1 19) ?_
  have hmm := hsAB _ (mem_getm (l := A ++ B) (k := (i : Int).toNat) (by omega))
  refine W_cut (S := Unit) (fun _ => [(34, .bool (decide ((0 < (if 70000 < ((at_mem (A ++ B) ((i : Int)).toNat).path).length + ((at_mem (A ++ B) ((i : Int)).toNat).target).length then 1 else 0 : Int)) ∨ (20 < ((A.length : Int) + (B.length : Int)))))), (18, .int .i64 (((A ++ B).length : Int))), (17, v7), (0, v), (1, u), (19, .int .i64 ((i : Int)))]) (fun _ h' => Ext h6 h') ?_ ?_
  ·refine W_region ?_
   refine Ly (Y_fieldAddr (off := 0) (by kernel_rfl) rfl rfl) ?_
   refine Ly (Y_ldbox (us := [.int .i64 ((at_mem (A ++ B) ((i : Int)).toNat).kind), str ((at_mem (A ++ B) ((i : Int)).toNat).path), .int .i64 ((at_mem (A ++ B) ((i : Int)).toNat).mode), str ((at_mem (A ++ B) ((i : Int)).toNat).target), .int .i64 ((at_mem (A ++ B) ((i : Int)).toNat).size)]) Tryz.underlying32 rfl (show _ = some 5 by kernel_rfl) rfl hk12 rfl) ?_
   refine L_call (E_call (by kernel_rfl) rfl) (law10_TooLarge _ ((at_mem (A ++ B) ((i : Int)).toNat).kind) ((at_mem (A ++ B) ((i : Int)).toNat).path) ((at_mem (A ++ B) ((i : Int)).toNat).mode) ((at_mem (A ++ B) ((i : Int)).toNat).target) ((at_mem (A ++ B) ((i : Int)).toNat).size) (by first | omega | rfl | (simp <;> omega)) (by first | omega | rfl | (simp <;> omega))) rfl rfl rfl ?_
   rintro _ h7 ⟨rfl, hx13⟩
   refine Ly (Y_gtr rfl rfl) ?_
   refine Mv ?_
   refine L_splitd (d := 27) rfl (fun g0 => ?_) (fun g0 => ?_)
   ·refine Skp ?_
    refine Skp ?_
    refine Skp ?_
    refine Skp ?_
    refine Skp ?_
    refine Skp ?_
    refine Ly (Y_pick_t rfl rfl) ?_
    refine L_nil ?_
    exact X_cut () (sk1 34 (lkb rfl (by first | (simp only [eq_true g0, SB]; done) | (simp only [eq_true g0, SB]; rfl))) (sk1 18 rfl (sk1 17 rfl (sk1 0 rfl (sk1 1 rfl (tk1 19)))))) hx13
   refine Ly (Y_move rfl) ?_
   have me1 := Nat.le_trans (Nat.le_trans hx3.size hx6.size) ha8.only.size
   have me2 := ((hx3.trans hx6).then' ha8.only ha8.ge (Nat.le_refl _)).trans hxL
   have me3 := (me2.trans hn9.ext).then' hp11.only (by simp) (Nat.le_trans me1 hxL.size)
   refine Ly (Y_lenr Tryz.underlying25 rfl (ha.ext (me3.trans hx13))) ?_
   refine Mv ?_
   refine Ly (Y_lenr Tryz.underlying25 rfl (hb.ext (me3.trans hx13))) ?_
   refine Ly (Y_add rfl rfl (by omega) (by omega)) ?_
   refine Ly (Y_gtr rfl rfl) ?_
   refine Ly (Y_pick_f rfl rfl) ?_
   refine L_nil ?_
   exact X_cut () (sk1 34 (lkb rfl (by first | (simp only [eq_false g0, SB]; done) | (simp only [eq_false g0, SB]; rfl))) (sk1 18 rfl (sk1 17 rfl (sk1 0 rfl (sk1 1 rfl (tk1 19)))))) hx13
  rintro _ h8 hx14
  show W _ _ _ _ _ [(34, .bool (decide ((0 < (if 70000 < ((at_mem (A ++ B) ((i : Int)).toNat).path).length + ((at_mem (A ++ B) ((i : Int)).toNat).target).length then 1 else 0 : Int)) ∨ (20 < ((A.length : Int) + (B.length : Int)))))), (18, .int .i64 (((A ++ B).length : Int))), (17, v7), (0, v), (1, u), (19, .int .i64 ((i : Int)))] _
  refine W_splitd rfl (fun g => ?_) (fun g => ?_)
  ·refine Wr ?_
   have me4 := Nat.le_trans (Nat.le_trans hx3.size hx6.size) ha8.only.size
   have me5 := ((hx3.trans hx6).then' ha8.only ha8.ge (Nat.le_refl _)).trans hxL
   have me6 := (me5.trans hn9.ext).then' hp11.only (by simp) (Nat.le_trans me4 hxL.size)
   refine L_call (E_call (by kernel_rfl) rfl) (law14_alive _ (hK.ext (me6.trans hx14)) (hE.ext (me6.trans hx14))) rfl rfl rfl ?_
   rintro _ h9 ⟨rfl, hx15⟩
   refine Av ?_
   refine Nx ?_
   refine W_sub _ (tk6 4 18 17 0 1 19) ?_
   refine W_ret (X_block_ret (X_then_ret (X_then_ret (X_block_ret (X_then_ret ?_)))))
   refine X_ret1 rfl rfl ?_
   exact ⟨rfl, ((me6.trans hx14).trans hx15)⟩
  refine W_skip (X_block (X_then ?_))
  refine W_sub _ (tk5 18 17 0 1 19) ?_
  refine W_region ?_
  refine Ly (Y_add rfl rfl (by omega) (by omega)) ?_
  refine Mv ?_
  refine L_nil ?_
  refine X_loop (i + 1) (tk5 18 17 0 1 19) ?_ ?_
  ·exact ⟨⟨by omega, fun _ => by have q : ¬ ((20 : Int) < (A.length : Int) + (B.length : Int)) := fun r => g (.inr r); omega⟩, (((hxL.trans hn9.ext).then' hp11.only (by simp) hxL.size).trans hx14)⟩
  (try dsimp only)
  omega
 refine W_exit ?_
 refine X_then_exit (X_then_exit ?_)
 refine X_block_hit ?_
 refine X_then ?_
 refine W_sub _ (tk2 0 1) ?_
 have hlen : A.length + B.length ≤ 20 := by by_cases q : 0 < i; (have := h0 q; omega); omega
 refine Wr ?_
 refine Mv ?_
 have me7 := ((hx3.trans hx6).then' ha8.only ha8.ge (Nat.le_refl _)).trans hxL
 refine L_call (E_call (by kernel_rfl) rfl) (flatten_Size _ (hG.ext me7) (hK.ext me7) (hN.ext me7) (hE.ext me7) (hT.ext me7) v A (ha.ext me7) (by omega) hs1) rfl rfl rfl ?_
 rintro _ h10 ⟨rfl, hx16⟩
 refine Mv ?_
 refine Ly (Y_extract (v := .int .i64 (msize A)) rfl rfl) ?_
 refine Ly (Y_extract (v := .int .i64 (mserr A)) rfl rfl) ?_
 refine Av ?_
 refine Av ?_
 refine Nx ?_
 refine W_sub _ (tk4 8 7 0 1) ?_
 refine Wr ?_
 refine Mv ?_
 refine L_call (E_call (by kernel_rfl) rfl) (flatten_Size _ (hG.ext (me7.trans hx16)) (hK.ext (me7.trans hx16)) (hN.ext (me7.trans hx16)) (hE.ext (me7.trans hx16)) (hT.ext (me7.trans hx16)) u B (hb.ext (me7.trans hx16)) (by omega) hs2) rfl rfl rfl ?_
 rintro _ h11 ⟨rfl, hx17⟩
 refine Mv ?_
 refine Ly (Y_extract (v := .int .i64 (msize B)) rfl rfl) ?_
 refine Ly (Y_extract (v := .int .i64 (mserr B)) rfl rfl) ?_
 refine Av ?_
 refine Av ?_
 refine Nx ?_
 refine W_sub _ (tk6 10 9 8 7 0 1) ?_
 refine Wr ?_
 refine L_mks (M_litr0 (S := memS) (cells := []) (E := 35) rfl rfl (fun _ => by kernel_rfl)) rfl rfl rfl ?_
 rintro v18 h12 ⟨ho19, hx20⟩
 refine Mv ?_
 refine L_mks (M_appe (z := 6) (bytes := 80) (z0 := (.agg #[.int .i64 0, str [], .int .i64 0, str [], .int .i64 0, .slice none 0 0])) Tryz.underlying25 (by unfold elemRow; kernel_rfl) rfl rfl (by decide) rfl rfl ho19 (ha.ext (((me7.trans hx16).trans hx17).trans hx20)) hx20.size (by first | (simp; done) | (simp; omega) | omega)) rfl rfl rfl ?_
 rintro v21 h13 ⟨ho22, hx23⟩
 refine Mv ?_
 have me8 := Nat.le_trans (Nat.le_trans hx3.size hx6.size) ha8.only.size
 have me9 := Nat.le_trans (Nat.le_trans (Nat.le_trans me8 hxL.size) hx16.size) hx17.size
 refine L_mks (M_apprO (z := 6) (bytes := 80) (z0 := (.agg #[.int .i64 0, str [], .int .i64 0, str [], .int .i64 0, .slice none 0 0])) Tryz.underlying25 (by unfold elemRow; kernel_rfl) rfl rfl (by decide) rfl rfl ho22 (hb.ext ((((me7.trans hx16).trans hx17).trans hx20).trans hx23)) (Nat.le_trans hx20.size hx23.size) (by first | (simp; done) | (simp; omega) | omega) ((((me7.trans hx16).trans hx17).trans hx20).trans hx23) me9 (fun x hx => ha.2 x hx) (fun x hx => hb.2 x hx)) rfl rfl rfl ?_
 rintro v24 h14 ha25
 have me10 := ((((me7.trans hx16).trans hx17).trans hx20).trans hx23).then' ha25.only ha25.ge me9
 refine L_call (E_call (by kernel_rfl) rfl) (flatten_Size _ (hG.ext me10) (hK.ext me10) (hN.ext me10) (hE.ext me10) (hT.ext me10) v24 (A ++ B) ha25.own.rows (by rw [hlAB]; omega) hsAB) rfl rfl rfl ?_
 rintro _ h15 ⟨rfl, hx26⟩
 refine Mv ?_
 refine Ly (Y_extract (v := .int .i64 (msize (A ++ B))) rfl rfl) ?_
 refine Ly (Y_extract (v := .int .i64 (mserr (A ++ B))) rfl rfl) ?_
 refine Av ?_
 refine Av ?_
 refine Nx ?_
 refine W_sub _ (tk6 12 11 10 9 8 7) ?_
 refine W_seq ?_
 refine W_cut (S := Unit) (fun _ => [(61, .bool (decide ((¬ (mserr A) = 0) ∨ (¬ (mserr B) = 0)))), (12, .int .i64 (mserr (A ++ B))), (11, .int .i64 (msize (A ++ B))), (10, .int .i64 (mserr B)), (9, .int .i64 (msize B)), (8, .int .i64 (mserr A)), (7, .int .i64 (msize A))]) (fun _ h' => h' = h15) ?_ ?_
 ·refine W_region ?_
  refine Mv ?_
  refine Ly (Y_neq rfl rfl) ?_
  refine Mv ?_
  refine L_splitd (d := 58) rfl (fun e0 => ?_) (fun e0 => ?_)
  ·refine Skp ?_
   refine Skp ?_
   refine Ly (Y_pick_t rfl rfl) ?_
   refine L_nil ?_
   exact X_cut () (sk1 61 (lkb rfl (by first | (simp only [eq_true e0, SB]; done) | (simp only [eq_true e0, SB]; rfl))) (sk1 12 rfl (sk1 11 rfl (sk1 10 rfl (sk1 9 rfl (sk1 8 rfl (tk1 7))))))) rfl
  refine Ly (Y_move rfl) ?_
  refine Ly (Y_neq rfl rfl) ?_
  refine Ly (Y_pick_f rfl rfl) ?_
  refine L_nil ?_
  exact X_cut () (sk1 61 (lkb rfl (by first | (simp only [eq_false e0, SB]; done) | (simp only [eq_false e0, SB]; rfl))) (sk1 12 rfl (sk1 11 rfl (sk1 10 rfl (sk1 9 rfl (sk1 8 rfl (tk1 7))))))) rfl
 rintro _ h15 rfl
 show W _ _ _ _ _ [(61, .bool (decide ((¬ (mserr A) = 0) ∨ (¬ (mserr B) = 0)))), (12, .int .i64 (mserr (A ++ B))), (11, .int .i64 (msize (A ++ B))), (10, .int .i64 (mserr B)), (9, .int .i64 (msize B)), (8, .int .i64 (mserr A)), (7, .int .i64 (msize A))] _
 refine W_splitd rfl (fun e => ?_) (fun e => ?_)
 ·refine W_seq ?_
  by_cases hA : mserr A = 0
  ·have hB : ¬ mserr B = 0 := fun q => e.elim (fun r => r hA) (fun r => r q)
   refine W_region ?_
   refine L_call (E_call (by kernel_rfl) rfl) (law14_alive _ (hK.ext (me10.trans hx26)) (hE.ext (me10.trans hx26))) rfl rfl rfl ?_
   rintro _ h16 ⟨rfl, hx27⟩
   refine Mv ?_
   refine Mv ?_
   refine Ly (Y_eql rfl rfl) ?_
   refine Ly (Y_pick_t rfl rfl) ?_
   refine Mv ?_
   refine L_known (d := 67) true rfl (by exact decide_eq_true (by exact (ms_app_b hA hB).1)) ?_
   refine Mv ?_
   refine Ly (Y_neq rfl rfl) ?_
   refine Mv ?_
   refine L_known (d := 70) false rfl (by exact decide_eq_false (by exact fun q => q hA)) ?_
   refine Skp ?_
   refine Skp ?_
   refine Skp ?_
   refine Ly (Y_pick_f rfl rfl) ?_
   refine Mv ?_
   refine Mv ?_
   refine Ly (Y_eql rfl rfl) ?_
   refine Mv ?_
   refine L_known (d := 78) true rfl (by exact decide_eq_true (by exact hA)) ?_
   refine Mv ?_
   refine Mv ?_
   refine Ly (Y_eql rfl rfl) ?_
   refine Ly (Y_pick_t rfl rfl) ?_
   refine Ly (Y_pick_f rfl rfl) ?_
   refine Ly (Y_pick_t rfl rfl) ?_
   refine Av ?_
   refine Nx ?_
   refine W_sub _ (tk5 4 12 11 9 7) ?_
   refine W_ret (X_then_ret ?_)
   refine X_ret1 rfl rfl ?_
   exact ⟨congrArg Value.bool (decide_eq_true (ms_app_b hA hB).2), ((me10.trans hx26).trans hx27)⟩
  refine W_region ?_
  refine L_call (E_call (by kernel_rfl) rfl) (law14_alive _ (hK.ext (me10.trans hx26)) (hE.ext (me10.trans hx26))) rfl rfl rfl ?_
  rintro _ h17 ⟨rfl, hx28⟩
  refine Mv ?_
  refine Mv ?_
  refine Ly (Y_eql rfl rfl) ?_
  refine Ly (Y_pick_t rfl rfl) ?_
  refine Mv ?_
  refine L_known (d := 67) true rfl (by exact decide_eq_true (by exact (ms_app_a hA).1)) ?_
  refine Mv ?_
  refine Ly (Y_neq rfl rfl) ?_
  refine Mv ?_
  refine L_known (d := 70) true rfl (by exact decide_eq_true (by exact hA)) ?_
  refine Mv ?_
  refine Mv ?_
  refine Ly (Y_eql rfl rfl) ?_
  refine Ly (Y_pick_t rfl rfl) ?_
  refine Mv ?_
  refine L_known (d := 75) true rfl (by exact decide_eq_true (by exact (ms_app_a hA).2)) ?_
  refine Skp ?_
  refine Skp ?_
  refine Skp ?_
  refine Skp ?_
  refine Skp ?_
  refine Skp ?_
  refine Skp ?_
  refine Ly (Y_pick_t rfl rfl) ?_
  refine Ly (Y_pick_t rfl rfl) ?_
  refine Av ?_
  refine Nx ?_
  refine W_sub _ (tk5 4 12 11 9 7) ?_
  refine W_ret (X_then_ret ?_)
  refine X_ret1 rfl rfl ?_
  exact ⟨rfl, ((me10.trans hx26).trans hx28)⟩
 refine Ws ?_
 refine W_sub _ (tk4 12 11 9 7) ?_
 have h3 := ms_app_0 (A := A) (B := B) (Classical.not_not.1 fun q => e (.inl q)) (Classical.not_not.1 fun q => e (.inr q))
 refine Wr ?_
 refine L_call (E_call (by kernel_rfl) rfl) (law14_alive _ (hK.ext (me10.trans hx26)) (hE.ext (me10.trans hx26))) rfl rfl rfl ?_
 rintro _ h18 ⟨rfl, hx29⟩
 refine Mv ?_
 refine Mv ?_
 refine Ly (Y_eql rfl rfl) ?_
 refine Ly (Y_pick_t rfl rfl) ?_
 refine Mv ?_
 refine L_known (d := 90) true rfl (by exact decide_eq_true (by exact h3.1)) ?_
 refine Mv ?_
 refine Mv ?_
 refine Mv ?_
 refine Ly (Y_add rfl rfl (by omega) (by omega)) ?_
 refine Ly (Y_sub rfl rfl (by omega) (by omega)) ?_
 refine Ly (Y_eql rfl rfl) ?_
 refine Ly (Y_pick_t rfl rfl) ?_
 refine Mv ?_
 refine L_known (d := 98) true rfl (by exact decide_eq_true (by exact h3.2.1)) ?_
 refine Mv ?_
 refine Ly (Y_geq rfl rfl) ?_
 refine Ly (Y_pick_t rfl rfl) ?_
 refine Mv ?_
 refine L_known (d := 102) true rfl (by exact decide_eq_true (by exact h3.2.2.1.1)) ?_
 refine Mv ?_
 refine Ly (Y_rem rfl rfl (by omega) (by omega)) ?_
 refine Ly (Y_eql rfl rfl) ?_
 refine Ly (Y_pick_t rfl rfl) ?_
 refine Av ?_
 refine Nx ?_
 refine W_sub _ (tk1 4) ?_
 refine W_ret ?_
 refine X_ret1 rfl rfl ?_
 exact ⟨congrArg Value.bool (decide_eq_true (by omega)), ((me10.trans hx26).trans hx29)⟩
end Go.Xp
