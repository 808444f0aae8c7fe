/- tree.Equal and the law that Canon and Equal are the reference's: what the code does. -/
import Derived.Test.YtknimfbagbkjfaaGreatDoorCanL
import Derived.Test.YtknimfbagbkjfaaGreatDoorTreeV
import Derived.Test.YtknimfbagbkjfaaGreatDoorFlaM
import Derived.Test.YtknimfbagbkjfaaGreatDoorEncP
set_option linter.unusedSimpArgs false
set_option linter.unusedVariables false
set_option linter.unusedSectionVars false
namespace Go.Xp
open Go.Proofs

theorem tree_Canon (h : Heap) (l : Value) (L : List Nod) (hL : Rows nodS h l L) (hm : L.length ≤ 1000000000) (hs : ∀ x ∈ L, x.path.length ≤ 100000000000 ∧ x.target.length ≤ 100000000000 ∧ x.data.length ≤ 100000000000) :
    Cal Tryz.prog 16 #[l] h (fun v h' => ∃ s0 L0, v = s0 ∧ Rows nodS h' s0 L0 ∧ (L0.length = L.length ∧ L0.map er = cno L) ∧ Ext h h') :=
  (tree_CanonR h l L hL (by omega) (fun x hx => by have := hs x hx; omega)).mono fun v h' ⟨e, x, L', q2, q1, q3, _⟩ => ⟨v, L', rfl, by rw [e, ← q1]; exact q2.rows rfl, ⟨q1, q3⟩, x⟩

end Go.Xp

/- Rows of structs beside a map: what lasts when the map is written; an append with a proof of its own. -/
set_option linter.unusedSimpArgs false
set_option linter.unusedVariables false
set_option linter.unusedSectionVars false
namespace Go.Xp

instance : Sch2 memS where
  only2 {bs h h' x} o y hb := Row.only2 (show Bytes h x.dv x.data from o) y (fun b e => hb x.dv (by simp [memS]) b e)
theorem Row.noMap {α : Type} [DecidableEq α] {h : Heap} {z : Nat} {v : Value} {n : Nat} {cs : List Value} (x : Row h z v n cs) (hz : 0 < z) {enc : α → Value} {M : Nat} {m : List (α × Value)} (hm : MapK enc h M m) : ∀ b, blk2 v = some b → b ∉ [M] := fun b hb hM => by
  obtain ⟨⟨a, cap, rfl, h1, h2, h3⟩, h4⟩ := x
  cases a with
  | none => cases hb
  | some ad =>
    by_cases hn : n = 0
    · simp [blk2, hn] at hb
    · simp [blk2, hn] at hb
      rw [List.mem_singleton] at hM
      subst hb
      subst hM
      have hl : 0 < cs.length := by rw [h4]; exact Nat.mul_pos (by omega) hz
      have hc : ∃ u, cs[0]? = some u := ⟨cs[0]'hl, List.getElem?_eq_getElem hl⟩
      obtain ⟨u, hu⟩ := hc
      have := (h3 ad rfl).2 0 u hu
      have hg := MapK.get hm
      simp [cellAt, hg] at this
section
variable {α : Type} [DecidableEq α] {enc : α → Value} {H h : Heap} {M : Nat} {m : List (α × Value)}
/-- Rows of nodes that stood beside the map. -/
theorem rowsN_onlyM {v : Value} {L : List Nod} (x : Rows nodS H v L) (y : Only [M] H h) (hm : MapK enc H M m) : Rows nodS h v L :=
  ⟨Row.only2 x.1 y (Row.noMap x.1 (by decide) hm), fun a ha => Row.only2 (show Bytes H a.dv a.data from x.2 a ha) y (Row.noMap (show Bytes H a.dv a.data from x.2 a ha) (by decide) hm)⟩
theorem okM_onlyM {x : Mem} (o : memS.ok H x) (y : Only [M] H h) (hm : MapK enc H M m) : memS.ok h x :=
  Row.only2 (show Bytes H x.dv x.data from o) y (Row.noMap (show Bytes H x.dv x.data from o) (by decide) hm)
theorem rowsO_onlyM {base : Nat} {v : Value} {l : List Mem} (x : RowsO memS H base v l) (y : Only [M] H h) (hlt : M < base) (hm : MapK enc H M m) : RowsO memS h base v l :=
  ⟨Own.only x.1 y (fun b hb hM => by
    have := (Own.lt x.1 b hb).1
    rw [List.mem_singleton.1 hM] at this; omega), fun a ha => okM_onlyM (x.2 a ha) y hm⟩
theorem only_app {h' : Heap} {bs : List Nat} (x : Only [M] H h) (y : Only bs h h') (hge : ∀ b ∈ bs, H.size ≤ b) : Only [M] H h' := Only.trans x y (fun b hb => .inr (hge b hb))
end
section
variable {P : Program} {n : Nat} {e : Env} {h : Heap} {d : Option Tmp} {t : TypeId} {pos : String} {af : Array Edge} {g : Option (Nat × Bool)}
variable {T E : TypeId} {x y : Operand} {v u : Value} {β : Type} {S : Sch β} {l l2 : List β} {z base : Nat}
/-- An append, the data of all elements shown by hand. -/
theorem M_apprG {bytes : Nat} {z0 : Value} (hT : P.underlying T = some (.slice E)) (hE : elemRow P E z bytes z0) (hz : z = S.z) (hzz : z0.cells.size = z) (hbp : 0 < bytes) (hs : ev e x = some v) (hx : ev e y = some u) (hown : RowsO S h base v l) (hr : Rows S h u l2)
    (hbase : base ≤ h.size) (hb : (l.length + l2.length) * bytes ≤ 140737488355328) (hok : ∀ h', Only (blockOf v).toList h h' → (∀ b ∈ (blockOf v).toList, base ≤ b) → ∀ x ∈ l ++ l2, S.ok h' x) :
    Mks P n e h ⟨d, .call { callee := .builtin .append, args := #[x, y], argTypes := #[T, T] }, t, pos, af, g⟩ (fun r h' => AppR S h h' base v r (l ++ l2) ∧ (blockOf r = blockOf v ∨ blockOf r = some h.size)) := fun w a hh he => by
  subst hz
  have h1 : ∀ u ∈ l2.flatMap S.cells, u.oneCell' = true := fun u hu => by
    obtain ⟨x, hx0, hx⟩ := List.mem_flatMap.1 hu
    exact S.one (hr.2 x hx0) u hx
  obtain ⟨r, w', k1, k2, k3⟩ := M_append (P := P) (n := n) (d := d) (t := t) (pos := pos) (af := af) (g := g) hT hE hzz hbp hs hx hown.1 hr.1 h1 hbase hb w a hh he
  have hge : ∀ b ∈ (blockOf v).toList, base ≤ b := fun b hb => (Own.lt hown.1 b (by simpa using hb)).1
  refine ⟨r, w', k1, k2, ⟨⟨?_, hok _ k3.only hge⟩, k3.only, hge⟩, k3.lies⟩
  have := k3.own
  rw [List.flatMap_append, List.length_append]; exact this
end
end Go.Xp

/- Layer 14 (flatten): Members: what the code does, step by step. -/
set_option linter.unusedSimpArgs false
set_option linter.unusedVariables false
set_option linter.unusedSectionVars false
namespace Go.Xp
open Go.Proofs

/-- The members that Members answers. -/
def mbs (l : List Nod) : List Mem := if terr l = 0 then mem1 (cno l) else []
theorem at_erm (L : List Mem) (k : Nat) : at_mem (L.map erm) k = erm (at_mem L k) := by
  unfold at_mem
  rw [List.getD_eq_getElem?_getD, List.getD_eq_getElem?_getD, List.getElem?_map]
  cases L[k]? <;> rfl
theorem mmem_ok {H : Heap} {M : List (Int × List UInt8)} {x : Nod} (o : nodS.ok H x) : memS.ok H (mmem M x) := by
  unfold mmem
  split
  · exact Bytes.nil H
  · split
    · exact o
    · exact Bytes.nil H
theorem mms_ok {H : Heap} {C : List Nod} {i : Nat} (o : ∀ x ∈ mms C i, memS.ok H x) (h : nodS.ok H (at_nod C i)) : ∀ x ∈ mms C (i + 1), memS.ok H x := fun x hx => by
  unfold mms at hx
  rcases List.mem_append.1 hx with q | q
  · exact o x q
  · rw [List.mem_singleton.1 q]; exact mmem_ok h
theorem mbs_of {l C : List Nod} {n : Nat} (hz : terr l = 0) (hq : C.length = n ∧ C.map er = cno l) : (mms C C.length).map erm = mbs l := by
  have hC : Cfl C := fun x hx hc => by
    have := (tok_of hz).set.cno.cfl (er x) (by rw [← hq.2]; exact List.mem_map_of_mem hx) hc
    exact this
  rw [mms_mem1 hC, hq.2]
  unfold mbs; rw [if_pos hz]

theorem rowsO_congr {β : Type} {S : Sch β} {h : Heap} {b : Nat} {v : Value} {l l' : List β} (x : RowsO S h b v l) (e : l = l') : RowsO S h b v l' := e ▸ x
theorem mms_y {C : List Nod} {i : Nat} (h : lnk (mmk C i) (at_nod C i)) : mms C i ++ [⟨3, (at_nod C i).path, (at_nod C i).mode, (aget (mmk C i) (at_nod C i).cls).getD [], 0, .slice none 0 0, []⟩] = mms C (i + 1) ∧ mmk C i = mmk C (i + 1) := by
  conv => rhs; rhs; unfold mmk
  conv => lhs; rhs; unfold mms
  unfold mmem mmap
  rw [if_pos h, if_pos h]
  exact ⟨rfl, rfl⟩
theorem mms_f {C : List Nod} {i : Nat} (h : ¬ lnk (mmk C i) (at_nod C i)) (hk : (at_nod C i).kind = 1) : mms C i ++ [⟨(at_nod C i).kind, (at_nod C i).path, (at_nod C i).mode, (at_nod C i).target, ((at_nod C i).data.length : Int), (at_nod C i).dv, (at_nod C i).data⟩] = mms C (i + 1) ∧ aset (mmk C i) (at_nod C i).cls (at_nod C i).path = mmk C (i + 1) := by
  conv => rhs; rhs; unfold mmk
  conv => lhs; rhs; unfold mms
  unfold mmem mmap
  rw [if_neg h, if_neg h, if_pos hk, if_pos hk]
  exact ⟨rfl, rfl⟩
theorem mms_n {C : List Nod} {i : Nat} (h : ¬ lnk (mmk C i) (at_nod C i)) (hk : ¬ (at_nod C i).kind = 1) : mms C i ++ [⟨(at_nod C i).kind, (at_nod C i).path, (at_nod C i).mode, (at_nod C i).target, 0, .slice none 0 0, []⟩] = mms C (i + 1) ∧ mmk C i = mmk C (i + 1) := by
  conv => rhs; rhs; unfold mmk
  conv => lhs; rhs; unfold mms
  unfold mmem mmap
  rw [if_neg h, if_neg h, if_neg hk, if_neg hk]
  exact ⟨rfl, rfl⟩

set_option maxRecDepth 100000 in
theorem flatten_Members (h : Heap) (hK : GlbK h) (hE : GlbE h) (w : Value) (l : List Nod) (hl : Rows nodS h w l) (hm : l.length ≤ 1000000000) (hs : ∀ x ∈ l, x.path.length ≤ 100000000000 ∧ x.target.length ≤ 100000000000 ∧ x.data.length ≤ 100000000000) : Cal Tryz.prog 8 #[w] h (fun v h' => ∃ s0 L0, v = .tuple #[s0, .int .i64 (tpos l), .int .i64 (terr l)] ∧ Rows memS h' s0 L0 ∧ (L0.map erm = mbs l) ∧ Ext h h') := by
 refine Cal_enter (args := [w]) Tryz.func8 rfl rfl rfl (fun σ => ?_)
 refine Wr ?_
 refine Av ?_
 refine Av ?_
 refine Av ?_
 refine L_nil (X_then (W_seq (W_seq (W_region ?_))))
 refine Mv ?_
 refine L_call (E_call (by kernel_rfl) rfl) (tree_Check _ hK hE w l hl (by omega) (fun x hx => by have := hs x hx; omega)) rfl rfl rfl ?_
 rintro _ h1 ⟨rfl, hx1⟩
 refine Mv ?_
 refine Ly (Y_extract (v := .int .i64 (tpos l)) rfl rfl) ?_
 refine Ly (Y_extract (v := .int .i64 (terr l)) rfl rfl) ?_
 refine Av ?_
 refine Av ?_
 refine Nx ?_
 refine W_sub _ (tk6 6 5 4 3 2 0) ?_
 refine Wr ?_
 refine Mv ?_
 refine Ly (Y_neq rfl rfl) ?_
 refine Nx ?_
 refine W_sub _ (tk7 20 6 5 4 3 2 0) ?_
 refine W_splitd rfl (fun e => ?_) (fun e => ?_)
 ·refine Wr ?_
  refine Mv ?_
  refine Mv ?_
  refine Av ?_
  refine Av ?_
  refine Av ?_
  refine Nx ?_
  refine W_sub _ (tk4 4 3 2 0) ?_
  refine W_ret (X_then_ret ?_)
  refine X_ret3 rfl rfl rfl rfl ?_
  exact ⟨_, [], rfl, Rows.nil memS _, by unfold mbs; rw [if_neg e]; rfl, hx1⟩
 refine Ws ?_
 refine W_sub _ (tk4 4 3 2 0) ?_
 have hz := Classical.not_not.1 e
 refine Wr ?_
 refine L_mks (M_makeMapA (enc := (fun z : Int => .int .i64 z)) (evl := (fun l : List UInt8 => str l))) rfl rfl rfl ?_
 rintro _ h2 ⟨rfl, hx2, hb3⟩
 refine Av ?_
 refine Nx ?_
 refine W_sub _ (tk5 7 4 3 2 0) ?_
 refine Wr ?_
 refine Av ?_
 refine L_nil (X_then (W_seq (W_seq (W_region ?_))))
 refine Mv ?_
 refine L_call (E_call (by kernel_rfl) rfl) (tree_Canon _ w l (hl.ext (hx1.trans hx2)) hm hs) rfl rfl rfl ?_
 rintro s04 h3 ⟨_, L05, rfl, hr06, hq07, hx8⟩
 refine Ly (Y_lenr Tryz.underlying22 rfl hr06) ?_
 refine Mv ?_
 refine Nx ?_
 refine W_sub _ (sk1 27 rfl (tk8 26 25 8 7 4 3 2 0)) ?_
 have hrC : Rows nodS h3 s04 L05 := hr06
 have hmC : MapIS h3 h1.size [] := (hb3.ext hx8)
 refine W_block ?_
 refine W_loop (S := Nat × Value) (fun (i, vo) => [(26, .int .i64 ((L05.length : Int))), (7, .map (some h1.size)), (4, .int .i64 0), (3, .int .i64 0), (2, .slice none 0 0), (0, w), (8, vo), (25, s04), (27, .int .i64 ((i : Int)))]) (fun (i, vo) h' => i ≤ (L05).length ∧ (∀ x ∈ mms L05 i, memS.ok h3 x) ∧ Only [h1.size] h3 h' ∧ RowsO memS h' h3.size vo (mms L05 i) ∧ MapIS h' h1.size (mmk L05 i)) (fun (i, vo) => (L05).length - i) (0, .slice none 0 0) (sk1 26 rfl (tk8 7 4 3 2 0 8 25 27)) ?_ ?_
 ·exact ⟨Nat.zero_le _, (fun x hx => by cases hx), Only.refl _ _, RowsO.nil _ _ _, hmC⟩
 rintro ⟨i, vo⟩ h4 ⟨hi, hkA, hxA, hoA, hmL⟩
 show W _ _ _ _ _ [(26, .int .i64 ((L05.length : Int))), (7, .map (some h1.size)), (4, .int .i64 0), (3, .int .i64 0), (2, .slice none 0 0), (0, w), (8, vo), (25, s04), (27, .int .i64 ((i : Int)))] _
 refine Wr ?_
 refine Ly (Y_lss rfl rfl) ?_
 refine L_nil (X_then (W_seq ?_))
 refine W_splitd rfl (fun c => ?_) (fun c => ?_)
 ·refine Ws ?_
  refine W_sub _ (sk1 26 rfl (tk8 7 4 3 2 0 8 25 27)) ?_
  refine W_seq (W_block (W_seq (W_region ?_)))
  refine Ly (Y_idxr Tryz.underlying22 (show _ = some 6 by kernel_rfl) rfl rfl rfl (rowsN_onlyM hrC (Only.trans (Only.refl _ _) hxA (fun _ hb_ => .inl hb_)) hmC) (by omega) (by omega)) ?_
  refine Ly (Y_ldrA0 (k := ((i : Int)).toNat) (us := [.int .i64 ((at_nod L05 ((i : Int)).toNat).kind), str ((at_nod L05 ((i : Int)).toNat).path), .int .i64 ((at_nod L05 ((i : Int)).toNat).mode), str ((at_nod L05 ((i : Int)).toNat).target), ((at_nod L05 ((i : Int)).toNat).dv), .int .i64 ((at_nod L05 ((i : Int)).toNat).cls)]) Tryz.underlying50 rfl (show _ = some 6 by kernel_rfl) rfl rfl (rowsN_onlyM hrC (Only.trans (Only.refl _ _) hxA (fun _ hb_ => .inl hb_)) hmC) (by omega) rfl) ?_
  refine L_mks (M_alloc (u := .agg #[.int .i64 0, str [], .int .i64 0, str [], .slice none 0 0, .int .i64 0]) (by kernel_rfl)) rfl rfl rfl ?_
  rintro _ h5 ⟨rfl, hn9⟩
  have hk10 : Blk h5 h4.size [.int .i64 0, str [], .int .i64 0, str [], .slice none 0 0, .int .i64 0] := hn9.blk
  refine L_dos (D_store (us := [.int .i64 ((at_nod L05 ((i : Int)).toNat).kind), str ((at_nod L05 ((i : Int)).toNat).path), .int .i64 ((at_nod L05 ((i : Int)).toNat).mode), str ((at_nod L05 ((i : Int)).toNat).target), ((at_nod L05 ((i : Int)).toNat).dv), .int .i64 ((at_nod L05 ((i : Int)).toNat).cls)]) (show _ = some 6 by kernel_rfl) rfl rfl rfl (by intro u_ hu_; simp only [List.mem_cons, List.not_mem_nil, or_false] at hu_; rcases hu_ with rfl | rfl | rfl | rfl | rfl | rfl <;> first | rfl | exact ((show Bytes _ ((at_nod L05 ((i : Int)).toNat).dv) ((at_nod L05 ((i : Int)).toNat).data) from (rowsN_onlyM hrC (Only.trans (Only.trans (Only.refl _ _) hxA (fun _ hb_ => .inl hb_)) hn9.ext (fun _ hb_ => by cases hb_)) hmC).okat (k := ((i : Int)).toNat) (by omega))).cell1) hk10 (by simp)) rfl rfl ?_
  rintro h6 hp11
  have hk12 : Blk h6 h4.size [.int .i64 ((at_nod L05 ((i : Int)).toNat).kind), str ((at_nod L05 ((i : Int)).toNat).path), .int .i64 ((at_nod L05 ((i : Int)).toNat).mode), str ((at_nod L05 ((i : Int)).toNat).target), ((at_nod L05 ((i : Int)).toNat).dv), .int .i64 ((at_nod L05 ((i : Int)).toNat).cls)] := hp11.blk
  refine Nx ?_
  refine W_sub _ (sk2 10 26 rfl rfl (tk8 7 4 3 2 0 8 25 27)) ?_
  refine Wr ?_
  refine Ly (Y_fieldAddr (off := 0) (by kernel_rfl) rfl rfl) ?_
  refine Ly (Y_ldblk Tryz.underlying3 rfl rfl hk12 rfl) ?_
  refine Ly (Y_fieldAddr (off := 1) (by kernel_rfl) rfl rfl) ?_
  refine Ly (Y_ldblk Tryz.underlying9 rfl rfl hk12 rfl) ?_
  refine Ly (Y_fieldAddr (off := 2) (by kernel_rfl) rfl rfl) ?_
  refine Ly (Y_ldblk Tryz.underlying3 rfl rfl hk12 rfl) ?_
  refine Ly (Y_fieldAddr (off := 3) (by kernel_rfl) rfl rfl) ?_
  refine Ly (Y_ldblk Tryz.underlying9 rfl rfl hk12 rfl) ?_
  refine Ly (Y_build (v := .agg #[.int .i64 ((at_nod L05 ((i : Int)).toNat).kind), str ((at_nod L05 ((i : Int)).toNat).path), .int .i64 ((at_nod L05 ((i : Int)).toNat).mode), str ((at_nod L05 ((i : Int)).toNat).target), .int .i64 0]) (pv := [(0, .int .i64 ((at_nod L05 ((i : Int)).toNat).kind)), (1, str ((at_nod L05 ((i : Int)).toNat).path)), (2, .int .i64 ((at_nod L05 ((i : Int)).toNat).mode)), (3, str ((at_nod L05 ((i : Int)).toNat).target))]) (evp (is := [0, 1, 2, 3]) (os := [.tmp 32, .tmp 34, .tmp 36, .tmp 38]) (vs := [.int .i64 ((at_nod L05 ((i : Int)).toNat).kind), str ((at_nod L05 ((i : Int)).toNat).path), .int .i64 ((at_nod L05 ((i : Int)).toNat).mode), str ((at_nod L05 ((i : Int)).toNat).target)]) rfl rfl) (fun _ => by kernel_rfl)) ?_
  refine Ly (Y_build (v := .agg #[.int .i64 ((at_nod L05 ((i : Int)).toNat).kind), str ((at_nod L05 ((i : Int)).toNat).path), .int .i64 ((at_nod L05 ((i : Int)).toNat).mode), str ((at_nod L05 ((i : Int)).toNat).target), .int .i64 0, .slice none 0 0]) (pv := [(0, .agg #[.int .i64 ((at_nod L05 ((i : Int)).toNat).kind), str ((at_nod L05 ((i : Int)).toNat).path), .int .i64 ((at_nod L05 ((i : Int)).toNat).mode), str ((at_nod L05 ((i : Int)).toNat).target), .int .i64 0])]) (evp (is := [0]) (os := [.tmp 39]) (vs := [.agg #[.int .i64 ((at_nod L05 ((i : Int)).toNat).kind), str ((at_nod L05 ((i : Int)).toNat).path), .int .i64 ((at_nod L05 ((i : Int)).toNat).mode), str ((at_nod L05 ((i : Int)).toNat).target), .int .i64 0]]) rfl rfl) (fun _ => by kernel_rfl)) ?_
  refine L_mks (M_alloc (u := .agg #[.int .i64 0, str [], .int .i64 0, str [], .int .i64 0, .slice none 0 0]) (by kernel_rfl)) rfl rfl rfl ?_
  rintro _ h7 ⟨rfl, hn13⟩
  have hk14 : Blk h7 h6.size [.int .i64 0, str [], .int .i64 0, str [], .int .i64 0, .slice none 0 0] := hn13.blk
  refine L_dos (D_store (us := [.int .i64 ((at_nod L05 ((i : Int)).toNat).kind), str ((at_nod L05 ((i : Int)).toNat).path), .int .i64 ((at_nod L05 ((i : Int)).toNat).mode), str ((at_nod L05 ((i : Int)).toNat).target), .int .i64 0, .slice none 0 0]) (show _ = some 6 by kernel_rfl) rfl rfl rfl (by simp [Value.oneCell']) hk14 (by simp)) rfl rfl ?_
  rintro h8 hp15
  have hk16 : Blk h8 h6.size [.int .i64 ((at_nod L05 ((i : Int)).toNat).kind), str ((at_nod L05 ((i : Int)).toNat).path), .int .i64 ((at_nod L05 ((i : Int)).toNat).mode), str ((at_nod L05 ((i : Int)).toNat).target), .int .i64 0, .slice none 0 0] := hp15.blk
  refine Nx ?_
  refine W_sub _ (sk3 11 10 26 rfl rfl rfl (tk8 7 4 3 2 0 8 25 27)) ?_
  refine Wr ?_
  refine Mv ?_
  refine Ly (Y_fieldAddr (off := 5) (by kernel_rfl) rfl rfl) ?_
  refine Ly (Y_ldblk Tryz.underlying3 rfl rfl (hk12.ext (hn13.ext.then' hp15.only (by simp) (Nat.le_refl _))) rfl) ?_
  have me1 := (hn9.ext.then' hp11.only (by simp) (Nat.le_refl _)).trans hn13.ext
  have me2 := me1.then' hp15.only (by simp) (Nat.le_trans hn9.ext.size hp11.only.size)
  refine Ly (Y_look2A (evl := (fun l : List UInt8 => str l)) (k := (at_nod L05 ((i : Int)).toNat).cls) (u := ([] : List UInt8)) keyI Tryz.underlying53 Tryz.underlying3 (by kernel_rfl) rfl rfl (hmL.ext me2)) ?_
  refine Mv ?_
  refine Ly (Y_extract (v := str ((aget (mmk L05 i) ((at_nod L05 ((i : Int)).toNat).cls)).getD ([] : List UInt8))) rfl rfl) ?_
  refine Ly (Y_extract (v := .bool ((aget (mmk L05 i) ((at_nod L05 ((i : Int)).toNat).cls)).isSome)) rfl rfl) ?_
  refine Av ?_
  refine Av ?_
  refine Nx ?_
  refine W_sub _ (sk5 13 12 11 10 26 rfl rfl rfl rfl rfl (tk8 7 4 3 2 0 8 25 27)) ?_
  refine W_seq (W_block ?_)
  refine W_cut (S := Unit) (fun _ => [(48, .bool (decide (((((at_nod L05 ((i : Int)).toNat).kind) = 1) ∧ (0 < ((at_nod L05 ((i : Int)).toNat).cls))) ∧ ((aget (mmk L05 i) ((at_nod L05 ((i : Int)).toNat).cls)).isSome = true)))), (12, str ((aget (mmk L05 i) ((at_nod L05 ((i : Int)).toNat).cls)).getD ([] : List UInt8))), (11, .pointer (some ⟨h6.size, 0, none⟩)), (10, .pointer (some ⟨h4.size, 0, none⟩)), (26, .int .i64 ((L05.length : Int))), (7, .map (some h1.size)), (4, .int .i64 0), (3, .int .i64 0), (2, .slice none 0 0), (0, w), (8, vo), (25, s04), (27, .int .i64 ((i : Int)))]) (fun _ h' => h' = h8) ?_ ?_
  ·refine W_region ?_
   refine Ly (Y_fieldAddr (off := 0) (by kernel_rfl) rfl rfl) ?_
   refine Ly (Y_ldblk Tryz.underlying3 rfl rfl (hk12.ext (hn13.ext.then' hp15.only (by simp) (Nat.le_refl _))) rfl) ?_
   refine Ly (Y_eql rfl rfl) ?_
   refine Mv ?_
   refine L_splitd (d := 52) rfl (fun a0 => ?_) (fun a0 => ?_)
   ·refine Ly (Y_fieldAddr (off := 5) (by kernel_rfl) rfl rfl) ?_
    refine Ly (Y_ldblk Tryz.underlying3 rfl rfl (hk12.ext (hn13.ext.then' hp15.only (by simp) (Nat.le_refl _))) rfl) ?_
    refine Ly (Y_gtr rfl rfl) ?_
    refine Ly (Y_pick_t rfl rfl) ?_
    refine Mv ?_
    refine L_splitd (d := 57) rfl (fun a1 => ?_) (fun a1 => ?_)
    ·refine Ly (Y_move rfl) ?_
     refine Ly (Y_pick_t rfl rfl) ?_
     refine Av ?_
     refine L_nil ?_
     exact X_cut () (sk1 48 (lkb rfl (by first | (simp only [eq_true a0, eq_true a1, SB]; done) | (simp only [eq_true a0, eq_true a1, SB]; rfl))) (sk1 12 rfl (sk1 11 rfl (sk1 10 rfl (sk1 26 rfl (sk1 7 rfl (sk1 4 rfl (sk1 3 rfl (sk1 2 rfl (sk1 0 rfl (sk1 8 rfl (sk1 25 rfl (tk1 27))))))))))))) rfl
    refine Skp ?_
    refine Ly (Y_pick_f rfl rfl) ?_
    refine Av ?_
    refine L_nil ?_
    exact X_cut () (sk1 48 (lkb rfl (by first | (simp only [eq_true a0, eq_false a1, SB]; done) | (simp only [eq_true a0, eq_false a1, SB]; rfl))) (sk1 12 rfl (sk1 11 rfl (sk1 10 rfl (sk1 26 rfl (sk1 7 rfl (sk1 4 rfl (sk1 3 rfl (sk1 2 rfl (sk1 0 rfl (sk1 8 rfl (sk1 25 rfl (tk1 27))))))))))))) rfl
   refine Skp ?_
   refine Skp ?_
   refine Skp ?_
   refine Ly (Y_pick_f rfl rfl) ?_
   refine Mv ?_
   refine Skp ?_
   refine Ly (Y_pick_f rfl rfl) ?_
   refine Av ?_
   refine L_nil ?_
   exact X_cut () (sk1 48 (lkb rfl (by first | (simp only [eq_false a0, SB]; done) | (simp only [eq_false a0, SB]; rfl))) (sk1 12 rfl (sk1 11 rfl (sk1 10 rfl (sk1 26 rfl (sk1 7 rfl (sk1 4 rfl (sk1 3 rfl (sk1 2 rfl (sk1 0 rfl (sk1 8 rfl (sk1 25 rfl (tk1 27))))))))))))) rfl
  rintro _ h8 rfl
  show W _ _ _ _ _ [(48, .bool (decide (((((at_nod L05 ((i : Int)).toNat).kind) = 1) ∧ (0 < ((at_nod L05 ((i : Int)).toNat).cls))) ∧ ((aget (mmk L05 i) ((at_nod L05 ((i : Int)).toNat).cls)).isSome = true)))), (12, str ((aget (mmk L05 i) ((at_nod L05 ((i : Int)).toNat).cls)).getD ([] : List UInt8))), (11, .pointer (some ⟨h6.size, 0, none⟩)), (10, .pointer (some ⟨h4.size, 0, none⟩)), (26, .int .i64 ((L05.length : Int))), (7, .map (some h1.size)), (4, .int .i64 0), (3, .int .i64 0), (2, .slice none 0 0), (0, w), (8, vo), (25, s04), (27, .int .i64 ((i : Int)))] _
  refine W_splitd rfl (fun a => ?_) (fun a => ?_)
  ·refine W_region ?_
   refine Mv ?_
   refine Ly (Y_fieldAddr (off := 0) (by kernel_rfl) rfl rfl) ?_
   refine Ly (Y_fieldAddr (off := 0) (by kernel_rfl) rfl rfl) ?_
   refine L_dos (D_store (us := [.int .i64 3]) (show _ = some 1 by kernel_rfl) rfl rfl rfl (by simp [Value.oneCell']) hk16 (by simp)) rfl rfl ?_
   rintro h9 hp17
   have hk18 : Blk h9 h6.size [.int .i64 3, str ((at_nod L05 ((i : Int)).toNat).path), .int .i64 ((at_nod L05 ((i : Int)).toNat).mode), str ((at_nod L05 ((i : Int)).toNat).target), .int .i64 0, .slice none 0 0] := hp17.blk
   refine Ly (Y_fieldAddr (off := 0) (by kernel_rfl) rfl rfl) ?_
   refine Ly (Y_fieldAddr (off := 3) (by kernel_rfl) rfl rfl) ?_
   refine L_dos (D_store (us := [str ((aget (mmk L05 i) ((at_nod L05 ((i : Int)).toNat).cls)).getD ([] : List UInt8))]) (show _ = some 1 by kernel_rfl) rfl rfl rfl (by simp [Value.oneCell']) hk18 (by simp)) rfl rfl ?_
   rintro h10 hp19
   have hk20 : Blk h10 h6.size [.int .i64 3, str ((at_nod L05 ((i : Int)).toNat).path), .int .i64 ((at_nod L05 ((i : Int)).toNat).mode), str ((aget (mmk L05 i) ((at_nod L05 ((i : Int)).toNat).cls)).getD ([] : List UInt8)), .int .i64 0, .slice none 0 0] := hp19.blk
   refine L_nil (X_block (X_then ?_))
   refine W_sub _ (sk2 11 26 rfl rfl (tk8 7 4 3 2 0 8 25 27)) ?_
   refine W_region ?_
   refine Mv ?_
   refine Ly (Y_ldbox (us := [.int .i64 3, str ((at_nod L05 ((i : Int)).toNat).path), .int .i64 ((at_nod L05 ((i : Int)).toNat).mode), str ((aget (mmk L05 i) ((at_nod L05 ((i : Int)).toNat).cls)).getD ([] : List UInt8)), .int .i64 0, .slice none 0 0]) Tryz.underlying35 rfl (show _ = some 6 by kernel_rfl) rfl hk20 rfl) ?_
   refine L_mks (M_litr (S := memS) (l := ([⟨(3 : Int), (at_nod L05 ((i : Int)).toNat).path, (at_nod L05 ((i : Int)).toNat).mode, (aget (mmk L05 i) ((at_nod L05 ((i : Int)).toNat).cls)).getD ([] : List UInt8), (0 : Int), .slice none 0 0, ([] : List UInt8)⟩] : List Mem)) (cells := [.int .i64 3, str ((at_nod L05 ((i : Int)).toNat).path), .int .i64 ((at_nod L05 ((i : Int)).toNat).mode), str ((aget (mmk L05 i) ((at_nod L05 ((i : Int)).toNat).cls)).getD ([] : List UInt8)), .int .i64 0, .slice none 0 0]) (pv := [(0, .agg #[.int .i64 3, str ((at_nod L05 ((i : Int)).toNat).path), .int .i64 ((at_nod L05 ((i : Int)).toNat).mode), str ((aget (mmk L05 i) ((at_nod L05 ((i : Int)).toNat).cls)).getD ([] : List UInt8)), .int .i64 0, .slice none 0 0])]) (E := 35) (evp (is := [0]) (os := [.tmp 83]) (vs := [.agg #[.int .i64 3, str ((at_nod L05 ((i : Int)).toNat).path), .int .i64 ((at_nod L05 ((i : Int)).toNat).mode), str ((aget (mmk L05 i) ((at_nod L05 ((i : Int)).toNat).cls)).getD ([] : List UInt8)), .int .i64 0, .slice none 0 0]]) rfl rfl) rfl rfl (fun _ => by kernel_rfl) (by simp only [List.mem_cons, List.not_mem_nil, or_false, forall_eq_or_imp, forall_eq]; exact (Bytes.nil _))) rfl rfl rfl ?_
   rintro v21 h11 ⟨ho22, hx23⟩
   have me3 := me2.then' hp17.only (by simp) (Nat.le_trans hn9.ext.size hp11.only.size)
   have me4 := me3.then' hp19.only (by simp) (Nat.le_trans hn9.ext.size hp11.only.size)
   have me5 := Nat.le_trans (Nat.le_trans hxA.size hn9.ext.size) hp11.only.size
   have me6 := Nat.le_trans (Nat.le_trans me5 hn13.ext.size) hp15.only.size
   have me7 := Nat.le_trans (Nat.le_trans me6 hp17.only.size) hp19.only.size
   refine L_mks (M_apprG (z := 6) (bytes := 80) (z0 := (.agg #[.int .i64 0, str [], .int .i64 0, str [], .int .i64 0, .slice none 0 0])) Tryz.underlying25 (by unfold elemRow; kernel_rfl) rfl rfl (by decide) rfl rfl (hoA.ext (me4.trans hx23)) ho22.rows (Nat.le_trans me7 hx23.size) (by first | (simp; omega) | (simp; done) | omega) (fun h' y hge x hx => okM_onlyM ((List.mem_append.1 hx).elim (hkA x) (fun q => by rw [List.mem_singleton.1 q]; exact Bytes.nil _)) (only_app (Only.trans (Only.trans (Only.trans (Only.trans (Only.trans (Only.trans (Only.trans (Only.trans (Only.refl _ _) hxA (fun _ hb_ => .inl hb_)) hn9.ext (fun _ hb_ => by cases hb_)) hp11.only (fun b_ hb_ => .inr (by rw [List.mem_singleton.1 hb_]; exact hxA.size))) hn13.ext (fun _ hb_ => by cases hb_)) hp15.only (fun b_ hb_ => .inr (by rw [List.mem_singleton.1 hb_]; exact me5))) hp17.only (fun b_ hb_ => .inr (by rw [List.mem_singleton.1 hb_]; exact me5))) hp19.only (fun b_ hb_ => .inr (by rw [List.mem_singleton.1 hb_]; exact me5))) hx23 (fun _ hb_ => by cases hb_)) y hge) hmC)) rfl rfl rfl ?_
   rintro v24 h12 ⟨ha25, ha25l⟩
   refine Av ?_
   refine L_nil (X_block (X_then ?_))
   refine W_sub _ (sk1 8 rfl (tk8 26 7 4 3 2 0 25 27)) ?_
   refine W_region ?_
   refine Ly (Y_add rfl rfl (by omega) (by omega)) ?_
   refine Mv ?_
   refine L_nil ?_
   refine X_loop ((i + 1, v24)) (sk1 26 rfl (tk8 7 4 3 2 0 8 25 27)) ?_ ?_
   have hc26 := ((((((((hmL.ext hn9.ext).only hp11.only (ni_lt (Nat.lt_of_lt_of_le hb3.lt (Nat.le_trans hx8.size hxA.size)))).ext hn13.ext).only hp15.only (ni_lt (Nat.lt_of_lt_of_le hb3.lt (Nat.le_trans (Nat.le_trans (Nat.le_trans hx8.size hxA.size) hn9.ext.size) hp11.only.size)))).only hp17.only (ni_lt (Nat.lt_of_lt_of_le hb3.lt (Nat.le_trans (Nat.le_trans (Nat.le_trans hx8.size hxA.size) hn9.ext.size) hp11.only.size)))).only hp19.only (ni_lt (Nat.lt_of_lt_of_le hb3.lt (Nat.le_trans (Nat.le_trans (Nat.le_trans hx8.size hxA.size) hn9.ext.size) hp11.only.size)))).ext hx23).only ha25.only (fun hb_ => Nat.lt_irrefl _ (Nat.lt_of_lt_of_le (Nat.lt_of_lt_of_le hb3.lt hx8.size) (ha25.ge _ hb_))))
   ·exact ⟨by omega, mms_ok hkA (hrC.2 _ (can_mem (by omega))), (Only.trans (Only.trans (Only.trans (Only.trans (Only.trans (Only.trans (Only.trans (Only.trans (Only.trans (Only.refl _ _) hxA (fun _ hb_ => .inl hb_)) hn9.ext (fun _ hb_ => by cases hb_)) hp11.only (fun b_ hb_ => .inr (by rw [List.mem_singleton.1 hb_]; exact hxA.size))) hn13.ext (fun _ hb_ => by cases hb_)) hp15.only (fun b_ hb_ => .inr (by rw [List.mem_singleton.1 hb_]; exact me5))) hp17.only (fun b_ hb_ => .inr (by rw [List.mem_singleton.1 hb_]; exact me5))) hp19.only (fun b_ hb_ => .inr (by rw [List.mem_singleton.1 hb_]; exact me5))) hx23 (fun _ hb_ => by cases hb_)) ha25.only (fun b_ hb_ => .inr (Nat.le_trans (Nat.le_refl _) (ha25.ge b_ hb_)))), rowsO_congr ha25.own (mms_y a).1, MapA.congr hc26 (mms_y a).2⟩
   (try dsimp only)
   omega
  refine Wr ?_
  refine Ly (Y_fieldAddr (off := 0) (by kernel_rfl) rfl rfl) ?_
  refine Ly (Y_ldblk Tryz.underlying3 rfl rfl (hk12.ext (hn13.ext.then' hp15.only (by simp) (Nat.le_refl _))) rfl) ?_
  refine Ly (Y_eql rfl rfl) ?_
  refine Av ?_
  refine Nx ?_
  refine W_sub _ (sk4 65 11 10 26 rfl rfl rfl rfl (tk8 7 4 3 2 0 8 25 27)) ?_
  refine W_splitd rfl (fun b => ?_) (fun b => ?_)
  ·refine W_seq ?_
   refine W_held (fun _ => True) 10 rfl (by kernel_rfl) ?_
   refine LH_take (i := 0) rfl (fun h_ hI_ => Y_fieldAddr (off := 4) (by kernel_rfl) rfl rfl) rfl rfl rfl (by kernel_rfl) (by kernel_rfl) (by kernel_rfl) (fun _ _ _ => by rintro ⟨_, _, h_, _⟩; cases h_) trivial ?_
   refine LH_take (i := 3) rfl (fun h_ hI_ => Y_fieldAddr (off := 4) (by kernel_rfl) rfl rfl) rfl rfl rfl (by kernel_rfl) (by kernel_rfl) (by kernel_rfl) (fun _ _ _ => by rintro ⟨_, _, h_, _⟩; cases h_) trivial ?_
   refine LH_two (i := 1) (j := 4) (by kernel_rfl) ?_ ?_
   ·refine LO_yld (i := 1) rfl (Y_ldblk Tryz.underlying33 rfl rfl (hk12.ext (hn13.ext.then' hp15.only (by simp) (Nat.le_refl _))) rfl) rfl rfl rfl trivial ?_
    refine LH_two (i := 2) (j := 4) (by kernel_rfl) ?_ ?_
    ·have me8 := Nat.le_trans (Nat.le_trans hxA.size hn9.ext.size) hp11.only.size
     refine LO_yld (i := 2) rfl (Y_len Tryz.underlying33 rfl (show Bytes _ ((at_nod L05 ((i : Int)).toNat).dv) ((at_nod L05 ((i : Int)).toNat).data) from (rowsN_onlyM hrC (Only.trans (Only.trans (Only.trans (Only.trans (Only.trans (Only.refl _ _) hxA (fun _ hb_ => .inl hb_)) hn9.ext (fun _ hb_ => by cases hb_)) hp11.only (fun b_ hb_ => .inr (by rw [List.mem_singleton.1 hb_]; exact hxA.size))) hn13.ext (fun _ hb_ => by cases hb_)) hp15.only (fun b_ hb_ => .inr (by rw [List.mem_singleton.1 hb_]; exact me8))) hmC).okat (k := ((i : Int)).toNat) (by omega))) rfl rfl rfl trivial ?_
     refine LH_take (i := 5) rfl (fun h_ hI_ => Y_fieldAddr (off := 0) (by kernel_rfl) rfl rfl) rfl rfl rfl (by kernel_rfl) (by kernel_rfl) (by kernel_rfl) (fun _ _ _ => by rintro ⟨_, _, h_, _⟩; cases h_) trivial ?_
     refine LH_take (i := 6) rfl (fun h_ hI_ => Y_fieldAddr (off := 4) (by kernel_rfl) rfl rfl) rfl rfl rfl (by kernel_rfl) (by kernel_rfl) (by kernel_rfl) (fun _ _ _ => by rintro ⟨_, _, h_, _⟩; cases h_) trivial ?_
     refine LH_two (i := 4) (j := 7) (by kernel_rfl) ?_ ?_
     ·refine LO_yld (i := 4) rfl (Y_ldblk Tryz.underlying33 rfl rfl (hk12.ext (hn13.ext.then' hp15.only (by simp) (Nat.le_refl _))) rfl) rfl rfl rfl trivial ?_
      refine LH_one (i := 7) (by kernel_rfl) ?_
      refine LO_dos (i := 7) rfl (D_store (us := [.int .i64 ((((at_nod L05 ((i : Int)).toNat).data).length : Int))]) (show _ = some 1 by kernel_rfl) rfl rfl rfl (by simp [Value.oneCell']) hk16 (by simp)) rfl rfl ?_
      rintro h13 hp27
      refine ⟨trivial, ?_⟩
      have hk28 : Blk h13 h6.size [.int .i64 ((at_nod L05 ((i : Int)).toNat).kind), str ((at_nod L05 ((i : Int)).toNat).path), .int .i64 ((at_nod L05 ((i : Int)).toNat).mode), str ((at_nod L05 ((i : Int)).toNat).target), .int .i64 ((((at_nod L05 ((i : Int)).toNat).data).length : Int)), .slice none 0 0] := hp27.blk
      refine LH_take (i := 8) rfl (fun h_ hI_ => Y_fieldAddr (off := 5) (by kernel_rfl) rfl rfl) rfl rfl rfl (by kernel_rfl) (by kernel_rfl) (by kernel_rfl) (fun _ _ _ => by rintro ⟨_, _, h_, _⟩; cases h_) trivial ?_
      refine LH_one (i := 9) (by kernel_rfl) ?_
      refine LO_dos (i := 9) rfl (D_store (us := [((at_nod L05 ((i : Int)).toNat).dv)]) (show _ = some 1 by kernel_rfl) rfl rfl (cells_slice (show Bytes _ ((at_nod L05 ((i : Int)).toNat).dv) ((at_nod L05 ((i : Int)).toNat).data) from (rowsN_onlyM hrC (Only.trans (Only.trans (Only.trans (Only.trans (Only.trans (Only.trans (Only.refl _ _) hxA (fun _ hb_ => .inl hb_)) hn9.ext (fun _ hb_ => by cases hb_)) hp11.only (fun b_ hb_ => .inr (by rw [List.mem_singleton.1 hb_]; exact hxA.size))) hn13.ext (fun _ hb_ => by cases hb_)) hp15.only (fun b_ hb_ => .inr (by rw [List.mem_singleton.1 hb_]; exact (Nat.le_trans (Nat.le_trans hxA.size hn9.ext.size) hp11.only.size)))) hp27.only (fun b_ hb_ => .inr (by rw [List.mem_singleton.1 hb_]; exact (Nat.le_trans (Nat.le_trans hxA.size hn9.ext.size) hp11.only.size)))) hmC).okat (k := ((i : Int)).toNat) (by omega))) (by intro u_ hu_; simp only [List.mem_cons, List.not_mem_nil, or_false] at hu_; rcases hu_ with rfl <;> first | rfl | exact ((show Bytes _ ((at_nod L05 ((i : Int)).toNat).dv) ((at_nod L05 ((i : Int)).toNat).data) from (rowsN_onlyM hrC (Only.trans (Only.trans (Only.trans (Only.trans (Only.trans (Only.trans (Only.refl _ _) hxA (fun _ hb_ => .inl hb_)) hn9.ext (fun _ hb_ => by cases hb_)) hp11.only (fun b_ hb_ => .inr (by rw [List.mem_singleton.1 hb_]; exact hxA.size))) hn13.ext (fun _ hb_ => by cases hb_)) hp15.only (fun b_ hb_ => .inr (by rw [List.mem_singleton.1 hb_]; exact (Nat.le_trans (Nat.le_trans hxA.size hn9.ext.size) hp11.only.size)))) hp27.only (fun b_ hb_ => .inr (by rw [List.mem_singleton.1 hb_]; exact (Nat.le_trans (Nat.le_trans hxA.size hn9.ext.size) hp11.only.size)))) hmC).okat (k := ((i : Int)).toNat) (by omega))).cell1) hk28 (by simp)) rfl rfl ?_
      rintro h14 hp29
      refine ⟨trivial, ?_⟩
      have hk30 : Blk h14 h6.size [.int .i64 ((at_nod L05 ((i : Int)).toNat).kind), str ((at_nod L05 ((i : Int)).toNat).path), .int .i64 ((at_nod L05 ((i : Int)).toNat).mode), str ((at_nod L05 ((i : Int)).toNat).target), .int .i64 ((((at_nod L05 ((i : Int)).toNat).data).length : Int)), ((at_nod L05 ((i : Int)).toNat).dv)] := hp29.blk
      refine LH_done (by kernel_rfl) ?_
      refine X_then ?_
      refine W_sub _ (sk3 11 10 26 rfl rfl rfl (tk8 7 4 3 2 0 8 25 27)) ?_
      refine W_region ?_
      refine Mv ?_
      refine Ly (Y_fieldAddr (off := 5) (by kernel_rfl) rfl rfl) ?_
      have me9 := (hn13.ext.then' hp15.only (by simp) (Nat.le_refl _)).then' hp27.only (by simp) (Nat.le_refl _)
      refine Ly (Y_ldblk Tryz.underlying3 rfl rfl (hk12.ext (me9.then' hp29.only (by simp) (Nat.le_refl _))) rfl) ?_
      refine Ly (Y_fieldAddr (off := 1) (by kernel_rfl) rfl rfl) ?_
      refine Ly (Y_ldblk Tryz.underlying9 rfl rfl (hk12.ext (me9.then' hp29.only (by simp) (Nat.le_refl _))) rfl) ?_
      have me10 := me2.then' hp27.only (by simp) (Nat.le_trans hn9.ext.size hp11.only.size)
      have me11 := me10.then' hp29.only (by simp) (Nat.le_trans hn9.ext.size hp11.only.size)
      refine L_dos (D_updA (evl := (fun l : List UInt8 => str l)) (k := (at_nod L05 ((i : Int)).toNat).cls) (v := (at_nod L05 ((i : Int)).toNat).path) keyI Tryz.underlying53 Tryz.underlying3 rfl rfl rfl (hmL.ext me11)) rfl rfl ?_
      rintro h15 ⟨hx31, -, hb32⟩
      refine L_nil (X_block (X_then ?_))
      refine W_sub _ (sk2 11 26 rfl rfl (tk8 7 4 3 2 0 8 25 27)) ?_
      refine W_region ?_
      refine Mv ?_
      have me12 := Nat.le_trans (Nat.le_trans hx8.size hxA.size) hn9.ext.size
      have hc33 := (hk30.only hx31 (ni_gt (Nat.lt_of_lt_of_le hb3.lt (Nat.le_trans me12 hp11.only.size))))
      refine Ly (Y_ldbox (us := [.int .i64 ((at_nod L05 ((i : Int)).toNat).kind), str ((at_nod L05 ((i : Int)).toNat).path), .int .i64 ((at_nod L05 ((i : Int)).toNat).mode), str ((at_nod L05 ((i : Int)).toNat).target), .int .i64 ((((at_nod L05 ((i : Int)).toNat).data).length : Int)), ((at_nod L05 ((i : Int)).toNat).dv)]) Tryz.underlying35 rfl (show _ = some 6 by kernel_rfl) rfl hc33 rfl) ?_
      refine L_mks (M_litr (S := memS) (l := ([⟨(at_nod L05 ((i : Int)).toNat).kind, (at_nod L05 ((i : Int)).toNat).path, (at_nod L05 ((i : Int)).toNat).mode, (at_nod L05 ((i : Int)).toNat).target, (((at_nod L05 ((i : Int)).toNat).data).length : Int), ((at_nod L05 ((i : Int)).toNat).dv), (at_nod L05 ((i : Int)).toNat).data⟩] : List Mem)) (cells := [.int .i64 ((at_nod L05 ((i : Int)).toNat).kind), str ((at_nod L05 ((i : Int)).toNat).path), .int .i64 ((at_nod L05 ((i : Int)).toNat).mode), str ((at_nod L05 ((i : Int)).toNat).target), .int .i64 ((((at_nod L05 ((i : Int)).toNat).data).length : Int)), ((at_nod L05 ((i : Int)).toNat).dv)]) (pv := [(0, .agg #[.int .i64 ((at_nod L05 ((i : Int)).toNat).kind), str ((at_nod L05 ((i : Int)).toNat).path), .int .i64 ((at_nod L05 ((i : Int)).toNat).mode), str ((at_nod L05 ((i : Int)).toNat).target), .int .i64 ((((at_nod L05 ((i : Int)).toNat).data).length : Int)), ((at_nod L05 ((i : Int)).toNat).dv)])]) (E := 35) (evp (is := [0]) (os := [.tmp 83]) (vs := [.agg #[.int .i64 ((at_nod L05 ((i : Int)).toNat).kind), str ((at_nod L05 ((i : Int)).toNat).path), .int .i64 ((at_nod L05 ((i : Int)).toNat).mode), str ((at_nod L05 ((i : Int)).toNat).target), .int .i64 ((((at_nod L05 ((i : Int)).toNat).data).length : Int)), ((at_nod L05 ((i : Int)).toNat).dv)]]) rfl rfl) rfl rfl (fun _ => by kernel_rfl) (by simp only [List.mem_cons, List.not_mem_nil, or_false, forall_eq_or_imp, forall_eq]; exact (show Bytes _ ((at_nod L05 ((i : Int)).toNat).dv) ((at_nod L05 ((i : Int)).toNat).data) from (rowsN_onlyM hrC (Only.trans (Only.trans (Only.trans (Only.trans (Only.trans (Only.trans (Only.trans (Only.trans (Only.refl _ _) hxA (fun _ hb_ => .inl hb_)) hn9.ext (fun _ hb_ => by cases hb_)) hp11.only (fun b_ hb_ => .inr (by rw [List.mem_singleton.1 hb_]; exact hxA.size))) hn13.ext (fun _ hb_ => by cases hb_)) hp15.only (fun b_ hb_ => .inr (by rw [List.mem_singleton.1 hb_]; exact me8))) hp27.only (fun b_ hb_ => .inr (by rw [List.mem_singleton.1 hb_]; exact me8))) hp29.only (fun b_ hb_ => .inr (by rw [List.mem_singleton.1 hb_]; exact me8))) hx31 (fun _ hb_ => .inl hb_)) hmC).okat (k := ((i : Int)).toNat) (by omega)))) rfl rfl rfl ?_
      rintro v34 h16 ⟨ho35, hx36⟩
      have me13 := Nat.le_trans (Nat.le_trans me8 hn13.ext.size) hp15.only.size
      have me14 := Nat.le_trans (Nat.le_trans me13 hp27.only.size) hp29.only.size
      refine L_mks (M_apprG (z := 6) (bytes := 80) (z0 := (.agg #[.int .i64 0, str [], .int .i64 0, str [], .int .i64 0, .slice none 0 0])) Tryz.underlying25 (by unfold elemRow; kernel_rfl) rfl rfl (by decide) rfl rfl ((rowsO_onlyM (hoA.ext me11) hx31 (Nat.lt_of_lt_of_le hb3.lt hx8.size) (hmL.ext me11)).ext hx36) ho35.rows (Nat.le_trans (Nat.le_trans me14 hx31.size) hx36.size) (by first | (simp; omega) | (simp; done) | omega) (fun h' y hge x hx => okM_onlyM ((List.mem_append.1 hx).elim (hkA x) (fun q => by rw [List.mem_singleton.1 q]; exact hrC.2 _ (can_mem (k := i) (by omega)))) (only_app (Only.trans (Only.trans (Only.trans (Only.trans (Only.trans (Only.trans (Only.trans (Only.trans (Only.trans (Only.refl _ _) hxA (fun _ hb_ => .inl hb_)) hn9.ext (fun _ hb_ => by cases hb_)) hp11.only (fun b_ hb_ => .inr (by rw [List.mem_singleton.1 hb_]; exact hxA.size))) hn13.ext (fun _ hb_ => by cases hb_)) hp15.only (fun b_ hb_ => .inr (by rw [List.mem_singleton.1 hb_]; exact me8))) hp27.only (fun b_ hb_ => .inr (by rw [List.mem_singleton.1 hb_]; exact me8))) hp29.only (fun b_ hb_ => .inr (by rw [List.mem_singleton.1 hb_]; exact me8))) hx31 (fun _ hb_ => .inl hb_)) hx36 (fun _ hb_ => by cases hb_)) y hge) hmC)) rfl rfl rfl ?_
      rintro v37 h17 ⟨ha38, ha38l⟩
      refine Av ?_
      refine L_nil (X_block (X_then ?_))
      refine W_sub _ (sk1 8 rfl (tk8 26 7 4 3 2 0 25 27)) ?_
      refine W_region ?_
      refine Ly (Y_add rfl rfl (by omega) (by omega)) ?_
      refine Mv ?_
      refine L_nil ?_
      refine X_loop ((i + 1, v37)) (sk1 26 rfl (tk8 7 4 3 2 0 8 25 27)) ?_ ?_
      have hc39 := ((hb32.ext hx36).only ha38.only (fun hb_ => Nat.lt_irrefl _ (Nat.lt_of_lt_of_le (Nat.lt_of_lt_of_le hb3.lt hx8.size) (ha38.ge _ hb_))))
      ·exact ⟨by omega, mms_ok hkA (hrC.2 _ (can_mem (by omega))), (Only.trans (Only.trans (Only.trans (Only.trans (Only.trans (Only.trans (Only.trans (Only.trans (Only.trans (Only.trans (Only.refl _ _) hxA (fun _ hb_ => .inl hb_)) hn9.ext (fun _ hb_ => by cases hb_)) hp11.only (fun b_ hb_ => .inr (by rw [List.mem_singleton.1 hb_]; exact hxA.size))) hn13.ext (fun _ hb_ => by cases hb_)) hp15.only (fun b_ hb_ => .inr (by rw [List.mem_singleton.1 hb_]; exact me8))) hp27.only (fun b_ hb_ => .inr (by rw [List.mem_singleton.1 hb_]; exact me8))) hp29.only (fun b_ hb_ => .inr (by rw [List.mem_singleton.1 hb_]; exact me8))) hx31 (fun _ hb_ => .inl hb_)) hx36 (fun _ hb_ => by cases hb_)) ha38.only (fun b_ hb_ => .inr (Nat.le_trans (Nat.le_refl _) (ha38.ge b_ hb_)))), rowsO_congr ha38.own (mms_f a b).1, MapA.congr hc39 (mms_f a b).2⟩
      (try dsimp only)
      omega
     refine LO_dos (i := 7) rfl (D_store (us := [.int .i64 ((((at_nod L05 ((i : Int)).toNat).data).length : Int))]) (show _ = some 1 by kernel_rfl) rfl rfl rfl (by simp [Value.oneCell']) hk16 (by simp)) rfl rfl ?_
     rintro h18 hp40
     refine ⟨trivial, ?_⟩
     have hk41 : Blk h18 h6.size [.int .i64 ((at_nod L05 ((i : Int)).toNat).kind), str ((at_nod L05 ((i : Int)).toNat).path), .int .i64 ((at_nod L05 ((i : Int)).toNat).mode), str ((at_nod L05 ((i : Int)).toNat).target), .int .i64 ((((at_nod L05 ((i : Int)).toNat).data).length : Int)), .slice none 0 0] := hp40.blk
     refine LH_one (i := 4) (by kernel_rfl) ?_
     have me15 := (hn13.ext.then' hp15.only (by simp) (Nat.le_refl _)).then' hp40.only (by simp) (Nat.le_refl _)
     refine LO_yld (i := 4) rfl (Y_ldblk Tryz.underlying33 rfl rfl (hk12.ext me15) rfl) rfl rfl rfl trivial ?_
     refine LH_take (i := 8) rfl (fun h_ hI_ => Y_fieldAddr (off := 5) (by kernel_rfl) rfl rfl) rfl rfl rfl (by kernel_rfl) (by kernel_rfl) (by kernel_rfl) (fun _ _ _ => by rintro ⟨_, _, h_, _⟩; cases h_) trivial ?_
     refine LH_one (i := 9) (by kernel_rfl) ?_
     refine LO_dos (i := 9) rfl (D_store (us := [((at_nod L05 ((i : Int)).toNat).dv)]) (show _ = some 1 by kernel_rfl) rfl rfl (cells_slice (show Bytes _ ((at_nod L05 ((i : Int)).toNat).dv) ((at_nod L05 ((i : Int)).toNat).data) from (rowsN_onlyM hrC (Only.trans (Only.trans (Only.trans (Only.trans (Only.trans (Only.trans (Only.refl _ _) hxA (fun _ hb_ => .inl hb_)) hn9.ext (fun _ hb_ => by cases hb_)) hp11.only (fun b_ hb_ => .inr (by rw [List.mem_singleton.1 hb_]; exact hxA.size))) hn13.ext (fun _ hb_ => by cases hb_)) hp15.only (fun b_ hb_ => .inr (by rw [List.mem_singleton.1 hb_]; exact (Nat.le_trans (Nat.le_trans hxA.size hn9.ext.size) hp11.only.size)))) hp40.only (fun b_ hb_ => .inr (by rw [List.mem_singleton.1 hb_]; exact (Nat.le_trans (Nat.le_trans hxA.size hn9.ext.size) hp11.only.size)))) hmC).okat (k := ((i : Int)).toNat) (by omega))) (by intro u_ hu_; simp only [List.mem_cons, List.not_mem_nil, or_false] at hu_; rcases hu_ with rfl <;> first | rfl | exact ((show Bytes _ ((at_nod L05 ((i : Int)).toNat).dv) ((at_nod L05 ((i : Int)).toNat).data) from (rowsN_onlyM hrC (Only.trans (Only.trans (Only.trans (Only.trans (Only.trans (Only.trans (Only.refl _ _) hxA (fun _ hb_ => .inl hb_)) hn9.ext (fun _ hb_ => by cases hb_)) hp11.only (fun b_ hb_ => .inr (by rw [List.mem_singleton.1 hb_]; exact hxA.size))) hn13.ext (fun _ hb_ => by cases hb_)) hp15.only (fun b_ hb_ => .inr (by rw [List.mem_singleton.1 hb_]; exact (Nat.le_trans (Nat.le_trans hxA.size hn9.ext.size) hp11.only.size)))) hp40.only (fun b_ hb_ => .inr (by rw [List.mem_singleton.1 hb_]; exact (Nat.le_trans (Nat.le_trans hxA.size hn9.ext.size) hp11.only.size)))) hmC).okat (k := ((i : Int)).toNat) (by omega))).cell1) hk41 (by simp)) rfl rfl ?_
     rintro h19 hp42
     refine ⟨trivial, ?_⟩
     have hk43 : Blk h19 h6.size [.int .i64 ((at_nod L05 ((i : Int)).toNat).kind), str ((at_nod L05 ((i : Int)).toNat).path), .int .i64 ((at_nod L05 ((i : Int)).toNat).mode), str ((at_nod L05 ((i : Int)).toNat).target), .int .i64 ((((at_nod L05 ((i : Int)).toNat).data).length : Int)), ((at_nod L05 ((i : Int)).toNat).dv)] := hp42.blk
     refine LH_done (by kernel_rfl) ?_
     refine X_then ?_
     refine W_sub _ (sk3 11 10 26 rfl rfl rfl (tk8 7 4 3 2 0 8 25 27)) ?_
     refine W_region ?_
     refine Mv ?_
     refine Ly (Y_fieldAddr (off := 5) (by kernel_rfl) rfl rfl) ?_
     refine Ly (Y_ldblk Tryz.underlying3 rfl rfl (hk12.ext (me15.then' hp42.only (by simp) (Nat.le_refl _))) rfl) ?_
     refine Ly (Y_fieldAddr (off := 1) (by kernel_rfl) rfl rfl) ?_
     refine Ly (Y_ldblk Tryz.underlying9 rfl rfl (hk12.ext (me15.then' hp42.only (by simp) (Nat.le_refl _))) rfl) ?_
     have me16 := me2.then' hp40.only (by simp) (Nat.le_trans hn9.ext.size hp11.only.size)
     have me17 := me16.then' hp42.only (by simp) (Nat.le_trans hn9.ext.size hp11.only.size)
     refine L_dos (D_updA (evl := (fun l : List UInt8 => str l)) (k := (at_nod L05 ((i : Int)).toNat).cls) (v := (at_nod L05 ((i : Int)).toNat).path) keyI Tryz.underlying53 Tryz.underlying3 rfl rfl rfl (hmL.ext me17)) rfl rfl ?_
     rintro h20 ⟨hx44, -, hb45⟩
     refine L_nil (X_block (X_then ?_))
     refine W_sub _ (sk2 11 26 rfl rfl (tk8 7 4 3 2 0 8 25 27)) ?_
     refine W_region ?_
     refine Mv ?_
     have me18 := Nat.le_trans (Nat.le_trans hx8.size hxA.size) hn9.ext.size
     have hc46 := (hk43.only hx44 (ni_gt (Nat.lt_of_lt_of_le hb3.lt (Nat.le_trans me18 hp11.only.size))))
     refine Ly (Y_ldbox (us := [.int .i64 ((at_nod L05 ((i : Int)).toNat).kind), str ((at_nod L05 ((i : Int)).toNat).path), .int .i64 ((at_nod L05 ((i : Int)).toNat).mode), str ((at_nod L05 ((i : Int)).toNat).target), .int .i64 ((((at_nod L05 ((i : Int)).toNat).data).length : Int)), ((at_nod L05 ((i : Int)).toNat).dv)]) Tryz.underlying35 rfl (show _ = some 6 by kernel_rfl) rfl hc46 rfl) ?_
     refine L_mks (M_litr (S := memS) (l := ([⟨(at_nod L05 ((i : Int)).toNat).kind, (at_nod L05 ((i : Int)).toNat).path, (at_nod L05 ((i : Int)).toNat).mode, (at_nod L05 ((i : Int)).toNat).target, (((at_nod L05 ((i : Int)).toNat).data).length : Int), ((at_nod L05 ((i : Int)).toNat).dv), (at_nod L05 ((i : Int)).toNat).data⟩] : List Mem)) (cells := [.int .i64 ((at_nod L05 ((i : Int)).toNat).kind), str ((at_nod L05 ((i : Int)).toNat).path), .int .i64 ((at_nod L05 ((i : Int)).toNat).mode), str ((at_nod L05 ((i : Int)).toNat).target), .int .i64 ((((at_nod L05 ((i : Int)).toNat).data).length : Int)), ((at_nod L05 ((i : Int)).toNat).dv)]) (pv := [(0, .agg #[.int .i64 ((at_nod L05 ((i : Int)).toNat).kind), str ((at_nod L05 ((i : Int)).toNat).path), .int .i64 ((at_nod L05 ((i : Int)).toNat).mode), str ((at_nod L05 ((i : Int)).toNat).target), .int .i64 ((((at_nod L05 ((i : Int)).toNat).data).length : Int)), ((at_nod L05 ((i : Int)).toNat).dv)])]) (E := 35) (evp (is := [0]) (os := [.tmp 83]) (vs := [.agg #[.int .i64 ((at_nod L05 ((i : Int)).toNat).kind), str ((at_nod L05 ((i : Int)).toNat).path), .int .i64 ((at_nod L05 ((i : Int)).toNat).mode), str ((at_nod L05 ((i : Int)).toNat).target), .int .i64 ((((at_nod L05 ((i : Int)).toNat).data).length : Int)), ((at_nod L05 ((i : Int)).toNat).dv)]]) rfl rfl) rfl rfl (fun _ => by kernel_rfl) (by simp only [List.mem_cons, List.not_mem_nil, or_false, forall_eq_or_imp, forall_eq]; exact (show Bytes _ ((at_nod L05 ((i : Int)).toNat).dv) ((at_nod L05 ((i : Int)).toNat).data) from (rowsN_onlyM hrC (Only.trans (Only.trans (Only.trans (Only.trans (Only.trans (Only.trans (Only.trans (Only.trans (Only.refl _ _) hxA (fun _ hb_ => .inl hb_)) hn9.ext (fun _ hb_ => by cases hb_)) hp11.only (fun b_ hb_ => .inr (by rw [List.mem_singleton.1 hb_]; exact hxA.size))) hn13.ext (fun _ hb_ => by cases hb_)) hp15.only (fun b_ hb_ => .inr (by rw [List.mem_singleton.1 hb_]; exact me8))) hp40.only (fun b_ hb_ => .inr (by rw [List.mem_singleton.1 hb_]; exact me8))) hp42.only (fun b_ hb_ => .inr (by rw [List.mem_singleton.1 hb_]; exact me8))) hx44 (fun _ hb_ => .inl hb_)) hmC).okat (k := ((i : Int)).toNat) (by omega)))) rfl rfl rfl ?_
     rintro v47 h21 ⟨ho48, hx49⟩
     have me19 := Nat.le_trans (Nat.le_trans me8 hn13.ext.size) hp15.only.size
     have me20 := Nat.le_trans (Nat.le_trans me19 hp40.only.size) hp42.only.size
     refine L_mks (M_apprG (z := 6) (bytes := 80) (z0 := (.agg #[.int .i64 0, str [], .int .i64 0, str [], .int .i64 0, .slice none 0 0])) Tryz.underlying25 (by unfold elemRow; kernel_rfl) rfl rfl (by decide) rfl rfl ((rowsO_onlyM (hoA.ext me17) hx44 (Nat.lt_of_lt_of_le hb3.lt hx8.size) (hmL.ext me17)).ext hx49) ho48.rows (Nat.le_trans (Nat.le_trans me20 hx44.size) hx49.size) (by first | (simp; omega) | (simp; done) | omega) (fun h' y hge x hx => okM_onlyM ((List.mem_append.1 hx).elim (hkA x) (fun q => by rw [List.mem_singleton.1 q]; exact hrC.2 _ (can_mem (k := i) (by omega)))) (only_app (Only.trans (Only.trans (Only.trans (Only.trans (Only.trans (Only.trans (Only.trans (Only.trans (Only.trans (Only.refl _ _) hxA (fun _ hb_ => .inl hb_)) hn9.ext (fun _ hb_ => by cases hb_)) hp11.only (fun b_ hb_ => .inr (by rw [List.mem_singleton.1 hb_]; exact hxA.size))) hn13.ext (fun _ hb_ => by cases hb_)) hp15.only (fun b_ hb_ => .inr (by rw [List.mem_singleton.1 hb_]; exact me8))) hp40.only (fun b_ hb_ => .inr (by rw [List.mem_singleton.1 hb_]; exact me8))) hp42.only (fun b_ hb_ => .inr (by rw [List.mem_singleton.1 hb_]; exact me8))) hx44 (fun _ hb_ => .inl hb_)) hx49 (fun _ hb_ => by cases hb_)) y hge) hmC)) rfl rfl rfl ?_
     rintro v50 h22 ⟨ha51, ha51l⟩
     refine Av ?_
     refine L_nil (X_block (X_then ?_))
     refine W_sub _ (sk1 8 rfl (tk8 26 7 4 3 2 0 25 27)) ?_
     refine W_region ?_
     refine Ly (Y_add rfl rfl (by omega) (by omega)) ?_
     refine Mv ?_
     refine L_nil ?_
     refine X_loop ((i + 1, v50)) (sk1 26 rfl (tk8 7 4 3 2 0 8 25 27)) ?_ ?_
     have hc52 := ((hb45.ext hx49).only ha51.only (fun hb_ => Nat.lt_irrefl _ (Nat.lt_of_lt_of_le (Nat.lt_of_lt_of_le hb3.lt hx8.size) (ha51.ge _ hb_))))
     ·exact ⟨by omega, mms_ok hkA (hrC.2 _ (can_mem (by omega))), (Only.trans (Only.trans (Only.trans (Only.trans (Only.trans (Only.trans (Only.trans (Only.trans (Only.trans (Only.trans (Only.refl _ _) hxA (fun _ hb_ => .inl hb_)) hn9.ext (fun _ hb_ => by cases hb_)) hp11.only (fun b_ hb_ => .inr (by rw [List.mem_singleton.1 hb_]; exact hxA.size))) hn13.ext (fun _ hb_ => by cases hb_)) hp15.only (fun b_ hb_ => .inr (by rw [List.mem_singleton.1 hb_]; exact me8))) hp40.only (fun b_ hb_ => .inr (by rw [List.mem_singleton.1 hb_]; exact me8))) hp42.only (fun b_ hb_ => .inr (by rw [List.mem_singleton.1 hb_]; exact me8))) hx44 (fun _ hb_ => .inl hb_)) hx49 (fun _ hb_ => by cases hb_)) ha51.only (fun b_ hb_ => .inr (Nat.le_trans (Nat.le_refl _) (ha51.ge b_ hb_)))), rowsO_congr ha51.own (mms_f a b).1, MapA.congr hc52 (mms_f a b).2⟩
     (try dsimp only)
     omega
    refine LO_yld (i := 4) rfl (Y_ldblk Tryz.underlying33 rfl rfl (hk12.ext (hn13.ext.then' hp15.only (by simp) (Nat.le_refl _))) rfl) rfl rfl rfl trivial ?_
    refine LH_one (i := 2) (by kernel_rfl) ?_
    have me21 := Nat.le_trans (Nat.le_trans hxA.size hn9.ext.size) hp11.only.size
    refine LO_yld (i := 2) rfl (Y_len Tryz.underlying33 rfl (show Bytes _ ((at_nod L05 ((i : Int)).toNat).dv) ((at_nod L05 ((i : Int)).toNat).data) from (rowsN_onlyM hrC (Only.trans (Only.trans (Only.trans (Only.trans (Only.trans (Only.refl _ _) hxA (fun _ hb_ => .inl hb_)) hn9.ext (fun _ hb_ => by cases hb_)) hp11.only (fun b_ hb_ => .inr (by rw [List.mem_singleton.1 hb_]; exact hxA.size))) hn13.ext (fun _ hb_ => by cases hb_)) hp15.only (fun b_ hb_ => .inr (by rw [List.mem_singleton.1 hb_]; exact me21))) hmC).okat (k := ((i : Int)).toNat) (by omega))) rfl rfl rfl trivial ?_
    refine LH_take (i := 5) rfl (fun h_ hI_ => Y_fieldAddr (off := 0) (by kernel_rfl) rfl rfl) rfl rfl rfl (by kernel_rfl) (by kernel_rfl) (by kernel_rfl) (fun _ _ _ => by rintro ⟨_, _, h_, _⟩; cases h_) trivial ?_
    refine LH_take (i := 6) rfl (fun h_ hI_ => Y_fieldAddr (off := 4) (by kernel_rfl) rfl rfl) rfl rfl rfl (by kernel_rfl) (by kernel_rfl) (by kernel_rfl) (fun _ _ _ => by rintro ⟨_, _, h_, _⟩; cases h_) trivial ?_
    refine LH_one (i := 7) (by kernel_rfl) ?_
    refine LO_dos (i := 7) rfl (D_store (us := [.int .i64 ((((at_nod L05 ((i : Int)).toNat).data).length : Int))]) (show _ = some 1 by kernel_rfl) rfl rfl rfl (by simp [Value.oneCell']) hk16 (by simp)) rfl rfl ?_
    rintro h23 hp53
    refine ⟨trivial, ?_⟩
    have hk54 : Blk h23 h6.size [.int .i64 ((at_nod L05 ((i : Int)).toNat).kind), str ((at_nod L05 ((i : Int)).toNat).path), .int .i64 ((at_nod L05 ((i : Int)).toNat).mode), str ((at_nod L05 ((i : Int)).toNat).target), .int .i64 ((((at_nod L05 ((i : Int)).toNat).data).length : Int)), .slice none 0 0] := hp53.blk
    refine LH_take (i := 8) rfl (fun h_ hI_ => Y_fieldAddr (off := 5) (by kernel_rfl) rfl rfl) rfl rfl rfl (by kernel_rfl) (by kernel_rfl) (by kernel_rfl) (fun _ _ _ => by rintro ⟨_, _, h_, _⟩; cases h_) trivial ?_
    refine LH_one (i := 9) (by kernel_rfl) ?_
    refine LO_dos (i := 9) rfl (D_store (us := [((at_nod L05 ((i : Int)).toNat).dv)]) (show _ = some 1 by kernel_rfl) rfl rfl (cells_slice (show Bytes _ ((at_nod L05 ((i : Int)).toNat).dv) ((at_nod L05 ((i : Int)).toNat).data) from (rowsN_onlyM hrC (Only.trans (Only.trans (Only.trans (Only.trans (Only.trans (Only.trans (Only.refl _ _) hxA (fun _ hb_ => .inl hb_)) hn9.ext (fun _ hb_ => by cases hb_)) hp11.only (fun b_ hb_ => .inr (by rw [List.mem_singleton.1 hb_]; exact hxA.size))) hn13.ext (fun _ hb_ => by cases hb_)) hp15.only (fun b_ hb_ => .inr (by rw [List.mem_singleton.1 hb_]; exact (Nat.le_trans (Nat.le_trans hxA.size hn9.ext.size) hp11.only.size)))) hp53.only (fun b_ hb_ => .inr (by rw [List.mem_singleton.1 hb_]; exact (Nat.le_trans (Nat.le_trans hxA.size hn9.ext.size) hp11.only.size)))) hmC).okat (k := ((i : Int)).toNat) (by omega))) (by intro u_ hu_; simp only [List.mem_cons, List.not_mem_nil, or_false] at hu_; rcases hu_ with rfl <;> first | rfl | exact ((show Bytes _ ((at_nod L05 ((i : Int)).toNat).dv) ((at_nod L05 ((i : Int)).toNat).data) from (rowsN_onlyM hrC (Only.trans (Only.trans (Only.trans (Only.trans (Only.trans (Only.trans (Only.refl _ _) hxA (fun _ hb_ => .inl hb_)) hn9.ext (fun _ hb_ => by cases hb_)) hp11.only (fun b_ hb_ => .inr (by rw [List.mem_singleton.1 hb_]; exact hxA.size))) hn13.ext (fun _ hb_ => by cases hb_)) hp15.only (fun b_ hb_ => .inr (by rw [List.mem_singleton.1 hb_]; exact (Nat.le_trans (Nat.le_trans hxA.size hn9.ext.size) hp11.only.size)))) hp53.only (fun b_ hb_ => .inr (by rw [List.mem_singleton.1 hb_]; exact (Nat.le_trans (Nat.le_trans hxA.size hn9.ext.size) hp11.only.size)))) hmC).okat (k := ((i : Int)).toNat) (by omega))).cell1) hk54 (by simp)) rfl rfl ?_
    rintro h24 hp55
    refine ⟨trivial, ?_⟩
    have hk56 : Blk h24 h6.size [.int .i64 ((at_nod L05 ((i : Int)).toNat).kind), str ((at_nod L05 ((i : Int)).toNat).path), .int .i64 ((at_nod L05 ((i : Int)).toNat).mode), str ((at_nod L05 ((i : Int)).toNat).target), .int .i64 ((((at_nod L05 ((i : Int)).toNat).data).length : Int)), ((at_nod L05 ((i : Int)).toNat).dv)] := hp55.blk
    refine LH_done (by kernel_rfl) ?_
    refine X_then ?_
    refine W_sub _ (sk3 11 10 26 rfl rfl rfl (tk8 7 4 3 2 0 8 25 27)) ?_
    refine W_region ?_
    refine Mv ?_
    refine Ly (Y_fieldAddr (off := 5) (by kernel_rfl) rfl rfl) ?_
    have me22 := (hn13.ext.then' hp15.only (by simp) (Nat.le_refl _)).then' hp53.only (by simp) (Nat.le_refl _)
    refine Ly (Y_ldblk Tryz.underlying3 rfl rfl (hk12.ext (me22.then' hp55.only (by simp) (Nat.le_refl _))) rfl) ?_
    refine Ly (Y_fieldAddr (off := 1) (by kernel_rfl) rfl rfl) ?_
    refine Ly (Y_ldblk Tryz.underlying9 rfl rfl (hk12.ext (me22.then' hp55.only (by simp) (Nat.le_refl _))) rfl) ?_
    have me23 := me2.then' hp53.only (by simp) (Nat.le_trans hn9.ext.size hp11.only.size)
    have me24 := me23.then' hp55.only (by simp) (Nat.le_trans hn9.ext.size hp11.only.size)
    refine L_dos (D_updA (evl := (fun l : List UInt8 => str l)) (k := (at_nod L05 ((i : Int)).toNat).cls) (v := (at_nod L05 ((i : Int)).toNat).path) keyI Tryz.underlying53 Tryz.underlying3 rfl rfl rfl (hmL.ext me24)) rfl rfl ?_
    rintro h25 ⟨hx57, -, hb58⟩
    refine L_nil (X_block (X_then ?_))
    refine W_sub _ (sk2 11 26 rfl rfl (tk8 7 4 3 2 0 8 25 27)) ?_
    refine W_region ?_
    refine Mv ?_
    have me25 := Nat.le_trans (Nat.le_trans hx8.size hxA.size) hn9.ext.size
    have hc59 := (hk56.only hx57 (ni_gt (Nat.lt_of_lt_of_le hb3.lt (Nat.le_trans me25 hp11.only.size))))
    refine Ly (Y_ldbox (us := [.int .i64 ((at_nod L05 ((i : Int)).toNat).kind), str ((at_nod L05 ((i : Int)).toNat).path), .int .i64 ((at_nod L05 ((i : Int)).toNat).mode), str ((at_nod L05 ((i : Int)).toNat).target), .int .i64 ((((at_nod L05 ((i : Int)).toNat).data).length : Int)), ((at_nod L05 ((i : Int)).toNat).dv)]) Tryz.underlying35 rfl (show _ = some 6 by kernel_rfl) rfl hc59 rfl) ?_
    refine L_mks (M_litr (S := memS) (l := ([⟨(at_nod L05 ((i : Int)).toNat).kind, (at_nod L05 ((i : Int)).toNat).path, (at_nod L05 ((i : Int)).toNat).mode, (at_nod L05 ((i : Int)).toNat).target, (((at_nod L05 ((i : Int)).toNat).data).length : Int), ((at_nod L05 ((i : Int)).toNat).dv), (at_nod L05 ((i : Int)).toNat).data⟩] : List Mem)) (cells := [.int .i64 ((at_nod L05 ((i : Int)).toNat).kind), str ((at_nod L05 ((i : Int)).toNat).path), .int .i64 ((at_nod L05 ((i : Int)).toNat).mode), str ((at_nod L05 ((i : Int)).toNat).target), .int .i64 ((((at_nod L05 ((i : Int)).toNat).data).length : Int)), ((at_nod L05 ((i : Int)).toNat).dv)]) (pv := [(0, .agg #[.int .i64 ((at_nod L05 ((i : Int)).toNat).kind), str ((at_nod L05 ((i : Int)).toNat).path), .int .i64 ((at_nod L05 ((i : Int)).toNat).mode), str ((at_nod L05 ((i : Int)).toNat).target), .int .i64 ((((at_nod L05 ((i : Int)).toNat).data).length : Int)), ((at_nod L05 ((i : Int)).toNat).dv)])]) (E := 35) (evp (is := [0]) (os := [.tmp 83]) (vs := [.agg #[.int .i64 ((at_nod L05 ((i : Int)).toNat).kind), str ((at_nod L05 ((i : Int)).toNat).path), .int .i64 ((at_nod L05 ((i : Int)).toNat).mode), str ((at_nod L05 ((i : Int)).toNat).target), .int .i64 ((((at_nod L05 ((i : Int)).toNat).data).length : Int)), ((at_nod L05 ((i : Int)).toNat).dv)]]) rfl rfl) rfl rfl (fun _ => by kernel_rfl) (by simp only [List.mem_cons, List.not_mem_nil, or_false, forall_eq_or_imp, forall_eq]; exact (show Bytes _ ((at_nod L05 ((i : Int)).toNat).dv) ((at_nod L05 ((i : Int)).toNat).data) from (rowsN_onlyM hrC (Only.trans (Only.trans (Only.trans (Only.trans (Only.trans (Only.trans (Only.trans (Only.trans (Only.refl _ _) hxA (fun _ hb_ => .inl hb_)) hn9.ext (fun _ hb_ => by cases hb_)) hp11.only (fun b_ hb_ => .inr (by rw [List.mem_singleton.1 hb_]; exact hxA.size))) hn13.ext (fun _ hb_ => by cases hb_)) hp15.only (fun b_ hb_ => .inr (by rw [List.mem_singleton.1 hb_]; exact me21))) hp53.only (fun b_ hb_ => .inr (by rw [List.mem_singleton.1 hb_]; exact me21))) hp55.only (fun b_ hb_ => .inr (by rw [List.mem_singleton.1 hb_]; exact me21))) hx57 (fun _ hb_ => .inl hb_)) hmC).okat (k := ((i : Int)).toNat) (by omega)))) rfl rfl rfl ?_
    rintro v60 h26 ⟨ho61, hx62⟩
    have me26 := Nat.le_trans (Nat.le_trans me21 hn13.ext.size) hp15.only.size
    have me27 := Nat.le_trans (Nat.le_trans me26 hp53.only.size) hp55.only.size
    refine L_mks (M_apprG (z := 6) (bytes := 80) (z0 := (.agg #[.int .i64 0, str [], .int .i64 0, str [], .int .i64 0, .slice none 0 0])) Tryz.underlying25 (by unfold elemRow; kernel_rfl) rfl rfl (by decide) rfl rfl ((rowsO_onlyM (hoA.ext me24) hx57 (Nat.lt_of_lt_of_le hb3.lt hx8.size) (hmL.ext me24)).ext hx62) ho61.rows (Nat.le_trans (Nat.le_trans me27 hx57.size) hx62.size) (by first | (simp; omega) | (simp; done) | omega) (fun h' y hge x hx => okM_onlyM ((List.mem_append.1 hx).elim (hkA x) (fun q => by rw [List.mem_singleton.1 q]; exact hrC.2 _ (can_mem (k := i) (by omega)))) (only_app (Only.trans (Only.trans (Only.trans (Only.trans (Only.trans (Only.trans (Only.trans (Only.trans (Only.trans (Only.refl _ _) hxA (fun _ hb_ => .inl hb_)) hn9.ext (fun _ hb_ => by cases hb_)) hp11.only (fun b_ hb_ => .inr (by rw [List.mem_singleton.1 hb_]; exact hxA.size))) hn13.ext (fun _ hb_ => by cases hb_)) hp15.only (fun b_ hb_ => .inr (by rw [List.mem_singleton.1 hb_]; exact me21))) hp53.only (fun b_ hb_ => .inr (by rw [List.mem_singleton.1 hb_]; exact me21))) hp55.only (fun b_ hb_ => .inr (by rw [List.mem_singleton.1 hb_]; exact me21))) hx57 (fun _ hb_ => .inl hb_)) hx62 (fun _ hb_ => by cases hb_)) y hge) hmC)) rfl rfl rfl ?_
    rintro v63 h27 ⟨ha64, ha64l⟩
    refine Av ?_
    refine L_nil (X_block (X_then ?_))
    refine W_sub _ (sk1 8 rfl (tk8 26 7 4 3 2 0 25 27)) ?_
    refine W_region ?_
    refine Ly (Y_add rfl rfl (by omega) (by omega)) ?_
    refine Mv ?_
    refine L_nil ?_
    refine X_loop ((i + 1, v63)) (sk1 26 rfl (tk8 7 4 3 2 0 8 25 27)) ?_ ?_
    have hc65 := ((hb58.ext hx62).only ha64.only (fun hb_ => Nat.lt_irrefl _ (Nat.lt_of_lt_of_le (Nat.lt_of_lt_of_le hb3.lt hx8.size) (ha64.ge _ hb_))))
    ·exact ⟨by omega, mms_ok hkA (hrC.2 _ (can_mem (by omega))), (Only.trans (Only.trans (Only.trans (Only.trans (Only.trans (Only.trans (Only.trans (Only.trans (Only.trans (Only.trans (Only.refl _ _) hxA (fun _ hb_ => .inl hb_)) hn9.ext (fun _ hb_ => by cases hb_)) hp11.only (fun b_ hb_ => .inr (by rw [List.mem_singleton.1 hb_]; exact hxA.size))) hn13.ext (fun _ hb_ => by cases hb_)) hp15.only (fun b_ hb_ => .inr (by rw [List.mem_singleton.1 hb_]; exact me21))) hp53.only (fun b_ hb_ => .inr (by rw [List.mem_singleton.1 hb_]; exact me21))) hp55.only (fun b_ hb_ => .inr (by rw [List.mem_singleton.1 hb_]; exact me21))) hx57 (fun _ hb_ => .inl hb_)) hx62 (fun _ hb_ => by cases hb_)) ha64.only (fun b_ hb_ => .inr (Nat.le_trans (Nat.le_refl _) (ha64.ge b_ hb_)))), rowsO_congr ha64.own (mms_f a b).1, MapA.congr hc65 (mms_f a b).2⟩
    (try dsimp only)
    omega
   refine LO_yld (i := 4) rfl (Y_ldblk Tryz.underlying33 rfl rfl (hk12.ext (hn13.ext.then' hp15.only (by simp) (Nat.le_refl _))) rfl) rfl rfl rfl trivial ?_
   refine LH_one (i := 1) (by kernel_rfl) ?_
   refine LO_yld (i := 1) rfl (Y_ldblk Tryz.underlying33 rfl rfl (hk12.ext (hn13.ext.then' hp15.only (by simp) (Nat.le_refl _))) rfl) rfl rfl rfl trivial ?_
   refine LH_one (i := 2) (by kernel_rfl) ?_
   have me28 := Nat.le_trans (Nat.le_trans hxA.size hn9.ext.size) hp11.only.size
   refine LO_yld (i := 2) rfl (Y_len Tryz.underlying33 rfl (show Bytes _ ((at_nod L05 ((i : Int)).toNat).dv) ((at_nod L05 ((i : Int)).toNat).data) from (rowsN_onlyM hrC (Only.trans (Only.trans (Only.trans (Only.trans (Only.trans (Only.refl _ _) hxA (fun _ hb_ => .inl hb_)) hn9.ext (fun _ hb_ => by cases hb_)) hp11.only (fun b_ hb_ => .inr (by rw [List.mem_singleton.1 hb_]; exact hxA.size))) hn13.ext (fun _ hb_ => by cases hb_)) hp15.only (fun b_ hb_ => .inr (by rw [List.mem_singleton.1 hb_]; exact me28))) hmC).okat (k := ((i : Int)).toNat) (by omega))) rfl rfl rfl trivial ?_
   refine LH_take (i := 5) rfl (fun h_ hI_ => Y_fieldAddr (off := 0) (by kernel_rfl) rfl rfl) rfl rfl rfl (by kernel_rfl) (by kernel_rfl) (by kernel_rfl) (fun _ _ _ => by rintro ⟨_, _, h_, _⟩; cases h_) trivial ?_
   refine LH_take (i := 6) rfl (fun h_ hI_ => Y_fieldAddr (off := 4) (by kernel_rfl) rfl rfl) rfl rfl rfl (by kernel_rfl) (by kernel_rfl) (by kernel_rfl) (fun _ _ _ => by rintro ⟨_, _, h_, _⟩; cases h_) trivial ?_
   refine LH_one (i := 7) (by kernel_rfl) ?_
   refine LO_dos (i := 7) rfl (D_store (us := [.int .i64 ((((at_nod L05 ((i : Int)).toNat).data).length : Int))]) (show _ = some 1 by kernel_rfl) rfl rfl rfl (by simp [Value.oneCell']) hk16 (by simp)) rfl rfl ?_
   rintro h28 hp66
   refine ⟨trivial, ?_⟩
   have hk67 : Blk h28 h6.size [.int .i64 ((at_nod L05 ((i : Int)).toNat).kind), str ((at_nod L05 ((i : Int)).toNat).path), .int .i64 ((at_nod L05 ((i : Int)).toNat).mode), str ((at_nod L05 ((i : Int)).toNat).target), .int .i64 ((((at_nod L05 ((i : Int)).toNat).data).length : Int)), .slice none 0 0] := hp66.blk
   refine LH_take (i := 8) rfl (fun h_ hI_ => Y_fieldAddr (off := 5) (by kernel_rfl) rfl rfl) rfl rfl rfl (by kernel_rfl) (by kernel_rfl) (by kernel_rfl) (fun _ _ _ => by rintro ⟨_, _, h_, _⟩; cases h_) trivial ?_
   refine LH_one (i := 9) (by kernel_rfl) ?_
   refine LO_dos (i := 9) rfl (D_store (us := [((at_nod L05 ((i : Int)).toNat).dv)]) (show _ = some 1 by kernel_rfl) rfl rfl (cells_slice (show Bytes _ ((at_nod L05 ((i : Int)).toNat).dv) ((at_nod L05 ((i : Int)).toNat).data) from (rowsN_onlyM hrC (Only.trans (Only.trans (Only.trans (Only.trans (Only.trans (Only.trans (Only.refl _ _) hxA (fun _ hb_ => .inl hb_)) hn9.ext (fun _ hb_ => by cases hb_)) hp11.only (fun b_ hb_ => .inr (by rw [List.mem_singleton.1 hb_]; exact hxA.size))) hn13.ext (fun _ hb_ => by cases hb_)) hp15.only (fun b_ hb_ => .inr (by rw [List.mem_singleton.1 hb_]; exact (Nat.le_trans (Nat.le_trans hxA.size hn9.ext.size) hp11.only.size)))) hp66.only (fun b_ hb_ => .inr (by rw [List.mem_singleton.1 hb_]; exact (Nat.le_trans (Nat.le_trans hxA.size hn9.ext.size) hp11.only.size)))) hmC).okat (k := ((i : Int)).toNat) (by omega))) (by intro u_ hu_; simp only [List.mem_cons, List.not_mem_nil, or_false] at hu_; rcases hu_ with rfl <;> first | rfl | exact ((show Bytes _ ((at_nod L05 ((i : Int)).toNat).dv) ((at_nod L05 ((i : Int)).toNat).data) from (rowsN_onlyM hrC (Only.trans (Only.trans (Only.trans (Only.trans (Only.trans (Only.trans (Only.refl _ _) hxA (fun _ hb_ => .inl hb_)) hn9.ext (fun _ hb_ => by cases hb_)) hp11.only (fun b_ hb_ => .inr (by rw [List.mem_singleton.1 hb_]; exact hxA.size))) hn13.ext (fun _ hb_ => by cases hb_)) hp15.only (fun b_ hb_ => .inr (by rw [List.mem_singleton.1 hb_]; exact (Nat.le_trans (Nat.le_trans hxA.size hn9.ext.size) hp11.only.size)))) hp66.only (fun b_ hb_ => .inr (by rw [List.mem_singleton.1 hb_]; exact (Nat.le_trans (Nat.le_trans hxA.size hn9.ext.size) hp11.only.size)))) hmC).okat (k := ((i : Int)).toNat) (by omega))).cell1) hk67 (by simp)) rfl rfl ?_
   rintro h29 hp68
   refine ⟨trivial, ?_⟩
   have hk69 : Blk h29 h6.size [.int .i64 ((at_nod L05 ((i : Int)).toNat).kind), str ((at_nod L05 ((i : Int)).toNat).path), .int .i64 ((at_nod L05 ((i : Int)).toNat).mode), str ((at_nod L05 ((i : Int)).toNat).target), .int .i64 ((((at_nod L05 ((i : Int)).toNat).data).length : Int)), ((at_nod L05 ((i : Int)).toNat).dv)] := hp68.blk
   refine LH_done (by kernel_rfl) ?_
   refine X_then ?_
   refine W_sub _ (sk3 11 10 26 rfl rfl rfl (tk8 7 4 3 2 0 8 25 27)) ?_
   refine W_region ?_
   refine Mv ?_
   refine Ly (Y_fieldAddr (off := 5) (by kernel_rfl) rfl rfl) ?_
   have me29 := (hn13.ext.then' hp15.only (by simp) (Nat.le_refl _)).then' hp66.only (by simp) (Nat.le_refl _)
   refine Ly (Y_ldblk Tryz.underlying3 rfl rfl (hk12.ext (me29.then' hp68.only (by simp) (Nat.le_refl _))) rfl) ?_
   refine Ly (Y_fieldAddr (off := 1) (by kernel_rfl) rfl rfl) ?_
   refine Ly (Y_ldblk Tryz.underlying9 rfl rfl (hk12.ext (me29.then' hp68.only (by simp) (Nat.le_refl _))) rfl) ?_
   have me30 := me2.then' hp66.only (by simp) (Nat.le_trans hn9.ext.size hp11.only.size)
   have me31 := me30.then' hp68.only (by simp) (Nat.le_trans hn9.ext.size hp11.only.size)
   refine L_dos (D_updA (evl := (fun l : List UInt8 => str l)) (k := (at_nod L05 ((i : Int)).toNat).cls) (v := (at_nod L05 ((i : Int)).toNat).path) keyI Tryz.underlying53 Tryz.underlying3 rfl rfl rfl (hmL.ext me31)) rfl rfl ?_
   rintro h30 ⟨hx70, -, hb71⟩
   refine L_nil (X_block (X_then ?_))
   refine W_sub _ (sk2 11 26 rfl rfl (tk8 7 4 3 2 0 8 25 27)) ?_
   refine W_region ?_
   refine Mv ?_
   have me32 := Nat.le_trans (Nat.le_trans hx8.size hxA.size) hn9.ext.size
   have hc72 := (hk69.only hx70 (ni_gt (Nat.lt_of_lt_of_le hb3.lt (Nat.le_trans me32 hp11.only.size))))
   refine Ly (Y_ldbox (us := [.int .i64 ((at_nod L05 ((i : Int)).toNat).kind), str ((at_nod L05 ((i : Int)).toNat).path), .int .i64 ((at_nod L05 ((i : Int)).toNat).mode), str ((at_nod L05 ((i : Int)).toNat).target), .int .i64 ((((at_nod L05 ((i : Int)).toNat).data).length : Int)), ((at_nod L05 ((i : Int)).toNat).dv)]) Tryz.underlying35 rfl (show _ = some 6 by kernel_rfl) rfl hc72 rfl) ?_
   refine L_mks (M_litr (S := memS) (l := ([⟨(at_nod L05 ((i : Int)).toNat).kind, (at_nod L05 ((i : Int)).toNat).path, (at_nod L05 ((i : Int)).toNat).mode, (at_nod L05 ((i : Int)).toNat).target, (((at_nod L05 ((i : Int)).toNat).data).length : Int), ((at_nod L05 ((i : Int)).toNat).dv), (at_nod L05 ((i : Int)).toNat).data⟩] : List Mem)) (cells := [.int .i64 ((at_nod L05 ((i : Int)).toNat).kind), str ((at_nod L05 ((i : Int)).toNat).path), .int .i64 ((at_nod L05 ((i : Int)).toNat).mode), str ((at_nod L05 ((i : Int)).toNat).target), .int .i64 ((((at_nod L05 ((i : Int)).toNat).data).length : Int)), ((at_nod L05 ((i : Int)).toNat).dv)]) (pv := [(0, .agg #[.int .i64 ((at_nod L05 ((i : Int)).toNat).kind), str ((at_nod L05 ((i : Int)).toNat).path), .int .i64 ((at_nod L05 ((i : Int)).toNat).mode), str ((at_nod L05 ((i : Int)).toNat).target), .int .i64 ((((at_nod L05 ((i : Int)).toNat).data).length : Int)), ((at_nod L05 ((i : Int)).toNat).dv)])]) (E := 35) (evp (is := [0]) (os := [.tmp 83]) (vs := [.agg #[.int .i64 ((at_nod L05 ((i : Int)).toNat).kind), str ((at_nod L05 ((i : Int)).toNat).path), .int .i64 ((at_nod L05 ((i : Int)).toNat).mode), str ((at_nod L05 ((i : Int)).toNat).target), .int .i64 ((((at_nod L05 ((i : Int)).toNat).data).length : Int)), ((at_nod L05 ((i : Int)).toNat).dv)]]) rfl rfl) rfl rfl (fun _ => by kernel_rfl) (by simp only [List.mem_cons, List.not_mem_nil, or_false, forall_eq_or_imp, forall_eq]; exact (show Bytes _ ((at_nod L05 ((i : Int)).toNat).dv) ((at_nod L05 ((i : Int)).toNat).data) from (rowsN_onlyM hrC (Only.trans (Only.trans (Only.trans (Only.trans (Only.trans (Only.trans (Only.trans (Only.trans (Only.refl _ _) hxA (fun _ hb_ => .inl hb_)) hn9.ext (fun _ hb_ => by cases hb_)) hp11.only (fun b_ hb_ => .inr (by rw [List.mem_singleton.1 hb_]; exact hxA.size))) hn13.ext (fun _ hb_ => by cases hb_)) hp15.only (fun b_ hb_ => .inr (by rw [List.mem_singleton.1 hb_]; exact me28))) hp66.only (fun b_ hb_ => .inr (by rw [List.mem_singleton.1 hb_]; exact me28))) hp68.only (fun b_ hb_ => .inr (by rw [List.mem_singleton.1 hb_]; exact me28))) hx70 (fun _ hb_ => .inl hb_)) hmC).okat (k := ((i : Int)).toNat) (by omega)))) rfl rfl rfl ?_
   rintro v73 h31 ⟨ho74, hx75⟩
   have me33 := Nat.le_trans (Nat.le_trans me28 hn13.ext.size) hp15.only.size
   have me34 := Nat.le_trans (Nat.le_trans me33 hp66.only.size) hp68.only.size
   refine L_mks (M_apprG (z := 6) (bytes := 80) (z0 := (.agg #[.int .i64 0, str [], .int .i64 0, str [], .int .i64 0, .slice none 0 0])) Tryz.underlying25 (by unfold elemRow; kernel_rfl) rfl rfl (by decide) rfl rfl ((rowsO_onlyM (hoA.ext me31) hx70 (Nat.lt_of_lt_of_le hb3.lt hx8.size) (hmL.ext me31)).ext hx75) ho74.rows (Nat.le_trans (Nat.le_trans me34 hx70.size) hx75.size) (by first | (simp; omega) | (simp; done) | omega) (fun h' y hge x hx => okM_onlyM ((List.mem_append.1 hx).elim (hkA x) (fun q => by rw [List.mem_singleton.1 q]; exact hrC.2 _ (can_mem (k := i) (by omega)))) (only_app (Only.trans (Only.trans (Only.trans (Only.trans (Only.trans (Only.trans (Only.trans (Only.trans (Only.trans (Only.refl _ _) hxA (fun _ hb_ => .inl hb_)) hn9.ext (fun _ hb_ => by cases hb_)) hp11.only (fun b_ hb_ => .inr (by rw [List.mem_singleton.1 hb_]; exact hxA.size))) hn13.ext (fun _ hb_ => by cases hb_)) hp15.only (fun b_ hb_ => .inr (by rw [List.mem_singleton.1 hb_]; exact me28))) hp66.only (fun b_ hb_ => .inr (by rw [List.mem_singleton.1 hb_]; exact me28))) hp68.only (fun b_ hb_ => .inr (by rw [List.mem_singleton.1 hb_]; exact me28))) hx70 (fun _ hb_ => .inl hb_)) hx75 (fun _ hb_ => by cases hb_)) y hge) hmC)) rfl rfl rfl ?_
   rintro v76 h32 ⟨ha77, ha77l⟩
   refine Av ?_
   refine L_nil (X_block (X_then ?_))
   refine W_sub _ (sk1 8 rfl (tk8 26 7 4 3 2 0 25 27)) ?_
   refine W_region ?_
   refine Ly (Y_add rfl rfl (by omega) (by omega)) ?_
   refine Mv ?_
   refine L_nil ?_
   refine X_loop ((i + 1, v76)) (sk1 26 rfl (tk8 7 4 3 2 0 8 25 27)) ?_ ?_
   have hc78 := ((hb71.ext hx75).only ha77.only (fun hb_ => Nat.lt_irrefl _ (Nat.lt_of_lt_of_le (Nat.lt_of_lt_of_le hb3.lt hx8.size) (ha77.ge _ hb_))))
   ·exact ⟨by omega, mms_ok hkA (hrC.2 _ (can_mem (by omega))), (Only.trans (Only.trans (Only.trans (Only.trans (Only.trans (Only.trans (Only.trans (Only.trans (Only.trans (Only.trans (Only.refl _ _) hxA (fun _ hb_ => .inl hb_)) hn9.ext (fun _ hb_ => by cases hb_)) hp11.only (fun b_ hb_ => .inr (by rw [List.mem_singleton.1 hb_]; exact hxA.size))) hn13.ext (fun _ hb_ => by cases hb_)) hp15.only (fun b_ hb_ => .inr (by rw [List.mem_singleton.1 hb_]; exact me28))) hp66.only (fun b_ hb_ => .inr (by rw [List.mem_singleton.1 hb_]; exact me28))) hp68.only (fun b_ hb_ => .inr (by rw [List.mem_singleton.1 hb_]; exact me28))) hx70 (fun _ hb_ => .inl hb_)) hx75 (fun _ hb_ => by cases hb_)) ha77.only (fun b_ hb_ => .inr (Nat.le_trans (Nat.le_refl _) (ha77.ge b_ hb_)))), rowsO_congr ha77.own (mms_f a b).1, MapA.congr hc78 (mms_f a b).2⟩
   (try dsimp only)
   omega
  refine W_skip (X_block (X_then ?_))
  refine W_sub _ (sk2 11 26 rfl rfl (tk8 7 4 3 2 0 8 25 27)) ?_
  refine W_region ?_
  refine Mv ?_
  refine Ly (Y_ldbox (us := [.int .i64 ((at_nod L05 ((i : Int)).toNat).kind), str ((at_nod L05 ((i : Int)).toNat).path), .int .i64 ((at_nod L05 ((i : Int)).toNat).mode), str ((at_nod L05 ((i : Int)).toNat).target), .int .i64 0, .slice none 0 0]) Tryz.underlying35 rfl (show _ = some 6 by kernel_rfl) rfl hk16 rfl) ?_
  refine L_mks (M_litr (S := memS) (l := ([⟨(at_nod L05 ((i : Int)).toNat).kind, (at_nod L05 ((i : Int)).toNat).path, (at_nod L05 ((i : Int)).toNat).mode, (at_nod L05 ((i : Int)).toNat).target, (0 : Int), .slice none 0 0, ([] : List UInt8)⟩] : List Mem)) (cells := [.int .i64 ((at_nod L05 ((i : Int)).toNat).kind), str ((at_nod L05 ((i : Int)).toNat).path), .int .i64 ((at_nod L05 ((i : Int)).toNat).mode), str ((at_nod L05 ((i : Int)).toNat).target), .int .i64 0, .slice none 0 0]) (pv := [(0, .agg #[.int .i64 ((at_nod L05 ((i : Int)).toNat).kind), str ((at_nod L05 ((i : Int)).toNat).path), .int .i64 ((at_nod L05 ((i : Int)).toNat).mode), str ((at_nod L05 ((i : Int)).toNat).target), .int .i64 0, .slice none 0 0])]) (E := 35) (evp (is := [0]) (os := [.tmp 83]) (vs := [.agg #[.int .i64 ((at_nod L05 ((i : Int)).toNat).kind), str ((at_nod L05 ((i : Int)).toNat).path), .int .i64 ((at_nod L05 ((i : Int)).toNat).mode), str ((at_nod L05 ((i : Int)).toNat).target), .int .i64 0, .slice none 0 0]]) rfl rfl) rfl rfl (fun _ => by kernel_rfl) (by simp only [List.mem_cons, List.not_mem_nil, or_false, forall_eq_or_imp, forall_eq]; exact (Bytes.nil _))) rfl rfl rfl ?_
  rintro v79 h33 ⟨ho80, hx81⟩
  have me35 := Nat.le_trans (Nat.le_trans hxA.size hn9.ext.size) hp11.only.size
  have me36 := Nat.le_trans (Nat.le_trans me35 hn13.ext.size) hp15.only.size
  refine L_mks (M_apprG (z := 6) (bytes := 80) (z0 := (.agg #[.int .i64 0, str [], .int .i64 0, str [], .int .i64 0, .slice none 0 0])) Tryz.underlying25 (by unfold elemRow; kernel_rfl) rfl rfl (by decide) rfl rfl (hoA.ext (me2.trans hx81)) ho80.rows (Nat.le_trans me36 hx81.size) (by first | (simp; omega) | (simp; done) | omega) (fun h' y hge x hx => okM_onlyM ((List.mem_append.1 hx).elim (hkA x) (fun q => by rw [List.mem_singleton.1 q]; exact Bytes.nil _)) (only_app (Only.trans (Only.trans (Only.trans (Only.trans (Only.trans (Only.trans (Only.refl _ _) hxA (fun _ hb_ => .inl hb_)) hn9.ext (fun _ hb_ => by cases hb_)) hp11.only (fun b_ hb_ => .inr (by rw [List.mem_singleton.1 hb_]; exact hxA.size))) hn13.ext (fun _ hb_ => by cases hb_)) hp15.only (fun b_ hb_ => .inr (by rw [List.mem_singleton.1 hb_]; exact me35))) hx81 (fun _ hb_ => by cases hb_)) y hge) hmC)) rfl rfl rfl ?_
  rintro v82 h34 ⟨ha83, ha83l⟩
  refine Av ?_
  refine L_nil (X_block (X_then ?_))
  refine W_sub _ (sk1 8 rfl (tk8 26 7 4 3 2 0 25 27)) ?_
  refine W_region ?_
  refine Ly (Y_add rfl rfl (by omega) (by omega)) ?_
  refine Mv ?_
  refine L_nil ?_
  refine X_loop ((i + 1, v82)) (sk1 26 rfl (tk8 7 4 3 2 0 8 25 27)) ?_ ?_
  have hc84 := ((((((hmL.ext hn9.ext).only hp11.only (ni_lt (Nat.lt_of_lt_of_le hb3.lt (Nat.le_trans hx8.size hxA.size)))).ext hn13.ext).only hp15.only (ni_lt (Nat.lt_of_lt_of_le hb3.lt (Nat.le_trans (Nat.le_trans (Nat.le_trans hx8.size hxA.size) hn9.ext.size) hp11.only.size)))).ext hx81).only ha83.only (fun hb_ => Nat.lt_irrefl _ (Nat.lt_of_lt_of_le (Nat.lt_of_lt_of_le hb3.lt hx8.size) (ha83.ge _ hb_))))
  ·exact ⟨by omega, mms_ok hkA (hrC.2 _ (can_mem (by omega))), (Only.trans (Only.trans (Only.trans (Only.trans (Only.trans (Only.trans (Only.trans (Only.refl _ _) hxA (fun _ hb_ => .inl hb_)) hn9.ext (fun _ hb_ => by cases hb_)) hp11.only (fun b_ hb_ => .inr (by rw [List.mem_singleton.1 hb_]; exact hxA.size))) hn13.ext (fun _ hb_ => by cases hb_)) hp15.only (fun b_ hb_ => .inr (by rw [List.mem_singleton.1 hb_]; exact me35))) hx81 (fun _ hb_ => by cases hb_)) ha83.only (fun b_ hb_ => .inr (Nat.le_trans (Nat.le_refl _) (ha83.ge b_ hb_)))), rowsO_congr ha83.own (mms_n a b).1, MapA.congr hc84 (mms_n a b).2⟩
  (try dsimp only)
  omega
 refine W_exit ?_
 refine X_then_exit (X_then_exit ?_)
 refine X_block_hit ?_
 refine X_then ?_
 refine W_sub _ (tk5 4 3 2 0 8) ?_
 refine Wr ?_
 refine Mv ?_
 refine Mv ?_
 refine Ly (Y_lenr Tryz.underlying22 rfl (hl.ext (((hx1.trans hx2).trans hx8).then' hxA (by simp) hx1.size))) ?_
 refine Av ?_
 refine Av ?_
 refine Av ?_
 refine Nx ?_
 refine W_sub _ (tk3 4 3 2) ?_
 refine W_ret ?_
 refine X_ret3 rfl rfl rfl rfl ?_
 exact ⟨_, _, by rw [hz, (tok_of hz).res.1], hoA.rows, by have e9 := mbs_of hz (by assumption); rw [← e9]; congr 1; congr 1; omega, (((hx1.trans hx2).trans hx8).then' hxA (by simp) hx1.size)⟩
end Go.Xp

/- Layer 14 (flatten): the example. -/
set_option linter.unusedSimpArgs false
set_option linter.unusedVariables false
set_option linter.unusedSectionVars false
namespace Go.Xp
open Go.Proofs

theorem can_okl {A : List Nod} (h : ¬ 0 < ntoo A) : A.length ≤ 40 ∧ A.length ≤ 1000000000 ∧ ∀ x ∈ A, x.path.length ≤ 100000000000 ∧ x.target.length ≤ 100000000000 ∧ x.data.length ≤ 100000000000 := by
  obtain ⟨h1, h2⟩ := ntoo_ok h
  refine ⟨h1, by omega, fun x hx => ?_⟩
  obtain ⟨k, hk, rfl⟩ := List.getElem_of_mem hx
  have := h2 k hk
  unfold nb at_nod at this
  rw [List.getD_eq_getElem?_getD, List.getElem?_eq_getElem hk] at this
  simp only [Option.getD_some] at this
  omega
def exF : List Nod := [⟨1, [98], 0, [], .slice none 0 0, [], 1⟩, ⟨1, [97], 0, [], .slice none 0 0, [], 1⟩]
def exM : List Mem := [⟨1, [97], 0, [], 0, .slice none 0 0, []⟩, ⟨3, [98], 0, [97], 0, .slice none 0 0, []⟩]
theorem exF_ok : terr exF = 0 := by decide +kernel
theorem exF_mem : mbs exF = exM := by
  unfold mbs
  rw [if_pos exF_ok]
  have : mem1 (cno exF) = exM := by kernel_rfl
  exact this
theorem exF_at {M : List Mem} (h : M.map erm = mbs exF) (k : Nat) : erm (at_mem M k) = at_mem exM k := by rw [← at_erm, h, exF_mem]
theorem exF_len {M : List Mem} (h : M.map erm = mbs exF) : M.length = 2 := by
  have := congrArg List.length h
  rw [exF_mem, List.length_map] at this; exact this
theorem exFS : ∀ x ∈ exF, x.path.length ≤ 100000000000 ∧ x.target.length ≤ 100000000000 ∧ x.data.length ≤ 100000000000 := by
  intro x hx
  simp [exF] at hx
  rcases hx with rfl | rfl <;> decide

theorem exF_all {M : List Mem} (h : M.map erm = mbs exF) : (((terr exF = 0 ∧ (M.length : Int) = 2) ∧ (at_mem M 0).path = [97]) ∧ (at_mem M 0).kind = 1) ∧ (at_mem M 1).kind = 3 ∧ (at_mem M 1).path = [98] ∧ (at_mem M 1).mode = 0 ∧ (at_mem M 1).target = [97] ∧ (at_mem M 1).size = 0 := by
  have h0 := exF_at h 0
  have h1 := exF_at h 1
  have hl := exF_len h
  refine ⟨⟨⟨⟨exF_ok, by omega⟩, congrArg Mem.path h0⟩, congrArg Mem.kind h0⟩, congrArg Mem.kind h1, congrArg Mem.path h1, congrArg Mem.mode h1, congrArg Mem.target h1, congrArg Mem.size h1⟩

set_option maxRecDepth 100000 in
theorem law14_alive (h : Heap) (hK : GlbK h) (hE : GlbE h) : Cal Tryz.prog 7 #[] h (fun v h' => v = .bool true ∧ Ext h h') := by
 refine Cal_enter (args := []) Tryz.func7 rfl rfl rfl (fun σ => ?_)
 refine Wr ?_
 refine Av ?_
 refine L_nil (X_then (W_seq (W_region ?_)))
 refine Ly (Y_build (v := .agg #[.int .i64 1, str [98], .int .i64 0, str [], .slice none 0 0, .int .i64 1]) (pv := [(0, .int .i64 1), (1, str [98]), (5, .int .i64 1)]) (evp (is := [0, 1, 5]) (os := [.const (.int .i64 1), .const (str [98]), .const (.int .i64 1)]) (vs := [.int .i64 1, str [98], .int .i64 1]) rfl rfl) (fun _ => by kernel_rfl)) ?_
 refine Ly (Y_build (v := .agg #[.int .i64 1, str [97], .int .i64 0, str [], .slice none 0 0, .int .i64 1]) (pv := [(0, .int .i64 1), (1, str [97]), (5, .int .i64 1)]) (evp (is := [0, 1, 5]) (os := [.const (.int .i64 1), .const (str [97]), .const (.int .i64 1)]) (vs := [.int .i64 1, str [97], .int .i64 1]) rfl rfl) (fun _ => by kernel_rfl)) ?_
 refine L_mks (M_litr (S := nodS) (l := ([⟨(1 : Int), [98], (0 : Int), [], .slice none 0 0, ([] : List UInt8), (1 : Int)⟩, ⟨(1 : Int), [97], (0 : Int), [], .slice none 0 0, ([] : List UInt8), (1 : Int)⟩] : List Nod)) (cells := [.int .i64 1, str [98], .int .i64 0, str [], .slice none 0 0, .int .i64 1, .int .i64 1, str [97], .int .i64 0, str [], .slice none 0 0, .int .i64 1]) (pv := [(0, .agg #[.int .i64 1, str [98], .int .i64 0, str [], .slice none 0 0, .int .i64 1]), (1, .agg #[.int .i64 1, str [97], .int .i64 0, str [], .slice none 0 0, .int .i64 1])]) (E := 50) (evp (is := [0, 1]) (os := [.tmp 5, .tmp 6]) (vs := [.agg #[.int .i64 1, str [98], .int .i64 0, str [], .slice none 0 0, .int .i64 1], .agg #[.int .i64 1, str [97], .int .i64 0, str [], .slice none 0 0, .int .i64 1]]) rfl rfl) rfl rfl (fun _ => by kernel_rfl) (by simp only [List.mem_cons, List.not_mem_nil, or_false, forall_eq_or_imp, forall_eq]; exact ⟨(Bytes.nil _), (Bytes.nil _)⟩)) rfl rfl rfl ?_
 rintro v1 h1 ⟨ho2, hx3⟩
 refine L_call (E_call (by kernel_rfl) rfl) (flatten_Members _ (hK.ext hx3) (hE.ext hx3) v1 ([⟨(1 : Int), [98], (0 : Int), [], .slice none 0 0, ([] : List UInt8), (1 : Int)⟩, ⟨(1 : Int), [97], (0 : Int), [], .slice none 0 0, ([] : List UInt8), (1 : Int)⟩] : List Nod) ho2.rows (by decide) exFS) rfl rfl rfl ?_
 rintro _ h2 ⟨s04, L05, rfl, hr06, hq07, hx8⟩
 refine Mv ?_
 refine Ly (Y_extract (v := s04) rfl rfl) ?_
 refine Ly (Y_extract (v := .int .i64 (tpos ([⟨(1 : Int), [98], (0 : Int), [], .slice none 0 0, ([] : List UInt8), (1 : Int)⟩, ⟨(1 : Int), [97], (0 : Int), [], .slice none 0 0, ([] : List UInt8), (1 : Int)⟩] : List Nod))) rfl rfl) ?_
 refine Ly (Y_extract (v := .int .i64 (terr ([⟨(1 : Int), [98], (0 : Int), [], .slice none 0 0, ([] : List UInt8), (1 : Int)⟩, ⟨(1 : Int), [97], (0 : Int), [], .slice none 0 0, ([] : List UInt8), (1 : Int)⟩] : List Nod))) rfl rfl) ?_
 refine Av ?_
 refine Av ?_
 refine Av ?_
 refine Nx ?_
 refine W_sub _ (tk3 3 1 0) ?_
 refine W_cut (S := Unit) (fun _ => [(0, .bool (decide ((((((terr ([⟨(1 : Int), [98], (0 : Int), [], .slice none 0 0, ([] : List UInt8), (1 : Int)⟩, ⟨(1 : Int), [97], (0 : Int), [], .slice none 0 0, ([] : List UInt8), (1 : Int)⟩] : List Nod)) = 0) ∧ ((L05.length : Int) = 2)) ∧ (((at_mem L05 0).path) = [97])) ∧ (((at_mem L05 0).kind) = 1)) ∧ (((at_mem L05 1).kind) = (3 : Int) ∧ ((at_mem L05 1).path) = [98] ∧ ((at_mem L05 1).mode) = (0 : Int) ∧ ((at_mem L05 1).target) = [97] ∧ ((at_mem L05 1).size) = (0 : Int)))))]) (fun _ h' => h' = h2) ?_ ?_
 ·refine W_region ?_
  refine Mv ?_
  refine Ly (Y_eql rfl rfl) ?_
  refine Mv ?_
  refine L_splitd (d := 14) rfl (fun c9 => ?_) (fun c9 => ?_)
  ·refine Ly (Y_move rfl) ?_
   refine Ly (Y_lenr Tryz.underlying25 rfl hr06) ?_
   refine Ly (Y_eql rfl rfl) ?_
   refine Ly (Y_pick_t rfl rfl) ?_
   refine Mv ?_
   refine L_splitd (d := 19) rfl (fun c10 => ?_) (fun c10 => ?_)
   ·refine Ly (Y_move rfl) ?_
    refine Ly (Y_idxr Tryz.underlying25 (show _ = some 6 by kernel_rfl) rfl rfl rfl hr06 (by omega) (by omega)) ?_
    refine Ly (Y_fldr (k := 0) (off := 0) (by kernel_rfl) rfl hr06 (by omega)) ?_
    refine Ly (Y_fldr (k := 0) (off := 1) (by kernel_rfl) rfl hr06 (by omega)) ?_
    refine Ly (Y_ldr1 (off := 1) (k := 0) (u := str ((at_mem L05 0).path)) Tryz.underlying9 rfl rfl rfl hr06 (by omega) rfl) ?_
    refine Ly (Y_seql rfl rfl) ?_
    refine Ly (Y_pick_t rfl rfl) ?_
    refine Mv ?_
    refine L_splitd (d := 27) rfl (fun c11 => ?_) (fun c11 => ?_)
    ·refine Ly (Y_move rfl) ?_
     refine Ly (Y_idxr Tryz.underlying25 (show _ = some 6 by kernel_rfl) rfl rfl rfl hr06 (by omega) (by omega)) ?_
     refine Ly (Y_fldr (k := 0) (off := 0) (by kernel_rfl) rfl hr06 (by omega)) ?_
     refine Ly (Y_fldr (k := 0) (off := 0) (by kernel_rfl) rfl hr06 (by omega)) ?_
     refine Ly (Y_ldr1 (off := 0) (k := 0) (u := .int .i64 ((at_mem L05 0).kind)) Tryz.underlying3 rfl rfl rfl hr06 (by omega) rfl) ?_
     refine Ly (Y_eql rfl rfl) ?_
     refine Ly (Y_pick_t rfl rfl) ?_
     refine Mv ?_
     refine L_splitd (d := 35) rfl (fun c12 => ?_) (fun c12 => ?_)
     ·refine Ly (Y_move rfl) ?_
      refine Ly (Y_idxr Tryz.underlying25 (show _ = some 6 by kernel_rfl) rfl rfl rfl hr06 (by omega) (by omega)) ?_
      refine Ly (Y_fldr (k := 1) (off := 0) (by kernel_rfl) rfl hr06 (by omega)) ?_
      refine Ly (Y_ldrA (off := 0) (k := 1) (us := [.int .i64 ((at_mem L05 1).kind), str ((at_mem L05 1).path), .int .i64 ((at_mem L05 1).mode), str ((at_mem L05 1).target), .int .i64 ((at_mem L05 1).size)]) Tryz.underlying32 rfl (show _ = some 5 by kernel_rfl) rfl rfl hr06 (by omega) rfl) ?_
      refine Ly (Y_build (v := .agg #[.int .i64 3, str [98], .int .i64 0, str [97], .int .i64 0]) (pv := [(0, .int .i64 3), (1, str [98]), (3, str [97])]) (evp (is := [0, 1, 3]) (os := [.const (.int .i64 3), .const (str [98]), .const (str [97])]) (vs := [.int .i64 3, str [98], str [97]]) rfl rfl) (fun _ => by kernel_rfl)) ?_
      refine Ly (Y_steql (xs := [.int .i64 ((at_mem L05 1).kind), str ((at_mem L05 1).path), .int .i64 ((at_mem L05 1).mode), str ((at_mem L05 1).target), .int .i64 ((at_mem L05 1).size)]) (ys := [.int .i64 3, str [98], .int .i64 0, str [97], .int .i64 0]) (r := decide (((at_mem L05 1).kind) = (3 : Int) ∧ ((at_mem L05 1).path) = [98] ∧ ((at_mem L05 1).mode) = (0 : Int) ∧ ((at_mem L05 1).target) = [97] ∧ ((at_mem L05 1).size) = (0 : Int))) (by kernel_rfl) (by kernel_rfl) (by kernel_rfl) rfl rfl (steq (ks := [.i .i64, .s, .i .i64, .s, .i .i64]) (by kernel_rfl) (by simp [eqks, eqk]))) ?_
      refine Ly (Y_pick_t rfl rfl) ?_
      refine Av ?_
      refine L_nil ?_
      exact X_cut () (sk1 0 (lkb rfl (by first | (simp only [eq_true c9, eq_true c10, eq_true c11, eq_true c12, SB]; done) | (exfalso; contradiction) | (exfalso; omega))) sN) rfl
     refine Skp ?_
     refine Skp ?_
     refine Skp ?_
     refine Skp ?_
     refine Skp ?_
     refine Skp ?_
     refine Ly (Y_pick_f rfl rfl) ?_
     refine Av ?_
     refine L_nil ?_
     exact X_cut () (sk1 0 (lkb rfl (by first | (simp only [eq_true c9, eq_true c10, eq_true c11, eq_false c12, SB]; done) | (exfalso; contradiction) | (exfalso; omega))) sN) rfl
    refine Skp ?_
    refine Skp ?_
    refine Skp ?_
    refine Skp ?_
    refine Skp ?_
    refine Skp ?_
    refine Ly (Y_pick_f rfl rfl) ?_
    refine Mv ?_
    refine Skp ?_
    refine Skp ?_
    refine Skp ?_
    refine Skp ?_
    refine Skp ?_
    refine Skp ?_
    refine Ly (Y_pick_f rfl rfl) ?_
    refine Av ?_
    refine L_nil ?_
    exact X_cut () (sk1 0 (lkb rfl (by first | (simp only [eq_true c9, eq_true c10, eq_false c11, SB]; done) | (simp only [eq_true c9, eq_true c10, eq_false c11, SB]; rfl))) sN) rfl
   refine Skp ?_
   refine Skp ?_
   refine Skp ?_
   refine Skp ?_
   refine Skp ?_
   refine Skp ?_
   refine Ly (Y_pick_f rfl rfl) ?_
   refine Mv ?_
   refine Skp ?_
   refine Skp ?_
   refine Skp ?_
   refine Skp ?_
   refine Skp ?_
   refine Skp ?_
   refine Ly (Y_pick_f rfl rfl) ?_
   refine Mv ?_
   refine Skp ?_
   refine Skp ?_
   refine Skp ?_
   refine Skp ?_
   refine Skp ?_
   refine Skp ?_
   refine Ly (Y_pick_f rfl rfl) ?_
   refine Av ?_
   refine L_nil ?_
   exact X_cut () (sk1 0 (lkb rfl (by first | (simp only [eq_true c9, eq_false c10, SB]; done) | (simp only [eq_true c9, eq_false c10, SB]; rfl))) sN) rfl
  refine Skp ?_
  refine Skp ?_
  refine Skp ?_
  refine Ly (Y_pick_f rfl rfl) ?_
  refine Mv ?_
  refine Skp ?_
  refine Skp ?_
  refine Skp ?_
  refine Skp ?_
  refine Skp ?_
  refine Skp ?_
  refine Ly (Y_pick_f rfl rfl) ?_
  refine Mv ?_
  refine Skp ?_
  refine Skp ?_
  refine Skp ?_
  refine Skp ?_
  refine Skp ?_
  refine Skp ?_
  refine Ly (Y_pick_f rfl rfl) ?_
  refine Mv ?_
  refine Skp ?_
  refine Skp ?_
  refine Skp ?_
  refine Skp ?_
  refine Skp ?_
  refine Skp ?_
  refine Ly (Y_pick_f rfl rfl) ?_
  refine Av ?_
  refine L_nil ?_
  exact X_cut () (sk1 0 (lkb rfl (by first | (simp only [eq_false c9, SB]; done) | (simp only [eq_false c9, SB]; rfl))) sN) rfl
 rintro _ h2 rfl
 show W _ _ _ _ _ [(0, .bool (decide ((((((terr ([⟨(1 : Int), [98], (0 : Int), [], .slice none 0 0, ([] : List UInt8), (1 : Int)⟩, ⟨(1 : Int), [97], (0 : Int), [], .slice none 0 0, ([] : List UInt8), (1 : Int)⟩] : List Nod)) = 0) ∧ ((L05.length : Int) = 2)) ∧ (((at_mem L05 0).path) = [97])) ∧ (((at_mem L05 0).kind) = 1)) ∧ (((at_mem L05 1).kind) = (3 : Int) ∧ ((at_mem L05 1).path) = [98] ∧ ((at_mem L05 1).mode) = (0 : Int) ∧ ((at_mem L05 1).target) = [97] ∧ ((at_mem L05 1).size) = (0 : Int)))))] _
 refine W_ret ?_
 refine X_ret1 rfl rfl ?_
 exact ⟨congrArg Value.bool (decide_eq_true (exF_all (by assumption))), (hx3.trans hx8)⟩

end Go.Xp

/- Layer 14 (flatten): the members of a tree stand in order: plain theory. -/
set_option linter.unusedSimpArgs false
set_option linter.unusedVariables false
set_option linter.unusedSectionVars false
namespace Go.Xp

/-- The directories among the first k members. -/
def odk (M : List Mem) : Nat → List (List UInt8)
  | 0 => [[]]
  | k + 1 => if (at_mem M k).kind = 0 then kins (odk M k) (at_mem M k).path else odk M k
/-- The files among the first k members. -/
def ofl (M : List Mem) : Nat → List (List UInt8 × Int)
  | 0 => []
  | k + 1 => if (at_mem M k).kind = 1 then aset (ofl M k) (at_mem M k).path (at_mem M k).mode else ofl M k
theorem odk_nil (M : List Mem) : ∀ k, [] ∈ odk M k
  | 0 => by simp [odk]
  | k + 1 => by
    unfold odk
    split
    · exact mem_kins.2 (.inl (odk_nil M k))
    · exact odk_nil M k
theorem odk_mem {M : List Mem} {j : Nat} (h0 : (at_mem M j).kind = 0) : ∀ {k : Nat}, j < k → (at_mem M j).path ∈ odk M k
  | k + 1, h => by
    unfold odk
    by_cases e : j = k
    · subst e; rw [if_pos h0]; exact mem_kins.2 (.inr rfl)
    · have ih := odk_mem h0 (k := k) (by omega)
      split
      · exact mem_kins.2 (.inl ih)
      · exact ih
theorem ofl_get {M : List Mem} {j : Nat} (h1 : (at_mem M j).kind = 1) : ∀ {k : Nat}, j < k → (∀ i, i < k → i ≠ j → ¬ (at_mem M i).path = (at_mem M j).path) → aget (ofl M k) (at_mem M j).path = some (at_mem M j).mode
  | k + 1, h, hd => by
    unfold ofl
    by_cases e : j = k
    · subst e; rw [if_pos h1, aget_aset, if_pos rfl]
    · have ih := ofl_get h1 (k := k) (by omega) (fun i hi => hd i (by omega))
      split
      · rw [aget_aset, if_neg (fun q => hd k (by omega) (fun q2 => e q2.symm) q.symm)]; exact ih
      · exact ih
section
variable {C : List Nod} {M : List Mem}
theorem om_msp (hM : M.map erm = mem1 C) {k : Nat} (h : k < C.length) : erm (at_mem M k) = msp C k := by
  rw [← at_erm, hM]
  unfold mem1 at_mem
  rw [List.getD_eq_getElem?_getD, List.getElem?_map, List.getElem?_range h]; rfl
theorem om_f (hM : M.map erm = mem1 C) {k : Nat} (h : k < C.length) : (at_mem M k).kind = (msp C k).kind ∧ (at_mem M k).path = (msp C k).path ∧ (at_mem M k).mode = (msp C k).mode ∧ (at_mem M k).target = (msp C k).target ∧ (at_mem M k).size = (msp C k).size ∧ (at_mem M k).data = (msp C k).data := by
  rw [← om_msp hM h]; exact ⟨rfl, rfl, rfl, rfl, rfl, rfl⟩
theorem om_path (hM : M.map erm = mem1 C) {k : Nat} (h : k < C.length) : (at_mem M k).path = (at_nod C k).path := (om_f hM h).2.1.trans msp_path
theorem om_len (hM : M.map erm = mem1 C) : M.length = C.length := by
  have := congrArg List.length hM
  simpa [mem1] using this
theorem up_ne (hu : Up C) {i j : Nat} (hi : i < C.length) (hj : j < C.length) (h : i ≠ j) : ¬ (at_nod C i).path = (at_nod C j).path := fun e => by
  have key : ∀ {x y : Nod}, x.path = y.path → ¬ nlt x y := fun {x y} e q => by rw [nlt_iff, e, less_irrefl] at q; cases q
  rcases Nat.lt_or_gt_of_ne h with q | q
  · exact key e (hu i j q hj)
  · exact key e.symm (hu j i q hi)
theorem ord_up (hu : Up C) (hM : M.map erm = mem1 C) {i : Nat} (h0 : 0 < i) (hi : i < C.length) : pcmp (at_mem M (i - 1)).path (at_mem M i).path = -1 := by
  rw [om_path hM (by omega), om_path hM hi]
  exact pcmp_lt (nlt_iff.1 (hu (i - 1) i (by omega) hi))
theorem par_lt {p : List UInt8} (h : ¬ pparent p = []) : Op.bytesLess (pparent p) p = true := by
  rcases par_cases p with ⟨h1, -⟩ | ⟨s, h1, -⟩
  · exact absurd h1 h
  · have hl : (pparent p).length < p.length := by
      have := congrArg List.length h1
      simp at this; omega
    refine less_short (fun k hk => ?_) hl
    have e : byt p k = byt (pparent p ++ ([47] ++ s)) k := by rw [← List.append_assoc, ← h1]
    rw [e]; unfold byt
    rw [List.getD_eq_getElem?_getD, List.getD_eq_getElem?_getD, List.getElem?_append_left hk]
theorem ord_par (hC : Cano C) (hM : M.map erm = mem1 C) {i : Nat} (hi : i < C.length) : pparent (at_mem M i).path ∈ odk M i := by
  rw [om_path hM hi]
  rcases hC.set.par _ (can_mem hi) with h | ⟨y, hy, h1, h2⟩
  · rw [h]; exact odk_nil M i
  · by_cases h : pparent (at_nod C i).path = []
    · rw [h]; exact odk_nil M i
    · obtain ⟨j, hj, rfl⟩ := mem_at hy
      have hji : j < i := by
        apply Decidable.byContradiction
        intro q
        have hl : nlt (at_nod C j) (at_nod C i) := nlt_iff.2 (by rw [h2]; exact par_lt h)
        by_cases e : i = j
        · subst e; rw [nlt_iff, less_irrefl] at hl; cases hl
        · exact nlt_nle (hC.up i j (by omega) hj) hl
      have hk : (at_mem M j).kind = 0 := by
        have e : (at_mem M j).kind = (msp C j).kind := (om_f hM hj).1
        rw [e, msp_nl (fun q => by have := q.1.1; omega), if_neg (by omega)]; exact h1
      have := odk_mem hk hji
      rw [om_path hM hj, h2] at this
      exact this
theorem fcheck_parts {k m z : Int} {p tg : List UInt8} (h : fcheck k p m tg z = 0) : pcheck p = 0 ∧ (0 ≤ m ∧ m ≤ 4095) := by
  unfold fcheck at h
  split at h
  · cases h
  · split at h
    · rename_i a; exact absurd h a
    · rename_i a
      split at h
      · cases h
      · rename_i b
        refine ⟨Classical.not_not.1 a, ?_⟩
        have : ¬ (m < 0 ∨ 4095 < m) := fun q => b (.inl q)
        omega
theorem fcheck_link {p tg : List UInt8} {m : Int} (hp : pcheck p = 0) (hm : 0 ≤ m ∧ m ≤ 4095) (ht : pcheck tg = 0) : fcheck 3 p m tg 0 = 0 := by
  unfold fcheck ftarget fsize
  rw [if_neg (by decide), if_neg (by simp [hp]), if_neg (by simp; omega), if_pos rfl, if_neg (by simp [ht]), if_neg (by decide), if_neg (by decide)]
theorem lk_first (hC : Cano C) {i : Nat} (hi : i < C.length) (h : Lk C i) : ∃ f, f < i ∧ (msp C i).target = (at_nod C f).path ∧ (at_nod C f).kind = 1 ∧ ¬ Lk C f ∧ (at_nod C f).mode = (at_nod C i).mode := by
  have hf : nfirst C (at_nod C i).cls < i := h.2
  have hc := nfirst_cls (l := C) (c := (at_nod C i).cls) (by omega)
  refine ⟨_, hf, by rw [msp_lk h], hC.set.cfl _ (can_mem (by omega)) (by rw [hc]; exact h.1.2), fun q => ?_, ?_⟩
  · have := q.2; rw [hc] at this; omega
  · exact (hC.set.agr _ (can_mem (by omega)) _ (can_mem hi) hc (by have := h.1.2; omega)).1
theorem ord_chk (hC : Cano C) (hM : M.map erm = mem1 C) {i : Nat} (hi : i < C.length) : fcheck (at_mem M i).kind (at_mem M i).path (at_mem M i).mode (at_mem M i).target (at_mem M i).size = 0 := by
  have e := om_f hM hi
  have e1 : (at_mem M i).kind = (msp C i).kind := e.1
  have e2 : (at_mem M i).path = (msp C i).path := e.2.1
  have e3 : (at_mem M i).mode = (msp C i).mode := e.2.2.1
  have e4 : (at_mem M i).target = (msp C i).target := e.2.2.2.1
  have e5 : (at_mem M i).size = (msp C i).size := e.2.2.2.2.1
  rw [e1, e2, e3, e4, e5]
  have hn := (tone_parts (hC.set.one _ (can_mem hi))).2.1
  by_cases h : Lk C i
  · obtain ⟨f, h1, h2, h3, h4, h5⟩ := lk_first hC hi h
    have hp := fcheck_parts hn
    have hq := fcheck_parts (tone_parts (hC.set.one _ (can_mem (show f < C.length by omega)))).2.1
    rw [h2, msp_lk h]
    exact fcheck_link hp.1 hp.2 hq.1
  · rw [msp_nl h]
    unfold nfc nsize at hn
    split
    · rename_i hk; rw [if_pos hk] at hn; exact hn
    · rename_i hk; rw [if_neg hk] at hn; exact hn
theorem ord_file (hC : Cano C) (hM : M.map erm = mem1 C) {i : Nat} (hi : i < C.length) (hk : (at_mem M i).kind = 1) : ((at_mem M i).data.length : Int) = (at_mem M i).size := by
  have e := om_f hM hi
  have e1 : (at_mem M i).kind = (msp C i).kind := e.1
  have e5 : (at_mem M i).size = (msp C i).size := e.2.2.2.2.1
  have e6 : (at_mem M i).data = (msp C i).data := e.2.2.2.2.2
  rw [e5, e6]
  rw [e1] at hk
  by_cases h : Lk C i
  · rw [msp_lk h] at hk; cases hk
  · rw [msp_nl h] at hk ⊢
    split
    · rfl
    · rename_i q; rw [if_neg q] at hk; exact absurd hk q
theorem ord_link (hC : Cano C) (hM : M.map erm = mem1 C) {i : Nat} (hi : i < C.length) (hk : (at_mem M i).kind = 3) : aget (ofl M i) (at_mem M i).target = some (at_mem M i).mode ∧ (at_mem M i).data = [] := by
  have e := om_f hM hi
  have e1 : (at_mem M i).kind = (msp C i).kind := e.1
  have e3 : (at_mem M i).mode = (msp C i).mode := e.2.2.1
  have e4 : (at_mem M i).target = (msp C i).target := e.2.2.2.1
  have e6 : (at_mem M i).data = (msp C i).data := e.2.2.2.2.2
  rw [e1] at hk
  have h := (msp_kind hC hi).1 hk
  obtain ⟨f, h1, h2, h3, h4, h5⟩ := lk_first hC hi h
  have hf : f < C.length := by omega
  have g := om_f hM hf
  have g1 : (at_mem M f).kind = 1 := by
    have : (at_mem M f).kind = (msp C f).kind := g.1
    rw [this, msp_nl h4, if_pos h3]; exact h3
  have g3 : (at_mem M f).mode = (at_nod C f).mode := (g.2.2.1).trans msp_mode
  refine ⟨?_, by rw [e6, msp_lk h]⟩
  have := ofl_get g1 (k := i) h1 (fun j hj hne => by rw [om_path hM (by omega), om_path hM hf]; exact up_ne hC.up (by omega) hf hne)
  rw [e4, h2, ← om_path hM hf, this, g3, h5, e3, msp_mode]
theorem odk_y {k : Nat} (h : (at_mem M k).kind = 0) : kins (odk M k) (at_mem M k).path = odk M (k + 1) := by conv => rhs; unfold odk; rw [if_pos h]
theorem odk_n {k : Nat} (h : ¬ (at_mem M k).kind = 0) : odk M k = odk M (k + 1) := by conv => rhs; unfold odk; rw [if_neg h]
theorem ofl_y {k : Nat} (h : (at_mem M k).kind = 1) : aset (ofl M k) (at_mem M k).path (at_mem M k).mode = ofl M (k + 1) := by conv => rhs; unfold ofl; rw [if_pos h]
theorem ofl_n {k : Nat} (h : ¬ (at_mem M k).kind = 1) : ofl M k = ofl M (k + 1) := by conv => rhs; unfold ofl; rw [if_neg h]
theorem ord_len {l : List Nod} {B : Nat} (hz : terr l = 0) (hM : M.map erm = mem1 (cno l)) (hs : ∀ x ∈ l, x.path.length ≤ B ∧ x.target.length ≤ B ∧ x.data.length ≤ B) {i : Nat} (hi : i < M.length) : (at_mem M i).path.length ≤ B ∧ (at_mem M i).target.length ≤ B ∧ (at_mem M i).data.length ≤ B ∧ 0 ≤ (at_mem M i).size ∧ (at_mem M i).size ≤ B := by
  have hC := Cano.of (tok_of hz).set
  rw [om_len hM] at hi
  have ha := cno_all (P := fun p t d => p.length ≤ B ∧ t.length ≤ B ∧ d.length ≤ B) hs
  have h1 := ha _ (can_mem hi)
  obtain ⟨e1, e2, e3, e4, e5, e6⟩ := om_f hM hi
  rw [e2, e4, e5, e6, msp_path]
  by_cases h : Lk (cno l) i
  · obtain ⟨f, h2, h3, h4, h5, h6⟩ := lk_first hC hi h
    rw [h3, msp_lk h]
    exact ⟨h1.1, (ha _ (can_mem (show f < (cno l).length by omega))).1, Nat.zero_le _, Int.le_refl _, by simp⟩
  · rw [msp_nl h]
    split
    · exact ⟨h1.1, h1.2.1, h1.2.2, by simp, by have := h1.2.2; simp; omega⟩
    · exact ⟨h1.1, h1.2.1, by simp, by simp, by simp⟩
end
end Go.Xp

/- Layer 14 (flatten): the law on the order of the members. -/
set_option linter.unusedSimpArgs false
set_option linter.unusedVariables false
set_option linter.unusedSectionVars false
namespace Go.Xp
open Go.Proofs

set_option maxRecDepth 100000 in
theorem flattenOrder (h : Heap) (hG : Glb h) (hK : GlbK h) (hN : GlbN h) (hE : GlbE h) (hT : GlbT h) (w : Value) (l : List Nod) (hl : Rows nodS h w l) (hn : l.length ≤ 140737488355328) (hs : ∀ x ∈ l, x.path.length ≤ 140737488355328 ∧ x.target.length ≤ 140737488355328 ∧ x.data.length ≤ 140737488355328) : Cal Tryz.prog 3 #[w] h (fun v h' => v = .bool true ∧ Ext h h') := by
 refine Cal_enter (args := [w]) Tryz.func3 rfl rfl rfl (fun σ => ?_)
 refine Wr ?_
 refine Av ?_
 refine L_nil (X_then (W_seq (W_seq (W_region ?_))))
 refine Mv ?_
 refine L_call (E_call (by kernel_rfl) rfl) (law13_TooLarge _ w l hl hn hs) rfl rfl rfl ?_
 rintro _ h1 ⟨rfl, hx1⟩
 refine Ly (Y_gtr rfl rfl) ?_
 refine Nx ?_
 refine W_sub _ (tk3 16 2 0) ?_
 refine W_splitd rfl (fun g => ?_) (fun g => ?_)
 ·refine Wr ?_
  refine L_call (E_call (by kernel_rfl) rfl) (law14_alive _ (hK.ext hx1) (hE.ext hx1)) rfl rfl rfl ?_
  rintro _ h2 ⟨rfl, hx2⟩
  refine Av ?_
  refine Nx ?_
  refine W_sub _ (tk2 2 0) ?_
  refine W_ret (X_then_ret ?_)
  refine X_ret1 rfl rfl ?_
  exact ⟨rfl, (hx1.trans hx2)⟩
 refine Ws ?_
 refine W_sub _ (tk2 2 0) ?_
 have okA := can_okl g
 refine Wr ?_
 refine Mv ?_
 refine L_call (E_call (by kernel_rfl) rfl) (flatten_Members _ (hK.ext hx1) (hE.ext hx1) w l (hl.ext hx1) okA.2.1 okA.2.2) rfl rfl rfl ?_
 rintro _ h3 ⟨s03, L04, rfl, hr05, hq06, hx7⟩
 refine Mv ?_
 refine Ly (Y_extract (v := s03) rfl rfl) ?_
 refine Ly (Y_extract (v := .int .i64 (tpos l)) rfl rfl) ?_
 refine Ly (Y_extract (v := .int .i64 (terr l)) rfl rfl) ?_
 refine Av ?_
 refine Av ?_
 refine Av ?_
 refine Nx ?_
 refine W_sub _ (tk4 5 3 2 0) ?_
 refine W_seq (W_seq (W_region ?_))
 refine Mv ?_
 refine Ly (Y_neq rfl rfl) ?_
 refine Nx ?_
 refine W_sub _ (tk4 25 3 2 0) ?_
 refine W_splitd rfl (fun e => ?_) (fun e => ?_)
 ·have hq := congrArg List.length hq06
  rw [List.length_map, show mbs l = [] by unfold mbs; rw [if_neg e]] at hq
  refine Wr ?_
  refine L_call (E_call (by kernel_rfl) rfl) (law14_alive _ (hK.ext (hx1.trans hx7)) (hE.ext (hx1.trans hx7))) rfl rfl rfl ?_
  rintro _ h4 ⟨rfl, hx8⟩
  refine Mv ?_
  refine Mv ?_
  refine Ly (Y_lenr Tryz.underlying25 rfl (hr05.ext hx8)) ?_
  refine Ly (Y_eql rfl rfl) ?_
  refine Ly (Y_pick_t rfl rfl) ?_
  refine Av ?_
  refine Nx ?_
  refine W_sub _ (tk3 2 3 0) ?_
  refine W_ret (X_then_ret ?_)
  refine X_ret1 rfl rfl ?_
  exact ⟨congrArg Value.bool (decide_eq_true (by rw [hq]; rfl)), ((hx1.trans hx7).trans hx8)⟩
 refine Ws ?_
 refine W_sub _ (tk3 3 2 0) ?_
 have hz := Classical.not_not.1 e
 have hC := Cano.of (tok_of hz).set
 have hM : (L04).map erm = mem1 (cno l) := by have := hq06; unfold mbs at this; rwa [if_pos hz] at this
 have hlen := om_len hM
 have hlen2 := cno_len l
 refine Wr ?_
 refine L_mks (M_makeMap (α := List UInt8) (fun l : List UInt8 => str l)) rfl rfl rfl ?_
 rintro _ h5 ⟨rfl, hx9, hb10⟩
 refine L_dos (D_insert keyS Tryz.underlying29 Tryz.underlying9 rfl rfl rfl hb10) rfl rfl ?_
 rintro h6 ⟨hx11, -, hb12⟩
 refine Mv ?_
 refine L_mks (M_makeMapA (enc := (fun l : List UInt8 => str l)) (evl := (fun z : Int => .int .i64 z))) rfl rfl rfl ?_
 rintro _ h7 ⟨rfl, hx13, hb14⟩
 refine Av ?_
 refine Av ?_
 refine Nx ?_
 refine W_sub _ (tk5 7 6 3 2 0) ?_
 refine W_seq (W_seq (W_region ?_))
 refine Mv ?_
 refine Ly (Y_lenr Tryz.underlying25 rfl (hr05.ext ((hx9.then' hx11 (by simp) (Nat.le_refl _)).trans hx13))) ?_
 refine Mv ?_
 refine L_nil (X_then (W_block ?_))
 refine W_loop (S := Nat) (fun i => [(36, .int .i64 ((L04.length : Int))), (35, s03), (7, .map (some h6.size)), (6, .map (some h3.size)), (3, s03), (0, w), (37, .int .i64 ((i : Int)))]) (fun i h' => i ≤ (L04).length ∧ Ext h3 h' ∧ SetK h' h3.size (odk L04 i) ∧ MapA (fun l : List UInt8 => str l) (fun z : Int => .int .i64 z) h' h6.size (ofl L04 i)) (fun i => (L04).length - i) 0 (tk7 36 35 7 6 3 0 37) ?_ ?_
 ·exact ⟨Nat.zero_le _, ((hx9.then' hx11 (by simp) (Nat.le_refl _)).trans hx13), (hb12.ext hx13), hb14⟩
 rintro i h8 ⟨hi, hxM, hdM, hfM⟩
 show W _ _ _ _ _ [(36, .int .i64 ((L04.length : Int))), (35, s03), (7, .map (some h6.size)), (6, .map (some h3.size)), (3, s03), (0, w), (37, .int .i64 ((i : Int)))] _
 refine Wr ?_
 refine Ly (Y_lss rfl rfl) ?_
 refine L_nil (X_then (W_seq ?_))
 refine W_splitd rfl (fun c => ?_) (fun c => ?_)
 ·refine Ws ?_
  refine W_sub _ (tk7 36 35 7 6 3 0 37) ?_
  refine W_seq (W_block (W_seq (W_region ?_)))
  refine Mv ?_
  refine Ly (Y_idxr Tryz.underlying25 (show _ = some 6 by kernel_rfl) rfl rfl rfl (hr05.ext hxM) (by omega) (by omega)) ?_
  refine Ly (Y_ldrA0 (k := ((i : Int)).toNat) (us := [.int .i64 ((at_mem L04 ((i : Int)).toNat).kind), str ((at_mem L04 ((i : Int)).toNat).path), .int .i64 ((at_mem L04 ((i : Int)).toNat).mode), str ((at_mem L04 ((i : Int)).toNat).target), .int .i64 ((at_mem L04 ((i : Int)).toNat).size), ((at_mem L04 ((i : Int)).toNat).dv)]) Tryz.underlying35 rfl (show _ = some 6 by kernel_rfl) rfl rfl (hr05.ext hxM) (by omega) rfl) ?_
  refine L_mks (M_alloc (u := .agg #[.int .i64 0, str [], .int .i64 0, str [], .int .i64 0, .slice none 0 0]) (by kernel_rfl)) rfl rfl rfl ?_
  rintro _ h9 ⟨rfl, hn15⟩
  have hk16 : Blk h9 h8.size [.int .i64 0, str [], .int .i64 0, str [], .int .i64 0, .slice none 0 0] := hn15.blk
  refine Av ?_
  refine L_dos (D_store (us := [.int .i64 ((at_mem L04 ((i : Int)).toNat).kind), str ((at_mem L04 ((i : Int)).toNat).path), .int .i64 ((at_mem L04 ((i : Int)).toNat).mode), str ((at_mem L04 ((i : Int)).toNat).target), .int .i64 ((at_mem L04 ((i : Int)).toNat).size), ((at_mem L04 ((i : Int)).toNat).dv)]) (show _ = some 6 by kernel_rfl) rfl rfl rfl (by intro u_ hu_; simp only [List.mem_cons, List.not_mem_nil, or_false] at hu_; rcases hu_ with rfl | rfl | rfl | rfl | rfl | rfl <;> first | rfl | exact ((show Bytes _ ((at_mem L04 ((i : Int)).toNat).dv) ((at_mem L04 ((i : Int)).toNat).data) from (hr05.ext (hxM.trans hn15.ext)).okat (k := ((i : Int)).toNat) (by omega))).cell1) hk16 (by simp)) rfl rfl ?_
  rintro h10 hp17
  have hk18 : Blk h10 h8.size [.int .i64 ((at_mem L04 ((i : Int)).toNat).kind), str ((at_mem L04 ((i : Int)).toNat).path), .int .i64 ((at_mem L04 ((i : Int)).toNat).mode), str ((at_mem L04 ((i : Int)).toNat).target), .int .i64 ((at_mem L04 ((i : Int)).toNat).size), ((at_mem L04 ((i : Int)).toNat).dv)] := hp17.blk
  refine Nx ?_
  refine W_sub _ (sk1 8 rfl (tk8 9 36 35 7 6 3 0 37)) ?_
  have hiC : i < (cno l).length := by omega
  have hmm := ord_len (i := (i : Int).toNat) hz hM okA.2.2 (by omega)
  have hpr := ord_par hC hM hiC
  have hck := ord_chk hC hM hiC
  refine W_seq (W_seq ?_)
  by_cases h0 : (0 : Int) < (i : Int)
  ·have hup : pcmp (at_mem L04 ((i : Int) - 1).toNat).path (at_mem L04 (i : Int).toNat).path = -1 := by have := ord_up hC.up hM (i := i) (by omega) hiC; rw [show ((i : Int) - 1).toNat = i - 1 by omega]; exact this
   refine W_quiet (fun h' => h' = h10) (by kernel_rfl) (by kernel_rfl) rfl ?_
   refine LQ_yld (fun h_ hI_ => by subst hI_; exact Y_move rfl) rfl rfl rfl ?_
   refine LQ_yld (fun h_ hI_ => by subst hI_; exact Y_gtr rfl rfl) rfl rfl rfl ?_
   refine LQ_yld (fun h_ hI_ => by subst hI_; exact Y_move rfl) rfl rfl rfl ?_
   refine LQ_known (d := 44) true rfl (by exact decide_eq_true (by exact h0)) ?_
   refine LQ_yld (fun h_ hI_ => by subst hI_; exact Y_move rfl) rfl rfl rfl ?_
   refine LQ_yld (fun h_ hI_ => by subst hI_; exact Y_move rfl) rfl rfl rfl ?_
   refine LQ_yld (fun h_ hI_ => by subst hI_; exact Y_sub rfl rfl (by omega) (by omega)) rfl rfl rfl ?_
   refine LQ_yld (fun h_ hI_ => by subst hI_; exact Y_idxr Tryz.underlying25 (show _ = some 6 by kernel_rfl) rfl rfl rfl (hr05.ext ((hxM.trans hn15.ext).then' hp17.only (by simp) hxM.size)) (by omega) (by omega)) rfl rfl rfl ?_
   refine LQ_yld (fun h_ hI_ => by subst hI_; exact Y_fldr (k := ((i : Int) - 1).toNat) (off := 0) (by kernel_rfl) rfl (hr05.ext ((hxM.trans hn15.ext).then' hp17.only (by simp) hxM.size)) (by omega)) rfl rfl rfl ?_
   refine LQ_yld (fun h_ hI_ => by subst hI_; exact Y_fldr (k := ((i : Int) - 1).toNat) (off := 1) (by kernel_rfl) rfl (hr05.ext ((hxM.trans hn15.ext).then' hp17.only (by simp) hxM.size)) (by omega)) rfl rfl rfl ?_
   refine LQ_yld (fun h_ hI_ => by subst hI_; exact Y_ldr1 (off := 1) (k := ((i : Int) - 1).toNat) (u := str ((at_mem L04 ((i : Int) - 1).toNat).path)) Tryz.underlying9 rfl rfl rfl (hr05.ext ((hxM.trans hn15.ext).then' hp17.only (by simp) hxM.size)) (by omega) rfl) rfl rfl rfl ?_
   refine LQ_yld (fun h_ hI_ => by subst hI_; exact Y_fieldAddr (off := 0) (by kernel_rfl) rfl rfl) rfl rfl rfl ?_
   refine LQ_yld (fun h_ hI_ => by subst hI_; exact Y_fieldAddr (off := 1) (by kernel_rfl) rfl rfl) rfl rfl rfl ?_
   refine LQ_yld (fun h_ hI_ => by subst hI_; exact Y_ldblk Tryz.underlying9 rfl rfl hk18 rfl) rfl rfl rfl ?_
   refine LQ_call (v := .int .i64 (pcmp ((at_mem L04 ((i : Int) - 1).toNat).path) ((at_mem L04 ((i : Int)).toNat).path))) (fun _ _ => E_call (by kernel_rfl) rfl) (fun h_ hI_ => by subst hI_; exact (pathname_Compare _ ((at_mem L04 ((i : Int) - 1).toNat).path) ((at_mem L04 ((i : Int)).toNat).path))) rfl rfl rfl ?_
   refine LQ_yld (fun h_ hI_ => by subst hI_; exact Y_neq rfl rfl) rfl rfl rfl ?_
   refine LQ_yld (fun h_ hI_ => by subst hI_; exact Y_pick_t rfl rfl) rfl rfl rfl ?_
   refine LQ_yld (fun h_ hI_ => by subst hI_; exact Y_move rfl) rfl rfl rfl ?_
   refine LQ_known (d := 58) false rfl (by exact decide_eq_false (by exact fun q => q hup)) ?_
   refine LQ_yld (fun h_ hI_ => by subst hI_; exact Y_move rfl) rfl rfl rfl ?_
   refine LQ_yld (fun h_ hI_ => by subst hI_; exact Y_fieldAddr (off := 0) (by kernel_rfl) rfl rfl) rfl rfl rfl ?_
   refine LQ_yld (fun h_ hI_ => by subst hI_; exact Y_fieldAddr (off := 1) (by kernel_rfl) rfl rfl) rfl rfl rfl ?_
   refine LQ_yld (fun h_ hI_ => by subst hI_; exact Y_ldblk Tryz.underlying9 rfl rfl hk18 rfl) rfl rfl rfl ?_
   refine LQ_call (v := str (pparent ((at_mem L04 ((i : Int)).toNat).path))) (fun _ _ => E_call (by kernel_rfl) rfl) (fun h_ hI_ => by subst hI_; exact (pathname_Parent _ ((at_mem L04 ((i : Int)).toNat).path) (by first | omega | rfl | (simp <;> omega)))) rfl rfl rfl ?_
   refine LQ_yld (fun h_ hI_ => by subst hI_; exact Y_lookset Tryz.underlying29 Tryz.underlying9 (by kernel_rfl) rfl rfl (hdM.ext (hn15.ext.then' hp17.only (by simp) (Nat.le_refl _)))) rfl rfl rfl ?_
   refine LQ_yld (fun h_ hI_ => by subst hI_; exact Y_notd rfl) rfl rfl rfl ?_
   refine LQ_yld (fun h_ hI_ => by subst hI_; exact Y_pick_f rfl rfl) rfl rfl rfl ?_
   refine LQ_nil ?_
   rintro h10 rfl
   refine X_then ?_
   refine W_sub _ (sk1 66 rfl (tk8 9 36 35 7 6 3 0 37)) ?_
   refine W_known false rfl (by exact decide_eq_false (by exact fun q => q hpr)) ?_
   refine Ws ?_
   refine W_sub _ (tk8 9 36 35 7 6 3 0 37) ?_
   refine W_seq (W_seq (W_region ?_))
   refine Ly (Y_fieldAddr (off := 0) (by kernel_rfl) rfl rfl) ?_
   refine Ly (Y_ldbox (us := [.int .i64 ((at_mem L04 ((i : Int)).toNat).kind), str ((at_mem L04 ((i : Int)).toNat).path), .int .i64 ((at_mem L04 ((i : Int)).toNat).mode), str ((at_mem L04 ((i : Int)).toNat).target), .int .i64 ((at_mem L04 ((i : Int)).toNat).size)]) Tryz.underlying32 rfl (show _ = some 5 by kernel_rfl) rfl hk18 rfl) ?_
   have me1 := (((hx1.trans hx7).trans hxM).trans hn15.ext).then' hp17.only (by simp) (Nat.le_trans (Nat.le_trans hx1.size hx7.size) hxM.size)
   refine L_call (E_call (by kernel_rfl) rfl) (entry_Encode _ (hG.ext me1) (hK.ext me1) (hN.ext me1) (hE.ext me1) (hT.ext me1) ((at_mem L04 ((i : Int)).toNat).kind) ((at_mem L04 ((i : Int)).toNat).path) ((at_mem L04 ((i : Int)).toNat).mode) ((at_mem L04 ((i : Int)).toNat).target) ((at_mem L04 ((i : Int)).toNat).size) (by first | omega | rfl | (simp <;> omega)) (by first | omega | rfl | (simp <;> omega)) (by first | omega | rfl | (simp <;> omega))) rfl rfl rfl ?_
   rintro _ h11 ⟨s019, rfl, hr020, hx21⟩
   refine Mv ?_
   refine Ly (Y_extract (v := s019) rfl rfl) ?_
   refine Ly (Y_extract (v := .int .i64 (fcheck ((at_mem L04 ((i : Int)).toNat).kind) ((at_mem L04 ((i : Int)).toNat).path) ((at_mem L04 ((i : Int)).toNat).mode) ((at_mem L04 ((i : Int)).toNat).target) ((at_mem L04 ((i : Int)).toNat).size))) rfl rfl) ?_
   refine Av ?_
   refine Av ?_
   refine Nx ?_
   refine W_sub _ (sk1 11 rfl (tk8 9 36 35 7 6 3 0 37)) ?_
   refine Wr ?_
   refine Mv ?_
   refine Ly (Y_neq rfl rfl) ?_
   refine Nx ?_
   refine W_sub _ (sk1 74 rfl (tk8 9 36 35 7 6 3 0 37)) ?_
   refine W_known false rfl (by exact decide_eq_false (by exact fun q => q hck)) ?_
   refine Ws ?_
   refine W_sub _ (tk8 9 36 35 7 6 3 0 37) ?_
   refine Wr ?_
   refine Ly (Y_fieldAddr (off := 0) (by kernel_rfl) rfl rfl) ?_
   refine Ly (Y_fieldAddr (off := 0) (by kernel_rfl) rfl rfl) ?_
   refine Ly (Y_ldblk Tryz.underlying3 rfl rfl (hk18.ext hx21) rfl) ?_
   refine Nx ?_
   refine W_sub _ (sk1 77 rfl (tk8 9 36 35 7 6 3 0 37)) ?_
   refine W_block (W_seq (W_region ?_))
   refine Ly (Y_eql rfl rfl) ?_
   refine Av ?_
   refine Nx ?_
   refine W_sub _ (sk2 78 77 rfl rfl (tk8 9 36 35 7 6 3 0 37)) ?_
   refine W_splitd rfl (fun k0 => ?_) (fun k0 => ?_)
   ·refine W_region ?_
    refine Mv ?_
    refine Ly (Y_fieldAddr (off := 0) (by kernel_rfl) rfl rfl) ?_
    refine Ly (Y_fieldAddr (off := 1) (by kernel_rfl) rfl rfl) ?_
    refine Ly (Y_ldblk Tryz.underlying9 rfl rfl (hk18.ext hx21) rfl) ?_
    have me2 := (hn15.ext.then' hp17.only (by simp) (Nat.le_refl _)).trans hx21
    refine L_dos (D_updset Tryz.underlying29 Tryz.underlying9 rfl rfl rfl (hdM.ext me2)) rfl rfl ?_
    rintro h12 ⟨hx22, -, hb23⟩
    refine L_nil (X_block (X_block (X_then ?_)))
    refine W_sub _ (tk7 36 35 7 6 3 0 37) ?_
    refine W_region ?_
    refine Ly (Y_add rfl rfl (by omega) (by omega)) ?_
    refine Mv ?_
    refine L_nil ?_
    refine X_loop (i + 1) (tk7 36 35 7 6 3 0 37) ?_ ?_
    have hc24 := ((((hfM.ext hn15.ext).only hp17.only (ni_lt (Nat.lt_of_lt_of_le hfM.lt (Nat.le_refl _)))).ext hx21).only hx22 (ni_gt (Nat.lt_of_lt_of_le hb10.lt hx11.size)))
    have me3 := ((hxM.trans hn15.ext).then' hp17.only (by simp) hxM.size).trans hx21
    ·exact ⟨by omega, (me3.then' hx22 (by simp) (Nat.le_refl _)), SetK.congr hb23 (odk_y (k := i) k0), MapA.congr hc24 (ofl_n (k := i) (by rw [show (at_mem L04 i).kind = 0 from k0]; decide))⟩
    (try dsimp only)
    omega
   refine Wr ?_
   refine Ly (Y_eql rfl rfl) ?_
   refine Av ?_
   refine Nx ?_
   refine W_sub _ (sk2 84 77 rfl rfl (tk8 9 36 35 7 6 3 0 37)) ?_
   refine W_splitd rfl (fun k1 => ?_) (fun k1 => ?_)
   ·refine Wr ?_
    refine Mv ?_
    refine Ly (Y_fieldAddr (off := 0) (by kernel_rfl) rfl rfl) ?_
    refine Ly (Y_fieldAddr (off := 1) (by kernel_rfl) rfl rfl) ?_
    refine Ly (Y_ldblk Tryz.underlying9 rfl rfl (hk18.ext hx21) rfl) ?_
    refine Ly (Y_fieldAddr (off := 0) (by kernel_rfl) rfl rfl) ?_
    refine Ly (Y_fieldAddr (off := 2) (by kernel_rfl) rfl rfl) ?_
    refine Ly (Y_ldblk Tryz.underlying3 rfl rfl (hk18.ext hx21) rfl) ?_
    have me4 := (hn15.ext.then' hp17.only (by simp) (Nat.le_refl _)).trans hx21
    refine L_dos (D_updA (evl := (fun z : Int => .int .i64 z)) (k := (at_mem L04 ((i : Int)).toNat).path) (v := (at_mem L04 ((i : Int)).toNat).mode) keyS Tryz.underlying30 Tryz.underlying9 rfl rfl rfl (hfM.ext me4)) rfl rfl ?_
    rintro h13 ⟨hx25, -, hb26⟩
    refine Nx ?_
    refine W_sub _ (tk8 9 36 35 7 6 3 0 37) ?_
    refine Wr ?_
    refine Ly (Y_fieldAddr (off := 5) (by kernel_rfl) rfl rfl) ?_
    have hc27 := ((hk18.ext hx21).only hx25 (ni_gt (Nat.lt_of_lt_of_le hfM.lt (Nat.le_refl _))))
    refine Ly (Y_ldblk Tryz.underlying33 rfl rfl hc27 rfl) ?_
    have me5 := ((hxM.trans hn15.ext).then' hp17.only (by simp) hxM.size).trans hx21
    have me6 := me5.then' hx25 (by simp) (Nat.le_trans hx9.size hx11.size)
    refine Ly (Y_len Tryz.underlying33 rfl (show Bytes _ ((at_mem L04 ((i : Int)).toNat).dv) ((at_mem L04 ((i : Int)).toNat).data) from (hr05.ext me6).okat (k := ((i : Int)).toNat) (by omega))) ?_
    refine Ly (Y_fieldAddr (off := 0) (by kernel_rfl) rfl rfl) ?_
    refine Ly (Y_fieldAddr (off := 4) (by kernel_rfl) rfl rfl) ?_
    refine Ly (Y_ldblk Tryz.underlying2 rfl rfl hc27 rfl) ?_
    refine Ly (Y_neq rfl rfl) ?_
    refine Nx ?_
    refine W_sub _ (tk8 99 36 35 7 6 3 0 37) ?_
    refine W_known false rfl (by exact decide_eq_false (by exact fun q => q (ord_file hC hM hiC k1))) ?_
    refine W_skip (X_block (X_block (X_then ?_)))
    refine W_sub _ (tk7 36 35 7 6 3 0 37) ?_
    refine W_region ?_
    refine Ly (Y_add rfl rfl (by omega) (by omega)) ?_
    refine Mv ?_
    refine L_nil ?_
    refine X_loop (i + 1) (tk7 36 35 7 6 3 0 37) ?_ ?_
    have hc28 := ((((hdM.ext hn15.ext).only hp17.only (ni_lt (Nat.lt_of_lt_of_le hdM.lt (Nat.le_refl _)))).ext hx21).only hx25 (ni_lt (Nat.lt_of_lt_of_le hb10.lt hx11.size)))
    ·exact ⟨by omega, me6, SetK.congr hc28 (odk_n (k := i) k0), MapA.congr hb26 (ofl_y (k := i) k1)⟩
    (try dsimp only)
    omega
   refine Wr ?_
   refine Ly (Y_eql rfl rfl) ?_
   refine Av ?_
   refine Nx ?_
   refine W_sub _ (sk1 100 rfl (tk8 9 36 35 7 6 3 0 37)) ?_
   refine W_splitd rfl (fun k3 => ?_) (fun k3 => ?_)
   ·have hlk := ord_link hC hM hiC k3
    refine Wr ?_
    refine Mv ?_
    refine Ly (Y_fieldAddr (off := 0) (by kernel_rfl) rfl rfl) ?_
    refine Ly (Y_fieldAddr (off := 3) (by kernel_rfl) rfl rfl) ?_
    refine Ly (Y_ldblk Tryz.underlying9 rfl rfl (hk18.ext hx21) rfl) ?_
    have me7 := (hn15.ext.then' hp17.only (by simp) (Nat.le_refl _)).trans hx21
    refine Ly (Y_look2A (evl := (fun z : Int => .int .i64 z)) (k := (at_mem L04 ((i : Int)).toNat).target) (u := (0 : Int)) keyS Tryz.underlying30 Tryz.underlying9 (by kernel_rfl) rfl rfl (hfM.ext me7)) ?_
    refine Mv ?_
    refine Ly (Y_extract (v := .int .i64 ((aget (ofl L04 i) ((at_mem L04 ((i : Int)).toNat).target)).getD (0 : Int))) rfl rfl) ?_
    refine Ly (Y_extract (v := .bool ((aget (ofl L04 i) ((at_mem L04 ((i : Int)).toNat).target)).isSome)) rfl rfl) ?_
    refine Av ?_
    refine Av ?_
    refine Nx ?_
    refine W_sub _ (sk2 13 12 rfl rfl (tk8 9 36 35 7 6 3 0 37)) ?_
    refine Wr ?_
    refine Mv ?_
    refine Ly (Y_not rfl) ?_
    refine Mv ?_
    refine L_known (d := 112) false rfl (by rw [show aget (ofl L04 i) (at_mem L04 (i : Int).toNat).target = _ from hlk.1]; rfl) ?_
    refine Mv ?_
    refine Ly (Y_fieldAddr (off := 0) (by kernel_rfl) rfl rfl) ?_
    refine Ly (Y_fieldAddr (off := 2) (by kernel_rfl) rfl rfl) ?_
    refine Ly (Y_ldblk Tryz.underlying3 rfl rfl (hk18.ext hx21) rfl) ?_
    refine Ly (Y_neq rfl rfl) ?_
    refine Ly (Y_pick_f rfl rfl) ?_
    refine Mv ?_
    refine L_known (d := 119) false rfl (by exact decide_eq_false (by exact fun q => q (by rw [show aget (ofl L04 i) (at_mem L04 (i : Int).toNat).target = _ from hlk.1]; rfl))) ?_
    refine Ly (Y_fieldAddr (off := 5) (by kernel_rfl) rfl rfl) ?_
    refine Ly (Y_ldblk Tryz.underlying33 rfl rfl (hk18.ext hx21) rfl) ?_
    have me8 := ((hxM.trans hn15.ext).then' hp17.only (by simp) hxM.size).trans hx21
    refine Ly (Y_len Tryz.underlying33 rfl (show Bytes _ ((at_mem L04 ((i : Int)).toNat).dv) ((at_mem L04 ((i : Int)).toNat).data) from (hr05.ext me8).okat (k := ((i : Int)).toNat) (by omega))) ?_
    refine Ly (Y_gtr rfl rfl) ?_
    refine Ly (Y_pick_f rfl rfl) ?_
    refine Nx ?_
    refine W_sub _ (tk8 124 36 35 7 6 3 0 37) ?_
    refine W_known false rfl (by exact decide_eq_false (by rw [show (at_mem L04 (i : Int).toNat).data = _ from hlk.2]; decide)) ?_
    refine W_skip (X_block (X_block (X_then ?_)))
    refine W_sub _ (tk7 36 35 7 6 3 0 37) ?_
    refine W_region ?_
    refine Ly (Y_add rfl rfl (by omega) (by omega)) ?_
    refine Mv ?_
    refine L_nil ?_
    refine X_loop (i + 1) (tk7 36 35 7 6 3 0 37) ?_ ?_
    ·exact ⟨by omega, me8, SetK.congr (hdM.ext me7) (odk_n (k := i) k0), MapA.congr (hfM.ext me7) (ofl_n (k := i) k1)⟩
    (try dsimp only)
    omega
   refine W_skip (X_block (X_block (X_then ?_)))
   refine W_sub _ (tk7 36 35 7 6 3 0 37) ?_
   refine W_region ?_
   refine Ly (Y_add rfl rfl (by omega) (by omega)) ?_
   refine Mv ?_
   refine L_nil ?_
   refine X_loop (i + 1) (tk7 36 35 7 6 3 0 37) ?_ ?_
   ·exact ⟨by omega, (((hxM.trans hn15.ext).then' hp17.only (by simp) hxM.size).trans hx21), SetK.congr (hdM.ext ((hn15.ext.then' hp17.only (by simp) (Nat.le_refl _)).trans hx21)) (odk_n (k := i) k0), MapA.congr (hfM.ext ((hn15.ext.then' hp17.only (by simp) (Nat.le_refl _)).trans hx21)) (ofl_n (k := i) k1)⟩
   (try dsimp only)
   omega
  refine W_quiet (fun h' => h' = h10) (by kernel_rfl) (by kernel_rfl) rfl ?_
  refine LQ_yld (fun h_ hI_ => by subst hI_; exact Y_move rfl) rfl rfl rfl ?_
  refine LQ_yld (fun h_ hI_ => by subst hI_; exact Y_gtr rfl rfl) rfl rfl rfl ?_
  refine LQ_yld (fun h_ hI_ => by subst hI_; exact Y_move rfl) rfl rfl rfl ?_
  refine LQ_known (d := 44) false rfl (by exact decide_eq_false (by exact h0)) ?_
  refine LQ_skip rfl rfl rfl ?_
  refine LQ_skip rfl rfl rfl ?_
  refine LQ_skip rfl rfl rfl ?_
  refine LQ_skip rfl rfl rfl ?_
  refine LQ_skip rfl rfl rfl ?_
  refine LQ_skip rfl rfl rfl ?_
  refine LQ_skip rfl rfl rfl ?_
  refine LQ_skip rfl rfl rfl ?_
  refine LQ_skip rfl rfl rfl ?_
  refine LQ_skip rfl rfl rfl ?_
  refine LQ_skip rfl rfl rfl ?_
  refine LQ_skip rfl rfl rfl ?_
  refine LQ_yld (fun h_ hI_ => by subst hI_; exact Y_pick_f rfl rfl) rfl rfl rfl ?_
  refine LQ_yld (fun h_ hI_ => by subst hI_; exact Y_move rfl) rfl rfl rfl ?_
  refine LQ_yld (fun h_ hI_ => by subst hI_; exact Y_move rfl) rfl rfl rfl ?_
  refine LQ_yld (fun h_ hI_ => by subst hI_; exact Y_fieldAddr (off := 0) (by kernel_rfl) rfl rfl) rfl rfl rfl ?_
  refine LQ_yld (fun h_ hI_ => by subst hI_; exact Y_fieldAddr (off := 1) (by kernel_rfl) rfl rfl) rfl rfl rfl ?_
  refine LQ_yld (fun h_ hI_ => by subst hI_; exact Y_ldblk Tryz.underlying9 rfl rfl hk18 rfl) rfl rfl rfl ?_
  refine LQ_call (v := str (pparent ((at_mem L04 ((i : Int)).toNat).path))) (fun _ _ => E_call (by kernel_rfl) rfl) (fun h_ hI_ => by subst hI_; exact (pathname_Parent _ ((at_mem L04 ((i : Int)).toNat).path) (by first | omega | rfl | (simp <;> omega)))) rfl rfl rfl ?_
  refine LQ_yld (fun h_ hI_ => by subst hI_; exact Y_lookset Tryz.underlying29 Tryz.underlying9 (by kernel_rfl) rfl rfl (hdM.ext (hn15.ext.then' hp17.only (by simp) (Nat.le_refl _)))) rfl rfl rfl ?_
  refine LQ_yld (fun h_ hI_ => by subst hI_; exact Y_notd rfl) rfl rfl rfl ?_
  refine LQ_yld (fun h_ hI_ => by subst hI_; exact Y_pick_f rfl rfl) rfl rfl rfl ?_
  refine LQ_nil ?_
  rintro h10 rfl
  refine X_then ?_
  refine W_sub _ (sk1 66 rfl (tk8 9 36 35 7 6 3 0 37)) ?_
  refine W_known false rfl (by exact decide_eq_false (by exact fun q => q hpr)) ?_
  refine Ws ?_
  refine W_sub _ (tk8 9 36 35 7 6 3 0 37) ?_
  refine W_seq (W_seq (W_region ?_))
  refine Ly (Y_fieldAddr (off := 0) (by kernel_rfl) rfl rfl) ?_
  refine Ly (Y_ldbox (us := [.int .i64 ((at_mem L04 ((i : Int)).toNat).kind), str ((at_mem L04 ((i : Int)).toNat).path), .int .i64 ((at_mem L04 ((i : Int)).toNat).mode), str ((at_mem L04 ((i : Int)).toNat).target), .int .i64 ((at_mem L04 ((i : Int)).toNat).size)]) Tryz.underlying32 rfl (show _ = some 5 by kernel_rfl) rfl hk18 rfl) ?_
  have me9 := (((hx1.trans hx7).trans hxM).trans hn15.ext).then' hp17.only (by simp) (Nat.le_trans (Nat.le_trans hx1.size hx7.size) hxM.size)
  refine L_call (E_call (by kernel_rfl) rfl) (entry_Encode _ (hG.ext me9) (hK.ext me9) (hN.ext me9) (hE.ext me9) (hT.ext me9) ((at_mem L04 ((i : Int)).toNat).kind) ((at_mem L04 ((i : Int)).toNat).path) ((at_mem L04 ((i : Int)).toNat).mode) ((at_mem L04 ((i : Int)).toNat).target) ((at_mem L04 ((i : Int)).toNat).size) (by first | omega | rfl | (simp <;> omega)) (by first | omega | rfl | (simp <;> omega)) (by first | omega | rfl | (simp <;> omega))) rfl rfl rfl ?_
  rintro _ h14 ⟨s029, rfl, hr030, hx31⟩
  refine Mv ?_
  refine Ly (Y_extract (v := s029) rfl rfl) ?_
  refine Ly (Y_extract (v := .int .i64 (fcheck ((at_mem L04 ((i : Int)).toNat).kind) ((at_mem L04 ((i : Int)).toNat).path) ((at_mem L04 ((i : Int)).toNat).mode) ((at_mem L04 ((i : Int)).toNat).target) ((at_mem L04 ((i : Int)).toNat).size))) rfl rfl) ?_
  refine Av ?_
  refine Av ?_
  refine Nx ?_
  refine W_sub _ (sk1 11 rfl (tk8 9 36 35 7 6 3 0 37)) ?_
  refine Wr ?_
  refine Mv ?_
  refine Ly (Y_neq rfl rfl) ?_
  refine Nx ?_
  refine W_sub _ (sk1 74 rfl (tk8 9 36 35 7 6 3 0 37)) ?_
  refine W_known false rfl (by exact decide_eq_false (by exact fun q => q hck)) ?_
  refine Ws ?_
  refine W_sub _ (tk8 9 36 35 7 6 3 0 37) ?_
  refine Wr ?_
  refine Ly (Y_fieldAddr (off := 0) (by kernel_rfl) rfl rfl) ?_
  refine Ly (Y_fieldAddr (off := 0) (by kernel_rfl) rfl rfl) ?_
  refine Ly (Y_ldblk Tryz.underlying3 rfl rfl (hk18.ext hx31) rfl) ?_
  refine Nx ?_
  refine W_sub _ (sk1 77 rfl (tk8 9 36 35 7 6 3 0 37)) ?_
  refine W_block (W_seq (W_region ?_))
  refine Ly (Y_eql rfl rfl) ?_
  refine Av ?_
  refine Nx ?_
  refine W_sub _ (sk2 78 77 rfl rfl (tk8 9 36 35 7 6 3 0 37)) ?_
  refine W_splitd rfl (fun k0 => ?_) (fun k0 => ?_)
  ·refine W_region ?_
   refine Mv ?_
   refine Ly (Y_fieldAddr (off := 0) (by kernel_rfl) rfl rfl) ?_
   refine Ly (Y_fieldAddr (off := 1) (by kernel_rfl) rfl rfl) ?_
   refine Ly (Y_ldblk Tryz.underlying9 rfl rfl (hk18.ext hx31) rfl) ?_
   have me10 := (hn15.ext.then' hp17.only (by simp) (Nat.le_refl _)).trans hx31
   refine L_dos (D_updset Tryz.underlying29 Tryz.underlying9 rfl rfl rfl (hdM.ext me10)) rfl rfl ?_
   rintro h15 ⟨hx32, -, hb33⟩
   refine L_nil (X_block (X_block (X_then ?_)))
   refine W_sub _ (tk7 36 35 7 6 3 0 37) ?_
   refine W_region ?_
   refine Ly (Y_add rfl rfl (by omega) (by omega)) ?_
   refine Mv ?_
   refine L_nil ?_
   refine X_loop (i + 1) (tk7 36 35 7 6 3 0 37) ?_ ?_
   have hc34 := ((((hfM.ext hn15.ext).only hp17.only (ni_lt (Nat.lt_of_lt_of_le hfM.lt (Nat.le_refl _)))).ext hx31).only hx32 (ni_gt (Nat.lt_of_lt_of_le hb10.lt hx11.size)))
   have me11 := ((hxM.trans hn15.ext).then' hp17.only (by simp) hxM.size).trans hx31
   ·exact ⟨by omega, (me11.then' hx32 (by simp) (Nat.le_refl _)), SetK.congr hb33 (odk_y (k := i) k0), MapA.congr hc34 (ofl_n (k := i) (by rw [show (at_mem L04 i).kind = 0 from k0]; decide))⟩
   (try dsimp only)
   omega
  refine Wr ?_
  refine Ly (Y_eql rfl rfl) ?_
  refine Av ?_
  refine Nx ?_
  refine W_sub _ (sk2 84 77 rfl rfl (tk8 9 36 35 7 6 3 0 37)) ?_
  refine W_splitd rfl (fun k1 => ?_) (fun k1 => ?_)
  ·refine Wr ?_
   refine Mv ?_
   refine Ly (Y_fieldAddr (off := 0) (by kernel_rfl) rfl rfl) ?_
   refine Ly (Y_fieldAddr (off := 1) (by kernel_rfl) rfl rfl) ?_
   refine Ly (Y_ldblk Tryz.underlying9 rfl rfl (hk18.ext hx31) rfl) ?_
   refine Ly (Y_fieldAddr (off := 0) (by kernel_rfl) rfl rfl) ?_
   refine Ly (Y_fieldAddr (off := 2) (by kernel_rfl) rfl rfl) ?_
   refine Ly (Y_ldblk Tryz.underlying3 rfl rfl (hk18.ext hx31) rfl) ?_
   have me12 := (hn15.ext.then' hp17.only (by simp) (Nat.le_refl _)).trans hx31
   refine L_dos (D_updA (evl := (fun z : Int => .int .i64 z)) (k := (at_mem L04 ((i : Int)).toNat).path) (v := (at_mem L04 ((i : Int)).toNat).mode) keyS Tryz.underlying30 Tryz.underlying9 rfl rfl rfl (hfM.ext me12)) rfl rfl ?_
   rintro h16 ⟨hx35, -, hb36⟩
   refine Nx ?_
   refine W_sub _ (tk8 9 36 35 7 6 3 0 37) ?_
   refine Wr ?_
   refine Ly (Y_fieldAddr (off := 5) (by kernel_rfl) rfl rfl) ?_
   have hc37 := ((hk18.ext hx31).only hx35 (ni_gt (Nat.lt_of_lt_of_le hfM.lt (Nat.le_refl _))))
   refine Ly (Y_ldblk Tryz.underlying33 rfl rfl hc37 rfl) ?_
   have me13 := ((hxM.trans hn15.ext).then' hp17.only (by simp) hxM.size).trans hx31
   have me14 := me13.then' hx35 (by simp) (Nat.le_trans hx9.size hx11.size)
   refine Ly (Y_len Tryz.underlying33 rfl (show Bytes _ ((at_mem L04 ((i : Int)).toNat).dv) ((at_mem L04 ((i : Int)).toNat).data) from (hr05.ext me14).okat (k := ((i : Int)).toNat) (by omega))) ?_
   refine Ly (Y_fieldAddr (off := 0) (by kernel_rfl) rfl rfl) ?_
   refine Ly (Y_fieldAddr (off := 4) (by kernel_rfl) rfl rfl) ?_
   refine Ly (Y_ldblk Tryz.underlying2 rfl rfl hc37 rfl) ?_
   refine Ly (Y_neq rfl rfl) ?_
   refine Nx ?_
   refine W_sub _ (tk8 99 36 35 7 6 3 0 37) ?_
   refine W_known false rfl (by exact decide_eq_false (by exact fun q => q (ord_file hC hM hiC k1))) ?_
   refine W_skip (X_block (X_block (X_then ?_)))
   refine W_sub _ (tk7 36 35 7 6 3 0 37) ?_
   refine W_region ?_
   refine Ly (Y_add rfl rfl (by omega) (by omega)) ?_
   refine Mv ?_
   refine L_nil ?_
   refine X_loop (i + 1) (tk7 36 35 7 6 3 0 37) ?_ ?_
   have hc38 := ((((hdM.ext hn15.ext).only hp17.only (ni_lt (Nat.lt_of_lt_of_le hdM.lt (Nat.le_refl _)))).ext hx31).only hx35 (ni_lt (Nat.lt_of_lt_of_le hb10.lt hx11.size)))
   ·exact ⟨by omega, me14, SetK.congr hc38 (odk_n (k := i) k0), MapA.congr hb36 (ofl_y (k := i) k1)⟩
   (try dsimp only)
   omega
  refine Wr ?_
  refine Ly (Y_eql rfl rfl) ?_
  refine Av ?_
  refine Nx ?_
  refine W_sub _ (sk1 100 rfl (tk8 9 36 35 7 6 3 0 37)) ?_
  refine W_splitd rfl (fun k3 => ?_) (fun k3 => ?_)
  ·have hlk := ord_link hC hM hiC k3
   refine Wr ?_
   refine Mv ?_
   refine Ly (Y_fieldAddr (off := 0) (by kernel_rfl) rfl rfl) ?_
   refine Ly (Y_fieldAddr (off := 3) (by kernel_rfl) rfl rfl) ?_
   refine Ly (Y_ldblk Tryz.underlying9 rfl rfl (hk18.ext hx31) rfl) ?_
   have me15 := (hn15.ext.then' hp17.only (by simp) (Nat.le_refl _)).trans hx31
   refine Ly (Y_look2A (evl := (fun z : Int => .int .i64 z)) (k := (at_mem L04 ((i : Int)).toNat).target) (u := (0 : Int)) keyS Tryz.underlying30 Tryz.underlying9 (by kernel_rfl) rfl rfl (hfM.ext me15)) ?_
   refine Mv ?_
   refine Ly (Y_extract (v := .int .i64 ((aget (ofl L04 i) ((at_mem L04 ((i : Int)).toNat).target)).getD (0 : Int))) rfl rfl) ?_
   refine Ly (Y_extract (v := .bool ((aget (ofl L04 i) ((at_mem L04 ((i : Int)).toNat).target)).isSome)) rfl rfl) ?_
   refine Av ?_
   refine Av ?_
   refine Nx ?_
   refine W_sub _ (sk2 13 12 rfl rfl (tk8 9 36 35 7 6 3 0 37)) ?_
   refine Wr ?_
   refine Mv ?_
   refine Ly (Y_not rfl) ?_
   refine Mv ?_
   refine L_known (d := 112) false rfl (by rw [show aget (ofl L04 i) (at_mem L04 (i : Int).toNat).target = _ from hlk.1]; rfl) ?_
   refine Mv ?_
   refine Ly (Y_fieldAddr (off := 0) (by kernel_rfl) rfl rfl) ?_
   refine Ly (Y_fieldAddr (off := 2) (by kernel_rfl) rfl rfl) ?_
   refine Ly (Y_ldblk Tryz.underlying3 rfl rfl (hk18.ext hx31) rfl) ?_
   refine Ly (Y_neq rfl rfl) ?_
   refine Ly (Y_pick_f rfl rfl) ?_
   refine Mv ?_
   refine L_known (d := 119) false rfl (by exact decide_eq_false (by exact fun q => q (by rw [show aget (ofl L04 i) (at_mem L04 (i : Int).toNat).target = _ from hlk.1]; rfl))) ?_
   refine Ly (Y_fieldAddr (off := 5) (by kernel_rfl) rfl rfl) ?_
   refine Ly (Y_ldblk Tryz.underlying33 rfl rfl (hk18.ext hx31) rfl) ?_
   have me16 := ((hxM.trans hn15.ext).then' hp17.only (by simp) hxM.size).trans hx31
   refine Ly (Y_len Tryz.underlying33 rfl (show Bytes _ ((at_mem L04 ((i : Int)).toNat).dv) ((at_mem L04 ((i : Int)).toNat).data) from (hr05.ext me16).okat (k := ((i : Int)).toNat) (by omega))) ?_
   refine Ly (Y_gtr rfl rfl) ?_
   refine Ly (Y_pick_f rfl rfl) ?_
   refine Nx ?_
   refine W_sub _ (tk8 124 36 35 7 6 3 0 37) ?_
   refine W_known false rfl (by exact decide_eq_false (by rw [show (at_mem L04 (i : Int).toNat).data = _ from hlk.2]; decide)) ?_
   refine W_skip (X_block (X_block (X_then ?_)))
   refine W_sub _ (tk7 36 35 7 6 3 0 37) ?_
   refine W_region ?_
   refine Ly (Y_add rfl rfl (by omega) (by omega)) ?_
   refine Mv ?_
   refine L_nil ?_
   refine X_loop (i + 1) (tk7 36 35 7 6 3 0 37) ?_ ?_
   ·exact ⟨by omega, me16, SetK.congr (hdM.ext me15) (odk_n (k := i) k0), MapA.congr (hfM.ext me15) (ofl_n (k := i) k1)⟩
   (try dsimp only)
   omega
  refine W_skip (X_block (X_block (X_then ?_)))
  refine W_sub _ (tk7 36 35 7 6 3 0 37) ?_
  refine W_region ?_
  refine Ly (Y_add rfl rfl (by omega) (by omega)) ?_
  refine Mv ?_
  refine L_nil ?_
  refine X_loop (i + 1) (tk7 36 35 7 6 3 0 37) ?_ ?_
  ·exact ⟨by omega, (((hxM.trans hn15.ext).then' hp17.only (by simp) hxM.size).trans hx31), SetK.congr (hdM.ext ((hn15.ext.then' hp17.only (by simp) (Nat.le_refl _)).trans hx31)) (odk_n (k := i) k0), MapA.congr (hfM.ext ((hn15.ext.then' hp17.only (by simp) (Nat.le_refl _)).trans hx31)) (ofl_n (k := i) k1)⟩
  (try dsimp only)
  omega
 refine W_exit ?_
 refine X_then_exit (X_then_exit ?_)
 refine X_block_hit ?_
 refine X_then ?_
 refine W_sub _ (tk2 3 0) ?_
 refine Wr ?_
 refine L_call (E_call (by kernel_rfl) rfl) (law14_alive _ (hK.ext ((hx1.trans hx7).trans hxM)) (hE.ext ((hx1.trans hx7).trans hxM))) rfl rfl rfl ?_
 rintro _ h17 ⟨rfl, hx39⟩
 refine Mv ?_
 refine Mv ?_
 refine Ly (Y_lenr Tryz.underlying25 rfl (hr05.ext (hxM.trans hx39))) ?_
 refine Mv ?_
 refine Ly (Y_lenr Tryz.underlying22 rfl (hl.ext (((hx1.trans hx7).trans hxM).trans hx39))) ?_
 refine Ly (Y_eql rfl rfl) ?_
 refine Ly (Y_pick_t rfl rfl) ?_
 refine Av ?_
 refine Nx ?_
 refine W_sub _ (tk1 2) ?_
 refine W_ret ?_
 refine X_ret1 rfl rfl ?_
 exact ⟨congrArg Value.bool (decide_eq_true (by omega)), (((hx1.trans hx7).trans hxM).trans hx39)⟩
end Go.Xp
