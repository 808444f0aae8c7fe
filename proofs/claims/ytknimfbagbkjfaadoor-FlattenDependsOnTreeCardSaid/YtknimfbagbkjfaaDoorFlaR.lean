/- Rows of structs beside a map: what lasts when the map is written; an append with a proof of its own. -/
import Derived.Test.YtknimfbagbkjfaaDoorCanL
import Derived.Test.YtknimfbagbkjfaaDoorMapS
import Derived.Test.YtknimfbagbkjfaaDoorCanE
import Derived.Test.YtknimfbagbkjfaaDoorFlaM
import Derived.Test.YtknimfbagbkjfaaDoorTreeP
import Derived.Test.YtknimfbagbkjfaaDoorTreeR
import Derived.Test.YtknimfbagbkjfaaDoorAppE
set_option linter.unusedSimpArgs false
set_option linter.unusedVariables false
set_option linter.unusedSectionVars false
namespace Go.Xp

instance : Sch2 memS where
  only2 {bs h h' x} o y hb := Row.only2 (show Bytes h x.dv x.data from o) y (fun b e => hb x.dv (by simp [memS]) b e)
theorem Row.noMap {α : Type} [DecidableEq α] {h : Heap} {z : Nat} {v : Value} {n : Nat} {cs : List Value} (x : Row h z v n cs) (hz : 0 < z) {enc : α → Value} {M : Nat} {m : List (α × Value)} (hm : MapK enc h M m) : ∀ b, blk2 v = some b → b ∉ [M] := fun b hb hM => by
  obtain ⟨⟨a, cap, rfl, h1, h2, h3⟩, h4⟩ := x
  cases a with
  | none => cases hb
  | some ad =>
    by_cases hn : n = 0
    · simp [blk2, hn] at hb
    · simp [blk2, hn] at hb
      rw [List.mem_singleton] at hM
      subst hb
      subst hM
      have hl : 0 < cs.length := by rw [h4]; exact Nat.mul_pos (by omega) hz
      have hc : ∃ u, cs[0]? = some u := ⟨cs[0]'hl, List.getElem?_eq_getElem hl⟩
      obtain ⟨u, hu⟩ := hc
      have := (h3 ad rfl).2 0 u hu
      have hg := MapK.get hm
      simp [cellAt, hg] at this
section
variable {α : Type} [DecidableEq α] {enc : α → Value} {H h : Heap} {M : Nat} {m : List (α × Value)}
/-- Rows of nodes that stood beside the map. -/
theorem rowsN_onlyM {v : Value} {L : List Nod} (x : Rows nodS H v L) (y : Only [M] H h) (hm : MapK enc H M m) : Rows nodS h v L :=
  ⟨Row.only2 x.1 y (Row.noMap x.1 (by decide) hm), fun a ha => Row.only2 (show Bytes H a.dv a.data from x.2 a ha) y (Row.noMap (show Bytes H a.dv a.data from x.2 a ha) (by decide) hm)⟩
theorem okM_onlyM {x : Mem} (o : memS.ok H x) (y : Only [M] H h) (hm : MapK enc H M m) : memS.ok h x :=
  Row.only2 (show Bytes H x.dv x.data from o) y (Row.noMap (show Bytes H x.dv x.data from o) (by decide) hm)
theorem rowsO_onlyM {base : Nat} {v : Value} {l : List Mem} (x : RowsO memS H base v l) (y : Only [M] H h) (hlt : M < base) (hm : MapK enc H M m) : RowsO memS h base v l :=
  ⟨Own.only x.1 y (fun b hb hM => by
    have := (Own.lt x.1 b hb).1
    rw [List.mem_singleton.1 hM] at this; omega), fun a ha => okM_onlyM (x.2 a ha) y hm⟩
theorem only_app {h' : Heap} {bs : List Nat} (x : Only [M] H h) (y : Only bs h h') (hge : ∀ b ∈ bs, H.size ≤ b) : Only [M] H h' := Only.trans x y (fun b hb => .inr (hge b hb))
end
section
variable {P : Program} {n : Nat} {e : Env} {h : Heap} {d : Option Tmp} {t : TypeId} {pos : String} {af : Array Edge} {g : Option (Nat × Bool)}
variable {T E : TypeId} {x y : Operand} {v u : Value} {β : Type} {S : Sch β} {l l2 : List β} {z base : Nat}
/-- An append, the data of all elements shown by hand. -/
theorem M_apprG {bytes : Nat} {z0 : Value} (hT : P.underlying T = some (.slice E)) (hE : elemRow P E z bytes z0) (hz : z = S.z) (hzz : z0.cells.size = z) (hbp : 0 < bytes) (hs : ev e x = some v) (hx : ev e y = some u) (hown : RowsO S h base v l) (hr : Rows S h u l2)
    (hbase : base ≤ h.size) (hb : (l.length + l2.length) * bytes ≤ 140737488355328) (hok : ∀ h', Only (blockOf v).toList h h' → (∀ b ∈ (blockOf v).toList, base ≤ b) → ∀ x ∈ l ++ l2, S.ok h' x) :
    Mks P n e h ⟨d, .call { callee := .builtin .append, args := #[x, y], argTypes := #[T, T] }, t, pos, af, g⟩ (fun r h' => AppR S h h' base v r (l ++ l2) ∧ (blockOf r = blockOf v ∨ blockOf r = some h.size)) := fun w a hh he => by
  subst hz
  have h1 : ∀ u ∈ l2.flatMap S.cells, u.oneCell' = true := fun u hu => by
    obtain ⟨x, hx0, hx⟩ := List.mem_flatMap.1 hu
    exact S.one (hr.2 x hx0) u hx
  obtain ⟨r, w', k1, k2, k3⟩ := M_append (P := P) (n := n) (d := d) (t := t) (pos := pos) (af := af) (g := g) hT hE hzz hbp hs hx hown.1 hr.1 h1 hbase hb w a hh he
  have hge : ∀ b ∈ (blockOf v).toList, base ≤ b := fun b hb => (Own.lt hown.1 b (by simpa using hb)).1
  refine ⟨r, w', k1, k2, ⟨⟨?_, hok _ k3.only hge⟩, k3.only, hge⟩, k3.lies⟩
  have := k3.own
  rw [List.flatMap_append, List.length_append]; exact this
end
end Go.Xp

/- Layer 14 (flatten): Members: what the code does, step by step. -/
set_option linter.unusedSimpArgs false
set_option linter.unusedVariables false
set_option linter.unusedSectionVars false
namespace Go.Xp
open Go.Proofs

/-- The members that Members answers. -/
def mbs (l : List Nod) : List Mem := if terr l = 0 then mem1 (cno l) else []
theorem mmem_ok {H : Heap} {M : List (Int × List UInt8)} {x : Nod} (o : nodS.ok H x) : memS.ok H (mmem M x) := by
  unfold mmem
  split
  · exact Bytes.nil H
  · split
    · exact o
    · exact Bytes.nil H
theorem mms_ok {H : Heap} {C : List Nod} {i : Nat} (o : ∀ x ∈ mms C i, memS.ok H x) (h : nodS.ok H (at_nod C i)) : ∀ x ∈ mms C (i + 1), memS.ok H x := fun x hx => by
  unfold mms at hx
  rcases List.mem_append.1 hx with q | q
  · exact o x q
  · rw [List.mem_singleton.1 q]; exact mmem_ok h
theorem mbs_of {l C : List Nod} {n : Nat} (hz : terr l = 0) (hq : C.length = n ∧ C.map er = cno l) : (mms C C.length).map erm = mbs l := by
  have hC : Cfl C := fun x hx hc => by
    have := (tok_of hz).set.cno.cfl (er x) (by rw [← hq.2]; exact List.mem_map_of_mem hx) hc
    exact this
  rw [mms_mem1 hC, hq.2]
  unfold mbs; rw [if_pos hz]

theorem rowsO_congr {β : Type} {S : Sch β} {h : Heap} {b : Nat} {v : Value} {l l' : List β} (x : RowsO S h b v l) (e : l = l') : RowsO S h b v l' := e ▸ x
theorem mms_y {C : List Nod} {i : Nat} (h : lnk (mmk C i) (at_nod C i)) : mms C i ++ [⟨3, (at_nod C i).path, (at_nod C i).mode, (aget (mmk C i) (at_nod C i).cls).getD [], 0, .slice none 0 0, []⟩] = mms C (i + 1) ∧ mmk C i = mmk C (i + 1) := by
  conv => rhs; rhs; unfold mmk
  conv => lhs; rhs; unfold mms
  unfold mmem mmap
  rw [if_pos h, if_pos h]
  exact ⟨rfl, rfl⟩
theorem mms_f {C : List Nod} {i : Nat} (h : ¬ lnk (mmk C i) (at_nod C i)) (hk : (at_nod C i).kind = 1) : mms C i ++ [⟨(at_nod C i).kind, (at_nod C i).path, (at_nod C i).mode, (at_nod C i).target, ((at_nod C i).data.length : Int), (at_nod C i).dv, (at_nod C i).data⟩] = mms C (i + 1) ∧ aset (mmk C i) (at_nod C i).cls (at_nod C i).path = mmk C (i + 1) := by
  conv => rhs; rhs; unfold mmk
  conv => lhs; rhs; unfold mms
  unfold mmem mmap
  rw [if_neg h, if_neg h, if_pos hk, if_pos hk]
  exact ⟨rfl, rfl⟩
theorem mms_n {C : List Nod} {i : Nat} (h : ¬ lnk (mmk C i) (at_nod C i)) (hk : ¬ (at_nod C i).kind = 1) : mms C i ++ [⟨(at_nod C i).kind, (at_nod C i).path, (at_nod C i).mode, (at_nod C i).target, 0, .slice none 0 0, []⟩] = mms C (i + 1) ∧ mmk C i = mmk C (i + 1) := by
  conv => rhs; rhs; unfold mmk
  conv => lhs; rhs; unfold mms
  unfold mmem mmap
  rw [if_neg h, if_neg h, if_neg hk, if_neg hk]
  exact ⟨rfl, rfl⟩

set_option maxRecDepth 100000 in
theorem flatten_Members (h : Heap) (hK : GlbK h) (hE : GlbE h) (w : Value) (l : List Nod) (hl : Rows nodS h w l) (hm : l.length ≤ 1000000000) (hs : ∀ x ∈ l, x.path.length ≤ 100000000000 ∧ x.target.length ≤ 100000000000 ∧ x.data.length ≤ 100000000000) : Cal Tryd.prog 26 #[w] h (fun v h' => ∃ s0 L0, v = .tuple #[s0, .int .i64 (tpos l), .int .i64 (terr l)] ∧ Rows memS h' s0 L0 ∧ (L0.map erm = mbs l) ∧ Ext h h') := by
  refine Cal_enter (args := [w]) Tryd.func26 rfl rfl rfl (fun σ => ?_)
  refine W_seq ?_
  refine W_region ?_
  refine L_yld (Y_assign rfl) rfl rfl rfl ?_
  refine L_yld (Y_assign rfl) rfl rfl rfl ?_
  refine L_yld (Y_assign rfl) rfl rfl rfl ?_
  refine L_nil ?_
  refine X_then ?_
  refine W_seq ?_
  refine W_seq ?_
  refine W_region ?_
  refine L_yld (Y_move rfl) rfl rfl rfl ?_
  refine L_call (E_call (by kernel_rfl) rfl) (tree_Check _ hK hE w l hl (by omega) (fun x hx => by have := hs x hx; omega)) rfl rfl rfl ?_
  rintro _ h1 ⟨rfl, hx1⟩
  refine L_yld (Y_move rfl) rfl rfl rfl ?_
  refine L_yld (Y_extract (v := .int .i64 (tpos l)) rfl rfl) rfl rfl rfl ?_
  refine L_yld (Y_extract (v := .int .i64 (terr l)) rfl rfl) rfl rfl rfl ?_
  refine L_yld (Y_assign rfl) rfl rfl rfl ?_
  refine L_yld (Y_assign rfl) rfl rfl rfl ?_
  refine L_nil ?_
  refine X_then ?_
  refine W_sub _ (.cons (i := 6) rfl (.cons (i := 5) rfl (.cons (i := 4) rfl (.cons (i := 3) rfl (.cons (i := 2) rfl (.cons (i := 0) rfl (.nil _))))))) ?_
  refine W_seq ?_
  refine W_region ?_
  refine L_yld (Y_move rfl) rfl rfl rfl ?_
  refine L_yld (Y_neq rfl rfl) rfl rfl rfl ?_
  refine L_nil ?_
  refine X_then ?_
  refine W_sub _ (.cons (i := 20) rfl (.cons (i := 6) rfl (.cons (i := 5) rfl (.cons (i := 4) rfl (.cons (i := 3) rfl (.cons (i := 2) rfl (.cons (i := 0) rfl (.nil _)))))))) ?_
  refine W_splitd rfl (fun e => ?_) (fun e => ?_)
  · refine W_seq ?_
    refine W_region ?_
    refine L_yld (Y_move rfl) rfl rfl rfl ?_
    refine L_yld (Y_move rfl) rfl rfl rfl ?_
    refine L_yld (Y_assign rfl) rfl rfl rfl ?_
    refine L_yld (Y_assign rfl) rfl rfl rfl ?_
    refine L_yld (Y_assign rfl) rfl rfl rfl ?_
    refine L_nil ?_
    refine X_then ?_
    refine W_sub _ (.cons (i := 4) rfl (.cons (i := 3) rfl (.cons (i := 2) rfl (.cons (i := 0) rfl (.nil _))))) ?_
    refine W_ret ?_
    refine X_then_ret ?_
    refine X_ret3 rfl rfl rfl rfl ?_
    exact ⟨_, [], rfl, Rows.nil memS _, by unfold mbs; rw [if_neg e]; rfl, hx1⟩
  · refine W_skip ?_
    refine X_then ?_
    refine W_sub _ (.cons (i := 4) rfl (.cons (i := 3) rfl (.cons (i := 2) rfl (.cons (i := 0) rfl (.nil _))))) ?_
    have hz := Classical.not_not.1 e
    refine W_seq ?_
    refine W_region ?_
    refine L_mks (M_makeMapA (enc := (fun z : Int => .int .i64 z)) (evl := (fun l : List UInt8 => str l))) rfl rfl rfl ?_
    rintro _ h2 ⟨rfl, hx2, hb3⟩
    refine L_yld (Y_assign rfl) rfl rfl rfl ?_
    refine L_nil ?_
    refine X_then ?_
    refine W_sub _ (.cons (i := 7) rfl (.cons (i := 4) rfl (.cons (i := 3) rfl (.cons (i := 2) rfl (.cons (i := 0) rfl (.nil _)))))) ?_
    refine W_seq ?_
    refine W_region ?_
    refine L_yld (Y_assign rfl) rfl rfl rfl ?_
    refine L_nil ?_
    refine X_then ?_
    refine W_seq ?_
    refine W_seq ?_
    refine W_region ?_
    refine L_yld (Y_move rfl) rfl rfl rfl ?_
    refine L_call (E_call (by kernel_rfl) rfl) (tree_Canon _ w l (hl.ext (hx1.trans hx2)) hm hs) rfl rfl rfl ?_
    rintro s04 h3 ⟨_, L05, rfl, hr06, hq07, hx8⟩
    refine L_yld (Y_lenr Tryd.underlying32 rfl hr06) rfl rfl rfl ?_
    refine L_yld (Y_move rfl) rfl rfl rfl ?_
    refine L_nil ?_
    refine X_then ?_
    refine W_sub _ (.cons (i := 27) rfl (.cons (i := 26) rfl (.cons (i := 25) rfl (.cons (i := 8) rfl (.cons (i := 7) rfl (.cons (i := 4) rfl (.cons (i := 3) rfl (.cons (i := 2) rfl (.cons (i := 0) rfl (.nil _)))))))))) ?_
    have hrC : Rows nodS h3 s04 L05 := hr06
    have hmC : MapIS h3 h1.size [] := (hb3.ext hx8)
    refine W_block ?_
    refine W_loop (S := Nat × Value) (fun (i, vo) => [(26, .int .i64 ((L05.length : Int))), (7, .map (some h1.size)), (4, .int .i64 0), (3, .int .i64 0), (2, .slice none 0 0), (0, w), (8, vo), (25, s04), (27, .int .i64 ((i : Int)))]) (fun (i, vo) h' => i ≤ (L05).length ∧ (∀ x ∈ mms L05 i, memS.ok h3 x) ∧ Only [h1.size] h3 h' ∧ RowsO memS h' h3.size vo (mms L05 i) ∧ MapIS h' h1.size (mmk L05 i)) (fun (i, vo) => (L05).length - i) (0, .slice none 0 0) (.cons (i := 26) rfl (.cons (i := 7) rfl (.cons (i := 4) rfl (.cons (i := 3) rfl (.cons (i := 2) rfl (.cons (i := 0) rfl (.cons (i := 8) rfl (.cons (i := 25) rfl (.cons (i := 27) rfl (.nil _)))))))))) ?_ ?_
    · exact ⟨Nat.zero_le _, (fun x hx => by cases hx), Only.refl _ _, RowsO.nil _ _ _, hmC⟩
    rintro ⟨i, vo⟩ h4 ⟨hi, hkA, hxA, hoA, hmL⟩
    show W _ _ _ _ _ [(26, .int .i64 ((L05.length : Int))), (7, .map (some h1.size)), (4, .int .i64 0), (3, .int .i64 0), (2, .slice none 0 0), (0, w), (8, vo), (25, s04), (27, .int .i64 ((i : Int)))] _
    refine W_seq ?_
    refine W_region ?_
    refine L_yld (Y_lss rfl rfl) rfl rfl rfl ?_
    refine L_nil ?_
    refine X_then ?_
    refine W_seq ?_
    refine W_splitd rfl (fun c => ?_) (fun c => ?_)
    · refine W_skip ?_
      refine X_then ?_
      refine W_sub _ (.cons (i := 26) rfl (.cons (i := 7) rfl (.cons (i := 4) rfl (.cons (i := 3) rfl (.cons (i := 2) rfl (.cons (i := 0) rfl (.cons (i := 8) rfl (.cons (i := 25) rfl (.cons (i := 27) rfl (.nil _)))))))))) ?_
      refine W_seq ?_
      refine W_block ?_
      refine W_seq ?_
      refine W_region ?_
      refine L_yld (Y_idxr Tryd.underlying32 (show _ = some 6 by kernel_rfl) rfl rfl rfl (rowsN_onlyM hrC (Only.trans (Only.refl _ _) hxA (fun _ hb_ => .inl hb_)) hmC) (by omega) (by omega)) rfl rfl rfl ?_
      refine L_yld (Y_ldrA0 (k := ((i : Int)).toNat) (us := [.int .i64 ((at_nod L05 ((i : Int)).toNat).kind), str ((at_nod L05 ((i : Int)).toNat).path), .int .i64 ((at_nod L05 ((i : Int)).toNat).mode), str ((at_nod L05 ((i : Int)).toNat).target), ((at_nod L05 ((i : Int)).toNat).dv), .int .i64 ((at_nod L05 ((i : Int)).toNat).cls)]) Tryd.underlying48 rfl (show _ = some 6 by kernel_rfl) rfl rfl (rowsN_onlyM hrC (Only.trans (Only.refl _ _) hxA (fun _ hb_ => .inl hb_)) hmC) (by omega) rfl) rfl rfl rfl ?_
      refine L_mks (M_alloc (u := .agg #[.int .i64 0, str [], .int .i64 0, str [], .slice none 0 0, .int .i64 0]) (by kernel_rfl)) rfl rfl rfl ?_
      rintro _ h5 ⟨rfl, hn9⟩
      have hk10 : Blk h5 h4.size [.int .i64 0, str [], .int .i64 0, str [], .slice none 0 0, .int .i64 0] := hn9.blk
      refine L_dos (D_store (us := [.int .i64 ((at_nod L05 ((i : Int)).toNat).kind), str ((at_nod L05 ((i : Int)).toNat).path), .int .i64 ((at_nod L05 ((i : Int)).toNat).mode), str ((at_nod L05 ((i : Int)).toNat).target), ((at_nod L05 ((i : Int)).toNat).dv), .int .i64 ((at_nod L05 ((i : Int)).toNat).cls)]) (show _ = some 6 by kernel_rfl) rfl rfl rfl (by intro u_ hu_; simp only [List.mem_cons, List.not_mem_nil, or_false] at hu_; rcases hu_ with rfl | rfl | rfl | rfl | rfl | rfl <;> first | rfl | exact ((show Bytes _ ((at_nod L05 ((i : Int)).toNat).dv) ((at_nod L05 ((i : Int)).toNat).data) from (rowsN_onlyM hrC (Only.trans (Only.trans (Only.refl _ _) hxA (fun _ hb_ => .inl hb_)) hn9.ext (fun _ hb_ => by cases hb_)) hmC).okat (k := ((i : Int)).toNat) (by omega))).cell1) hk10 (by simp)) rfl rfl ?_
      rintro h6 hp11
      have hk12 : Blk h6 h4.size [.int .i64 ((at_nod L05 ((i : Int)).toNat).kind), str ((at_nod L05 ((i : Int)).toNat).path), .int .i64 ((at_nod L05 ((i : Int)).toNat).mode), str ((at_nod L05 ((i : Int)).toNat).target), ((at_nod L05 ((i : Int)).toNat).dv), .int .i64 ((at_nod L05 ((i : Int)).toNat).cls)] := hp11.blk
      refine L_nil ?_
      refine X_then ?_
      refine W_sub _ (.cons (i := 10) rfl (.cons (i := 26) rfl (.cons (i := 7) rfl (.cons (i := 4) rfl (.cons (i := 3) rfl (.cons (i := 2) rfl (.cons (i := 0) rfl (.cons (i := 8) rfl (.cons (i := 25) rfl (.cons (i := 27) rfl (.nil _))))))))))) ?_
      refine W_seq ?_
      refine W_region ?_
      refine L_yld (Y_fieldAddr (off := 0) (by kernel_rfl) rfl rfl) rfl rfl rfl ?_
      refine L_yld (Y_ldblk Tryd.underlying3 rfl rfl hk12 rfl) rfl rfl rfl ?_
      refine L_yld (Y_fieldAddr (off := 1) (by kernel_rfl) rfl rfl) rfl rfl rfl ?_
      refine L_yld (Y_ldblk Tryd.underlying9 rfl rfl hk12 rfl) rfl rfl rfl ?_
      refine L_yld (Y_fieldAddr (off := 2) (by kernel_rfl) rfl rfl) rfl rfl rfl ?_
      refine L_yld (Y_ldblk Tryd.underlying3 rfl rfl hk12 rfl) rfl rfl rfl ?_
      refine L_yld (Y_fieldAddr (off := 3) (by kernel_rfl) rfl rfl) rfl rfl rfl ?_
      refine L_yld (Y_ldblk Tryd.underlying9 rfl rfl hk12 rfl) rfl rfl rfl ?_
      refine L_yld (Y_build (v := .agg #[.int .i64 ((at_nod L05 ((i : Int)).toNat).kind), str ((at_nod L05 ((i : Int)).toNat).path), .int .i64 ((at_nod L05 ((i : Int)).toNat).mode), str ((at_nod L05 ((i : Int)).toNat).target), .int .i64 0]) (pv := [(0, .int .i64 ((at_nod L05 ((i : Int)).toNat).kind)), (1, str ((at_nod L05 ((i : Int)).toNat).path)), (2, .int .i64 ((at_nod L05 ((i : Int)).toNat).mode)), (3, str ((at_nod L05 ((i : Int)).toNat).target))]) (evp (is := [0, 1, 2, 3]) (os := [.tmp 32, .tmp 34, .tmp 36, .tmp 38]) (vs := [.int .i64 ((at_nod L05 ((i : Int)).toNat).kind), str ((at_nod L05 ((i : Int)).toNat).path), .int .i64 ((at_nod L05 ((i : Int)).toNat).mode), str ((at_nod L05 ((i : Int)).toNat).target)]) rfl rfl) (fun _ => by kernel_rfl)) rfl rfl rfl ?_
      refine L_yld (Y_build (v := .agg #[.int .i64 ((at_nod L05 ((i : Int)).toNat).kind), str ((at_nod L05 ((i : Int)).toNat).path), .int .i64 ((at_nod L05 ((i : Int)).toNat).mode), str ((at_nod L05 ((i : Int)).toNat).target), .int .i64 0, .slice none 0 0]) (pv := [(0, .agg #[.int .i64 ((at_nod L05 ((i : Int)).toNat).kind), str ((at_nod L05 ((i : Int)).toNat).path), .int .i64 ((at_nod L05 ((i : Int)).toNat).mode), str ((at_nod L05 ((i : Int)).toNat).target), .int .i64 0])]) (evp (is := [0]) (os := [.tmp 39]) (vs := [.agg #[.int .i64 ((at_nod L05 ((i : Int)).toNat).kind), str ((at_nod L05 ((i : Int)).toNat).path), .int .i64 ((at_nod L05 ((i : Int)).toNat).mode), str ((at_nod L05 ((i : Int)).toNat).target), .int .i64 0]]) rfl rfl) (fun _ => by kernel_rfl)) rfl rfl rfl ?_
      refine L_mks (M_alloc (u := .agg #[.int .i64 0, str [], .int .i64 0, str [], .int .i64 0, .slice none 0 0]) (by kernel_rfl)) rfl rfl rfl ?_
      rintro _ h7 ⟨rfl, hn13⟩
      have hk14 : Blk h7 h6.size [.int .i64 0, str [], .int .i64 0, str [], .int .i64 0, .slice none 0 0] := hn13.blk
      refine L_dos (D_store (us := [.int .i64 ((at_nod L05 ((i : Int)).toNat).kind), str ((at_nod L05 ((i : Int)).toNat).path), .int .i64 ((at_nod L05 ((i : Int)).toNat).mode), str ((at_nod L05 ((i : Int)).toNat).target), .int .i64 0, .slice none 0 0]) (show _ = some 6 by kernel_rfl) rfl rfl rfl (by simp [Value.oneCell']) hk14 (by simp)) rfl rfl ?_
      rintro h8 hp15
      have hk16 : Blk h8 h6.size [.int .i64 ((at_nod L05 ((i : Int)).toNat).kind), str ((at_nod L05 ((i : Int)).toNat).path), .int .i64 ((at_nod L05 ((i : Int)).toNat).mode), str ((at_nod L05 ((i : Int)).toNat).target), .int .i64 0, .slice none 0 0] := hp15.blk
      refine L_nil ?_
      refine X_then ?_
      refine W_sub _ (.cons (i := 11) rfl (.cons (i := 10) rfl (.cons (i := 26) rfl (.cons (i := 7) rfl (.cons (i := 4) rfl (.cons (i := 3) rfl (.cons (i := 2) rfl (.cons (i := 0) rfl (.cons (i := 8) rfl (.cons (i := 25) rfl (.cons (i := 27) rfl (.nil _)))))))))))) ?_
      refine W_seq ?_
      refine W_region ?_
      refine L_yld (Y_move rfl) rfl rfl rfl ?_
      refine L_yld (Y_fieldAddr (off := 5) (by kernel_rfl) rfl rfl) rfl rfl rfl ?_
      refine L_yld (Y_ldblk Tryd.underlying3 rfl rfl (hk12.ext (hn13.ext.then' hp15.only (by simp) (Nat.le_refl _))) rfl) rfl rfl rfl ?_
      refine L_yld (Y_look2A (evl := (fun l : List UInt8 => str l)) (k := (at_nod L05 ((i : Int)).toNat).cls) (u := ([] : List UInt8)) keyI Tryd.underlying73 Tryd.underlying3 (by kernel_rfl) rfl rfl (hmL.ext (((hn9.ext.then' hp11.only (by simp) (Nat.le_refl _)).trans hn13.ext).then' hp15.only (by simp) (Nat.le_trans hn9.ext.size hp11.only.size)))) rfl rfl rfl ?_
      refine L_yld (Y_move rfl) rfl rfl rfl ?_
      refine L_yld (Y_extract (v := str ((aget (mmk L05 i) ((at_nod L05 ((i : Int)).toNat).cls)).getD ([] : List UInt8))) rfl rfl) rfl rfl rfl ?_
      refine L_yld (Y_extract (v := .bool ((aget (mmk L05 i) ((at_nod L05 ((i : Int)).toNat).cls)).isSome)) rfl rfl) rfl rfl rfl ?_
      refine L_yld (Y_assign rfl) rfl rfl rfl ?_
      refine L_yld (Y_assign rfl) rfl rfl rfl ?_
      refine L_nil ?_
      refine X_then ?_
      refine W_sub _ (.cons (i := 13) rfl (.cons (i := 12) rfl (.cons (i := 11) rfl (.cons (i := 10) rfl (.cons (i := 26) rfl (.cons (i := 7) rfl (.cons (i := 4) rfl (.cons (i := 3) rfl (.cons (i := 2) rfl (.cons (i := 0) rfl (.cons (i := 8) rfl (.cons (i := 25) rfl (.cons (i := 27) rfl (.nil _)))))))))))))) ?_
      refine W_seq ?_
      refine W_block ?_
      refine W_cut (S := Unit) (fun _ => [(48, .bool (decide (((((at_nod L05 ((i : Int)).toNat).kind) = 1) ∧ (0 < ((at_nod L05 ((i : Int)).toNat).cls))) ∧ ((aget (mmk L05 i) ((at_nod L05 ((i : Int)).toNat).cls)).isSome = true)))), (12, str ((aget (mmk L05 i) ((at_nod L05 ((i : Int)).toNat).cls)).getD ([] : List UInt8))), (11, .pointer (some ⟨h6.size, 0, none⟩)), (10, .pointer (some ⟨h4.size, 0, none⟩)), (26, .int .i64 ((L05.length : Int))), (7, .map (some h1.size)), (4, .int .i64 0), (3, .int .i64 0), (2, .slice none 0 0), (0, w), (8, vo), (25, s04), (27, .int .i64 ((i : Int)))]) (fun _ h' => h' = h8) ?_ ?_
      · refine W_region ?_
        refine L_yld (Y_fieldAddr (off := 0) (by kernel_rfl) rfl rfl) rfl rfl rfl ?_
        refine L_yld (Y_ldblk Tryd.underlying3 rfl rfl (hk12.ext (hn13.ext.then' hp15.only (by simp) (Nat.le_refl _))) rfl) rfl rfl rfl ?_
        refine L_yld (Y_eql rfl rfl) rfl rfl rfl ?_
        refine L_yld (Y_move rfl) rfl rfl rfl ?_
        refine L_splitd (d := 52) rfl (fun a0 => ?_) (fun a0 => ?_)
        · refine L_yld (Y_fieldAddr (off := 5) (by kernel_rfl) rfl rfl) rfl rfl rfl ?_
          refine L_yld (Y_ldblk Tryd.underlying3 rfl rfl (hk12.ext (hn13.ext.then' hp15.only (by simp) (Nat.le_refl _))) rfl) rfl rfl rfl ?_
          refine L_yld (Y_gtr rfl rfl) rfl rfl rfl ?_
          refine L_yld (Y_pick_t rfl rfl) rfl rfl rfl ?_
          refine L_yld (Y_move rfl) rfl rfl rfl ?_
          refine L_splitd (d := 57) rfl (fun a1 => ?_) (fun a1 => ?_)
          · refine L_yld (Y_move rfl) rfl rfl rfl ?_
            refine L_yld (Y_pick_t rfl rfl) rfl rfl rfl ?_
            refine L_yld (Y_assign rfl) rfl rfl rfl ?_
            refine L_nil ?_
            exact X_cut () (.cons (i := 48) (lkb rfl (by first | (simp only [eq_true a0, eq_true a1, true_and, and_true, false_and, and_false, true_or, or_true, false_or, or_false, not_true_eq_false, not_false_eq_true, decide_true, decide_false, Bool.true_eq_false, Bool.false_eq_true, eq_self, Bool.decide_eq_true]; done) | (simp only [eq_true a0, eq_true a1, true_and, and_true, false_and, and_false, true_or, or_true, false_or, or_false, not_true_eq_false, not_false_eq_true, decide_true, decide_false, Bool.true_eq_false, Bool.false_eq_true, eq_self, Bool.decide_eq_true]; rfl))) (.cons (i := 12) rfl (.cons (i := 11) rfl (.cons (i := 10) rfl (.cons (i := 26) rfl (.cons (i := 7) rfl (.cons (i := 4) rfl (.cons (i := 3) rfl (.cons (i := 2) rfl (.cons (i := 0) rfl (.cons (i := 8) rfl (.cons (i := 25) rfl (.cons (i := 27) rfl (.nil _)))))))))))))) rfl
          · refine L_skip rfl rfl rfl ?_
            refine L_yld (Y_pick_f rfl rfl) rfl rfl rfl ?_
            refine L_yld (Y_assign rfl) rfl rfl rfl ?_
            refine L_nil ?_
            exact X_cut () (.cons (i := 48) (lkb rfl (by first | (simp only [eq_true a0, eq_false a1, true_and, and_true, false_and, and_false, true_or, or_true, false_or, or_false, not_true_eq_false, not_false_eq_true, decide_true, decide_false, Bool.true_eq_false, Bool.false_eq_true, eq_self, Bool.decide_eq_true]; done) | (simp only [eq_true a0, eq_false a1, true_and, and_true, false_and, and_false, true_or, or_true, false_or, or_false, not_true_eq_false, not_false_eq_true, decide_true, decide_false, Bool.true_eq_false, Bool.false_eq_true, eq_self, Bool.decide_eq_true]; rfl))) (.cons (i := 12) rfl (.cons (i := 11) rfl (.cons (i := 10) rfl (.cons (i := 26) rfl (.cons (i := 7) rfl (.cons (i := 4) rfl (.cons (i := 3) rfl (.cons (i := 2) rfl (.cons (i := 0) rfl (.cons (i := 8) rfl (.cons (i := 25) rfl (.cons (i := 27) rfl (.nil _)))))))))))))) rfl
        · refine L_skip rfl rfl rfl ?_
          refine L_skip rfl rfl rfl ?_
          refine L_skip rfl rfl rfl ?_
          refine L_yld (Y_pick_f rfl rfl) rfl rfl rfl ?_
          refine L_yld (Y_move rfl) rfl rfl rfl ?_
          refine L_skip rfl rfl rfl ?_
          refine L_yld (Y_pick_f rfl rfl) rfl rfl rfl ?_
          refine L_yld (Y_assign rfl) rfl rfl rfl ?_
          refine L_nil ?_
          exact X_cut () (.cons (i := 48) (lkb rfl (by first | (simp only [eq_false a0, true_and, and_true, false_and, and_false, true_or, or_true, false_or, or_false, not_true_eq_false, not_false_eq_true, decide_true, decide_false, Bool.true_eq_false, Bool.false_eq_true, eq_self, Bool.decide_eq_true]; done) | (simp only [eq_false a0, true_and, and_true, false_and, and_false, true_or, or_true, false_or, or_false, not_true_eq_false, not_false_eq_true, decide_true, decide_false, Bool.true_eq_false, Bool.false_eq_true, eq_self, Bool.decide_eq_true]; rfl))) (.cons (i := 12) rfl (.cons (i := 11) rfl (.cons (i := 10) rfl (.cons (i := 26) rfl (.cons (i := 7) rfl (.cons (i := 4) rfl (.cons (i := 3) rfl (.cons (i := 2) rfl (.cons (i := 0) rfl (.cons (i := 8) rfl (.cons (i := 25) rfl (.cons (i := 27) rfl (.nil _)))))))))))))) rfl
      rintro _ h8 rfl
      show W _ _ _ _ _ [(48, .bool (decide (((((at_nod L05 ((i : Int)).toNat).kind) = 1) ∧ (0 < ((at_nod L05 ((i : Int)).toNat).cls))) ∧ ((aget (mmk L05 i) ((at_nod L05 ((i : Int)).toNat).cls)).isSome = true)))), (12, str ((aget (mmk L05 i) ((at_nod L05 ((i : Int)).toNat).cls)).getD ([] : List UInt8))), (11, .pointer (some ⟨h6.size, 0, none⟩)), (10, .pointer (some ⟨h4.size, 0, none⟩)), (26, .int .i64 ((L05.length : Int))), (7, .map (some h1.size)), (4, .int .i64 0), (3, .int .i64 0), (2, .slice none 0 0), (0, w), (8, vo), (25, s04), (27, .int .i64 ((i : Int)))] _
      refine W_splitd rfl (fun a => ?_) (fun a => ?_)
      · refine W_region ?_
        refine L_yld (Y_move rfl) rfl rfl rfl ?_
        refine L_yld (Y_fieldAddr (off := 0) (by kernel_rfl) rfl rfl) rfl rfl rfl ?_
        refine L_yld (Y_fieldAddr (off := 0) (by kernel_rfl) rfl rfl) rfl rfl rfl ?_
        refine L_dos (D_store (us := [.int .i64 3]) (show _ = some 1 by kernel_rfl) rfl rfl rfl (by simp [Value.oneCell']) hk16 (by simp)) rfl rfl ?_
        rintro h9 hp17
        have hk18 : Blk h9 h6.size [.int .i64 3, str ((at_nod L05 ((i : Int)).toNat).path), .int .i64 ((at_nod L05 ((i : Int)).toNat).mode), str ((at_nod L05 ((i : Int)).toNat).target), .int .i64 0, .slice none 0 0] := hp17.blk
        refine L_yld (Y_fieldAddr (off := 0) (by kernel_rfl) rfl rfl) rfl rfl rfl ?_
        refine L_yld (Y_fieldAddr (off := 3) (by kernel_rfl) rfl rfl) rfl rfl rfl ?_
        refine L_dos (D_store (us := [str ((aget (mmk L05 i) ((at_nod L05 ((i : Int)).toNat).cls)).getD ([] : List UInt8))]) (show _ = some 1 by kernel_rfl) rfl rfl rfl (by simp [Value.oneCell']) hk18 (by simp)) rfl rfl ?_
        rintro h10 hp19
        have hk20 : Blk h10 h6.size [.int .i64 3, str ((at_nod L05 ((i : Int)).toNat).path), .int .i64 ((at_nod L05 ((i : Int)).toNat).mode), str ((aget (mmk L05 i) ((at_nod L05 ((i : Int)).toNat).cls)).getD ([] : List UInt8)), .int .i64 0, .slice none 0 0] := hp19.blk
        refine L_nil ?_
        refine X_block ?_
        refine X_then ?_
        refine W_sub _ (.cons (i := 11) rfl (.cons (i := 26) rfl (.cons (i := 7) rfl (.cons (i := 4) rfl (.cons (i := 3) rfl (.cons (i := 2) rfl (.cons (i := 0) rfl (.cons (i := 8) rfl (.cons (i := 25) rfl (.cons (i := 27) rfl (.nil _))))))))))) ?_
        refine W_region ?_
        refine L_yld (Y_move rfl) rfl rfl rfl ?_
        refine L_yld (Y_ldbox (us := [.int .i64 3, str ((at_nod L05 ((i : Int)).toNat).path), .int .i64 ((at_nod L05 ((i : Int)).toNat).mode), str ((aget (mmk L05 i) ((at_nod L05 ((i : Int)).toNat).cls)).getD ([] : List UInt8)), .int .i64 0, .slice none 0 0]) Tryd.underlying30 rfl (show _ = some 6 by kernel_rfl) rfl hk20 rfl) rfl rfl rfl ?_
        refine L_mks (M_litr (S := memS) (l := ([⟨(3 : Int), (at_nod L05 ((i : Int)).toNat).path, (at_nod L05 ((i : Int)).toNat).mode, (aget (mmk L05 i) ((at_nod L05 ((i : Int)).toNat).cls)).getD ([] : List UInt8), (0 : Int), .slice none 0 0, ([] : List UInt8)⟩] : List Mem)) (cells := [.int .i64 3, str ((at_nod L05 ((i : Int)).toNat).path), .int .i64 ((at_nod L05 ((i : Int)).toNat).mode), str ((aget (mmk L05 i) ((at_nod L05 ((i : Int)).toNat).cls)).getD ([] : List UInt8)), .int .i64 0, .slice none 0 0]) (pv := [(0, .agg #[.int .i64 3, str ((at_nod L05 ((i : Int)).toNat).path), .int .i64 ((at_nod L05 ((i : Int)).toNat).mode), str ((aget (mmk L05 i) ((at_nod L05 ((i : Int)).toNat).cls)).getD ([] : List UInt8)), .int .i64 0, .slice none 0 0])]) (E := 30) (evp (is := [0]) (os := [.tmp 83]) (vs := [.agg #[.int .i64 3, str ((at_nod L05 ((i : Int)).toNat).path), .int .i64 ((at_nod L05 ((i : Int)).toNat).mode), str ((aget (mmk L05 i) ((at_nod L05 ((i : Int)).toNat).cls)).getD ([] : List UInt8)), .int .i64 0, .slice none 0 0]]) rfl rfl) rfl rfl (fun _ => by kernel_rfl) (by simp only [List.mem_cons, List.not_mem_nil, or_false, forall_eq_or_imp, forall_eq]; exact (Bytes.nil _))) rfl rfl rfl ?_
        rintro v21 h11 ⟨ho22, hx23⟩
        refine L_mks (M_apprG (z := 6) (bytes := 80) (z0 := (.agg #[.int .i64 0, str [], .int .i64 0, str [], .int .i64 0, .slice none 0 0])) Tryd.underlying22 (by unfold elemRow; kernel_rfl) rfl rfl (by decide) rfl rfl (hoA.ext ((((((hn9.ext.then' hp11.only (by simp) (Nat.le_refl _)).trans hn13.ext).then' hp15.only (by simp) (Nat.le_trans hn9.ext.size hp11.only.size)).then' hp17.only (by simp) (Nat.le_trans hn9.ext.size hp11.only.size)).then' hp19.only (by simp) (Nat.le_trans hn9.ext.size hp11.only.size)).trans hx23)) ho22.rows (Nat.le_trans (Nat.le_trans (Nat.le_trans (Nat.le_trans (Nat.le_trans (Nat.le_trans (Nat.le_trans hxA.size hn9.ext.size) hp11.only.size) hn13.ext.size) hp15.only.size) hp17.only.size) hp19.only.size) hx23.size) (by first | (simp; omega) | (simp; done) | omega) (fun h' y hge x hx => okM_onlyM ((List.mem_append.1 hx).elim (hkA x) (fun q => by rw [List.mem_singleton.1 q]; exact Bytes.nil _)) (only_app (Only.trans (Only.trans (Only.trans (Only.trans (Only.trans (Only.trans (Only.trans (Only.trans (Only.refl _ _) hxA (fun _ hb_ => .inl hb_)) hn9.ext (fun _ hb_ => by cases hb_)) hp11.only (fun b_ hb_ => .inr (by rw [List.mem_singleton.1 hb_]; exact hxA.size))) hn13.ext (fun _ hb_ => by cases hb_)) hp15.only (fun b_ hb_ => .inr (by rw [List.mem_singleton.1 hb_]; exact (Nat.le_trans (Nat.le_trans hxA.size hn9.ext.size) hp11.only.size)))) hp17.only (fun b_ hb_ => .inr (by rw [List.mem_singleton.1 hb_]; exact (Nat.le_trans (Nat.le_trans hxA.size hn9.ext.size) hp11.only.size)))) hp19.only (fun b_ hb_ => .inr (by rw [List.mem_singleton.1 hb_]; exact (Nat.le_trans (Nat.le_trans hxA.size hn9.ext.size) hp11.only.size)))) hx23 (fun _ hb_ => by cases hb_)) y hge) hmC)) rfl rfl rfl ?_
        rintro v24 h12 ⟨ha25, ha25l⟩
        refine L_yld (Y_assign rfl) rfl rfl rfl ?_
        refine L_nil ?_
        refine X_block ?_
        refine X_then ?_
        refine W_sub _ (.cons (i := 8) rfl (.cons (i := 26) rfl (.cons (i := 7) rfl (.cons (i := 4) rfl (.cons (i := 3) rfl (.cons (i := 2) rfl (.cons (i := 0) rfl (.cons (i := 25) rfl (.cons (i := 27) rfl (.nil _)))))))))) ?_
        refine W_region ?_
        refine L_yld (Y_add rfl rfl (by omega) (by omega)) rfl rfl rfl ?_
        refine L_yld (Y_move rfl) rfl rfl rfl ?_
        refine L_nil ?_
        refine X_loop ((i + 1, v24)) (.cons (i := 26) rfl (.cons (i := 7) rfl (.cons (i := 4) rfl (.cons (i := 3) rfl (.cons (i := 2) rfl (.cons (i := 0) rfl (.cons (i := 8) rfl (.cons (i := 25) rfl (.cons (i := 27) rfl (.nil _)))))))))) ?_ ?_
        have hc26 := ((((((((hmL.ext hn9.ext).only hp11.only (ni_lt (Nat.lt_of_lt_of_le hb3.lt (Nat.le_trans hx8.size hxA.size)))).ext hn13.ext).only hp15.only (ni_lt (Nat.lt_of_lt_of_le hb3.lt (Nat.le_trans (Nat.le_trans (Nat.le_trans hx8.size hxA.size) hn9.ext.size) hp11.only.size)))).only hp17.only (ni_lt (Nat.lt_of_lt_of_le hb3.lt (Nat.le_trans (Nat.le_trans (Nat.le_trans hx8.size hxA.size) hn9.ext.size) hp11.only.size)))).only hp19.only (ni_lt (Nat.lt_of_lt_of_le hb3.lt (Nat.le_trans (Nat.le_trans (Nat.le_trans hx8.size hxA.size) hn9.ext.size) hp11.only.size)))).ext hx23).only ha25.only (fun hb_ => Nat.lt_irrefl _ (Nat.lt_of_lt_of_le (Nat.lt_of_lt_of_le hb3.lt hx8.size) (ha25.ge _ hb_))))
        · exact ⟨by omega, mms_ok hkA (hrC.2 _ (can_mem (by omega))), (Only.trans (Only.trans (Only.trans (Only.trans (Only.trans (Only.trans (Only.trans (Only.trans (Only.trans (Only.refl _ _) hxA (fun _ hb_ => .inl hb_)) hn9.ext (fun _ hb_ => by cases hb_)) hp11.only (fun b_ hb_ => .inr (by rw [List.mem_singleton.1 hb_]; exact hxA.size))) hn13.ext (fun _ hb_ => by cases hb_)) hp15.only (fun b_ hb_ => .inr (by rw [List.mem_singleton.1 hb_]; exact (Nat.le_trans (Nat.le_trans hxA.size hn9.ext.size) hp11.only.size)))) hp17.only (fun b_ hb_ => .inr (by rw [List.mem_singleton.1 hb_]; exact (Nat.le_trans (Nat.le_trans hxA.size hn9.ext.size) hp11.only.size)))) hp19.only (fun b_ hb_ => .inr (by rw [List.mem_singleton.1 hb_]; exact (Nat.le_trans (Nat.le_trans hxA.size hn9.ext.size) hp11.only.size)))) hx23 (fun _ hb_ => by cases hb_)) ha25.only (fun b_ hb_ => .inr (Nat.le_trans (Nat.le_refl _) (ha25.ge b_ hb_)))), rowsO_congr ha25.own (mms_y a).1, MapA.congr hc26 (mms_y a).2⟩
        · (try dsimp only)
          omega
      · refine W_seq ?_
        refine W_region ?_
        refine L_yld (Y_fieldAddr (off := 0) (by kernel_rfl) rfl rfl) rfl rfl rfl ?_
        refine L_yld (Y_ldblk Tryd.underlying3 rfl rfl (hk12.ext (hn13.ext.then' hp15.only (by simp) (Nat.le_refl _))) rfl) rfl rfl rfl ?_
        refine L_yld (Y_eql rfl rfl) rfl rfl rfl ?_
        refine L_yld (Y_assign rfl) rfl rfl rfl ?_
        refine L_nil ?_
        refine X_then ?_
        refine W_sub _ (.cons (i := 65) rfl (.cons (i := 11) rfl (.cons (i := 10) rfl (.cons (i := 26) rfl (.cons (i := 7) rfl (.cons (i := 4) rfl (.cons (i := 3) rfl (.cons (i := 2) rfl (.cons (i := 0) rfl (.cons (i := 8) rfl (.cons (i := 25) rfl (.cons (i := 27) rfl (.nil _))))))))))))) ?_
        refine W_splitd rfl (fun b => ?_) (fun b => ?_)
        · refine W_seq ?_
          refine W_held (fun _ => True) 10 rfl (by kernel_rfl) ?_
          refine LH_take (i := 0) rfl (fun h_ hI_ => Y_fieldAddr (off := 4) (by kernel_rfl) rfl rfl) rfl rfl rfl (by kernel_rfl) (by kernel_rfl) (by kernel_rfl) (fun _ _ _ => by rintro ⟨_, _, h_, _⟩; cases h_) trivial ?_
          refine LH_take (i := 3) rfl (fun h_ hI_ => Y_fieldAddr (off := 4) (by kernel_rfl) rfl rfl) rfl rfl rfl (by kernel_rfl) (by kernel_rfl) (by kernel_rfl) (fun _ _ _ => by rintro ⟨_, _, h_, _⟩; cases h_) trivial ?_
          refine LH_two (i := 1) (j := 4) (by kernel_rfl) ?_ ?_
          · refine LO_yld (i := 1) rfl (Y_ldblk Tryd.underlying28 rfl rfl (hk12.ext (hn13.ext.then' hp15.only (by simp) (Nat.le_refl _))) rfl) rfl rfl rfl trivial ?_
            refine LH_two (i := 2) (j := 4) (by kernel_rfl) ?_ ?_
            · refine LO_yld (i := 2) rfl (Y_len Tryd.underlying28 rfl (show Bytes _ ((at_nod L05 ((i : Int)).toNat).dv) ((at_nod L05 ((i : Int)).toNat).data) from (rowsN_onlyM hrC (Only.trans (Only.trans (Only.trans (Only.trans (Only.trans (Only.refl _ _) hxA (fun _ hb_ => .inl hb_)) hn9.ext (fun _ hb_ => by cases hb_)) hp11.only (fun b_ hb_ => .inr (by rw [List.mem_singleton.1 hb_]; exact hxA.size))) hn13.ext (fun _ hb_ => by cases hb_)) hp15.only (fun b_ hb_ => .inr (by rw [List.mem_singleton.1 hb_]; exact (Nat.le_trans (Nat.le_trans hxA.size hn9.ext.size) hp11.only.size)))) hmC).okat (k := ((i : Int)).toNat) (by omega))) rfl rfl rfl trivial ?_
              refine LH_take (i := 5) rfl (fun h_ hI_ => Y_fieldAddr (off := 0) (by kernel_rfl) rfl rfl) rfl rfl rfl (by kernel_rfl) (by kernel_rfl) (by kernel_rfl) (fun _ _ _ => by rintro ⟨_, _, h_, _⟩; cases h_) trivial ?_
              refine LH_take (i := 6) rfl (fun h_ hI_ => Y_fieldAddr (off := 4) (by kernel_rfl) rfl rfl) rfl rfl rfl (by kernel_rfl) (by kernel_rfl) (by kernel_rfl) (fun _ _ _ => by rintro ⟨_, _, h_, _⟩; cases h_) trivial ?_
              refine LH_two (i := 4) (j := 7) (by kernel_rfl) ?_ ?_
              · refine LO_yld (i := 4) rfl (Y_ldblk Tryd.underlying28 rfl rfl (hk12.ext (hn13.ext.then' hp15.only (by simp) (Nat.le_refl _))) rfl) rfl rfl rfl trivial ?_
                refine LH_one (i := 7) (by kernel_rfl) ?_
                refine LO_dos (i := 7) rfl (D_store (us := [.int .i64 ((((at_nod L05 ((i : Int)).toNat).data).length : Int))]) (show _ = some 1 by kernel_rfl) rfl rfl rfl (by simp [Value.oneCell']) hk16 (by simp)) rfl rfl ?_
                rintro h13 hp27
                refine ⟨trivial, ?_⟩
                have hk28 : Blk h13 h6.size [.int .i64 ((at_nod L05 ((i : Int)).toNat).kind), str ((at_nod L05 ((i : Int)).toNat).path), .int .i64 ((at_nod L05 ((i : Int)).toNat).mode), str ((at_nod L05 ((i : Int)).toNat).target), .int .i64 ((((at_nod L05 ((i : Int)).toNat).data).length : Int)), .slice none 0 0] := hp27.blk
                refine LH_take (i := 8) rfl (fun h_ hI_ => Y_fieldAddr (off := 5) (by kernel_rfl) rfl rfl) rfl rfl rfl (by kernel_rfl) (by kernel_rfl) (by kernel_rfl) (fun _ _ _ => by rintro ⟨_, _, h_, _⟩; cases h_) trivial ?_
                refine LH_one (i := 9) (by kernel_rfl) ?_
                refine LO_dos (i := 9) rfl (D_store (us := [((at_nod L05 ((i : Int)).toNat).dv)]) (show _ = some 1 by kernel_rfl) rfl rfl (cells_slice (show Bytes _ ((at_nod L05 ((i : Int)).toNat).dv) ((at_nod L05 ((i : Int)).toNat).data) from (rowsN_onlyM hrC (Only.trans (Only.trans (Only.trans (Only.trans (Only.trans (Only.trans (Only.refl _ _) hxA (fun _ hb_ => .inl hb_)) hn9.ext (fun _ hb_ => by cases hb_)) hp11.only (fun b_ hb_ => .inr (by rw [List.mem_singleton.1 hb_]; exact hxA.size))) hn13.ext (fun _ hb_ => by cases hb_)) hp15.only (fun b_ hb_ => .inr (by rw [List.mem_singleton.1 hb_]; exact (Nat.le_trans (Nat.le_trans hxA.size hn9.ext.size) hp11.only.size)))) hp27.only (fun b_ hb_ => .inr (by rw [List.mem_singleton.1 hb_]; exact (Nat.le_trans (Nat.le_trans hxA.size hn9.ext.size) hp11.only.size)))) hmC).okat (k := ((i : Int)).toNat) (by omega))) (by intro u_ hu_; simp only [List.mem_cons, List.not_mem_nil, or_false] at hu_; rcases hu_ with rfl <;> first | rfl | exact ((show Bytes _ ((at_nod L05 ((i : Int)).toNat).dv) ((at_nod L05 ((i : Int)).toNat).data) from (rowsN_onlyM hrC (Only.trans (Only.trans (Only.trans (Only.trans (Only.trans (Only.trans (Only.refl _ _) hxA (fun _ hb_ => .inl hb_)) hn9.ext (fun _ hb_ => by cases hb_)) hp11.only (fun b_ hb_ => .inr (by rw [List.mem_singleton.1 hb_]; exact hxA.size))) hn13.ext (fun _ hb_ => by cases hb_)) hp15.only (fun b_ hb_ => .inr (by rw [List.mem_singleton.1 hb_]; exact (Nat.le_trans (Nat.le_trans hxA.size hn9.ext.size) hp11.only.size)))) hp27.only (fun b_ hb_ => .inr (by rw [List.mem_singleton.1 hb_]; exact (Nat.le_trans (Nat.le_trans hxA.size hn9.ext.size) hp11.only.size)))) hmC).okat (k := ((i : Int)).toNat) (by omega))).cell1) hk28 (by simp)) rfl rfl ?_
                rintro h14 hp29
                refine ⟨trivial, ?_⟩
                have hk30 : Blk h14 h6.size [.int .i64 ((at_nod L05 ((i : Int)).toNat).kind), str ((at_nod L05 ((i : Int)).toNat).path), .int .i64 ((at_nod L05 ((i : Int)).toNat).mode), str ((at_nod L05 ((i : Int)).toNat).target), .int .i64 ((((at_nod L05 ((i : Int)).toNat).data).length : Int)), ((at_nod L05 ((i : Int)).toNat).dv)] := hp29.blk
                refine LH_done (by kernel_rfl) ?_
                refine X_then ?_
                refine W_sub _ (.cons (i := 11) rfl (.cons (i := 10) rfl (.cons (i := 26) rfl (.cons (i := 7) rfl (.cons (i := 4) rfl (.cons (i := 3) rfl (.cons (i := 2) rfl (.cons (i := 0) rfl (.cons (i := 8) rfl (.cons (i := 25) rfl (.cons (i := 27) rfl (.nil _)))))))))))) ?_
                refine W_region ?_
                refine L_yld (Y_move rfl) rfl rfl rfl ?_
                refine L_yld (Y_fieldAddr (off := 5) (by kernel_rfl) rfl rfl) rfl rfl rfl ?_
                refine L_yld (Y_ldblk Tryd.underlying3 rfl rfl (hk12.ext (((hn13.ext.then' hp15.only (by simp) (Nat.le_refl _)).then' hp27.only (by simp) (Nat.le_refl _)).then' hp29.only (by simp) (Nat.le_refl _))) rfl) rfl rfl rfl ?_
                refine L_yld (Y_fieldAddr (off := 1) (by kernel_rfl) rfl rfl) rfl rfl rfl ?_
                refine L_yld (Y_ldblk Tryd.underlying9 rfl rfl (hk12.ext (((hn13.ext.then' hp15.only (by simp) (Nat.le_refl _)).then' hp27.only (by simp) (Nat.le_refl _)).then' hp29.only (by simp) (Nat.le_refl _))) rfl) rfl rfl rfl ?_
                refine L_dos (D_updA (evl := (fun l : List UInt8 => str l)) (k := (at_nod L05 ((i : Int)).toNat).cls) (v := (at_nod L05 ((i : Int)).toNat).path) keyI Tryd.underlying73 Tryd.underlying3 rfl rfl rfl (hmL.ext (((((hn9.ext.then' hp11.only (by simp) (Nat.le_refl _)).trans hn13.ext).then' hp15.only (by simp) (Nat.le_trans hn9.ext.size hp11.only.size)).then' hp27.only (by simp) (Nat.le_trans hn9.ext.size hp11.only.size)).then' hp29.only (by simp) (Nat.le_trans hn9.ext.size hp11.only.size)))) rfl rfl ?_
                rintro h15 ⟨hx31, -, hb32⟩
                refine L_nil ?_
                refine X_block ?_
                refine X_then ?_
                refine W_sub _ (.cons (i := 11) rfl (.cons (i := 26) rfl (.cons (i := 7) rfl (.cons (i := 4) rfl (.cons (i := 3) rfl (.cons (i := 2) rfl (.cons (i := 0) rfl (.cons (i := 8) rfl (.cons (i := 25) rfl (.cons (i := 27) rfl (.nil _))))))))))) ?_
                refine W_region ?_
                refine L_yld (Y_move rfl) rfl rfl rfl ?_
                have hc33 := (hk30.only hx31 (ni_gt (Nat.lt_of_lt_of_le hb3.lt (Nat.le_trans (Nat.le_trans (Nat.le_trans hx8.size hxA.size) hn9.ext.size) hp11.only.size))))
                refine L_yld (Y_ldbox (us := [.int .i64 ((at_nod L05 ((i : Int)).toNat).kind), str ((at_nod L05 ((i : Int)).toNat).path), .int .i64 ((at_nod L05 ((i : Int)).toNat).mode), str ((at_nod L05 ((i : Int)).toNat).target), .int .i64 ((((at_nod L05 ((i : Int)).toNat).data).length : Int)), ((at_nod L05 ((i : Int)).toNat).dv)]) Tryd.underlying30 rfl (show _ = some 6 by kernel_rfl) rfl hc33 rfl) rfl rfl rfl ?_
                refine L_mks (M_litr (S := memS) (l := ([⟨(at_nod L05 ((i : Int)).toNat).kind, (at_nod L05 ((i : Int)).toNat).path, (at_nod L05 ((i : Int)).toNat).mode, (at_nod L05 ((i : Int)).toNat).target, (((at_nod L05 ((i : Int)).toNat).data).length : Int), ((at_nod L05 ((i : Int)).toNat).dv), (at_nod L05 ((i : Int)).toNat).data⟩] : List Mem)) (cells := [.int .i64 ((at_nod L05 ((i : Int)).toNat).kind), str ((at_nod L05 ((i : Int)).toNat).path), .int .i64 ((at_nod L05 ((i : Int)).toNat).mode), str ((at_nod L05 ((i : Int)).toNat).target), .int .i64 ((((at_nod L05 ((i : Int)).toNat).data).length : Int)), ((at_nod L05 ((i : Int)).toNat).dv)]) (pv := [(0, .agg #[.int .i64 ((at_nod L05 ((i : Int)).toNat).kind), str ((at_nod L05 ((i : Int)).toNat).path), .int .i64 ((at_nod L05 ((i : Int)).toNat).mode), str ((at_nod L05 ((i : Int)).toNat).target), .int .i64 ((((at_nod L05 ((i : Int)).toNat).data).length : Int)), ((at_nod L05 ((i : Int)).toNat).dv)])]) (E := 30) (evp (is := [0]) (os := [.tmp 83]) (vs := [.agg #[.int .i64 ((at_nod L05 ((i : Int)).toNat).kind), str ((at_nod L05 ((i : Int)).toNat).path), .int .i64 ((at_nod L05 ((i : Int)).toNat).mode), str ((at_nod L05 ((i : Int)).toNat).target), .int .i64 ((((at_nod L05 ((i : Int)).toNat).data).length : Int)), ((at_nod L05 ((i : Int)).toNat).dv)]]) rfl rfl) rfl rfl (fun _ => by kernel_rfl) (by simp only [List.mem_cons, List.not_mem_nil, or_false, forall_eq_or_imp, forall_eq]; exact (show Bytes _ ((at_nod L05 ((i : Int)).toNat).dv) ((at_nod L05 ((i : Int)).toNat).data) from (rowsN_onlyM hrC (Only.trans (Only.trans (Only.trans (Only.trans (Only.trans (Only.trans (Only.trans (Only.trans (Only.refl _ _) hxA (fun _ hb_ => .inl hb_)) hn9.ext (fun _ hb_ => by cases hb_)) hp11.only (fun b_ hb_ => .inr (by rw [List.mem_singleton.1 hb_]; exact hxA.size))) hn13.ext (fun _ hb_ => by cases hb_)) hp15.only (fun b_ hb_ => .inr (by rw [List.mem_singleton.1 hb_]; exact (Nat.le_trans (Nat.le_trans hxA.size hn9.ext.size) hp11.only.size)))) hp27.only (fun b_ hb_ => .inr (by rw [List.mem_singleton.1 hb_]; exact (Nat.le_trans (Nat.le_trans hxA.size hn9.ext.size) hp11.only.size)))) hp29.only (fun b_ hb_ => .inr (by rw [List.mem_singleton.1 hb_]; exact (Nat.le_trans (Nat.le_trans hxA.size hn9.ext.size) hp11.only.size)))) hx31 (fun _ hb_ => .inl hb_)) hmC).okat (k := ((i : Int)).toNat) (by omega)))) rfl rfl rfl ?_
                rintro v34 h16 ⟨ho35, hx36⟩
                refine L_mks (M_apprG (z := 6) (bytes := 80) (z0 := (.agg #[.int .i64 0, str [], .int .i64 0, str [], .int .i64 0, .slice none 0 0])) Tryd.underlying22 (by unfold elemRow; kernel_rfl) rfl rfl (by decide) rfl rfl ((rowsO_onlyM (hoA.ext (((((hn9.ext.then' hp11.only (by simp) (Nat.le_refl _)).trans hn13.ext).then' hp15.only (by simp) (Nat.le_trans hn9.ext.size hp11.only.size)).then' hp27.only (by simp) (Nat.le_trans hn9.ext.size hp11.only.size)).then' hp29.only (by simp) (Nat.le_trans hn9.ext.size hp11.only.size))) hx31 (Nat.lt_of_lt_of_le hb3.lt hx8.size) (hmL.ext (((((hn9.ext.then' hp11.only (by simp) (Nat.le_refl _)).trans hn13.ext).then' hp15.only (by simp) (Nat.le_trans hn9.ext.size hp11.only.size)).then' hp27.only (by simp) (Nat.le_trans hn9.ext.size hp11.only.size)).then' hp29.only (by simp) (Nat.le_trans hn9.ext.size hp11.only.size)))).ext hx36) ho35.rows (Nat.le_trans (Nat.le_trans (Nat.le_trans (Nat.le_trans (Nat.le_trans (Nat.le_trans (Nat.le_trans (Nat.le_trans hxA.size hn9.ext.size) hp11.only.size) hn13.ext.size) hp15.only.size) hp27.only.size) hp29.only.size) hx31.size) hx36.size) (by first | (simp; omega) | (simp; done) | omega) (fun h' y hge x hx => okM_onlyM ((List.mem_append.1 hx).elim (hkA x) (fun q => by rw [List.mem_singleton.1 q]; exact hrC.2 _ (can_mem (k := i) (by omega)))) (only_app (Only.trans (Only.trans (Only.trans (Only.trans (Only.trans (Only.trans (Only.trans (Only.trans (Only.trans (Only.refl _ _) hxA (fun _ hb_ => .inl hb_)) hn9.ext (fun _ hb_ => by cases hb_)) hp11.only (fun b_ hb_ => .inr (by rw [List.mem_singleton.1 hb_]; exact hxA.size))) hn13.ext (fun _ hb_ => by cases hb_)) hp15.only (fun b_ hb_ => .inr (by rw [List.mem_singleton.1 hb_]; exact (Nat.le_trans (Nat.le_trans hxA.size hn9.ext.size) hp11.only.size)))) hp27.only (fun b_ hb_ => .inr (by rw [List.mem_singleton.1 hb_]; exact (Nat.le_trans (Nat.le_trans hxA.size hn9.ext.size) hp11.only.size)))) hp29.only (fun b_ hb_ => .inr (by rw [List.mem_singleton.1 hb_]; exact (Nat.le_trans (Nat.le_trans hxA.size hn9.ext.size) hp11.only.size)))) hx31 (fun _ hb_ => .inl hb_)) hx36 (fun _ hb_ => by cases hb_)) y hge) hmC)) rfl rfl rfl ?_
                rintro v37 h17 ⟨ha38, ha38l⟩
                refine L_yld (Y_assign rfl) rfl rfl rfl ?_
                refine L_nil ?_
                refine X_block ?_
                refine X_then ?_
                refine W_sub _ (.cons (i := 8) rfl (.cons (i := 26) rfl (.cons (i := 7) rfl (.cons (i := 4) rfl (.cons (i := 3) rfl (.cons (i := 2) rfl (.cons (i := 0) rfl (.cons (i := 25) rfl (.cons (i := 27) rfl (.nil _)))))))))) ?_
                refine W_region ?_
                refine L_yld (Y_add rfl rfl (by omega) (by omega)) rfl rfl rfl ?_
                refine L_yld (Y_move rfl) rfl rfl rfl ?_
                refine L_nil ?_
                refine X_loop ((i + 1, v37)) (.cons (i := 26) rfl (.cons (i := 7) rfl (.cons (i := 4) rfl (.cons (i := 3) rfl (.cons (i := 2) rfl (.cons (i := 0) rfl (.cons (i := 8) rfl (.cons (i := 25) rfl (.cons (i := 27) rfl (.nil _)))))))))) ?_ ?_
                have hc39 := ((hb32.ext hx36).only ha38.only (fun hb_ => Nat.lt_irrefl _ (Nat.lt_of_lt_of_le (Nat.lt_of_lt_of_le hb3.lt hx8.size) (ha38.ge _ hb_))))
                · exact ⟨by omega, mms_ok hkA (hrC.2 _ (can_mem (by omega))), (Only.trans (Only.trans (Only.trans (Only.trans (Only.trans (Only.trans (Only.trans (Only.trans (Only.trans (Only.trans (Only.refl _ _) hxA (fun _ hb_ => .inl hb_)) hn9.ext (fun _ hb_ => by cases hb_)) hp11.only (fun b_ hb_ => .inr (by rw [List.mem_singleton.1 hb_]; exact hxA.size))) hn13.ext (fun _ hb_ => by cases hb_)) hp15.only (fun b_ hb_ => .inr (by rw [List.mem_singleton.1 hb_]; exact (Nat.le_trans (Nat.le_trans hxA.size hn9.ext.size) hp11.only.size)))) hp27.only (fun b_ hb_ => .inr (by rw [List.mem_singleton.1 hb_]; exact (Nat.le_trans (Nat.le_trans hxA.size hn9.ext.size) hp11.only.size)))) hp29.only (fun b_ hb_ => .inr (by rw [List.mem_singleton.1 hb_]; exact (Nat.le_trans (Nat.le_trans hxA.size hn9.ext.size) hp11.only.size)))) hx31 (fun _ hb_ => .inl hb_)) hx36 (fun _ hb_ => by cases hb_)) ha38.only (fun b_ hb_ => .inr (Nat.le_trans (Nat.le_refl _) (ha38.ge b_ hb_)))), rowsO_congr ha38.own (mms_f a b).1, MapA.congr hc39 (mms_f a b).2⟩
                · (try dsimp only)
                  omega
              · refine LO_dos (i := 7) rfl (D_store (us := [.int .i64 ((((at_nod L05 ((i : Int)).toNat).data).length : Int))]) (show _ = some 1 by kernel_rfl) rfl rfl rfl (by simp [Value.oneCell']) hk16 (by simp)) rfl rfl ?_
                rintro h18 hp40
                refine ⟨trivial, ?_⟩
                have hk41 : Blk h18 h6.size [.int .i64 ((at_nod L05 ((i : Int)).toNat).kind), str ((at_nod L05 ((i : Int)).toNat).path), .int .i64 ((at_nod L05 ((i : Int)).toNat).mode), str ((at_nod L05 ((i : Int)).toNat).target), .int .i64 ((((at_nod L05 ((i : Int)).toNat).data).length : Int)), .slice none 0 0] := hp40.blk
                refine LH_one (i := 4) (by kernel_rfl) ?_
                refine LO_yld (i := 4) rfl (Y_ldblk Tryd.underlying28 rfl rfl (hk12.ext ((hn13.ext.then' hp15.only (by simp) (Nat.le_refl _)).then' hp40.only (by simp) (Nat.le_refl _))) rfl) rfl rfl rfl trivial ?_
                refine LH_take (i := 8) rfl (fun h_ hI_ => Y_fieldAddr (off := 5) (by kernel_rfl) rfl rfl) rfl rfl rfl (by kernel_rfl) (by kernel_rfl) (by kernel_rfl) (fun _ _ _ => by rintro ⟨_, _, h_, _⟩; cases h_) trivial ?_
                refine LH_one (i := 9) (by kernel_rfl) ?_
                refine LO_dos (i := 9) rfl (D_store (us := [((at_nod L05 ((i : Int)).toNat).dv)]) (show _ = some 1 by kernel_rfl) rfl rfl (cells_slice (show Bytes _ ((at_nod L05 ((i : Int)).toNat).dv) ((at_nod L05 ((i : Int)).toNat).data) from (rowsN_onlyM hrC (Only.trans (Only.trans (Only.trans (Only.trans (Only.trans (Only.trans (Only.refl _ _) hxA (fun _ hb_ => .inl hb_)) hn9.ext (fun _ hb_ => by cases hb_)) hp11.only (fun b_ hb_ => .inr (by rw [List.mem_singleton.1 hb_]; exact hxA.size))) hn13.ext (fun _ hb_ => by cases hb_)) hp15.only (fun b_ hb_ => .inr (by rw [List.mem_singleton.1 hb_]; exact (Nat.le_trans (Nat.le_trans hxA.size hn9.ext.size) hp11.only.size)))) hp40.only (fun b_ hb_ => .inr (by rw [List.mem_singleton.1 hb_]; exact (Nat.le_trans (Nat.le_trans hxA.size hn9.ext.size) hp11.only.size)))) hmC).okat (k := ((i : Int)).toNat) (by omega))) (by intro u_ hu_; simp only [List.mem_cons, List.not_mem_nil, or_false] at hu_; rcases hu_ with rfl <;> first | rfl | exact ((show Bytes _ ((at_nod L05 ((i : Int)).toNat).dv) ((at_nod L05 ((i : Int)).toNat).data) from (rowsN_onlyM hrC (Only.trans (Only.trans (Only.trans (Only.trans (Only.trans (Only.trans (Only.refl _ _) hxA (fun _ hb_ => .inl hb_)) hn9.ext (fun _ hb_ => by cases hb_)) hp11.only (fun b_ hb_ => .inr (by rw [List.mem_singleton.1 hb_]; exact hxA.size))) hn13.ext (fun _ hb_ => by cases hb_)) hp15.only (fun b_ hb_ => .inr (by rw [List.mem_singleton.1 hb_]; exact (Nat.le_trans (Nat.le_trans hxA.size hn9.ext.size) hp11.only.size)))) hp40.only (fun b_ hb_ => .inr (by rw [List.mem_singleton.1 hb_]; exact (Nat.le_trans (Nat.le_trans hxA.size hn9.ext.size) hp11.only.size)))) hmC).okat (k := ((i : Int)).toNat) (by omega))).cell1) hk41 (by simp)) rfl rfl ?_
                rintro h19 hp42
                refine ⟨trivial, ?_⟩
                have hk43 : Blk h19 h6.size [.int .i64 ((at_nod L05 ((i : Int)).toNat).kind), str ((at_nod L05 ((i : Int)).toNat).path), .int .i64 ((at_nod L05 ((i : Int)).toNat).mode), str ((at_nod L05 ((i : Int)).toNat).target), .int .i64 ((((at_nod L05 ((i : Int)).toNat).data).length : Int)), ((at_nod L05 ((i : Int)).toNat).dv)] := hp42.blk
                refine LH_done (by kernel_rfl) ?_
                refine X_then ?_
                refine W_sub _ (.cons (i := 11) rfl (.cons (i := 10) rfl (.cons (i := 26) rfl (.cons (i := 7) rfl (.cons (i := 4) rfl (.cons (i := 3) rfl (.cons (i := 2) rfl (.cons (i := 0) rfl (.cons (i := 8) rfl (.cons (i := 25) rfl (.cons (i := 27) rfl (.nil _)))))))))))) ?_
                refine W_region ?_
                refine L_yld (Y_move rfl) rfl rfl rfl ?_
                refine L_yld (Y_fieldAddr (off := 5) (by kernel_rfl) rfl rfl) rfl rfl rfl ?_
                refine L_yld (Y_ldblk Tryd.underlying3 rfl rfl (hk12.ext (((hn13.ext.then' hp15.only (by simp) (Nat.le_refl _)).then' hp40.only (by simp) (Nat.le_refl _)).then' hp42.only (by simp) (Nat.le_refl _))) rfl) rfl rfl rfl ?_
                refine L_yld (Y_fieldAddr (off := 1) (by kernel_rfl) rfl rfl) rfl rfl rfl ?_
                refine L_yld (Y_ldblk Tryd.underlying9 rfl rfl (hk12.ext (((hn13.ext.then' hp15.only (by simp) (Nat.le_refl _)).then' hp40.only (by simp) (Nat.le_refl _)).then' hp42.only (by simp) (Nat.le_refl _))) rfl) rfl rfl rfl ?_
                refine L_dos (D_updA (evl := (fun l : List UInt8 => str l)) (k := (at_nod L05 ((i : Int)).toNat).cls) (v := (at_nod L05 ((i : Int)).toNat).path) keyI Tryd.underlying73 Tryd.underlying3 rfl rfl rfl (hmL.ext (((((hn9.ext.then' hp11.only (by simp) (Nat.le_refl _)).trans hn13.ext).then' hp15.only (by simp) (Nat.le_trans hn9.ext.size hp11.only.size)).then' hp40.only (by simp) (Nat.le_trans hn9.ext.size hp11.only.size)).then' hp42.only (by simp) (Nat.le_trans hn9.ext.size hp11.only.size)))) rfl rfl ?_
                rintro h20 ⟨hx44, -, hb45⟩
                refine L_nil ?_
                refine X_block ?_
                refine X_then ?_
                refine W_sub _ (.cons (i := 11) rfl (.cons (i := 26) rfl (.cons (i := 7) rfl (.cons (i := 4) rfl (.cons (i := 3) rfl (.cons (i := 2) rfl (.cons (i := 0) rfl (.cons (i := 8) rfl (.cons (i := 25) rfl (.cons (i := 27) rfl (.nil _))))))))))) ?_
                refine W_region ?_
                refine L_yld (Y_move rfl) rfl rfl rfl ?_
                have hc46 := (hk43.only hx44 (ni_gt (Nat.lt_of_lt_of_le hb3.lt (Nat.le_trans (Nat.le_trans (Nat.le_trans hx8.size hxA.size) hn9.ext.size) hp11.only.size))))
                refine L_yld (Y_ldbox (us := [.int .i64 ((at_nod L05 ((i : Int)).toNat).kind), str ((at_nod L05 ((i : Int)).toNat).path), .int .i64 ((at_nod L05 ((i : Int)).toNat).mode), str ((at_nod L05 ((i : Int)).toNat).target), .int .i64 ((((at_nod L05 ((i : Int)).toNat).data).length : Int)), ((at_nod L05 ((i : Int)).toNat).dv)]) Tryd.underlying30 rfl (show _ = some 6 by kernel_rfl) rfl hc46 rfl) rfl rfl rfl ?_
                refine L_mks (M_litr (S := memS) (l := ([⟨(at_nod L05 ((i : Int)).toNat).kind, (at_nod L05 ((i : Int)).toNat).path, (at_nod L05 ((i : Int)).toNat).mode, (at_nod L05 ((i : Int)).toNat).target, (((at_nod L05 ((i : Int)).toNat).data).length : Int), ((at_nod L05 ((i : Int)).toNat).dv), (at_nod L05 ((i : Int)).toNat).data⟩] : List Mem)) (cells := [.int .i64 ((at_nod L05 ((i : Int)).toNat).kind), str ((at_nod L05 ((i : Int)).toNat).path), .int .i64 ((at_nod L05 ((i : Int)).toNat).mode), str ((at_nod L05 ((i : Int)).toNat).target), .int .i64 ((((at_nod L05 ((i : Int)).toNat).data).length : Int)), ((at_nod L05 ((i : Int)).toNat).dv)]) (pv := [(0, .agg #[.int .i64 ((at_nod L05 ((i : Int)).toNat).kind), str ((at_nod L05 ((i : Int)).toNat).path), .int .i64 ((at_nod L05 ((i : Int)).toNat).mode), str ((at_nod L05 ((i : Int)).toNat).target), .int .i64 ((((at_nod L05 ((i : Int)).toNat).data).length : Int)), ((at_nod L05 ((i : Int)).toNat).dv)])]) (E := 30) (evp (is := [0]) (os := [.tmp 83]) (vs := [.agg #[.int .i64 ((at_nod L05 ((i : Int)).toNat).kind), str ((at_nod L05 ((i : Int)).toNat).path), .int .i64 ((at_nod L05 ((i : Int)).toNat).mode), str ((at_nod L05 ((i : Int)).toNat).target), .int .i64 ((((at_nod L05 ((i : Int)).toNat).data).length : Int)), ((at_nod L05 ((i : Int)).toNat).dv)]]) rfl rfl) rfl rfl (fun _ => by kernel_rfl) (by simp only [List.mem_cons, List.not_mem_nil, or_false, forall_eq_or_imp, forall_eq]; exact (show Bytes _ ((at_nod L05 ((i : Int)).toNat).dv) ((at_nod L05 ((i : Int)).toNat).data) from (rowsN_onlyM hrC (Only.trans (Only.trans (Only.trans (Only.trans (Only.trans (Only.trans (Only.trans (Only.trans (Only.refl _ _) hxA (fun _ hb_ => .inl hb_)) hn9.ext (fun _ hb_ => by cases hb_)) hp11.only (fun b_ hb_ => .inr (by rw [List.mem_singleton.1 hb_]; exact hxA.size))) hn13.ext (fun _ hb_ => by cases hb_)) hp15.only (fun b_ hb_ => .inr (by rw [List.mem_singleton.1 hb_]; exact (Nat.le_trans (Nat.le_trans hxA.size hn9.ext.size) hp11.only.size)))) hp40.only (fun b_ hb_ => .inr (by rw [List.mem_singleton.1 hb_]; exact (Nat.le_trans (Nat.le_trans hxA.size hn9.ext.size) hp11.only.size)))) hp42.only (fun b_ hb_ => .inr (by rw [List.mem_singleton.1 hb_]; exact (Nat.le_trans (Nat.le_trans hxA.size hn9.ext.size) hp11.only.size)))) hx44 (fun _ hb_ => .inl hb_)) hmC).okat (k := ((i : Int)).toNat) (by omega)))) rfl rfl rfl ?_
                rintro v47 h21 ⟨ho48, hx49⟩
                refine L_mks (M_apprG (z := 6) (bytes := 80) (z0 := (.agg #[.int .i64 0, str [], .int .i64 0, str [], .int .i64 0, .slice none 0 0])) Tryd.underlying22 (by unfold elemRow; kernel_rfl) rfl rfl (by decide) rfl rfl ((rowsO_onlyM (hoA.ext (((((hn9.ext.then' hp11.only (by simp) (Nat.le_refl _)).trans hn13.ext).then' hp15.only (by simp) (Nat.le_trans hn9.ext.size hp11.only.size)).then' hp40.only (by simp) (Nat.le_trans hn9.ext.size hp11.only.size)).then' hp42.only (by simp) (Nat.le_trans hn9.ext.size hp11.only.size))) hx44 (Nat.lt_of_lt_of_le hb3.lt hx8.size) (hmL.ext (((((hn9.ext.then' hp11.only (by simp) (Nat.le_refl _)).trans hn13.ext).then' hp15.only (by simp) (Nat.le_trans hn9.ext.size hp11.only.size)).then' hp40.only (by simp) (Nat.le_trans hn9.ext.size hp11.only.size)).then' hp42.only (by simp) (Nat.le_trans hn9.ext.size hp11.only.size)))).ext hx49) ho48.rows (Nat.le_trans (Nat.le_trans (Nat.le_trans (Nat.le_trans (Nat.le_trans (Nat.le_trans (Nat.le_trans (Nat.le_trans hxA.size hn9.ext.size) hp11.only.size) hn13.ext.size) hp15.only.size) hp40.only.size) hp42.only.size) hx44.size) hx49.size) (by first | (simp; omega) | (simp; done) | omega) (fun h' y hge x hx => okM_onlyM ((List.mem_append.1 hx).elim (hkA x) (fun q => by rw [List.mem_singleton.1 q]; exact hrC.2 _ (can_mem (k := i) (by omega)))) (only_app (Only.trans (Only.trans (Only.trans (Only.trans (Only.trans (Only.trans (Only.trans (Only.trans (Only.trans (Only.refl _ _) hxA (fun _ hb_ => .inl hb_)) hn9.ext (fun _ hb_ => by cases hb_)) hp11.only (fun b_ hb_ => .inr (by rw [List.mem_singleton.1 hb_]; exact hxA.size))) hn13.ext (fun _ hb_ => by cases hb_)) hp15.only (fun b_ hb_ => .inr (by rw [List.mem_singleton.1 hb_]; exact (Nat.le_trans (Nat.le_trans hxA.size hn9.ext.size) hp11.only.size)))) hp40.only (fun b_ hb_ => .inr (by rw [List.mem_singleton.1 hb_]; exact (Nat.le_trans (Nat.le_trans hxA.size hn9.ext.size) hp11.only.size)))) hp42.only (fun b_ hb_ => .inr (by rw [List.mem_singleton.1 hb_]; exact (Nat.le_trans (Nat.le_trans hxA.size hn9.ext.size) hp11.only.size)))) hx44 (fun _ hb_ => .inl hb_)) hx49 (fun _ hb_ => by cases hb_)) y hge) hmC)) rfl rfl rfl ?_
                rintro v50 h22 ⟨ha51, ha51l⟩
                refine L_yld (Y_assign rfl) rfl rfl rfl ?_
                refine L_nil ?_
                refine X_block ?_
                refine X_then ?_
                refine W_sub _ (.cons (i := 8) rfl (.cons (i := 26) rfl (.cons (i := 7) rfl (.cons (i := 4) rfl (.cons (i := 3) rfl (.cons (i := 2) rfl (.cons (i := 0) rfl (.cons (i := 25) rfl (.cons (i := 27) rfl (.nil _)))))))))) ?_
                refine W_region ?_
                refine L_yld (Y_add rfl rfl (by omega) (by omega)) rfl rfl rfl ?_
                refine L_yld (Y_move rfl) rfl rfl rfl ?_
                refine L_nil ?_
                refine X_loop ((i + 1, v50)) (.cons (i := 26) rfl (.cons (i := 7) rfl (.cons (i := 4) rfl (.cons (i := 3) rfl (.cons (i := 2) rfl (.cons (i := 0) rfl (.cons (i := 8) rfl (.cons (i := 25) rfl (.cons (i := 27) rfl (.nil _)))))))))) ?_ ?_
                have hc52 := ((hb45.ext hx49).only ha51.only (fun hb_ => Nat.lt_irrefl _ (Nat.lt_of_lt_of_le (Nat.lt_of_lt_of_le hb3.lt hx8.size) (ha51.ge _ hb_))))
                · exact ⟨by omega, mms_ok hkA (hrC.2 _ (can_mem (by omega))), (Only.trans (Only.trans (Only.trans (Only.trans (Only.trans (Only.trans (Only.trans (Only.trans (Only.trans (Only.trans (Only.refl _ _) hxA (fun _ hb_ => .inl hb_)) hn9.ext (fun _ hb_ => by cases hb_)) hp11.only (fun b_ hb_ => .inr (by rw [List.mem_singleton.1 hb_]; exact hxA.size))) hn13.ext (fun _ hb_ => by cases hb_)) hp15.only (fun b_ hb_ => .inr (by rw [List.mem_singleton.1 hb_]; exact (Nat.le_trans (Nat.le_trans hxA.size hn9.ext.size) hp11.only.size)))) hp40.only (fun b_ hb_ => .inr (by rw [List.mem_singleton.1 hb_]; exact (Nat.le_trans (Nat.le_trans hxA.size hn9.ext.size) hp11.only.size)))) hp42.only (fun b_ hb_ => .inr (by rw [List.mem_singleton.1 hb_]; exact (Nat.le_trans (Nat.le_trans hxA.size hn9.ext.size) hp11.only.size)))) hx44 (fun _ hb_ => .inl hb_)) hx49 (fun _ hb_ => by cases hb_)) ha51.only (fun b_ hb_ => .inr (Nat.le_trans (Nat.le_refl _) (ha51.ge b_ hb_)))), rowsO_congr ha51.own (mms_f a b).1, MapA.congr hc52 (mms_f a b).2⟩
                · (try dsimp only)
                  omega
            · refine LO_yld (i := 4) rfl (Y_ldblk Tryd.underlying28 rfl rfl (hk12.ext (hn13.ext.then' hp15.only (by simp) (Nat.le_refl _))) rfl) rfl rfl rfl trivial ?_
              refine LH_one (i := 2) (by kernel_rfl) ?_
              refine LO_yld (i := 2) rfl (Y_len Tryd.underlying28 rfl (show Bytes _ ((at_nod L05 ((i : Int)).toNat).dv) ((at_nod L05 ((i : Int)).toNat).data) from (rowsN_onlyM hrC (Only.trans (Only.trans (Only.trans (Only.trans (Only.trans (Only.refl _ _) hxA (fun _ hb_ => .inl hb_)) hn9.ext (fun _ hb_ => by cases hb_)) hp11.only (fun b_ hb_ => .inr (by rw [List.mem_singleton.1 hb_]; exact hxA.size))) hn13.ext (fun _ hb_ => by cases hb_)) hp15.only (fun b_ hb_ => .inr (by rw [List.mem_singleton.1 hb_]; exact (Nat.le_trans (Nat.le_trans hxA.size hn9.ext.size) hp11.only.size)))) hmC).okat (k := ((i : Int)).toNat) (by omega))) rfl rfl rfl trivial ?_
              refine LH_take (i := 5) rfl (fun h_ hI_ => Y_fieldAddr (off := 0) (by kernel_rfl) rfl rfl) rfl rfl rfl (by kernel_rfl) (by kernel_rfl) (by kernel_rfl) (fun _ _ _ => by rintro ⟨_, _, h_, _⟩; cases h_) trivial ?_
              refine LH_take (i := 6) rfl (fun h_ hI_ => Y_fieldAddr (off := 4) (by kernel_rfl) rfl rfl) rfl rfl rfl (by kernel_rfl) (by kernel_rfl) (by kernel_rfl) (fun _ _ _ => by rintro ⟨_, _, h_, _⟩; cases h_) trivial ?_
              refine LH_one (i := 7) (by kernel_rfl) ?_
              refine LO_dos (i := 7) rfl (D_store (us := [.int .i64 ((((at_nod L05 ((i : Int)).toNat).data).length : Int))]) (show _ = some 1 by kernel_rfl) rfl rfl rfl (by simp [Value.oneCell']) hk16 (by simp)) rfl rfl ?_
              rintro h23 hp53
              refine ⟨trivial, ?_⟩
              have hk54 : Blk h23 h6.size [.int .i64 ((at_nod L05 ((i : Int)).toNat).kind), str ((at_nod L05 ((i : Int)).toNat).path), .int .i64 ((at_nod L05 ((i : Int)).toNat).mode), str ((at_nod L05 ((i : Int)).toNat).target), .int .i64 ((((at_nod L05 ((i : Int)).toNat).data).length : Int)), .slice none 0 0] := hp53.blk
              refine LH_take (i := 8) rfl (fun h_ hI_ => Y_fieldAddr (off := 5) (by kernel_rfl) rfl rfl) rfl rfl rfl (by kernel_rfl) (by kernel_rfl) (by kernel_rfl) (fun _ _ _ => by rintro ⟨_, _, h_, _⟩; cases h_) trivial ?_
              refine LH_one (i := 9) (by kernel_rfl) ?_
              refine LO_dos (i := 9) rfl (D_store (us := [((at_nod L05 ((i : Int)).toNat).dv)]) (show _ = some 1 by kernel_rfl) rfl rfl (cells_slice (show Bytes _ ((at_nod L05 ((i : Int)).toNat).dv) ((at_nod L05 ((i : Int)).toNat).data) from (rowsN_onlyM hrC (Only.trans (Only.trans (Only.trans (Only.trans (Only.trans (Only.trans (Only.refl _ _) hxA (fun _ hb_ => .inl hb_)) hn9.ext (fun _ hb_ => by cases hb_)) hp11.only (fun b_ hb_ => .inr (by rw [List.mem_singleton.1 hb_]; exact hxA.size))) hn13.ext (fun _ hb_ => by cases hb_)) hp15.only (fun b_ hb_ => .inr (by rw [List.mem_singleton.1 hb_]; exact (Nat.le_trans (Nat.le_trans hxA.size hn9.ext.size) hp11.only.size)))) hp53.only (fun b_ hb_ => .inr (by rw [List.mem_singleton.1 hb_]; exact (Nat.le_trans (Nat.le_trans hxA.size hn9.ext.size) hp11.only.size)))) hmC).okat (k := ((i : Int)).toNat) (by omega))) (by intro u_ hu_; simp only [List.mem_cons, List.not_mem_nil, or_false] at hu_; rcases hu_ with rfl <;> first | rfl | exact ((show Bytes _ ((at_nod L05 ((i : Int)).toNat).dv) ((at_nod L05 ((i : Int)).toNat).data) from (rowsN_onlyM hrC (Only.trans (Only.trans (Only.trans (Only.trans (Only.trans (Only.trans (Only.refl _ _) hxA (fun _ hb_ => .inl hb_)) hn9.ext (fun _ hb_ => by cases hb_)) hp11.only (fun b_ hb_ => .inr (by rw [List.mem_singleton.1 hb_]; exact hxA.size))) hn13.ext (fun _ hb_ => by cases hb_)) hp15.only (fun b_ hb_ => .inr (by rw [List.mem_singleton.1 hb_]; exact (Nat.le_trans (Nat.le_trans hxA.size hn9.ext.size) hp11.only.size)))) hp53.only (fun b_ hb_ => .inr (by rw [List.mem_singleton.1 hb_]; exact (Nat.le_trans (Nat.le_trans hxA.size hn9.ext.size) hp11.only.size)))) hmC).okat (k := ((i : Int)).toNat) (by omega))).cell1) hk54 (by simp)) rfl rfl ?_
              rintro h24 hp55
              refine ⟨trivial, ?_⟩
              have hk56 : Blk h24 h6.size [.int .i64 ((at_nod L05 ((i : Int)).toNat).kind), str ((at_nod L05 ((i : Int)).toNat).path), .int .i64 ((at_nod L05 ((i : Int)).toNat).mode), str ((at_nod L05 ((i : Int)).toNat).target), .int .i64 ((((at_nod L05 ((i : Int)).toNat).data).length : Int)), ((at_nod L05 ((i : Int)).toNat).dv)] := hp55.blk
              refine LH_done (by kernel_rfl) ?_
              refine X_then ?_
              refine W_sub _ (.cons (i := 11) rfl (.cons (i := 10) rfl (.cons (i := 26) rfl (.cons (i := 7) rfl (.cons (i := 4) rfl (.cons (i := 3) rfl (.cons (i := 2) rfl (.cons (i := 0) rfl (.cons (i := 8) rfl (.cons (i := 25) rfl (.cons (i := 27) rfl (.nil _)))))))))))) ?_
              refine W_region ?_
              refine L_yld (Y_move rfl) rfl rfl rfl ?_
              refine L_yld (Y_fieldAddr (off := 5) (by kernel_rfl) rfl rfl) rfl rfl rfl ?_
              refine L_yld (Y_ldblk Tryd.underlying3 rfl rfl (hk12.ext (((hn13.ext.then' hp15.only (by simp) (Nat.le_refl _)).then' hp53.only (by simp) (Nat.le_refl _)).then' hp55.only (by simp) (Nat.le_refl _))) rfl) rfl rfl rfl ?_
              refine L_yld (Y_fieldAddr (off := 1) (by kernel_rfl) rfl rfl) rfl rfl rfl ?_
              refine L_yld (Y_ldblk Tryd.underlying9 rfl rfl (hk12.ext (((hn13.ext.then' hp15.only (by simp) (Nat.le_refl _)).then' hp53.only (by simp) (Nat.le_refl _)).then' hp55.only (by simp) (Nat.le_refl _))) rfl) rfl rfl rfl ?_
              refine L_dos (D_updA (evl := (fun l : List UInt8 => str l)) (k := (at_nod L05 ((i : Int)).toNat).cls) (v := (at_nod L05 ((i : Int)).toNat).path) keyI Tryd.underlying73 Tryd.underlying3 rfl rfl rfl (hmL.ext (((((hn9.ext.then' hp11.only (by simp) (Nat.le_refl _)).trans hn13.ext).then' hp15.only (by simp) (Nat.le_trans hn9.ext.size hp11.only.size)).then' hp53.only (by simp) (Nat.le_trans hn9.ext.size hp11.only.size)).then' hp55.only (by simp) (Nat.le_trans hn9.ext.size hp11.only.size)))) rfl rfl ?_
              rintro h25 ⟨hx57, -, hb58⟩
              refine L_nil ?_
              refine X_block ?_
              refine X_then ?_
              refine W_sub _ (.cons (i := 11) rfl (.cons (i := 26) rfl (.cons (i := 7) rfl (.cons (i := 4) rfl (.cons (i := 3) rfl (.cons (i := 2) rfl (.cons (i := 0) rfl (.cons (i := 8) rfl (.cons (i := 25) rfl (.cons (i := 27) rfl (.nil _))))))))))) ?_
              refine W_region ?_
              refine L_yld (Y_move rfl) rfl rfl rfl ?_
              have hc59 := (hk56.only hx57 (ni_gt (Nat.lt_of_lt_of_le hb3.lt (Nat.le_trans (Nat.le_trans (Nat.le_trans hx8.size hxA.size) hn9.ext.size) hp11.only.size))))
              refine L_yld (Y_ldbox (us := [.int .i64 ((at_nod L05 ((i : Int)).toNat).kind), str ((at_nod L05 ((i : Int)).toNat).path), .int .i64 ((at_nod L05 ((i : Int)).toNat).mode), str ((at_nod L05 ((i : Int)).toNat).target), .int .i64 ((((at_nod L05 ((i : Int)).toNat).data).length : Int)), ((at_nod L05 ((i : Int)).toNat).dv)]) Tryd.underlying30 rfl (show _ = some 6 by kernel_rfl) rfl hc59 rfl) rfl rfl rfl ?_
              refine L_mks (M_litr (S := memS) (l := ([⟨(at_nod L05 ((i : Int)).toNat).kind, (at_nod L05 ((i : Int)).toNat).path, (at_nod L05 ((i : Int)).toNat).mode, (at_nod L05 ((i : Int)).toNat).target, (((at_nod L05 ((i : Int)).toNat).data).length : Int), ((at_nod L05 ((i : Int)).toNat).dv), (at_nod L05 ((i : Int)).toNat).data⟩] : List Mem)) (cells := [.int .i64 ((at_nod L05 ((i : Int)).toNat).kind), str ((at_nod L05 ((i : Int)).toNat).path), .int .i64 ((at_nod L05 ((i : Int)).toNat).mode), str ((at_nod L05 ((i : Int)).toNat).target), .int .i64 ((((at_nod L05 ((i : Int)).toNat).data).length : Int)), ((at_nod L05 ((i : Int)).toNat).dv)]) (pv := [(0, .agg #[.int .i64 ((at_nod L05 ((i : Int)).toNat).kind), str ((at_nod L05 ((i : Int)).toNat).path), .int .i64 ((at_nod L05 ((i : Int)).toNat).mode), str ((at_nod L05 ((i : Int)).toNat).target), .int .i64 ((((at_nod L05 ((i : Int)).toNat).data).length : Int)), ((at_nod L05 ((i : Int)).toNat).dv)])]) (E := 30) (evp (is := [0]) (os := [.tmp 83]) (vs := [.agg #[.int .i64 ((at_nod L05 ((i : Int)).toNat).kind), str ((at_nod L05 ((i : Int)).toNat).path), .int .i64 ((at_nod L05 ((i : Int)).toNat).mode), str ((at_nod L05 ((i : Int)).toNat).target), .int .i64 ((((at_nod L05 ((i : Int)).toNat).data).length : Int)), ((at_nod L05 ((i : Int)).toNat).dv)]]) rfl rfl) rfl rfl (fun _ => by kernel_rfl) (by simp only [List.mem_cons, List.not_mem_nil, or_false, forall_eq_or_imp, forall_eq]; exact (show Bytes _ ((at_nod L05 ((i : Int)).toNat).dv) ((at_nod L05 ((i : Int)).toNat).data) from (rowsN_onlyM hrC (Only.trans (Only.trans (Only.trans (Only.trans (Only.trans (Only.trans (Only.trans (Only.trans (Only.refl _ _) hxA (fun _ hb_ => .inl hb_)) hn9.ext (fun _ hb_ => by cases hb_)) hp11.only (fun b_ hb_ => .inr (by rw [List.mem_singleton.1 hb_]; exact hxA.size))) hn13.ext (fun _ hb_ => by cases hb_)) hp15.only (fun b_ hb_ => .inr (by rw [List.mem_singleton.1 hb_]; exact (Nat.le_trans (Nat.le_trans hxA.size hn9.ext.size) hp11.only.size)))) hp53.only (fun b_ hb_ => .inr (by rw [List.mem_singleton.1 hb_]; exact (Nat.le_trans (Nat.le_trans hxA.size hn9.ext.size) hp11.only.size)))) hp55.only (fun b_ hb_ => .inr (by rw [List.mem_singleton.1 hb_]; exact (Nat.le_trans (Nat.le_trans hxA.size hn9.ext.size) hp11.only.size)))) hx57 (fun _ hb_ => .inl hb_)) hmC).okat (k := ((i : Int)).toNat) (by omega)))) rfl rfl rfl ?_
              rintro v60 h26 ⟨ho61, hx62⟩
              refine L_mks (M_apprG (z := 6) (bytes := 80) (z0 := (.agg #[.int .i64 0, str [], .int .i64 0, str [], .int .i64 0, .slice none 0 0])) Tryd.underlying22 (by unfold elemRow; kernel_rfl) rfl rfl (by decide) rfl rfl ((rowsO_onlyM (hoA.ext (((((hn9.ext.then' hp11.only (by simp) (Nat.le_refl _)).trans hn13.ext).then' hp15.only (by simp) (Nat.le_trans hn9.ext.size hp11.only.size)).then' hp53.only (by simp) (Nat.le_trans hn9.ext.size hp11.only.size)).then' hp55.only (by simp) (Nat.le_trans hn9.ext.size hp11.only.size))) hx57 (Nat.lt_of_lt_of_le hb3.lt hx8.size) (hmL.ext (((((hn9.ext.then' hp11.only (by simp) (Nat.le_refl _)).trans hn13.ext).then' hp15.only (by simp) (Nat.le_trans hn9.ext.size hp11.only.size)).then' hp53.only (by simp) (Nat.le_trans hn9.ext.size hp11.only.size)).then' hp55.only (by simp) (Nat.le_trans hn9.ext.size hp11.only.size)))).ext hx62) ho61.rows (Nat.le_trans (Nat.le_trans (Nat.le_trans (Nat.le_trans (Nat.le_trans (Nat.le_trans (Nat.le_trans (Nat.le_trans hxA.size hn9.ext.size) hp11.only.size) hn13.ext.size) hp15.only.size) hp53.only.size) hp55.only.size) hx57.size) hx62.size) (by first | (simp; omega) | (simp; done) | omega) (fun h' y hge x hx => okM_onlyM ((List.mem_append.1 hx).elim (hkA x) (fun q => by rw [List.mem_singleton.1 q]; exact hrC.2 _ (can_mem (k := i) (by omega)))) (only_app (Only.trans (Only.trans (Only.trans (Only.trans (Only.trans (Only.trans (Only.trans (Only.trans (Only.trans (Only.refl _ _) hxA (fun _ hb_ => .inl hb_)) hn9.ext (fun _ hb_ => by cases hb_)) hp11.only (fun b_ hb_ => .inr (by rw [List.mem_singleton.1 hb_]; exact hxA.size))) hn13.ext (fun _ hb_ => by cases hb_)) hp15.only (fun b_ hb_ => .inr (by rw [List.mem_singleton.1 hb_]; exact (Nat.le_trans (Nat.le_trans hxA.size hn9.ext.size) hp11.only.size)))) hp53.only (fun b_ hb_ => .inr (by rw [List.mem_singleton.1 hb_]; exact (Nat.le_trans (Nat.le_trans hxA.size hn9.ext.size) hp11.only.size)))) hp55.only (fun b_ hb_ => .inr (by rw [List.mem_singleton.1 hb_]; exact (Nat.le_trans (Nat.le_trans hxA.size hn9.ext.size) hp11.only.size)))) hx57 (fun _ hb_ => .inl hb_)) hx62 (fun _ hb_ => by cases hb_)) y hge) hmC)) rfl rfl rfl ?_
              rintro v63 h27 ⟨ha64, ha64l⟩
              refine L_yld (Y_assign rfl) rfl rfl rfl ?_
              refine L_nil ?_
              refine X_block ?_
              refine X_then ?_
              refine W_sub _ (.cons (i := 8) rfl (.cons (i := 26) rfl (.cons (i := 7) rfl (.cons (i := 4) rfl (.cons (i := 3) rfl (.cons (i := 2) rfl (.cons (i := 0) rfl (.cons (i := 25) rfl (.cons (i := 27) rfl (.nil _)))))))))) ?_
              refine W_region ?_
              refine L_yld (Y_add rfl rfl (by omega) (by omega)) rfl rfl rfl ?_
              refine L_yld (Y_move rfl) rfl rfl rfl ?_
              refine L_nil ?_
              refine X_loop ((i + 1, v63)) (.cons (i := 26) rfl (.cons (i := 7) rfl (.cons (i := 4) rfl (.cons (i := 3) rfl (.cons (i := 2) rfl (.cons (i := 0) rfl (.cons (i := 8) rfl (.cons (i := 25) rfl (.cons (i := 27) rfl (.nil _)))))))))) ?_ ?_
              have hc65 := ((hb58.ext hx62).only ha64.only (fun hb_ => Nat.lt_irrefl _ (Nat.lt_of_lt_of_le (Nat.lt_of_lt_of_le hb3.lt hx8.size) (ha64.ge _ hb_))))
              · exact ⟨by omega, mms_ok hkA (hrC.2 _ (can_mem (by omega))), (Only.trans (Only.trans (Only.trans (Only.trans (Only.trans (Only.trans (Only.trans (Only.trans (Only.trans (Only.trans (Only.refl _ _) hxA (fun _ hb_ => .inl hb_)) hn9.ext (fun _ hb_ => by cases hb_)) hp11.only (fun b_ hb_ => .inr (by rw [List.mem_singleton.1 hb_]; exact hxA.size))) hn13.ext (fun _ hb_ => by cases hb_)) hp15.only (fun b_ hb_ => .inr (by rw [List.mem_singleton.1 hb_]; exact (Nat.le_trans (Nat.le_trans hxA.size hn9.ext.size) hp11.only.size)))) hp53.only (fun b_ hb_ => .inr (by rw [List.mem_singleton.1 hb_]; exact (Nat.le_trans (Nat.le_trans hxA.size hn9.ext.size) hp11.only.size)))) hp55.only (fun b_ hb_ => .inr (by rw [List.mem_singleton.1 hb_]; exact (Nat.le_trans (Nat.le_trans hxA.size hn9.ext.size) hp11.only.size)))) hx57 (fun _ hb_ => .inl hb_)) hx62 (fun _ hb_ => by cases hb_)) ha64.only (fun b_ hb_ => .inr (Nat.le_trans (Nat.le_refl _) (ha64.ge b_ hb_)))), rowsO_congr ha64.own (mms_f a b).1, MapA.congr hc65 (mms_f a b).2⟩
              · (try dsimp only)
                omega
          · refine LO_yld (i := 4) rfl (Y_ldblk Tryd.underlying28 rfl rfl (hk12.ext (hn13.ext.then' hp15.only (by simp) (Nat.le_refl _))) rfl) rfl rfl rfl trivial ?_
            refine LH_one (i := 1) (by kernel_rfl) ?_
            refine LO_yld (i := 1) rfl (Y_ldblk Tryd.underlying28 rfl rfl (hk12.ext (hn13.ext.then' hp15.only (by simp) (Nat.le_refl _))) rfl) rfl rfl rfl trivial ?_
            refine LH_one (i := 2) (by kernel_rfl) ?_
            refine LO_yld (i := 2) rfl (Y_len Tryd.underlying28 rfl (show Bytes _ ((at_nod L05 ((i : Int)).toNat).dv) ((at_nod L05 ((i : Int)).toNat).data) from (rowsN_onlyM hrC (Only.trans (Only.trans (Only.trans (Only.trans (Only.trans (Only.refl _ _) hxA (fun _ hb_ => .inl hb_)) hn9.ext (fun _ hb_ => by cases hb_)) hp11.only (fun b_ hb_ => .inr (by rw [List.mem_singleton.1 hb_]; exact hxA.size))) hn13.ext (fun _ hb_ => by cases hb_)) hp15.only (fun b_ hb_ => .inr (by rw [List.mem_singleton.1 hb_]; exact (Nat.le_trans (Nat.le_trans hxA.size hn9.ext.size) hp11.only.size)))) hmC).okat (k := ((i : Int)).toNat) (by omega))) rfl rfl rfl trivial ?_
            refine LH_take (i := 5) rfl (fun h_ hI_ => Y_fieldAddr (off := 0) (by kernel_rfl) rfl rfl) rfl rfl rfl (by kernel_rfl) (by kernel_rfl) (by kernel_rfl) (fun _ _ _ => by rintro ⟨_, _, h_, _⟩; cases h_) trivial ?_
            refine LH_take (i := 6) rfl (fun h_ hI_ => Y_fieldAddr (off := 4) (by kernel_rfl) rfl rfl) rfl rfl rfl (by kernel_rfl) (by kernel_rfl) (by kernel_rfl) (fun _ _ _ => by rintro ⟨_, _, h_, _⟩; cases h_) trivial ?_
            refine LH_one (i := 7) (by kernel_rfl) ?_
            refine LO_dos (i := 7) rfl (D_store (us := [.int .i64 ((((at_nod L05 ((i : Int)).toNat).data).length : Int))]) (show _ = some 1 by kernel_rfl) rfl rfl rfl (by simp [Value.oneCell']) hk16 (by simp)) rfl rfl ?_
            rintro h28 hp66
            refine ⟨trivial, ?_⟩
            have hk67 : Blk h28 h6.size [.int .i64 ((at_nod L05 ((i : Int)).toNat).kind), str ((at_nod L05 ((i : Int)).toNat).path), .int .i64 ((at_nod L05 ((i : Int)).toNat).mode), str ((at_nod L05 ((i : Int)).toNat).target), .int .i64 ((((at_nod L05 ((i : Int)).toNat).data).length : Int)), .slice none 0 0] := hp66.blk
            refine LH_take (i := 8) rfl (fun h_ hI_ => Y_fieldAddr (off := 5) (by kernel_rfl) rfl rfl) rfl rfl rfl (by kernel_rfl) (by kernel_rfl) (by kernel_rfl) (fun _ _ _ => by rintro ⟨_, _, h_, _⟩; cases h_) trivial ?_
            refine LH_one (i := 9) (by kernel_rfl) ?_
            refine LO_dos (i := 9) rfl (D_store (us := [((at_nod L05 ((i : Int)).toNat).dv)]) (show _ = some 1 by kernel_rfl) rfl rfl (cells_slice (show Bytes _ ((at_nod L05 ((i : Int)).toNat).dv) ((at_nod L05 ((i : Int)).toNat).data) from (rowsN_onlyM hrC (Only.trans (Only.trans (Only.trans (Only.trans (Only.trans (Only.trans (Only.refl _ _) hxA (fun _ hb_ => .inl hb_)) hn9.ext (fun _ hb_ => by cases hb_)) hp11.only (fun b_ hb_ => .inr (by rw [List.mem_singleton.1 hb_]; exact hxA.size))) hn13.ext (fun _ hb_ => by cases hb_)) hp15.only (fun b_ hb_ => .inr (by rw [List.mem_singleton.1 hb_]; exact (Nat.le_trans (Nat.le_trans hxA.size hn9.ext.size) hp11.only.size)))) hp66.only (fun b_ hb_ => .inr (by rw [List.mem_singleton.1 hb_]; exact (Nat.le_trans (Nat.le_trans hxA.size hn9.ext.size) hp11.only.size)))) hmC).okat (k := ((i : Int)).toNat) (by omega))) (by intro u_ hu_; simp only [List.mem_cons, List.not_mem_nil, or_false] at hu_; rcases hu_ with rfl <;> first | rfl | exact ((show Bytes _ ((at_nod L05 ((i : Int)).toNat).dv) ((at_nod L05 ((i : Int)).toNat).data) from (rowsN_onlyM hrC (Only.trans (Only.trans (Only.trans (Only.trans (Only.trans (Only.trans (Only.refl _ _) hxA (fun _ hb_ => .inl hb_)) hn9.ext (fun _ hb_ => by cases hb_)) hp11.only (fun b_ hb_ => .inr (by rw [List.mem_singleton.1 hb_]; exact hxA.size))) hn13.ext (fun _ hb_ => by cases hb_)) hp15.only (fun b_ hb_ => .inr (by rw [List.mem_singleton.1 hb_]; exact (Nat.le_trans (Nat.le_trans hxA.size hn9.ext.size) hp11.only.size)))) hp66.only (fun b_ hb_ => .inr (by rw [List.mem_singleton.1 hb_]; exact (Nat.le_trans (Nat.le_trans hxA.size hn9.ext.size) hp11.only.size)))) hmC).okat (k := ((i : Int)).toNat) (by omega))).cell1) hk67 (by simp)) rfl rfl ?_
            rintro h29 hp68
            refine ⟨trivial, ?_⟩
            have hk69 : Blk h29 h6.size [.int .i64 ((at_nod L05 ((i : Int)).toNat).kind), str ((at_nod L05 ((i : Int)).toNat).path), .int .i64 ((at_nod L05 ((i : Int)).toNat).mode), str ((at_nod L05 ((i : Int)).toNat).target), .int .i64 ((((at_nod L05 ((i : Int)).toNat).data).length : Int)), ((at_nod L05 ((i : Int)).toNat).dv)] := hp68.blk
            refine LH_done (by kernel_rfl) ?_
            refine X_then ?_
            refine W_sub _ (.cons (i := 11) rfl (.cons (i := 10) rfl (.cons (i := 26) rfl (.cons (i := 7) rfl (.cons (i := 4) rfl (.cons (i := 3) rfl (.cons (i := 2) rfl (.cons (i := 0) rfl (.cons (i := 8) rfl (.cons (i := 25) rfl (.cons (i := 27) rfl (.nil _)))))))))))) ?_
            refine W_region ?_
            refine L_yld (Y_move rfl) rfl rfl rfl ?_
            refine L_yld (Y_fieldAddr (off := 5) (by kernel_rfl) rfl rfl) rfl rfl rfl ?_
            refine L_yld (Y_ldblk Tryd.underlying3 rfl rfl (hk12.ext (((hn13.ext.then' hp15.only (by simp) (Nat.le_refl _)).then' hp66.only (by simp) (Nat.le_refl _)).then' hp68.only (by simp) (Nat.le_refl _))) rfl) rfl rfl rfl ?_
            refine L_yld (Y_fieldAddr (off := 1) (by kernel_rfl) rfl rfl) rfl rfl rfl ?_
            refine L_yld (Y_ldblk Tryd.underlying9 rfl rfl (hk12.ext (((hn13.ext.then' hp15.only (by simp) (Nat.le_refl _)).then' hp66.only (by simp) (Nat.le_refl _)).then' hp68.only (by simp) (Nat.le_refl _))) rfl) rfl rfl rfl ?_
            refine L_dos (D_updA (evl := (fun l : List UInt8 => str l)) (k := (at_nod L05 ((i : Int)).toNat).cls) (v := (at_nod L05 ((i : Int)).toNat).path) keyI Tryd.underlying73 Tryd.underlying3 rfl rfl rfl (hmL.ext (((((hn9.ext.then' hp11.only (by simp) (Nat.le_refl _)).trans hn13.ext).then' hp15.only (by simp) (Nat.le_trans hn9.ext.size hp11.only.size)).then' hp66.only (by simp) (Nat.le_trans hn9.ext.size hp11.only.size)).then' hp68.only (by simp) (Nat.le_trans hn9.ext.size hp11.only.size)))) rfl rfl ?_
            rintro h30 ⟨hx70, -, hb71⟩
            refine L_nil ?_
            refine X_block ?_
            refine X_then ?_
            refine W_sub _ (.cons (i := 11) rfl (.cons (i := 26) rfl (.cons (i := 7) rfl (.cons (i := 4) rfl (.cons (i := 3) rfl (.cons (i := 2) rfl (.cons (i := 0) rfl (.cons (i := 8) rfl (.cons (i := 25) rfl (.cons (i := 27) rfl (.nil _))))))))))) ?_
            refine W_region ?_
            refine L_yld (Y_move rfl) rfl rfl rfl ?_
            have hc72 := (hk69.only hx70 (ni_gt (Nat.lt_of_lt_of_le hb3.lt (Nat.le_trans (Nat.le_trans (Nat.le_trans hx8.size hxA.size) hn9.ext.size) hp11.only.size))))
            refine L_yld (Y_ldbox (us := [.int .i64 ((at_nod L05 ((i : Int)).toNat).kind), str ((at_nod L05 ((i : Int)).toNat).path), .int .i64 ((at_nod L05 ((i : Int)).toNat).mode), str ((at_nod L05 ((i : Int)).toNat).target), .int .i64 ((((at_nod L05 ((i : Int)).toNat).data).length : Int)), ((at_nod L05 ((i : Int)).toNat).dv)]) Tryd.underlying30 rfl (show _ = some 6 by kernel_rfl) rfl hc72 rfl) rfl rfl rfl ?_
            refine L_mks (M_litr (S := memS) (l := ([⟨(at_nod L05 ((i : Int)).toNat).kind, (at_nod L05 ((i : Int)).toNat).path, (at_nod L05 ((i : Int)).toNat).mode, (at_nod L05 ((i : Int)).toNat).target, (((at_nod L05 ((i : Int)).toNat).data).length : Int), ((at_nod L05 ((i : Int)).toNat).dv), (at_nod L05 ((i : Int)).toNat).data⟩] : List Mem)) (cells := [.int .i64 ((at_nod L05 ((i : Int)).toNat).kind), str ((at_nod L05 ((i : Int)).toNat).path), .int .i64 ((at_nod L05 ((i : Int)).toNat).mode), str ((at_nod L05 ((i : Int)).toNat).target), .int .i64 ((((at_nod L05 ((i : Int)).toNat).data).length : Int)), ((at_nod L05 ((i : Int)).toNat).dv)]) (pv := [(0, .agg #[.int .i64 ((at_nod L05 ((i : Int)).toNat).kind), str ((at_nod L05 ((i : Int)).toNat).path), .int .i64 ((at_nod L05 ((i : Int)).toNat).mode), str ((at_nod L05 ((i : Int)).toNat).target), .int .i64 ((((at_nod L05 ((i : Int)).toNat).data).length : Int)), ((at_nod L05 ((i : Int)).toNat).dv)])]) (E := 30) (evp (is := [0]) (os := [.tmp 83]) (vs := [.agg #[.int .i64 ((at_nod L05 ((i : Int)).toNat).kind), str ((at_nod L05 ((i : Int)).toNat).path), .int .i64 ((at_nod L05 ((i : Int)).toNat).mode), str ((at_nod L05 ((i : Int)).toNat).target), .int .i64 ((((at_nod L05 ((i : Int)).toNat).data).length : Int)), ((at_nod L05 ((i : Int)).toNat).dv)]]) rfl rfl) rfl rfl (fun _ => by kernel_rfl) (by simp only [List.mem_cons, List.not_mem_nil, or_false, forall_eq_or_imp, forall_eq]; exact (show Bytes _ ((at_nod L05 ((i : Int)).toNat).dv) ((at_nod L05 ((i : Int)).toNat).data) from (rowsN_onlyM hrC (Only.trans (Only.trans (Only.trans (Only.trans (Only.trans (Only.trans (Only.trans (Only.trans (Only.refl _ _) hxA (fun _ hb_ => .inl hb_)) hn9.ext (fun _ hb_ => by cases hb_)) hp11.only (fun b_ hb_ => .inr (by rw [List.mem_singleton.1 hb_]; exact hxA.size))) hn13.ext (fun _ hb_ => by cases hb_)) hp15.only (fun b_ hb_ => .inr (by rw [List.mem_singleton.1 hb_]; exact (Nat.le_trans (Nat.le_trans hxA.size hn9.ext.size) hp11.only.size)))) hp66.only (fun b_ hb_ => .inr (by rw [List.mem_singleton.1 hb_]; exact (Nat.le_trans (Nat.le_trans hxA.size hn9.ext.size) hp11.only.size)))) hp68.only (fun b_ hb_ => .inr (by rw [List.mem_singleton.1 hb_]; exact (Nat.le_trans (Nat.le_trans hxA.size hn9.ext.size) hp11.only.size)))) hx70 (fun _ hb_ => .inl hb_)) hmC).okat (k := ((i : Int)).toNat) (by omega)))) rfl rfl rfl ?_
            rintro v73 h31 ⟨ho74, hx75⟩
            refine L_mks (M_apprG (z := 6) (bytes := 80) (z0 := (.agg #[.int .i64 0, str [], .int .i64 0, str [], .int .i64 0, .slice none 0 0])) Tryd.underlying22 (by unfold elemRow; kernel_rfl) rfl rfl (by decide) rfl rfl ((rowsO_onlyM (hoA.ext (((((hn9.ext.then' hp11.only (by simp) (Nat.le_refl _)).trans hn13.ext).then' hp15.only (by simp) (Nat.le_trans hn9.ext.size hp11.only.size)).then' hp66.only (by simp) (Nat.le_trans hn9.ext.size hp11.only.size)).then' hp68.only (by simp) (Nat.le_trans hn9.ext.size hp11.only.size))) hx70 (Nat.lt_of_lt_of_le hb3.lt hx8.size) (hmL.ext (((((hn9.ext.then' hp11.only (by simp) (Nat.le_refl _)).trans hn13.ext).then' hp15.only (by simp) (Nat.le_trans hn9.ext.size hp11.only.size)).then' hp66.only (by simp) (Nat.le_trans hn9.ext.size hp11.only.size)).then' hp68.only (by simp) (Nat.le_trans hn9.ext.size hp11.only.size)))).ext hx75) ho74.rows (Nat.le_trans (Nat.le_trans (Nat.le_trans (Nat.le_trans (Nat.le_trans (Nat.le_trans (Nat.le_trans (Nat.le_trans hxA.size hn9.ext.size) hp11.only.size) hn13.ext.size) hp15.only.size) hp66.only.size) hp68.only.size) hx70.size) hx75.size) (by first | (simp; omega) | (simp; done) | omega) (fun h' y hge x hx => okM_onlyM ((List.mem_append.1 hx).elim (hkA x) (fun q => by rw [List.mem_singleton.1 q]; exact hrC.2 _ (can_mem (k := i) (by omega)))) (only_app (Only.trans (Only.trans (Only.trans (Only.trans (Only.trans (Only.trans (Only.trans (Only.trans (Only.trans (Only.refl _ _) hxA (fun _ hb_ => .inl hb_)) hn9.ext (fun _ hb_ => by cases hb_)) hp11.only (fun b_ hb_ => .inr (by rw [List.mem_singleton.1 hb_]; exact hxA.size))) hn13.ext (fun _ hb_ => by cases hb_)) hp15.only (fun b_ hb_ => .inr (by rw [List.mem_singleton.1 hb_]; exact (Nat.le_trans (Nat.le_trans hxA.size hn9.ext.size) hp11.only.size)))) hp66.only (fun b_ hb_ => .inr (by rw [List.mem_singleton.1 hb_]; exact (Nat.le_trans (Nat.le_trans hxA.size hn9.ext.size) hp11.only.size)))) hp68.only (fun b_ hb_ => .inr (by rw [List.mem_singleton.1 hb_]; exact (Nat.le_trans (Nat.le_trans hxA.size hn9.ext.size) hp11.only.size)))) hx70 (fun _ hb_ => .inl hb_)) hx75 (fun _ hb_ => by cases hb_)) y hge) hmC)) rfl rfl rfl ?_
            rintro v76 h32 ⟨ha77, ha77l⟩
            refine L_yld (Y_assign rfl) rfl rfl rfl ?_
            refine L_nil ?_
            refine X_block ?_
            refine X_then ?_
            refine W_sub _ (.cons (i := 8) rfl (.cons (i := 26) rfl (.cons (i := 7) rfl (.cons (i := 4) rfl (.cons (i := 3) rfl (.cons (i := 2) rfl (.cons (i := 0) rfl (.cons (i := 25) rfl (.cons (i := 27) rfl (.nil _)))))))))) ?_
            refine W_region ?_
            refine L_yld (Y_add rfl rfl (by omega) (by omega)) rfl rfl rfl ?_
            refine L_yld (Y_move rfl) rfl rfl rfl ?_
            refine L_nil ?_
            refine X_loop ((i + 1, v76)) (.cons (i := 26) rfl (.cons (i := 7) rfl (.cons (i := 4) rfl (.cons (i := 3) rfl (.cons (i := 2) rfl (.cons (i := 0) rfl (.cons (i := 8) rfl (.cons (i := 25) rfl (.cons (i := 27) rfl (.nil _)))))))))) ?_ ?_
            have hc78 := ((hb71.ext hx75).only ha77.only (fun hb_ => Nat.lt_irrefl _ (Nat.lt_of_lt_of_le (Nat.lt_of_lt_of_le hb3.lt hx8.size) (ha77.ge _ hb_))))
            · exact ⟨by omega, mms_ok hkA (hrC.2 _ (can_mem (by omega))), (Only.trans (Only.trans (Only.trans (Only.trans (Only.trans (Only.trans (Only.trans (Only.trans (Only.trans (Only.trans (Only.refl _ _) hxA (fun _ hb_ => .inl hb_)) hn9.ext (fun _ hb_ => by cases hb_)) hp11.only (fun b_ hb_ => .inr (by rw [List.mem_singleton.1 hb_]; exact hxA.size))) hn13.ext (fun _ hb_ => by cases hb_)) hp15.only (fun b_ hb_ => .inr (by rw [List.mem_singleton.1 hb_]; exact (Nat.le_trans (Nat.le_trans hxA.size hn9.ext.size) hp11.only.size)))) hp66.only (fun b_ hb_ => .inr (by rw [List.mem_singleton.1 hb_]; exact (Nat.le_trans (Nat.le_trans hxA.size hn9.ext.size) hp11.only.size)))) hp68.only (fun b_ hb_ => .inr (by rw [List.mem_singleton.1 hb_]; exact (Nat.le_trans (Nat.le_trans hxA.size hn9.ext.size) hp11.only.size)))) hx70 (fun _ hb_ => .inl hb_)) hx75 (fun _ hb_ => by cases hb_)) ha77.only (fun b_ hb_ => .inr (Nat.le_trans (Nat.le_refl _) (ha77.ge b_ hb_)))), rowsO_congr ha77.own (mms_f a b).1, MapA.congr hc78 (mms_f a b).2⟩
            · (try dsimp only)
              omega
        · refine W_skip ?_
          refine X_block ?_
          refine X_then ?_
          refine W_sub _ (.cons (i := 11) rfl (.cons (i := 26) rfl (.cons (i := 7) rfl (.cons (i := 4) rfl (.cons (i := 3) rfl (.cons (i := 2) rfl (.cons (i := 0) rfl (.cons (i := 8) rfl (.cons (i := 25) rfl (.cons (i := 27) rfl (.nil _))))))))))) ?_
          refine W_region ?_
          refine L_yld (Y_move rfl) rfl rfl rfl ?_
          refine L_yld (Y_ldbox (us := [.int .i64 ((at_nod L05 ((i : Int)).toNat).kind), str ((at_nod L05 ((i : Int)).toNat).path), .int .i64 ((at_nod L05 ((i : Int)).toNat).mode), str ((at_nod L05 ((i : Int)).toNat).target), .int .i64 0, .slice none 0 0]) Tryd.underlying30 rfl (show _ = some 6 by kernel_rfl) rfl hk16 rfl) rfl rfl rfl ?_
          refine L_mks (M_litr (S := memS) (l := ([⟨(at_nod L05 ((i : Int)).toNat).kind, (at_nod L05 ((i : Int)).toNat).path, (at_nod L05 ((i : Int)).toNat).mode, (at_nod L05 ((i : Int)).toNat).target, (0 : Int), .slice none 0 0, ([] : List UInt8)⟩] : List Mem)) (cells := [.int .i64 ((at_nod L05 ((i : Int)).toNat).kind), str ((at_nod L05 ((i : Int)).toNat).path), .int .i64 ((at_nod L05 ((i : Int)).toNat).mode), str ((at_nod L05 ((i : Int)).toNat).target), .int .i64 0, .slice none 0 0]) (pv := [(0, .agg #[.int .i64 ((at_nod L05 ((i : Int)).toNat).kind), str ((at_nod L05 ((i : Int)).toNat).path), .int .i64 ((at_nod L05 ((i : Int)).toNat).mode), str ((at_nod L05 ((i : Int)).toNat).target), .int .i64 0, .slice none 0 0])]) (E := 30) (evp (is := [0]) (os := [.tmp 83]) (vs := [.agg #[.int .i64 ((at_nod L05 ((i : Int)).toNat).kind), str ((at_nod L05 ((i : Int)).toNat).path), .int .i64 ((at_nod L05 ((i : Int)).toNat).mode), str ((at_nod L05 ((i : Int)).toNat).target), .int .i64 0, .slice none 0 0]]) rfl rfl) rfl rfl (fun _ => by kernel_rfl) (by simp only [List.mem_cons, List.not_mem_nil, or_false, forall_eq_or_imp, forall_eq]; exact (Bytes.nil _))) rfl rfl rfl ?_
          rintro v79 h33 ⟨ho80, hx81⟩
          refine L_mks (M_apprG (z := 6) (bytes := 80) (z0 := (.agg #[.int .i64 0, str [], .int .i64 0, str [], .int .i64 0, .slice none 0 0])) Tryd.underlying22 (by unfold elemRow; kernel_rfl) rfl rfl (by decide) rfl rfl (hoA.ext ((((hn9.ext.then' hp11.only (by simp) (Nat.le_refl _)).trans hn13.ext).then' hp15.only (by simp) (Nat.le_trans hn9.ext.size hp11.only.size)).trans hx81)) ho80.rows (Nat.le_trans (Nat.le_trans (Nat.le_trans (Nat.le_trans (Nat.le_trans hxA.size hn9.ext.size) hp11.only.size) hn13.ext.size) hp15.only.size) hx81.size) (by first | (simp; omega) | (simp; done) | omega) (fun h' y hge x hx => okM_onlyM ((List.mem_append.1 hx).elim (hkA x) (fun q => by rw [List.mem_singleton.1 q]; exact Bytes.nil _)) (only_app (Only.trans (Only.trans (Only.trans (Only.trans (Only.trans (Only.trans (Only.refl _ _) hxA (fun _ hb_ => .inl hb_)) hn9.ext (fun _ hb_ => by cases hb_)) hp11.only (fun b_ hb_ => .inr (by rw [List.mem_singleton.1 hb_]; exact hxA.size))) hn13.ext (fun _ hb_ => by cases hb_)) hp15.only (fun b_ hb_ => .inr (by rw [List.mem_singleton.1 hb_]; exact (Nat.le_trans (Nat.le_trans hxA.size hn9.ext.size) hp11.only.size)))) hx81 (fun _ hb_ => by cases hb_)) y hge) hmC)) rfl rfl rfl ?_
          rintro v82 h34 ⟨ha83, ha83l⟩
          refine L_yld (Y_assign rfl) rfl rfl rfl ?_
          refine L_nil ?_
          refine X_block ?_
          refine X_then ?_
          refine W_sub _ (.cons (i := 8) rfl (.cons (i := 26) rfl (.cons (i := 7) rfl (.cons (i := 4) rfl (.cons (i := 3) rfl (.cons (i := 2) rfl (.cons (i := 0) rfl (.cons (i := 25) rfl (.cons (i := 27) rfl (.nil _)))))))))) ?_
          refine W_region ?_
          refine L_yld (Y_add rfl rfl (by omega) (by omega)) rfl rfl rfl ?_
          refine L_yld (Y_move rfl) rfl rfl rfl ?_
          refine L_nil ?_
          refine X_loop ((i + 1, v82)) (.cons (i := 26) rfl (.cons (i := 7) rfl (.cons (i := 4) rfl (.cons (i := 3) rfl (.cons (i := 2) rfl (.cons (i := 0) rfl (.cons (i := 8) rfl (.cons (i := 25) rfl (.cons (i := 27) rfl (.nil _)))))))))) ?_ ?_
          have hc84 := ((((((hmL.ext hn9.ext).only hp11.only (ni_lt (Nat.lt_of_lt_of_le hb3.lt (Nat.le_trans hx8.size hxA.size)))).ext hn13.ext).only hp15.only (ni_lt (Nat.lt_of_lt_of_le hb3.lt (Nat.le_trans (Nat.le_trans (Nat.le_trans hx8.size hxA.size) hn9.ext.size) hp11.only.size)))).ext hx81).only ha83.only (fun hb_ => Nat.lt_irrefl _ (Nat.lt_of_lt_of_le (Nat.lt_of_lt_of_le hb3.lt hx8.size) (ha83.ge _ hb_))))
          · exact ⟨by omega, mms_ok hkA (hrC.2 _ (can_mem (by omega))), (Only.trans (Only.trans (Only.trans (Only.trans (Only.trans (Only.trans (Only.trans (Only.refl _ _) hxA (fun _ hb_ => .inl hb_)) hn9.ext (fun _ hb_ => by cases hb_)) hp11.only (fun b_ hb_ => .inr (by rw [List.mem_singleton.1 hb_]; exact hxA.size))) hn13.ext (fun _ hb_ => by cases hb_)) hp15.only (fun b_ hb_ => .inr (by rw [List.mem_singleton.1 hb_]; exact (Nat.le_trans (Nat.le_trans hxA.size hn9.ext.size) hp11.only.size)))) hx81 (fun _ hb_ => by cases hb_)) ha83.only (fun b_ hb_ => .inr (Nat.le_trans (Nat.le_refl _) (ha83.ge b_ hb_)))), rowsO_congr ha83.own (mms_n a b).1, MapA.congr hc84 (mms_n a b).2⟩
          · (try dsimp only)
            omega
    · refine W_exit ?_
      refine X_then_exit ?_
      refine X_then_exit ?_
      refine X_block_hit ?_
      refine X_then ?_
      refine W_sub _ (.cons (i := 4) rfl (.cons (i := 3) rfl (.cons (i := 2) rfl (.cons (i := 0) rfl (.cons (i := 8) rfl (.nil _)))))) ?_
      refine W_seq ?_
      refine W_region ?_
      refine L_yld (Y_move rfl) rfl rfl rfl ?_
      refine L_yld (Y_move rfl) rfl rfl rfl ?_
      refine L_yld (Y_lenr Tryd.underlying32 rfl (hl.ext (((hx1.trans hx2).trans hx8).then' hxA (by simp) hx1.size))) rfl rfl rfl ?_
      refine L_yld (Y_assign rfl) rfl rfl rfl ?_
      refine L_yld (Y_assign rfl) rfl rfl rfl ?_
      refine L_yld (Y_assign rfl) rfl rfl rfl ?_
      refine L_nil ?_
      refine X_then ?_
      refine W_sub _ (.cons (i := 4) rfl (.cons (i := 3) rfl (.cons (i := 2) rfl (.nil _)))) ?_
      refine W_ret ?_
      refine X_ret3 rfl rfl rfl rfl ?_
      exact ⟨_, _, by rw [hz, (tok_of hz).res.1], hoA.rows, by have e9 := mbs_of hz (by assumption); rw [← e9]; congr 1; congr 1; omega, (((hx1.trans hx2).trans hx8).then' hxA (by simp) hx1.size)⟩
end Go.Xp

/- Layer 14 (flatten): the reference's Members, and Same: what the code does, step by step. -/
set_option linter.unusedSimpArgs false
set_option linter.unusedVariables false
set_option linter.unusedSectionVars false
namespace Go.Xp
open Go.Proofs

theorem lst_er (C : List Nod) (i : Nat) : ∀ k, lst (C.map er) i k = lst C i k
  | 0 => rfl
  | k + 1 => by
    unfold lst
    rw [lst_er C i k, at_er, at_er, at_er]; rfl
theorem lst_y {C : List Nod} {i k : Nat} (h1 : 0 < (at_nod C i).cls) (h2 : (at_nod C k).cls = (at_nod C i).cls) (h3 : pcmp (at_nod C k).path (at_nod C (lst C i k)).path < 0) : lst C i (k + 1) = k := by
  conv => lhs; unfold lst
  exact if_pos ⟨⟨h1, h2⟩, h3⟩
theorem lst_n {C : List Nod} {i k : Nat} (h : ¬ (((0 < (at_nod C i).cls) ∧ ((at_nod C k).cls = (at_nod C i).cls)) ∧ pcmp (at_nod C k).path (at_nod C (lst C i k)).path < 0)) : lst C i (k + 1) = lst C i k := by
  conv => lhs; unfold lst
  exact if_neg h
theorem rmem_f {C : List Nod} {i : Nat} (hk : (at_nod C i).kind = 1) (hl : lst C i C.length = i) : rmem (C.map er) i = ⟨(at_nod C i).kind, (at_nod C i).path, (at_nod C i).mode, (at_nod C i).target, ((at_nod C i).data.length : Int), .slice none 0 0, (at_nod C i).data⟩ := by
  unfold rmem
  rw [at_er, List.length_map, lst_er, if_pos (show (er (at_nod C i)).kind = 1 from hk), if_pos hl]; rfl
theorem rmem_l {C : List Nod} {i : Nat} (hk : (at_nod C i).kind = 1) (hl : ¬ lst C i C.length = i) : rmem (C.map er) i = ⟨3, (at_nod C i).path, (at_nod C i).mode, (at_nod C (lst C i C.length)).path, 0, .slice none 0 0, []⟩ := by
  unfold rmem
  rw [at_er, List.length_map, lst_er, if_pos (show (er (at_nod C i)).kind = 1 from hk), if_neg hl, at_er]; rfl
theorem rmem_n {C : List Nod} {i : Nat} (hk : ¬ (at_nod C i).kind = 1) : rmem (C.map er) i = ⟨(at_nod C i).kind, (at_nod C i).path, (at_nod C i).mode, (at_nod C i).target, 0, .slice none 0 0, []⟩ := by
  unfold rmem
  rw [at_er, if_neg (show ¬ (er (at_nod C i)).kind = 1 from hk)]; rfl
theorem rms_mbs {l C : List Nod} {n : Nat} (hz : terr l = 0) (hq : C.length = n ∧ C.map er = cno l) : (List.range C.length).map (rmem (C.map er)) = mbs l := by
  have hT := (tok_of hz).set.cno
  have hu := hT.up (cno_asc l)
  rw [hq.2]
  unfold mbs mem1
  rw [if_pos hz, cno_len, hq.1.trans (show n = l.length by rw [← hq.1, ← cno_len l, ← hq.2, List.length_map])]
  exact List.map_congr_left (fun i hi => rmem_msp hu (by rw [cno_len]; exact List.mem_range.1 hi))
theorem okR {hA h' : Heap} {v : Value} {x : Mem} (o : memS.ok hA x) (y : Only (blockOf v).toList hA h') (ha : ∀ b, blk2 x.dv = some b → b ∉ (blockOf v).toList) : memS.ok h' x := Row.only2 (show Bytes hA x.dv x.data from o) y ha
theorem apR {hA : Heap} {v r : Value} {x : Mem} (hl : blockOf r = blockOf v ∨ blockOf r = some hA.size) (o : memS.ok hA x) (ha : ∀ b, blk2 x.dv = some b → b ∉ (blockOf v).toList) : ∀ b, blk2 x.dv = some b → b ∉ (blockOf r).toList := fun b hb => by
  rcases hl with h | h
  · rw [h]; exact ha b hb
  · rw [h]
    have := Row.lt2 (show Bytes hA x.dv x.data from o) hb
    simp; omega
theorem okRb {hA h' : Heap} {v dv : Value} {l : List UInt8} (o : Bytes hA dv l) (y : Only (blockOf v).toList hA h') (ha : ∀ b, blk2 dv = some b → b ∉ (blockOf v).toList) : Bytes h' dv l := Row.only2 o y ha
theorem apRb {hA : Heap} {v r dv : Value} {l : List UInt8} (hl : blockOf r = blockOf v ∨ blockOf r = some hA.size) (o : Bytes hA dv l) (ha : ∀ b, blk2 dv = some b → b ∉ (blockOf v).toList) : ∀ b, blk2 dv = some b → b ∉ (blockOf r).toList := fun b hb => by
  rcases hl with h | h
  · rw [h]; exact ha b hb
  · rw [h]
    have := Row.lt2 o hb
    simp; omega
theorem apOwn {h0 hA : Heap} {base : Nat} {v u : Value} {l : List UInt8} {b0 : Nat} {L : List Mem} (o : OwnB hA base v l) (hv : RowsO memS h0 b0 u L) (hb : h0.size ≤ base) : ∀ b, blk2 v = some b → b ∉ (blockOf u).toList := fun b hb2 hm => by
  have h1 := (Own.lt o b (blk2_of hb2)).1
  have h2 := (Own.lt hv.1 b (by simpa using hm)).2
  omega
theorem all_app {P : Mem → Prop} {O : List Mem} {x : Mem} (h : ∀ y ∈ O, P y) (hx : P x) : ∀ y ∈ O ++ [x], P y := fun y hy => by
  rcases List.mem_append.1 hy with q | q
  · exact h y q
  · rw [List.mem_singleton.1 q]; exact hx
theorem rng_app {O : List Mem} {x : Mem} {f : Nat → Mem} {i : Nat} (h : O.map erm = (List.range i).map f) (hx : erm x = f i) : (O ++ [x]).map erm = (List.range (i + 1)).map f := by
  rw [List.map_append, h, List.range_succ, List.map_append]; simp [hx]

set_option maxRecDepth 100000 in
theorem ref14_least (h : Heap) (v : Value) (C : List Nod) (hC : Rows nodS h v C) (i : Nat) (hm : C.length ≤ 1000000000) (hi : i < C.length) (hs : ∀ x ∈ C, x.path.length ≤ 100000000000 ∧ x.target.length ≤ 100000000000 ∧ x.data.length ≤ 100000000000) : Cal Tryd.prog 43 #[v, .int .i64 ((i : Int))] h (fun v h' => v = .int .i64 ((lst C i C.length : Int)) ∧ h' = h) := by
  refine Cal_enter (args := [v, .int .i64 ((i : Int))]) Tryd.func43 rfl rfl rfl (fun σ => ?_)
  refine W_seq ?_
  refine W_region ?_
  refine L_yld (Y_assign rfl) rfl rfl rfl ?_
  refine L_nil ?_
  refine X_then ?_
  refine W_seq ?_
  refine W_region ?_
  refine L_yld (Y_move rfl) rfl rfl rfl ?_
  refine L_yld (Y_assign rfl) rfl rfl rfl ?_
  refine L_nil ?_
  refine X_then ?_
  refine W_sub _ (.cons (i := 5) rfl (.cons (i := 4) rfl (.cons (i := 0) rfl (.cons (i := 1) rfl (.nil _))))) ?_
  refine W_seq ?_
  refine W_seq ?_
  refine W_region ?_
  refine L_yld (Y_assign rfl) rfl rfl rfl ?_
  refine L_nil ?_
  refine X_then ?_
  refine W_block ?_
  refine W_loop (S := Nat) (fun k => [(4, .int .i64 0), (0, v), (1, .int .i64 ((i : Int))), (5, .int .i64 ((lst C i k : Int))), (6, .int .i64 ((k : Int)))]) (fun k h' => k ≤ C.length ∧ h' = h) (fun k => C.length - k) 0 (.cons (i := 4) rfl (.cons (i := 0) rfl (.cons (i := 1) rfl (.cons (i := 5) rfl (.cons (i := 6) rfl (.nil _)))))) ?_ ?_
  · exact ⟨Nat.zero_le _, rfl⟩
  rintro k h ⟨hk, rfl⟩
  show W _ _ _ _ _ [(4, .int .i64 0), (0, v), (1, .int .i64 ((i : Int))), (5, .int .i64 ((lst C i k : Int))), (6, .int .i64 ((k : Int)))] _
  have hlk := lst_lt hi k hk
  refine W_seq ?_
  refine W_seq ?_
  refine W_region ?_
  refine L_yld (Y_move rfl) rfl rfl rfl ?_
  refine L_yld (Y_move rfl) rfl rfl rfl ?_
  refine L_yld (Y_lenr Tryd.underlying32 rfl hC) rfl rfl rfl ?_
  refine L_yld (Y_lss rfl rfl) rfl rfl rfl ?_
  refine L_nil ?_
  refine X_then ?_
  refine W_sub _ (.cons (i := 11) rfl (.cons (i := 4) rfl (.cons (i := 0) rfl (.cons (i := 1) rfl (.cons (i := 5) rfl (.cons (i := 6) rfl (.nil _))))))) ?_
  refine W_splitd rfl (fun c => ?_) (fun c => ?_)
  · refine W_skip ?_
    refine X_then ?_
    refine W_sub _ (.cons (i := 4) rfl (.cons (i := 0) rfl (.cons (i := 1) rfl (.cons (i := 5) rfl (.cons (i := 6) rfl (.nil _)))))) ?_
    have hp1 := hs _ (can_mem (l := C) (k := k) (by omega))
    have hp2 := hs _ (can_mem (l := C) (k := lst C i k) (by omega))
    refine W_seq ?_
    by_cases g1 : 0 < (at_nod C i).cls
    · by_cases g2 : (at_nod C k).cls = (at_nod C i).cls
      · refine W_block ?_
        refine W_seq ?_
        refine W_quiet (fun h' => h' = h) (by kernel_rfl) (by kernel_rfl) rfl ?_
        refine LQ_yld (fun h_ hI_ => by subst hI_; exact Y_move rfl) rfl rfl rfl ?_
        refine LQ_yld (fun h_ hI_ => by subst hI_; exact Y_move rfl) rfl rfl rfl ?_
        refine LQ_yld (fun h_ hI_ => by subst hI_; exact Y_idxr Tryd.underlying32 (show _ = some 6 by kernel_rfl) rfl rfl rfl hC (by omega) (by omega)) rfl rfl rfl ?_
        refine LQ_yld (fun h_ hI_ => by subst hI_; exact Y_fldr (k := ((i : Int)).toNat) (off := 5) (by kernel_rfl) rfl hC (by omega)) rfl rfl rfl ?_
        refine LQ_yld (fun h_ hI_ => by subst hI_; exact Y_ldr1 (off := 5) (k := ((i : Int)).toNat) (u := .int .i64 ((at_nod C ((i : Int)).toNat).cls)) Tryd.underlying3 rfl rfl rfl hC (by omega) rfl) rfl rfl rfl ?_
        refine LQ_yld (fun h_ hI_ => by subst hI_; exact Y_gtr rfl rfl) rfl rfl rfl ?_
        refine LQ_yld (fun h_ hI_ => by subst hI_; exact Y_move rfl) rfl rfl rfl ?_
        refine LQ_known (d := 20) true rfl (by exact decide_eq_true (by exact g1)) ?_
        refine LQ_yld (fun h_ hI_ => by subst hI_; exact Y_move rfl) rfl rfl rfl ?_
        refine LQ_yld (fun h_ hI_ => by subst hI_; exact Y_move rfl) rfl rfl rfl ?_
        refine LQ_yld (fun h_ hI_ => by subst hI_; exact Y_idxr Tryd.underlying32 (show _ = some 6 by kernel_rfl) rfl rfl rfl hC (by omega) (by omega)) rfl rfl rfl ?_
        refine LQ_yld (fun h_ hI_ => by subst hI_; exact Y_fldr (k := ((k : Int)).toNat) (off := 5) (by kernel_rfl) rfl hC (by omega)) rfl rfl rfl ?_
        refine LQ_yld (fun h_ hI_ => by subst hI_; exact Y_ldr1 (off := 5) (k := ((k : Int)).toNat) (u := .int .i64 ((at_nod C ((k : Int)).toNat).cls)) Tryd.underlying3 rfl rfl rfl hC (by omega) rfl) rfl rfl rfl ?_
        refine LQ_yld (fun h_ hI_ => by subst hI_; exact Y_move rfl) rfl rfl rfl ?_
        refine LQ_yld (fun h_ hI_ => by subst hI_; exact Y_move rfl) rfl rfl rfl ?_
        refine LQ_yld (fun h_ hI_ => by subst hI_; exact Y_idxr Tryd.underlying32 (show _ = some 6 by kernel_rfl) rfl rfl rfl hC (by omega) (by omega)) rfl rfl rfl ?_
        refine LQ_yld (fun h_ hI_ => by subst hI_; exact Y_fldr (k := ((i : Int)).toNat) (off := 5) (by kernel_rfl) rfl hC (by omega)) rfl rfl rfl ?_
        refine LQ_yld (fun h_ hI_ => by subst hI_; exact Y_ldr1 (off := 5) (k := ((i : Int)).toNat) (u := .int .i64 ((at_nod C ((i : Int)).toNat).cls)) Tryd.underlying3 rfl rfl rfl hC (by omega) rfl) rfl rfl rfl ?_
        refine LQ_yld (fun h_ hI_ => by subst hI_; exact Y_eql rfl rfl) rfl rfl rfl ?_
        refine LQ_yld (fun h_ hI_ => by subst hI_; exact Y_pick_t rfl rfl) rfl rfl rfl ?_
        refine LQ_yld (fun h_ hI_ => by subst hI_; exact Y_move rfl) rfl rfl rfl ?_
        refine LQ_known (d := 33) true rfl (by exact decide_eq_true (by exact g2)) ?_
        refine LQ_yld (fun h_ hI_ => by subst hI_; exact Y_move rfl) rfl rfl rfl ?_
        refine LQ_yld (fun h_ hI_ => by subst hI_; exact Y_move rfl) rfl rfl rfl ?_
        refine LQ_yld (fun h_ hI_ => by subst hI_; exact Y_idxr Tryd.underlying32 (show _ = some 6 by kernel_rfl) rfl rfl rfl hC (by omega) (by omega)) rfl rfl rfl ?_
        refine LQ_yld (fun h_ hI_ => by subst hI_; exact Y_fldr (k := ((k : Int)).toNat) (off := 1) (by kernel_rfl) rfl hC (by omega)) rfl rfl rfl ?_
        refine LQ_yld (fun h_ hI_ => by subst hI_; exact Y_ldr1 (off := 1) (k := ((k : Int)).toNat) (u := str ((at_nod C ((k : Int)).toNat).path)) Tryd.underlying9 rfl rfl rfl hC (by omega) rfl) rfl rfl rfl ?_
        refine LQ_yld (fun h_ hI_ => by subst hI_; exact Y_move rfl) rfl rfl rfl ?_
        refine LQ_yld (fun h_ hI_ => by subst hI_; exact Y_move rfl) rfl rfl rfl ?_
        refine LQ_yld (fun h_ hI_ => by subst hI_; exact Y_idxr Tryd.underlying32 (show _ = some 6 by kernel_rfl) rfl rfl rfl hC (by omega) (by omega)) rfl rfl rfl ?_
        refine LQ_yld (fun h_ hI_ => by subst hI_; exact Y_fldr (k := ((lst C i k : Int)).toNat) (off := 1) (by kernel_rfl) rfl hC (by omega)) rfl rfl rfl ?_
        refine LQ_yld (fun h_ hI_ => by subst hI_; exact Y_ldr1 (off := 1) (k := ((lst C i k : Int)).toNat) (u := str ((at_nod C ((lst C i k : Int)).toNat).path)) Tryd.underlying9 rfl rfl rfl hC (by omega) rfl) rfl rfl rfl ?_
        refine LQ_call (v := .int .i64 (pcmp ((at_nod C ((k : Int)).toNat).path) ((at_nod C ((lst C i k : Int)).toNat).path))) (fun _ _ => E_call (by kernel_rfl) rfl) (fun h_ hI_ => by subst hI_; exact (ref08_Compare _ ((at_nod C ((k : Int)).toNat).path) ((at_nod C ((lst C i k : Int)).toNat).path) (by first | omega | rfl | (simp <;> omega)))) rfl rfl rfl ?_
        refine LQ_yld (fun h_ hI_ => by subst hI_; exact Y_lss rfl rfl) rfl rfl rfl ?_
        refine LQ_yld (fun h_ hI_ => by subst hI_; exact Y_pick_t rfl rfl) rfl rfl rfl ?_
        refine LQ_nil ?_
        rintro h rfl
        refine X_then ?_
        refine W_sub _ (.cons (i := 46) rfl (.cons (i := 4) rfl (.cons (i := 0) rfl (.cons (i := 1) rfl (.cons (i := 5) rfl (.cons (i := 6) rfl (.nil _))))))) ?_
        refine W_splitd rfl (fun d => ?_) (fun d => ?_)
        · refine W_region ?_
          refine L_yld (Y_move rfl) rfl rfl rfl ?_
          refine L_yld (Y_assign rfl) rfl rfl rfl ?_
          refine L_nil ?_
          refine X_block ?_
          refine X_then ?_
          refine W_sub _ (.cons (i := 5) rfl (.cons (i := 4) rfl (.cons (i := 0) rfl (.cons (i := 1) rfl (.cons (i := 6) rfl (.nil _)))))) ?_
          refine W_region ?_
          refine L_yld (Y_move rfl) rfl rfl rfl ?_
          refine L_yld (Y_add rfl rfl (by omega) (by omega)) rfl rfl rfl ?_
          refine L_yld (Y_assign rfl) rfl rfl rfl ?_
          refine L_nil ?_
          refine X_loop (k + 1) (.cons (i := 4) rfl (.cons (i := 0) rfl (.cons (i := 1) rfl (.cons (i := 5) (lki rfl (by rw [lst_y (k := k) g1 g2 d])) (.cons (i := 6) rfl (.nil _)))))) ?_ ?_
          · exact ⟨by omega, rfl⟩
          · (try dsimp only)
            omega
        · refine W_skip ?_
          refine X_block ?_
          refine X_then ?_
          refine W_sub _ (.cons (i := 4) rfl (.cons (i := 0) rfl (.cons (i := 1) rfl (.cons (i := 5) rfl (.cons (i := 6) rfl (.nil _)))))) ?_
          refine W_region ?_
          refine L_yld (Y_move rfl) rfl rfl rfl ?_
          refine L_yld (Y_add rfl rfl (by omega) (by omega)) rfl rfl rfl ?_
          refine L_yld (Y_assign rfl) rfl rfl rfl ?_
          refine L_nil ?_
          refine X_loop (k + 1) (.cons (i := 4) rfl (.cons (i := 0) rfl (.cons (i := 1) rfl (.cons (i := 5) (lki rfl (by rw [lst_n (k := k) (fun q => d q.2)])) (.cons (i := 6) rfl (.nil _)))))) ?_ ?_
          · exact ⟨by omega, rfl⟩
          · (try dsimp only)
            omega
      · refine W_block ?_
        refine W_seq ?_
        refine W_quiet (fun h' => h' = h) (by kernel_rfl) (by kernel_rfl) rfl ?_
        refine LQ_yld (fun h_ hI_ => by subst hI_; exact Y_move rfl) rfl rfl rfl ?_
        refine LQ_yld (fun h_ hI_ => by subst hI_; exact Y_move rfl) rfl rfl rfl ?_
        refine LQ_yld (fun h_ hI_ => by subst hI_; exact Y_idxr Tryd.underlying32 (show _ = some 6 by kernel_rfl) rfl rfl rfl hC (by omega) (by omega)) rfl rfl rfl ?_
        refine LQ_yld (fun h_ hI_ => by subst hI_; exact Y_fldr (k := ((i : Int)).toNat) (off := 5) (by kernel_rfl) rfl hC (by omega)) rfl rfl rfl ?_
        refine LQ_yld (fun h_ hI_ => by subst hI_; exact Y_ldr1 (off := 5) (k := ((i : Int)).toNat) (u := .int .i64 ((at_nod C ((i : Int)).toNat).cls)) Tryd.underlying3 rfl rfl rfl hC (by omega) rfl) rfl rfl rfl ?_
        refine LQ_yld (fun h_ hI_ => by subst hI_; exact Y_gtr rfl rfl) rfl rfl rfl ?_
        refine LQ_yld (fun h_ hI_ => by subst hI_; exact Y_move rfl) rfl rfl rfl ?_
        refine LQ_known (d := 20) true rfl (by exact decide_eq_true (by exact g1)) ?_
        refine LQ_yld (fun h_ hI_ => by subst hI_; exact Y_move rfl) rfl rfl rfl ?_
        refine LQ_yld (fun h_ hI_ => by subst hI_; exact Y_move rfl) rfl rfl rfl ?_
        refine LQ_yld (fun h_ hI_ => by subst hI_; exact Y_idxr Tryd.underlying32 (show _ = some 6 by kernel_rfl) rfl rfl rfl hC (by omega) (by omega)) rfl rfl rfl ?_
        refine LQ_yld (fun h_ hI_ => by subst hI_; exact Y_fldr (k := ((k : Int)).toNat) (off := 5) (by kernel_rfl) rfl hC (by omega)) rfl rfl rfl ?_
        refine LQ_yld (fun h_ hI_ => by subst hI_; exact Y_ldr1 (off := 5) (k := ((k : Int)).toNat) (u := .int .i64 ((at_nod C ((k : Int)).toNat).cls)) Tryd.underlying3 rfl rfl rfl hC (by omega) rfl) rfl rfl rfl ?_
        refine LQ_yld (fun h_ hI_ => by subst hI_; exact Y_move rfl) rfl rfl rfl ?_
        refine LQ_yld (fun h_ hI_ => by subst hI_; exact Y_move rfl) rfl rfl rfl ?_
        refine LQ_yld (fun h_ hI_ => by subst hI_; exact Y_idxr Tryd.underlying32 (show _ = some 6 by kernel_rfl) rfl rfl rfl hC (by omega) (by omega)) rfl rfl rfl ?_
        refine LQ_yld (fun h_ hI_ => by subst hI_; exact Y_fldr (k := ((i : Int)).toNat) (off := 5) (by kernel_rfl) rfl hC (by omega)) rfl rfl rfl ?_
        refine LQ_yld (fun h_ hI_ => by subst hI_; exact Y_ldr1 (off := 5) (k := ((i : Int)).toNat) (u := .int .i64 ((at_nod C ((i : Int)).toNat).cls)) Tryd.underlying3 rfl rfl rfl hC (by omega) rfl) rfl rfl rfl ?_
        refine LQ_yld (fun h_ hI_ => by subst hI_; exact Y_eql rfl rfl) rfl rfl rfl ?_
        refine LQ_yld (fun h_ hI_ => by subst hI_; exact Y_pick_t rfl rfl) rfl rfl rfl ?_
        refine LQ_yld (fun h_ hI_ => by subst hI_; exact Y_move rfl) rfl rfl rfl ?_
        refine LQ_known (d := 33) false rfl (by exact decide_eq_false (by exact g2)) ?_
        refine LQ_skip rfl rfl rfl ?_
        refine LQ_skip rfl rfl rfl ?_
        refine LQ_skip rfl rfl rfl ?_
        refine LQ_skip rfl rfl rfl ?_
        refine LQ_skip rfl rfl rfl ?_
        refine LQ_skip rfl rfl rfl ?_
        refine LQ_skip rfl rfl rfl ?_
        refine LQ_skip rfl rfl rfl ?_
        refine LQ_skip rfl rfl rfl ?_
        refine LQ_skip rfl rfl rfl ?_
        refine LQ_skip rfl rfl rfl ?_
        refine LQ_skip rfl rfl rfl ?_
        refine LQ_yld (fun h_ hI_ => by subst hI_; exact Y_pick_f rfl rfl) rfl rfl rfl ?_
        refine LQ_nil ?_
        rintro h rfl
        refine X_then ?_
        refine W_sub _ (.cons (i := 46) rfl (.cons (i := 4) rfl (.cons (i := 0) rfl (.cons (i := 1) rfl (.cons (i := 5) rfl (.cons (i := 6) rfl (.nil _))))))) ?_
        refine W_false rfl ?_
        refine W_skip ?_
        refine X_block ?_
        refine X_then ?_
        refine W_sub _ (.cons (i := 4) rfl (.cons (i := 0) rfl (.cons (i := 1) rfl (.cons (i := 5) rfl (.cons (i := 6) rfl (.nil _)))))) ?_
        refine W_region ?_
        refine L_yld (Y_move rfl) rfl rfl rfl ?_
        refine L_yld (Y_add rfl rfl (by omega) (by omega)) rfl rfl rfl ?_
        refine L_yld (Y_assign rfl) rfl rfl rfl ?_
        refine L_nil ?_
        refine X_loop (k + 1) (.cons (i := 4) rfl (.cons (i := 0) rfl (.cons (i := 1) rfl (.cons (i := 5) (lki rfl (by rw [lst_n (k := k) (fun q => g2 q.1.2)])) (.cons (i := 6) rfl (.nil _)))))) ?_ ?_
        · exact ⟨by omega, rfl⟩
        · (try dsimp only)
          omega
    · refine W_block ?_
      refine W_seq ?_
      refine W_quiet (fun h' => h' = h) (by kernel_rfl) (by kernel_rfl) rfl ?_
      refine LQ_yld (fun h_ hI_ => by subst hI_; exact Y_move rfl) rfl rfl rfl ?_
      refine LQ_yld (fun h_ hI_ => by subst hI_; exact Y_move rfl) rfl rfl rfl ?_
      refine LQ_yld (fun h_ hI_ => by subst hI_; exact Y_idxr Tryd.underlying32 (show _ = some 6 by kernel_rfl) rfl rfl rfl hC (by omega) (by omega)) rfl rfl rfl ?_
      refine LQ_yld (fun h_ hI_ => by subst hI_; exact Y_fldr (k := ((i : Int)).toNat) (off := 5) (by kernel_rfl) rfl hC (by omega)) rfl rfl rfl ?_
      refine LQ_yld (fun h_ hI_ => by subst hI_; exact Y_ldr1 (off := 5) (k := ((i : Int)).toNat) (u := .int .i64 ((at_nod C ((i : Int)).toNat).cls)) Tryd.underlying3 rfl rfl rfl hC (by omega) rfl) rfl rfl rfl ?_
      refine LQ_yld (fun h_ hI_ => by subst hI_; exact Y_gtr rfl rfl) rfl rfl rfl ?_
      refine LQ_yld (fun h_ hI_ => by subst hI_; exact Y_move rfl) rfl rfl rfl ?_
      refine LQ_known (d := 20) false rfl (by exact decide_eq_false (by exact g1)) ?_
      refine LQ_skip rfl rfl rfl ?_
      refine LQ_skip rfl rfl rfl ?_
      refine LQ_skip rfl rfl rfl ?_
      refine LQ_skip rfl rfl rfl ?_
      refine LQ_skip rfl rfl rfl ?_
      refine LQ_skip rfl rfl rfl ?_
      refine LQ_skip rfl rfl rfl ?_
      refine LQ_skip rfl rfl rfl ?_
      refine LQ_skip rfl rfl rfl ?_
      refine LQ_skip rfl rfl rfl ?_
      refine LQ_skip rfl rfl rfl ?_
      refine LQ_yld (fun h_ hI_ => by subst hI_; exact Y_pick_f rfl rfl) rfl rfl rfl ?_
      refine LQ_yld (fun h_ hI_ => by subst hI_; exact Y_move rfl) rfl rfl rfl ?_
      refine LQ_skip rfl rfl rfl ?_
      refine LQ_skip rfl rfl rfl ?_
      refine LQ_skip rfl rfl rfl ?_
      refine LQ_skip rfl rfl rfl ?_
      refine LQ_skip rfl rfl rfl ?_
      refine LQ_skip rfl rfl rfl ?_
      refine LQ_skip rfl rfl rfl ?_
      refine LQ_skip rfl rfl rfl ?_
      refine LQ_skip rfl rfl rfl ?_
      refine LQ_skip rfl rfl rfl ?_
      refine LQ_skip rfl rfl rfl ?_
      refine LQ_skip rfl rfl rfl ?_
      refine LQ_yld (fun h_ hI_ => by subst hI_; exact Y_pick_f rfl rfl) rfl rfl rfl ?_
      refine LQ_nil ?_
      rintro h rfl
      refine X_then ?_
      refine W_sub _ (.cons (i := 46) rfl (.cons (i := 4) rfl (.cons (i := 0) rfl (.cons (i := 1) rfl (.cons (i := 5) rfl (.cons (i := 6) rfl (.nil _))))))) ?_
      refine W_false rfl ?_
      refine W_skip ?_
      refine X_block ?_
      refine X_then ?_
      refine W_sub _ (.cons (i := 4) rfl (.cons (i := 0) rfl (.cons (i := 1) rfl (.cons (i := 5) rfl (.cons (i := 6) rfl (.nil _)))))) ?_
      refine W_region ?_
      refine L_yld (Y_move rfl) rfl rfl rfl ?_
      refine L_yld (Y_add rfl rfl (by omega) (by omega)) rfl rfl rfl ?_
      refine L_yld (Y_assign rfl) rfl rfl rfl ?_
      refine L_nil ?_
      refine X_loop (k + 1) (.cons (i := 4) rfl (.cons (i := 0) rfl (.cons (i := 1) rfl (.cons (i := 5) (lki rfl (by rw [lst_n (k := k) (fun q => g1 q.1.1)])) (.cons (i := 6) rfl (.nil _)))))) ?_ ?_
      · exact ⟨by omega, rfl⟩
      · (try dsimp only)
        omega
  · refine W_exit ?_
    refine X_then_exit ?_
    refine X_then_exit ?_
    refine X_block_hit ?_
    refine X_then ?_
    refine W_sub _ (.cons (i := 4) rfl (.cons (i := 5) rfl (.nil _))) ?_
    refine W_seq ?_
    refine W_region ?_
    refine L_yld (Y_move rfl) rfl rfl rfl ?_
    refine L_yld (Y_assign rfl) rfl rfl rfl ?_
    refine L_nil ?_
    refine X_then ?_
    refine W_sub _ (.cons (i := 4) rfl (.nil _)) ?_
    refine W_ret ?_
    refine X_ret1 rfl rfl ?_
    exact ⟨by rw [show k = C.length by omega], rfl⟩

set_option maxRecDepth 100000 in
theorem ref14_Members (h : Heap) (w : Value) (l : List Nod) (hl : Rows nodS h w l) (hm : l.length ≤ 1000000000) (hs : ∀ x ∈ l, x.path.length ≤ 100000000000 ∧ x.target.length ≤ 100000000000 ∧ x.data.length ≤ 100000000000) : Cal Tryd.prog 22 #[w] h (fun v h' => ∃ s0 L0, v = .tuple #[s0, .int .i64 (tpos l), .int .i64 (terr l)] ∧ Rows memS h' s0 L0 ∧ (L0.map erm = mbs l) ∧ Ext h h') := by
  refine Cal_enter (args := [w]) Tryd.func22 rfl rfl rfl (fun σ => ?_)
  refine W_seq ?_
  refine W_region ?_
  refine L_yld (Y_assign rfl) rfl rfl rfl ?_
  refine L_yld (Y_assign rfl) rfl rfl rfl ?_
  refine L_yld (Y_assign rfl) rfl rfl rfl ?_
  refine L_nil ?_
  refine X_then ?_
  refine W_seq ?_
  refine W_region ?_
  refine L_yld (Y_move rfl) rfl rfl rfl ?_
  refine L_call (E_call (by kernel_rfl) rfl) (ref13_Check _ w l hl (by omega) (fun x hx => by have := hs x hx; omega)) rfl rfl rfl ?_
  rintro _ h1 ⟨rfl, hx1⟩
  refine L_yld (Y_move rfl) rfl rfl rfl ?_
  refine L_yld (Y_extract (v := .int .i64 (tpos l)) rfl rfl) rfl rfl rfl ?_
  refine L_yld (Y_extract (v := .int .i64 (terr l)) rfl rfl) rfl rfl rfl ?_
  refine L_yld (Y_assign rfl) rfl rfl rfl ?_
  refine L_yld (Y_assign rfl) rfl rfl rfl ?_
  refine L_nil ?_
  refine X_then ?_
  refine W_sub _ (.cons (i := 6) rfl (.cons (i := 5) rfl (.cons (i := 4) rfl (.cons (i := 3) rfl (.cons (i := 2) rfl (.cons (i := 0) rfl (.nil _))))))) ?_
  refine W_seq ?_
  refine W_seq ?_
  refine W_region ?_
  refine L_yld (Y_move rfl) rfl rfl rfl ?_
  refine L_yld (Y_neq rfl rfl) rfl rfl rfl ?_
  refine L_nil ?_
  refine X_then ?_
  refine W_sub _ (.cons (i := 17) rfl (.cons (i := 6) rfl (.cons (i := 5) rfl (.cons (i := 4) rfl (.cons (i := 3) rfl (.cons (i := 2) rfl (.cons (i := 0) rfl (.nil _)))))))) ?_
  refine W_splitd rfl (fun e => ?_) (fun e => ?_)
  · refine W_seq ?_
    refine W_region ?_
    refine L_yld (Y_move rfl) rfl rfl rfl ?_
    refine L_yld (Y_move rfl) rfl rfl rfl ?_
    refine L_yld (Y_assign rfl) rfl rfl rfl ?_
    refine L_yld (Y_assign rfl) rfl rfl rfl ?_
    refine L_yld (Y_assign rfl) rfl rfl rfl ?_
    refine L_nil ?_
    refine X_then ?_
    refine W_sub _ (.cons (i := 4) rfl (.cons (i := 3) rfl (.cons (i := 2) rfl (.cons (i := 0) rfl (.nil _))))) ?_
    refine W_ret ?_
    refine X_then_ret ?_
    refine X_ret3 rfl rfl rfl rfl ?_
    exact ⟨_, [], rfl, Rows.nil memS _, by unfold mbs; rw [if_neg e]; rfl, hx1⟩
  · refine W_skip ?_
    refine X_then ?_
    refine W_sub _ (.cons (i := 4) rfl (.cons (i := 3) rfl (.cons (i := 2) rfl (.cons (i := 0) rfl (.nil _))))) ?_
    have hz := Classical.not_not.1 e
    refine W_seq ?_
    refine W_region ?_
    refine L_yld (Y_move rfl) rfl rfl rfl ?_
    refine L_call (E_call (by kernel_rfl) rfl) (ref13_Canon _ w l (hl.ext hx1) hm hs) rfl rfl rfl ?_
    rintro s02 h2 ⟨_, L03, rfl, hr04, hq05, hx6⟩
    refine L_yld (Y_assign rfl) rfl rfl rfl ?_
    refine L_nil ?_
    refine X_then ?_
    refine W_sub _ (.cons (i := 0) rfl (.cons (i := 4) rfl (.cons (i := 3) rfl (.cons (i := 2) rfl (.nil _))))) ?_
    refine W_seq ?_
    refine W_region ?_
    refine L_yld (Y_assign rfl) rfl rfl rfl ?_
    refine L_nil ?_
    refine X_then ?_
    refine W_seq ?_
    refine W_seq ?_
    refine W_region ?_
    refine L_yld (Y_assign rfl) rfl rfl rfl ?_
    refine L_nil ?_
    refine X_then ?_
    have hqC := hq05
    have hsC := can_all (P := okl) hq05 hs
    refine W_block ?_
    refine W_loop (S := Nat × List Mem × Value) (fun (i, O, vo) => [(0, s02), (4, .int .i64 0), (3, .int .i64 0), (2, .slice none 0 0), (7, vo), (8, .int .i64 ((i : Int)))]) (fun (i, O, vo) h' => i ≤ (L03).length ∧ O.length = i ∧ O.map erm = (List.range i).map (rmem ((L03).map er)) ∧ (∀ x ∈ O, memS.ok h' x) ∧ (∀ x ∈ O, ∀ b, blk2 x.dv = some b → b ∉ (blockOf vo).toList) ∧ Ext h2 h' ∧ RowsO memS h' h2.size vo O) (fun (i, O, vo) => (L03).length - i) (0, [], .slice none 0 0) (.cons (i := 0) rfl (.cons (i := 4) rfl (.cons (i := 3) rfl (.cons (i := 2) rfl (.cons (i := 7) rfl (.cons (i := 8) rfl (.nil _))))))) ?_ ?_
    · exact ⟨Nat.zero_le _, rfl, rfl, (fun x hx => by cases hx), (fun x hx => by cases hx), Ext.refl _, RowsO.nil _ _ _⟩
    rintro ⟨i, O, vo⟩ h3 ⟨hi, hlO, hTO, hkB, hpB, hxB, hoB⟩
    show W _ _ _ _ _ [(0, s02), (4, .int .i64 0), (3, .int .i64 0), (2, .slice none 0 0), (7, vo), (8, .int .i64 ((i : Int)))] _
    refine W_seq ?_
    refine W_seq ?_
    refine W_region ?_
    refine L_yld (Y_move rfl) rfl rfl rfl ?_
    refine L_yld (Y_move rfl) rfl rfl rfl ?_
    refine L_yld (Y_lenr Tryd.underlying32 rfl (hr04.ext hxB)) rfl rfl rfl ?_
    refine L_yld (Y_lss rfl rfl) rfl rfl rfl ?_
    refine L_nil ?_
    refine X_then ?_
    refine W_sub _ (.cons (i := 25) rfl (.cons (i := 0) rfl (.cons (i := 4) rfl (.cons (i := 3) rfl (.cons (i := 2) rfl (.cons (i := 7) rfl (.cons (i := 8) rfl (.nil _)))))))) ?_
    refine W_splitd rfl (fun c => ?_) (fun c => ?_)
    · refine W_skip ?_
      refine X_then ?_
      refine W_sub _ (.cons (i := 0) rfl (.cons (i := 4) rfl (.cons (i := 3) rfl (.cons (i := 2) rfl (.cons (i := 7) rfl (.cons (i := 8) rfl (.nil _))))))) ?_
      have hmm : okl (at_nod L03 i).path (at_nod L03 i).target (at_nod L03 i).data := hsC _ (can_mem (k := i) (by omega))
      unfold okl at hmm
      refine W_seq ?_
      refine W_block ?_
      refine W_seq ?_
      refine W_region ?_
      refine L_yld (Y_move rfl) rfl rfl rfl ?_
      refine L_yld (Y_move rfl) rfl rfl rfl ?_
      refine L_yld (Y_idxr Tryd.underlying32 (show _ = some 6 by kernel_rfl) rfl rfl rfl (hr04.ext hxB) (by omega) (by omega)) rfl rfl rfl ?_
      refine L_yld (Y_ldrA0 (k := ((i : Int)).toNat) (us := [.int .i64 ((at_nod L03 ((i : Int)).toNat).kind), str ((at_nod L03 ((i : Int)).toNat).path), .int .i64 ((at_nod L03 ((i : Int)).toNat).mode), str ((at_nod L03 ((i : Int)).toNat).target), ((at_nod L03 ((i : Int)).toNat).dv), .int .i64 ((at_nod L03 ((i : Int)).toNat).cls)]) Tryd.underlying48 rfl (show _ = some 6 by kernel_rfl) rfl rfl (hr04.ext hxB) (by omega) rfl) rfl rfl rfl ?_
      refine L_call (E_call (by kernel_rfl) rfl) (ref13_Entry _ (at_nod L03 ((i : Int)).toNat) (show Bytes _ ((at_nod L03 ((i : Int)).toNat).dv) ((at_nod L03 ((i : Int)).toNat).data) from (hr04.ext hxB).okat (k := ((i : Int)).toNat) (by omega)) (by show (at_nod L03 i).data.length ≤ _; omega)) rfl rfl rfl ?_
      rintro _ h4 ⟨rfl, hx7⟩
      refine L_yld (Y_build (v := .agg #[.int .i64 ((at_nod L03 ((i : Int)).toNat).kind), str ((at_nod L03 ((i : Int)).toNat).path), .int .i64 ((at_nod L03 ((i : Int)).toNat).mode), str ((at_nod L03 ((i : Int)).toNat).target), .int .i64 (nsize (at_nod L03 ((i : Int)).toNat)), .slice none 0 0]) (pv := [(0, .agg #[.int .i64 ((at_nod L03 ((i : Int)).toNat).kind), str ((at_nod L03 ((i : Int)).toNat).path), .int .i64 ((at_nod L03 ((i : Int)).toNat).mode), str ((at_nod L03 ((i : Int)).toNat).target), .int .i64 (nsize (at_nod L03 ((i : Int)).toNat))])]) (evp (is := [0]) (os := [.tmp 32]) (vs := [.agg #[.int .i64 ((at_nod L03 ((i : Int)).toNat).kind), str ((at_nod L03 ((i : Int)).toNat).path), .int .i64 ((at_nod L03 ((i : Int)).toNat).mode), str ((at_nod L03 ((i : Int)).toNat).target), .int .i64 (nsize (at_nod L03 ((i : Int)).toNat))]]) rfl rfl) (fun _ => by kernel_rfl)) rfl rfl rfl ?_
      refine L_mks (M_alloc (u := .agg #[.int .i64 0, str [], .int .i64 0, str [], .int .i64 0, .slice none 0 0]) (by kernel_rfl)) rfl rfl rfl ?_
      rintro _ h5 ⟨rfl, hn8⟩
      have hk9 : Blk h5 h4.size [.int .i64 0, str [], .int .i64 0, str [], .int .i64 0, .slice none 0 0] := hn8.blk
      refine L_dos (D_store (us := [.int .i64 ((at_nod L03 ((i : Int)).toNat).kind), str ((at_nod L03 ((i : Int)).toNat).path), .int .i64 ((at_nod L03 ((i : Int)).toNat).mode), str ((at_nod L03 ((i : Int)).toNat).target), .int .i64 (nsize (at_nod L03 ((i : Int)).toNat)), .slice none 0 0]) (show _ = some 6 by kernel_rfl) rfl rfl rfl (by simp [Value.oneCell']) hk9 (by simp)) rfl rfl ?_
      rintro h6 hp10
      have hk11 : Blk h6 h4.size [.int .i64 ((at_nod L03 ((i : Int)).toNat).kind), str ((at_nod L03 ((i : Int)).toNat).path), .int .i64 ((at_nod L03 ((i : Int)).toNat).mode), str ((at_nod L03 ((i : Int)).toNat).target), .int .i64 (nsize (at_nod L03 ((i : Int)).toNat)), .slice none 0 0] := hp10.blk
      refine L_nil ?_
      refine X_then ?_
      refine W_sub _ (.cons (i := 9) rfl (.cons (i := 0) rfl (.cons (i := 4) rfl (.cons (i := 3) rfl (.cons (i := 2) rfl (.cons (i := 7) rfl (.cons (i := 8) rfl (.nil _)))))))) ?_
      refine W_seq ?_
      refine W_seq ?_
      refine W_region ?_
      refine L_yld (Y_move rfl) rfl rfl rfl ?_
      refine L_yld (Y_move rfl) rfl rfl rfl ?_
      refine L_yld (Y_idxr Tryd.underlying32 (show _ = some 6 by kernel_rfl) rfl rfl rfl (hr04.ext (((hxB.trans hx7).trans hn8.ext).then' hp10.only (by simp) (Nat.le_trans hxB.size hx7.size))) (by omega) (by omega)) rfl rfl rfl ?_
      refine L_yld (Y_fldr (k := ((i : Int)).toNat) (off := 0) (by kernel_rfl) rfl (hr04.ext (((hxB.trans hx7).trans hn8.ext).then' hp10.only (by simp) (Nat.le_trans hxB.size hx7.size))) (by omega)) rfl rfl rfl ?_
      refine L_yld (Y_ldr1 (off := 0) (k := ((i : Int)).toNat) (u := .int .i64 ((at_nod L03 ((i : Int)).toNat).kind)) Tryd.underlying3 rfl rfl rfl (hr04.ext (((hxB.trans hx7).trans hn8.ext).then' hp10.only (by simp) (Nat.le_trans hxB.size hx7.size))) (by omega) rfl) rfl rfl rfl ?_
      refine L_yld (Y_eql rfl rfl) rfl rfl rfl ?_
      refine L_nil ?_
      refine X_then ?_
      refine W_sub _ (.cons (i := 39) rfl (.cons (i := 9) rfl (.cons (i := 0) rfl (.cons (i := 4) rfl (.cons (i := 3) rfl (.cons (i := 2) rfl (.cons (i := 7) rfl (.cons (i := 8) rfl (.nil _))))))))) ?_
      refine W_splitd rfl (fun a => ?_) (fun a => ?_)
      · refine W_seq ?_
        refine W_region ?_
        refine L_yld (Y_move rfl) rfl rfl rfl ?_
        refine L_yld (Y_move rfl) rfl rfl rfl ?_
        refine L_call (E_call (by kernel_rfl) rfl) (ref14_least _ s02 L03 (hr04.ext (((hxB.trans hx7).trans hn8.ext).then' hp10.only (by simp) (Nat.le_trans hxB.size hx7.size))) i (by have := hqC.1; omega) (by omega) hsC) rfl rfl rfl ?_
        rintro _ h6 ⟨rfl, rfl⟩
        refine L_yld (Y_assign rfl) rfl rfl rfl ?_
        refine L_nil ?_
        refine X_then ?_
        refine W_sub _ (.cons (i := 10) rfl (.cons (i := 9) rfl (.cons (i := 0) rfl (.cons (i := 4) rfl (.cons (i := 3) rfl (.cons (i := 2) rfl (.cons (i := 7) rfl (.cons (i := 8) rfl (.nil _))))))))) ?_
        have hll := lst_lt (C := L03) (i := i) (by omega) (L03).length (Nat.le_refl _)
        refine W_seq ?_
        refine W_region ?_
        refine L_yld (Y_move rfl) rfl rfl rfl ?_
        refine L_yld (Y_move rfl) rfl rfl rfl ?_
        refine L_yld (Y_eql rfl rfl) rfl rfl rfl ?_
        refine L_nil ?_
        refine X_then ?_
        refine W_sub _ (.cons (i := 45) rfl (.cons (i := 10) rfl (.cons (i := 9) rfl (.cons (i := 0) rfl (.cons (i := 4) rfl (.cons (i := 3) rfl (.cons (i := 2) rfl (.cons (i := 7) rfl (.cons (i := 8) rfl (.nil _)))))))))) ?_
        refine W_splitd rfl (fun b => ?_) (fun b => ?_)
        · refine W_region ?_
          refine L_mks (M_litb (l := ([] : List UInt8)) (cells := []) (pv := []) (E := 5) (evp (is := []) (os := []) (vs := []) rfl rfl) rfl rfl (fun _ => by kernel_rfl)) rfl rfl rfl ?_
          rintro v12 h7 ⟨ho13, hx14⟩
          refine L_yld (Y_move rfl) rfl rfl rfl ?_
          refine L_yld (Y_move rfl) rfl rfl rfl ?_
          refine L_yld (Y_idxr Tryd.underlying32 (show _ = some 6 by kernel_rfl) rfl rfl rfl (hr04.ext ((((hxB.trans hx7).trans hn8.ext).then' hp10.only (by simp) (Nat.le_trans hxB.size hx7.size)).trans hx14)) (by omega) (by omega)) rfl rfl rfl ?_
          refine L_yld (Y_fldr (k := ((i : Int)).toNat) (off := 4) (by kernel_rfl) rfl (hr04.ext ((((hxB.trans hx7).trans hn8.ext).then' hp10.only (by simp) (Nat.le_trans hxB.size hx7.size)).trans hx14)) (by omega)) rfl rfl rfl ?_
          refine L_yld (Y_ldr1 (off := 4) (k := ((i : Int)).toNat) (u := ((at_nod L03 ((i : Int)).toNat).dv)) Tryd.underlying28 rfl rfl rfl (hr04.ext ((((hxB.trans hx7).trans hn8.ext).then' hp10.only (by simp) (Nat.le_trans hxB.size hx7.size)).trans hx14)) (by omega) rfl) rfl rfl rfl ?_
          refine L_mks (M_appb Tryd.underlying28 (by unfold elemRow; kernel_rfl) rfl rfl ho13 (show Bytes _ ((at_nod L03 ((i : Int)).toNat).dv) ((at_nod L03 ((i : Int)).toNat).data) from (hr04.ext ((((hxB.trans hx7).trans hn8.ext).then' hp10.only (by simp) (Nat.le_trans hxB.size hx7.size)).trans hx14)).okat (k := ((i : Int)).toNat) (by omega)) hx14.size (by first | omega | (simp; omega))) rfl rfl rfl ?_
          rintro v15 h8 ha16
          refine L_yld (Y_fieldAddr (off := 5) (by kernel_rfl) rfl rfl) rfl rfl rfl ?_
          refine L_dos (D_store (us := [v15]) (show _ = some 1 by kernel_rfl) rfl rfl (cells_slice ha16.own.bytes) (by intro u_ hu_; simp only [List.mem_cons, List.not_mem_nil, or_false] at hu_; rcases hu_ with rfl <;> first | rfl | exact (ha16.own.bytes).cell1) (hk11.ext (hx14.then' ha16.only ha16.ge (Nat.le_refl _))) (by simp)) rfl rfl ?_
          rintro h9 hp17
          have hk18 : Blk h9 h4.size [.int .i64 ((at_nod L03 ((i : Int)).toNat).kind), str ((at_nod L03 ((i : Int)).toNat).path), .int .i64 ((at_nod L03 ((i : Int)).toNat).mode), str ((at_nod L03 ((i : Int)).toNat).target), .int .i64 (nsize (at_nod L03 ((i : Int)).toNat)), v15] := hp17.blk
          refine L_nil ?_
          refine X_then ?_
          refine W_sub _ (.cons (i := 9) rfl (.cons (i := 0) rfl (.cons (i := 4) rfl (.cons (i := 3) rfl (.cons (i := 2) rfl (.cons (i := 7) rfl (.cons (i := 8) rfl (.nil _)))))))) ?_
          have hn1 : Bytes h9 v15 (at_nod L03 i).data := (ha16.own.only1 hp17.only (Nat.lt_of_lt_of_le hk9.lt hp10.only.size)).bytes
          have hn2 : ∀ b, blk2 v15 = some b → b ∉ (blockOf vo).toList := apOwn (ha16.own.only1 hp17.only (Nat.lt_of_lt_of_le hk9.lt hp10.only.size)) hoB (Nat.le_trans (Nat.le_trans hx7.size hn8.ext.size) hp10.only.size)
          have hkA : ∀ x ∈ O, memS.ok h9 x := fun x hx => memS.ext (hkB x hx) (((((hx7.trans hn8.ext).then' hp10.only (by simp) hx7.size).trans hx14).then' ha16.only ha16.ge (Nat.le_trans (Nat.le_trans hx7.size hn8.ext.size) hp10.only.size)).then' hp17.only (by simp) hx7.size)
          refine W_region ?_
          refine L_yld (Y_move rfl) rfl rfl rfl ?_
          refine L_yld (Y_ldbox (us := [.int .i64 ((at_nod L03 ((i : Int)).toNat).kind), str ((at_nod L03 ((i : Int)).toNat).path), .int .i64 ((at_nod L03 ((i : Int)).toNat).mode), str ((at_nod L03 ((i : Int)).toNat).target), .int .i64 (nsize (at_nod L03 ((i : Int)).toNat)), v15]) Tryd.underlying30 rfl (show _ = some 6 by kernel_rfl) rfl hk18 rfl) rfl rfl rfl ?_
          refine L_mks (M_litr (S := memS) (l := ([⟨(at_nod L03 ((i : Int)).toNat).kind, (at_nod L03 ((i : Int)).toNat).path, (at_nod L03 ((i : Int)).toNat).mode, (at_nod L03 ((i : Int)).toNat).target, nsize (at_nod L03 ((i : Int)).toNat), v15, (at_nod L03 ((i : Int)).toNat).data⟩] : List Mem)) (cells := [.int .i64 ((at_nod L03 ((i : Int)).toNat).kind), str ((at_nod L03 ((i : Int)).toNat).path), .int .i64 ((at_nod L03 ((i : Int)).toNat).mode), str ((at_nod L03 ((i : Int)).toNat).target), .int .i64 (nsize (at_nod L03 ((i : Int)).toNat)), v15]) (pv := [(0, .agg #[.int .i64 ((at_nod L03 ((i : Int)).toNat).kind), str ((at_nod L03 ((i : Int)).toNat).path), .int .i64 ((at_nod L03 ((i : Int)).toNat).mode), str ((at_nod L03 ((i : Int)).toNat).target), .int .i64 (nsize (at_nod L03 ((i : Int)).toNat)), v15])]) (E := 30) (evp (is := [0]) (os := [.tmp 72]) (vs := [.agg #[.int .i64 ((at_nod L03 ((i : Int)).toNat).kind), str ((at_nod L03 ((i : Int)).toNat).path), .int .i64 ((at_nod L03 ((i : Int)).toNat).mode), str ((at_nod L03 ((i : Int)).toNat).target), .int .i64 (nsize (at_nod L03 ((i : Int)).toNat)), v15]]) rfl rfl) rfl rfl (fun _ => by kernel_rfl) (by simp only [List.mem_cons, List.not_mem_nil, or_false, forall_eq_or_imp, forall_eq]; exact (ha16.own.only1 hp17.only (Nat.lt_of_lt_of_le hk9.lt hp10.only.size)).bytes)) rfl rfl rfl ?_
          rintro v19 h10 ⟨ho20, hx21⟩
          have hkD : ∀ x ∈ O, memS.ok h10 x := fun x hx => memS.ext (hkA x hx) hx21
          have hnD := Bytes.ext hn1 hx21
          refine L_mks (M_apprG (z := 6) (bytes := 80) (z0 := (.agg #[.int .i64 0, str [], .int .i64 0, str [], .int .i64 0, .slice none 0 0])) Tryd.underlying22 (by unfold elemRow; kernel_rfl) rfl rfl (by decide) rfl rfl (hoB.ext ((((((hx7.trans hn8.ext).then' hp10.only (by simp) hx7.size).trans hx14).then' ha16.only ha16.ge (Nat.le_trans (Nat.le_trans hx7.size hn8.ext.size) hp10.only.size)).then' hp17.only (by simp) hx7.size).trans hx21)) ho20.rows (Nat.le_trans (Nat.le_trans (Nat.le_trans (Nat.le_trans (Nat.le_trans (Nat.le_trans (Nat.le_trans hxB.size hx7.size) hn8.ext.size) hp10.only.size) hx14.size) ha16.only.size) hp17.only.size) hx21.size) (by first | (simp; omega) | (simp; done) | omega) (fun h' y hge x hx => (List.mem_append.1 hx).elim (fun q => okR (hkD x q) y (hpB x q)) (fun q => by rw [List.mem_singleton.1 q]; exact okRb hnD y hn2))) rfl rfl rfl ?_
          rintro v22 h11 ⟨ha23, ha23l⟩
          refine L_yld (Y_assign rfl) rfl rfl rfl ?_
          refine L_nil ?_
          refine X_block ?_
          refine X_then ?_
          refine W_sub _ (.cons (i := 7) rfl (.cons (i := 0) rfl (.cons (i := 4) rfl (.cons (i := 3) rfl (.cons (i := 2) rfl (.cons (i := 8) rfl (.nil _))))))) ?_
          refine W_region ?_
          refine L_yld (Y_move rfl) rfl rfl rfl ?_
          refine L_yld (Y_add rfl rfl (by omega) (by omega)) rfl rfl rfl ?_
          refine L_yld (Y_assign rfl) rfl rfl rfl ?_
          refine L_nil ?_
          refine X_loop ((i + 1, (O ++ ([⟨(at_nod L03 ((i : Int)).toNat).kind, (at_nod L03 ((i : Int)).toNat).path, (at_nod L03 ((i : Int)).toNat).mode, (at_nod L03 ((i : Int)).toNat).target, nsize (at_nod L03 ((i : Int)).toNat), v15, (at_nod L03 ((i : Int)).toNat).data⟩] : List Mem)), v22)) (.cons (i := 0) rfl (.cons (i := 4) rfl (.cons (i := 3) rfl (.cons (i := 2) rfl (.cons (i := 7) rfl (.cons (i := 8) rfl (.nil _))))))) ?_ ?_
          · exact ⟨by omega, by simp [hlO], rng_app hTO (by have a' : (at_nod L03 i).kind = 1 := a; rw [rmem_f (i := i) a (by omega)]; simp [erm, nsize, a']), all_app (P := fun x => memS.ok _ x) (fun x hx => (ha23.own).2 x (List.mem_append_left _ hx)) ((ha23.own).2 _ (by simp)), all_app (P := fun x => ∀ b, blk2 x.dv = some b → b ∉ (blockOf _).toList) (fun x hx => apR ha23l (hkD x hx) (hpB x hx)) (apRb ha23l hnD hn2), ((((((((hxB.trans hx7).trans hn8.ext).then' hp10.only (by simp) (Nat.le_trans hxB.size hx7.size)).trans hx14).then' ha16.only ha16.ge (Nat.le_trans (Nat.le_trans (Nat.le_trans hxB.size hx7.size) hn8.ext.size) hp10.only.size)).then' hp17.only (by simp) (Nat.le_trans hxB.size hx7.size)).trans hx21).then' ha23.only ha23.ge (Nat.le_refl _)), ha23.own⟩
          · (try dsimp only)
            omega
        · refine W_pers [(10, .int .i64 ((lst L03 i L03.length : Int))), (9, .pointer (some ⟨h4.size, 0, none⟩)), (0, s02), (4, .int .i64 0), (3, .int .i64 0), (2, .slice none 0 0), (7, vo), (8, .int .i64 ((i : Int)))] (.cons (i := 10) rfl (.cons (i := 9) rfl (.cons (i := 0) rfl (.cons (i := 4) rfl (.cons (i := 3) rfl (.cons (i := 2) rfl (.cons (i := 7) rfl (.cons (i := 8) rfl (.nil _))))))))) (by kernel_rfl) ?_
          refine LP_op 0 (fun _ vv => s02 = vv) [] rfl rfl (by kernel_rfl) (fun _ _ _ _ p => p) ?_ ?_
          · intro h12 hx24
            refine Needs_nil ?_
            refine Stp_yld (Y_move rfl) rfl ?_
            exact rfl
          refine LP_op 1 (fun _ vv => .int .i64 ((i : Int)) = vv) [] rfl rfl (by kernel_rfl) (fun _ _ _ _ p => p) ?_ ?_
          · intro h13 hx25
            refine Needs_nil ?_
            refine Stp_yld (Y_move rfl) rfl ?_
            exact rfl
          refine LP_op 2 (fun _ vv => .pointer (some (elemAddr s02 (((i : Int)).toNat * 6))) = vv) [(0, 54), (1, 55)] rfl rfl (by kernel_rfl) (fun _ _ _ _ p => p) ?_ ?_
          · intro h14 hx26
            rintro _ rfl
            rintro _ rfl
            refine Needs_nil ?_
            refine Stp_yld (Y_idxr Tryd.underlying32 (show _ = some 6 by kernel_rfl) rfl rfl rfl (hr04.ext ((((hxB.trans hx7).trans hn8.ext).then' hp10.only (by simp) (Nat.le_trans hxB.size hx7.size)).trans hx26)) (by omega) (by omega)) rfl ?_
            exact rfl
          refine LP_op 3 (fun _ vv => .pointer (some (elemAddr s02 (((i : Int)).toNat * 6 + 1))) = vv) [(2, 56)] rfl rfl (by kernel_rfl) (fun _ _ _ _ p => p) ?_ ?_
          · intro h15 hx27
            rintro _ rfl
            refine Needs_nil ?_
            refine Stp_yld (Y_fldr (k := ((i : Int)).toNat) (off := 1) (by kernel_rfl) rfl (hr04.ext ((((hxB.trans hx7).trans hn8.ext).then' hp10.only (by simp) (Nat.le_trans hxB.size hx7.size)).trans hx27)) (by omega)) rfl ?_
            exact rfl
          refine LP_op 4 (fun _ vv => str ((at_nod L03 ((i : Int)).toNat).path) = vv) [(3, 57)] rfl rfl (by kernel_rfl) (fun _ _ _ _ p => p) ?_ ?_
          · intro h16 hx28
            rintro _ rfl
            refine Needs_nil ?_
            refine Stp_yld (Y_ldr1 (off := 1) (k := ((i : Int)).toNat) (u := str ((at_nod L03 ((i : Int)).toNat).path)) Tryd.underlying9 rfl rfl rfl (hr04.ext ((((hxB.trans hx7).trans hn8.ext).then' hp10.only (by simp) (Nat.le_trans hxB.size hx7.size)).trans hx28)) (by omega) rfl) rfl ?_
            exact rfl
          refine LP_op 5 (fun _ vv => s02 = vv) [] rfl rfl (by kernel_rfl) (fun _ _ _ _ p => p) ?_ ?_
          · intro h17 hx29
            refine Needs_nil ?_
            refine Stp_yld (Y_move rfl) rfl ?_
            exact rfl
          refine LP_op 6 (fun _ vv => .int .i64 ((i : Int)) = vv) [] rfl rfl (by kernel_rfl) (fun _ _ _ _ p => p) ?_ ?_
          · intro h18 hx30
            refine Needs_nil ?_
            refine Stp_yld (Y_move rfl) rfl ?_
            exact rfl
          refine LP_op 7 (fun _ vv => .pointer (some (elemAddr s02 (((i : Int)).toNat * 6))) = vv) [(5, 59), (6, 60)] rfl rfl (by kernel_rfl) (fun _ _ _ _ p => p) ?_ ?_
          · intro h19 hx31
            rintro _ rfl
            rintro _ rfl
            refine Needs_nil ?_
            refine Stp_yld (Y_idxr Tryd.underlying32 (show _ = some 6 by kernel_rfl) rfl rfl rfl (hr04.ext ((((hxB.trans hx7).trans hn8.ext).then' hp10.only (by simp) (Nat.le_trans hxB.size hx7.size)).trans hx31)) (by omega) (by omega)) rfl ?_
            exact rfl
          refine LP_op 8 (fun _ vv => .pointer (some (elemAddr s02 (((i : Int)).toNat * 6 + 2))) = vv) [(7, 61)] rfl rfl (by kernel_rfl) (fun _ _ _ _ p => p) ?_ ?_
          · intro h20 hx32
            rintro _ rfl
            refine Needs_nil ?_
            refine Stp_yld (Y_fldr (k := ((i : Int)).toNat) (off := 2) (by kernel_rfl) rfl (hr04.ext ((((hxB.trans hx7).trans hn8.ext).then' hp10.only (by simp) (Nat.le_trans hxB.size hx7.size)).trans hx32)) (by omega)) rfl ?_
            exact rfl
          refine LP_op 9 (fun _ vv => .int .i64 ((at_nod L03 ((i : Int)).toNat).mode) = vv) [(8, 62)] rfl rfl (by kernel_rfl) (fun _ _ _ _ p => p) ?_ ?_
          · intro h21 hx33
            rintro _ rfl
            refine Needs_nil ?_
            refine Stp_yld (Y_ldr1 (off := 2) (k := ((i : Int)).toNat) (u := .int .i64 ((at_nod L03 ((i : Int)).toNat).mode)) Tryd.underlying3 rfl rfl rfl (hr04.ext ((((hxB.trans hx7).trans hn8.ext).then' hp10.only (by simp) (Nat.le_trans hxB.size hx7.size)).trans hx33)) (by omega) rfl) rfl ?_
            exact rfl
          refine LP_op 10 (fun _ vv => s02 = vv) [] rfl rfl (by kernel_rfl) (fun _ _ _ _ p => p) ?_ ?_
          · intro h22 hx34
            refine Needs_nil ?_
            refine Stp_yld (Y_move rfl) rfl ?_
            exact rfl
          refine LP_op 11 (fun _ vv => .int .i64 ((lst L03 i L03.length : Int)) = vv) [] rfl rfl (by kernel_rfl) (fun _ _ _ _ p => p) ?_ ?_
          · intro h23 hx35
            refine Needs_nil ?_
            refine Stp_yld (Y_move rfl) rfl ?_
            exact rfl
          refine LP_op 12 (fun _ vv => .pointer (some (elemAddr s02 (((lst L03 i L03.length : Int)).toNat * 6))) = vv) [(10, 64), (11, 65)] rfl rfl (by kernel_rfl) (fun _ _ _ _ p => p) ?_ ?_
          · intro h24 hx36
            rintro _ rfl
            rintro _ rfl
            refine Needs_nil ?_
            refine Stp_yld (Y_idxr Tryd.underlying32 (show _ = some 6 by kernel_rfl) rfl rfl rfl (hr04.ext ((((hxB.trans hx7).trans hn8.ext).then' hp10.only (by simp) (Nat.le_trans hxB.size hx7.size)).trans hx36)) (by omega) (by omega)) rfl ?_
            exact rfl
          refine LP_op 13 (fun _ vv => .pointer (some (elemAddr s02 (((lst L03 i L03.length : Int)).toNat * 6 + 1))) = vv) [(12, 66)] rfl rfl (by kernel_rfl) (fun _ _ _ _ p => p) ?_ ?_
          · intro h25 hx37
            rintro _ rfl
            refine Needs_nil ?_
            refine Stp_yld (Y_fldr (k := ((lst L03 i L03.length : Int)).toNat) (off := 1) (by kernel_rfl) rfl (hr04.ext ((((hxB.trans hx7).trans hn8.ext).then' hp10.only (by simp) (Nat.le_trans hxB.size hx7.size)).trans hx37)) (by omega)) rfl ?_
            exact rfl
          refine LP_op 14 (fun _ vv => str ((at_nod L03 ((lst L03 i L03.length : Int)).toNat).path) = vv) [(13, 67)] rfl rfl (by kernel_rfl) (fun _ _ _ _ p => p) ?_ ?_
          · intro h26 hx38
            rintro _ rfl
            refine Needs_nil ?_
            refine Stp_yld (Y_ldr1 (off := 1) (k := ((lst L03 i L03.length : Int)).toNat) (u := str ((at_nod L03 ((lst L03 i L03.length : Int)).toNat).path)) Tryd.underlying9 rfl rfl rfl (hr04.ext ((((hxB.trans hx7).trans hn8.ext).then' hp10.only (by simp) (Nat.le_trans hxB.size hx7.size)).trans hx38)) (by omega) rfl) rfl ?_
            exact rfl
          refine LP_op 15 (fun _ vv => .agg #[.int .i64 3, str ((at_nod L03 ((i : Int)).toNat).path), .int .i64 ((at_nod L03 ((i : Int)).toNat).mode), str ((at_nod L03 ((lst L03 i L03.length : Int)).toNat).path), .int .i64 0] = vv) [(4, 58), (14, 68), (9, 63)] rfl rfl (by kernel_rfl) (fun _ _ _ _ p => p) ?_ ?_
          · intro h27 hx39
            rintro _ rfl
            rintro _ rfl
            rintro _ rfl
            refine Needs_nil ?_
            refine Stp_yld (Y_build (v := .agg #[.int .i64 3, str ((at_nod L03 ((i : Int)).toNat).path), .int .i64 ((at_nod L03 ((i : Int)).toNat).mode), str ((at_nod L03 ((lst L03 i L03.length : Int)).toNat).path), .int .i64 0]) (pv := [(0, .int .i64 3), (1, str ((at_nod L03 ((i : Int)).toNat).path)), (2, .int .i64 ((at_nod L03 ((i : Int)).toNat).mode)), (3, str ((at_nod L03 ((lst L03 i L03.length : Int)).toNat).path))]) (evp (is := [0, 1, 2, 3]) (os := [.const (.int .i64 3), .tmp 58, .tmp 63, .tmp 68]) (vs := [.int .i64 3, str ((at_nod L03 ((i : Int)).toNat).path), .int .i64 ((at_nod L03 ((i : Int)).toNat).mode), str ((at_nod L03 ((lst L03 i L03.length : Int)).toNat).path)]) rfl rfl) (fun _ => by kernel_rfl)) rfl ?_
            exact rfl
          refine LP_op 16 (fun _ vv => .pointer (some ⟨h4.size, 0 + 0, none⟩) = vv) [] rfl rfl (by kernel_rfl) (fun _ _ _ _ p => p) ?_ ?_
          · intro h28 hx40
            refine Needs_nil ?_
            refine Stp_yld (Y_fieldAddr (off := 0) (by kernel_rfl) rfl rfl) rfl ?_
            exact rfl
          refine LP_tail rfl 17 [(15, 69), (16, 70)] rfl rfl (by kernel_rfl) (by kernel_rfl) (by kernel_rfl) rfl ?_
          intro h29 hx41
          rintro _ rfl
          rintro _ rfl
          refine Needs_nil ?_
          refine L_dos (D_store (us := [.int .i64 3, str ((at_nod L03 ((i : Int)).toNat).path), .int .i64 ((at_nod L03 ((i : Int)).toNat).mode), str ((at_nod L03 ((lst L03 i L03.length : Int)).toNat).path), .int .i64 0]) (show _ = some 5 by kernel_rfl) rfl rfl rfl (by simp [Value.oneCell']) (hk11.ext hx41) (by simp)) rfl rfl ?_
          rintro h30 hp42
          have hk43 : Blk h30 h4.size [.int .i64 3, str ((at_nod L03 ((i : Int)).toNat).path), .int .i64 ((at_nod L03 ((i : Int)).toNat).mode), str ((at_nod L03 ((lst L03 i L03.length : Int)).toNat).path), .int .i64 0, .slice none 0 0] := hp42.blk
          refine L_nil ?_
          refine X_then ?_
          refine W_sub _ (.cons (i := 9) rfl (.cons (i := 0) rfl (.cons (i := 4) rfl (.cons (i := 3) rfl (.cons (i := 2) rfl (.cons (i := 7) rfl (.cons (i := 8) rfl (.nil _)))))))) ?_
          have hn1 : Bytes h30 (.slice none 0 0) [] := Bytes.nil _
          have hn2 : ∀ b, blk2 (.slice none 0 0) = some b → b ∉ (blockOf vo).toList := fun b hb => by cases hb
          have hkA : ∀ x ∈ O, memS.ok h30 x := fun x hx => memS.ext (hkB x hx) ((((hx7.trans hn8.ext).then' hp10.only (by simp) hx7.size).trans hx41).then' hp42.only (by simp) hx7.size)
          refine W_region ?_
          refine L_yld (Y_move rfl) rfl rfl rfl ?_
          refine L_yld (Y_ldbox (us := [.int .i64 3, str ((at_nod L03 ((i : Int)).toNat).path), .int .i64 ((at_nod L03 ((i : Int)).toNat).mode), str ((at_nod L03 ((lst L03 i L03.length : Int)).toNat).path), .int .i64 0, .slice none 0 0]) Tryd.underlying30 rfl (show _ = some 6 by kernel_rfl) rfl hk43 rfl) rfl rfl rfl ?_
          refine L_mks (M_litr (S := memS) (l := ([⟨(3 : Int), (at_nod L03 ((i : Int)).toNat).path, (at_nod L03 ((i : Int)).toNat).mode, (at_nod L03 ((lst L03 i L03.length : Int)).toNat).path, (0 : Int), .slice none 0 0, ([] : List UInt8)⟩] : List Mem)) (cells := [.int .i64 3, str ((at_nod L03 ((i : Int)).toNat).path), .int .i64 ((at_nod L03 ((i : Int)).toNat).mode), str ((at_nod L03 ((lst L03 i L03.length : Int)).toNat).path), .int .i64 0, .slice none 0 0]) (pv := [(0, .agg #[.int .i64 3, str ((at_nod L03 ((i : Int)).toNat).path), .int .i64 ((at_nod L03 ((i : Int)).toNat).mode), str ((at_nod L03 ((lst L03 i L03.length : Int)).toNat).path), .int .i64 0, .slice none 0 0])]) (E := 30) (evp (is := [0]) (os := [.tmp 72]) (vs := [.agg #[.int .i64 3, str ((at_nod L03 ((i : Int)).toNat).path), .int .i64 ((at_nod L03 ((i : Int)).toNat).mode), str ((at_nod L03 ((lst L03 i L03.length : Int)).toNat).path), .int .i64 0, .slice none 0 0]]) rfl rfl) rfl rfl (fun _ => by kernel_rfl) (by simp only [List.mem_cons, List.not_mem_nil, or_false, forall_eq_or_imp, forall_eq]; exact (Bytes.nil _))) rfl rfl rfl ?_
          rintro v44 h31 ⟨ho45, hx46⟩
          have hkD : ∀ x ∈ O, memS.ok h31 x := fun x hx => memS.ext (hkA x hx) hx46
          have hnD := Bytes.ext hn1 hx46
          refine L_mks (M_apprG (z := 6) (bytes := 80) (z0 := (.agg #[.int .i64 0, str [], .int .i64 0, str [], .int .i64 0, .slice none 0 0])) Tryd.underlying22 (by unfold elemRow; kernel_rfl) rfl rfl (by decide) rfl rfl (hoB.ext (((((hx7.trans hn8.ext).then' hp10.only (by simp) hx7.size).trans hx41).then' hp42.only (by simp) hx7.size).trans hx46)) ho45.rows (Nat.le_trans (Nat.le_trans (Nat.le_trans (Nat.le_trans (Nat.le_trans (Nat.le_trans hxB.size hx7.size) hn8.ext.size) hp10.only.size) hx41.size) hp42.only.size) hx46.size) (by first | (simp; omega) | (simp; done) | omega) (fun h' y hge x hx => (List.mem_append.1 hx).elim (fun q => okR (hkD x q) y (hpB x q)) (fun q => by rw [List.mem_singleton.1 q]; exact okRb hnD y hn2))) rfl rfl rfl ?_
          rintro v47 h32 ⟨ha48, ha48l⟩
          refine L_yld (Y_assign rfl) rfl rfl rfl ?_
          refine L_nil ?_
          refine X_block ?_
          refine X_then ?_
          refine W_sub _ (.cons (i := 7) rfl (.cons (i := 0) rfl (.cons (i := 4) rfl (.cons (i := 3) rfl (.cons (i := 2) rfl (.cons (i := 8) rfl (.nil _))))))) ?_
          refine W_region ?_
          refine L_yld (Y_move rfl) rfl rfl rfl ?_
          refine L_yld (Y_add rfl rfl (by omega) (by omega)) rfl rfl rfl ?_
          refine L_yld (Y_assign rfl) rfl rfl rfl ?_
          refine L_nil ?_
          refine X_loop ((i + 1, (O ++ ([⟨(3 : Int), (at_nod L03 ((i : Int)).toNat).path, (at_nod L03 ((i : Int)).toNat).mode, (at_nod L03 ((lst L03 i L03.length : Int)).toNat).path, (0 : Int), .slice none 0 0, ([] : List UInt8)⟩] : List Mem)), v47)) (.cons (i := 0) rfl (.cons (i := 4) rfl (.cons (i := 3) rfl (.cons (i := 2) rfl (.cons (i := 7) rfl (.cons (i := 8) rfl (.nil _))))))) ?_ ?_
          · exact ⟨by omega, by simp [hlO], rng_app hTO (by rw [rmem_l (i := i) a (fun q => b (by omega))]; rfl), all_app (P := fun x => memS.ok _ x) (fun x hx => (ha48.own).2 x (List.mem_append_left _ hx)) ((ha48.own).2 _ (by simp)), all_app (P := fun x => ∀ b, blk2 x.dv = some b → b ∉ (blockOf _).toList) (fun x hx => apR ha48l (hkD x hx) (hpB x hx)) (apRb ha48l hnD hn2), (((((((hxB.trans hx7).trans hn8.ext).then' hp10.only (by simp) (Nat.le_trans hxB.size hx7.size)).trans hx41).then' hp42.only (by simp) (Nat.le_trans hxB.size hx7.size)).trans hx46).then' ha48.only ha48.ge (Nat.le_refl _)), ha48.own⟩
          · (try dsimp only)
            omega
      · refine W_skip ?_
        refine X_then ?_
        refine W_sub _ (.cons (i := 9) rfl (.cons (i := 0) rfl (.cons (i := 4) rfl (.cons (i := 3) rfl (.cons (i := 2) rfl (.cons (i := 7) rfl (.cons (i := 8) rfl (.nil _)))))))) ?_
        have hn1 : Bytes h6 (.slice none 0 0) [] := Bytes.nil _
        have hn2 : ∀ b, blk2 (.slice none 0 0) = some b → b ∉ (blockOf vo).toList := fun b hb => by cases hb
        have hkA : ∀ x ∈ O, memS.ok h6 x := fun x hx => memS.ext (hkB x hx) ((hx7.trans hn8.ext).then' hp10.only (by simp) hx7.size)
        refine W_region ?_
        refine L_yld (Y_move rfl) rfl rfl rfl ?_
        refine L_yld (Y_ldbox (us := [.int .i64 ((at_nod L03 ((i : Int)).toNat).kind), str ((at_nod L03 ((i : Int)).toNat).path), .int .i64 ((at_nod L03 ((i : Int)).toNat).mode), str ((at_nod L03 ((i : Int)).toNat).target), .int .i64 (nsize (at_nod L03 ((i : Int)).toNat)), .slice none 0 0]) Tryd.underlying30 rfl (show _ = some 6 by kernel_rfl) rfl hk11 rfl) rfl rfl rfl ?_
        refine L_mks (M_litr (S := memS) (l := ([⟨(at_nod L03 ((i : Int)).toNat).kind, (at_nod L03 ((i : Int)).toNat).path, (at_nod L03 ((i : Int)).toNat).mode, (at_nod L03 ((i : Int)).toNat).target, nsize (at_nod L03 ((i : Int)).toNat), .slice none 0 0, ([] : List UInt8)⟩] : List Mem)) (cells := [.int .i64 ((at_nod L03 ((i : Int)).toNat).kind), str ((at_nod L03 ((i : Int)).toNat).path), .int .i64 ((at_nod L03 ((i : Int)).toNat).mode), str ((at_nod L03 ((i : Int)).toNat).target), .int .i64 (nsize (at_nod L03 ((i : Int)).toNat)), .slice none 0 0]) (pv := [(0, .agg #[.int .i64 ((at_nod L03 ((i : Int)).toNat).kind), str ((at_nod L03 ((i : Int)).toNat).path), .int .i64 ((at_nod L03 ((i : Int)).toNat).mode), str ((at_nod L03 ((i : Int)).toNat).target), .int .i64 (nsize (at_nod L03 ((i : Int)).toNat)), .slice none 0 0])]) (E := 30) (evp (is := [0]) (os := [.tmp 72]) (vs := [.agg #[.int .i64 ((at_nod L03 ((i : Int)).toNat).kind), str ((at_nod L03 ((i : Int)).toNat).path), .int .i64 ((at_nod L03 ((i : Int)).toNat).mode), str ((at_nod L03 ((i : Int)).toNat).target), .int .i64 (nsize (at_nod L03 ((i : Int)).toNat)), .slice none 0 0]]) rfl rfl) rfl rfl (fun _ => by kernel_rfl) (by simp only [List.mem_cons, List.not_mem_nil, or_false, forall_eq_or_imp, forall_eq]; exact (Bytes.nil _))) rfl rfl rfl ?_
        rintro v49 h33 ⟨ho50, hx51⟩
        have hkD : ∀ x ∈ O, memS.ok h33 x := fun x hx => memS.ext (hkA x hx) hx51
        have hnD := Bytes.ext hn1 hx51
        refine L_mks (M_apprG (z := 6) (bytes := 80) (z0 := (.agg #[.int .i64 0, str [], .int .i64 0, str [], .int .i64 0, .slice none 0 0])) Tryd.underlying22 (by unfold elemRow; kernel_rfl) rfl rfl (by decide) rfl rfl (hoB.ext (((hx7.trans hn8.ext).then' hp10.only (by simp) hx7.size).trans hx51)) ho50.rows (Nat.le_trans (Nat.le_trans (Nat.le_trans (Nat.le_trans hxB.size hx7.size) hn8.ext.size) hp10.only.size) hx51.size) (by first | (simp; omega) | (simp; done) | omega) (fun h' y hge x hx => (List.mem_append.1 hx).elim (fun q => okR (hkD x q) y (hpB x q)) (fun q => by rw [List.mem_singleton.1 q]; exact okRb hnD y hn2))) rfl rfl rfl ?_
        rintro v52 h34 ⟨ha53, ha53l⟩
        refine L_yld (Y_assign rfl) rfl rfl rfl ?_
        refine L_nil ?_
        refine X_block ?_
        refine X_then ?_
        refine W_sub _ (.cons (i := 7) rfl (.cons (i := 0) rfl (.cons (i := 4) rfl (.cons (i := 3) rfl (.cons (i := 2) rfl (.cons (i := 8) rfl (.nil _))))))) ?_
        refine W_region ?_
        refine L_yld (Y_move rfl) rfl rfl rfl ?_
        refine L_yld (Y_add rfl rfl (by omega) (by omega)) rfl rfl rfl ?_
        refine L_yld (Y_assign rfl) rfl rfl rfl ?_
        refine L_nil ?_
        refine X_loop ((i + 1, (O ++ ([⟨(at_nod L03 ((i : Int)).toNat).kind, (at_nod L03 ((i : Int)).toNat).path, (at_nod L03 ((i : Int)).toNat).mode, (at_nod L03 ((i : Int)).toNat).target, nsize (at_nod L03 ((i : Int)).toNat), .slice none 0 0, ([] : List UInt8)⟩] : List Mem)), v52)) (.cons (i := 0) rfl (.cons (i := 4) rfl (.cons (i := 3) rfl (.cons (i := 2) rfl (.cons (i := 7) rfl (.cons (i := 8) rfl (.nil _))))))) ?_ ?_
        · exact ⟨by omega, by simp [hlO], rng_app hTO (by have a' : ¬ (at_nod L03 i).kind = 1 := a; rw [rmem_n (i := i) a]; simp [erm, nsize, a']), all_app (P := fun x => memS.ok _ x) (fun x hx => (ha53.own).2 x (List.mem_append_left _ hx)) ((ha53.own).2 _ (by simp)), all_app (P := fun x => ∀ b, blk2 x.dv = some b → b ∉ (blockOf _).toList) (fun x hx => apR ha53l (hkD x hx) (hpB x hx)) (apRb ha53l hnD hn2), (((((hxB.trans hx7).trans hn8.ext).then' hp10.only (by simp) (Nat.le_trans hxB.size hx7.size)).trans hx51).then' ha53.only ha53.ge (Nat.le_refl _)), ha53.own⟩
        · (try dsimp only)
          omega
    · refine W_exit ?_
      refine X_then_exit ?_
      refine X_then_exit ?_
      refine X_block_hit ?_
      refine X_then ?_
      refine W_sub _ (.cons (i := 0) rfl (.cons (i := 4) rfl (.cons (i := 3) rfl (.cons (i := 2) rfl (.cons (i := 7) rfl (.nil _)))))) ?_
      refine W_seq ?_
      refine W_region ?_
      refine L_yld (Y_move rfl) rfl rfl rfl ?_
      refine L_yld (Y_move rfl) rfl rfl rfl ?_
      refine L_yld (Y_lenr Tryd.underlying32 rfl (hr04.ext hxB)) rfl rfl rfl ?_
      refine L_yld (Y_assign rfl) rfl rfl rfl ?_
      refine L_yld (Y_assign rfl) rfl rfl rfl ?_
      refine L_yld (Y_assign rfl) rfl rfl rfl ?_
      refine L_nil ?_
      refine X_then ?_
      refine W_sub _ (.cons (i := 4) rfl (.cons (i := 3) rfl (.cons (i := 2) rfl (.nil _)))) ?_
      refine W_ret ?_
      refine X_ret3 rfl rfl rfl rfl ?_
      exact ⟨_, _, by rw [hz, (tok_of hz).res.1, hqC.1], hoB.rows, by rw [← rms_mbs hz hqC, hTO]; congr 1; congr 1; omega, ((hx1.trans hx6).trans hxB)⟩

/-- Two members are the same, but for where their data lie. -/
def mnsame (x y : Mem) : Prop := ((((x.kind = y.kind ∧ x.path = y.path) ∧ x.mode = y.mode) ∧ x.target = y.target) ∧ x.size = y.size) ∧ x.data = y.data
theorem mnsame_erm {x y : Mem} : mnsame x y ↔ erm x = erm y := by
  unfold mnsame erm
  constructor
  · rintro ⟨⟨⟨⟨⟨h1, h2⟩, h3⟩, h4⟩, h5⟩, h6⟩; rw [h1, h2, h3, h4, h5, h6]
  · intro h; injection h with h1 h2 h3 h4 h5 h6 h7; exact ⟨⟨⟨⟨⟨h1, h2⟩, h3⟩, h4⟩, h5⟩, h7⟩
instance (x y : Mem) : Decidable (mnsame x y) := by unfold mnsame; infer_instance
def mlsame (a b : List Mem) : Bool := decide (a.length = b.length) && (List.range a.length).all fun k => decide (mnsame (at_mem a k) (at_mem b k))
theorem mlsame_iff {a b : List Mem} : mlsame a b = true ↔ a.length = b.length ∧ ∀ k, k < a.length → mnsame (at_mem a k) (at_mem b k) := by
  unfold mlsame; rw [Bool.and_eq_true, decide_eq_true_eq, List.all_eq_true]
  constructor
  · rintro ⟨h, h2⟩; exact ⟨h, fun k hk => of_decide_eq_true (h2 k (List.mem_range.2 hk))⟩
  · rintro ⟨h, h2⟩; exact ⟨h, fun k hk => decide_eq_true (h2 k (List.mem_range.1 hk))⟩
theorem mlsame_false {a b : List Mem} (h : ¬ (a.length = b.length ∧ ∀ k, k < a.length → mnsame (at_mem a k) (at_mem b k))) : mlsame a b = false := by
  rw [← Bool.not_eq_true, mlsame_iff]; exact h
theorem at_erm (L : List Mem) (k : Nat) : at_mem (L.map erm) k = erm (at_mem L k) := by
  unfold at_mem
  rw [List.getD_eq_getElem?_getD, List.getD_eq_getElem?_getD, List.getElem?_map]
  cases L[k]? <;> rfl
theorem mlsame_erm {a b : List Mem} : mlsame a b = true ↔ a.map erm = b.map erm := by
  rw [mlsame_iff]
  constructor
  · rintro ⟨h1, h2⟩
    apply List.ext_getElem
    · simp [h1]
    · intro i q1 q2
      simp at q1 q2
      have := mnsame_erm.1 (h2 i q1)
      unfold at_mem at this
      rw [List.getD_eq_getElem?_getD, List.getD_eq_getElem?_getD, List.getElem?_eq_getElem q1, List.getElem?_eq_getElem q2] at this
      simp only [List.getElem_map]; exact this
  · intro h
    have hl : a.length = b.length := by have := congrArg List.length h; simpa using this
    refine ⟨hl, fun k hk => mnsame_erm.2 ?_⟩
    rw [← at_erm, ← at_erm, h]

set_option maxRecDepth 100000 in
theorem ref14_Same (h : Heap) (v : Value) (a : List Mem) (ha : Rows memS h v a) (u : Value) (b : List Mem) (hb : Rows memS h u b) (hl0 : a.length ≤ 140737488355328) : Cal Tryd.prog 27 #[v, u] h (fun v h' => v = .bool (mlsame a b) ∧ Ext h h') := by
  refine Cal_enter (args := [v, u]) Tryd.func27 rfl rfl rfl (fun σ => ?_)
  refine W_seq ?_
  refine W_region ?_
  refine L_yld (Y_assign rfl) rfl rfl rfl ?_
  refine L_nil ?_
  refine X_then ?_
  refine W_seq ?_
  refine W_seq ?_
  refine W_region ?_
  refine L_yld (Y_move rfl) rfl rfl rfl ?_
  refine L_yld (Y_lenr Tryd.underlying22 rfl ha) rfl rfl rfl ?_
  refine L_yld (Y_move rfl) rfl rfl rfl ?_
  refine L_yld (Y_lenr Tryd.underlying22 rfl hb) rfl rfl rfl ?_
  refine L_yld (Y_neq rfl rfl) rfl rfl rfl ?_
  refine L_nil ?_
  refine X_then ?_
  refine W_sub _ (.cons (i := 10) rfl (.cons (i := 4) rfl (.cons (i := 0) rfl (.cons (i := 1) rfl (.nil _))))) ?_
  refine W_splitd rfl (fun c => ?_) (fun c => ?_)
  · refine W_seq ?_
    refine W_region ?_
    refine L_yld (Y_assign rfl) rfl rfl rfl ?_
    refine L_nil ?_
    refine X_then ?_
    refine W_sub _ (.cons (i := 4) rfl (.cons (i := 0) rfl (.cons (i := 1) rfl (.nil _)))) ?_
    refine W_ret ?_
    refine X_then_ret ?_
    refine X_ret1 rfl rfl ?_
    exact ⟨by rw [mlsame_false (fun e => c (by rw [e.1]))], (Ext.refl _)⟩
  · refine W_skip ?_
    refine X_then ?_
    refine W_sub _ (.cons (i := 4) rfl (.cons (i := 0) rfl (.cons (i := 1) rfl (.nil _)))) ?_
    have hlen : a.length = b.length := by omega
    refine W_seq ?_
    refine W_seq ?_
    refine W_region ?_
    refine L_yld (Y_assign rfl) rfl rfl rfl ?_
    refine L_nil ?_
    refine X_then ?_
    refine W_block ?_
    refine W_loop (S := Nat) (fun i => [(0, v), (1, u), (5, .int .i64 ((i : Int)))]) (fun i h' => (i ≤ a.length ∧ ∀ k, k < i → mnsame (at_mem a k) (at_mem b k)) ∧ Ext h h') (fun i => a.length - i) 0 (.cons (i := 0) rfl (.cons (i := 1) rfl (.cons (i := 5) rfl (.nil _)))) ?_ ?_
    · exact ⟨⟨by omega, fun k hk => absurd hk (Nat.not_lt_zero _)⟩, Ext.refl _⟩
    rintro i h1 ⟨⟨hi, h0⟩, hx⟩
    show W _ _ _ _ _ [(0, v), (1, u), (5, .int .i64 ((i : Int)))] _
    refine W_seq ?_
    refine W_seq ?_
    refine W_region ?_
    refine L_yld (Y_move rfl) rfl rfl rfl ?_
    refine L_yld (Y_move rfl) rfl rfl rfl ?_
    refine L_yld (Y_lenr Tryd.underlying22 rfl (ha.ext hx)) rfl rfl rfl ?_
    refine L_yld (Y_lss rfl rfl) rfl rfl rfl ?_
    refine L_nil ?_
    refine X_then ?_
    refine W_sub _ (.cons (i := 14) rfl (.cons (i := 0) rfl (.cons (i := 1) rfl (.cons (i := 5) rfl (.nil _))))) ?_
    refine W_splitd rfl (fun hlt => ?_) (fun hlt => ?_)
    · refine W_skip ?_
      refine X_then ?_
      refine W_sub _ (.cons (i := 0) rfl (.cons (i := 1) rfl (.cons (i := 5) rfl (.nil _)))) ?_
      refine W_seq ?_
      by_cases g1 : (at_mem a i).kind = (at_mem b i).kind ∧ (at_mem a i).path = (at_mem b i).path ∧ (at_mem a i).mode = (at_mem b i).mode ∧ (at_mem a i).target = (at_mem b i).target ∧ (at_mem a i).size = (at_mem b i).size
      · refine W_block ?_
        refine W_seq ?_
        refine W_quiet (fun h' => h' = h1) (by kernel_rfl) (by kernel_rfl) rfl ?_
        refine LQ_yld (fun h_ hI_ => by subst hI_; exact Y_move rfl) rfl rfl rfl ?_
        refine LQ_yld (fun h_ hI_ => by subst hI_; exact Y_move rfl) rfl rfl rfl ?_
        refine LQ_yld (fun h_ hI_ => by subst hI_; exact Y_idxr Tryd.underlying22 (show _ = some 6 by kernel_rfl) rfl rfl rfl (ha.ext hx) (by omega) (by omega)) rfl rfl rfl ?_
        refine LQ_yld (fun h_ hI_ => by subst hI_; exact Y_fldr (k := ((i : Int)).toNat) (off := 0) (by kernel_rfl) rfl (ha.ext hx) (by omega)) rfl rfl rfl ?_
        refine LQ_yld (fun h_ hI_ => by subst hI_; exact Y_ldrA (off := 0) (k := ((i : Int)).toNat) (us := [.int .i64 ((at_mem a ((i : Int)).toNat).kind), str ((at_mem a ((i : Int)).toNat).path), .int .i64 ((at_mem a ((i : Int)).toNat).mode), str ((at_mem a ((i : Int)).toNat).target), .int .i64 ((at_mem a ((i : Int)).toNat).size)]) Tryd.underlying27 rfl (show _ = some 5 by kernel_rfl) rfl rfl (ha.ext hx) (by omega) rfl) rfl rfl rfl ?_
        refine LQ_yld (fun h_ hI_ => by subst hI_; exact Y_move rfl) rfl rfl rfl ?_
        refine LQ_yld (fun h_ hI_ => by subst hI_; exact Y_move rfl) rfl rfl rfl ?_
        refine LQ_yld (fun h_ hI_ => by subst hI_; exact Y_idxr Tryd.underlying22 (show _ = some 6 by kernel_rfl) rfl rfl rfl (hb.ext hx) (by omega) (by omega)) rfl rfl rfl ?_
        refine LQ_yld (fun h_ hI_ => by subst hI_; exact Y_fldr (k := ((i : Int)).toNat) (off := 0) (by kernel_rfl) rfl (hb.ext hx) (by omega)) rfl rfl rfl ?_
        refine LQ_yld (fun h_ hI_ => by subst hI_; exact Y_ldrA (off := 0) (k := ((i : Int)).toNat) (us := [.int .i64 ((at_mem b ((i : Int)).toNat).kind), str ((at_mem b ((i : Int)).toNat).path), .int .i64 ((at_mem b ((i : Int)).toNat).mode), str ((at_mem b ((i : Int)).toNat).target), .int .i64 ((at_mem b ((i : Int)).toNat).size)]) Tryd.underlying27 rfl (show _ = some 5 by kernel_rfl) rfl rfl (hb.ext hx) (by omega) rfl) rfl rfl rfl ?_
        refine LQ_yld (fun h_ hI_ => by subst hI_; exact Y_decneg (Y_stneq (xs := [.int .i64 ((at_mem a ((i : Int)).toNat).kind), str ((at_mem a ((i : Int)).toNat).path), .int .i64 ((at_mem a ((i : Int)).toNat).mode), str ((at_mem a ((i : Int)).toNat).target), .int .i64 ((at_mem a ((i : Int)).toNat).size)]) (ys := [.int .i64 ((at_mem b ((i : Int)).toNat).kind), str ((at_mem b ((i : Int)).toNat).path), .int .i64 ((at_mem b ((i : Int)).toNat).mode), str ((at_mem b ((i : Int)).toNat).target), .int .i64 ((at_mem b ((i : Int)).toNat).size)]) (r := decide (((at_mem a ((i : Int)).toNat).kind) = ((at_mem b ((i : Int)).toNat).kind) ∧ ((at_mem a ((i : Int)).toNat).path) = ((at_mem b ((i : Int)).toNat).path) ∧ ((at_mem a ((i : Int)).toNat).mode) = ((at_mem b ((i : Int)).toNat).mode) ∧ ((at_mem a ((i : Int)).toNat).target) = ((at_mem b ((i : Int)).toNat).target) ∧ ((at_mem a ((i : Int)).toNat).size) = ((at_mem b ((i : Int)).toNat).size))) (by kernel_rfl) (by kernel_rfl) (by kernel_rfl) rfl rfl (steq (ks := [.i .i64, .s, .i .i64, .s, .i .i64]) (by kernel_rfl) (by simp [eqks, eqk])))) rfl rfl rfl ?_
        refine LQ_yld (fun h_ hI_ => by subst hI_; exact Y_move rfl) rfl rfl rfl ?_
        refine LQ_known (d := 28) false rfl (by exact decide_eq_false (by exact fun q => q g1)) ?_
        refine LQ_yld (fun h_ hI_ => by subst hI_; exact Y_move rfl) rfl rfl rfl ?_
        refine LQ_yld (fun h_ hI_ => by subst hI_; exact Y_move rfl) rfl rfl rfl ?_
        refine LQ_yld (fun h_ hI_ => by subst hI_; exact Y_idxr Tryd.underlying22 (show _ = some 6 by kernel_rfl) rfl rfl rfl (ha.ext hx) (by omega) (by omega)) rfl rfl rfl ?_
        refine LQ_yld (fun h_ hI_ => by subst hI_; exact Y_fldr (k := ((i : Int)).toNat) (off := 5) (by kernel_rfl) rfl (ha.ext hx) (by omega)) rfl rfl rfl ?_
        refine LQ_yld (fun h_ hI_ => by subst hI_; exact Y_ldr1 (off := 5) (k := ((i : Int)).toNat) (u := ((at_mem a ((i : Int)).toNat).dv)) Tryd.underlying28 rfl rfl rfl (ha.ext hx) (by omega) rfl) rfl rfl rfl ?_
        refine LQ_yld (fun h_ hI_ => by subst hI_; exact Y_bytes_str Tryd.underlying28 Tryd.underlying5 Tryd.underlying9 rfl (show Bytes _ ((at_mem a ((i : Int)).toNat).dv) ((at_mem a ((i : Int)).toNat).data) from (ha.ext hx).okat (k := ((i : Int)).toNat) (by omega))) rfl rfl rfl ?_
        refine LQ_yld (fun h_ hI_ => by subst hI_; exact Y_move rfl) rfl rfl rfl ?_
        refine LQ_yld (fun h_ hI_ => by subst hI_; exact Y_move rfl) rfl rfl rfl ?_
        refine LQ_yld (fun h_ hI_ => by subst hI_; exact Y_idxr Tryd.underlying22 (show _ = some 6 by kernel_rfl) rfl rfl rfl (hb.ext hx) (by omega) (by omega)) rfl rfl rfl ?_
        refine LQ_yld (fun h_ hI_ => by subst hI_; exact Y_fldr (k := ((i : Int)).toNat) (off := 5) (by kernel_rfl) rfl (hb.ext hx) (by omega)) rfl rfl rfl ?_
        refine LQ_yld (fun h_ hI_ => by subst hI_; exact Y_ldr1 (off := 5) (k := ((i : Int)).toNat) (u := ((at_mem b ((i : Int)).toNat).dv)) Tryd.underlying28 rfl rfl rfl (hb.ext hx) (by omega) rfl) rfl rfl rfl ?_
        refine LQ_yld (fun h_ hI_ => by subst hI_; exact Y_bytes_str Tryd.underlying28 Tryd.underlying5 Tryd.underlying9 rfl (show Bytes _ ((at_mem b ((i : Int)).toNat).dv) ((at_mem b ((i : Int)).toNat).data) from (hb.ext hx).okat (k := ((i : Int)).toNat) (by omega))) rfl rfl rfl ?_
        refine LQ_yld (fun h_ hI_ => by subst hI_; exact Y_sneq rfl rfl) rfl rfl rfl ?_
        refine LQ_yld (fun h_ hI_ => by subst hI_; exact Y_pick_f rfl rfl) rfl rfl rfl ?_
        refine LQ_nil ?_
        rintro h1 rfl
        refine X_then ?_
        refine W_sub _ (.cons (i := 42) rfl (.cons (i := 0) rfl (.cons (i := 1) rfl (.cons (i := 5) rfl (.nil _))))) ?_
        refine W_splitd rfl (fun y => ?_) (fun y => ?_)
        · refine W_seq ?_
          refine W_region ?_
          refine L_yld (Y_assign rfl) rfl rfl rfl ?_
          refine L_nil ?_
          refine X_then ?_
          refine W_sub _ (.cons (i := 4) rfl (.cons (i := 0) rfl (.cons (i := 1) rfl (.cons (i := 5) rfl (.nil _))))) ?_
          refine W_ret ?_
          refine X_block_ret ?_
          refine X_then_ret ?_
          refine X_then_ret ?_
          refine X_block_ret ?_
          refine X_then_ret ?_
          refine X_ret1 rfl rfl ?_
          exact ⟨by rw [mlsame_false (fun e => y (e.2 i (by omega)).2)], hx⟩
        · refine W_skip ?_
          refine X_block ?_
          refine X_then ?_
          refine W_sub _ (.cons (i := 0) rfl (.cons (i := 1) rfl (.cons (i := 5) rfl (.nil _)))) ?_
          refine W_region ?_
          refine L_yld (Y_move rfl) rfl rfl rfl ?_
          refine L_yld (Y_add rfl rfl (by omega) (by omega)) rfl rfl rfl ?_
          refine L_yld (Y_assign rfl) rfl rfl rfl ?_
          refine L_nil ?_
          refine X_loop (i + 1) (.cons (i := 0) rfl (.cons (i := 1) rfl (.cons (i := 5) rfl (.nil _)))) ?_ ?_
          · exact ⟨⟨by omega, step_ne h0 ⟨⟨⟨⟨⟨g1.1, g1.2.1⟩, g1.2.2.1⟩, g1.2.2.2.1⟩, g1.2.2.2.2⟩, Classical.not_not.1 y⟩⟩, hx⟩
          · (try dsimp only)
            omega
      · refine W_block ?_
        refine W_seq ?_
        refine W_quiet (fun h' => h' = h1) (by kernel_rfl) (by kernel_rfl) rfl ?_
        refine LQ_yld (fun h_ hI_ => by subst hI_; exact Y_move rfl) rfl rfl rfl ?_
        refine LQ_yld (fun h_ hI_ => by subst hI_; exact Y_move rfl) rfl rfl rfl ?_
        refine LQ_yld (fun h_ hI_ => by subst hI_; exact Y_idxr Tryd.underlying22 (show _ = some 6 by kernel_rfl) rfl rfl rfl (ha.ext hx) (by omega) (by omega)) rfl rfl rfl ?_
        refine LQ_yld (fun h_ hI_ => by subst hI_; exact Y_fldr (k := ((i : Int)).toNat) (off := 0) (by kernel_rfl) rfl (ha.ext hx) (by omega)) rfl rfl rfl ?_
        refine LQ_yld (fun h_ hI_ => by subst hI_; exact Y_ldrA (off := 0) (k := ((i : Int)).toNat) (us := [.int .i64 ((at_mem a ((i : Int)).toNat).kind), str ((at_mem a ((i : Int)).toNat).path), .int .i64 ((at_mem a ((i : Int)).toNat).mode), str ((at_mem a ((i : Int)).toNat).target), .int .i64 ((at_mem a ((i : Int)).toNat).size)]) Tryd.underlying27 rfl (show _ = some 5 by kernel_rfl) rfl rfl (ha.ext hx) (by omega) rfl) rfl rfl rfl ?_
        refine LQ_yld (fun h_ hI_ => by subst hI_; exact Y_move rfl) rfl rfl rfl ?_
        refine LQ_yld (fun h_ hI_ => by subst hI_; exact Y_move rfl) rfl rfl rfl ?_
        refine LQ_yld (fun h_ hI_ => by subst hI_; exact Y_idxr Tryd.underlying22 (show _ = some 6 by kernel_rfl) rfl rfl rfl (hb.ext hx) (by omega) (by omega)) rfl rfl rfl ?_
        refine LQ_yld (fun h_ hI_ => by subst hI_; exact Y_fldr (k := ((i : Int)).toNat) (off := 0) (by kernel_rfl) rfl (hb.ext hx) (by omega)) rfl rfl rfl ?_
        refine LQ_yld (fun h_ hI_ => by subst hI_; exact Y_ldrA (off := 0) (k := ((i : Int)).toNat) (us := [.int .i64 ((at_mem b ((i : Int)).toNat).kind), str ((at_mem b ((i : Int)).toNat).path), .int .i64 ((at_mem b ((i : Int)).toNat).mode), str ((at_mem b ((i : Int)).toNat).target), .int .i64 ((at_mem b ((i : Int)).toNat).size)]) Tryd.underlying27 rfl (show _ = some 5 by kernel_rfl) rfl rfl (hb.ext hx) (by omega) rfl) rfl rfl rfl ?_
        refine LQ_yld (fun h_ hI_ => by subst hI_; exact Y_decneg (Y_stneq (xs := [.int .i64 ((at_mem a ((i : Int)).toNat).kind), str ((at_mem a ((i : Int)).toNat).path), .int .i64 ((at_mem a ((i : Int)).toNat).mode), str ((at_mem a ((i : Int)).toNat).target), .int .i64 ((at_mem a ((i : Int)).toNat).size)]) (ys := [.int .i64 ((at_mem b ((i : Int)).toNat).kind), str ((at_mem b ((i : Int)).toNat).path), .int .i64 ((at_mem b ((i : Int)).toNat).mode), str ((at_mem b ((i : Int)).toNat).target), .int .i64 ((at_mem b ((i : Int)).toNat).size)]) (r := decide (((at_mem a ((i : Int)).toNat).kind) = ((at_mem b ((i : Int)).toNat).kind) ∧ ((at_mem a ((i : Int)).toNat).path) = ((at_mem b ((i : Int)).toNat).path) ∧ ((at_mem a ((i : Int)).toNat).mode) = ((at_mem b ((i : Int)).toNat).mode) ∧ ((at_mem a ((i : Int)).toNat).target) = ((at_mem b ((i : Int)).toNat).target) ∧ ((at_mem a ((i : Int)).toNat).size) = ((at_mem b ((i : Int)).toNat).size))) (by kernel_rfl) (by kernel_rfl) (by kernel_rfl) rfl rfl (steq (ks := [.i .i64, .s, .i .i64, .s, .i .i64]) (by kernel_rfl) (by simp [eqks, eqk])))) rfl rfl rfl ?_
        refine LQ_yld (fun h_ hI_ => by subst hI_; exact Y_move rfl) rfl rfl rfl ?_
        refine LQ_known (d := 28) true rfl (by exact decide_eq_true (by exact g1)) ?_
        refine LQ_skip rfl rfl rfl ?_
        refine LQ_skip rfl rfl rfl ?_
        refine LQ_skip rfl rfl rfl ?_
        refine LQ_skip rfl rfl rfl ?_
        refine LQ_skip rfl rfl rfl ?_
        refine LQ_skip rfl rfl rfl ?_
        refine LQ_skip rfl rfl rfl ?_
        refine LQ_skip rfl rfl rfl ?_
        refine LQ_skip rfl rfl rfl ?_
        refine LQ_skip rfl rfl rfl ?_
        refine LQ_skip rfl rfl rfl ?_
        refine LQ_skip rfl rfl rfl ?_
        refine LQ_skip rfl rfl rfl ?_
        refine LQ_yld (fun h_ hI_ => by subst hI_; exact Y_pick_t rfl rfl) rfl rfl rfl ?_
        refine LQ_nil ?_
        rintro h1 rfl
        refine X_then ?_
        refine W_sub _ (.cons (i := 42) rfl (.cons (i := 0) rfl (.cons (i := 1) rfl (.cons (i := 5) rfl (.nil _))))) ?_
        refine W_true rfl ?_
        refine W_seq ?_
        refine W_region ?_
        refine L_yld (Y_assign rfl) rfl rfl rfl ?_
        refine L_nil ?_
        refine X_then ?_
        refine W_sub _ (.cons (i := 4) rfl (.cons (i := 0) rfl (.cons (i := 1) rfl (.cons (i := 5) rfl (.nil _))))) ?_
        refine W_ret ?_
        refine X_block_ret ?_
        refine X_then_ret ?_
        refine X_then_ret ?_
        refine X_block_ret ?_
        refine X_then_ret ?_
        refine X_ret1 rfl rfl ?_
        exact ⟨by rw [mlsame_false (fun e => by have q := (e.2 i (by omega)).1; exact g1 ⟨q.1.1.1.1, q.1.1.1.2, q.1.1.2, q.1.2, q.2⟩)], hx⟩
    · refine W_exit ?_
      refine X_then_exit ?_
      refine X_then_exit ?_
      refine X_block_hit ?_
      refine X_then ?_
      refine W_sub _ (.nil _) ?_
      refine W_seq ?_
      refine W_region ?_
      refine L_yld (Y_assign rfl) rfl rfl rfl ?_
      refine L_nil ?_
      refine X_then ?_
      refine W_ret ?_
      refine X_ret1 rfl rfl ?_
      exact ⟨by rw [mlsame_iff.2 ⟨hlen, fun k hk => h0 k (by omega)⟩], hx⟩
end Go.Xp
