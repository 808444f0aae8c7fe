/- Layer 12 (entry): the law EntryConsecutive. -/
import Derived.Test.YtdmhigknppkniaaGreatDoorRlawB
import Derived.Test.YtdmhigknppkniaaGreatDoorBye
set_option linter.unusedSimpArgs false
set_option linter.unusedVariables false
set_option linter.unusedSectionVars false
set_option maxRecDepth 100000
namespace Go.Xp
open Go.Proofs

def efc (x : Entr) : Int := fcheck x.kind x.path x.mode x.target x.size
def ee (x : Entr) : List UInt8 := eenc x.kind x.path x.mode x.target x.size
def ea (V : List Entr) : List UInt8 := V.flatMap ee
def es (V : List Entr) : List Int := (List.range V.length).map (fun i => ((ea (V.take i)).length : Int))
theorem ea_snoc (V : List Entr) (x : Entr) : ea (V ++ [x]) = ea V ++ ee x := by simp [ea]
theorem es_snoc (V : List Entr) (x : Entr) : es (V ++ [x]) = es V ++ [((ea V).length : Int)] := by
  unfold es
  rw [List.length_append, List.length_singleton, List.range_succ, List.map_append, List.map_singleton, List.take_left]
  congr 1
  exact List.map_congr_left (fun i hi => by rw [List.take_append_of_le_length (by have := List.mem_range.1 hi; omega)])
theorem es_len (V : List Entr) : (es V).length = V.length := by simp [es]
theorem es_at {V : List Entr} {i : Nat} (h : i < V.length) : at_int (es V) i = ((ea (V.take i)).length : Int) := by
  unfold at_int es
  rw [List.getD_eq_getElem?_getD, List.getElem?_map, List.getElem?_range h]; rfl
theorem atE {V : List Entr} {i : Nat} (h : i < V.length) : at_ent V i = V[i] := by
  unfold at_ent; rw [List.getD_eq_getElem?_getD, List.getElem?_eq_getElem h]; rfl
theorem atE_mem {V : List Entr} {i : Nat} (h : i < V.length) : at_ent V i ∈ V := by rw [atE h]; exact List.getElem_mem h
theorem ea_take {V : List Entr} {i : Nat} (h : i < V.length) : (ea (V.take i)).length + (ee (at_ent V i)).length = (ea (V.take (i + 1))).length := by
  rw [List.take_succ_eq_append_getElem h, ea_snoc, List.length_append, atE h]
theorem ea_drop {V : List Entr} {i : Nat} (h : i < V.length) : (ea V).drop (ea (V.take i)).length = ee (at_ent V i) ++ ea (V.drop (i + 1)) := by
  have e : ea V = ea (V.take i) ++ (ee (at_ent V i) ++ ea (V.drop (i + 1))) := by
    conv => lhs; rw [← List.take_append_drop i V, List.drop_eq_getElem_cons h]
    unfold ea
    rw [List.flatMap_append, List.flatMap_cons, atE h]
  conv => lhs; rw [e]
  exact List.drop_left
theorem ea_len : ∀ {V : List Entr}, (∀ x ∈ V, efc x = 0) → (ea V).length ≤ 200000 * V.length
  | [], _ => by simp [ea]
  | x :: V, h => by
    have h1 := eenc_small (show fcheck x.kind x.path x.mode x.target x.size = 0 from h x (by simp))
    have h2 := ea_len (V := V) (fun y hy => h y (by simp [hy]))
    have h3 : ea (x :: V) = ee x ++ ea V := by simp [ea]
    have h4 : (ee x).length ≤ 200000 := h1
    rw [h3, List.length_append, List.length_cons]; omega
theorem dcd_end (D : List UInt8) : ∃ pos er, dcd D (-1) D.length 0 = dz D.length 4 pos er := by
  obtain ⟨q1, q2⟩ := nE_no (D := D) (f := -1) (p := D.length) (by rw [stp_all]; omega)
  rw [stp_all] at q1 q2
  rw [if_neg (by omega), if_pos rfl] at q1
  exact ⟨D.length, 4, by rw [dcd_n (by rw [q1]; decide), q1, q2]⟩
theorem lawEntryConsecS (h : Heap) (hG : Glb h) (hK : GlbK h) (hN : GlbN h) (hE : GlbE h) (hT : GlbT h) (hS : GlbS h) (w : Value) (l : List Entr) (hl : Rows entS h w l) (a0 : Option Addr) (n0 c0 : Nat) (C : List Int) (hc : Rows intS h (.slice a0 n0 c0) C) (f : Int) (hn : l.length ≤ 140737488355328) (hs : ∀ x ∈ l, x.path.length ≤ 140737488355328 ∧ x.target.length ≤ 140737488355328 ∧ (-9223372036854775808 ≤ x.kind ∧ x.kind ≤ 9223372036854775807) ∧ (-9223372036854775808 ≤ x.mode ∧ x.mode ≤ 9223372036854775807) ∧ (-9223372036854775808 ≤ x.size ∧ x.size ≤ 9223372036854775807)) (hC : C.length ≤ 140737488355328) (hf : -9223372036854775808 ≤ f ∧ f ≤ 9223372036854775807) : Cal Tryz.prog 6 #[w, .agg #[(.slice a0 n0 c0), .int .i64 (f)]] h (fun v h' => v = .bool true ∧ Ext h h') := by
 refine Ce Tryz.func6 fun σ => ?_
 refine Wr ?_
 refine L_mks (M_box rfl) rfl rfl rfl ?_
 rintro _ h1 ⟨rfl, hn1⟩
 have hk2 : Blk h1 h.size [(.slice a0 n0 c0), .int .i64 (f)] := hn1.blk
 refine Av ?_
 refine Ln (Xt (Wq ?_))
 refine Wc [(29, .bool (decide ((10 < (l.length : Int)) ∨ (300 < (C.length : Int))))), (4, .bool false), (3, .pointer (some ⟨h.size, 0, none⟩)), (0, w)] (fun h' => h' = h1) ?_ ?_
 ·refine Wg ?_
  refine Mv ?_
  refine Ly (Y_lenr Tryz.underlying52 rfl (hl.ext hn1.ext)) ?_
  refine Ly (Y_gtr rfl rfl) ?_
  refine Mv ?_
  refine L_splitd (d := 24) rfl (fun c3 => ?_) (fun c3 => ?_)
  ·refine Sk2 ?_
   refine Sk2 ?_
   refine Ly Ypt ?_
   refine Ln ?_
   exact X_cut () (sk1 29 (lkb rfl (by first | (simp only [eq_true c3, SB]; done) | (simp only [eq_true c3, SB]; rfl))) (sk1 4 rfl (sk1 3 rfl (tk1 0)))) rfl
  refine Lf 0 ?_
  refine Lb Tryz.underlying23 hk2 ?_
  refine Ly (Y_lenr Tryz.underlying23 rfl (hc.ext hn1.ext)) ?_
  refine Ly (Y_gtr rfl rfl) ?_
  refine Ly Ypf ?_
  refine Ln ?_
  exact X_cut () (sk1 29 (lkb rfl (by first | (simp only [eq_false c3, SB]; done) | (simp only [eq_false c3, SB]; rfl))) (sk1 4 rfl (sk1 3 rfl (tk1 0)))) rfl
 rintro h1 rfl
 refine Sd (fun g0 => ?_) fun g0 => ?_
 ·refine Wr ?_
  refine Lc (law12_alive _ (hG.ext hn1.ext) (hK.ext hn1.ext) (hN.ext hn1.ext) (hE.ext hn1.ext) (hT.ext hn1.ext)) ?_
  rintro _ h2 ⟨rfl, hx4⟩
  refine Av ?_
  refine Ln (Xt (Wt (Xr ?_)))
  refine Xv1 ?_
  exact ⟨rfl, (hn1.ext.trans hx4)⟩
 refine Wk (Xt (Wq (Wg ?_)))
 refine Av ?_
 refine Ln (Xt (Wq (Wg ?_)))
 refine Av ?_
 refine Ln (Xt (Wq (Wg ?_)))
 refine An ?_
 have hn10 : l.length ≤ 10 := by omega
 have hC9 : C.length ≤ 300 := by omega
 refine Wq (Wq (Wg ?_))
 refine Mv ?_
 refine Ly (Y_lenr Tryz.underlying52 rfl (hl.ext hn1.ext)) ?_
 refine Mv ?_
 refine Ln (Xt (Wb ?_))
 refine W_loop (S := Nat × List Entr × Value × Value × Value) (fun (i, V, u1, u2, u3) => [(32, .int .i64 ((l.length : Int))), (31, w), (3, .pointer (some ⟨h.size, 0, none⟩)), (5, u3), (6, u1), (7, u2), (33, .int .i64 ((i : Int)))]) (fun (i, V, u1, u2, u3) h' => (i ≤ l.length ∧ V.length ≤ i ∧ (∀ x ∈ V, efc x = 0)) ∧ RowsO entS h' h1.size u1 V ∧ RowsO intS h' h1.size u2 (es V) ∧ OwnB h' h1.size u3 (ea V) ∧ (Dj u1 u2 ∧ Dj u1 u3 ∧ Dj u2 u3) ∧ Ext h1 h') (fun (i, V, u1, u2, u3) => l.length - i) (0, [], .slice none 0 0, .slice none 0 0, .slice none 0 0) (tk7 32 31 3 5 6 7 33) ?_ ?_
 ·exact ⟨⟨Nat.zero_le _, Nat.le_refl _, fun x hx => absurd hx List.not_mem_nil⟩, RowsO.nil _ _ _, RowsO.nil _ _ _, OwnB.nil _ _, ⟨Dj.nil, Dj.nil, Dj.nil⟩, (Ext.refl _)⟩
 rintro ⟨i, V, u1, u2, u3⟩ h3 ⟨⟨hi, hV, hVf⟩, ho1, ho2, ho3, ⟨j12, j13, j23⟩, hxL⟩
 show W _ _ _ _ _ [(32, .int .i64 ((l.length : Int))), (31, w), (3, .pointer (some ⟨h.size, 0, none⟩)), (5, u3), (6, u1), (7, u2), (33, .int .i64 ((i : Int)))] _
 refine Wr ?_
 refine Ly Yls ?_
 refine Ln (Xt (Wq ?_))
 refine Sd (fun hlt => ?_) fun hlt => ?_
 ·refine Ws ?_
  have hmm := hs _ (atE_mem (V := l) (i := (i : Int).toNat) (by omega))
  refine Wq (Wb (Wq (Wg ?_)))
  refine Ly (Y_idxr Tryz.underlying52 (show _ = some 5 by kernel_rfl) rfl rfl rfl (hl.ext (hn1.ext.trans hxL)) (by omega) (by omega)) ?_
  refine Ly (Y_ldrA0 (k := ((i : Int)).toNat) (us := [.int .i64 ((at_ent l ((i : Int)).toNat).kind), str ((at_ent l ((i : Int)).toNat).path), .int .i64 ((at_ent l ((i : Int)).toNat).mode), str ((at_ent l ((i : Int)).toNat).target), .int .i64 ((at_ent l ((i : Int)).toNat).size)]) Tryz.underlying37 rfl (show _ = some 5 by kernel_rfl) rfl rfl (hl.ext (hn1.ext.trans hxL)) (by omega) rfl) ?_
  refine L_mks (M_alloc (u := .agg #[.int .i64 0, str [], .int .i64 0, str [], .int .i64 0]) (by kernel_rfl)) rfl rfl rfl ?_
  rintro _ h4 ⟨rfl, hn5⟩
  have hk6 : Blk h4 h3.size [.int .i64 0, str [], .int .i64 0, str [], .int .i64 0] := hn5.blk
  refine Lds [.int .i64 ((at_ent l ((i : Int)).toNat).kind), str ((at_ent l ((i : Int)).toNat).path), .int .i64 ((at_ent l ((i : Int)).toNat).mode), str ((at_ent l ((i : Int)).toNat).target), .int .i64 ((at_ent l ((i : Int)).toNat).size)] hk6 ?_
  rintro h5 hp7
  have hk8 : Blk h5 h3.size [.int .i64 ((at_ent l ((i : Int)).toNat).kind), str ((at_ent l ((i : Int)).toNat).path), .int .i64 ((at_ent l ((i : Int)).toNat).mode), str ((at_ent l ((i : Int)).toNat).target), .int .i64 ((at_ent l ((i : Int)).toNat).size)] := hp7.blk
  refine Ln (Xt (Wq (Wq (Wg ?_))))
  refine Lg Tryz.underlying37 hk8 ?_
  refine Lc (law10_TooLarge _ ((at_ent l ((i : Int)).toNat).kind) ((at_ent l ((i : Int)).toNat).path) ((at_ent l ((i : Int)).toNat).mode) ((at_ent l ((i : Int)).toNat).target) ((at_ent l ((i : Int)).toNat).size) (by first | omega | rfl | (simp <;> omega)) (by first | omega | rfl | (simp <;> omega))) ?_
  rintro _ h6 ⟨rfl, hx9⟩
  refine Ly (Y_gtr rfl rfl) ?_
  refine Nx ?_
  refine Sd (fun g => ?_) fun g => ?_
  ·refine Wr ?_
   have me1 := ((hn1.ext.trans hxL).trans hn5.ext).then' hp7.only (by simp) (nt hn1.ext.size hxL.size)
   refine Lc (law12_alive _ (hG.ext (me1.trans hx9)) (hK.ext (me1.trans hx9)) (hN.ext (me1.trans hx9)) (hE.ext (me1.trans hx9)) (hT.ext (me1.trans hx9))) ?_
   rintro _ h7 ⟨rfl, hx10⟩
   refine An ?_
   refine Wu _ (sk1 4 rfl (tk8 9 32 31 3 5 6 7 33)) ?_
   refine Wt (Xr (Yr (Xr (Xr (Yr (Xr ?_))))))
   refine Xv1 ?_
   exact ⟨rfl, ((me1.trans hx9).trans hx10)⟩
  refine Ws ?_
  refine Wu _ (tk8 9 32 31 3 5 6 7 33) ?_
  refine Wr ?_
  refine Lg Tryz.underlying37 (hk8.ext hx9) ?_
  have me2 := ((hn1.ext.trans hxL).trans hn5.ext).then' hp7.only (by simp) (nt hn1.ext.size hxL.size)
  refine Lc (entry_Encode _ (hG.ext (me2.trans hx9)) (hK.ext (me2.trans hx9)) (hN.ext (me2.trans hx9)) (hE.ext (me2.trans hx9)) (hT.ext (me2.trans hx9)) ((at_ent l ((i : Int)).toNat).kind) ((at_ent l ((i : Int)).toNat).path) ((at_ent l ((i : Int)).toNat).mode) ((at_ent l ((i : Int)).toNat).target) ((at_ent l ((i : Int)).toNat).size) (by first | omega | rfl | (simp <;> omega)) (by first | omega | rfl | (simp <;> omega)) (by first | omega | rfl | (simp <;> omega))) ?_
  rintro _ h8 ⟨s011, rfl, hr012, hx13⟩
  refine Mx ?_
  refine A2 ?_
  refine Ln (Xt (Wq (Wg ?_)))
  refine Mv ?_
  refine Ly Yeq ?_
  refine Nx ?_
  refine Wu _ (sk2 47 10 rfl rfl (tk8 9 32 31 3 5 6 7 33)) ?_
  refine Sd (fun e => ?_) fun e => ?_
  ·have hal := ea_len hVf
   have hes := eenc_small e
   have hesl := es_len V
   have o10 : OwnB h8 _ s011 (eenc (at_ent l (i : Int).toNat).kind (at_ent l (i : Int).toNat).path (at_ent l (i : Int).toNat).mode (at_ent l (i : Int).toNat).target (at_ent l (i : Int).toNat).size) := hr012
   have d1 : Dj u1 s011 := fun b hb hc => by have h1 := ho1.lts b hb; have h2 := (Own.lt o10 b (by simpa using hc)).1; have h3 := (nt (nt hn5.ext.size hp7.only.size) hx9.size); omega
   have d2 : Dj u2 s011 := fun b hb hc => by have h1 := ho2.lts b hb; have h2 := (Own.lt o10 b (by simpa using hc)).1; have h3 := (nt (nt hn5.ext.size hp7.only.size) hx9.size); omega
   refine Wm ?_
   refine Lg Tryz.underlying37 (hk8.ext (hx9.trans hx13)) ?_
   refine L_mks (M_litr (S := entS) (l := [⟨(at_ent l ((i : Int)).toNat).kind, (at_ent l ((i : Int)).toNat).path, (at_ent l ((i : Int)).toNat).mode, (at_ent l ((i : Int)).toNat).target, (at_ent l ((i : Int)).toNat).size⟩]) (cells := [.int .i64 ((at_ent l ((i : Int)).toNat).kind), str ((at_ent l ((i : Int)).toNat).path), .int .i64 ((at_ent l ((i : Int)).toNat).mode), str ((at_ent l ((i : Int)).toNat).target), .int .i64 ((at_ent l ((i : Int)).toNat).size)]) (pv := [(0, .agg #[.int .i64 ((at_ent l ((i : Int)).toNat).kind), str ((at_ent l ((i : Int)).toNat).path), .int .i64 ((at_ent l ((i : Int)).toNat).mode), str ((at_ent l ((i : Int)).toNat).target), .int .i64 ((at_ent l ((i : Int)).toNat).size)])]) (E := 37) (evp (is := [0]) (os := [.tmp 49]) (vs := [.agg #[.int .i64 ((at_ent l ((i : Int)).toNat).kind), str ((at_ent l ((i : Int)).toNat).path), .int .i64 ((at_ent l ((i : Int)).toNat).mode), str ((at_ent l ((i : Int)).toNat).target), .int .i64 ((at_ent l ((i : Int)).toNat).size)]]) rfl rfl) rfl rfl (fun _ => by kernel_rfl) (by simp only [List.mem_cons, List.not_mem_nil, or_false, forall_eq_or_imp, forall_eq]; exact trivial)) rfl rfl rfl ?_
   rintro v14 h9 ⟨ho15, hx16⟩
   have me3 := (hn5.ext.then' hp7.only (by simp) (Nat.le_refl _)).trans hx9
   have me4 := nt (nt (nt (nt hxL.size hn5.ext.size) hp7.only.size) hx9.size) hx13.size
   refine L_mks (M_apprL nsEnt (z := 5) (bytes := 56) (z0 := (.agg #[.int .i64 0, str [], .int .i64 0, str [], .int .i64 0])) Tryz.underlying52 (by unfold elemRow; kernel_rfl) rfl rfl (by decide) rfl rfl (ho1.ext ((me3.trans hx13).trans hx16)) ho15.rows (nt me4 hx16.size) (by first | omega | (simp only [List.length_cons, List.length_nil, es_len]; omega) | (simp; omega))) rfl rfl rfl ?_
   rintro v17 h10 ⟨ha18, ha18l⟩
   refine An ?_
   refine Wu _ (tk8 6 10 32 31 3 5 7 33) ?_
   have w1 : RowsO entS h10 h1.size v17 (V ++ [(at_ent l (i : Int).toNat)]) := ha18.own
   have p2 : RowsO intS h10 h1.size u2 (es V) := RowsO.beside nsInt (ho2.ext ((me3.trans hx13).trans hx16)) ha18.only j12
   have p3 : OwnB h10 h1.size u3 (ea V) := OwnB.beside (ho3.ext ((me3.trans hx13).trans hx16)) ha18.only j13
   have p10 : OwnB h10 _ s011 (eenc (at_ent l (i : Int).toNat).kind (at_ent l (i : Int).toNat).path (at_ent l (i : Int).toNat).mode (at_ent l (i : Int).toNat).target (at_ent l (i : Int).toNat).size) := OwnB.beside (o10.ext hx16) ha18.only d1
   have q12 : Dj v17 u2 := Dj.grow j12 ha18l ((ho2.ext ((me3.trans hx13).trans hx16))).lts
   have q13 : Dj v17 u3 := Dj.grow j13 ha18l ((ho3.ext ((me3.trans hx13).trans hx16))).lts
   refine Wm ?_
   refine Mv ?_
   refine Ly (Y_len Tryz.underlying22 rfl p3.bytes) ?_
   refine L_mks (M_litr (S := intS) (l := [((ea V).length : Int)]) (cells := [.int .i64 (((ea V).length : Int))]) (pv := [(0, .int .i64 (((ea V).length : Int)))]) (E := 2) (evp (is := [0]) (os := [.tmp 54]) (vs := [.int .i64 (((ea V).length : Int))]) rfl rfl) rfl rfl (fun _ => by kernel_rfl) (by simp only [List.mem_cons, List.not_mem_nil, or_false, forall_eq_or_imp, forall_eq]; exact trivial)) rfl rfl rfl ?_
   rintro v19 h11 ⟨ho20, hx21⟩
   refine L_mks (M_apprL nsInt (z := 1) (bytes := 8) (z0 := (.int .i64 0)) Tryz.underlying53 (by unfold elemRow; kernel_rfl) rfl rfl (by decide) rfl rfl (p2.ext hx21) ho20.rows (nt (nt (nt me4 hx16.size) ha18.only.size) hx21.size) (by first | omega | (simp only [List.length_cons, List.length_nil, es_len]; omega) | (simp; omega))) rfl rfl rfl ?_
   rintro v22 h12 ⟨ha23, ha23l⟩
   refine An ?_
   have w2 : RowsO intS h12 h1.size v22 (es V ++ [((ea V).length : Int)]) := ha23.own
   have m1 : RowsO entS h12 h1.size v17 (V ++ [(at_ent l (i : Int).toNat)]) := RowsO.beside nsEnt (w1.ext hx21) ha23.only q12.symm
   have m3 : OwnB h12 h1.size u3 (ea V) := OwnB.beside (p3.ext hx21) ha23.only j23
   have m10 : OwnB h12 _ s011 (eenc (at_ent l (i : Int).toNat).kind (at_ent l (i : Int).toNat).path (at_ent l (i : Int).toNat).mode (at_ent l (i : Int).toNat).target (at_ent l (i : Int).toNat).size) := OwnB.beside (p10.ext hx21) ha23.only d2
   have n12 : Dj v22 v17 := Dj.grow q12.symm ha23l ((w1.ext hx21)).lts
   have n23 : Dj v22 u3 := Dj.grow j23 ha23l ((p3.ext hx21)).lts
   refine Wg ?_
   refine M2 ?_
   have me5 := nt (nt (nt (nt me4 hx16.size) ha18.only.size) hx21.size) ha23.only.size
   refine L_mks (M_appbL Tryz.underlying22 (by unfold elemRow; kernel_rfl) rfl rfl m3 m10.bytes me5 (by first | omega | (simp; omega))) rfl rfl rfl ?_
   rintro v24 h13 ⟨ha25, ha25l⟩
   refine Av ?_
   refine Ln (Xb (Xt ?_))
   refine Wu _ (tk7 5 7 6 32 31 3 33) ?_
   refine Wg ?_
   refine Lad ?_
   refine Mv ?_
   refine Ln ?_
   refine X_loop ((i + 1, V ++ [(at_ent l (i : Int).toNat)], v17, v22, v24)) (tk7 32 31 3 5 6 7 33) ?_ ?_
   ·exact ⟨⟨by omega, by rw [List.length_append, List.length_singleton]; omega, fun x hx => (List.mem_append.1 hx).elim (hVf x) (fun hx => by rw [List.mem_singleton.1 hx]; exact e)⟩, RowsO.beside nsEnt m1 ha25.only q13.symm, RowsO.congr (RowsO.beside nsInt w2 ha25.only n23.symm) (es_snoc V _).symm, OwnB.congr ha25.own (ea_snoc V _).symm, ⟨n12.symm, (Dj.grow q13.symm ha25l (m1).lts).symm, (Dj.grow n23.symm ha25l (w2).lts).symm⟩, (((((((((hxL.trans hn5.ext).then' hp7.only (by simp) hxL.size).trans hx9).trans hx13).trans hx16).then' ha18.only ha18.ge (Nat.le_refl _)).trans hx21).then' ha23.only ha23.ge (Nat.le_refl _)).then' ha25.only ha25.ge (Nat.le_refl _))⟩
   (try dsimp only)
   omega
  refine Wk (Xb (Xt (Wg ?_)))
  refine Lad ?_
  refine Mv ?_
  refine Ln ?_
  refine X_loop ((i + 1, V, u1, u2, u3)) (tk7 32 31 3 5 6 7 33) ?_ ?_
  ·exact ⟨⟨by omega, by omega, hVf⟩, (ho1.ext (((hn5.ext.then' hp7.only (by simp) (Nat.le_refl _)).trans hx9).trans hx13)), (ho2.ext (((hn5.ext.then' hp7.only (by simp) (Nat.le_refl _)).trans hx9).trans hx13)), (ho3.ext (((hn5.ext.then' hp7.only (by simp) (Nat.le_refl _)).trans hx9).trans hx13)), ⟨j12, j13, j23⟩, ((((hxL.trans hn5.ext).then' hp7.only (by simp) hxL.size).trans hx9).trans hx13)⟩
  (try dsimp only)
  omega
 refine W_exit ?_
 refine Xe (Xe ?_)
 refine X_block_hit ?_
 refine Xt ?_
 have hal := ea_len hVf
 have hla : h.size ≤ (h3).size := ((hn1.ext.trans hxL) : Ext h h3).size
 refine Wm ?_
 refine Lf 0 ?_
 refine Lb Tryz.underlying23 (hk2.ext hxL) ?_
 refine Ly (Yb (.agg #[(.slice a0 n0 c0), .int .i64 (-1)]) [0, 1] [.tmp 63, .const (.int .i64 (-1))] [(.slice a0 n0 c0), .int .i64 (-1)]) ?_
 refine Lc (source_New _ u3 (ea V) ho3.bytes (.slice a0 n0 c0) C (hc.ext (hn1.ext.trans hxL)) (-1) (by omega) (by omega)) ?_
 rintro _ h14 ⟨sA, rfl, uNA, ux1⟩
 refine Lc (block_NewReader _ _ sA (ea V) (-1) uNA) ?_
 rintro _ h15 ⟨rA, rfl, uRA, ux2⟩
 refine An ?_
 refine Wu _ (tk4 12 5 6 7) ?_
 obtain ⟨la, ha, q1, uRA2⟩ : ∃ la ha, h3.size ≤ la ∧ RdA la ha h15 rA sA (ea V) (-1) 0 0 := ⟨_, _, Nat.le_refl _, uRA⟩
 have hesl := es_len V
 have ugA : ∀ c ∈ [rA, sA], h3.size ≤ c := fun c hc => nt q1 (uRA2.ge2 c hc)
 refine Wq (Wq (Wg ?_))
 refine Mv ?_
 refine Ly (Y_lenr Tryz.underlying52 rfl (ho1.rows.ext (ux1.trans ux2))) ?_
 refine Mv ?_
 refine Ln (Xt (Wb ?_))
 refine W_loop (S := Nat) (fun i => [(68, .int .i64 ((V.length : Int))), (67, u1), (12, .pointer (some ⟨rA, 0, none⟩)), (5, u3), (7, u2), (69, .int .i64 ((i : Int)))]) (fun i h' => i ≤ V.length ∧ Ext h3 h' ∧ RdA la ha h' rA sA (ea V) (-1) (ea (V.take i)).length 0) (fun i => V.length - i) 0 (tk6 68 67 12 5 7 69) ?_ ?_
 ·exact ⟨Nat.zero_le _, (ux1.trans ux2), uRA2⟩
 rintro i h16 ⟨hi2, hxM, uRA3⟩
 show W _ _ _ _ _ [(68, .int .i64 ((V.length : Int))), (67, u1), (12, .pointer (some ⟨rA, 0, none⟩)), (5, u3), (7, u2), (69, .int .i64 ((i : Int)))] _
 refine Wr ?_
 refine Ly Yls ?_
 refine Ln (Xt (Wq ?_))
 refine Sd (fun c => ?_) fun c => ?_
 ·refine Ws ?_
  have hin : (i : Int).toNat = i := Int.toNat_natCast i
  refine Wq (Wb (Wq (Wg ?_)))
  refine Mv ?_
  refine Ly (Y_idxr Tryz.underlying52 (show _ = some 5 by kernel_rfl) rfl rfl rfl (ho1.rows.ext hxM) (by omega) (by omega)) ?_
  refine Ly (Y_ldrA0 (k := ((i : Int)).toNat) (us := [.int .i64 ((at_ent V ((i : Int)).toNat).kind), str ((at_ent V ((i : Int)).toNat).path), .int .i64 ((at_ent V ((i : Int)).toNat).mode), str ((at_ent V ((i : Int)).toNat).target), .int .i64 ((at_ent V ((i : Int)).toNat).size)]) Tryz.underlying37 rfl (show _ = some 5 by kernel_rfl) rfl rfl (ho1.rows.ext hxM) (by omega) rfl) ?_
  refine L_mks (M_alloc (u := .agg #[.int .i64 0, str [], .int .i64 0, str [], .int .i64 0]) (by kernel_rfl)) rfl rfl rfl ?_
  rintro _ h17 ⟨rfl, hn26⟩
  have hk27 : Blk h17 h16.size [.int .i64 0, str [], .int .i64 0, str [], .int .i64 0] := hn26.blk
  refine Av ?_
  refine Lds [.int .i64 ((at_ent V ((i : Int)).toNat).kind), str ((at_ent V ((i : Int)).toNat).path), .int .i64 ((at_ent V ((i : Int)).toNat).mode), str ((at_ent V ((i : Int)).toNat).target), .int .i64 ((at_ent V ((i : Int)).toNat).size)] hk27 ?_
  rintro h18 hp28
  have hk29 : Blk h18 h16.size [.int .i64 ((at_ent V ((i : Int)).toNat).kind), str ((at_ent V ((i : Int)).toNat).path), .int .i64 ((at_ent V ((i : Int)).toNat).mode), str ((at_ent V ((i : Int)).toNat).target), .int .i64 ((at_ent V ((i : Int)).toNat).size)] := hp28.blk
  refine Nx ?_
  have hdr : (ea V).drop (ea (V.take i)).length = eenc (at_ent V (i : Int).toNat).kind (at_ent V (i : Int).toNat).path (at_ent V (i : Int).toNat).mode (at_ent V (i : Int).toNat).target (at_ent V (i : Int).toNat).size ++ ea (V.drop (i + 1)) := by rw [hin]; exact ea_drop (by omega)
  have hef : fcheck (at_ent V (i : Int).toNat).kind (at_ent V (i : Int).toNat).path (at_ent V (i : Int).toNat).mode (at_ent V (i : Int).toNat).target (at_ent V (i : Int).toNat).size = 0 := hVf _ (atE_mem (by omega))
  refine Wm ?_
  have me6 := (((hn1.ext.trans hxL).trans hxM).trans hn26.ext).then' hp28.only (by simp) (nt (nt hn1.ext.size hxL.size) hxM.size)
  refine L_call (E_call (by kernel_rfl) rfl) (rt_Decode (P := (ea (V.take i)).length) hef hdr (uRA3.ext (hn26.ext.then' hp28.only (by simp) (Nat.le_refl _))) (by omega) h me6 (nt hla q1) hG hK hN hE hT hS) rfl rfl rfl ?_
  rintro _ h19 ⟨rfl, uy, uRA4⟩
  refine Mx ?_
  refine Lx ?_
  refine L_mks (M_alloc (u := .agg #[.int .i64 0, str [], .int .i64 0, str [], .int .i64 0]) (by kernel_rfl)) rfl rfl rfl ?_
  rintro _ h20 ⟨rfl, hn30⟩
  have hk31 : Blk h20 h19.size [.int .i64 0, str [], .int .i64 0, str [], .int .i64 0] := hn30.blk
  refine Lds [.int .i64 ((at_ent V (i : Int).toNat).kind), str ((at_ent V (i : Int).toNat).path), .int .i64 ((at_ent V (i : Int).toNat).mode), str ((at_ent V (i : Int).toNat).target), .int .i64 ((at_ent V (i : Int).toNat).size)] hk31 ?_
  rintro h21 hp32
  have hk33 : Blk h21 h19.size [.int .i64 ((at_ent V (i : Int).toNat).kind), str ((at_ent V (i : Int).toNat).path), .int .i64 ((at_ent V (i : Int).toNat).mode), str ((at_ent V (i : Int).toNat).target), .int .i64 ((at_ent V (i : Int).toNat).size)] := hp32.blk
  refine A2 ?_
  refine Nx ?_
  refine Wu _ (sk3 17 16 15 rfl rfl rfl (tk8 13 14 68 67 12 5 7 69)) ?_
  refine Wm ?_
  refine Ly Yne ?_
  refine Mv ?_
  refine L_known (d := 82) false rfl (by first | rfl | decide | simp) ?_
  refine Lg Tryz.underlying37 hk33 ?_
  have hc34 := (((hk29.only uy (fun hb_ => Nat.lt_irrefl _ (ntl (uRA3.lt2 _ hb_) (Nat.le_refl _)))).ext hn30.ext).only hp32.only (ni_lt (ntl hk27.lt (nt hp28.only.size uy.size))))
  refine Lg Tryz.underlying37 hc34 ?_
  refine Ly (Y_decneg (Y_stneq (xs := [.int .i64 ((at_ent V (i : Int).toNat).kind), str ((at_ent V (i : Int).toNat).path), .int .i64 ((at_ent V (i : Int).toNat).mode), str ((at_ent V (i : Int).toNat).target), .int .i64 ((at_ent V (i : Int).toNat).size)]) (ys := [.int .i64 ((at_ent V ((i : Int)).toNat).kind), str ((at_ent V ((i : Int)).toNat).path), .int .i64 ((at_ent V ((i : Int)).toNat).mode), str ((at_ent V ((i : Int)).toNat).target), .int .i64 ((at_ent V ((i : Int)).toNat).size)]) (r := decide (((at_ent V (i : Int).toNat).kind) = ((at_ent V ((i : Int)).toNat).kind) ∧ ((at_ent V (i : Int).toNat).path) = ((at_ent V ((i : Int)).toNat).path) ∧ ((at_ent V (i : Int).toNat).mode) = ((at_ent V ((i : Int)).toNat).mode) ∧ ((at_ent V (i : Int).toNat).target) = ((at_ent V ((i : Int)).toNat).target) ∧ ((at_ent V (i : Int).toNat).size) = ((at_ent V ((i : Int)).toNat).size))) (by kernel_rfl) (by kernel_rfl) (by kernel_rfl) rfl rfl (steq (ks := [.i .i64, .s, .i .i64, .s, .i .i64]) (by kernel_rfl) (by simp [eqks, eqk])))) ?_
  refine Ly Ypf ?_
  refine Mv ?_
  refine L_known (d := 87) false rfl (by exact decide_eq_false (by simp)) ?_
  refine M2 ?_
  refine Mv ?_
  have me7 := nt (nt (nt hxM.size hn26.ext.size) hp28.only.size) uy.size
  have me8 := ((hxM.trans hn26.ext).then' hp28.only (by simp) hxM.size).then' uy ugA (Nat.le_refl _)
  refine Ly (Y_idxr Tryz.underlying53 (show _ = some 1 by kernel_rfl) rfl rfl rfl (ho2.rows.ext ((me8.trans hn30.ext).then' hp32.only (by simp) me7)) (by omega) (by omega)) ?_
  refine Ly (Y_ldr0 (k := ((i : Int)).toNat) Tryz.underlying2 rfl rfl rfl (ho2.rows.ext ((me8.trans hn30.ext).then' hp32.only (by simp) me7)) (by omega) rfl) ?_
  refine Ly Yne ?_
  refine Ly Ypf ?_
  refine Nx ?_
  refine Wu _ (tk7 94 68 67 12 5 7 69) ?_
  refine W_known false rfl (by exact decide_eq_false (by exact fun q => q (by rw [hin]; exact (es_at (by omega)).symm))) ?_
  refine Wk (Xb (Xt (Wg ?_)))
  refine Lad ?_
  refine Mv ?_
  refine Ln ?_
  refine X_loop (i + 1) (tk6 68 67 12 5 7 69) ?_ ?_
  ·exact ⟨by omega, ((me8.trans hn30.ext).then' hp32.only (by simp) me7), by have q9 := (uRA4.ext (hn30.ext.then' hp32.only (by simp) (Nat.le_refl _))); rw [hin] at q9; have q8 := ea_take (V := V) (i := i) (by omega); rw [← q8]; exact q9⟩
  (try dsimp only)
  omega
 refine W_exit ?_
 refine Xe (Xe ?_)
 refine X_block_hit ?_
 refine Xt ?_
 have hfin : (ea (V.take i)).length = (ea V).length := by rw [List.take_of_length_le (by omega)]
 refine Wm ?_
 refine L_call (E_call (by kernel_rfl) rfl) (rt_DecodeN (by rw [hfin]; exact dcd_end _) uRA3 (by omega) h ((hn1.ext.trans hxL).trans hxM) (nt hla q1) hG hK hN hE hT hS) rfl rfl rfl ?_
 rintro _ h22 ⟨rfl, uy2, -⟩
 refine Mx ?_
 refine Lx ?_
 refine L_mks (M_alloc (u := .agg #[.int .i64 0, str [], .int .i64 0, str [], .int .i64 0]) (by kernel_rfl)) rfl rfl rfl ?_
 rintro _ h23 ⟨rfl, hn35⟩
 have hk36 : Blk h23 h22.size [.int .i64 0, str [], .int .i64 0, str [], .int .i64 0] := hn35.blk
 refine Lds [.int .i64 0, str [], .int .i64 0, str [], .int .i64 0] hk36 ?_
 rintro h24 hp37
 have hk38 : Blk h24 h22.size [.int .i64 0, str [], .int .i64 0, str [], .int .i64 0] := hp37.blk
 refine A2 ?_
 refine Nx ?_
 refine Wu _ (tk3 20 19 5) ?_
 refine Wr ?_
 have me9 := ((hn1.ext.trans hxL).trans hxM).then' uy2 ugA (nt hn1.ext.size hxL.size)
 have me10 := (me9.trans hn35.ext).then' hp37.only (by simp) (nt (nt (nt hn1.ext.size hxL.size) hxM.size) uy2.size)
 refine Lc (law12_alive _ (hG.ext me10) (hK.ext me10) (hN.ext me10) (hE.ext me10) (hT.ext me10)) ?_
 rintro _ h25 ⟨rfl, hx39⟩
 refine M2 ?_
 refine Ly Yeq ?_
 refine Ly Ypt ?_
 refine Mv ?_
 refine L_known (d := 107) true rfl (by first | rfl | decide | simp) ?_
 refine M2 ?_
 have me11 := ((hxM.then' uy2 ugA (Nat.le_refl _)).trans hn35.ext).then' hp37.only (by simp) (nt hxM.size uy2.size)
 refine Ly (Y_len Tryz.underlying22 rfl (ho3.bytes.ext (me11.trans hx39))) ?_
 refine Ly Yeq ?_
 refine Ly Ypt ?_
 refine An ?_
 refine Wu _ (tk1 4) ?_
 refine Wt ?_
 refine Xv1 ?_
 exact ⟨by simp, (me10.trans hx39)⟩
theorem lawEntryConsec (h : Heap) (hG : Glb h) (hK : GlbK h) (hN : GlbN h) (hE : GlbE h) (hT : GlbT h) (hS : GlbS h) (w : Value) (l : List Entr) (hl : Rows entS h w l) (vc : Value) (C : List Int) (hc : Rows intS h vc C) (f : Int) (hn : l.length ≤ 140737488355328)
    (hs : ∀ x ∈ l, x.path.length ≤ 140737488355328 ∧ x.target.length ≤ 140737488355328 ∧ (-9223372036854775808 ≤ x.kind ∧ x.kind ≤ 9223372036854775807) ∧ (-9223372036854775808 ≤ x.mode ∧ x.mode ≤ 9223372036854775807) ∧ (-9223372036854775808 ≤ x.size ∧ x.size ≤ 9223372036854775807)) (hC : C.length ≤ 140737488355328) (hf : -9223372036854775808 ≤ f ∧ f ≤ 9223372036854775807) :
    Cal Tryz.prog 6 #[w, .agg #[vc, .int .i64 f]] h (fun v h' => v = .bool true ∧ Ext h h') := by
  obtain ⟨a0, n0, c0, rfl⟩ := row_formN hc
  exact lawEntryConsecS h hG hK hN hE hT hS w l hl a0 n0 c0 C hc f hn hs hC hf
end Go.Xp
