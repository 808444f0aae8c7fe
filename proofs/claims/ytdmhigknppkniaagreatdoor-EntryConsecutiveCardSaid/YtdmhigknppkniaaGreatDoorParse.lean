/- Layer 9 (paxrec): one record's parsing. -/
import Derived.Test.YtdmhigknppkniaaGreatDoorRecF
import Derived.Test.YtdmhigknppkniaaGreatDoorFitA
set_option linter.unusedSimpArgs false
set_option linter.unusedVariables false
set_option linter.unusedSectionVars false
set_option maxRecDepth 100000
namespace Go.Xp
open Go.Proofs

section
variable {P : Program} {n : Nat} {e : Env} {h : Heap} {d : Option Tmp} {t : TypeId} {pos : String} {af : Array Edge} {g : Option (Nat × Bool)}
/-- A literal's row, new. -/
def Raw (h : Heap) (v : Value) (l : List UInt8) : Prop := ∃ b E, v = .slice (some ⟨b, 0, none⟩) l.length l.length ∧ h[b]? = some (.cells (l.map bv).toArray E (0, 0))
theorem M_litb0 {T E : TypeId} {l : List UInt8} {len : Nat} {ps : List (Nat × Operand)} {pv : List (Nat × Value)} {cells : List Value} (hps : ∀ a, EOk n e a → ps.map (fun (i, x) => (i, a.eval x)) = pv) (hl : l.length = len) (hc : cells = l.map bv)
    (hf : ∀ w, (Instr.buildSlice T len pv.toArray).run P w = .ok (.slice (some ⟨w.heap.size, 0, none⟩) len len) { w with heap := w.heap.push (.cells cells.toArray E) }) :
    Mks P n e h ⟨d, .buildSlice T len ps.toArray, t, pos, af, g⟩ (fun u h' => OwnB h' h.size u l ∧ Ext h h' ∧ Raw h' u l) := fun w a hw he => by
  subst hw
  subst hc
  subst hl
  have hn := new_push w.heap (l.map bv) E
  refine ⟨_, { w with heap := w.heap.push (.cells (l.map bv).toArray E) }, ?_, rfl, ?_, hn.ext, ⟨w.heap.size, E, rfl, by simp⟩⟩
  · have hpa : (ps.toArray.map fun (i, x) => (i, a.eval x)) = pv.toArray := by rw [List.map_toArray, hps a he]
    simp only [execOp, Sem.run_bind, hpa, hf w, Result.andThen_ok, Sem.run_pure]
  · exact (show Buf _ _ l from hn.blk).ownb (Nat.le_refl _) rfl
/-- '[]byte("..")' of a constant: the literal's row gets a mark behind its last cell. -/
theorem M_convself {T E : TypeId} {x : Operand} {v : Value} {l : List UInt8} {base : Nat} (hT : P.underlying T = some (.slice E)) (hE : P.underlying E = some (.int .u8)) (hx : ev e x = some v) (hown : OwnB h base v l) (hr : Raw h v l) :
    Mks P n e h ⟨d, .convert T T x, t, pos, af, g⟩ (fun r h' => AppB h h' base v r l) := fun w a hh he => by
  subst hh
  have hge := hown.ge
  obtain ⟨b, Ty, rfl, hc⟩ := hr
  have hsh : w.shape? b = some (Ty, l.length) := by
    unfold World.shape?; rw [hc]; simp
  have hw : (w.freeze ⟨b, l.length, none⟩ 1).heap = w.heap.modify b (fun | .cells c elem (lo, hi) => .cells c elem (if lo == hi then (l.length, l.length + 1) else (min lo l.length, max hi (l.length + 1))) | o => o) := by
    unfold World.freeze; rw [if_neg (by decide)]; rfl
  have h2 : (w.freeze ⟨b, l.length, none⟩ 1).heap[b]? = some (.cells (l.map bv).toArray Ty (l.length, l.length + 1)) := by
    rw [hw, Array.getElem?_modify, if_pos rfl, hc]; rfl
  refine ⟨.slice (some ⟨b, 0, none⟩) l.length l.length, w.freeze ⟨b, l.length, none⟩ 1, ?_, ?_, ⟨?_, ⟨?_, ?_⟩, hge⟩⟩
  · have hm : (markStringish ⟨b, 0, none⟩).run P w = .ok () (w.freeze ⟨b, l.length, none⟩ 1) := by
      simp [markStringish, hsh]
    simp [execOp, he.eval hx, convert, run_underlying hT, run_underlying hE, hm]
  · unfold World.freeze; rw [if_neg (by decide)]; rfl
  · refine ⟨by simp, .inr ⟨b, l.length, [], rfl, hge b (by simp [blockOf]), ⟨Ty, l.length, l.length + 1, by rw [h2, List.append_nil], fun i hi => by simp at hi; omega⟩, by simp, Nat.le_refl _⟩⟩
  · rw [hw]; simp
  · intro k hk hn
    rw [hw, Array.getElem?_modify, if_neg (fun e => hn (by simp [blockOf, e]))]
end
theorem bytes_Equal (h : Heap) (v : Value) (a : List UInt8) (ha : Bytes h v a) (u : Value) (b : List UInt8) (hb : Bytes h u b) : Cal Tryz.prog 149 #[v, u] h (fun v h' => v = .bool (decide (a = b)) ∧ h' = h) := by
 refine Ce Tryz.func149 fun σ => ?_
 refine Wa ?_
 refine Ln (Xt (Wq (Wg ?_)))
 refine Mv ?_
 refine Ly (Y_bytes_str Tryz.underlying22 Tryz.underlying5 Tryz.underlying9 rfl ha) ?_
 refine Mv ?_
 refine Ly (Y_bytes_str Tryz.underlying22 Tryz.underlying5 Tryz.underlying9 rfl hb) ?_
 refine Ly (Y_seql rfl rfl) ?_
 refine An ?_
 refine Wu _ (tk1 4) ?_
 refine Wt ?_
 refine Xv1 ?_
 exact ⟨rfl, rfl⟩
/-- The last byte is 'c'. -/
def hsx (l : List UInt8) (c : UInt8) : Prop := 0 < l.length ∧ byt l (l.length - 1) = (c.toNat : Int)
instance (l : List UInt8) (c : UInt8) : Decidable (hsx l c) := by unfold hsx; exact inferInstance
theorem hsx_iff {l u : List UInt8} (hu : u.length = 1) (hl : u.length ≤ l.length) : l.drop (l.length - u.length) = u ↔ hsx l (u.getD 0 0) := by
  obtain ⟨c, rfl⟩ := List.length_eq_one_iff.1 hu
  have hp : 0 < l.length := by have := hl; simp at this; omega
  simp only [List.length_singleton]
  rw [List.drop_eq_getElem_cons (by omega), show l.length - 1 + 1 = l.length by omega, List.drop_length]
  unfold hsx
  rw [byt_eq (by omega)]
  constructor
  · intro h
    simp only [List.cons.injEq, and_true] at h
    exact ⟨hp, by rw [h]; rfl⟩
  · rintro ⟨_, h⟩
    have : l[l.length - 1] = c := UInt8.toNat_inj.1 (Int.ofNat_inj.1 h)
    rw [this]
theorem bytes_HasSuffix (h : Heap) (v : Value) (l : List UInt8) (hb : Bytes h v l) (vu : Value) (u : List UInt8) (hbu : Bytes h vu u) (hu : u.length = 1) (hl : l.length ≤ 9223372036854775807) : Cal Tryz.prog 153 #[v, vu] h (fun v h' => v = .bool (decide (hsx l (u.getD 0 0))) ∧ h' = h) := by
 refine Ce Tryz.func153 fun σ => ?_
 refine Wa ?_
 refine Ln (Xt (Wq (Wg ?_)))
 refine Mv ?_
 refine Ly (Y_len Tryz.underlying22 rfl hb) ?_
 refine Mv ?_
 refine Ly (Y_len Tryz.underlying22 rfl hbu) ?_
 refine Ly (Y_geq rfl rfl) ?_
 refine Mv ?_
 refine L_splitd (d := 10) rfl (fun g => ?_) (fun g => ?_)
 ·refine Ly (Y_move rfl) ?_
  refine Mv ?_
  refine Ly (Y_len Tryz.underlying22 rfl hb) ?_
  refine Mv ?_
  refine Ly (Y_len Tryz.underlying22 rfl hbu) ?_
  refine Ly (Y_sub rfl rfl (by omega) (by omega)) ?_
  have hb1 : Bytes h (slcut 1 ((l.length : Int) - (u.length : Int)).toNat l.length v) (l.drop ((l.length : Int) - (u.length : Int)).toNat) := Bytes.cutl hb (by omega) 
  refine Ly (Y_cut_l Tryz.underlying22 (show _ = some 1 by kernel_rfl) rfl hb rfl (by omega) (by omega)) ?_
  refine Mv ?_
  refine Lc (bytes_Equal _ (slcut 1 ((l.length : Int) - (u.length : Int)).toNat l.length v) (l.drop ((l.length : Int) - (u.length : Int)).toNat) hb1 vu u hbu) ?_
  rintro _ h ⟨rfl, rfl⟩
  refine Ly Ypt ?_
  refine An ?_
  refine Wu _ (tk1 4) ?_
  refine Wt ?_
  refine Xv1 ?_
  exact ⟨congrArg Value.bool (decide_eq_decide.2 (by have := hsx_iff hu (show u.length ≤ l.length by omega); rw [show ((l.length : Int) - (u.length : Int)).toNat = l.length - u.length by omega]; exact this)), rfl⟩
 refine Sk2 ?_
 refine Sk2 ?_
 refine Sk2 ?_
 refine Sk2 ?_
 refine Skp ?_
 refine Ly Ypf ?_
 refine An ?_
 refine Wu _ (tk1 4) ?_
 refine Wt ?_
 refine Xv1 ?_
 exact ⟨congrArg Value.bool (decide_eq_false (fun e => by have := e.1; omega)).symm, rfl⟩
def csx (l : List UInt8) (c : UInt8) : List UInt8 := if hsx l c then l.take (l.length - 1) else l
theorem csx_le (l : List UInt8) (c : UInt8) : (csx l c).length ≤ l.length := by
  unfold csx; split
  · simp only [List.length_take]; omega
  · exact Nat.le_refl _
theorem bytes_CutSuffix (h : Heap) (v : Value) (l : List UInt8) (hb : Bytes h v l) (vu : Value) (u : List UInt8) (hbu : Bytes h vu u) (hu : u.length = 1) (hl : l.length ≤ 9223372036854775807) : Cal Tryz.prog 127 #[v, vu] h (fun v h' => ∃ s0, v = .tuple #[s0, .bool (decide (hsx l (u.getD 0 0)))] ∧ Bytes h' s0 (csx l (u.getD 0 0)) ∧ Ext h h') := by
 refine Ce Tryz.func127 fun σ => ?_
 refine Wa ?_
 refine Av ?_
 refine Ln (Xt (Wq (Wq (Wg ?_))))
 refine M2 ?_
 refine Lc (bytes_HasSuffix _ v l hb vu u hbu (by first | omega | rfl | (simp <;> omega)) (by first | omega | rfl | (simp <;> omega))) ?_
 rintro _ h ⟨rfl, rfl⟩
 refine Ly (Y_notd rfl) ?_
 refine Nx ?_
 refine Sd (fun g => ?_) fun g => ?_
 ·refine Wm ?_
  refine A2 ?_
  refine Ln (Xt (Wt (Xr ?_)))
  refine Xv2 ?_
  exact ⟨_, by rw [decide_eq_false g], Bytes.congr hb (by rw [csx, if_neg g]), (Ext.refl _)⟩
 refine Ws ?_
 have g' := Classical.not_not.1 g
 have g1 := g'.1
 have g1' : 1 ≤ l.length := g1
 refine Wm ?_
 refine Mv ?_
 refine Ly (Y_len Tryz.underlying22 rfl hb) ?_
 refine Mv ?_
 refine Ly (Y_len Tryz.underlying22 rfl hbu) ?_
 refine Ly (Y_sub rfl rfl (by omega) (by omega)) ?_
 have hb1 : Bytes h (slcut 1 0 ((l.length : Int) - (u.length : Int)).toNat v) (l.take ((l.length : Int) - (u.length : Int)).toNat) := Bytes.cuth hb (by omega) 
 refine Ly (Y_cut_h Tryz.underlying22 (show _ = some 1 by kernel_rfl) rfl hb rfl (by omega) (by omega)) ?_
 refine A2 ?_
 refine Nx ?_
 refine Wu _ (tk2 5 4) ?_
 refine Wt ?_
 refine Xv2 ?_
 exact ⟨_, by rw [decide_eq_true g'], Bytes.congr hb1 (by rw [csx, if_pos g', hu]; congr 1; omega), (Ext.refl _)⟩

/-- The first record of 'd': what it is, how long, what is wrong. -/
def ptake (d : List UInt8) : Rec × Int × Int :=
  if ¬ 0 ≤ Lib.indexByte d 32 then (⟨[], []⟩, 0, 6)
  else if ¬ nerr (cutA d 32) 999999 = 0 ∨ nnum (cutA d 32) 999999 = 0 then (⟨[], []⟩, 0, 6)
  else if (d.length : Int) < nnum (cutA d 32) 999999 then (⟨[], []⟩, 0, 5)
  else if ¬ hsx (d.take (nnum (cutA d 32) 999999).toNat) 10 ∨ nnum (cutA d 32) 999999 - 1 ≤ (cutA d 32).length then (⟨[], []⟩, 0, 6)
  else if ¬ 0 ≤ Lib.indexByte ((d.take ((nnum (cutA d 32) 999999).toNat - 1)).drop ((cutA d 32).length + 1)) 61 ∨ ¬ (psz (rrest (cutA ((d.take ((nnum (cutA d 32) 999999).toNat - 1)).drop ((cutA d 32).length + 1)) 61) (cutB ((d.take ((nnum (cutA d 32) 999999).toNat - 1)).drop ((cutA d 32).length + 1)) 61)) : Int) = nnum (cutA d 32) 999999 then (⟨[], []⟩, 0, 6)
  else (⟨cutA ((d.take ((nnum (cutA d 32) 999999).toNat - 1)).drop ((cutA d 32).length + 1)) 61, cutB ((d.take ((nnum (cutA d 32) 999999).toNat - 1)).drop ((cutA d 32).length + 1)) 61⟩, nnum (cutA d 32) 999999, 0)
theorem nnum_ge (s : List UInt8) (m : Int) : 0 ≤ nnum s m := by unfold nnum; split <;> omega
theorem cutA_le (l : List UInt8) (c : UInt8) : (cutA l c).length ≤ l.length := by
  unfold cutA; split
  · simp only [List.length_take]; omega
  · exact Nat.le_refl _
theorem cutB_le (l : List UInt8) (c : UInt8) : (cutB l c).length ≤ l.length := by
  unfold cutB; split
  · simp only [List.length_drop]; omega
  · simp

theorem small_cutA {b : List UInt8} (c : UInt8) (h : b.length ≤ 1048576) : (cutA b c).length ≤ 140737488355328 := by have := cutA_le b c; omega
theorem small_cutB {b : List UInt8} (c : UInt8) (h : b.length ≤ 1048576) : (cutB b c).length ≤ 140737488355328 := by have := cutB_le b c; omega
theorem rec_first (h : Heap) (hN : GlbN h) (hE : GlbE h) (v : Value) (d : List UInt8) (hd : Bytes h v d) (hl : d.length ≤ 1048576) : Cal Tryz.prog 99 #[v] h (fun v h' => v = .tuple #[.agg #[str ((ptake d).1.key), str ((ptake d).1.val)], .int .i64 ((ptake d).2.1), .int .i64 ((ptake d).2.2)] ∧ Ext h h') := by
 have ca := cutA_le d 32
 have hn0 := nnum_ge (cutA d 32) 999999
 have ca2 := cutA_le d ([32].getD 0 0)
 have hn2 := nnum_ge (cutA d ([32].getD 0 0)) 999999
 refine Ce Tryz.func99 fun σ => ?_
 refine Wr ?_
 refine L_mks (M_alloc (u := .agg #[str [], str []]) (by kernel_rfl)) rfl rfl rfl ?_
 rintro _ h1 ⟨rfl, hn1⟩
 have hk2 : Blk h1 h.size [str [], str []] := hn1.blk
 refine A2 ?_
 refine Ln (Xt (Wq (Wg ?_)))
 refine Mv ?_
 refine L_mks (M_litb0 (l := [32]) (cells := [.int .u8 32]) (pv := [(0, .int .u8 32)]) (E := 5) (evp (is := [0]) (os := [.const (.int .u8 32)]) (vs := [.int .u8 32]) rfl rfl) rfl rfl (fun _ => by kernel_rfl)) rfl rfl rfl ?_
 rintro v3 h2 ⟨ho4, hx5, ho4w⟩
 refine L_mks (M_convself Tryz.underlying22 Tryz.underlying5 rfl ho4 ho4w) rfl rfl rfl ?_
 rintro v6 h3 ha7
 refine Lc (bytes_Cut _ v d (hd.ext ((hn1.ext.trans hx5).then' ha7.only ha7.ge hn1.ext.size)) v6 [32] ha7.own.bytes (by first | omega | rfl | (simp <;> omega)) (by first | omega | rfl | (simp <;> omega))) ?_
 rintro _ h4 ⟨s08, s19, rfl, hr010, hr111, hx12⟩
 refine Mx ?_
 refine Lx ?_
 refine A2 ?_
 refine An ?_
 refine Wu _ (tk6 7 5 4 3 2 0) ?_
 refine Wq (Wq (Wg ?_))
 refine Mv ?_
 refine Ly (Y_notd rfl) ?_
 refine Nx ?_
 refine Sd (fun c => ?_) fun c => ?_
 ·refine Wr ?_
  refine Ly (Yb (.agg #[str [], str []]) [] [] []) ?_
  refine Lds [str [], str []] (hk2.ext ((hx5.then' ha7.only ha7.ge (Nat.le_refl _)).trans hx12)) ?_
  rintro h5 hp13
  have hk14 : Blk h5 h.size [str [], str []] := hp13.blk
  refine A2 ?_
  refine Ln (Xt (Wt (Xr ?_)))
  refine X_retv3 rfl (RVa Tryz.underlying139 hk14) rfl rfl ?_
  have c' : ¬ 0 ≤ Lib.indexByte d 32 := c
  have me1 := ((hn1.ext.trans hx5).then' ha7.only ha7.ge hn1.ext.size).trans hx12
  exact ⟨by rw [ptake, if_pos c'], (me1.then' hp13.only (by simp) (Nat.le_refl _))⟩
 refine Ws ?_
 have c' : ¬ ¬ 0 ≤ Lib.indexByte d 32 := c
 refine Wm ?_
 refine Ly (Y_bytes_str Tryz.underlying22 Tryz.underlying5 Tryz.underlying9 rfl hr010) ?_
 have me2 := ((hn1.ext.trans hx5).then' ha7.only ha7.ge hn1.ext.size).trans hx12
 refine Lc (rec_number _ (hE.ext me2) (cutA d ([32].getD 0 0)) (999999 : Int) (by first | omega | rfl | (simp <;> omega)) (by first | omega | rfl | (simp <;> omega))) ?_
 rintro _ h6 ⟨rfl, hx15⟩
 refine Mx ?_
 refine A2 ?_
 refine Nx ?_
 refine Wu _ (tk8 9 8 7 5 4 3 2 0) ?_
 refine Wq (Wb ?_)
 refine Wc [(31, .bool (decide ((¬ (nerr (cutA d ([32].getD 0 0)) (999999 : Int)) = 0) ∨ ((nnum (cutA d ([32].getD 0 0)) (999999 : Int)) = 0)))), (8, .int .i64 (nnum (cutA d ([32].getD 0 0)) (999999 : Int))), (7, .bool (decide (0 ≤ Lib.indexByte d ([32].getD 0 0)))), (5, s08), (4, .int .i64 0), (3, .int .i64 0), (2, .pointer (some ⟨h.size, 0, none⟩)), (0, v)] (fun h' => h' = h6) ?_ ?_
 ·refine Wg ?_
  refine Mv ?_
  refine Ly Yne ?_
  refine Mv ?_
  refine L_splitd (d := 34) rfl (fun c16 => ?_) (fun c16 => ?_)
  ·refine Sk2 ?_
   refine Ly Ypt ?_
   refine Av ?_
   refine Ln ?_
   exact X_cut () (sk1 31 (lkb rfl (by first | (simp only [eq_true c16, SB]; done) | (simp only [eq_true c16, SB]; rfl))) (sk1 8 rfl (sk1 7 rfl (sk1 5 rfl (sk1 4 rfl (sk1 3 rfl (sk1 2 rfl (tk1 0)))))))) rfl
  refine Ly (Y_move rfl) ?_
  refine Ly Yeq ?_
  refine Ly Ypf ?_
  refine Av ?_
  refine Ln ?_
  exact X_cut () (sk1 31 (lkb rfl (by first | (simp only [eq_false c16, SB]; done) | (simp only [eq_false c16, SB]; rfl))) (sk1 8 rfl (sk1 7 rfl (sk1 5 rfl (sk1 4 rfl (sk1 3 rfl (sk1 2 rfl (tk1 0)))))))) rfl
 rintro h6 rfl
 refine Sd (fun e => ?_) fun e => ?_
 ·refine Wr ?_
  refine Ly (Yb (.agg #[str [], str []]) [] [] []) ?_
  have me3 := ((hx5.then' ha7.only ha7.ge (Nat.le_refl _)).trans hx12).trans hx15
  refine Lds [str [], str []] (hk2.ext me3) ?_
  rintro h7 hp17
  have hk18 : Blk h7 h.size [str [], str []] := hp17.blk
  refine A2 ?_
  refine Ln (Xt (Wt (Yr (Xr ?_))))
  refine X_retv3 rfl (RVa Tryz.underlying139 hk18) rfl rfl ?_
  have e' : ¬ nerr (cutA d 32) 999999 = 0 ∨ nnum (cutA d 32) 999999 = 0 := e
  have me4 := (me2.trans hx15).then' hp17.only (by simp) (Nat.le_refl _)
  exact ⟨by rw [ptake, if_neg c', if_pos e'], me4⟩
 have e' : ¬ (¬ nerr (cutA d 32) 999999 = 0 ∨ nnum (cutA d 32) 999999 = 0) := e
 refine Wm ?_
 refine Mv ?_
 refine Ly (Y_len Tryz.underlying22 rfl (hd.ext (me2.trans hx15))) ?_
 refine Ly (Y_gtr rfl rfl) ?_
 refine An ?_
 refine Sd (fun f => ?_) fun f => ?_
 ·refine Wr ?_
  refine Ly (Yb (.agg #[str [], str []]) [] [] []) ?_
  have me5 := ((hx5.then' ha7.only ha7.ge (Nat.le_refl _)).trans hx12).trans hx15
  refine Lds [str [], str []] (hk2.ext me5) ?_
  rintro h8 hp19
  have hk20 : Blk h8 h.size [str [], str []] := hp19.blk
  refine A2 ?_
  refine Nx ?_
  refine Wu _ (tk7 4 3 8 7 5 2 0) ?_
  refine Wt (Yr (Xr ?_))
  refine X_retv3 rfl (RVa Tryz.underlying139 hk20) rfl rfl ?_
  have f' : (d.length : Int) < nnum (cutA d 32) 999999 := f
  have me6 := (me2.trans hx15).then' hp19.only (by simp) (Nat.le_refl _)
  exact ⟨by rw [ptake, if_neg c', if_neg e', if_pos f'], me6⟩
 refine Wk (Xb (Xt ?_))
 refine Wu _ (tk7 8 7 5 4 3 2 0) ?_
 have f' : ¬ (d.length : Int) < nnum (cutA d 32) 999999 := f
 have hcx := csx_le (d.take (nnum (cutA d ([32].getD 0 0)) 999999).toNat) ([10].getD 0 0)
 have htk : (d.take (nnum (cutA d ([32].getD 0 0)) 999999).toNat).length ≤ d.length := by rw [List.length_take]; omega
 refine Wm ?_
 refine Mv ?_
 have hb21 : Bytes h6 (slcut 1 0 (nnum (cutA d ([32].getD 0 0)) (999999 : Int)).toNat v) (d.take (nnum (cutA d ([32].getD 0 0)) (999999 : Int)).toNat) := Bytes.cuth (hd.ext (me2.trans hx15)) (by omega) 
 refine Ly (Y_cut_h Tryz.underlying22 (show _ = some 1 by kernel_rfl) rfl (hd.ext (me2.trans hx15)) rfl (by omega) (by omega)) ?_
 refine L_mks (M_litb0 (l := [10]) (cells := [.int .u8 10]) (pv := [(0, .int .u8 10)]) (E := 5) (evp (is := [0]) (os := [.const (.int .u8 10)]) (vs := [.int .u8 10]) rfl rfl) rfl rfl (fun _ => by kernel_rfl)) rfl rfl rfl ?_
 rintro v22 h9 ⟨ho23, hx24, ho23w⟩
 refine L_mks (M_convself Tryz.underlying22 Tryz.underlying5 rfl ho23 ho23w) rfl rfl rfl ?_
 rintro v25 h10 ha26
 refine Lc (bytes_CutSuffix _ (slcut 1 0 (nnum (cutA d ([32].getD 0 0)) (999999 : Int)).toNat v) (d.take (nnum (cutA d ([32].getD 0 0)) (999999 : Int)).toNat) (hb21.ext (hx24.then' ha26.only ha26.ge (Nat.le_refl _))) v25 [10] ha26.own.bytes (by first | omega | rfl | (simp <;> omega)) (by first | omega | rfl | (simp <;> omega))) ?_
 rintro _ h11 ⟨s027, rfl, hr028, hx29⟩
 refine Mx ?_
 refine A2 ?_
 refine Nx ?_
 refine Wu _ (tk7 7 10 8 5 4 3 2) ?_
 refine Wq ?_
 refine Wc [(62, .bool (decide ((¬ (hsx (d.take (nnum (cutA d ([32].getD 0 0)) (999999 : Int)).toNat) ([10].getD 0 0))) ∨ (((csx (d.take (nnum (cutA d ([32].getD 0 0)) (999999 : Int)).toNat) ([10].getD 0 0)).length : Int) ≤ ((cutA d ([32].getD 0 0)).length : Int))))), (7, .bool (decide (hsx (d.take (nnum (cutA d ([32].getD 0 0)) (999999 : Int)).toNat) ([10].getD 0 0)))), (10, s027), (8, .int .i64 (nnum (cutA d ([32].getD 0 0)) (999999 : Int))), (5, s08), (4, .int .i64 0), (3, .int .i64 0), (2, .pointer (some ⟨h.size, 0, none⟩))] (fun h' => h' = h11) ?_ ?_
 ·refine Wg ?_
  refine Mv ?_
  refine Ly (Y_notd rfl) ?_
  refine Mv ?_
  refine L_splitd (d := 56) rfl (fun c30 => ?_) (fun c30 => ?_)
  ·refine Sk2 ?_
   refine Sk2 ?_
   refine Skp ?_
   refine Ly Ypt ?_
   refine Ln ?_
   exact X_cut () (sk1 62 (lkb rfl (by first | (simp only [eq_true c30, SB]; done) | (simp only [eq_true c30, SB]; rfl))) (sk1 7 rfl (sk1 10 rfl (sk1 8 rfl (sk1 5 rfl (sk1 4 rfl (sk1 3 rfl (tk1 2)))))))) rfl
  refine Ly (Y_move rfl) ?_
  refine Ly (Y_len Tryz.underlying22 rfl hr028) ?_
  refine Mv ?_
  have me7 := ((hx15.trans hx24).then' ha26.only ha26.ge hx15.size).trans hx29
  refine Ly (Y_len Tryz.underlying22 rfl (hr010.ext me7)) ?_
  refine Ly (Y_leq rfl rfl) ?_
  refine Ly Ypf ?_
  refine Ln ?_
  exact X_cut () (sk1 62 (lkb rfl (by first | (simp only [eq_false c30, SB]; done) | (simp only [eq_false c30, SB]; rfl))) (sk1 7 rfl (sk1 10 rfl (sk1 8 rfl (sk1 5 rfl (sk1 4 rfl (sk1 3 rfl (tk1 2)))))))) rfl
 rintro h11 rfl
 refine Sd (fun g => ?_) fun g => ?_
 ·refine Wr ?_
  refine Ly (Yb (.agg #[str [], str []]) [] [] []) ?_
  have me8 := ((hx5.then' ha7.only ha7.ge (Nat.le_refl _)).trans hx12).trans hx15
  have me9 := (me8.trans hx24).then' ha26.only ha26.ge (nt (nt (nt hx5.size ha7.only.size) hx12.size) hx15.size)
  refine Lds [str [], str []] (hk2.ext (me9.trans hx29)) ?_
  rintro h12 hp31
  have hk32 : Blk h12 h.size [str [], str []] := hp31.blk
  refine A2 ?_
  refine Ln (Xt (Wt (Xr ?_)))
  refine X_retv3 rfl (RVa Tryz.underlying139 hk32) rfl rfl ?_
  have g0 : ¬ hsx (d.take (nnum (cutA d 32) 999999).toNat) 10 ∨ ((csx (d.take (nnum (cutA d 32) 999999).toNat) 10).length : Int) ≤ ((cutA d 32).length : Int) := g
  have g' : ¬ hsx (d.take (nnum (cutA d 32) 999999).toNat) 10 ∨ nnum (cutA d 32) 999999 - 1 ≤ (cutA d 32).length := by rcases Classical.em (hsx (d.take (nnum (cutA d 32) 999999).toNat) 10) with hs | hs; exact .inr (by rcases g0 with g0 | g0; exact absurd hs g0; rw [csx, if_pos hs] at g0; simp only [List.length_take] at g0; omega); exact .inl hs
  have me10 := nt (nt (nt hn1.ext.size hx5.size) ha7.only.size) hx12.size
  have me11 := ((me2.trans hx15).trans hx24).then' ha26.only ha26.ge (nt me10 hx15.size)
  have me12 := (me11.trans hx29).then' hp31.only (by simp) (Nat.le_refl _)
  exact ⟨by rw [ptake, if_neg c', if_neg e', if_neg f', if_pos g'], me12⟩
 refine Ws ?_
 have g0 : ¬ (¬ hsx (d.take (nnum (cutA d 32) 999999).toNat) 10 ∨ ((csx (d.take (nnum (cutA d 32) 999999).toNat) 10).length : Int) ≤ ((cutA d 32).length : Int)) := g
 have hs : hsx (d.take (nnum (cutA d 32) 999999).toNat) 10 := Classical.not_not.1 (fun e => g0 (.inl e))
 have hcl : (csx (d.take (nnum (cutA d 32) 999999).toNat) 10).length = (nnum (cutA d 32) 999999).toNat - 1 := by rw [csx, if_pos hs]; simp only [List.length_take]; omega
 have hcl2 : (csx (d.take (nnum (cutA d ([32].getD 0 0)) 999999).toNat) ([10].getD 0 0)).length = (nnum (cutA d 32) 999999).toNat - 1 := hcl
 have g' : ¬ (¬ hsx (d.take (nnum (cutA d 32) 999999).toNat) 10 ∨ nnum (cutA d 32) 999999 - 1 ≤ (cutA d 32).length) := fun e => e.elim (fun e => e hs) (fun e => g0 (.inr (by rw [hcl]; omega)))
 have hcl3 : (cutA d 32).length < (nnum (cutA d 32) 999999).toNat - 1 := by have := fun e => g' (.inr e); omega
 have hcl4 : (cutA d ([32].getD 0 0)).length < (nnum (cutA d 32) 999999).toNat - 1 := hcl3
 have hbody : ((csx (d.take (nnum (cutA d 32) 999999).toNat) 10).drop (((cutA d 32).length : Int) + 1).toNat) = ((d.take ((nnum (cutA d 32) 999999).toNat - 1)).drop ((cutA d 32).length + 1)) := by rw [csx, if_pos hs, List.take_take]; congr 1; simp only [List.length_take]; congr 1; omega
 refine Wm ?_
 refine Mv ?_
 have me13 := ((hx15.trans hx24).then' ha26.only ha26.ge hx15.size).trans hx29
 refine Ly (Y_len Tryz.underlying22 rfl (hr010.ext me13)) ?_
 refine Lad ?_
 have hb33 : Bytes h11 (slcut 1 (((cutA d ([32].getD 0 0)).length : Int) + 1).toNat (csx (d.take (nnum (cutA d ([32].getD 0 0)) (999999 : Int)).toNat) ([10].getD 0 0)).length s027) ((csx (d.take (nnum (cutA d ([32].getD 0 0)) (999999 : Int)).toNat) ([10].getD 0 0)).drop (((cutA d ([32].getD 0 0)).length : Int) + 1).toNat) := Bytes.cutl hr028 (by omega) 
 refine Ly (Y_cut_l Tryz.underlying22 (show _ = some 1 by kernel_rfl) rfl hr028 rfl (by omega) (by omega)) ?_
 refine Ly (Y_bytes_str Tryz.underlying22 Tryz.underlying5 Tryz.underlying9 rfl hb33) ?_
 refine Lc (strings_Cut _ ((csx (d.take (nnum (cutA d ([32].getD 0 0)) (999999 : Int)).toNat) ([10].getD 0 0)).drop (((cutA d ([32].getD 0 0)).length : Int) + 1).toNat) [61] (by first | omega | rfl | (simp <;> omega)) (by first | omega | rfl | (simp <;> omega))) ?_
 rintro _ h11 ⟨rfl, rfl⟩
 refine Mx ?_
 refine Lx ?_
 refine A2 ?_
 refine An ?_
 refine Wu _ (tk7 7 12 11 8 4 3 2) ?_
 refine Wm ?_
 refine Mv ?_
 refine Ly (Yb (.agg #[str (cutA ((csx (d.take (nnum (cutA d ([32].getD 0 0)) (999999 : Int)).toNat) ([10].getD 0 0)).drop (((cutA d ([32].getD 0 0)).length : Int) + 1).toNat) ([61].getD 0 0)), str (cutB ((csx (d.take (nnum (cutA d ([32].getD 0 0)) (999999 : Int)).toNat) ([10].getD 0 0)).drop (((cutA d ([32].getD 0 0)).length : Int) + 1).toNat) ([61].getD 0 0))]) [0, 1] [.tmp 75, .tmp 76] [str (cutA ((csx (d.take (nnum (cutA d ([32].getD 0 0)) (999999 : Int)).toNat) ([10].getD 0 0)).drop (((cutA d ([32].getD 0 0)).length : Int) + 1).toNat) ([61].getD 0 0)), str (cutB ((csx (d.take (nnum (cutA d ([32].getD 0 0)) (999999 : Int)).toNat) ([10].getD 0 0)).drop (((cutA d ([32].getD 0 0)).length : Int) + 1).toNat) ([61].getD 0 0))]) ?_
 refine L_mks (M_alloc (u := .agg #[str [], str []]) (by kernel_rfl)) rfl rfl rfl ?_
 rintro _ h13 ⟨rfl, hn34⟩
 have hk35 : Blk h13 h11.size [str [], str []] := hn34.blk
 refine Lds [str (cutA ((csx (d.take (nnum (cutA d ([32].getD 0 0)) (999999 : Int)).toNat) ([10].getD 0 0)).drop (((cutA d ([32].getD 0 0)).length : Int) + 1).toNat) ([61].getD 0 0)), str (cutB ((csx (d.take (nnum (cutA d ([32].getD 0 0)) (999999 : Int)).toNat) ([10].getD 0 0)).drop (((cutA d ([32].getD 0 0)).length : Int) + 1).toNat) ([61].getD 0 0))] hk35 ?_
 rintro h14 hp36
 have hk37 : Blk h14 h11.size [str (cutA ((csx (d.take (nnum (cutA d ([32].getD 0 0)) (999999 : Int)).toNat) ([10].getD 0 0)).drop (((cutA d ([32].getD 0 0)).length : Int) + 1).toNat) ([61].getD 0 0)), str (cutB ((csx (d.take (nnum (cutA d ([32].getD 0 0)) (999999 : Int)).toNat) ([10].getD 0 0)).drop (((cutA d ([32].getD 0 0)).length : Int) + 1).toNat) ([61].getD 0 0))] := hp36.blk
 refine Nx ?_
 have hbl : ((csx (d.take (nnum (cutA d ([32].getD 0 0)) 999999).toNat) ([10].getD 0 0)).drop (((cutA d ([32].getD 0 0)).length : Int) + 1).toNat).length ≤ 1048576 := by rw [List.length_drop]; omega
 refine Wq ?_
 refine Wc [(85, .bool (decide ((¬ (0 ≤ Lib.indexByte ((csx (d.take (nnum (cutA d ([32].getD 0 0)) (999999 : Int)).toNat) ([10].getD 0 0)).drop (((cutA d ([32].getD 0 0)).length : Int) + 1).toNat) ([61].getD 0 0))) ∨ (¬ (psz (rrest (cutA ((csx (d.take (nnum (cutA d ([32].getD 0 0)) (999999 : Int)).toNat) ([10].getD 0 0)).drop (((cutA d ([32].getD 0 0)).length : Int) + 1).toNat) ([61].getD 0 0)) (cutB ((csx (d.take (nnum (cutA d ([32].getD 0 0)) (999999 : Int)).toNat) ([10].getD 0 0)).drop (((cutA d ([32].getD 0 0)).length : Int) + 1).toNat) ([61].getD 0 0))) : Int) = (nnum (cutA d ([32].getD 0 0)) (999999 : Int)))))), (13, .pointer (some ⟨h11.size, 0, none⟩)), (8, .int .i64 (nnum (cutA d ([32].getD 0 0)) (999999 : Int))), (4, .int .i64 0), (3, .int .i64 0), (2, .pointer (some ⟨h.size, 0, none⟩))] (fun h' => Ext h14 h') ?_ ?_
 ·refine Wg ?_
  refine Mv ?_
  refine Ly (Y_notd rfl) ?_
  refine Mv ?_
  refine L_splitd (d := 80) rfl (fun c38 => ?_) (fun c38 => ?_)
  ·refine Sk2 ?_
   refine Sk2 ?_
   refine Ly Ypt ?_
   refine Ln ?_
   exact X_cut () (sk1 85 (lkb rfl (by first | (simp only [eq_true c38, SB]; done) | (simp only [eq_true c38, SB]; rfl))) (sk1 13 rfl (sk1 8 rfl (sk1 4 rfl (sk1 3 rfl (tk1 2)))))) (Ext.refl _)
  refine Lg Tryz.underlying139 hk37 ?_
  have me14 := nt (nt (nt hn1.ext.size hx5.size) ha7.only.size) hx12.size
  have me15 := nt (nt (nt (nt me14 hx15.size) hx24.size) ha26.only.size) hx29.size
  have me16 := ((me2.trans hx15).trans hx24).then' ha26.only ha26.ge (nt me14 hx15.size)
  have me17 := ((me16.trans hx29).trans hn34.ext).then' hp36.only (by simp) me15
  refine Lc (rec_Size _ (hN.ext me17) (cutA ((csx (d.take (nnum (cutA d ([32].getD 0 0)) (999999 : Int)).toNat) ([10].getD 0 0)).drop (((cutA d ([32].getD 0 0)).length : Int) + 1).toNat) ([61].getD 0 0)) (cutB ((csx (d.take (nnum (cutA d ([32].getD 0 0)) (999999 : Int)).toNat) ([10].getD 0 0)).drop (((cutA d ([32].getD 0 0)).length : Int) + 1).toNat) ([61].getD 0 0)) (small_cutA _ hbl) (small_cutB _ hbl)) ?_
  rintro _ h15 ⟨rfl, hx39⟩
  refine Mv ?_
  refine Ly Yne ?_
  refine Ly Ypf ?_
  refine Ln ?_
  exact X_cut () (sk1 85 (lkb rfl (by first | (simp only [eq_false c38, SB]; done) | (simp only [eq_false c38, SB]; rfl))) (sk1 13 rfl (sk1 8 rfl (sk1 4 rfl (sk1 3 rfl (tk1 2)))))) hx39
 rintro h16 hx40
 refine Sd (fun k => ?_) fun k => ?_
 ·refine Wr ?_
  refine Ly (Yb (.agg #[str [], str []]) [] [] []) ?_
  have me18 := nt (nt (nt (nt hx5.size ha7.only.size) hx12.size) hx15.size) hx24.size
  have me19 := ((hx5.then' ha7.only ha7.ge (Nat.le_refl _)).trans hx12).trans hx15
  have me20 := (me19.trans hx24).then' ha26.only ha26.ge (nt (nt (nt hx5.size ha7.only.size) hx12.size) hx15.size)
  have me21 := ((me20.trans hx29).trans hn34.ext).then' hp36.only (by simp) (nt (nt me18 ha26.only.size) hx29.size)
  refine Lds [str [], str []] (hk2.ext (me21.trans hx40)) ?_
  rintro h17 hp41
  have hk42 : Blk h17 h.size [str [], str []] := hp41.blk
  refine A2 ?_
  refine Ln (Xt (Wt (Xr ?_)))
  refine X_retv3 rfl (RVa Tryz.underlying139 hk42) rfl rfl ?_
  have k' : ¬ 0 ≤ Lib.indexByte ((csx (d.take (nnum (cutA d 32) 999999).toNat) 10).drop (((cutA d 32).length : Int) + 1).toNat) 61 ∨ ¬ (psz (rrest (cutA ((csx (d.take (nnum (cutA d 32) 999999).toNat) 10).drop (((cutA d 32).length : Int) + 1).toNat) 61) (cutB ((csx (d.take (nnum (cutA d 32) 999999).toNat) 10).drop (((cutA d 32).length : Int) + 1).toNat) 61)) : Int) = nnum (cutA d 32) 999999 := k
  rw [hbody] at k'
  have me22 := nt (nt (nt hn1.ext.size hx5.size) ha7.only.size) hx12.size
  have me23 := nt (nt (nt (nt me22 hx15.size) hx24.size) ha26.only.size) hx29.size
  have me24 := ((me2.trans hx15).trans hx24).then' ha26.only ha26.ge (nt me22 hx15.size)
  have me25 := ((me24.trans hx29).trans hn34.ext).then' hp36.only (by simp) me23
  have me26 := (me25.trans hx40).then' hp41.only (by simp) (Nat.le_refl _)
  exact ⟨by rw [ptake, if_neg c', if_neg e', if_neg f', if_neg g', if_pos k'], me26⟩
 refine Wk (Xt (Wq (Wg ?_)))
 refine Lg Tryz.underlying139 (hk37.ext hx40) ?_
 refine Mv ?_
 have me27 := nt (nt (nt (nt hx5.size ha7.only.size) hx12.size) hx15.size) hx24.size
 have me28 := ((hx5.then' ha7.only ha7.ge (Nat.le_refl _)).trans hx12).trans hx15
 have me29 := (me28.trans hx24).then' ha26.only ha26.ge (nt (nt (nt hx5.size ha7.only.size) hx12.size) hx15.size)
 have me30 := ((me29.trans hx29).trans hn34.ext).then' hp36.only (by simp) (nt (nt me27 ha26.only.size) hx29.size)
 refine Lds [str (cutA ((csx (d.take (nnum (cutA d ([32].getD 0 0)) (999999 : Int)).toNat) ([10].getD 0 0)).drop (((cutA d ([32].getD 0 0)).length : Int) + 1).toNat) ([61].getD 0 0)), str (cutB ((csx (d.take (nnum (cutA d ([32].getD 0 0)) (999999 : Int)).toNat) ([10].getD 0 0)).drop (((cutA d ([32].getD 0 0)).length : Int) + 1).toNat) ([61].getD 0 0))] (hk2.ext (me30.trans hx40)) ?_
 rintro h18 hp43
 have hk44 : Blk h18 h.size [str (cutA ((csx (d.take (nnum (cutA d ([32].getD 0 0)) (999999 : Int)).toNat) ([10].getD 0 0)).drop (((cutA d ([32].getD 0 0)).length : Int) + 1).toNat) ([61].getD 0 0)), str (cutB ((csx (d.take (nnum (cutA d ([32].getD 0 0)) (999999 : Int)).toNat) ([10].getD 0 0)).drop (((cutA d ([32].getD 0 0)).length : Int) + 1).toNat) ([61].getD 0 0))] := hp43.blk
 refine A2 ?_
 refine Ln (Xt (Wt ?_))
 refine X_retv3 rfl (RVa Tryz.underlying139 hk44) rfl rfl ?_
 have k' : ¬ (¬ 0 ≤ Lib.indexByte ((csx (d.take (nnum (cutA d 32) 999999).toNat) 10).drop (((cutA d 32).length : Int) + 1).toNat) 61 ∨ ¬ (psz (rrest (cutA ((csx (d.take (nnum (cutA d 32) 999999).toNat) 10).drop (((cutA d 32).length : Int) + 1).toNat) 61) (cutB ((csx (d.take (nnum (cutA d 32) 999999).toNat) 10).drop (((cutA d 32).length : Int) + 1).toNat) 61)) : Int) = nnum (cutA d 32) 999999) := k
 rw [hbody] at k'
 have me31 := nt (nt (nt hn1.ext.size hx5.size) ha7.only.size) hx12.size
 have me32 := nt (nt (nt (nt me31 hx15.size) hx24.size) ha26.only.size) hx29.size
 have me33 := ((me2.trans hx15).trans hx24).then' ha26.only ha26.ge (nt me31 hx15.size)
 have me34 := ((me33.trans hx29).trans hn34.ext).then' hp36.only (by simp) me32
 have me35 := (me34.trans hx40).then' hp43.only (by simp) (Nat.le_refl _)
 refine ⟨?_, me35⟩
 show Value.tuple #[.agg #[str (cutA ((csx (d.take (nnum (cutA d 32) 999999).toNat) 10).drop (((cutA d 32).length : Int) + 1).toNat) 61), str (cutB ((csx (d.take (nnum (cutA d 32) 999999).toNat) 10).drop (((cutA d 32).length : Int) + 1).toNat) 61)], .int .i64 (nnum (cutA d 32) 999999), .int .i64 0] = _
 rw [hbody, ptake, if_neg c', if_neg e', if_neg f', if_neg g', if_neg k']
end Go.Xp
