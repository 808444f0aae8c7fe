/- Layer 9 (paxrec): Parse. -/
import Derived.Test.YtdmhigknppkniaaGreatDoorParse
set_option linter.unusedSimpArgs false
set_option linter.unusedVariables false
set_option linter.unusedSectionVars false
set_option maxRecDepth 100000
namespace Go.Xp
open Go.Proofs

/-- What is wrong with the record 't' that was taken behind the records 'l'. -/
def perr3 (l : List Rec) (t : Rec × Int × Int) : Int :=
  if ¬ t.2.2 = 0 then t.2.2 else if ¬ rerr t.1.key t.1.val = 0 then rerr t.1.key t.1.val else if 0 < l.length ∧ sle t.1.key (at_rec l (l.length - 1)).key = true then 12 else 0
def ploop : Nat → List Rec → Nat → List UInt8 → List Rec × Int × Int
  | 0, l, i, _ => (l, (i : Int), 0)
  | f + 1, l, i, b => if i < b.length then (if ¬ perr3 l (ptake (b.drop i)) = 0 then ([], (i : Int), perr3 l (ptake (b.drop i))) else ploop f (l ++ [(ptake (b.drop i)).1]) (i + (ptake (b.drop i)).2.1.toNat) b) else (l, (b.length : Int), 0)
def pres (b : List UInt8) : List Rec × Int × Int := if 262144 < b.length then ([], 0, 7) else ploop (b.length + 1) [] 0 b
theorem ptake_ok {d : List UInt8} (h : (ptake d).2.2 = 0) : 1 ≤ (ptake d).2.1 ∧ (ptake d).2.1 ≤ d.length := by
  unfold ptake at h ⊢
  split
  · rename_i h1; rw [if_pos h1] at h; cases h
  · rename_i h1; rw [if_neg h1] at h
    split
    · rename_i h2; rw [if_pos h2] at h; cases h
    · rename_i h2; rw [if_neg h2] at h
      split
      · rename_i h3; rw [if_pos h3] at h; cases h
      · rename_i h3; rw [if_neg h3] at h
        split
        · rename_i h4; rw [if_pos h4] at h; cases h
        · rename_i h4; rw [if_neg h4] at h
          split
          · rename_i h5; rw [if_pos h5] at h; cases h
          · rename_i h5
            have h6 := nnum_ge (cutA d 32) 999999
            have h7 : ¬ nnum (cutA d 32) 999999 = 0 := fun e => h2 (.inr e)
            exact ⟨by show 1 ≤ nnum (cutA d 32) 999999; omega, by show nnum (cutA d 32) 999999 ≤ d.length; omega⟩

theorem ptake_len (d : List UInt8) : (ptake d).1.key.length ≤ d.length ∧ (ptake d).1.val.length ≤ d.length := by
  unfold ptake
  split
  · simp
  · split
    · simp
    · split
      · simp
      · split
        · simp
        · split
          · simp
          · have hb : ((d.take ((nnum (cutA d 32) 999999).toNat - 1)).drop ((cutA d 32).length + 1)).length ≤ d.length := by simp only [List.length_drop, List.length_take]; omega
            exact ⟨nt (cutA_le _ _) hb, nt (cutB_le _ _) hb⟩
theorem perr3_order {l : List Rec} {t : Rec × Int × Int} (h1 : t.2.2 = 0) (h2 : rerr t.1.key t.1.val = 0) (h3 : 0 < l.length) (h4 : sle t.1.key (at_rec l (l.length - 1)).key = true) : perr3 l t = 12 := by
  unfold perr3; rw [if_neg (by rw [h1]; simp), if_neg (by rw [h2]; simp), if_pos ⟨h3, h4⟩]
theorem perr3_none {l : List Rec} {t : Rec × Int × Int} (h1 : t.2.2 = 0) (h2 : rerr t.1.key t.1.val = 0) (h3 : 0 < l.length → sle t.1.key (at_rec l (l.length - 1)).key = false) : perr3 l t = 0 := by
  unfold perr3; rw [if_neg (by rw [h1]; simp), if_neg (by rw [h2]; simp), if_neg (fun e => by rw [h3 e.1] at e; cases e.2)]
theorem perr3_check {l : List Rec} {t : Rec × Int × Int} (h1 : t.2.2 = 0) (h2 : ¬ rerr t.1.key t.1.val = 0) : perr3 l t = rerr t.1.key t.1.val := by
  unfold perr3; rw [if_neg (by rw [h1]; simp), if_pos h2]
theorem perr3_take {l : List Rec} {t : Rec × Int × Int} (h1 : ¬ t.2.2 = 0) : perr3 l t = t.2.2 := by
  unfold perr3; rw [if_pos h1]
theorem rec_Parse (h : Heap) (hK : GlbK h) (hN : GlbN h) (hE : GlbE h) (v : Value) (b : List UInt8) (hb : Bytes h v b) (hl : b.length ≤ 140737488355328) : Cal Tryz.prog 57 #[v] h (fun v h' => ∃ s0, v = .tuple #[s0, .int .i64 ((pres b).2.1), .int .i64 ((pres b).2.2)] ∧ RowsO recS h' h.size s0 ((pres b).1) ∧ Ext h h') := by
 refine Ce Tryz.func57 fun σ => ?_
 refine Wa ?_
 refine A2 ?_
 refine Ln (Xt (Wq (Wq (Wg ?_))))
 refine Mv ?_
 refine Ly (Y_len Tryz.underlying22 rfl hb) ?_
 refine Ly (Y_gtr rfl rfl) ?_
 refine Nx ?_
 refine Sd (fun g => ?_) fun g => ?_
 ·refine Wa ?_
  refine A2 ?_
  refine Ln (Xt (Wt (Xr ?_)))
  refine Xv3 ?_
  refine ⟨.slice none 0 0, by rw [pres, if_pos (by omega)], ?_, (Ext.refl _)⟩
  rw [pres, if_pos (by omega)]
  exact RowsO.nil _ _ _
 refine Ws ?_
 have hpr : pres b = ploop (b.length + 1) [] 0 b := by rw [pres, if_neg (by omega)]
 refine Wa ?_
 refine Ln (Xt (Wq (Wg ?_)))
 refine Av ?_
 refine Ln (Xt (Wq (Wb ?_)))
 refine W_loop (S := Nat × Nat × List Rec × Value) (fun (q, at9, l, u) => [(0, v), (5, u), (6, .int .i64 ((at9 : Int)))]) (fun (q, at9, l, u) h' => pres b = ploop (b.length + 1 - q) l at9 b ∧ q ≤ at9 ∧ at9 ≤ b.length ∧ l.length ≤ q ∧ RowsO recS h' h.size u l ∧ Ext h h') (fun (q, at9, l, u) => b.length + 1 - q) (0, 0, [], .slice none 0 0) (tk3 0 5 6) ?_ ?_
 ·exact ⟨hpr, by omega, by omega, by simp, RowsO.nil _ _ _, Ext.refl _⟩
 rintro ⟨q, at9, l, u⟩ h1 ⟨hinv, hq1, hq2, hq3, ho, hx⟩
 show W _ _ _ _ _ [(0, v), (5, u), (6, .int .i64 ((at9 : Int)))] _
 refine Wq (Wq (Wg ?_))
 refine M2 ?_
 refine Ly (Y_len Tryz.underlying22 rfl (hb.ext hx)) ?_
 refine Ly Yls ?_
 refine Nx ?_
 refine Sd (fun hlt => ?_) fun hlt => ?_
 ·refine Ws ?_
  have hdl : (b.drop at9).length ≤ 1048576 := by rw [List.length_drop]; omega
  have hin9 : (at9 : Int).toNat = at9 := Int.toNat_natCast at9
  have hln := ptake_len (b.drop at9)
  have hln2 := ptake_len (b.drop (at9 : Int).toNat)
  have hdl2 : (b.drop (at9 : Int).toNat).length ≤ 1048576 := by rw [hin9]; exact hdl
  have hst : ∀ e, perr3 l (ptake (b.drop at9)) = e → ¬ e = 0 → pres b = ([], (at9 : Int), e) := fun e h1 h2 => by rw [hinv, show b.length + 1 - q = (b.length + 1 - (q + 1)) + 1 by omega, ploop, if_pos (show at9 < b.length by omega), if_pos (by rw [h1]; exact h2), h1]
  refine Wb (Wq (Wg ?_))
  refine M2 ?_
  have hb1 : Bytes h1 (slcut 1 ((at9 : Int)).toNat b.length v) (b.drop ((at9 : Int)).toNat) := Bytes.cutl (hb.ext hx) (by first | omega | (simp; done) | (simp; omega)) 
  refine Ly (Y_cut_l Tryz.underlying22 (show _ = some 1 by kernel_rfl) rfl (hb.ext hx) rfl (by first | omega | (simp; done) | (simp; omega)) (by first | omega | (simp; done) | (simp; omega))) ?_
  refine Lc (rec_first _ (hN.ext hx) (hE.ext hx) (slcut 1 ((at9 : Int)).toNat b.length v) (b.drop ((at9 : Int)).toNat) hb1 (by first | first | omega | (simp; done) | (simp; omega) | rfl | (simp <;> omega))) ?_
  rintro _ h2 ⟨rfl, hx2⟩
  refine Mx ?_
  refine Lx ?_
  refine L_mks (M_alloc (u := .agg #[str [], str []]) (by kernel_rfl)) rfl rfl rfl ?_
  rintro _ h3 ⟨rfl, hn3⟩
  have hk4 : Blk h3 h2.size [str [], str []] := hn3.blk
  refine Lds [str ((ptake (b.drop ((at9 : Int)).toNat)).1.key), str ((ptake (b.drop ((at9 : Int)).toNat)).1.val)] hk4 ?_
  rintro h4 hp5
  have hk6 : Blk h4 h2.size [str ((ptake (b.drop ((at9 : Int)).toNat)).1.key), str ((ptake (b.drop ((at9 : Int)).toNat)).1.val)] := hp5.blk
  refine A2 ?_
  refine Nx ?_
  refine Wu _ (tk6 9 8 7 0 5 6) ?_
  refine Wq (Wq (Wg ?_))
  refine Mv ?_
  refine Ly Yeq ?_
  refine Nx ?_
  refine Sd (fun a => ?_) fun a => ?_
  ·have hok := ptake_ok (d := b.drop at9) a
   rw [List.length_drop] at hok
   refine Wg ?_
   refine Lg Tryz.underlying139 hk6 ?_
   have me1 := ((hx.trans hx2).trans hn3.ext).then' hp5.only (by simp) (nt hx.size hx2.size)
   refine Lc (rec_Check _ (hK.ext me1) (hE.ext me1) ((ptake (b.drop ((at9 : Int)).toNat)).1.key) ((ptake (b.drop ((at9 : Int)).toNat)).1.val) (by first | first | omega | (simp; done) | (simp; omega) | rfl | (simp <;> omega))) ?_
   rintro _ h5 ⟨rfl, hx7⟩
   refine Av ?_
   refine Ln (Xt (Wq (Wq ?_)))
   refine W_quiet (fun h' => h' = h5) (by kernel_rfl) (by kernel_rfl) rfl ?_
   refine Qm ?_
   refine Qy (Y_eql rfl rfl) ?_
   refine Qm ?_
   refine LQ_splitd (d := 31) rfl (fun c => ?_) (fun c => ?_)
   ·refine Qm ?_
    refine Qy (Y_lenr Tryz.underlying74 rfl (ho.rows.ext (((hx2.trans hn3.ext).then' hp5.only (by simp) hx2.size).trans hx7))) ?_
    refine Qy (Y_gtr rfl rfl) ?_
    refine Qy (Y_pick_t rfl rfl) ?_
    refine Qm ?_
    refine LQ_splitd (d := 36) rfl (fun p => ?_) (fun p => ?_)
    ·refine Qy (Y_fieldAddr (off := 0) (by kernel_rfl) rfl rfl) ?_
     refine Qy (Y_ldblk Tryz.underlying9 rfl rfl (hk6.ext hx7) rfl) ?_
     refine Qm ?_
     refine Qm ?_
     refine Qy (Y_lenr Tryz.underlying74 rfl (ho.rows.ext (((hx2.trans hn3.ext).then' hp5.only (by simp) hx2.size).trans hx7))) ?_
     refine Qy (Y_sub rfl rfl (by first | omega | (simp; done) | (simp; omega)) (by first | omega | (simp; done) | (simp; omega))) ?_
     refine Qy (Y_idxr Tryz.underlying74 (show _ = some 2 by kernel_rfl) rfl rfl rfl (ho.rows.ext (((hx2.trans hn3.ext).then' hp5.only (by simp) hx2.size).trans hx7)) (by first | omega | (simp; done) | (simp; omega)) (by first | omega | (simp; done) | (simp; omega))) ?_
     refine Qy (Y_fldr (k := ((l.length : Int) - 1).toNat) (off := 0) (by kernel_rfl) rfl (ho.rows.ext (((hx2.trans hn3.ext).then' hp5.only (by simp) hx2.size).trans hx7)) (by first | omega | (simp; done) | (simp; omega))) ?_
     refine Qy (Y_ldr1 (off := 0) (k := ((l.length : Int) - 1).toNat) Tryz.underlying9 rfl rfl rfl (ho.rows.ext (((hx2.trans hn3.ext).then' hp5.only (by simp) hx2.size).trans hx7)) (by first | omega | (simp; done) | (simp; omega)) rfl) ?_
     refine Qy (Y_sleq rfl rfl) ?_
     refine Qy (Y_pick_t rfl rfl) ?_
     refine LQ_nil ?_
     rintro h5 rfl
     refine Xt ?_
     refine Wu _ (tk7 47 9 8 7 0 5 6) ?_
     refine W_split rfl (fun z => ?_) (fun z => ?_)
     ·refine Wg ?_
      refine Av ?_
      refine Ln (Xt (Wq (Wq (Wg ?_))))
      refine Mv ?_
      refine Ly Yne ?_
      refine Nx ?_
      refine W_known true rfl (by first | rfl | decide | simp) ?_
      refine Wm ?_
      refine Mv ?_
      refine A2 ?_
      refine An ?_
      refine Wu _ (tk8 4 3 2 8 7 0 5 6) ?_
      refine Wt (Xr (Yr (Xr (Yr (Xr ?_)))))
      refine Xv3 ?_
      have h12 := hst 12 (perr3_order a c (by omega) (by rw [show l.length - 1 = ((l.length : Int) - 1).toNat by omega]; exact z)) (by decide)
      refine ⟨.slice none 0 0, by rw [h12], ?_, (me1.trans hx7)⟩
      rw [h12]
      exact RowsO.nil _ _ _
     refine Wk (Xt (Wq (Wq (Wg ?_))))
     refine Mv ?_
     refine Ly Yne ?_
     refine Nx ?_
     refine W_known false rfl (by exact decide_eq_false (by exact fun e => e c)) ?_
     refine Ws ?_
     have he3 : perr3 l (ptake (b.drop at9)) = 0 := perr3_none a c (fun _ => by rw [show l.length - 1 = ((l.length : Int) - 1).toNat by omega]; exact z)
     refine Wm ?_
     refine Lg Tryz.underlying139 (hk6.ext hx7) ?_
     refine L_mks (M_litr (S := recS) (l := [⟨(ptake (b.drop ((at9 : Int)).toNat)).1.key, (ptake (b.drop ((at9 : Int)).toNat)).1.val⟩]) (cells := [str ((ptake (b.drop ((at9 : Int)).toNat)).1.key), str ((ptake (b.drop ((at9 : Int)).toNat)).1.val)]) (pv := [(0, .agg #[str ((ptake (b.drop ((at9 : Int)).toNat)).1.key), str ((ptake (b.drop ((at9 : Int)).toNat)).1.val)])]) (E := 139) (evp (is := [0]) (os := [.tmp 53]) (vs := [.agg #[str ((ptake (b.drop ((at9 : Int)).toNat)).1.key), str ((ptake (b.drop ((at9 : Int)).toNat)).1.val)]]) rfl rfl) rfl rfl (fun _ => by kernel_rfl) (by simp only [List.mem_cons, List.not_mem_nil, or_false, forall_eq_or_imp, forall_eq]; exact trivial)) rfl rfl rfl ?_
     rintro v8 h6 ⟨ho9, hx10⟩
     have me2 := ((hx2.trans hn3.ext).then' hp5.only (by simp) hx2.size).trans hx7
     have me3 := nt (nt (nt (nt hx.size hx2.size) hn3.ext.size) hp5.only.size) hx7.size
     refine L_mks (M_appr0 nsRec (z := 2) (bytes := 32) (z0 := (.agg #[str [], str []])) Tryz.underlying74 (by unfold elemRow; kernel_rfl) rfl rfl (by decide) rfl rfl (ho.ext (me2.trans hx10)) ho9.rows (nt me3 hx10.size) (by first | (simp; omega) | omega)) rfl rfl rfl ?_
     rintro v11 h7 ha12
     refine An ?_
     refine Wu _ (tk4 5 8 0 6) ?_
     refine Wg ?_
     refine M2 ?_
     refine Ly (Y_add rfl rfl (by first | omega | (simp; done) | (simp; omega)) (by first | omega | (simp; done) | (simp; omega))) ?_
     refine Av ?_
     refine Ln (Xb ?_)
     refine X_loop ((q + 1, at9 + (ptake (b.drop at9)).2.1.toNat, l ++ [(ptake (b.drop at9)).1], v11)) (sk2 0 5 rfl rfl (sk1 6 (lki rfl (by rw [show at9 + (ptake (b.drop at9)).2.1.toNat = at9 + (ptake (b.drop at9)).2.1.toNat from rfl]; simp only [Int.toNat_natCast]; omega)) sN)) ?_ ?_
     ·exact ⟨by rw [hinv, show b.length + 1 - q = (b.length + 1 - (q + 1)) + 1 by omega, ploop, if_pos (show at9 < b.length by omega), if_neg (by rw [he3]; simp)], by omega, by omega, by simp; omega, RowsO.congr (ha12.own) rfl, (((me1.trans hx7).trans hx10).then' ha12.only ha12.ge (Nat.le_refl _))⟩
     (try dsimp only)
     omega
    refine LQ_skip rfl rfl rfl ?_
    refine LQ_skip rfl rfl rfl ?_
    refine LQ_skip rfl rfl rfl ?_
    refine LQ_skip rfl rfl rfl ?_
    refine LQ_skip rfl rfl rfl ?_
    refine LQ_skip rfl rfl rfl ?_
    refine LQ_skip rfl rfl rfl ?_
    refine LQ_skip rfl rfl rfl ?_
    refine LQ_skip rfl rfl rfl ?_
    refine LQ_skip rfl rfl rfl ?_
    refine Qy (Y_pick_f rfl rfl) ?_
    refine LQ_nil ?_
    rintro h5 rfl
    refine Xt ?_
    refine Wu _ (tk7 47 9 8 7 0 5 6) ?_
    refine W_false rfl ?_
    refine Wk (Xt (Wq (Wq (Wg ?_))))
    refine Mv ?_
    refine Ly Yne ?_
    refine Nx ?_
    refine W_known false rfl (by exact decide_eq_false (by exact fun e => e c)) ?_
    refine Ws ?_
    have he3 : perr3 l (ptake (b.drop at9)) = 0 := perr3_none a c (fun h9 => absurd h9 (by omega))
    refine Wm ?_
    refine Lg Tryz.underlying139 (hk6.ext hx7) ?_
    refine L_mks (M_litr (S := recS) (l := [⟨(ptake (b.drop ((at9 : Int)).toNat)).1.key, (ptake (b.drop ((at9 : Int)).toNat)).1.val⟩]) (cells := [str ((ptake (b.drop ((at9 : Int)).toNat)).1.key), str ((ptake (b.drop ((at9 : Int)).toNat)).1.val)]) (pv := [(0, .agg #[str ((ptake (b.drop ((at9 : Int)).toNat)).1.key), str ((ptake (b.drop ((at9 : Int)).toNat)).1.val)])]) (E := 139) (evp (is := [0]) (os := [.tmp 53]) (vs := [.agg #[str ((ptake (b.drop ((at9 : Int)).toNat)).1.key), str ((ptake (b.drop ((at9 : Int)).toNat)).1.val)]]) rfl rfl) rfl rfl (fun _ => by kernel_rfl) (by simp only [List.mem_cons, List.not_mem_nil, or_false, forall_eq_or_imp, forall_eq]; exact trivial)) rfl rfl rfl ?_
    rintro v13 h8 ⟨ho14, hx15⟩
    have me4 := ((hx2.trans hn3.ext).then' hp5.only (by simp) hx2.size).trans hx7
    have me5 := nt (nt (nt (nt hx.size hx2.size) hn3.ext.size) hp5.only.size) hx7.size
    refine L_mks (M_appr0 nsRec (z := 2) (bytes := 32) (z0 := (.agg #[str [], str []])) Tryz.underlying74 (by unfold elemRow; kernel_rfl) rfl rfl (by decide) rfl rfl (ho.ext (me4.trans hx15)) ho14.rows (nt me5 hx15.size) (by first | (simp; omega) | omega)) rfl rfl rfl ?_
    rintro v16 h9 ha17
    refine An ?_
    refine Wu _ (tk4 5 8 0 6) ?_
    refine Wg ?_
    refine M2 ?_
    refine Ly (Y_add rfl rfl (by first | omega | (simp; done) | (simp; omega)) (by first | omega | (simp; done) | (simp; omega))) ?_
    refine Av ?_
    refine Ln (Xb ?_)
    refine X_loop ((q + 1, at9 + (ptake (b.drop at9)).2.1.toNat, l ++ [(ptake (b.drop at9)).1], v16)) (sk2 0 5 rfl rfl (sk1 6 (lki rfl (by rw [show at9 + (ptake (b.drop at9)).2.1.toNat = at9 + (ptake (b.drop at9)).2.1.toNat from rfl]; simp only [Int.toNat_natCast]; omega)) sN)) ?_ ?_
    ·exact ⟨by rw [hinv, show b.length + 1 - q = (b.length + 1 - (q + 1)) + 1 by omega, ploop, if_pos (show at9 < b.length by omega), if_neg (by rw [he3]; simp)], by omega, by omega, by simp; omega, RowsO.congr (ha17.own) rfl, (((me1.trans hx7).trans hx15).then' ha17.only ha17.ge (Nat.le_refl _))⟩
    (try dsimp only)
    omega
   refine LQ_skip rfl rfl rfl ?_
   refine LQ_skip rfl rfl rfl ?_
   refine LQ_skip rfl rfl rfl ?_
   refine Qy (Y_pick_f rfl rfl) ?_
   refine Qm ?_
   refine LQ_skip rfl rfl rfl ?_
   refine LQ_skip rfl rfl rfl ?_
   refine LQ_skip rfl rfl rfl ?_
   refine LQ_skip rfl rfl rfl ?_
   refine LQ_skip rfl rfl rfl ?_
   refine LQ_skip rfl rfl rfl ?_
   refine LQ_skip rfl rfl rfl ?_
   refine LQ_skip rfl rfl rfl ?_
   refine LQ_skip rfl rfl rfl ?_
   refine LQ_skip rfl rfl rfl ?_
   refine Qy (Y_pick_f rfl rfl) ?_
   refine LQ_nil ?_
   rintro h5 rfl
   refine Xt ?_
   refine Wu _ (tk7 47 9 8 7 0 5 6) ?_
   refine W_false rfl ?_
   refine Wk (Xt (Wq (Wq (Wg ?_))))
   refine Mv ?_
   refine Ly Yne ?_
   refine Nx ?_
   refine W_known true rfl (by exact decide_eq_true (by exact c)) ?_
   refine Wm ?_
   refine Mv ?_
   refine A2 ?_
   refine An ?_
   refine Wu _ (tk8 4 3 2 8 7 0 5 6) ?_
   refine Wt (Xr (Yr (Xr (Yr (Xr ?_)))))
   refine Xv3 ?_
   have hc := perr3_check (l := l) (t := (ptake (b.drop at9))) a c
   have h12 := hst _ hc c
   refine ⟨.slice none 0 0, by rw [h12]; simp only [Int.toNat_natCast], ?_, (me1.trans hx7)⟩
   rw [h12]
   exact RowsO.nil _ _ _
  refine Wk (Xt (Wq (Wq ?_)))
  refine W_quiet (fun h' => h' = h4) (by kernel_rfl) (by kernel_rfl) rfl ?_
  refine Qm ?_
  refine Qy (Y_eql rfl rfl) ?_
  refine Qm ?_
  refine LQ_known (d := 31) false rfl (by exact decide_eq_false (by exact a)) ?_
  refine LQ_skip rfl rfl rfl ?_
  refine LQ_skip rfl rfl rfl ?_
  refine LQ_skip rfl rfl rfl ?_
  refine Qy (Y_pick_f rfl rfl) ?_
  refine Qm ?_
  refine LQ_skip rfl rfl rfl ?_
  refine LQ_skip rfl rfl rfl ?_
  refine LQ_skip rfl rfl rfl ?_
  refine LQ_skip rfl rfl rfl ?_
  refine LQ_skip rfl rfl rfl ?_
  refine LQ_skip rfl rfl rfl ?_
  refine LQ_skip rfl rfl rfl ?_
  refine LQ_skip rfl rfl rfl ?_
  refine LQ_skip rfl rfl rfl ?_
  refine LQ_skip rfl rfl rfl ?_
  refine Qy (Y_pick_f rfl rfl) ?_
  refine LQ_nil ?_
  rintro h4 rfl
  refine Xt ?_
  refine Wu _ (tk7 47 9 8 7 0 5 6) ?_
  refine W_false rfl ?_
  refine Wk (Xt (Wq (Wq (Wg ?_))))
  refine Mv ?_
  refine Ly Yne ?_
  refine Nx ?_
  refine W_known true rfl (by exact decide_eq_true (by exact a)) ?_
  refine Wm ?_
  refine Mv ?_
  refine A2 ?_
  refine An ?_
  refine Wu _ (tk8 4 3 2 8 7 0 5 6) ?_
  refine Wt (Xr (Yr (Xr (Yr (Xr ?_)))))
  refine Xv3 ?_
  have hc := perr3_take (l := l) (t := (ptake (b.drop at9))) a
  have h12 := hst _ hc a
  have me6 := ((hx.trans hx2).trans hn3.ext).then' hp5.only (by simp) (nt hx.size hx2.size)
  refine ⟨.slice none 0 0, by rw [h12]; simp only [Int.toNat_natCast], ?_, me6⟩
  rw [h12]
  exact RowsO.nil _ _ _
 refine W_exit ?_
 refine Xe (Xe ?_)
 refine X_block_hit ?_
 refine Xt (Wq (Wg ?_))
 refine M2 ?_
 refine Ly (Y_len Tryz.underlying22 rfl (hb.ext hx)) ?_
 refine A2 ?_
 refine An ?_
 refine Wu _ (tk3 4 3 2) ?_
 refine Wt ?_
 refine Xv3 ?_
 have hfin : pres b = (l, (b.length : Int), 0) := by rw [hinv, show b.length + 1 - q = (b.length - q) + 1 by omega, ploop, if_neg (by omega)]
 refine ⟨u, by rw [hfin], ?_, hx⟩
 rw [hfin]
 exact (ho).low (Nat.le_refl _)
end Go.Xp
