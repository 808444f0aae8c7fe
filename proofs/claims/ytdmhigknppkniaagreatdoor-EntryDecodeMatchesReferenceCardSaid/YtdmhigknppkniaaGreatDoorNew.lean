/- Layers 4 and 6: new sources and readers, of the code and of the reference. -/
import Derived.Test.YtdmhigknppkniaaGreatDoorLaidI
import Derived.Test.YtdmhigknppkniaaGreatDoorPab
import Derived.Test.YtdmhigknppkniaaGreatDoorRecF
import Derived.Test.YtdmhigknppkniaaGreatDoorBye
set_option linter.unusedSimpArgs false
set_option linter.unusedVariables false
set_option linter.unusedSectionVars false
set_option maxRecDepth 100000
namespace Go.Xp
open Go.Proofs

theorem slice_formN {h : Heap} {v : Value} {l : List UInt8} (b : Bytes h v l) : ∃ x n c, v = .slice x n c := by
  obtain ⟨⟨a0, cap, rfl, _⟩, _⟩ := b; exact ⟨_, _, _, rfl⟩
theorem row_formN {β : Type} {S : Sch β} {h : Heap} {v : Value} {l : List β} (b : Rows S h v l) : ∃ x n c, v = .slice x n c := by
  obtain ⟨⟨⟨a0, cap, rfl, _⟩, _⟩, _⟩ := b; exact ⟨_, _, _, rfl⟩
theorem slices_CloneI (h : Heap) (v : Value) (l : List Int) (hl : Rows intS h v l) (hn : l.length ≤ 1048576) : Cal Tryz.prog 19 #[v] h (fun v h' => ∃ s0, v = s0 ∧ RowsO intS h' h.size s0 (l) ∧ Ext h h') := by
 refine Ce Tryz.func19 fun σ => ?_
 refine Wa ?_
 refine Ln (Xt (Wq (Wq (Wg ?_))))
 refine Mv ?_
 refine Ly (Y_slnilr Tryz.underlying23 rfl hl) ?_
 refine Nx ?_
 refine W_split rfl (fun c => ?_) (fun c => ?_)
 ·refine Wa ?_
  refine Ln (Xt (Wt (Xr ?_)))
  refine Xv1 ?_
  exact ⟨_, rfl, by rw [isNil_nilr hl c]; exact RowsO.nil _ _ _, (Ext.refl _)⟩
 refine Wk (Xt (Wq (Wg ?_)))
 refine L_mks (M_litr0 (S := intS) (cells := []) (E := 3) rfl rfl (fun _ => by kernel_rfl)) rfl rfl rfl ?_
 rintro v1 h1 ⟨ho2, hx3⟩
 refine Mv ?_
 refine L_mks (M_appe (z := 1) (bytes := 8) (z0 := (.int .i64 0)) Tryz.underlying23 (by unfold elemRow; kernel_rfl) rfl rfl (by decide) rfl rfl ho2 (hl.ext hx3) hx3.size (by first | omega | (simp; omega))) rfl rfl rfl ?_
 rintro v4 h2 ⟨ho5, hx6⟩
 refine An ?_
 refine Wu _ (tk1 2) ?_
 refine Wt ?_
 refine Xv1 ?_
 exact ⟨_, rfl, RowsO.congr ((ho5).low (Nat.le_refl _)) (by simp), (hx3.trans hx6)⟩
/-- A new source at s: all of it in blocks from lo on. -/
structure NwA (lo : Nat) (h : Heap) (s : Nat) (D : List UInt8) (f : Int) : Prop where
  st : ∃ vr vc C, Blk h s [vr, vc, .int .i64 f, .int .i64 0, .int .i64 0] ∧ Bytes h vr D ∧ Rows intS h vc C ∧ C.length ≤ 1000000000 ∧ (∀ d, blockOf vr = some d → (lo ≤ d ∧ d < h.size) ∧ d ≠ s) ∧ (∀ d, blockOf vc = some d → (lo ≤ d ∧ d < h.size) ∧ d ≠ s)
  ge : lo ≤ s
theorem NwA.ext {lo : Nat} {h h' : Heap} {s : Nat} {D : List UInt8} {f : Int} (x : NwA lo h s D f) (y : Ext h h') : NwA lo h' s D f := by
  obtain ⟨⟨vr, vc, C, a1, a2, a3, a4, a5, a6⟩, g⟩ := x
  have hs := y.size
  exact ⟨⟨vr, vc, C, a1.ext y, a2.ext y, a3.ext y, a4, fun d hd => by have := a5 d hd; omega, fun d hd => by have := a6 d hd; omega⟩, g⟩
theorem mk_RdA {lo : Nat} {h h' : Heap} {s r : Nat} {D : List UInt8} {f : Int} (x : NwA lo h s D f) (y : Ext h h') (b : Blk h' r [.int .i64 0, .int .i64 0, .pointer (some ⟨s, 0, none⟩)]) (hr : h.size ≤ r) : RdA lo h'.size h' r s D f 0 0 := by
  obtain ⟨⟨vr, vc, C, a1, a2, a3, a4, a5, a6⟩, g⟩ := x
  have hs := y.size
  have h1 := a1.lt
  have h2 := b.lt
  refine ⟨b, ⟨⟨vr, vc, C, 0, a1.ext y, a2.ext y, a3.ext y, by omega, a4, fun d hd => ?_, fun d hd => ?_⟩, Nat.zero_le _, by omega⟩, by omega⟩
  · have := a5 d hd; omega
  · have := a6 d hd; omega
theorem mk_RdB {lo : Nat} {h h' : Heap} {s r : Nat} {D : List UInt8} {f : Int} (x : NwA lo h s D f) (y : Ext h h') (b : Blk h' r [.pointer (some ⟨s, 0, none⟩), .int .i64 0, .int .i64 0]) (hr : h.size ≤ r) : RdB lo h'.size h' r s D f 0 0 := by
  obtain ⟨⟨vr, vc, C, a1, a2, a3, a4, a5, a6⟩, g⟩ := x
  have hs := y.size
  have h1 := a1.lt
  have h2 := b.lt
  refine ⟨b, ⟨⟨vr, vc, C, 0, a1.ext y, a2.ext y, a3.ext y, by omega, a4, fun d hd => ?_, fun d hd => ?_⟩, Nat.zero_le _, by omega, fun h0 => by omega⟩, by omega⟩
  · have := a5 d hd; omega
  · have := a6 d hd; omega
theorem own_rng {h h' : Heap} {base z n : Nat} {v : Value} {xs : List Value} (x : Own h base z v n xs) {lo : Nat} (hb : lo ≤ base) (hs : h.size ≤ h'.size) : ∀ d, blockOf v = some d → (lo ≤ d ∧ d < h'.size) ∧ d ≠ h.size := fun d hd => by have := Own.lt x d hd; omega
theorem source_New (h : Heap) (v : Value) (D : List UInt8) (hb : Bytes h v D) (vc : Value) (C : List Int) (hc : Rows intS h vc C) (f : Int) (hl : D.length ≤ 140737488355328) (hC : C.length ≤ 1048576) : Cal Tryz.prog 9 #[v, .agg #[vc, .int .i64 (f)]] h (fun v h' => ∃ s, v = .pointer (some ⟨s, 0, none⟩) ∧ NwA h.size h' s D f ∧ Ext h h') := by
 refine Ce Tryz.func9 fun σ => ?_
 refine Wr ?_
 refine L_mks (M_box rfl) rfl rfl rfl ?_
 rintro _ h1 ⟨rfl, hn1⟩
 have hk2 : Blk h1 h.size [vc, .int .i64 (f)] := hn1.blk
 refine Av ?_
 refine Ln (Xt (Wq ?_))
 refine W_held (fun h' => Ext h1 h') 10 rfl (by kernel_rfl) ?_
 refine Ht 0 (fun h_ hI_ => Y_move rfl) (Ext.refl _) ?_
 refine Ht 2 (fun h_ hI_ => Y_fieldAddr (off := 0) (by kernel_rfl) rfl rfl) (Ext.refl _) ?_
 refine Ht 3 (fun h_ hI_ => Y_ldblk Tryz.underlying23 rfl rfl (hk2.ext hI_) rfl) (Ext.refl _) ?_
 refine Ht 5 (fun h_ hI_ => Y_fieldAddr (off := 1) (by kernel_rfl) rfl rfl) (Ext.refl _) ?_
 refine Ht 6 (fun h_ hI_ => Y_ldblk Tryz.underlying2 rfl rfl (hk2.ext hI_) rfl) (Ext.refl _) ?_
 refine LH_one (i := 1) (by kernel_rfl) ?_
 refine LO_call (i := 1) rfl (E_call (by kernel_rfl) rfl) (slices_CloneB _ v D (hb.ext hn1.ext) (by first | omega | rfl | (simp <;> omega))) rfl rfl rfl ?_
 rintro s03 h2 ⟨_, rfl, hr04, hx5⟩
 refine ⟨hx5, ?_⟩
 refine LH_one (i := 4) (by kernel_rfl) ?_
 refine LO_call (i := 4) rfl (E_call (by kernel_rfl) rfl) (slices_CloneI _ vc C (hc.ext (hn1.ext.trans hx5)) (by first | omega | rfl | (simp <;> omega))) rfl rfl rfl ?_
 rintro s06 h3 ⟨_, rfl, hr07, hx8⟩
 refine ⟨(hx5.trans hx8), ?_⟩
 refine LH_one (i := 7) (by kernel_rfl) ?_
 refine LO_yld (i := 7) rfl (Y_build (v := .agg #[s03, s06, .int .i64 (f), .int .i64 0, .int .i64 0]) (pv := [(0, s03), (1, s06), (2, .int .i64 (f))]) (evp (is := [0, 1, 2]) (os := [.tmp 6, .tmp 9, .tmp 11]) (vs := [s03, s06, .int .i64 (f)]) rfl rfl) (fun _ => by obtain ⟨_, _, _, hf0_⟩ := slice_formN (hr04.bytes.ext hx8); rw [hf0_]; obtain ⟨_, _, _, hf1_⟩ := row_formN hr07.rows; rw [hf1_]; kernel_rfl)) rfl rfl rfl (hx5.trans hx8) ?_
 refine LH_one (i := 8) (by kernel_rfl) ?_
 refine LO_mks (i := 8) rfl (M_box rfl) rfl rfl rfl ?_
 rintro _ h4 ⟨rfl, hn9⟩
 refine ⟨((hx5.trans hx8).trans hn9.ext), ?_⟩
 have hk10 : Blk h4 h3.size [s03, s06, .int .i64 (f), .int .i64 0, .int .i64 0] := hn9.blk
 refine Ht 9 (fun h_ hI_ => Y_assign rfl) ((hx5.trans hx8).trans hn9.ext) ?_
 refine LH_done (by kernel_rfl) ?_
 refine Xt ?_
 refine Wu _ (tk1 4) ?_
 refine Wt ?_
 refine Xv1 ?_
 exact ⟨_, rfl, ⟨⟨_, _, C, hk10, (hr04.bytes.ext (hx8.trans hn9.ext)), ((hr07.ext hn9.ext)).rows, by omega, own_rng (hr04.ext hx8) hn1.ext.size (hn9.ext).size, own_rng (hr07).1 (nt hn1.ext.size hx5.size) (hn9.ext).size⟩, (nt (nt hn1.ext.size hx5.size) hx8.size)⟩, (((hn1.ext.trans hx5).trans hx8).trans hn9.ext)⟩
theorem ref04_New (h : Heap) (v : Value) (D : List UInt8) (hb : Bytes h v D) (vc : Value) (C : List Int) (hc : Rows intS h vc C) (f : Int) (hl : D.length ≤ 140737488355328) (hC : C.length ≤ 1048576) : Cal Tryz.prog 10 #[v, .agg #[vc, .int .i64 (f)]] h (fun v h' => ∃ s, v = .pointer (some ⟨s, 0, none⟩) ∧ NwA h.size h' s D f ∧ Ext h h') := by
 refine Ce Tryz.func10 fun σ => ?_
 refine Wr ?_
 refine L_mks (M_box rfl) rfl rfl rfl ?_
 rintro _ h1 ⟨rfl, hn1⟩
 have hk2 : Blk h1 h.size [vc, .int .i64 (f)] := hn1.blk
 refine Av ?_
 refine Ln (Xt (Wq ?_))
 refine W_held (fun h' => Ext h1 h') 13 rfl (by kernel_rfl) ?_
 refine Ht 1 (fun h_ hI_ => Y_move rfl) (Ext.refl _) ?_
 refine Ht 4 (fun h_ hI_ => Y_fieldAddr (off := 0) (by kernel_rfl) rfl rfl) (Ext.refl _) ?_
 refine Ht 5 (fun h_ hI_ => Y_ldblk Tryz.underlying23 rfl rfl (hk2.ext hI_) rfl) (Ext.refl _) ?_
 refine Ht 7 (fun h_ hI_ => Y_fieldAddr (off := 1) (by kernel_rfl) rfl rfl) (Ext.refl _) ?_
 refine Ht 8 (fun h_ hI_ => Y_ldblk Tryz.underlying2 rfl rfl (hk2.ext hI_) rfl) (Ext.refl _) ?_
 refine LH_two (i := 0) (j := 3) (by kernel_rfl) ?_ ?_
 ·refine LO_mks (i := 0) rfl (M_litbE (cells := []) (E := 5) rfl rfl (fun _ => by kernel_rfl)) rfl rfl rfl ?_
  rintro v3 h2 ⟨ho4, hx5⟩
  refine ⟨hx5, ?_⟩
  refine LH_two (i := 2) (j := 3) (by kernel_rfl) ?_ ?_
  ·refine LO_mks (i := 2) rfl (M_appeB Tryz.underlying22 (by unfold elemRow; kernel_rfl) rfl rfl ho4 (hb.ext (hn1.ext.trans hx5)) hx5.size (by first | omega | (simp; omega))) rfl rfl rfl ?_
   rintro v6 h3 ⟨ho7, hx8, ho7f⟩
   refine ⟨(hx5.trans hx8), ?_⟩
   refine LH_one (i := 3) (by kernel_rfl) ?_
   refine LO_mks (i := 3) rfl (M_litr0 (S := intS) (cells := []) (E := 3) rfl rfl (fun _ => by kernel_rfl)) rfl rfl rfl ?_
   rintro v9 h4 ⟨ho10, hx11⟩
   refine ⟨((hx5.trans hx8).trans hx11), ?_⟩
   refine LH_one (i := 6) (by kernel_rfl) ?_
   refine LO_mks (i := 6) rfl (M_appe (z := 1) (bytes := 8) (z0 := (.int .i64 0)) Tryz.underlying23 (by unfold elemRow; kernel_rfl) rfl rfl (by decide) rfl rfl ho10 (hc.ext (((hn1.ext.trans hx5).trans hx8).trans hx11)) hx11.size (by first | omega | (simp; omega))) rfl rfl rfl ?_
   rintro v12 h5 ⟨ho13, hx14⟩
   refine ⟨(((hx5.trans hx8).trans hx11).trans hx14), ?_⟩
   refine LH_one (i := 9) (by kernel_rfl) ?_
   refine LO_yld (i := 9) rfl (Y_build (v := .agg #[v12, .int .i64 (f)]) (pv := [(0, v12), (1, .int .i64 (f))]) (evp (is := [0, 1]) (os := [.tmp 11, .tmp 13]) (vs := [v12, .int .i64 (f)]) rfl rfl) (fun _ => by obtain ⟨_, _, _, hf0_⟩ := row_formN ho13.rows; rw [hf0_]; kernel_rfl)) rfl rfl rfl (((hx5.trans hx8).trans hx11).trans hx14) ?_
   refine LH_one (i := 10) (by kernel_rfl) ?_
   refine LO_yld (i := 10) rfl (Y_build (v := .agg #[v6, v12, .int .i64 (f), .int .i64 0, .int .i64 0]) (pv := [(0, v6), (1, .agg #[v12, .int .i64 (f)])]) (evp (is := [0, 1]) (os := [.tmp 7, .tmp 14]) (vs := [v6, .agg #[v12, .int .i64 (f)]]) rfl rfl) (fun _ => by obtain ⟨_, _, _, hf0_⟩ := slice_formN (ho7.bytes.ext (hx11.trans hx14)); rw [hf0_]; kernel_rfl)) rfl rfl rfl (((hx5.trans hx8).trans hx11).trans hx14) ?_
   refine LH_one (i := 11) (by kernel_rfl) ?_
   refine LO_mks (i := 11) rfl (M_box rfl) rfl rfl rfl ?_
   rintro _ h6 ⟨rfl, hn15⟩
   refine ⟨((((hx5.trans hx8).trans hx11).trans hx14).trans hn15.ext), ?_⟩
   have hk16 : Blk h6 h5.size [v6, v12, .int .i64 (f), .int .i64 0, .int .i64 0] := hn15.blk
   refine Ht 12 (fun h_ hI_ => Y_assign rfl) ((((hx5.trans hx8).trans hx11).trans hx14).trans hn15.ext) ?_
   refine LH_done (by kernel_rfl) ?_
   refine Xt ?_
   refine Wu _ (tk1 4) ?_
   refine Wt ?_
   refine Xv1 ?_
   have me1 := nt (nt (nt (nt hn1.ext.size hx5.size) hx8.size) hx11.size) hx14.size
   have me2 := ((((hn1.ext.trans hx5).trans hx8).trans hx11).trans hx14).trans hn15.ext
   exact ⟨_, rfl, ⟨⟨_, _, C, hk16, (ho7.bytes.ext ((hx11.trans hx14).trans hn15.ext)), ((ho13.ext hn15.ext)).rows, by omega, own_rng (ho7.ext (hx11.trans hx14)) hn1.ext.size (hn15.ext).size, own_rng (ho13).1 (nt (nt hn1.ext.size hx5.size) hx8.size) (hn15.ext).size⟩, me1⟩, me2⟩
  refine LO_mks (i := 3) rfl (M_litr0 (S := intS) (cells := []) (E := 3) rfl rfl (fun _ => by kernel_rfl)) rfl rfl rfl ?_
  rintro v17 h7 ⟨ho18, hx19⟩
  refine ⟨(hx5.trans hx19), ?_⟩
  refine LH_one (i := 2) (by kernel_rfl) ?_
  refine LO_mks (i := 2) rfl (M_appeB Tryz.underlying22 (by unfold elemRow; kernel_rfl) rfl rfl (ho4.ext hx19) (hb.ext ((hn1.ext.trans hx5).trans hx19)) (nt hx5.size hx19.size) (by first | omega | (simp; omega))) rfl rfl rfl ?_
  rintro v20 h8 ⟨ho21, hx22, ho21f⟩
  refine ⟨((hx5.trans hx19).trans hx22), ?_⟩
  refine LH_one (i := 6) (by kernel_rfl) ?_
  refine LO_mks (i := 6) rfl (M_appe (z := 1) (bytes := 8) (z0 := (.int .i64 0)) Tryz.underlying23 (by unfold elemRow; kernel_rfl) rfl rfl (by decide) rfl rfl (ho18.ext hx22) (hc.ext (((hn1.ext.trans hx5).trans hx19).trans hx22)) (nt hx19.size hx22.size) (by first | omega | (simp; omega))) rfl rfl rfl ?_
  rintro v23 h9 ⟨ho24, hx25⟩
  refine ⟨(((hx5.trans hx19).trans hx22).trans hx25), ?_⟩
  refine LH_one (i := 9) (by kernel_rfl) ?_
  refine LO_yld (i := 9) rfl (Y_build (v := .agg #[v23, .int .i64 (f)]) (pv := [(0, v23), (1, .int .i64 (f))]) (evp (is := [0, 1]) (os := [.tmp 11, .tmp 13]) (vs := [v23, .int .i64 (f)]) rfl rfl) (fun _ => by obtain ⟨_, _, _, hf0_⟩ := row_formN ho24.rows; rw [hf0_]; kernel_rfl)) rfl rfl rfl (((hx5.trans hx19).trans hx22).trans hx25) ?_
  refine LH_one (i := 10) (by kernel_rfl) ?_
  refine LO_yld (i := 10) rfl (Y_build (v := .agg #[v20, v23, .int .i64 (f), .int .i64 0, .int .i64 0]) (pv := [(0, v20), (1, .agg #[v23, .int .i64 (f)])]) (evp (is := [0, 1]) (os := [.tmp 7, .tmp 14]) (vs := [v20, .agg #[v23, .int .i64 (f)]]) rfl rfl) (fun _ => by obtain ⟨_, _, _, hf0_⟩ := slice_formN (ho21.bytes.ext hx25); rw [hf0_]; kernel_rfl)) rfl rfl rfl (((hx5.trans hx19).trans hx22).trans hx25) ?_
  refine LH_one (i := 11) (by kernel_rfl) ?_
  refine LO_mks (i := 11) rfl (M_box rfl) rfl rfl rfl ?_
  rintro _ h10 ⟨rfl, hn26⟩
  refine ⟨((((hx5.trans hx19).trans hx22).trans hx25).trans hn26.ext), ?_⟩
  have hk27 : Blk h10 h9.size [v20, v23, .int .i64 (f), .int .i64 0, .int .i64 0] := hn26.blk
  refine Ht 12 (fun h_ hI_ => Y_assign rfl) ((((hx5.trans hx19).trans hx22).trans hx25).trans hn26.ext) ?_
  refine LH_done (by kernel_rfl) ?_
  refine Xt ?_
  refine Wu _ (tk1 4) ?_
  refine Wt ?_
  refine Xv1 ?_
  have me3 := nt (nt (nt (nt hn1.ext.size hx5.size) hx19.size) hx22.size) hx25.size
  have me4 := ((((hn1.ext.trans hx5).trans hx19).trans hx22).trans hx25).trans hn26.ext
  exact ⟨_, rfl, ⟨⟨_, _, C, hk27, (ho21.bytes.ext (hx25.trans hn26.ext)), ((ho24.ext hn26.ext)).rows, by omega, own_rng (ho21.ext hx25) hn1.ext.size (hn26.ext).size, own_rng (ho24).1 (nt hn1.ext.size hx5.size) (hn26.ext).size⟩, me3⟩, me4⟩
 refine LO_mks (i := 3) rfl (M_litr0 (S := intS) (cells := []) (E := 3) rfl rfl (fun _ => by kernel_rfl)) rfl rfl rfl ?_
 rintro v28 h11 ⟨ho29, hx30⟩
 refine ⟨hx30, ?_⟩
 refine LH_one (i := 0) (by kernel_rfl) ?_
 refine LO_mks (i := 0) rfl (M_litbE (cells := []) (E := 5) rfl rfl (fun _ => by kernel_rfl)) rfl rfl rfl ?_
 rintro v31 h12 ⟨ho32, hx33⟩
 refine ⟨(hx30.trans hx33), ?_⟩
 refine LH_one (i := 2) (by kernel_rfl) ?_
 refine LO_mks (i := 2) rfl (M_appeB Tryz.underlying22 (by unfold elemRow; kernel_rfl) rfl rfl ho32 (hb.ext ((hn1.ext.trans hx30).trans hx33)) hx33.size (by first | omega | (simp; omega))) rfl rfl rfl ?_
 rintro v34 h13 ⟨ho35, hx36, ho35f⟩
 refine ⟨((hx30.trans hx33).trans hx36), ?_⟩
 refine LH_one (i := 6) (by kernel_rfl) ?_
 refine LO_mks (i := 6) rfl (M_appe (z := 1) (bytes := 8) (z0 := (.int .i64 0)) Tryz.underlying23 (by unfold elemRow; kernel_rfl) rfl rfl (by decide) rfl rfl (ho29.ext (hx33.trans hx36)) (hc.ext (((hn1.ext.trans hx30).trans hx33).trans hx36)) (nt (nt hx30.size hx33.size) hx36.size) (by first | omega | (simp; omega))) rfl rfl rfl ?_
 rintro v37 h14 ⟨ho38, hx39⟩
 refine ⟨(((hx30.trans hx33).trans hx36).trans hx39), ?_⟩
 refine LH_one (i := 9) (by kernel_rfl) ?_
 refine LO_yld (i := 9) rfl (Y_build (v := .agg #[v37, .int .i64 (f)]) (pv := [(0, v37), (1, .int .i64 (f))]) (evp (is := [0, 1]) (os := [.tmp 11, .tmp 13]) (vs := [v37, .int .i64 (f)]) rfl rfl) (fun _ => by obtain ⟨_, _, _, hf0_⟩ := row_formN ho38.rows; rw [hf0_]; kernel_rfl)) rfl rfl rfl (((hx30.trans hx33).trans hx36).trans hx39) ?_
 refine LH_one (i := 10) (by kernel_rfl) ?_
 refine LO_yld (i := 10) rfl (Y_build (v := .agg #[v34, v37, .int .i64 (f), .int .i64 0, .int .i64 0]) (pv := [(0, v34), (1, .agg #[v37, .int .i64 (f)])]) (evp (is := [0, 1]) (os := [.tmp 7, .tmp 14]) (vs := [v34, .agg #[v37, .int .i64 (f)]]) rfl rfl) (fun _ => by obtain ⟨_, _, _, hf0_⟩ := slice_formN (ho35.bytes.ext hx39); rw [hf0_]; kernel_rfl)) rfl rfl rfl (((hx30.trans hx33).trans hx36).trans hx39) ?_
 refine LH_one (i := 11) (by kernel_rfl) ?_
 refine LO_mks (i := 11) rfl (M_box rfl) rfl rfl rfl ?_
 rintro _ h15 ⟨rfl, hn40⟩
 refine ⟨((((hx30.trans hx33).trans hx36).trans hx39).trans hn40.ext), ?_⟩
 have hk41 : Blk h15 h14.size [v34, v37, .int .i64 (f), .int .i64 0, .int .i64 0] := hn40.blk
 have me5 := (((hx30.trans hx33).trans hx36).trans hx39).trans hn40.ext
 refine Ht 12 (fun h_ hI_ => Y_assign rfl) me5 ?_
 refine LH_done (by kernel_rfl) ?_
 refine Xt ?_
 refine Wu _ (tk1 4) ?_
 refine Wt ?_
 refine Xv1 ?_
 have me6 := nt (nt (nt (nt hn1.ext.size hx30.size) hx33.size) hx36.size) hx39.size
 have me7 := ((((hn1.ext.trans hx30).trans hx33).trans hx36).trans hx39).trans hn40.ext
 exact ⟨_, rfl, ⟨⟨_, _, C, hk41, (ho35.bytes.ext (hx39.trans hn40.ext)), ((ho38.ext hn40.ext)).rows, by omega, own_rng (ho35.ext hx39) (nt hn1.ext.size hx30.size) (hn40.ext).size, own_rng (ho38).1 hn1.ext.size (hn40.ext).size⟩, me6⟩, me7⟩
theorem block_NewReader (h : Heap) (lo s : Nat) (D : List UInt8) (f : Int) (uN : NwA lo h s D f) : Cal Tryz.prog 8 #[.pointer (some ⟨s, 0, none⟩)] h (fun v h' => ∃ r, v = .pointer (some ⟨r, 0, none⟩) ∧ RdA lo h'.size h' r s D f 0 0 ∧ Ext h h') := by
 refine Ce Tryz.func8 fun σ => ?_
 refine Wa ?_
 refine Ln (Xt (Wq (Wq (Wg ?_))))
 refine Mv ?_
 refine Ly (Y_pnil (ad := some ⟨s, 0, none⟩) (show _ = some (TypeDesc.pointer (Tryz.prog.pointee 29)) by kernel_rfl) rfl rfl) ?_
 refine Nx ?_
 refine W_false rfl ?_
 refine Wk (Xt (Wq (Wg ?_)))
 refine Mv ?_
 refine Ly (Yb (.agg #[.int .i64 0, .int .i64 0, .pointer (some ⟨s, 0, none⟩)]) [1] [.tmp 5] [.pointer (some ⟨s, 0, none⟩)]) ?_
 refine L_mks (M_box rfl) rfl rfl rfl ?_
 rintro _ h1 ⟨rfl, hn1⟩
 have hk2 : Blk h1 h.size [.int .i64 0, .int .i64 0, .pointer (some ⟨s, 0, none⟩)] := hn1.blk
 refine An ?_
 refine Wu _ (tk1 2) ?_
 refine Wt ?_
 refine Xv1 ?_
 exact ⟨_, rfl, mk_RdA uN hn1.ext hk2 (Nat.le_refl _), hn1.ext⟩
end Go.Xp
