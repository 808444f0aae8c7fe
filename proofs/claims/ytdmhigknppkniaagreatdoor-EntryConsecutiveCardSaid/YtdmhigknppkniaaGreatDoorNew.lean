/- The reference of layers 4 and 6: a source. -/
import Derived.Test.YtdmhigknppkniaaGreatDoorSrc
import Derived.Test.YtdmhigknppkniaaGreatDoorPay
import Derived.Test.YtdmhigknppkniaaGreatDoorNum
import Derived.Test.YtdmhigknppkniaaGreatDoorRecF
import Derived.Test.YtdmhigknppkniaaGreatDoorBye
set_option linter.unusedSimpArgs false
set_option linter.unusedVariables false
set_option linter.unusedSectionVars false
set_option maxRecDepth 100000
namespace Go.Xp
open Go.Proofs

/-- What stands of the reference's source in memory. -/
structure SrcB (lo hi : Nat) (h : Heap) (s r : Nat) (D : List UInt8) (f : Int) (p : Nat) : Prop where
  st : ∃ vb vc C rd, Blk h s [vb, vc, .int .i64 f, .int .i64 p, .int .i64 rd] ∧ Bytes h vb D ∧ Rows intS h vc C ∧ (0 ≤ rd ∧ rd ≤ p) ∧ C.length ≤ 1000000000 ∧
    (∀ d, blockOf vb = some d → (lo ≤ d ∧ d < hi) ∧ d ≠ s ∧ d ≠ r) ∧ (∀ d, blockOf vc = some d → (lo ≤ d ∧ d < hi) ∧ d ≠ s ∧ d ≠ r)
  le : p ≤ D.length
  rg : (lo ≤ s ∧ s < hi) ∧ s ≠ r ∧ hi ≤ h.size
  ff : 0 ≤ f → (p : Int) ≤ f
section
variable {lo hi : Nat} {h h' : Heap} {s r : Nat} {D : List UInt8} {f : Int} {p : Nat} {bs : List Nat}
theorem SrcB.out (S : SrcB lo hi h s r D f p) (y : Only bs h h') (hb : ∀ b ∈ bs, (b < lo ∨ hi ≤ b) ∨ b = r) : SrcB lo hi h' s r D f p := by
  obtain ⟨⟨vr, vc, C, rd, a1, a2, a3, a4, a5, a6, a7⟩, le, rg, ff⟩ := S
  refine ⟨⟨vr, vc, C, rd, a1.only y (fun q => ?_), Bytes.only a2 y (fun d hd q => ?_), a3.onlyI y (fun d hd q => ?_), a4, a5, a6, a7⟩, le, ⟨rg.1, rg.2.1, nt rg.2.2 y.size⟩, ff⟩
  · rcases hb _ q with c | c
    · omega
    · exact rg.2.1 c
  · have := a6 d hd
    rcases hb _ q with c | c
    · omega
    · exact this.2.2 c
  · have := a7 d hd
    rcases hb _ q with c | c
    · omega
    · exact this.2.2 c
theorem SrcB.ext (S : SrcB lo hi h s r D f p) (y : Ext h h') : SrcB lo hi h' s r D f p := S.out y (fun b q => absurd q List.not_mem_nil)
theorem SrcB.lt (S : SrcB lo hi h s r D f p) : s < h.size := ntl S.rg.1.2 S.rg.2.2
end
section
variable {lo hi : Nat} {h : Heap} {s r : Nat} {D : List UInt8} {f : Int} {p : Nat}
end
end Go.Xp

/- The reference of layer 6: a reader of blocks. -/
namespace Go.Xp
open Go.Proofs

end Go.Xp

/- The reference of layers 6 and 11: the reader behind one pointer; reading contents. -/
namespace Go.Xp
open Go.Proofs

structure RdB (lo hi : Nat) (h : Heap) (r s : Nat) (D : List UInt8) (f : Int) (p : Nat) (er : Int) : Prop where
  blk : Blk h r [.pointer (some ⟨s, 0, none⟩), .int .i64 (p : Int), .int .i64 er]
  src : SrcB lo hi h s r D f p
  rg : lo ≤ r ∧ r < hi
section
variable {lo hi : Nat} {h h' : Heap} {r s : Nat} {D : List UInt8} {f : Int} {p : Nat} {er : Int} {bs : List Nat}
theorem RdB.out (R : RdB lo hi h r s D f p er) (y : Only bs h h') (hb : ∀ b ∈ bs, b < lo ∨ hi ≤ b) : RdB lo hi h' r s D f p er :=
  ⟨R.blk.only y (fun q => by have := hb _ q; have := R.rg; omega), R.src.out y (fun b q => .inl (hb b q)), R.rg⟩
theorem RdB.ext (R : RdB lo hi h r s D f p er) (y : Ext h h') : RdB lo hi h' r s D f p er := R.out y (fun b q => absurd q List.not_mem_nil)
theorem RdB.hle (R : RdB lo hi h r s D f p er) : hi ≤ h.size := R.src.rg.2.2
theorem RdB.lt2 (R : RdB lo hi h r s D f p er) : ∀ c ∈ [r, s], c < h.size := fun c hc => by
  have h1 := R.rg; have h2 := R.src.rg
  simp only [List.mem_cons, List.not_mem_nil, or_false] at hc
  rcases hc with rfl | rfl <;> omega
theorem RdB.ge2 (R : RdB lo hi h r s D f p er) : ∀ c ∈ [r, s], lo ≤ c := fun c hc => by
  have h1 := R.rg; have h2 := R.src.rg
  simp only [List.mem_cons, List.not_mem_nil, or_false] at hc
  rcases hc with rfl | rfl <;> omega
theorem RdB.no (R : RdB lo hi h r s D f p er) {d : Nat} (hd : hi ≤ d) : d ∉ [r, s] := fun hc => by
  have h1 := R.rg; have h2 := R.src.rg
  simp only [List.mem_cons, List.not_mem_nil, or_false] at hc
  omega
end
section
variable {lo hi : Nat} {h : Heap} {r s : Nat} {D : List UInt8} {f : Int} {p : Nat} {er z : Int}
end
end Go.Xp

/- Layers 4 and 6: new sources and readers, of the code and of the reference. -/
namespace Go.Xp
open Go.Proofs

theorem slice_formN {h : Heap} {v : Value} {l : List UInt8} (b : Bytes h v l) : ∃ x n c, v = .slice x n c := by
  obtain ⟨⟨a0, cap, rfl, _⟩, _⟩ := b; exact ⟨_, _, _, rfl⟩
theorem row_formN {β : Type} {S : Sch β} {h : Heap} {v : Value} {l : List β} (b : Rows S h v l) : ∃ x n c, v = .slice x n c := by
  obtain ⟨⟨⟨a0, cap, rfl, _⟩, _⟩, _⟩ := b; exact ⟨_, _, _, rfl⟩
theorem slices_CloneI (h : Heap) (v : Value) (l : List Int) (hl : Rows intS h v l) (hn : l.length ≤ 1048576) : Cal Tryz.prog 19 #[v] h (fun v h' => ∃ s0, v = s0 ∧ RowsO intS h' h.size s0 (l) ∧ Ext h h') := by
 refine Ce Tryz.func19 fun σ => ?_
 refine Wa ?_
 refine Ln (Xt (Wq (Wq (Wg ?_))))
 refine Mv ?_
 refine Ly (Y_slnilr Tryz.underlying23 rfl hl) ?_
 refine Nx ?_
 refine W_split rfl (fun c => ?_) (fun c => ?_)
 ·refine Wa ?_
  refine Ln (Xt (Wt (Xr ?_)))
  refine Xv1 ?_
  exact ⟨_, rfl, by rw [isNil_nilr hl c]; exact RowsO.nil _ _ _, (Ext.refl _)⟩
 refine Wk (Xt (Wq (Wg ?_)))
 refine L_mks (M_litr0 (S := intS) (cells := []) (E := 3) rfl rfl (fun _ => by kernel_rfl)) rfl rfl rfl ?_
 rintro v1 h1 ⟨ho2, hx3⟩
 refine Mv ?_
 refine L_mks (M_appe (z := 1) (bytes := 8) (z0 := (.int .i64 0)) Tryz.underlying23 (by unfold elemRow; kernel_rfl) rfl rfl (by decide) rfl rfl ho2 (hl.ext hx3) hx3.size (by first | omega | (simp; omega))) rfl rfl rfl ?_
 rintro v4 h2 ⟨ho5, hx6⟩
 refine An ?_
 refine Wu _ (tk1 2) ?_
 refine Wt ?_
 refine Xv1 ?_
 exact ⟨_, rfl, RowsO.congr ((ho5).low (Nat.le_refl _)) (by simp), (hx3.trans hx6)⟩
/-- A new source at s: all of it in blocks from lo on. -/
structure NwA (lo : Nat) (h : Heap) (s : Nat) (D : List UInt8) (f : Int) : Prop where
  st : ∃ vr vc C, Blk h s [vr, vc, .int .i64 f, .int .i64 0, .int .i64 0] ∧ Bytes h vr D ∧ Rows intS h vc C ∧ C.length ≤ 1000000000 ∧ (∀ d, blockOf vr = some d → (lo ≤ d ∧ d < h.size) ∧ d ≠ s) ∧ (∀ d, blockOf vc = some d → (lo ≤ d ∧ d < h.size) ∧ d ≠ s)
  ge : lo ≤ s
theorem NwA.ext {lo : Nat} {h h' : Heap} {s : Nat} {D : List UInt8} {f : Int} (x : NwA lo h s D f) (y : Ext h h') : NwA lo h' s D f := by
  obtain ⟨⟨vr, vc, C, a1, a2, a3, a4, a5, a6⟩, g⟩ := x
  have hs := y.size
  exact ⟨⟨vr, vc, C, a1.ext y, a2.ext y, a3.ext y, a4, fun d hd => by have := a5 d hd; omega, fun d hd => by have := a6 d hd; omega⟩, g⟩
theorem mk_RdA {lo : Nat} {h h' : Heap} {s r : Nat} {D : List UInt8} {f : Int} (x : NwA lo h s D f) (y : Ext h h') (b : Blk h' r [.int .i64 0, .int .i64 0, .pointer (some ⟨s, 0, none⟩)]) (hr : h.size ≤ r) : RdA lo h'.size h' r s D f 0 0 := by
  obtain ⟨⟨vr, vc, C, a1, a2, a3, a4, a5, a6⟩, g⟩ := x
  have hs := y.size
  have h1 := a1.lt
  have h2 := b.lt
  refine ⟨b, ⟨⟨vr, vc, C, 0, a1.ext y, a2.ext y, a3.ext y, by omega, a4, fun d hd => ?_, fun d hd => ?_⟩, Nat.zero_le _, by omega⟩, by omega⟩
  · have := a5 d hd; omega
  · have := a6 d hd; omega
theorem own_rng {h h' : Heap} {base z n : Nat} {v : Value} {xs : List Value} (x : Own h base z v n xs) {lo : Nat} (hb : lo ≤ base) (hs : h.size ≤ h'.size) : ∀ d, blockOf v = some d → (lo ≤ d ∧ d < h'.size) ∧ d ≠ h.size := fun d hd => by have := Own.lt x d hd; omega
theorem source_New (h : Heap) (v : Value) (D : List UInt8) (hb : Bytes h v D) (vc : Value) (C : List Int) (hc : Rows intS h vc C) (f : Int) (hl : D.length ≤ 140737488355328) (hC : C.length ≤ 1048576) : Cal Tryz.prog 9 #[v, .agg #[vc, .int .i64 (f)]] h (fun v h' => ∃ s, v = .pointer (some ⟨s, 0, none⟩) ∧ NwA h.size h' s D f ∧ Ext h h') := by
 refine Ce Tryz.func9 fun σ => ?_
 refine Wr ?_
 refine L_mks (M_box rfl) rfl rfl rfl ?_
 rintro _ h1 ⟨rfl, hn1⟩
 have hk2 : Blk h1 h.size [vc, .int .i64 (f)] := hn1.blk
 refine Av ?_
 refine Ln (Xt (Wq ?_))
 refine W_held (fun h' => Ext h1 h') 10 rfl (by kernel_rfl) ?_
 refine Ht 0 (fun h_ hI_ => Y_move rfl) (Ext.refl _) ?_
 refine Ht 2 (fun h_ hI_ => Y_fieldAddr (off := 0) (by kernel_rfl) rfl rfl) (Ext.refl _) ?_
 refine Ht 3 (fun h_ hI_ => Y_ldblk Tryz.underlying23 rfl rfl (hk2.ext hI_) rfl) (Ext.refl _) ?_
 refine Ht 5 (fun h_ hI_ => Y_fieldAddr (off := 1) (by kernel_rfl) rfl rfl) (Ext.refl _) ?_
 refine Ht 6 (fun h_ hI_ => Y_ldblk Tryz.underlying2 rfl rfl (hk2.ext hI_) rfl) (Ext.refl _) ?_
 refine LH_one (i := 1) (by kernel_rfl) ?_
 refine LO_call (i := 1) rfl (E_call (by kernel_rfl) rfl) (slices_CloneB _ v D (hb.ext hn1.ext) (by first | omega | rfl | (simp <;> omega))) rfl rfl rfl ?_
 rintro s03 h2 ⟨_, rfl, hr04, hx5⟩
 refine ⟨hx5, ?_⟩
 refine LH_one (i := 4) (by kernel_rfl) ?_
 refine LO_call (i := 4) rfl (E_call (by kernel_rfl) rfl) (slices_CloneI _ vc C (hc.ext (hn1.ext.trans hx5)) (by first | omega | rfl | (simp <;> omega))) rfl rfl rfl ?_
 rintro s06 h3 ⟨_, rfl, hr07, hx8⟩
 refine ⟨(hx5.trans hx8), ?_⟩
 refine LH_one (i := 7) (by kernel_rfl) ?_
 refine LO_yld (i := 7) rfl (Y_build (v := .agg #[s03, s06, .int .i64 (f), .int .i64 0, .int .i64 0]) (pv := [(0, s03), (1, s06), (2, .int .i64 (f))]) (evp (is := [0, 1, 2]) (os := [.tmp 6, .tmp 9, .tmp 11]) (vs := [s03, s06, .int .i64 (f)]) rfl rfl) (fun _ => by obtain ⟨_, _, _, hf0_⟩ := slice_formN (hr04.bytes.ext hx8); rw [hf0_]; obtain ⟨_, _, _, hf1_⟩ := row_formN hr07.rows; rw [hf1_]; kernel_rfl)) rfl rfl rfl (hx5.trans hx8) ?_
 refine LH_one (i := 8) (by kernel_rfl) ?_
 refine LO_mks (i := 8) rfl (M_box rfl) rfl rfl rfl ?_
 rintro _ h4 ⟨rfl, hn9⟩
 refine ⟨((hx5.trans hx8).trans hn9.ext), ?_⟩
 have hk10 : Blk h4 h3.size [s03, s06, .int .i64 (f), .int .i64 0, .int .i64 0] := hn9.blk
 refine Ht 9 (fun h_ hI_ => Y_assign rfl) ((hx5.trans hx8).trans hn9.ext) ?_
 refine LH_done (by kernel_rfl) ?_
 refine Xt ?_
 refine Wu _ (tk1 4) ?_
 refine Wt ?_
 refine Xv1 ?_
 exact ⟨_, rfl, ⟨⟨_, _, C, hk10, (hr04.bytes.ext (hx8.trans hn9.ext)), ((hr07.ext hn9.ext)).rows, by omega, own_rng (hr04.ext hx8) hn1.ext.size (hn9.ext).size, own_rng (hr07).1 (nt hn1.ext.size hx5.size) (hn9.ext).size⟩, (nt (nt hn1.ext.size hx5.size) hx8.size)⟩, (((hn1.ext.trans hx5).trans hx8).trans hn9.ext)⟩
theorem block_NewReader (h : Heap) (lo s : Nat) (D : List UInt8) (f : Int) (uN : NwA lo h s D f) : Cal Tryz.prog 8 #[.pointer (some ⟨s, 0, none⟩)] h (fun v h' => ∃ r, v = .pointer (some ⟨r, 0, none⟩) ∧ RdA lo h'.size h' r s D f 0 0 ∧ Ext h h') := by
 refine Ce Tryz.func8 fun σ => ?_
 refine Wa ?_
 refine Ln (Xt (Wq (Wq (Wg ?_))))
 refine Mv ?_
 refine Ly (Y_pnil (ad := some ⟨s, 0, none⟩) (show _ = some (TypeDesc.pointer (Tryz.prog.pointee 29)) by kernel_rfl) rfl rfl) ?_
 refine Nx ?_
 refine W_false rfl ?_
 refine Wk (Xt (Wq (Wg ?_)))
 refine Mv ?_
 refine Ly (Yb (.agg #[.int .i64 0, .int .i64 0, .pointer (some ⟨s, 0, none⟩)]) [1] [.tmp 5] [.pointer (some ⟨s, 0, none⟩)]) ?_
 refine L_mks (M_box rfl) rfl rfl rfl ?_
 rintro _ h1 ⟨rfl, hn1⟩
 have hk2 : Blk h1 h.size [.int .i64 0, .int .i64 0, .pointer (some ⟨s, 0, none⟩)] := hn1.blk
 refine An ?_
 refine Wu _ (tk1 2) ?_
 refine Wt ?_
 refine Xv1 ?_
 exact ⟨_, rfl, mk_RdA uN hn1.ext hk2 (Nat.le_refl _), hn1.ext⟩
end Go.Xp
