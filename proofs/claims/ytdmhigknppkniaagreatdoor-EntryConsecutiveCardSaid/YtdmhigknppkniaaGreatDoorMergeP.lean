/- Layer 10 (fit): Merge, the program's side. -/
import Derived.Test.YtdmhigknppkniaaGreatDoorMerge
import Derived.Lib.ParseIntBTie
set_option linter.unusedSimpArgs false
set_option linter.unusedVariables false
set_option linter.unusedSectionVars false
set_option maxRecDepth 100000
namespace Go.Xp
open Go.Proofs

/-- One record's effect on an entry's path, target and size. -/
def mstep (r : Rec) (p tg : List UInt8) (z : Int) : Option (List UInt8 × List UInt8 × Int) :=
  if r.key = [108, 105, 110, 107, 112, 97, 116, 104] then some (p, r.val, z)
  else if r.key = [112, 97, 116, 104] then some (r.val, tg, z)
  else if r.key = [115, 105, 122, 101] then (if psz_ok r.val = true then some (p, tg, pint r.val) else none)
  else none
def mfold : List Rec → List UInt8 → List UInt8 → Int → Option (List UInt8 × List UInt8 × Int)
  | [], p, tg, z => some (p, tg, z)
  | r :: l, p, tg, z => match mstep r p tg z with
    | some (p', tg', z') => mfold l p' tg' z'
    | none => none
abbrev mok (k m ty : Int) (nm pr lk : List UInt8) (md sz : Int) (l : List Rec) (p tg : List UInt8) (z : Int) : Prop :=
  fcheck k p m tg z = 0 ∧ (fT (fcheck k p m tg z) k = ty ∧ fN (fcheck k p m tg z) p = nm ∧ fP (fcheck k p m tg z) p = pr ∧ fL (fcheck k p m tg z) tg = lk ∧ fM (fcheck k p m tg z) m = md ∧ fZ (fcheck k p m tg z) z = sz) ∧ l = fR (fcheck k p m tg z) p tg z

/-- What a folded list of records says of the header's entry. -/
def mcheck (k m ty : Int) (nm pr lk : List UInt8) (md sz : Int) (l : List Rec) (f : Option (List UInt8 × List UInt8 × Int)) : Option (List UInt8 × List UInt8 × Int) :=
  match f with
  | some (p, tg, z) => if mok k m ty nm pr lk md sz l p tg z then some (p, tg, z) else none
  | none => none
def mkind (ty : Int) : Int := Lib.indexByte ([53, 48, 50, 49] : List UInt8) ty.toNat.toUInt8
/-- The merged entry's path, target and size, if there is one. -/
def mres (ty : Int) (nm pr lk : List UInt8) (md sz : Int) (l : List Rec) : Option (List UInt8 × List UInt8 × Int) :=
  mcheck (mkind ty) md ty nm pr lk md sz l (mfold l (pjoin pr nm) lk sz)
def oI (r : Option (List UInt8 × List UInt8 × Int)) (k : Int) : Int := match r with | some _ => k | none => 0
def oP (r : Option (List UInt8 × List UInt8 × Int)) : List UInt8 := match r with | some x => x.1 | none => []
def oT (r : Option (List UInt8 × List UInt8 × Int)) : List UInt8 := match r with | some x => x.2.1 | none => []
def oZ (r : Option (List UInt8 × List UInt8 × Int)) : Int := match r with | some x => x.2.2 | none => 0
def oE (r : Option (List UInt8 × List UInt8 × Int)) (l : List Rec) : Int := match r with | some _ => 0 | none => if 0 < l.length then 17 else 6

theorem mfold_drop {l : List Rec} {i : Nat} (hi : i < l.length) (p tg : List UInt8) (z : Int) : mfold (l.drop i) p tg z = match mstep (at_rec l i) p tg z with
    | some (p', tg', z') => mfold (l.drop (i + 1)) p' tg' z'
    | none => none := by
  rw [List.drop_eq_getElem_cons hi, at_rec_eq hi]; rfl
theorem mfold_link {l : List Rec} {i : Nat} (hi : i < l.length) (hk : (at_rec l i).key = [108, 105, 110, 107, 112, 97, 116, 104]) (p tg : List UInt8) (z : Int) : mfold (l.drop i) p tg z = mfold (l.drop (i + 1)) p (at_rec l i).val z := by
  rw [mfold_drop hi, mstep, if_pos hk]
theorem mfold_path {l : List Rec} {i : Nat} (hi : i < l.length) (hk : (at_rec l i).key = [112, 97, 116, 104]) (p tg : List UInt8) (z : Int) : mfold (l.drop i) p tg z = mfold (l.drop (i + 1)) (at_rec l i).val tg z := by
  rw [mfold_drop hi, mstep, if_neg (by rw [hk]; decide), if_pos hk]
theorem mfold_size {l : List Rec} {i : Nat} (hi : i < l.length) (hk : (at_rec l i).key = [115, 105, 122, 101]) (ho : psz_ok (at_rec l i).val = true) (p tg : List UInt8) (z : Int) : mfold (l.drop i) p tg z = mfold (l.drop (i + 1)) p tg (pint (at_rec l i).val) := by
  rw [mfold_drop hi, mstep, if_neg (by rw [hk]; decide), if_neg (by rw [hk]; decide), if_pos hk, if_pos ho]
theorem mfold_bad {l : List Rec} {i : Nat} (hi : i < l.length) (hk : (at_rec l i).key = [115, 105, 122, 101]) (ho : ¬ psz_ok (at_rec l i).val = true) (p tg : List UInt8) (z : Int) : mfold (l.drop i) p tg z = none := by
  rw [mfold_drop hi, mstep, if_neg (by rw [hk]; decide), if_neg (by rw [hk]; decide), if_pos hk, if_neg ho]
theorem mfold_other {l : List Rec} {i : Nat} (hi : i < l.length) (h1 : ¬ (at_rec l i).key = [108, 105, 110, 107, 112, 97, 116, 104]) (h2 : ¬ (at_rec l i).key = [112, 97, 116, 104]) (h3 : ¬ (at_rec l i).key = [115, 105, 122, 101]) (p tg : List UInt8) (z : Int) : mfold (l.drop i) p tg z = none := by
  rw [mfold_drop hi, mstep, if_neg h1, if_neg h2, if_neg h3]
theorem mfold_nil {l : List Rec} {i : Nat} (hi : l.length ≤ i) (p tg : List UInt8) (z : Int) : mfold (l.drop i) p tg z = some (p, tg, z) := by
  rw [List.drop_eq_nil_of_le hi]; rfl
section
variable {k : List UInt8} {a b c : Value}
theorem mget3_link (hk : k = [108, 105, 110, 107, 112, 97, 116, 104]) : mget (mset (mset (mset ([] : List (List UInt8 × Value)) [108, 105, 110, 107, 112, 97, 116, 104] a) [112, 97, 116, 104] b) [115, 105, 122, 101] c) k = some a := by
  rw [mget_mset, if_neg (by rw [hk]; decide), mget_mset, if_neg (by rw [hk]; decide), mget_mset, if_pos hk]
theorem mget3_path (hk : k = [112, 97, 116, 104]) : mget (mset (mset (mset ([] : List (List UInt8 × Value)) [108, 105, 110, 107, 112, 97, 116, 104] a) [112, 97, 116, 104] b) [115, 105, 122, 101] c) k = some b := by
  rw [mget_mset, if_neg (by rw [hk]; decide), mget_mset, if_pos hk]
theorem mget3_size (hk : k = [115, 105, 122, 101]) : mget (mset (mset (mset ([] : List (List UInt8 × Value)) [108, 105, 110, 107, 112, 97, 116, 104] a) [112, 97, 116, 104] b) [115, 105, 122, 101] c) k = some c := by
  rw [mget_mset, if_pos hk]
theorem mget3_none (h1 : ¬ k = [108, 105, 110, 107, 112, 97, 116, 104]) (h2 : ¬ k = [112, 97, 116, 104]) (h3 : ¬ k = [115, 105, 122, 101]) : mget (mset (mset (mset ([] : List (List UInt8 × Value)) [108, 105, 110, 107, 112, 97, 116, 104] a) [112, 97, 116, 104] b) [115, 105, 122, 101] c) k = none := by
  rw [mget_mset, if_neg h3, mget_mset, if_neg h2, mget_mset, if_neg h1]; rfl
end

theorem pint_range {s : List UInt8} (h : psz_ok s = true) : -9223372036854775808 ≤ pint s ∧ pint s ≤ 9223372036854775807 := by
  unfold psz_ok pbad at h
  unfold pint
  cases hp : Lib.parseIntB 64 s with
  | ok v => have := Lib.parseIntB_bounds hp; simp only; omega
  | «syntax» => rw [hp] at h; cases h
  | range => rw [hp] at h; cases h
theorem mrec_len {l : List Rec} {B i : Nat} (hs : ∀ r ∈ l, r.key.length ≤ B ∧ r.val.length ≤ B) (hi : i < l.length) : (at_rec l i).val.length ≤ B := by
  rw [at_rec_eq hi]; exact (hs _ (List.getElem_mem hi)).2
theorem mres_none {ty md sz : Int} {nm pr lk : List UInt8} {l : List Rec} (h : mfold l (pjoin pr nm) lk sz = none) : mres ty nm pr lk md sz l = none := by
  unfold mres; rw [h]; rfl
theorem mres_not {ty md sz : Int} {nm pr lk : List UInt8} {l : List Rec} {p tg : List UInt8} {z : Int} (h : mfold l (pjoin pr nm) lk sz = some (p, tg, z)) (hn : ¬ mok (mkind ty) md ty nm pr lk md sz l p tg z) : mres ty nm pr lk md sz l = none := by
  unfold mres; rw [h]; exact if_neg hn
theorem mres_yes {ty md sz : Int} {nm pr lk : List UInt8} {l : List Rec} {p tg : List UInt8} {z : Int} (h : mfold l (pjoin pr nm) lk sz = some (p, tg, z)) (hn : mok (mkind ty) md ty nm pr lk md sz l p tg z) : mres ty nm pr lk md sz l = some (p, tg, z) := by
  unfold mres; rw [h]; exact if_pos hn
theorem pjoin_len (a b : List UInt8) : (pjoin a b).length ≤ a.length + 1 + b.length := by
  unfold pjoin; split <;> simp <;> omega

theorem fit_MergeS (h : Heap) (hK : GlbK h) (hN : GlbN h) (hE : GlbE h) (hT : GlbT h) (hS : GlbS h) (ty : Int) (nm : List UInt8) (pr : List UInt8) (lk : List UInt8) (md : Int) (sz : Int) (w : Value) (l : List Rec) (hl : Rows recS h w l) (hty : 0 ≤ ty ∧ ty ≤ 255) (hnm : pr.length + 1 + nm.length ≤ 140737488355328) (hlk : lk.length ≤ 140737488355328) (hsz : -9223372036854775808 ≤ sz ∧ sz ≤ 9223372036854775807) (hn : l.length ≤ 140737488355328) (hs : ∀ r ∈ l, r.key.length ≤ 140737488355328 ∧ r.val.length ≤ 140737488355328) : Cal Tryz.prog 25 #[.agg #[.int .u8 (ty), str nm, str pr, str lk, .int .i64 (md), .int .i64 (sz)], w] h (fun v h' => v = .tuple #[.agg #[.int .i64 (oI (mres ty nm pr lk md sz l) (mkind ty)), str (oP (mres ty nm pr lk md sz l)), .int .i64 (oI (mres ty nm pr lk md sz l) md), str (oT (mres ty nm pr lk md sz l)), .int .i64 (oZ (mres ty nm pr lk md sz l))], .int .i64 (oE (mres ty nm pr lk md sz l) l)] ∧ Ext h h') := by
 refine Ce Tryz.func25 fun σ => ?_
 refine Wr ?_
 refine L_mks (M_box rfl) rfl rfl rfl ?_
 rintro _ h1 ⟨rfl, hn1⟩
 have hk2 : Blk h1 h.size [.int .u8 (ty), str nm, str pr, str lk, .int .i64 (md), .int .i64 (sz)] := hn1.blk
 refine L_mks (M_alloc (u := .agg #[.int .i64 0, str [], .int .i64 0, str [], .int .i64 0]) (by kernel_rfl)) rfl rfl rfl ?_
 rintro _ h2 ⟨rfl, hn3⟩
 have hk4 : Blk h2 h1.size [.int .i64 0, str [], .int .i64 0, str [], .int .i64 0] := hn3.blk
 refine Av ?_
 refine Ln (Xt (Wq (Wg ?_)))
 refine An ?_
 refine W_cut (S := Unit) (fun _u => [(5, .int .i64 0), (4, .pointer (some ⟨h1.size, 0, none⟩)), (2, .pointer (some ⟨h.size, 0, none⟩)), (1, w), (6, .int .i64 ((if 0 < l.length then 17 else 6)))]) (fun _u h' => h' = h2) ?_ ?_
 ·refine Wm ?_
  refine Ly (Y_lenr Tryz.underlying74 rfl (hl.ext (hn1.ext.trans hn3.ext))) ?_
  refine Ly (Y_gtr rfl rfl) ?_
  refine Nx ?_
  refine Sd (fun g0 => ?_) fun g0 => ?_
  ·refine Wg ?_
   refine Av ?_
   refine Ln ?_
   refine X_cut (()) (sk4 5 4 2 1 rfl rfl rfl rfl (sk1 6 (lki rfl (by (rw [if_pos (by omega)]))) sN)) ?_
   first | rfl | exact ⟨rfl, rfl⟩
  refine Wk ?_
  refine X_cut (()) (sk4 5 4 2 1 rfl rfl rfl rfl (sk1 6 (lki rfl (by (rw [if_neg (by omega)]))) sN)) ?_
  first | rfl | exact ⟨rfl, rfl⟩
 rintro _u h2 rfl
 show W _ _ _ _ _ [(5, .int .i64 0), (4, .pointer (some ⟨h1.size, 0, none⟩)), (2, .pointer (some ⟨h.size, 0, none⟩)), (1, w), (6, .int .i64 ((if 0 < l.length then 17 else 6)))] _
 refine Wq ?_
 refine W_quiet (fun h' => h' = h2) (by kernel_rfl) (by kernel_rfl) rfl ?_
 refine Qy (Y_arrall Tryz.underlying131 (show _ = some 1 by kernel_rfl) (by decide) rfl) ?_
 refine Qy (Y_fieldAddr (off := 0) (by kernel_rfl) rfl rfl) ?_
 refine Qy (Y_ldblk Tryz.underlying5 rfl rfl (hk2.ext hn3.ext) rfl) ?_
 refine LQ_call (v := .int .i64 (Lib.indexByte ([53, 48, 50, 49] : List UInt8) ty.toNat.toUInt8)) (fun _ _ => E_call (by kernel_rfl) rfl) (fun h_ hI_ => by subst hI_; exact (slices_IndexB _ (.slice (some ⟨6, 0, none⟩) 4 4) ([53, 48, 50, 49] : List UInt8) ((Cls.bytesG (l := [53, 48, 50, 49]) hT.g0 rfl (by decide)).ext (hn1.ext.trans hn3.ext)) ty (by first | omega | rfl | (simp <;> omega)) (by first | omega | rfl | (simp <;> omega)))) rfl rfl rfl ?_
 refine Qa ?_
 refine LQ_nil ?_
 rintro h2 rfl
 refine Xt (Wq ?_)
 refine W_pers [(7, .int .i64 (Lib.indexByte ([53, 48, 50, 49] : List UInt8) ty.toNat.toUInt8)), (5, .int .i64 0), (4, .pointer (some ⟨h1.size, 0, none⟩)), (2, .pointer (some ⟨h.size, 0, none⟩)), (1, w), (6, .int .i64 ((if 0 < l.length then 17 else 6)))] (tk6 7 5 4 2 1 6) (by kernel_rfl) ?_
 refine LPc 0 (.int .i64 (Lib.indexByte ([53, 48, 50, 49] : List UInt8) ty.toNat.toUInt8)) [] ?_ ?_
 ·intro h3 hx5
  exact Sm
 refine LPc 1 (.pointer (some ⟨h.size, 0 + 2, none⟩)) [] ?_ ?_
 ·intro h4 hx6
  exact Sf 2
 refine LPc 2 (str pr) [(1, 25)] ?_ ?_
 ·intro h5 hx7
  rintro _ rfl
  exact Sb Tryz.underlying9 (hk2.ext (hn3.ext.trans hx7))
 refine LPc 3 (.pointer (some ⟨h.size, 0 + 1, none⟩)) [] ?_ ?_
 ·intro h6 hx8
  exact Sf 1
 refine LPc 4 (str nm) [(3, 27)] ?_ ?_
 ·intro h7 hx9
  rintro _ rfl
  exact Sb Tryz.underlying9 (hk2.ext (hn3.ext.trans hx9))
 refine LPc 5 (str (pjoin pr nm)) [(2, 26), (4, 28)] ?_ ?_
 ·intro h8 hx10
  rintro _ rfl
  rintro _ rfl
  refine Nn ?_
  refine Stp_call (E_call (by kernel_rfl) rfl) (pathname_Join _ pr nm (by first | omega | rfl | (simp <;> omega))) rfl ?_
  rintro _ h8 ⟨rfl, rfl⟩
  exact ⟨(Ext.refl _), rfl⟩
 refine LPc 6 (.pointer (some ⟨h.size, 0 + 4, none⟩)) [] ?_ ?_
 ·intro h9 hx11
  exact Sf 4
 refine LPc 7 (.int .i64 (md)) [(6, 30)] ?_ ?_
 ·intro h10 hx12
  rintro _ rfl
  exact Sb Tryz.underlying3 (hk2.ext (hn3.ext.trans hx12))
 refine LPc 8 (.pointer (some ⟨h.size, 0 + 3, none⟩)) [] ?_ ?_
 ·intro h11 hx13
  exact Sf 3
 refine LPc 9 (str lk) [(8, 32)] ?_ ?_
 ·intro h12 hx14
  rintro _ rfl
  exact Sb Tryz.underlying9 (hk2.ext (hn3.ext.trans hx14))
 refine LPc 10 (.pointer (some ⟨h.size, 0 + 5, none⟩)) [] ?_ ?_
 ·intro h13 hx15
  exact Sf 5
 refine LPc 11 (.int .i64 (sz)) [(10, 34)] ?_ ?_
 ·intro h14 hx16
  rintro _ rfl
  exact Sb Tryz.underlying2 (hk2.ext (hn3.ext.trans hx16))
 refine LPc 12 (.agg #[.int .i64 (Lib.indexByte ([53, 48, 50, 49] : List UInt8) ty.toNat.toUInt8), str (pjoin pr nm), .int .i64 (md), str lk, .int .i64 (sz)]) [(9, 33), (11, 35), (0, 24), (5, 29), (7, 31)] ?_ ?_
 ·intro h15 hx17
  rintro _ rfl
  rintro _ rfl
  rintro _ rfl
  rintro _ rfl
  rintro _ rfl
  exact Sy (Y_build (v := .agg #[.int .i64 (Lib.indexByte ([53, 48, 50, 49] : List UInt8) ty.toNat.toUInt8), str (pjoin pr nm), .int .i64 (md), str lk, .int .i64 (sz)]) (pv := [(0, .int .i64 (Lib.indexByte ([53, 48, 50, 49] : List UInt8) ty.toNat.toUInt8)), (1, str (pjoin pr nm)), (2, .int .i64 (md)), (3, str lk), (4, .int .i64 (sz))]) (evp (is := [0, 1, 2, 3, 4]) (os := [.tmp 24, .tmp 29, .tmp 31, .tmp 33, .tmp 35]) (vs := [.int .i64 (Lib.indexByte ([53, 48, 50, 49] : List UInt8) ty.toNat.toUInt8), str (pjoin pr nm), .int .i64 (md), str lk, .int .i64 (sz)]) rfl rfl) (fun _ => by kernel_rfl))
 refine LPc 13 (.agg #[.int .i64 (Lib.indexByte ([53, 48, 50, 49] : List UInt8) ty.toNat.toUInt8), str (pjoin pr nm), .int .i64 (md), str lk, .int .i64 (sz)]) [(12, 36)] ?_ ?_
 ·intro h16 hx18
  rintro _ rfl
  exact Sy (Y_build (v := .agg #[.int .i64 (Lib.indexByte ([53, 48, 50, 49] : List UInt8) ty.toNat.toUInt8), str (pjoin pr nm), .int .i64 (md), str lk, .int .i64 (sz)]) (pv := [(0, .agg #[.int .i64 (Lib.indexByte ([53, 48, 50, 49] : List UInt8) ty.toNat.toUInt8), str (pjoin pr nm), .int .i64 (md), str lk, .int .i64 (sz)])]) (evp (is := [0]) (os := [.tmp 36]) (vs := [.agg #[.int .i64 (Lib.indexByte ([53, 48, 50, 49] : List UInt8) ty.toNat.toUInt8), str (pjoin pr nm), .int .i64 (md), str lk, .int .i64 (sz)]]) rfl rfl) (fun _ => by kernel_rfl))
 refine LP_op 14 (fun hh vv => ∃ r5_1, vv = .pointer (some ⟨r5_1, 0, none⟩) ∧ Blk hh r5_1 [.int .i64 (Lib.indexByte ([53, 48, 50, 49] : List UInt8) ty.toNat.toUInt8), str (pjoin pr nm), .int .i64 (md), str lk, .int .i64 (sz)] ∧ h2.size ≤ r5_1) [(13, 37)] rfl rfl (by kernel_rfl) (fun _ _ _ x_ p_ => by obtain ⟨r5_1, rfl, q5_1, q5_1l⟩ := p_; exact ⟨_, rfl, q5_1.ext x_, q5_1l⟩) ?_ ?_
 ·intro h17 hx19
  rintro _ rfl
  refine Nn ?_
  refine Stp_mks (M_box rfl) rfl ?_
  rintro _ h18 ⟨rfl, hn20⟩
  have hk21 : Blk h18 h17.size [.int .i64 (Lib.indexByte ([53, 48, 50, 49] : List UInt8) ty.toNat.toUInt8), str (pjoin pr nm), .int .i64 (md), str lk, .int .i64 (sz)] := hn20.blk
  exact ⟨hn20.ext, ⟨h17.size, rfl, hk21, hx19.size⟩⟩
 refine LP_op 15 (fun hh vv => ∃ r5_1, vv = .pointer (some ⟨r5_1, 0, none⟩) ∧ Blk hh r5_1 [.int .i64 (Lib.indexByte ([53, 48, 50, 49] : List UInt8) ty.toNat.toUInt8), str (pjoin pr nm), .int .i64 (md), str lk, .int .i64 (sz)] ∧ h2.size ≤ r5_1) [(14, 38)] rfl rfl (by kernel_rfl) (fun _ _ _ x_ p_ => by obtain ⟨r5_1, rfl, q5_1, q5_1l⟩ := p_; exact ⟨_, rfl, q5_1.ext x_, q5_1l⟩) ?_ ?_
 ·intro h19 hx22
  rintro _ ⟨r5_1, rfl, q5_1, q5_1l⟩
  refine Nn ?_
  refine Stp_yld (Y_assign rfl) rfl ?_
  exact ⟨r5_1, rfl, q5_1, q5_1l⟩
 refine LP_end [(15, 8)] rfl (by kernel_rfl) rfl ?_
 intro h20 hx23
 rintro _ ⟨r5_1, rfl, q5_1, q5_1l⟩
 refine Nn ?_
 refine Xt (Wq (Wg ?_))
 refine L_mks (M_makeMap (α := List UInt8) (fun l : List UInt8 => str l)) rfl rfl rfl ?_
 rintro _ h21 ⟨rfl, hx24, hb25⟩
 refine Mv ?_
 refine Ly (Y_makeFunc1 (f := 60) rfl) ?_
 refine L_dos (D_insert keyS Tryz.underlying137 Tryz.underlying9 rfl rfl rfl hb25) rfl rfl ?_
 rintro h22 ⟨hx26, -, hb27⟩
 refine Mv ?_
 refine Ly (Y_makeFunc1 (f := 61) rfl) ?_
 refine L_dos (D_insert keyS Tryz.underlying137 Tryz.underlying9 rfl rfl rfl hb27) rfl rfl ?_
 rintro h23 ⟨hx28, -, hb29⟩
 refine Mv ?_
 refine Ly (Y_makeFunc1 (f := 62) rfl) ?_
 refine L_dos (D_insert keyS Tryz.underlying137 Tryz.underlying9 rfl rfl rfl hb29) rfl rfl ?_
 rintro h24 ⟨hx30, -, hb31⟩
 refine Mv ?_
 refine An ?_
 refine Wu _ (tk7 9 8 5 4 2 1 6) ?_
 refine Wq (Wq (Wg ?_))
 refine Mv ?_
 have me1 := (((hn1.ext.trans hn3.ext).trans hx23).trans hx24).then' hx26 (by simp) (nt (nt hn1.ext.size hn3.ext.size) hx23.size)
 have me2 := me1.then' hx28 (by simp) (nt (nt hn1.ext.size hn3.ext.size) hx23.size)
 have me3 := me2.then' hx30 (by simp) (nt (nt hn1.ext.size hn3.ext.size) hx23.size)
 refine Ly (Y_lenr Tryz.underlying74 rfl (hl.ext me3)) ?_
 refine Mv ?_
 refine Ln (Xt (Wb ?_))
 refine W_loop (S := Nat × List UInt8 × List UInt8 × Int) (fun (i, p, tg, z) => [(48, .int .i64 ((l.length : Int))), (47, w), (9, .map (some h20.size)), (8, .pointer (some ⟨r5_1, 0, none⟩)), (4, .pointer (some ⟨h1.size, 0, none⟩)), (2, .pointer (some ⟨h.size, 0, none⟩)), (1, w), (6, .int .i64 ((if 0 < l.length then 17 else 6))), (49, .int .i64 ((i : Int)))]) (fun (i, p, tg, z) h' => (i ≤ l.length ∧ mfold l (pjoin pr nm) lk sz = mfold (l.drop i) p tg z ∧ p.length ≤ 140737488355328 ∧ tg.length ≤ 140737488355328 ∧ -9223372036854775808 ≤ z ∧ z ≤ 9223372036854775807) ∧ Only [r5_1] h24 h' ∧ Blk h' r5_1 [.int .i64 (Lib.indexByte ([53, 48, 50, 49] : List UInt8) (ty).toNat.toUInt8), str p, .int .i64 md, str tg, .int .i64 z]) (fun (i, p, tg, z) => l.length - i) (0, pjoin pr nm, lk, sz) (sk1 48 rfl (tk8 47 9 8 4 2 1 6 49)) ?_ ?_
 ·exact ⟨⟨by omega, rfl, by have := pjoin_len pr nm; show (pjoin pr nm).length ≤ _; omega, hlk, hsz.1, hsz.2⟩, Only.refl _ _, (q5_1.ext (((hx24.then' hx26 (by simp) (Nat.le_refl _)).then' hx28 (by simp) (Nat.le_refl _)).then' hx30 (by simp) (Nat.le_refl _)))⟩
 rintro ⟨i, p, tg, z⟩ h25 ⟨⟨hi, hf, hp9, ht9, hz8, hz9⟩, hx, hbb⟩
 show W _ _ _ _ _ [(48, .int .i64 ((l.length : Int))), (47, w), (9, .map (some h20.size)), (8, .pointer (some ⟨r5_1, 0, none⟩)), (4, .pointer (some ⟨h1.size, 0, none⟩)), (2, .pointer (some ⟨h.size, 0, none⟩)), (1, w), (6, .int .i64 ((if 0 < l.length then 17 else 6))), (49, .int .i64 ((i : Int)))] _
 refine Wr ?_
 refine Ly Yls ?_
 refine Ln (Xt (Wq ?_))
 refine Sd (fun hlt => ?_) fun hlt => ?_
 ·refine Ws ?_
  have hlt9 : i < l.length := by omega
  have hv9 : (at_rec l (i : Int).toNat).val.length ≤ 140737488355328 := mrec_len hs hlt9
  refine Wq (Wb (Wq (Wg ?_)))
  have me4 := me3.then' hx (by simp) (nt (nt hn1.ext.size hn3.ext.size) q5_1l)
  refine Ly (Y_idxr Tryz.underlying74 (show _ = some 2 by kernel_rfl) rfl rfl rfl (hl.ext me4) (by omega) (by omega)) ?_
  refine Ly (Y_ldrA0 (k := ((i : Int)).toNat) (us := [str ((at_rec l ((i : Int)).toNat).key), str ((at_rec l ((i : Int)).toNat).val)]) Tryz.underlying139 rfl (show _ = some 2 by kernel_rfl) rfl rfl (hl.ext me4) (by omega) rfl) ?_
  refine L_mks (M_alloc (u := .agg #[str [], str []]) (by kernel_rfl)) rfl rfl rfl ?_
  rintro _ h26 ⟨rfl, hn32⟩
  have hk33 : Blk h26 h25.size [str [], str []] := hn32.blk
  refine Lds [str ((at_rec l ((i : Int)).toNat).key), str ((at_rec l ((i : Int)).toNat).val)] hk33 ?_
  rintro h27 hp34
  have hk35 : Blk h27 h25.size [str ((at_rec l ((i : Int)).toNat).key), str ((at_rec l ((i : Int)).toNat).val)] := hp34.blk
  refine Ln (Xt (Wq ?_))
  by_cases hk1 : (at_rec l i).key = [108, 105, 110, 107, 112, 97, 116, 104]
  ·refine Wg ?_
   refine Mv ?_
   refine Lf 0 ?_
   refine Lb Tryz.underlying9 hk35 ?_
   have hg36 : mget (mset (mset (mset ([] : List (List UInt8 × Value)) [108, 105, 110, 107, 112, 97, 116, 104] (.func (.func 60) #[.pointer (some ⟨r5_1, 0, none⟩)] #[])) [112, 97, 116, 104] (.func (.func 61) #[.pointer (some ⟨r5_1, 0, none⟩)] #[])) [115, 105, 122, 101] (.func (.func 62) #[.pointer (some ⟨r5_1, 0, none⟩)] #[])) ((at_rec l ((i : Int)).toNat).key) = some (.func (.func 60) #[.pointer (some ⟨r5_1, 0, none⟩)] #[]) := by exact mget3_link hk1
   have hc37 := (((hb31.only hx (ni_gt (ntl q5_1.lt (Nat.le_refl _)))).ext hn32.ext).only hp34.only (ni_lt (ntl hb25.lt (nt (nt (nt hx26.size hx28.size) hx30.size) hx.size))))
   refine Ly (Y_look2s keyS Tryz.underlying137 Tryz.underlying9 (u := .nilFunc) (by kernel_rfl) rfl rfl hc37 hg36) ?_
   refine Mx ?_
   refine A2 ?_
   refine Nx ?_
   refine Wu _ (sk4 13 12 11 48 rfl rfl rfl rfl (tk8 47 9 8 4 2 1 6 49)) ?_
   refine Wm ?_
   refine Ly (Y_not rfl) ?_
   refine M2 ?_
   refine Lf 1 ?_
   refine Lb Tryz.underlying9 hk35 ?_
   refine L_call (E_callv (fs := [.pointer (some ⟨r5_1, 0, none⟩)]) (cs := []) (by kernel_rfl) rfl rfl) (bld_target _ r5_1 (Lib.indexByte ([53, 48, 50, 49] : List UInt8) (ty).toNat.toUInt8) p md tg z (hbb.ext (hn32.ext.then' hp34.only (by simp) (Nat.le_refl _))) ((at_rec l ((i : Int)).toNat).val)) rfl rfl rfl ?_
   rintro _ h28 ⟨rfl, hx38, hb39⟩
   refine Ly (Y_not rfl) ?_
   refine Ly Ypf ?_
   refine Nx ?_
   refine Wu _ (sk2 68 48 rfl rfl (tk8 47 9 8 4 2 1 6 49)) ?_
   refine W_false rfl ?_
   refine Wk (Xb (Xt (Wg ?_)))
   refine Lad ?_
   refine Mv ?_
   refine Ln ?_
   refine X_loop ((i + 1, p, (at_rec l i).val, z)) (sk1 48 rfl (tk8 47 9 8 4 2 1 6 49)) ?_ ?_
   ·exact ⟨⟨by omega, by rw [hf]; exact mfold_link hlt9 hk1 _ _ _, hp9, mrec_len hs hlt9, hz8, hz9⟩, (Only.trans (Only.trans (Only.trans (Only.trans (Only.refl _ _) hx (fun b_ hb_ => .inl (by simp only [List.mem_cons, List.not_mem_nil, or_false] at hb_ ⊢; omega))) hn32.ext (fun _ hb_ => by cases hb_)) hp34.only (fun b_ hb_ => .inr (by rw [List.mem_singleton.1 hb_]; exact hx.size))) hx38 (fun b_ hb_ => .inl (by simp only [List.mem_cons, List.not_mem_nil, or_false] at hb_ ⊢; omega))), hb39⟩
   (try dsimp only)
   omega
  by_cases hk2 : (at_rec l i).key = [112, 97, 116, 104]
  ·refine Wg ?_
   refine Mv ?_
   refine Lf 0 ?_
   refine Lb Tryz.underlying9 hk35 ?_
   have hg40 : mget (mset (mset (mset ([] : List (List UInt8 × Value)) [108, 105, 110, 107, 112, 97, 116, 104] (.func (.func 60) #[.pointer (some ⟨r5_1, 0, none⟩)] #[])) [112, 97, 116, 104] (.func (.func 61) #[.pointer (some ⟨r5_1, 0, none⟩)] #[])) [115, 105, 122, 101] (.func (.func 62) #[.pointer (some ⟨r5_1, 0, none⟩)] #[])) ((at_rec l ((i : Int)).toNat).key) = some (.func (.func 61) #[.pointer (some ⟨r5_1, 0, none⟩)] #[]) := by exact mget3_path hk2
   have hc41 := (((hb31.only hx (ni_gt (ntl q5_1.lt (Nat.le_refl _)))).ext hn32.ext).only hp34.only (ni_lt (ntl hb25.lt (nt (nt (nt hx26.size hx28.size) hx30.size) hx.size))))
   refine Ly (Y_look2s keyS Tryz.underlying137 Tryz.underlying9 (u := .nilFunc) (by kernel_rfl) rfl rfl hc41 hg40) ?_
   refine Mx ?_
   refine A2 ?_
   refine Nx ?_
   refine Wu _ (sk4 13 12 11 48 rfl rfl rfl rfl (tk8 47 9 8 4 2 1 6 49)) ?_
   refine Wm ?_
   refine Ly (Y_not rfl) ?_
   refine M2 ?_
   refine Lf 1 ?_
   refine Lb Tryz.underlying9 hk35 ?_
   refine L_call (E_callv (fs := [.pointer (some ⟨r5_1, 0, none⟩)]) (cs := []) (by kernel_rfl) rfl rfl) (bld_path _ r5_1 (Lib.indexByte ([53, 48, 50, 49] : List UInt8) (ty).toNat.toUInt8) p md tg z (hbb.ext (hn32.ext.then' hp34.only (by simp) (Nat.le_refl _))) ((at_rec l ((i : Int)).toNat).val)) rfl rfl rfl ?_
   rintro _ h29 ⟨rfl, hx42, hb43⟩
   refine Ly (Y_not rfl) ?_
   refine Ly Ypf ?_
   refine Nx ?_
   refine Wu _ (sk2 68 48 rfl rfl (tk8 47 9 8 4 2 1 6 49)) ?_
   refine W_false rfl ?_
   refine Wk (Xb (Xt (Wg ?_)))
   refine Lad ?_
   refine Mv ?_
   refine Ln ?_
   refine X_loop ((i + 1, (at_rec l i).val, tg, z)) (sk1 48 rfl (tk8 47 9 8 4 2 1 6 49)) ?_ ?_
   ·exact ⟨⟨by omega, by rw [hf]; exact mfold_path hlt9 hk2 _ _ _, mrec_len hs hlt9, ht9, hz8, hz9⟩, (Only.trans (Only.trans (Only.trans (Only.trans (Only.refl _ _) hx (fun b_ hb_ => .inl (by simp only [List.mem_cons, List.not_mem_nil, or_false] at hb_ ⊢; omega))) hn32.ext (fun _ hb_ => by cases hb_)) hp34.only (fun b_ hb_ => .inr (by rw [List.mem_singleton.1 hb_]; exact hx.size))) hx42 (fun b_ hb_ => .inl (by simp only [List.mem_cons, List.not_mem_nil, or_false] at hb_ ⊢; omega))), hb43⟩
   (try dsimp only)
   omega
  by_cases hk3 : (at_rec l i).key = [115, 105, 122, 101]
  ·refine Wg ?_
   refine Mv ?_
   refine Lf 0 ?_
   refine Lb Tryz.underlying9 hk35 ?_
   have hg44 : mget (mset (mset (mset ([] : List (List UInt8 × Value)) [108, 105, 110, 107, 112, 97, 116, 104] (.func (.func 60) #[.pointer (some ⟨r5_1, 0, none⟩)] #[])) [112, 97, 116, 104] (.func (.func 61) #[.pointer (some ⟨r5_1, 0, none⟩)] #[])) [115, 105, 122, 101] (.func (.func 62) #[.pointer (some ⟨r5_1, 0, none⟩)] #[])) ((at_rec l ((i : Int)).toNat).key) = some (.func (.func 62) #[.pointer (some ⟨r5_1, 0, none⟩)] #[]) := by exact mget3_size hk3
   have hc45 := (((hb31.only hx (ni_gt (ntl q5_1.lt (Nat.le_refl _)))).ext hn32.ext).only hp34.only (ni_lt (ntl hb25.lt (nt (nt (nt hx26.size hx28.size) hx30.size) hx.size))))
   refine Ly (Y_look2s keyS Tryz.underlying137 Tryz.underlying9 (u := .nilFunc) (by kernel_rfl) rfl rfl hc45 hg44) ?_
   refine Mx ?_
   refine A2 ?_
   refine Nx ?_
   refine Wu _ (sk4 13 12 11 48 rfl rfl rfl rfl (tk8 47 9 8 4 2 1 6 49)) ?_
   refine Wm ?_
   refine Ly (Y_not rfl) ?_
   refine M2 ?_
   refine Lf 1 ?_
   refine Lb Tryz.underlying9 hk35 ?_
   have me5 := nt (nt (nt hn1.ext.size hn3.ext.size) hx23.size) hx24.size
   have me6 := nt (nt (nt (nt me5 hx26.size) hx28.size) hx30.size) hx.size
   refine L_call (E_callv (fs := [.pointer (some ⟨r5_1, 0, none⟩)]) (cs := []) (by kernel_rfl) rfl rfl) (bld_size _ (hE.ext ((me4.trans hn32.ext).then' hp34.only (by simp) me6)) (hS.ext ((me4.trans hn32.ext).then' hp34.only (by simp) me6)) r5_1 (Lib.indexByte ([53, 48, 50, 49] : List UInt8) (ty).toNat.toUInt8) p md tg z (hbb.ext (hn32.ext.then' hp34.only (by simp) (Nat.le_refl _))) ((at_rec l ((i : Int)).toNat).val) (by first | omega | rfl | (simp <;> omega))) rfl rfl rfl ?_
   rintro _ h30 ⟨rfl, hx46, hb47⟩
   refine Ly (Y_not rfl) ?_
   refine Ly Ypf ?_
   refine Nx ?_
   refine Wu _ (sk2 68 48 rfl rfl (tk8 47 9 8 4 2 1 6 49)) ?_
   refine W_split rfl (fun ho => ?_) (fun ho => ?_)
   ·refine Wr ?_
    refine Ly (Yb (.agg #[.int .i64 0, str [], .int .i64 0, str [], .int .i64 0]) [] [] []) ?_
    refine Mv ?_
    have me7 := nt (nt (nt (nt hx23.size hx24.size) hx26.size) hx28.size) hx30.size
    have me8 := ((hx23.trans hx24).then' hx26 (by simp) hx23.size).then' hx28 (by simp) hx23.size
    have me9 := (me8.then' hx30 (by simp) hx23.size).then' hx (by simp) q5_1l
    have me10 := (me9.trans hn32.ext).then' hp34.only (by simp) (nt me7 hx.size)
    refine Lds [.int .i64 0, str [], .int .i64 0, str [], .int .i64 0] (hk4.ext (me10.then' hx46 (by simp) q5_1l)) ?_
    rintro h31 hp48
    have hk49 : Blk h31 h1.size [.int .i64 0, str [], .int .i64 0, str [], .int .i64 0] := hp48.blk
    refine Av ?_
    refine Ln (Xt (Wt (Yr (Xr (Xr (Yr (Xr ?_)))))))
    refine X_retv2 rfl (RVa Tryz.underlying37 hk49) rfl ?_
    have hm := mres_none (ty := ty) (md := md) (hf.trans (mfold_bad hlt9 hk3 (by simpa using ho) _ _ _))
    have me11 := ((me4.trans hn32.ext).then' hp34.only (by simp) me6).then' hx46 (by simp) (nt (nt hn1.ext.size hn3.ext.size) q5_1l)
    exact ⟨by rw [hm]; rfl, (me11.then' hp48.only (by simp) hn1.ext.size)⟩
   refine Wk (Xb (Xt (Wg ?_)))
   refine Lad ?_
   refine Mv ?_
   refine Ln ?_
   refine X_loop ((i + 1, p, tg, pint (at_rec l i).val)) (sk1 48 rfl (tk8 47 9 8 4 2 1 6 49)) ?_ ?_
   ·exact ⟨⟨by omega, by rw [hf]; exact mfold_size hlt9 hk3 (by simpa using ho) _ _ _, hp9, ht9, (pint_range (by simpa using ho)).1, (pint_range (by simpa using ho)).2⟩, (Only.trans (Only.trans (Only.trans (Only.trans (Only.refl _ _) hx (fun b_ hb_ => .inl (by simp only [List.mem_cons, List.not_mem_nil, or_false] at hb_ ⊢; omega))) hn32.ext (fun _ hb_ => by cases hb_)) hp34.only (fun b_ hb_ => .inr (by rw [List.mem_singleton.1 hb_]; exact hx.size))) hx46 (fun b_ hb_ => .inl (by simp only [List.mem_cons, List.not_mem_nil, or_false] at hb_ ⊢; omega))), hb47⟩
   (try dsimp only)
   omega
  refine Wg ?_
  refine Mv ?_
  refine Lf 0 ?_
  refine Lb Tryz.underlying9 hk35 ?_
  have hg50 : mget (mset (mset (mset ([] : List (List UInt8 × Value)) [108, 105, 110, 107, 112, 97, 116, 104] (.func (.func 60) #[.pointer (some ⟨r5_1, 0, none⟩)] #[])) [112, 97, 116, 104] (.func (.func 61) #[.pointer (some ⟨r5_1, 0, none⟩)] #[])) [115, 105, 122, 101] (.func (.func 62) #[.pointer (some ⟨r5_1, 0, none⟩)] #[])) ((at_rec l ((i : Int)).toNat).key) = none := by exact mget3_none hk1 hk2 hk3
  have hc51 := (((hb31.only hx (ni_gt (ntl q5_1.lt (Nat.le_refl _)))).ext hn32.ext).only hp34.only (ni_lt (ntl hb25.lt (nt (nt (nt hx26.size hx28.size) hx30.size) hx.size))))
  refine Ly (Y_look2n keyS Tryz.underlying137 Tryz.underlying9 (u := .nilFunc) (by kernel_rfl) rfl rfl hc51 hg50) ?_
  refine Mx ?_
  refine A2 ?_
  refine Nx ?_
  refine Wu _ (sk4 13 12 11 48 rfl rfl rfl rfl (tk8 47 9 8 4 2 1 6 49)) ?_
  refine Wm ?_
  refine Ly (Y_not rfl) ?_
  refine Mv ?_
  refine Sk2 ?_
  refine Sk2 ?_
  refine Skp ?_
  refine Ly Ypt ?_
  refine Nx ?_
  refine Wu _ (sk2 68 48 rfl rfl (tk8 47 9 8 4 2 1 6 49)) ?_
  refine W_true rfl ?_
  refine Wr ?_
  refine Ly (Yb (.agg #[.int .i64 0, str [], .int .i64 0, str [], .int .i64 0]) [] [] []) ?_
  refine Mv ?_
  have me12 := nt (nt (nt (nt hx23.size hx24.size) hx26.size) hx28.size) hx30.size
  have me13 := ((hx23.trans hx24).then' hx26 (by simp) hx23.size).then' hx28 (by simp) hx23.size
  have me14 := (me13.then' hx30 (by simp) hx23.size).then' hx (by simp) q5_1l
  have me15 := (me14.trans hn32.ext).then' hp34.only (by simp) (nt me12 hx.size)
  refine Lds [.int .i64 0, str [], .int .i64 0, str [], .int .i64 0] (hk4.ext me15) ?_
  rintro h32 hp52
  have hk53 : Blk h32 h1.size [.int .i64 0, str [], .int .i64 0, str [], .int .i64 0] := hp52.blk
  refine Av ?_
  refine Ln (Xt (Wt (Yr (Xr (Xr (Yr (Xr ?_)))))))
  refine X_retv2 rfl (RVa Tryz.underlying37 hk53) rfl ?_
  have hm := mres_none (ty := ty) (md := md) (hf.trans (mfold_other hlt9 hk1 hk2 hk3 _ _ _))
  have me16 := nt (nt (nt hn1.ext.size hn3.ext.size) hx23.size) hx24.size
  have me17 := nt (nt (nt (nt me16 hx26.size) hx28.size) hx30.size) hx.size
  have me18 := ((me4.trans hn32.ext).then' hp34.only (by simp) me17).then' hp52.only (by simp) hn1.ext.size
  exact ⟨by rw [hm]; rfl, me18⟩
 refine W_exit ?_
 refine Xe (Xe ?_)
 refine X_block_hit ?_
 refine Xt ?_
 have hf1 := hf.trans (mfold_nil (by omega) _ _ _)
 refine Wm ?_
 refine Ly (Y_nilCheck rfl) ?_
 refine Lf 0 ?_
 refine Lg Tryz.underlying37 hbb ?_
 have me19 := me3.then' hx (by simp) (nt (nt hn1.ext.size hn3.ext.size) q5_1l)
 refine Lc (fit_Plan _ (hK.ext me19) (hN.ext me19) (hE.ext me19) (hT.ext me19) (Lib.indexByte ([53, 48, 50, 49] : List UInt8) (ty).toNat.toUInt8) p md tg z (by first | omega | rfl | (simp <;> omega)) (by first | omega | rfl | (simp <;> omega)) (by first | omega | rfl | (simp <;> omega))) ?_
 rintro _ h33 ⟨s154, rfl, hr155, hx56⟩
 refine Mx ?_
 refine Lx ?_
 refine L_mks (M_alloc (u := .agg #[.int .u8 0, str [], str [], str [], .int .i64 0, .int .i64 0]) (by kernel_rfl)) rfl rfl rfl ?_
 rintro _ h34 ⟨rfl, hn57⟩
 have hk58 : Blk h34 h33.size [.int .u8 0, str [], str [], str [], .int .i64 0, .int .i64 0] := hn57.blk
 refine Lds [.int .u8 (fT (fcheck (Lib.indexByte ([53, 48, 50, 49] : List UInt8) (ty).toNat.toUInt8) p md tg z) (Lib.indexByte ([53, 48, 50, 49] : List UInt8) (ty).toNat.toUInt8)), str (fN (fcheck (Lib.indexByte ([53, 48, 50, 49] : List UInt8) (ty).toNat.toUInt8) p md tg z) p), str (fP (fcheck (Lib.indexByte ([53, 48, 50, 49] : List UInt8) (ty).toNat.toUInt8) p md tg z) p), str (fL (fcheck (Lib.indexByte ([53, 48, 50, 49] : List UInt8) (ty).toNat.toUInt8) p md tg z) tg), .int .i64 (fM (fcheck (Lib.indexByte ([53, 48, 50, 49] : List UInt8) (ty).toNat.toUInt8) p md tg z) md), .int .i64 (fZ (fcheck (Lib.indexByte ([53, 48, 50, 49] : List UInt8) (ty).toNat.toUInt8) p md tg z) z)] hk58 ?_
 rintro h35 hp59
 have hk60 : Blk h35 h33.size [.int .u8 (fT (fcheck (Lib.indexByte ([53, 48, 50, 49] : List UInt8) (ty).toNat.toUInt8) p md tg z) (Lib.indexByte ([53, 48, 50, 49] : List UInt8) (ty).toNat.toUInt8)), str (fN (fcheck (Lib.indexByte ([53, 48, 50, 49] : List UInt8) (ty).toNat.toUInt8) p md tg z) p), str (fP (fcheck (Lib.indexByte ([53, 48, 50, 49] : List UInt8) (ty).toNat.toUInt8) p md tg z) p), str (fL (fcheck (Lib.indexByte ([53, 48, 50, 49] : List UInt8) (ty).toNat.toUInt8) p md tg z) tg), .int .i64 (fM (fcheck (Lib.indexByte ([53, 48, 50, 49] : List UInt8) (ty).toNat.toUInt8) p md tg z) md), .int .i64 (fZ (fcheck (Lib.indexByte ([53, 48, 50, 49] : List UInt8) (ty).toNat.toUInt8) p md tg z) z)] := hp59.blk
 refine A2 ?_
 refine Nx ?_
 refine Wu _ (tk8 16 15 14 8 4 2 1 6) ?_
 refine Wq ?_
 refine Wc [(93, .bool (decide (((¬ (fcheck (Lib.indexByte ([53, 48, 50, 49] : List UInt8) (ty).toNat.toUInt8) p md tg z) = 0) ∨ (¬ ((fT (fcheck (Lib.indexByte ([53, 48, 50, 49] : List UInt8) (ty).toNat.toUInt8) p md tg z) (Lib.indexByte ([53, 48, 50, 49] : List UInt8) (ty).toNat.toUInt8)) = ty ∧ (fN (fcheck (Lib.indexByte ([53, 48, 50, 49] : List UInt8) (ty).toNat.toUInt8) p md tg z) p) = nm ∧ (fP (fcheck (Lib.indexByte ([53, 48, 50, 49] : List UInt8) (ty).toNat.toUInt8) p md tg z) p) = pr ∧ (fL (fcheck (Lib.indexByte ([53, 48, 50, 49] : List UInt8) (ty).toNat.toUInt8) p md tg z) tg) = lk ∧ (fM (fcheck (Lib.indexByte ([53, 48, 50, 49] : List UInt8) (ty).toNat.toUInt8) p md tg z) md) = md ∧ (fZ (fcheck (Lib.indexByte ([53, 48, 50, 49] : List UInt8) (ty).toNat.toUInt8) p md tg z) z) = sz))) ∨ (¬ (l = (fR (fcheck (Lib.indexByte ([53, 48, 50, 49] : List UInt8) (ty).toNat.toUInt8) p md tg z) p tg z)))))), (8, .pointer (some ⟨r5_1, 0, none⟩)), (4, .pointer (some ⟨h1.size, 0, none⟩)), (6, .int .i64 ((if 0 < l.length then 17 else 6)))] (fun h' => h' = h35) ?_ ?_
 ·refine Wg ?_
  refine Mv ?_
  refine Ly Yne ?_
  refine Mv ?_
  refine L_splitd (d := 83) rfl (fun c61 => ?_) (fun c61 => ?_)
  ·refine Sk2 ?_
   refine Skp ?_
   refine Ly Ypt ?_
   refine Mv ?_
   refine Sk2 ?_
   refine Sk2 ?_
   refine Ly Ypt ?_
   refine Ln ?_
   exact X_cut () (sk1 93 (lkb rfl (by first | (simp only [eq_true c61, SB]; done) | (simp only [eq_true c61, SB]; rfl))) (sk1 8 rfl (sk1 4 rfl (tk1 6)))) rfl
  refine Lg Tryz.underlying71 hk60 ?_
  have me20 := nt (nt (nt (nt hn3.ext.size hx23.size) hx24.size) hx26.size) hx28.size
  have me21 := ((hn3.ext.trans hx23).trans hx24).then' hx26 (by simp) (nt hn3.ext.size hx23.size)
  have me22 := (me21.then' hx28 (by simp) (nt hn3.ext.size hx23.size)).then' hx30 (by simp) (nt hn3.ext.size hx23.size)
  have me23 := (me22.then' hx (by simp) (nt hn3.ext.size q5_1l)).trans hx56
  have me24 := (me23.trans hn57.ext).then' hp59.only (by simp) (nt (nt (nt me20 hx30.size) hx.size) hx56.size)
  refine Lg Tryz.underlying71 (hk2.ext me24) ?_
  refine Ly (Y_decneg (Y_stneq (xs := [.int .u8 (fT (fcheck (Lib.indexByte ([53, 48, 50, 49] : List UInt8) (ty).toNat.toUInt8) p md tg z) (Lib.indexByte ([53, 48, 50, 49] : List UInt8) (ty).toNat.toUInt8)), str (fN (fcheck (Lib.indexByte ([53, 48, 50, 49] : List UInt8) (ty).toNat.toUInt8) p md tg z) p), str (fP (fcheck (Lib.indexByte ([53, 48, 50, 49] : List UInt8) (ty).toNat.toUInt8) p md tg z) p), str (fL (fcheck (Lib.indexByte ([53, 48, 50, 49] : List UInt8) (ty).toNat.toUInt8) p md tg z) tg), .int .i64 (fM (fcheck (Lib.indexByte ([53, 48, 50, 49] : List UInt8) (ty).toNat.toUInt8) p md tg z) md), .int .i64 (fZ (fcheck (Lib.indexByte ([53, 48, 50, 49] : List UInt8) (ty).toNat.toUInt8) p md tg z) z)]) (ys := [.int .u8 (ty), str nm, str pr, str lk, .int .i64 (md), .int .i64 (sz)]) (r := decide ((fT (fcheck (Lib.indexByte ([53, 48, 50, 49] : List UInt8) (ty).toNat.toUInt8) p md tg z) (Lib.indexByte ([53, 48, 50, 49] : List UInt8) (ty).toNat.toUInt8)) = ty ∧ (fN (fcheck (Lib.indexByte ([53, 48, 50, 49] : List UInt8) (ty).toNat.toUInt8) p md tg z) p) = nm ∧ (fP (fcheck (Lib.indexByte ([53, 48, 50, 49] : List UInt8) (ty).toNat.toUInt8) p md tg z) p) = pr ∧ (fL (fcheck (Lib.indexByte ([53, 48, 50, 49] : List UInt8) (ty).toNat.toUInt8) p md tg z) tg) = lk ∧ (fM (fcheck (Lib.indexByte ([53, 48, 50, 49] : List UInt8) (ty).toNat.toUInt8) p md tg z) md) = md ∧ (fZ (fcheck (Lib.indexByte ([53, 48, 50, 49] : List UInt8) (ty).toNat.toUInt8) p md tg z) z) = sz)) (by kernel_rfl) (by kernel_rfl) (by kernel_rfl) rfl rfl (steq (ks := [.i .u8, .s, .s, .s, .i .i64, .i .i64]) (by kernel_rfl) (by simp [eqks, eqk])))) ?_
  refine Ly Ypf ?_
  refine Mv ?_
  refine L_splitd (d := 88) rfl (fun c62 => ?_) (fun c62 => ?_)
  ·refine Sk2 ?_
   refine Sk2 ?_
   refine Ly Ypt ?_
   refine Ln ?_
   exact X_cut () (sk1 93 (lkb rfl (by first | (simp only [eq_false c61, eq_true c62, SB]; done) | (simp only [eq_false c61, eq_true c62, SB]; rfl))) (sk1 8 rfl (sk1 4 rfl (tk1 6)))) rfl
  refine Ly (Y_move rfl) ?_
  refine Mv ?_
  have me25 := nt (nt (nt hn1.ext.size hn3.ext.size) hx23.size) hx24.size
  have me26 := nt (nt (nt (nt me25 hx26.size) hx28.size) hx30.size) hx.size
  have me27 := ((me19.trans hx56).trans hn57.ext).then' hp59.only (by simp) (nt me26 hx56.size)
  refine Lc (slices_EqualR _ w l (hl.ext me27) s154 (fR (fcheck (Lib.indexByte ([53, 48, 50, 49] : List UInt8) (ty).toNat.toUInt8) p md tg z) p tg z) (hr155.rows.ext (hn57.ext.then' hp59.only (by simp) (Nat.le_refl _))) (by first | omega | rfl | (simp <;> omega))) ?_
  rintro _ h35 ⟨rfl, rfl⟩
  refine Ly (Y_notd rfl) ?_
  refine Ly Ypf ?_
  refine Ln ?_
  exact X_cut () (sk1 93 (lkb rfl (by first | (simp only [eq_false c61, eq_false c62, SB]; done) | (simp only [eq_false c61, eq_false c62, SB]; rfl))) (sk1 8 rfl (sk1 4 rfl (tk1 6)))) rfl
 rintro h35 rfl
 refine Sd (fun b => ?_) fun b => ?_
 ·refine Wr ?_
  refine Ly (Yb (.agg #[.int .i64 0, str [], .int .i64 0, str [], .int .i64 0]) [] [] []) ?_
  refine Mv ?_
  have me28 := nt (nt (nt (nt hx23.size hx24.size) hx26.size) hx28.size) hx30.size
  have me29 := ((hx23.trans hx24).then' hx26 (by simp) hx23.size).then' hx28 (by simp) hx23.size
  have me30 := (me29.then' hx30 (by simp) hx23.size).then' hx (by simp) q5_1l
  have me31 := ((me30.trans hx56).trans hn57.ext).then' hp59.only (by simp) (nt (nt me28 hx.size) hx56.size)
  refine Lds [.int .i64 0, str [], .int .i64 0, str [], .int .i64 0] (hk4.ext me31) ?_
  rintro h36 hp63
  have hk64 : Blk h36 h1.size [.int .i64 0, str [], .int .i64 0, str [], .int .i64 0] := hp63.blk
  refine Av ?_
  refine Ln (Xt (Wt (Xr ?_)))
  refine X_retv2 rfl (RVa Tryz.underlying37 hk64) rfl ?_
  have hm := mres_not (ty := ty) (md := md) hf1 (fun e => b.elim (fun b => b.elim (fun b => b e.1) (fun b => b e.2.1)) (fun b => b e.2.2))
  have me32 := nt (nt (nt hn1.ext.size hn3.ext.size) hx23.size) hx24.size
  have me33 := nt (nt (nt (nt me32 hx26.size) hx28.size) hx30.size) hx.size
  have me34 := ((me19.trans hx56).trans hn57.ext).then' hp59.only (by simp) (nt me33 hx56.size)
  exact ⟨by rw [hm]; rfl, (me34.then' hp63.only (by simp) hn1.ext.size)⟩
 refine Wk (Xt (Wq (Wg ?_)))
 refine Mv ?_
 refine Ly (Y_nilCheck rfl) ?_
 refine Lf 0 ?_
 refine Lg Tryz.underlying37 (hbb.ext ((hx56.trans hn57.ext).then' hp59.only (by simp) hx56.size)) ?_
 have me35 := nt (nt (nt (nt hx23.size hx24.size) hx26.size) hx28.size) hx30.size
 have me36 := ((hx23.trans hx24).then' hx26 (by simp) hx23.size).then' hx28 (by simp) hx23.size
 have me37 := (me36.then' hx30 (by simp) hx23.size).then' hx (by simp) q5_1l
 have me38 := ((me37.trans hx56).trans hn57.ext).then' hp59.only (by simp) (nt (nt me35 hx.size) hx56.size)
 refine Lds [.int .i64 ((Lib.indexByte ([53, 48, 50, 49] : List UInt8) (ty).toNat.toUInt8)), str p, .int .i64 (md), str tg, .int .i64 (z)] (hk4.ext me38) ?_
 rintro h37 hp65
 have hk66 : Blk h37 h1.size [.int .i64 ((Lib.indexByte ([53, 48, 50, 49] : List UInt8) (ty).toNat.toUInt8)), str p, .int .i64 (md), str tg, .int .i64 (z)] := hp65.blk
 refine An ?_
 refine Wu _ (tk2 5 4) ?_
 refine Wt ?_
 refine X_retv2 rfl (RVa Tryz.underlying37 hk66) rfl ?_
 have hm := mres_yes (ty := ty) (md := md) hf1 ⟨Classical.not_not.1 (fun x => b (.inl (.inl x))), Classical.not_not.1 (fun x => b (.inl (.inr x))), Classical.not_not.1 (fun x => b (.inr x))⟩
 have me39 := nt (nt (nt hn1.ext.size hn3.ext.size) hx23.size) hx24.size
 have me40 := nt (nt (nt (nt me39 hx26.size) hx28.size) hx30.size) hx.size
 have me41 := ((me19.trans hx56).trans hn57.ext).then' hp59.only (by simp) (nt me40 hx56.size)
 exact ⟨by rw [hm]; rfl, (me41.then' hp65.only (by simp) hn1.ext.size)⟩
end Go.Xp
