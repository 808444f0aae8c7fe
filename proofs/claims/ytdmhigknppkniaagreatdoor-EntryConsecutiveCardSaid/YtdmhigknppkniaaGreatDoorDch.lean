/- Layer 10 (fit): Merge on any list. -/
import Derived.Test.YtdmhigknppkniaaGreatDoorMergeP
import Derived.Test.YtdmhigknppkniaaGreatDoorStm
import Derived.Test.YtdmhigknppkniaaGreatDoorUstH
import Derived.Test.YtdmhigknppkniaaGreatDoorParseP
import Derived.Test.YtdmhigknppkniaaGreatDoorPay
set_option linter.unusedSimpArgs false
set_option linter.unusedVariables false
set_option linter.unusedSectionVars false
namespace Go.Xp
open Go.Proofs

section
variable (h : Heap)
theorem fit_Merge (hK : GlbK h) (hN : GlbN h) (hE : GlbE h) (hT : GlbT h) (hS : GlbS h) (ty : Int) (nm : List UInt8) (pr : List UInt8) (lk : List UInt8) (md : Int) (sz : Int) (w : Value) (l : List Rec) (hl : Rows recS h w l)
    (hty : 0 ≤ ty ∧ ty ≤ 255) (hnm : pr.length + 1 + nm.length ≤ 140737488355328) (hlk : lk.length ≤ 140737488355328) (hsz : -9223372036854775808 ≤ sz ∧ sz ≤ 9223372036854775807) (hn : l.length ≤ 140737488355328) (hs : ∀ r ∈ l, r.key.length ≤ 140737488355328 ∧ r.val.length ≤ 140737488355328) :
    Cal Tryz.prog 25 #[.agg #[.int .u8 ty, str nm, str pr, str lk, .int .i64 md, .int .i64 sz], w] h (fun v h' => v = .tuple #[.agg #[.int .i64 (oI (mres ty nm pr lk md sz l) (mkind ty)), str (oP (mres ty nm pr lk md sz l)), .int .i64 (oI (mres ty nm pr lk md sz l) md), str (oT (mres ty nm pr lk md sz l)), .int .i64 (oZ (mres ty nm pr lk md sz l))], .int .i64 (oE (mres ty nm pr lk md sz l) l)] ∧ Ext h h') := by
  exact fit_MergeS h hK hN hE hT hS ty nm pr lk md sz w l hl hty hnm hlk hsz hn hs
end
end Go.Xp

/- Layer 12 (entry): what Decode computes: plain. -/
namespace Go.Xp

/-- An entry, an offset, an error; where the reader stands and its error. -/
structure Dc where
  k : Int
  p : List UInt8
  m : Int
  tg : List UInt8
  z : Int
  n : Int
  e : Int
  pos : Nat
  er : Int
def dz (n e : Int) (pos : Nat) (er : Int) : Dc := ⟨0, [], 0, [], 0, n, e, pos, er⟩
def dmr (b : List UInt8) (l : List Rec) := mres (udT b) (udN b) (udP b) (udL b) (udM b) (udS b) l
/-- The header b and the records l put together. -/
def dcm (start last : Int) (pos : Nat) (b : List UInt8) (l : List Rec) : Dc :=
  if ¬ oE (dmr b l) l = 0 then dz last (oE (dmr b l) l) pos 0 else ⟨oI (dmr b l) (mkind (udT b)), oP (dmr b l), oI (dmr b l) (udM b), oT (dmr b l), oZ (dmr b l), start, 0, pos, 0⟩
/-- An extended header of a size that may be. -/
def xhd (b : List UInt8) : Prop := (udT b = 120 ∧ udN b = [112, 97, 120] ∧ udP b = [] ∧ udL b = [] ∧ udM b = 0) ∧ 1 ≤ udS b ∧ udS b ≤ 262144
instance (b : List UInt8) : Decidable (xhd b) := by unfold xhd; infer_instance
def dk (b : List UInt8) : Nat := (nblk (udS b)).toNat
def dx (D : List UInt8) (p : Nat) (b : List UInt8) : List UInt8 := (D.drop (p + 512)).take (512 * dk b)
def dq (p : Nat) (b : List UInt8) : Nat := p + 512 + 512 * dk b
def dl (D : List UInt8) (p : Nat) (b : List UInt8) := pres ((dx D p b).take (udS b).toNat)
/-- The records of an extended header, read and parsed: (fault's offset, fault, reader). -/
def dcr (D : List UInt8) (f : Int) (p : Nat) (b : List UInt8) : Dc :=
  if ¬ xhd b then dz p 17 (p + 512) 0
  else if ¬ pE D f (p + 512) (dk b) = 0 then dz (pP D f (p + 512) (dk b)) (pE D f (p + 512) (dk b)) (pP D f (p + 512) (dk b)) (pR D f (p + 512) (dk b))
  else if 0 ≤ nzx ((dx D p b).drop (udS b).toNat) then dz ((p : Int) + 512 + udS b + nzx ((dx D p b).drop (udS b).toNat)) 10 (dq p b) 0
  else if ¬ (dl D p b).2.2 = 0 then dz ((p : Int) + 512 + (dl D p b).2.1) (dl D p b).2.2 (dq p b) 0
  else dz ((p : Int) + 512 + (dl D p b).2.1) 0 (dq p b) 0
def dcx (D : List UInt8) (f : Int) (p : Nat) (b : List UInt8) : Dc :=
  if ¬ (dcr D f p b).e = 0 then dcr D f p b
  else if ¬ nE D f (dq p b) 0 = 0 then dz (nP D f (dq p b) 0) (if nE D f (dq p b) 0 = 4 then 5 else nE D f (dq p b) 0) (nP D f (dq p b) 0) (nE D f (dq p b) 0)
  else if ¬ uderr (nB D (dq p b)) = 0 then dz (dq p b) (uderr (nB D (dq p b))) (dq p b + 512) 0
  else dcm p (dq p b) (dq p b + 512) (nB D (dq p b)) (dl D p b).1
def dcd (D : List UInt8) (f : Int) (p : Nat) (er : Int) : Dc :=
  if ¬ nE D f p er = 0 then dz (nP D f p er) (nE D f p er) (nP D f p er) (nE D f p er)
  else if ¬ (0 ≤ nzx (nB D p)) then dz p 18 (p + 512) 0
  else if ¬ uderr (nB D p) = 0 then dz p (uderr (nB D p)) (p + 512) 0
  else if udT (nB D p) = 120 then dcx D f p (nB D p)
  else dcm p p (p + 512) (nB D p) []
theorem perr3_zero {l : List Rec} {t : Rec × Int × Int} (h : perr3 l t = 0) : t.2.2 = 0 := by
  unfold perr3 at h
  split at h
  · rename_i q; exact absurd h q
  · rename_i q; exact Classical.not_not.1 q
/-- Where the records end or are at fault, and how long they are. -/
theorem ploop_at : ∀ (f : Nat) (l : List Rec) (i : Nat) (b : List UInt8), i ≤ b.length → (∀ r ∈ l, r.key.length ≤ b.length ∧ r.val.length ≤ b.length) →
    (0 ≤ (ploop f l i b).2.1 ∧ (ploop f l i b).2.1 ≤ b.length) ∧ ∀ r ∈ (ploop f l i b).1, r.key.length ≤ b.length ∧ r.val.length ≤ b.length
  | 0, l, i, b, hi, hl => ⟨⟨by simp [ploop], by simp [ploop]; exact hi⟩, hl⟩
  | f + 1, l, i, b, hi, hl => by
    unfold ploop
    split
    · rename_i c
      split
      · exact ⟨⟨by simp, by simp; omega⟩, fun r hr => absurd hr List.not_mem_nil⟩
      · rename_i e
        have e0 := perr3_zero (Classical.not_not.1 e)
        have hk := ptake_ok e0
        have hn := ptake_len (b.drop i)
        rw [List.length_drop] at hk hn
        refine ploop_at f _ _ b (by omega) (fun r hr => ?_)
        rcases List.mem_append.1 hr with q | q
        · exact hl r q
        · rw [List.mem_singleton.1 q]; omega
    · exact ⟨⟨by simp, by simp⟩, hl⟩
theorem pres_at (b : List UInt8) : (0 ≤ (pres b).2.1 ∧ (pres b).2.1 ≤ b.length) ∧ ∀ r ∈ (pres b).1, r.key.length ≤ b.length ∧ r.val.length ≤ b.length := by
  unfold pres
  split
  · exact ⟨⟨by simp, by simp⟩, fun r hr => absurd hr List.not_mem_nil⟩
  · exact ploop_at _ _ _ _ (Nat.zero_le _) (fun r hr => absurd hr List.not_mem_nil)
theorem ploop_len : ∀ (f : Nat) (l : List Rec) (i : Nat) (b : List UInt8), (ploop f l i b).1.length ≤ l.length + f
  | 0, l, i, b => by simp [ploop]
  | f + 1, l, i, b => by
    unfold ploop
    split
    · split
      · simp
      · refine nt (ploop_len f _ _ b) ?_
        rw [List.length_append, List.length_singleton]; omega
    · simp
theorem pres_len (b : List UInt8) : (pres b).1.length ≤ b.length + 1 := by
  unfold pres
  split
  · simp
  · exact nt (ploop_len _ _ _ _) (by simp)
theorem udT_rng (b : List UInt8) : 0 ≤ udT b ∧ udT b ≤ 255 := by
  unfold udT
  split
  · exact byt_lt b 156
  · decide
theorem ud_lens (b : List UInt8) : (udN b).length ≤ 512 ∧ (udP b).length ≤ 512 ∧ (udL b).length ≤ 512 := by
  have f1 := ufl_le (b := b) 0 100
  have f2 := ufl_le (b := b) 345 500
  have f3 := ufl_le (b := b) 157 257
  have p1 := pstr_le (ufl b 0 100)
  have p2 := pstr_le (ufl b 345 500)
  have p3 := pstr_le (ufl b 157 257)
  unfold udN udP udL udn udp udl
  refine ⟨?_, ?_, ?_⟩ <;> split <;> first | omega | simp
theorem udS_rng (b : List UInt8) : 0 ≤ udS b ∧ udS b ≤ 8589934591 := by
  by_cases h : uderr b = 0
  · have h2 := (udok_parts h).2.1
    obtain ⟨-, -, -, -, -, hs⟩ := ucheck_ok h2
    omega
  · have := (ud_bad rfl h).2.2.2.2.2
    omega
theorem dcr_ok {D : List UInt8} {f : Int} {p : Nat} {b : List UInt8} (h : (dcr D f p b).e = 0) : xhd b ∧ (dcr D f p b).pos = dq p b ∧ (dcr D f p b).er = 0 ∧ (dl D p b).2.2 = 0 ∧ pE D f (p + 512) (dk b) = 0 ∧ ¬ 0 ≤ nzx ((dx D p b).drop (udS b).toNat) := by
  by_cases c1 : xhd b
  · by_cases c2 : pE D f (p + 512) (dk b) = 0
    · by_cases c3 : 0 ≤ nzx ((dx D p b).drop (udS b).toNat)
      · unfold dcr at h; rw [if_neg (fun q => q c1), if_neg (fun q => q c2), if_pos c3] at h; cases h
      · by_cases c4 : (dl D p b).2.2 = 0
        · unfold dcr
          rw [if_neg (fun q => q c1), if_neg (fun q => q c2), if_neg c3, if_neg (fun q => q c4)]
          exact ⟨c1, rfl, rfl, c4, c2, c3⟩
        · unfold dcr at h; rw [if_neg (fun q => q c1), if_neg (fun q => q c2), if_neg c3, if_pos c4] at h; exact absurd h c4
    · unfold dcr at h; rw [if_neg (fun q => q c1), if_pos c2] at h; exact absurd h c2
  · unfold dcr at h; rw [if_pos c1] at h; cases h
theorem dl_bnd {D : List UInt8} {p : Nat} {b : List UInt8} (h : xhd b) : (dl D p b).1.length ≤ 262145 ∧ ∀ r ∈ (dl D p b).1, r.key.length ≤ 262144 ∧ r.val.length ≤ 262144 := by
  have h1 := pres_len ((dx D p b).take (udS b).toNat)
  have h2 := (pres_at ((dx D p b).take (udS b).toNat)).2
  have h3 : ((dx D p b).take (udS b).toNat).length ≤ 262144 := by rw [List.length_take]; have := h.2; omega
  exact ⟨by unfold dl; omega, fun r hr => by have := h2 r hr; omega⟩
section
variable {D : List UInt8} {f : Int} {p : Nat} {er : Int} {b : List UInt8}
theorem dcd_n (e : ¬ nE D f p er = 0) : dcd D f p er = dz (nP D f p er) (nE D f p er) (nP D f p er) (nE D f p er) := if_pos e
theorem dcd_z (e : nE D f p er = 0) (z : ¬ (0 ≤ nzx (nB D p))) : dcd D f p er = dz p 18 (p + 512) 0 := by unfold dcd; rw [if_neg (fun q => q e), if_pos z]
theorem dcd_u (e : nE D f p er = 0) (z : ¬ ¬ (0 ≤ nzx (nB D p))) (u : ¬ uderr (nB D p) = 0) : dcd D f p er = dz p (uderr (nB D p)) (p + 512) 0 := by unfold dcd; rw [if_neg (fun q => q e), if_neg z, if_pos u]
theorem dcd_x (e : nE D f p er = 0) (z : ¬ ¬ (0 ≤ nzx (nB D p))) (u : ¬ ¬ uderr (nB D p) = 0) (t : udT (nB D p) = 120) : dcd D f p er = dcx D f p (nB D p) := by unfold dcd; rw [if_neg (fun q => q e), if_neg z, if_neg u, if_pos t]
theorem dcd_m (e : nE D f p er = 0) (z : ¬ ¬ (0 ≤ nzx (nB D p))) (u : ¬ ¬ uderr (nB D p) = 0) (t : ¬ udT (nB D p) = 120) : dcd D f p er = dcm p p (p + 512) (nB D p) [] := by unfold dcd; rw [if_neg (fun q => q e), if_neg z, if_neg u, if_neg t]
theorem dcx_r (e : ¬ (dcr D f p b).e = 0) : dcx D f p b = dcr D f p b := if_pos e
theorem dcx_n (e : (dcr D f p b).e = 0) (g : ¬ nE D f (dq p b) 0 = 0) : dcx D f p b = dz (nP D f (dq p b) 0) (if nE D f (dq p b) 0 = 4 then 5 else nE D f (dq p b) 0) (nP D f (dq p b) 0) (nE D f (dq p b) 0) := by unfold dcx; rw [if_neg (fun q => q e), if_pos g]
theorem dcx_u (e : (dcr D f p b).e = 0) (g : nE D f (dq p b) 0 = 0) (u : ¬ uderr (nB D (dq p b)) = 0) : dcx D f p b = dz (dq p b) (uderr (nB D (dq p b))) (dq p b + 512) 0 := by unfold dcx; rw [if_neg (fun q => q e), if_neg (fun q => q g), if_pos u]
theorem dcx_m (e : (dcr D f p b).e = 0) (g : nE D f (dq p b) 0 = 0) (u : ¬ ¬ uderr (nB D (dq p b)) = 0) : dcx D f p b = dcm p (dq p b) (dq p b + 512) (nB D (dq p b)) (dl D p b).1 := by unfold dcx; rw [if_neg (fun q => q e), if_neg (fun q => q g), if_neg u]
theorem dcm_n {start last : Int} {pos : Nat} {l : List Rec} (e : ¬ oE (dmr b l) l = 0) : dcm start last pos b l = dz last (oE (dmr b l) l) pos 0 := if_pos e
theorem dcm_y {start last : Int} {pos : Nat} {l : List Rec} (e : ¬ ¬ oE (dmr b l) l = 0) : dcm start last pos b l = ⟨oI (dmr b l) (mkind (udT b)), oP (dmr b l), oI (dmr b l) (udM b), oT (dmr b l), oZ (dmr b l), start, 0, pos, 0⟩ := if_neg e
theorem dcr_dz : ∃ n e pos er, dcr D f p b = dz n e pos er := by
  unfold dcr
  split
  · exact ⟨_, _, _, _, rfl⟩
  · split
    · exact ⟨_, _, _, _, rfl⟩
    · split
      · exact ⟨_, _, _, _, rfl⟩
      · split <;> exact ⟨_, _, _, _, rfl⟩
theorem uderr_ne4 : ¬ uderr b = 4 := by
  intro h
  unfold uderr at h
  split at h
  · rename_i c
    unfold sver at h
    split at h
    · split at h <;> cases h
    · cases h
  · split at h
    · cases h
    · split at h <;> cases h
end
def dout (X : Dc) : Value := .tuple #[.agg #[.int .i64 X.k, str X.p, .int .i64 X.m, str X.tg, .int .i64 X.z], .int .i64 X.n, .int .i64 X.e]
theorem dout_dcr {D : List UInt8} {f : Int} {p : Nat} {b : List UInt8} : dout (dcr D f p b) = .tuple #[.agg #[.int .i64 0, str [], .int .i64 0, str [], .int .i64 0], .int .i64 (dcr D f p b).n, .int .i64 (dcr D f p b).e] := by
  obtain ⟨n, e, pos, er, h⟩ := dcr_dz (D := D) (f := f) (p := p) (b := b)
  rw [h]; rfl
end Go.Xp

/- Layer 12 (entry): the decoder's second header. -/
set_option maxRecDepth 100000
namespace Go.Xp
open Go.Proofs

/-- A write into a list of blocks and one more: first the list, then the one. -/
theorem Only.halve {l : List Nat} {d : Nat} {h h' : Heap} (y : Only (l ++ [d]) h h') (hd : d < h.size) : ∃ hm, Only l h hm ∧ Only [d] hm h' := by
  refine ⟨h'.setIfInBounds d h[d], ⟨by rw [Array.size_setIfInBounds]; exact y.size, fun k hk hn => ?_⟩, ⟨by rw [Array.size_setIfInBounds]; exact Nat.le_refl _, fun k hk hn => ?_⟩⟩
  · by_cases c : d = k
    · subst c
      rw [Array.getElem?_setIfInBounds_self_of_lt (ntl hd y.size), Array.getElem?_eq_getElem hd]
    · rw [Array.getElem?_setIfInBounds_ne c]
      exact y.same k hk (fun q => by rcases List.mem_append.1 q with q | q; exact hn q; exact c (List.mem_singleton.1 q).symm)
  · have c : d ≠ k := fun e => hn (by rw [e]; simp)
    rw [Array.getElem?_setIfInBounds_ne c]
theorem RowsO.onlyL {β : Type} {S : Sch β} {h h' : Heap} {base : Nat} {bs : List Nat} {v : Value} {l : List β} (x : RowsO S h base v l) (ns : NoSl S) (y : Only bs h h') (hB : ∀ b ∈ bs, b < base) : RowsO S h' base v l :=
  ⟨Own.only x.1 y (fun b hb hm => Nat.lt_irrefl _ (ntl (hB b hm) (Own.lt x.1 b hb).1)), fun a ha => S.only (x.2 a ha) y (fun u hu b hb => by rw [ns a u hu] at hb; cases hb)⟩
theorem dec_header (h : Heap) (d : Nat) (lo hi r s : Nat) (D : List UInt8) (f : Int) (p : Nat) (uR : RdA lo hi h r s D f p 0) (n : Int) (hd : Blk h d [.pointer (some ⟨r, 0, none⟩), .int .i64 n]) (hdh : hi ≤ d) (hl : D.length ≤ 100000000000) (hf : -9223372036854775808 ≤ f ∧ f ≤ 9223372036854775807) (hR0 : Heap) (xR0 : Ext hR0 h) (hlo : hR0.size ≤ lo) (hG : Glb hR0) : Cal Tryz.prog 24 #[.pointer (some ⟨d, 0, none⟩)] h (fun v h' => (¬ nE D f p 0 = 0 ∧ v = .tuple #[.agg #[.int .u8 0, str [], str [], str [], .int .i64 0, .int .i64 0], .int .i64 (nE D f p 0)] ∧ Only [r, s, d] h h' ∧ Blk h' d [.pointer (some ⟨r, 0, none⟩), .int .i64 (nP D f p 0 : Int)] ∧ RdA lo hi h' r s D f (nP D f p 0) (nE D f p 0)) ∨ (nE D f p 0 = 0 ∧ v = .tuple #[.agg #[.int .u8 (udT (nB D p)), str (udN (nB D p)), str (udP (nB D p)), str (udL (nB D p)), .int .i64 (udM (nB D p)), .int .i64 (udS (nB D p))], .int .i64 (uderr (nB D p))] ∧ Only [r, s, d] h h' ∧ Blk h' d [.pointer (some ⟨r, 0, none⟩), .int .i64 (p : Int)] ∧ RdA lo hi h' r s D f (p + 512) 0)) := by
 have hdn := uR.no hdh
 have ug : ∀ c ∈ [r, s], hR0.size ≤ c := fun c hc => nt hlo (uR.ge2 c hc)
 have hRd : hR0.size ≤ d := by have := uR.ge2 r (by simp); have := uR.rg; omega
 have hp := uR.src.le
 refine Ce Tryz.func24 fun σ => ?_
 refine Wr ?_
 refine L_mks (M_alloc (u := .agg #[.int .u8 0, str [], str [], str [], .int .i64 0, .int .i64 0]) (by kernel_rfl)) rfl rfl rfl ?_
 rintro _ h1 ⟨rfl, hn1⟩
 have hk2 : Blk h1 h.size [.int .u8 0, str [], str [], str [], .int .i64 0, .int .i64 0] := hn1.blk
 refine Av ?_
 refine Ln (Xt (Wq (Wg ?_)))
 refine Mv ?_
 refine Ly (Y_nilCheck rfl) ?_
 refine Lf 0 ?_
 refine Lb Tryz.underlying27 (hd.ext hn1.ext) ?_
 refine Lc (rd_Off (uR.ext hn1.ext)) ?_
 rintro _ h2 ⟨rfl, ux1⟩
 refine Av ?_
 refine Ln (Xt (Wq ?_))
 by_cases e0 : nE D f p 0 = 0
 ·refine Wg ?_
  refine Mv ?_
  refine Ly (Y_nilCheck rfl) ?_
  refine Lf 0 ?_
  refine Lb Tryz.underlying27 (hd.ext (hn1.ext.trans ux1)) ?_
  refine Lc (rd_NextO (uR.ext (hn1.ext.trans ux1)) e0 hl hf) ?_
  rintro _ h3 ⟨uvx, rfl, uLx, uy, uRx⟩
  refine Mx ?_
  refine A2 ?_
  refine Nx ?_
  refine Wu _ (tk6 6 5 4 3 2 0) ?_
  refine Wq (Wq (Wg ?_))
  refine Mv ?_
  refine Ly Yne ?_
  refine Nx ?_
  refine W_known false rfl (by first | rfl | decide | simp) ?_
  refine Ws ?_
  have hlnB : (nB D p).length ≤ 512 := by unfold nB; rw [List.length_take]; omega
  refine Wm ?_
  refine Mv ?_
  refine Ly (Y_nilCheck rfl) ?_
  refine Lf 1 ?_
  have hc3 := (((hd.ext hn1.ext).ext ux1).only uy hdn)
  refine Lds [.int .i64 ((p : Int))] hc3 ?_
  rintro h4 hp4
  have hk5 : Blk h4 d [.pointer (some ⟨r, 0, none⟩), .int .i64 ((p : Int))] := hp4.blk
  refine Nx ?_
  refine Wu _ (tk3 5 3 2) ?_
  refine Wm ?_
  have me1 := ((xR0.trans hn1.ext).trans ux1).then' uy ug (Nat.le_refl _)
  refine Lc (ustar_Decode _ (hG.ext (me1.then' hp4.only (by simp) hRd)) uvx (nB D p) ((uLx.only1 hp4.only (ntl hd.lt (nt hn1.ext.size ux1.size))).bytes) (by first | omega | rfl | (simp <;> omega))) ?_
  rintro _ h5 ⟨rfl, hx6⟩
  refine Lxx ?_
  have hc7 := ((((hk2.ext ux1).only uy (fun hb_ => Nat.lt_irrefl _ (ntl (uR.lt2 _ hb_) (Nat.le_refl _)))).only hp4.only (ni_gt (ntl hd.lt (Nat.le_refl _)))).ext hx6)
  refine Lds [.int .u8 (udT (nB D p)), str (udN (nB D p)), str (udP (nB D p)), str (udL (nB D p)), .int .i64 (udM (nB D p)), .int .i64 (udS (nB D p))] hc7 ?_
  rintro h6 hp8
  have hk9 : Blk h6 h.size [.int .u8 (udT (nB D p)), str (udN (nB D p)), str (udP (nB D p)), str (udL (nB D p)), .int .i64 (udM (nB D p)), .int .i64 (udS (nB D p))] := hp8.blk
  refine Av ?_
  refine Ln (Xt (Wt ?_))
  refine X_retv2 rfl (RVa Tryz.underlying71 hk9) rfl ?_
  have hc10 := ((hk5.ext hx6).only hp8.only (ni_lt (ntl hd.lt (Nat.le_refl _))))
  exact .inr ⟨e0, rfl, (Only.trans (Only.trans (Only.trans (Only.trans (Only.trans (Only.trans (Only.refl _ _) hn1.ext (fun _ hb_ => by cases hb_)) ux1 (fun _ hb_ => by cases hb_)) uy (fun b_ hb_ => .inl (by simp only [List.mem_cons, List.not_mem_nil, or_false] at hb_ ⊢; omega))) hp4.only (fun b_ hb_ => .inl (by rw [List.mem_singleton.1 hb_]; simp))) hx6 (fun _ hb_ => by cases hb_)) hp8.only (fun b_ hb_ => .inr (by rw [List.mem_singleton.1 hb_]; exact (Nat.le_refl _)))), hc10, (((uRx.out hp4.only (fun c_ hc_ => .inr (by rw [List.mem_singleton.1 hc_]; exact hdh))).ext hx6).out hp8.only (fun c_ hc_ => .inr (by rw [List.mem_singleton.1 hc_]; exact (nt uR.hle (Nat.le_refl _)))))⟩
 refine Wg ?_
 refine Mv ?_
 refine Ly (Y_nilCheck rfl) ?_
 refine Lf 0 ?_
 refine Lb Tryz.underlying27 (hd.ext (hn1.ext.trans ux1)) ?_
 refine Lc (rd_NextN (uR.ext (hn1.ext.trans ux1)) e0 hl hf) ?_
 rintro _ h7 ⟨rfl, uy, uRx⟩
 refine Mx ?_
 refine A2 ?_
 refine Nx ?_
 refine Wu _ (tk6 6 5 4 3 2 0) ?_
 refine Wq (Wq (Wg ?_))
 refine Mv ?_
 refine Ly Yne ?_
 refine Nx ?_
 refine W_known true rfl (by exact decide_eq_true (by exact e0)) ?_
 refine Wm ?_
 refine Mv ?_
 refine Ly (Y_nilCheck rfl) ?_
 refine Lf 0 ?_
 have hc11 := (((hd.ext hn1.ext).ext ux1).only uy hdn)
 refine Lb Tryz.underlying27 hc11 ?_
 refine Lc (rd_Off uRx) ?_
 rintro _ h8 ⟨rfl, ux2⟩
 refine Ly (Y_nilCheck rfl) ?_
 refine Lf 1 ?_
 refine Lds [.int .i64 ((nP D f p 0 : Int))] (hc11.ext ux2) ?_
 rintro h9 hp12
 have hk13 : Blk h9 d [.pointer (some ⟨r, 0, none⟩), .int .i64 ((nP D f p 0 : Int))] := hp12.blk
 refine Nx ?_
 refine Wu _ (tk6 6 5 4 3 2 0) ?_
 refine Wr ?_
 refine Ly (Yb (.agg #[.int .u8 0, str [], str [], str [], .int .i64 0, .int .i64 0]) [] [] []) ?_
 refine Mv ?_
 have hc14 := ((((hk2.ext ux1).only uy (fun hb_ => Nat.lt_irrefl _ (ntl (uR.lt2 _ hb_) (Nat.le_refl _)))).ext ux2).only hp12.only (ni_gt (ntl hd.lt (Nat.le_refl _))))
 refine Lds [.int .u8 0, str [], str [], str [], .int .i64 0, .int .i64 0] hc14 ?_
 rintro h10 hp15
 have hk16 : Blk h10 h.size [.int .u8 0, str [], str [], str [], .int .i64 0, .int .i64 0] := hp15.blk
 refine Av ?_
 refine Ln (Xt (Wt (Xr ?_)))
 refine X_retv2 rfl (RVa Tryz.underlying71 hk16) rfl ?_
 have hc17 := (hk13.only hp15.only (ni_lt (ntl hd.lt (Nat.le_refl _))))
 exact .inl ⟨e0, rfl, (Only.trans (Only.trans (Only.trans (Only.trans (Only.trans (Only.trans (Only.refl _ _) hn1.ext (fun _ hb_ => by cases hb_)) ux1 (fun _ hb_ => by cases hb_)) uy (fun b_ hb_ => .inl (by simp only [List.mem_cons, List.not_mem_nil, or_false] at hb_ ⊢; omega))) ux2 (fun _ hb_ => by cases hb_)) hp12.only (fun b_ hb_ => .inl (by rw [List.mem_singleton.1 hb_]; simp))) hp15.only (fun b_ hb_ => .inr (by rw [List.mem_singleton.1 hb_]; exact (Nat.le_refl _)))), hc17, (((uRx.ext ux2).out hp12.only (fun c_ hc_ => .inr (by rw [List.mem_singleton.1 hc_]; exact hdh))).out hp15.only (fun c_ hc_ => .inr (by rw [List.mem_singleton.1 hc_]; exact (nt uR.hle (Nat.le_refl _)))))⟩
end Go.Xp
