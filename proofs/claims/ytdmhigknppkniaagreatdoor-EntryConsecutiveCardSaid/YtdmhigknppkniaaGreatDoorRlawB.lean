/- Layer 12 (entry): Decode inverts Encode, no proper prefix is accepted, and what is accepted is an encoding (plain). -/
import Derived.Test.YtdmhigknppkniaaGreatDoorRt
import Derived.Test.YtdmhigknppkniaaGreatDoorDch
import Derived.Test.YtdmhigknppkniaaGreatDoorMergeL
import Derived.Test.YtdmhigknppkniaaGreatDoorEncL
import Derived.Test.YtdmhigknppkniaaGreatDoorOpen
import Derived.Test.YtdmhigknppkniaaGreatDoorNum
import Derived.Lib.LaidTab
import Derived.LaidLaws
import Derived.Test.YtdmhigknppkniaaGreatDoorNew
import Derived.Test.YtdmhigknppkniaaGreatDoorDco
import Derived.Test.YtdmhigknppkniaaGreatDoorStm
set_option linter.unusedSimpArgs false
set_option linter.unusedVariables false
set_option linter.unusedSectionVars false
namespace Go.Xp
open Go.Proofs

theorem stp_all {D : List UInt8} {P : Nat} : stp D (-1) P = D.length := by unfold stp; rw [if_neg (by omega)]
theorem len_of {D E B : List UInt8} {P : Nat} (h : D.drop P = E ++ B) (he : 1 ≤ E.length) : P + E.length + B.length = D.length := by
  have := congrArg List.length h
  simp only [List.length_drop, List.length_append] at this
  omega
theorem drop_of {D E B : List UInt8} {P n : Nat} (h : D.drop P = E ++ B) (hn : E.length = n) : D.drop (P + n) = B := by
  rw [← List.drop_drop, h, ← hn, List.drop_left]
theorem nzx_some : ∀ {l : List UInt8} {m : Nat}, m < l.length → ¬ byt l m = 0 → 0 ≤ nzx l
  | [], m, h, _ => by simp at h
  | a :: l, 0, _, h => by
    unfold nzx
    have : ¬ a = 0 := fun e => h (by rw [e]; rfl)
    rw [if_pos this]; exact Int.le_refl 0
  | a :: l, m + 1, h, hb => by
    have ih := nzx_some (l := l) (m := m) (by simpa using h) (by rwa [byt_succ] at hb)
    unfold nzx
    split
    · exact Int.le_refl 0
    · split <;> omega
theorem nzx_rep : ∀ n : Nat, ¬ 0 ≤ nzx (List.replicate n 0)
  | 0 => by decide
  | n + 1 => by
    have ih := nzx_rep n
    rw [List.replicate_succ]
    unfold nzx
    rw [if_neg (by simp), if_pos (by omega)]
    decide
theorem uknown_ne {t : Int} (h : uknown t = true) : ¬ t = 0 := by rintro rfl; revert h; decide
theorem hdr_nz {t : Int} {name pre link : List UInt8} {mode size : Int} (ht : 0 ≤ t ∧ t ≤ 255) (h : ucheck t name pre link mode size = 0) : 0 ≤ nzx (uenc t name pre link mode size) :=
  nzx_some (m := 156) (by rw [uenc_len h]; decide) (by rw [uf_type ht h]; exact uknown_ne (ucheck_ok h).1)
/-- The last header of an entry, and the header ahead of its records. -/
def lhd (k : Int) (p : List UInt8) (m : Int) (tg : List UInt8) (z : Int) : List UInt8 :=
  uenc (fT (fcheck k p m tg z) k) (fN (fcheck k p m tg z) p) (fP (fcheck k p m tg z) p) (fL (fcheck k p m tg z) tg) (fM (fcheck k p m tg z) m) (fZ (fcheck k p m tg z) z)
def xhead (n : Nat) : List UInt8 := uenc 120 [112, 97, 120] [] [] 0 (n : Int)
theorem xhead_len {n : Nat} (hn : n ≤ 196800) : (xhead n).length = 512 := uenc_len (ext_ok hn)
theorem xhead_ud {n : Nat} (hn : n ≤ 196800) : uderr (xhead n) = 0 ∧ udT (xhead n) = 120 ∧ udN (xhead n) = [112, 97, 120] ∧ udP (xhead n) = [] ∧ udL (xhead n) = [] ∧ udM (xhead n) = 0 ∧ udS (xhead n) = (n : Int) := dec_enc (by decide) (ext_ok hn)
theorem dk_pad {n : Nat} (hn : 1 ≤ n ∧ n ≤ 196800) : 512 * dk (xhead n) = n + padn n := by
  have h1 := (xhead_ud hn.2).2.2.2.2.2.2
  unfold dk nblk padn
  rw [h1, if_neg (by omega)]
  omega
section
variable {k m z : Int} {p tg : List UInt8}
theorem lhd_len (e : fcheck k p m tg z = 0) : (lhd k p m tg z).length = 512 := uenc_len (ucheck_plan e)
theorem lhd_nz (e : fcheck k p m tg z = 0) : 0 ≤ nzx (lhd k p m tg z) := hdr_nz (fT_range _ _) (ucheck_plan e)
theorem lhd_ud (e : fcheck k p m tg z = 0) : uderr (lhd k p m tg z) = 0 ∧ ¬ udT (lhd k p m tg z) = 120 := by
  have h := dec_enc (fT_range (fcheck k p m tg z) k) (ucheck_plan e)
  refine ⟨h.1, fun q => ?_⟩
  have h1 : udT (lhd k p m tg z) = fT (fcheck k p m tg z) k := h.2.1
  rw [h1, fT, if_pos e] at q
  obtain ⟨i, rfl⟩ := Int.eq_ofNat_of_zero_le (fcheck_kind e).1
  have hi : i < 4 := by have := (fcheck_kind e).2; omega
  have key : ∀ i : Fin 4, ¬ ftyp ((i.val : Nat) : Int) = 120 := by decide
  exact key ⟨i, hi⟩ q
theorem dcm_plan {start last : Int} {pos : Nat} (e : fcheck k p m tg z = 0) : dcm start last pos (lhd k p m tg z) (fR (fcheck k p m tg z) p tg z) = ⟨k, p, m, tg, z, start, 0, pos, 0⟩ := by
  obtain ⟨-, h1, h2, h3, h4, h5, h6⟩ := dec_enc (fT_range (fcheck k p m tg z) k) (ucheck_plan e)
  obtain ⟨g1, g2⟩ := mres_plan e
  have hd : dmr (lhd k p m tg z) (fR (fcheck k p m tg z) p tg z) = some (p, tg, z) := by
    unfold dmr lhd; rw [h1, h2, h3, h4, h5, h6]; exact g1
  unfold dcm
  rw [hd, if_neg (by simp [oE])]
  have e1 : mkind (udT (lhd k p m tg z)) = k := by unfold lhd; rw [h1]; exact g2
  have e2 : udM (lhd k p m tg z) = m := by unfold lhd; rw [h5, fM, if_pos e]
  show Dc.mk (mkind (udT (lhd k p m tg z))) p (udM (lhd k p m tg z)) tg z start 0 pos 0 = _
  rw [e1, e2]
theorem eenc_one (e : fcheck k p m tg z = 0) (hR : fR (fcheck k p m tg z) p tg z = []) : eenc k p m tg z = lhd k p m tg z := by
  unfold eenc epre lhd; rw [if_pos e, if_pos hR, List.nil_append]
theorem eenc_two (e : fcheck k p m tg z = 0) (hR : ¬ fR (fcheck k p m tg z) p tg z = []) : eenc k p m tg z = xhead (rfmt (fR (fcheck k p m tg z) p tg z)).length ++ (rfmt (fR (fcheck k p m tg z) p tg z) ++ (List.replicate (padn (rfmt (fR (fcheck k p m tg z) p tg z)).length) 0 ++ lhd k p m tg z)) := by
  unfold eenc epre lhd xhead; rw [if_pos e, if_neg hR]; simp only [List.append_assoc]
theorem nE_at {D E B : List UInt8} {P : Nat} (hD : D.drop P = E ++ B) (hE : E.length = 512) : nE D (-1) P 0 = 0 ∧ nB D P = E := by
  have h1 := len_of hD (by omega)
  exact ⟨(nE_ok (by rw [stp_all]; omega)).1, by unfold nB; rw [hD]; exact List.take_left' hE⟩
/-- An extended header and its records, read. -/
theorem dcr_at {D B : List UInt8} {P : Nat} {l : List Rec} (hl : rlerr none l = 0) (hn : 1 ≤ (rfmt l).length ∧ (rfmt l).length ≤ 196800) (hD : D.drop P = xhead (rfmt l).length ++ (rfmt l ++ (List.replicate (padn (rfmt l).length) 0 ++ B))) :
    (dcr D (-1) P (xhead (rfmt l).length)).e = 0 ∧ dq P (xhead (rfmt l).length) = P + 512 + ((rfmt l).length + padn (rfmt l).length) ∧ (dl D P (xhead (rfmt l).length)).1 = l := by
  have hx := xhead_len hn.2
  obtain ⟨u0, u1, u2, u3, u4, u5, u6⟩ := xhead_ud hn.2
  have hk := dk_pad hn
  have h1 := len_of hD (by omega)
  have hd2 := drop_of hD hx
  have hdx : dx D P (xhead (rfmt l).length) = rfmt l ++ List.replicate (padn (rfmt l).length) 0 := by
    unfold dx; rw [hd2, hk, ← List.append_assoc]; exact List.take_left' (by simp)
  simp only [List.length_append, List.length_replicate] at h1
  have hpe := pE_ok (D := D) (f := -1) (p := P + 512) (k := dk (xhead (rfmt l).length)) (by rw [stp_all]; omega)
  have htk : (dx D P (xhead (rfmt l).length)).take (udS (xhead (rfmt l).length)).toNat = rfmt l := by
    rw [hdx, u6]; exact List.take_left' rfl
  have hdr : (dx D P (xhead (rfmt l).length)).drop (udS (xhead (rfmt l).length)).toNat = List.replicate (padn (rfmt l).length) 0 := by
    rw [hdx, u6]; exact List.drop_left' rfl
  have hdl : dl D P (xhead (rfmt l).length) = (l, ((rfmt l).length : Int), 0) := by
    unfold dl; rw [htk]; exact parse_fmt hl (by omega)
  have hxh : xhd (xhead (rfmt l).length) := ⟨⟨u1, u2, u3, u4, u5⟩, by rw [u6]; omega, by rw [u6]; omega⟩
  refine ⟨?_, by unfold dq; rw [hk], by rw [hdl]⟩
  unfold dcr
  rw [if_neg (fun q => q hxh), if_neg (fun q => q hpe.1), hdr, if_neg (nzx_rep _), hdl, if_neg (by simp)]
  rfl
/-- Decode inverts Encode. -/
theorem dcd_eenc (e : fcheck k p m tg z = 0) {D B : List UInt8} {P : Nat} (hD : D.drop P = eenc k p m tg z ++ B) : dcd D (-1) P 0 = ⟨k, p, m, tg, z, P, 0, P + (eenc k p m tg z).length, 0⟩ := by
  by_cases hR : fR (fcheck k p m tg z) p tg z = []
  · rw [eenc_one e hR] at hD ⊢
    obtain ⟨n1, n2⟩ := nE_at hD (lhd_len e)
    have hu := lhd_ud e
    have := dcm_plan (start := P) (last := P) (pos := P + 512) e
    rw [hR] at this
    rw [dcd_m n1 (by rw [n2]; exact fun q => q (lhd_nz e)) (by rw [n2]; exact fun q => q hu.1) (by rw [n2]; exact hu.2), n2, this, lhd_len e]
  · have hn : 1 ≤ (rfmt (fR (fcheck k p m tg z) p tg z)).length ∧ (rfmt (fR (fcheck k p m tg z) p tg z)).length ≤ 196800 := ⟨rfmt_ge e hR, rfmt_le e⟩
    have hlen : (eenc k p m tg z).length = 512 + ((rfmt (fR (fcheck k p m tg z) p tg z)).length + padn (rfmt (fR (fcheck k p m tg z) p tg z)).length) + 512 := by rw [eenc_len e, if_neg hR]
    have hrl := rlerr_plan e
    have hx := xhead_len hn.2
    have hxu := xhead_ud hn.2
    rw [hlen]
    rw [eenc_two e hR] at hD
    simp only [List.append_assoc] at hD
    obtain ⟨n1, n2⟩ := nE_at hD hx
    obtain ⟨r1, r2, r3⟩ := dcr_at hrl hn hD
    have hd3 : D.drop (P + 512 + ((rfmt (fR (fcheck k p m tg z) p tg z)).length + padn (rfmt (fR (fcheck k p m tg z) p tg z)).length)) = lhd k p m tg z ++ B := by
      refine drop_of (E := rfmt (fR (fcheck k p m tg z) p tg z) ++ List.replicate (padn (rfmt (fR (fcheck k p m tg z) p tg z)).length) 0) ?_ (by simp)
      rw [drop_of hD hx]; simp only [List.append_assoc]
    rw [← r2] at hd3
    obtain ⟨m1, m2⟩ := nE_at hd3 (lhd_len e)
    have hu := lhd_ud e
    rw [dcd_x n1 (by rw [n2]; exact fun q => q (hdr_nz (by decide) (ext_ok hn.2))) (by rw [n2]; exact fun q => q hxu.1) (by rw [n2]; exact hxu.2.1), n2, dcx_m r1 m1 (by rw [m2]; exact fun q => q hu.1), m2, r3, dcm_plan e, r2]
    simp only [Nat.add_assoc]
end
/-! ### What is accepted is an encoding -/
end Go.Xp

/- What a row's inputs and variables read as: tables, errors, slices of structs. -/
namespace Go.Xp
open Go.WideShapes Go.RowKit
section
variable {H : Type} {enc : TypeId × Value → H} {P : Program} {w : World} {base : Nat} {sp : Nat → Bool} {held : Bool} {R f : Nat} {u : Value} {l : DataW H}
theorem tab_of_laid {fuel g n : Nat} {name : String} {t e : TypeId} {k : IntKind} {zs : List Int} {d : DataW H} {p : List MemPlace} {cs : Array Value} (hg : P.globalNamed name = some g) (ht : P.underlying t = some (.array n e)) (he : P.underlying e = some (.int k)) (hce : P.cellsOf e = 1) (hct : P.cellsOf t = n)
    (hv : w.var? P name = some cs) (hd : DataW.trod enc P w base sp held fuel t cs.toList = some (d, p)) (hdt : d = Lib.tabData k zs) : TabH w.heap g (zs.map fun z => Value.int k z).toArray := by
  subst hdt
  have h1 := Lib.cells_of_tab ht he hce hct hd
  unfold World.var? at hv
  rw [hg] at hv
  simp only [Option.bind_some] at hv
  split at hv
  · rename_i cs' T z hh
    simp only [Option.some.injEq] at hv
    subst hv
    exact ⟨T, z, by rw [hh, ← h1]⟩
  · cases hv
theorem ifc_of_laid {fuel g : Nat} {name nm : String} {t : TypeId} {ms : Array (String × TypeId)} {d : DataW H} {p : List MemPlace} {cs : Array Value} (hg : P.globalNamed name = some g) (ht : P.underlying t = some (.interface ms))
    (hv : w.var? P name = some cs) (hd : DataW.trod enc P w base sp false fuel t cs.toList = some (.iface nm d, p)) : g < w.heap.size ∧ IfcH w.heap g := by
  obtain ⟨_, te, pe, h1, _⟩ := iface_of_trod ht hd
  unfold World.var? at hv
  rw [hg] at hv
  simp only [Option.bind_some] at hv
  split at hv
  · rename_i cs' T z hh
    simp only [Option.some.injEq] at hv
    subst hv
    refine ⟨(Array.getElem?_eq_some_iff.1 hh).1, te, pe, ?_⟩
    unfold cellAt
    rw [hh]
    show cs'[0]? = _
    rw [← Array.getElem?_toList, h1]; rfl
  · cases hv
/-- A slice of data of one kind. -/
theorem rd_sch {β : Type} {S : Sch β} {es : List CSh} (hz : S.z = es.length) (good : β → Prop) (hes : 0 < es.length) (h : CRead w R (f + 1) (.sl es) u l)
    (one : ∀ r : List Value, r.length = es.length → (∀ (j : Nat) (c : CSh), es[j]? = some c → ∃ (u : Value) (l : DataW H), r[j]? = some u ∧ CRead w R f c u l) → ∃ x : β, r = S.cells x ∧ S.ok w.heap x ∧ good x) :
    ∃ b : List β, Rows S w.heap u b ∧ b.length ≤ R ∧ ∀ x ∈ b, good x := by
  obtain ⟨rows, ds, h1, h2, _, _, h3⟩ := rd_rows h hes
  have key : ∀ rs : List (List Value), (∀ r ∈ rs, ∃ x : β, r = S.cells x ∧ S.ok w.heap x ∧ good x) → ∃ b : List β, b.length = rs.length ∧ rs.flatten = b.flatMap S.cells ∧ ∀ x ∈ b, S.ok w.heap x ∧ good x := by
    intro rs
    induction rs with
    | nil => intro _; exact ⟨[], rfl, rfl, fun x hx => by cases hx⟩
    | cons r rs ih =>
      intro hr
      obtain ⟨b, k1, k2, k3⟩ := ih (fun r' hr' => hr r' (by simp [hr']))
      obtain ⟨x, rfl, hx⟩ := hr r (by simp)
      refine ⟨x :: b, by simp [k1], by rw [List.flatten_cons, k2, List.flatMap_cons], fun y hy => ?_⟩
      rcases List.mem_cons.1 hy with rfl | hy
      · exact hx
      · exact k3 y hy
  obtain ⟨b, k1, k2, k3⟩ := key rows (fun r hr => by
    obtain ⟨i, hi, rfl⟩ := List.getElem_of_mem hr
    obtain ⟨d, m0, m1, m2⟩ := h3 i _ (List.getElem?_eq_getElem hi)
    exact one _ m1 (fun j c hj => by obtain ⟨u, l, n1, n2, n3⟩ := m2 j c hj; exact ⟨u, l, n1, n3⟩))
  refine ⟨b, ⟨?_, fun x hx => (k3 x hx).1⟩, by omega, fun x hx => (k3 x hx).2⟩
  rw [← k2, hz, k1]; exact h1
end
end Go.Xp

/- What a row's inputs read as: slices of ints and of entries. -/
namespace Go.Xp
open Go.WideShapes Go.RowKit
section
variable {H : Type} {w : World} {R f : Nat} {u : Value} {l : DataW H}
theorem rd_ints (h : CRead w R (f + 2) (.sl [.int .i64]) u l) : ∃ b : List Int, Rows intS w.heap u b ∧ b.length ≤ R := by
  obtain ⟨b, h1, h2, h3⟩ := rd_sch (S := intS) rfl (fun _ => True) (by decide) h (fun r hr hc => by
    obtain ⟨u0, l0, a1, a2⟩ := hc 0 _ rfl
    obtain ⟨z0, rfl, _, a3⟩ := rd_int a2
    match r, hr, a1 with
    | [x], _, a1 =>
      simp at a1
      exact ⟨z0, by rw [a1]; rfl, trivial, trivial⟩)
  exact ⟨b, h1, h2⟩
theorem rd_ents (h : CRead w R (f + 2) (.sl [.int .i64, .str, .int .i64, .str, .int .i64]) u l) : ∃ b : List Entr, Rows entS w.heap u b ∧ b.length ≤ R ∧ ∀ x ∈ b, x.path.length ≤ R ∧ x.target.length ≤ R ∧ (-9223372036854775808 ≤ x.kind ∧ x.kind ≤ 9223372036854775807) ∧ (-9223372036854775808 ≤ x.mode ∧ x.mode ≤ 9223372036854775807) ∧ (-9223372036854775808 ≤ x.size ∧ x.size ≤ 9223372036854775807) :=
  rd_sch (S := entS) rfl (fun x => x.path.length ≤ R ∧ x.target.length ≤ R ∧ (-9223372036854775808 ≤ x.kind ∧ x.kind ≤ 9223372036854775807) ∧ (-9223372036854775808 ≤ x.mode ∧ x.mode ≤ 9223372036854775807) ∧ (-9223372036854775808 ≤ x.size ∧ x.size ≤ 9223372036854775807)) (by decide) h (fun r hr hc => by
    obtain ⟨u0, l0, a1, a2⟩ := hc 0 _ rfl
    obtain ⟨u1, l1, b1, b2⟩ := hc 1 _ rfl
    obtain ⟨u2, l2, c1, c2⟩ := hc 2 _ rfl
    obtain ⟨u3, l3, d1, d2⟩ := hc 3 _ rfl
    obtain ⟨u4, l4, e1, e2⟩ := hc 4 _ rfl
    obtain ⟨z0, rfl, _, a3⟩ := rd_int a2
    obtain ⟨s1, rfl, _, b3⟩ := rd_str b2
    obtain ⟨z2, rfl, _, c3⟩ := rd_int c2
    obtain ⟨s3, rfl, _, d3⟩ := rd_str d2
    obtain ⟨z4, rfl, _, e3⟩ := rd_int e2
    match r, hr, a1, b1, c1, d1, e1 with
    | [x, y, z, a, b], _, a1, b1, c1, d1, e1 =>
      simp at a1 b1 c1 d1 e1
      exact ⟨⟨z0, s1, z2, s3, z4⟩, by rw [a1, b1, c1, d1, e1]; rfl, trivial, b3, d3, wf_i64 a3, wf_i64 c3, wf_i64 e3⟩)
end
end Go.Xp

/- Layer 12 (entry): the law EntryRoundTrip. -/
set_option maxRecDepth 100000
namespace Go.Xp
open Go.Proofs

section
variable {h : Heap} {lo hi r s : Nat} {D B : List UInt8} {P : Nat} {k m z : Int} {p tg : List UInt8}
theorem rt_Decode (e : fcheck k p m tg z = 0) (hD : D.drop P = eenc k p m tg z ++ B) (uR : RdA lo hi h r s D (-1) P 0) (hl : D.length ≤ 100000000000) (hR0 : Heap) (xR0 : Ext hR0 h) (hlo : hR0.size ≤ lo) (hG : Glb hR0) (hK : GlbK hR0) (hN : GlbN hR0) (hE : GlbE hR0) (hT : GlbT hR0) (hS : GlbS hR0) :
    Cal Tryz.prog 11 #[.pointer (some ⟨r, 0, none⟩)] h (fun v h' => v = .tuple #[.agg #[.int .i64 k, str p, .int .i64 m, str tg, .int .i64 z], .int .i64 (P : Int), .int .i64 0] ∧ Only [r, s] h h' ∧ RdA lo hi h' r s D (-1) (P + (eenc k p m tg z).length) 0) :=
  (entry_Decode h lo hi r s D (-1) P 0 uR hl (by decide) hR0 xR0 hlo hG hK hN hE hT hS).mono fun v h' q => by
    rw [dcd_eenc e hD] at q; exact q
theorem rt_DecodeN {n x : Int} (e : ∃ pos er, dcd D (-1) P 0 = dz n x pos er) (uR : RdA lo hi h r s D (-1) P 0) (hl : D.length ≤ 100000000000) (hR0 : Heap) (xR0 : Ext hR0 h) (hlo : hR0.size ≤ lo) (hG : Glb hR0) (hK : GlbK hR0) (hN : GlbN hR0) (hE : GlbE hR0) (hT : GlbT hR0) (hS : GlbS hR0) :
    Cal Tryz.prog 11 #[.pointer (some ⟨r, 0, none⟩)] h (fun v h' => v = .tuple #[.agg #[.int .i64 0, str [], .int .i64 0, str [], .int .i64 0], .int .i64 n, .int .i64 x] ∧ Only [r, s] h h' ∧ ∃ pos er, RdA lo hi h' r s D (-1) pos er) := by
  obtain ⟨pos, er, e⟩ := e
  exact (entry_Decode h lo hi r s D (-1) P 0 uR hl (by decide) hR0 xR0 hlo hG hK hN hE hT hS).mono fun v h' q => by
    rw [e] at q; exact ⟨q.1, q.2.1, _, _, q.2.2⟩
theorem eenc_small (e : fcheck k p m tg z = 0) : (eenc k p m tg z).length ≤ 200000 := by
  have h1 := eenc_len e
  have h2 := rfmt_le e
  have h3 := padn_lt (rfmt (fR (fcheck k p m tg z) p tg z)).length
  rw [h1]
  split <;> omega
end
end Go.Xp
