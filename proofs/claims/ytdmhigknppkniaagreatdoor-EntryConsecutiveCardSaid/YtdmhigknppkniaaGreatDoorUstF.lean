/- Layer 7: ustar.Decode and its reference. -/
import Derived.Test.YtdmhigknppkniaaGreatDoorEncL
import Derived.Test.YtdmhigknppkniaaGreatDoorMapR
import Derived.Test.YtdmhigknppkniaaGreatDoorNum
import Derived.Test.YtdmhigknppkniaaGreatDoorPath
set_option linter.unusedSimpArgs false
set_option linter.unusedVariables false
set_option linter.unusedSectionVars false
set_option maxRecDepth 100000
namespace Go.Xp
open Go.Proofs

abbrev ufl (b : List UInt8) (lo hi : Nat) : List UInt8 := (b.take hi).drop lo
def udn (b : List UInt8) : List UInt8 := pstr (ufl b 0 100)
def udl (b : List UInt8) : List UInt8 := pstr (ufl b 157 257)
def udp (b : List UInt8) : List UInt8 := pstr (ufl b 345 500)
def udm (b : List UInt8) : Int := opnum (ufl b 100 108)
def uds (b : List UInt8) : Int := opnum (ufl b 124 136)
def udok (b : List UInt8) : Bool := decide (perr (ufl b 0 100) = 0 ∧ perr (ufl b 157 257) = 0 ∧ perr (ufl b 345 500) = 0 ∧ operr (ufl b 100 108) = 0 ∧ operr (ufl b 124 136) = 0 ∧ ucheck (byt b 156) (udn b) (udp b) (udl b) (udm b) (uds b) = 0 ∧ uenc (byt b 156) (udn b) (udp b) (udl b) (udm b) (uds b) = b)
def uderr (b : List UInt8) : Int := if ¬ sver b = 0 then sver b else if uknown (byt b 156) = false then 8 else if udok b = true then 0 else 6
def udT (b : List UInt8) : Int := if uderr b = 0 then byt b 156 else 0
def udN (b : List UInt8) : List UInt8 := if uderr b = 0 then udn b else []
def udP (b : List UInt8) : List UInt8 := if uderr b = 0 then udp b else []
def udL (b : List UInt8) : List UInt8 := if uderr b = 0 then udl b else []
def udM (b : List UInt8) : Int := if uderr b = 0 then udm b else 0
def udS (b : List UInt8) : Int := if uderr b = 0 then uds b else 0
section
variable {b : List UInt8}
theorem ud_bad {e : Int} (h : uderr b = e) (he : ¬ e = 0) : udT b = 0 ∧ udN b = [] ∧ udP b = [] ∧ udL b = [] ∧ udM b = 0 ∧ udS b = 0 := by
  have h0 : ¬ uderr b = 0 := by rw [h]; exact he
  unfold udT udN udP udL udM udS
  simp only [if_neg h0, and_self]
theorem ud_good (h : uderr b = 0) : udT b = byt b 156 ∧ udN b = udn b ∧ udP b = udp b ∧ udL b = udl b ∧ udM b = udm b ∧ udS b = uds b := by
  unfold udT udN udP udL udM udS
  simp only [if_pos h, and_self]
theorem uderr_ver (h : ¬ sver b = 0) : uderr b = sver b := by unfold uderr; rw [if_pos h]
theorem uderr_kind (h : sver b = 0) (hk : uknown (byt b 156) = false) : uderr b = 8 := by unfold uderr; rw [if_neg (by simp [h]), if_pos hk]
theorem uderr_syn (h : sver b = 0) (hk : ¬ uknown (byt b 156) = false) (hn : ¬ (perr (ufl b 0 100) = 0 ∧ perr (ufl b 157 257) = 0 ∧ perr (ufl b 345 500) = 0 ∧ operr (ufl b 100 108) = 0 ∧ operr (ufl b 124 136) = 0 ∧ ucheck (byt b 156) (udn b) (udp b) (udl b) (udm b) (uds b) = 0 ∧ uenc (byt b 156) (udn b) (udp b) (udl b) (udm b) (uds b) = b)) : uderr b = 6 := by
  unfold uderr; rw [if_neg (by simp [h]), if_neg hk, if_neg (by unfold udok; rw [decide_eq_true_eq]; exact hn)]
theorem uderr_ok (h : sver b = 0) (hk : ¬ uknown (byt b 156) = false) (hn : perr (ufl b 0 100) = 0 ∧ perr (ufl b 157 257) = 0 ∧ perr (ufl b 345 500) = 0 ∧ operr (ufl b 100 108) = 0 ∧ operr (ufl b 124 136) = 0 ∧ ucheck (byt b 156) (udn b) (udp b) (udl b) (udm b) (uds b) = 0 ∧ uenc (byt b 156) (udn b) (udp b) (udl b) (udm b) (uds b) = b) : uderr b = 0 := by
  unfold uderr; rw [if_neg (by simp [h]), if_neg hk, if_pos (by unfold udok; rw [decide_eq_true_eq]; exact hn)]
theorem sver_len (h : sver b = 0) : b.length = 512 := by
  unfold sver at h
  split at h
  · assumption
  · cases h
theorem ufl_byt (h : b.length = 512) : byt ((b.take 157).drop 156) 0 = byt b 156 := by
  unfold byt
  congr 2
  simp only [List.getD_eq_getElem?_getD]
  rw [List.getElem?_drop, List.getElem?_take, if_pos (by decide)]
def ud (d : Bool) (l : List UInt8) : List UInt8 := bif d then l else []
theorem ud_true {d : Bool} (h : d = true) (l : List UInt8) : ud d l = l := by rw [h]; rfl
def mu (d : Bool) : Nat := bif d then 0 else 1
theorem mu1 {d1 : Bool} (h : d1 = false) (x y : Nat) : mu true + x + y < mu d1 + x + y := by subst h; show 0 + x + y < 1 + x + y; omega
theorem mu2 {d2 : Bool} (h : d2 = false) (x y : Nat) : x + mu true + y < x + mu d2 + y := by subst h; show x + 0 + y < x + 1 + y; omega
theorem mu3 {d3 : Bool} (h : d3 = false) (x y : Nat) : x + y + mu true < x + y + mu d3 := by subst h; show x + y + 0 < x + y + 1; omega
theorem pstr_le (l : List UInt8) : (pstr l).length ≤ l.length := by
  unfold pstr
  split
  · exact List.Sublist.length_le (List.takeWhile_sublist _)
  · simp
theorem uenc_le (t : Int) (name pre link : List UInt8) (mode size : Int) : (uenc t name pre link mode size).length ≤ 512 := by
  by_cases h : ucheck t name pre link mode size = 0
  · exact Nat.le_of_eq (uenc_len h)
  · unfold uenc; rw [if_neg h]; simp
theorem ufl_le (lo hi : Nat) : (ufl b lo hi).length ≤ hi - lo := by simp [ufl]; omega
end

theorem ustar_Decode (h : Heap) (hG : Glb h) (v : Value) (b : List UInt8) (hb : Bytes h v b) (hm : b.length ≤ 140737488355328) : Cal Tryz.prog 22 #[v] h (fun v h' => v = .tuple #[.agg #[.int .u8 (udT b), str (udN b), str (udP b), str (udL b), .int .i64 (udM b), .int .i64 (udS b)], .int .i64 (uderr b)] ∧ Ext h h') := by
 refine Ce Tryz.func22 fun σ => ?_
 refine Wr ?_
 refine L_mks (M_alloc (u := .agg #[.int .u8 0, str [], str [], str [], .int .i64 0, .int .i64 0]) (by kernel_rfl)) rfl rfl rfl ?_
 rintro _ h1 ⟨rfl, hn1⟩
 have hk2 : Blk h1 h.size [.int .u8 0, str [], str [], str [], .int .i64 0, .int .i64 0] := hn1.blk
 refine Av ?_
 refine Ln (Xt (Wq (Wq (Wg ?_))))
 refine Mv ?_
 refine Lc (checksum_Verify _ v b (hb.ext hn1.ext)) ?_
 rintro _ h2 ⟨rfl, hx3⟩
 refine Av ?_
 refine Ln (Xt (Wq (Wg ?_)))
 refine Mv ?_
 refine Ly Yne ?_
 refine Nx ?_
 refine Sd (fun g => ?_) fun g => ?_
 ·refine Wr ?_
  refine Ly (Yb (.agg #[.int .u8 0, str [], str [], str [], .int .i64 0, .int .i64 0]) [] [] []) ?_
  refine Mv ?_
  refine Lds [.int .u8 0, str [], str [], str [], .int .i64 0, .int .i64 0] (hk2.ext hx3) ?_
  rintro h3 hp4
  have hk5 : Blk h3 h.size [.int .u8 0, str [], str [], str [], .int .i64 0, .int .i64 0] := hp4.blk
  refine An ?_
  refine Wu _ (tk3 3 2 0) ?_
  refine Wt (Xr ?_)
  refine X_retv2 rfl (RVa Tryz.underlying71 hk5) rfl ?_
  have hq := uderr_ver g
  obtain ⟨q1, q2, q3, q4, q5, q6⟩ := ud_bad hq g
  have me1 := (hn1.ext.trans hx3).then' hp4.only (by simp) (Nat.le_refl _)
  exact ⟨by rw [q1, q2, q3, q4, q5, q6, hq], me1⟩
 refine Ws ?_
 have hv : sver b = 0 := by simpa using g
 have hl := sver_len hv
 have ht := byt_lt b 156
 refine Wr ?_
 refine Ly (Y_ldclsA (us := [.int .i64 156, .int .i64 1]) Tryz.underlying117 rfl (show _ = some 2 by kernel_rfl) rfl ((hG.ext (hn1.ext.trans hx3))).g6 rfl) ?_
 refine Mv ?_
 refine Lc (field_of _ 156 1 v b (hb.ext (hn1.ext.trans hx3)) (by first | first | omega | (simp; omega) | rfl | (simp <;> omega)) (by first | first | omega | (simp; omega) | rfl | (simp <;> omega))) ?_
 rintro _ h4 ⟨rfl, hx6⟩
 refine Ly (Y_idx Tryz.underlying22 (show _ = some 1 by kernel_rfl) rfl rfl ((Bytes.cut (lo := 156) (hi := 157) hb (by first | omega | (simp; omega)) (by first | omega | (simp; omega))).ext ((hn1.ext.trans hx3).trans hx6)) (by first | omega | (simp; omega)) (by first | omega | (simp; omega))) ?_
 refine Ly (Y_ldbyte Tryz.underlying5 rfl rfl ((Bytes.cut (lo := 156) (hi := 157) hb (by first | omega | (simp; omega)) (by first | omega | (simp; omega))).ext ((hn1.ext.trans hx3).trans hx6)) (by first | omega | (simp; omega)) (by first | omega | (simp; omega))) ?_
 refine Ly (Yb (.agg #[.int .u8 (byt ((b.take 157).drop 156) 0), str [], str [], str [], .int .i64 0, .int .i64 0]) [0] [.tmp 24] [.int .u8 (byt ((b.take 157).drop 156) 0)]) ?_
 refine L_mks (M_alloc (u := .agg #[.int .u8 0, str [], str [], str [], .int .i64 0, .int .i64 0]) (by kernel_rfl)) rfl rfl rfl ?_
 rintro _ h5 ⟨rfl, hn7⟩
 have hk8 : Blk h5 h4.size [.int .u8 0, str [], str [], str [], .int .i64 0, .int .i64 0] := hn7.blk
 refine Lds [.int .u8 (byt ((b.take 157).drop 156) 0), str [], str [], str [], .int .i64 0, .int .i64 0] hk8 ?_
 rintro h6 hp9
 have hk10 : Blk h6 h4.size [.int .u8 (byt ((b.take 157).drop 156) 0), str [], str [], str [], .int .i64 0, .int .i64 0] := hp9.blk
 refine Nx ?_
 refine Wu _ (tk4 5 3 2 0) ?_
 rw [ufl_byt hl] at hk10
 refine Wq (Wq (Wg ?_))
 refine Lf 0 ?_
 refine Lb Tryz.underlying5 hk10 ?_
 refine Lc (strings_IndexByte _ [48, 49, 50, 53, 120] (byt b 156)) ?_
 rintro _ h6 ⟨rfl, rfl⟩
 refine Ly Yls ?_
 refine Nx ?_
 refine Sd (fun k => ?_) fun k => ?_
 ·have k : (Lib.indexByte [48, 49, 50, 53, 120] (byt b 156).toNat.toUInt8) < 0 := k
  refine Wr ?_
  refine Ly (Yb (.agg #[.int .u8 0, str [], str [], str [], .int .i64 0, .int .i64 0]) [] [] []) ?_
  have me2 := ((hx3.trans hx6).trans hn7.ext).then' hp9.only (by simp) (nt hx3.size hx6.size)
  refine Lds [.int .u8 0, str [], str [], str [], .int .i64 0, .int .i64 0] (hk2.ext me2) ?_
  rintro h7 hp11
  have hk12 : Blk h7 h.size [.int .u8 0, str [], str [], str [], .int .i64 0, .int .i64 0] := hp11.blk
  refine Av ?_
  refine Ln (Xt (Wt (Xr ?_)))
  refine X_retv2 rfl (RVa Tryz.underlying71 hk12) rfl ?_
  have hq := uderr_kind hv ((known_idx ht).1 k)
  obtain ⟨q1, q2, q3, q4, q5, q6⟩ := ud_bad hq (by decide)
  have me3 := (((hn1.ext.trans hx3).trans hx6).trans hn7.ext).then' hp9.only (by simp) (nt (nt hn1.ext.size hx3.size) hx6.size)
  exact ⟨by rw [q1, q2, q3, q4, q5, q6, hq], (me3.then' hp11.only (by simp) (Nat.le_refl _))⟩
 have k : ¬ ((Lib.indexByte [48, 49, 50, 53, 120] (byt b 156).toNat.toUInt8) < 0) := k
 refine Ws ?_
 have k' : ¬ uknown (byt b 156) = false := fun h9 => k ((known_idx ht).2 h9)
 refine Wq ?_
 refine W_cut (S := Nat × Nat) (fun (it, bm) => [(5, .pointer (some ⟨h4.size, 0, none⟩)), (3, .int .i64 0), (2, .pointer (some ⟨h.size, 0, none⟩)), (0, v), (39, .pointer (some ⟨it, 0, none⟩))]) (fun (it, bm) h' => Ext h6 h' ∧ PIt (h4.size) h' it bm [(1, .agg #[.int .i64 0, .int .i64 100]), (3, .agg #[.int .i64 157, .int .i64 100]), (2, .agg #[.int .i64 345, .int .i64 155])] (fun _ => false) ∧ Array.size h6 ≤ it ∧ Array.size h6 ≤ bm) ?_ ?_
 ·refine W_held (fun h' => Ext h6 h') 12 rfl (by kernel_rfl) ?_
  refine Ht 1 (fun h_ hI_ => Y_fieldAddr (off := 1) (by kernel_rfl) rfl rfl) (Ext.refl _) ?_
  have me4 := (((hn1.ext.trans hx3).trans hx6).trans hn7.ext).then' hp9.only (by simp) (nt (nt hn1.ext.size hx3.size) hx6.size)
  refine Ht 2 (fun h_ hI_ => Y_ldclsA (us := [.int .i64 0, .int .i64 100]) Tryz.underlying117 rfl (show _ = some 2 by kernel_rfl) rfl ((hG.ext (me4.trans hI_))).g0 rfl) (Ext.refl _) ?_
  refine Ht 4 (fun h_ hI_ => Y_fieldAddr (off := 3) (by kernel_rfl) rfl rfl) (Ext.refl _) ?_
  refine Ht 5 (fun h_ hI_ => Y_ldclsA (us := [.int .i64 157, .int .i64 100]) Tryz.underlying117 rfl (show _ = some 2 by kernel_rfl) rfl ((hG.ext (me4.trans hI_))).g7 rfl) (Ext.refl _) ?_
  refine Ht 7 (fun h_ hI_ => Y_fieldAddr (off := 2) (by kernel_rfl) rfl rfl) (Ext.refl _) ?_
  refine Ht 8 (fun h_ hI_ => Y_ldclsA (us := [.int .i64 345, .int .i64 155]) Tryz.underlying117 rfl (show _ = some 2 by kernel_rfl) rfl ((hG.ext (me4.trans hI_))).g11 rfl) (Ext.refl _) ?_
  refine LH_one (i := 0) (by kernel_rfl) ?_
  refine LO_mks (i := 0) rfl (M_makeMap (α := Nat) (encP h4.size)) rfl rfl rfl ?_
  rintro _ h8 ⟨rfl, hx13, hb14⟩
  refine ⟨hx13, ?_⟩
  refine LH_three (i := 3) (j := 6) (m := 9) (by kernel_rfl) ?_ ?_ ?_
  ·refine LO_dos (i := 3) rfl (D_insertP (o := 1) (z := 0) Tryz.underlying120 Tryz.underlying119 (by kernel_rfl) rfl rfl rfl hb14 (by simp)) rfl rfl ?_
   rintro h9 ⟨hx15, -, hb16⟩
   refine ⟨(hx13.then' hx15 (by simp) (Nat.le_refl _)), ?_⟩
   refine LH_two (i := 6) (j := 9) (by kernel_rfl) ?_ ?_
   ·refine LO_dos (i := 6) rfl (D_insertP (o := 3) (z := 0) Tryz.underlying120 Tryz.underlying119 (by kernel_rfl) rfl rfl rfl hb16 (by simp)) rfl rfl ?_
    rintro h10 ⟨hx17, -, hb18⟩
    refine ⟨((hx13.then' hx15 (by simp) (Nat.le_refl _)).then' hx17 (by simp) (Nat.le_refl _)), ?_⟩
    refine LH_one (i := 9) (by kernel_rfl) ?_
    refine LO_dos (i := 9) rfl (D_insertP (o := 2) (z := 0) Tryz.underlying120 Tryz.underlying119 (by kernel_rfl) rfl rfl rfl hb18 (by simp)) rfl rfl ?_
    rintro h11 ⟨hx19, -, hb20⟩
    refine ⟨(((hx13.then' hx15 (by simp) (Nat.le_refl _)).then' hx17 (by simp) (Nat.le_refl _)).then' hx19 (by simp) (Nat.le_refl _)), ?_⟩
    have me5 := (hx13.then' hx15 (by simp) (Nat.le_refl _)).then' hx17 (by simp) (Nat.le_refl _)
    refine Ht 10 (fun h_ hI_ => Y_move rfl) (me5.then' hx19 (by simp) (Nat.le_refl _)) ?_
    refine LH_one (i := 11) (by kernel_rfl) ?_
    refine LO_mks (i := 11) rfl (M_rangemap Tryz.underlying120 rfl hb20) rfl rfl rfl ?_
    rintro _ h12 ⟨rfl, hx21, hb22⟩
    refine ⟨((((hx13.then' hx15 (by simp) (Nat.le_refl _)).then' hx17 (by simp) (Nat.le_refl _)).then' hx19 (by simp) (Nat.le_refl _)).trans hx21), ?_⟩
    refine LH_done (by kernel_rfl) ?_
    refine X_cut ((h11.size, h6.size)) (tk5 5 3 2 0 39) ?_
    exact ⟨((me5.then' hx19 (by simp) (Nat.le_refl _)).trans hx21), PIt.start (hb20.ext hx21) (by simp) (fun p => by simp [or_comm, or_left_comm, or_assoc]) hb22, (me5.then' hx19 (by simp) (Nat.le_refl _)).size, Nat.le_refl _⟩
   refine LO_dos (i := 9) rfl (D_insertP (o := 2) (z := 0) Tryz.underlying120 Tryz.underlying119 (by kernel_rfl) rfl rfl rfl hb16 (by simp)) rfl rfl ?_
   rintro h13 ⟨hx23, -, hb24⟩
   refine ⟨((hx13.then' hx15 (by simp) (Nat.le_refl _)).then' hx23 (by simp) (Nat.le_refl _)), ?_⟩
   refine LH_one (i := 6) (by kernel_rfl) ?_
   refine LO_dos (i := 6) rfl (D_insertP (o := 3) (z := 0) Tryz.underlying120 Tryz.underlying119 (by kernel_rfl) rfl rfl rfl hb24 (by simp)) rfl rfl ?_
   rintro h14 ⟨hx25, -, hb26⟩
   refine ⟨(((hx13.then' hx15 (by simp) (Nat.le_refl _)).then' hx23 (by simp) (Nat.le_refl _)).then' hx25 (by simp) (Nat.le_refl _)), ?_⟩
   have me6 := (hx13.then' hx15 (by simp) (Nat.le_refl _)).then' hx23 (by simp) (Nat.le_refl _)
   refine Ht 10 (fun h_ hI_ => Y_move rfl) (me6.then' hx25 (by simp) (Nat.le_refl _)) ?_
   refine LH_one (i := 11) (by kernel_rfl) ?_
   refine LO_mks (i := 11) rfl (M_rangemap Tryz.underlying120 rfl hb26) rfl rfl rfl ?_
   rintro _ h15 ⟨rfl, hx27, hb28⟩
   refine ⟨((((hx13.then' hx15 (by simp) (Nat.le_refl _)).then' hx23 (by simp) (Nat.le_refl _)).then' hx25 (by simp) (Nat.le_refl _)).trans hx27), ?_⟩
   refine LH_done (by kernel_rfl) ?_
   refine X_cut ((h14.size, h6.size)) (tk5 5 3 2 0 39) ?_
   exact ⟨((me6.then' hx25 (by simp) (Nat.le_refl _)).trans hx27), PIt.start (hb26.ext hx27) (by simp) (fun p => by simp [or_comm, or_left_comm, or_assoc]) hb28, (me6.then' hx25 (by simp) (Nat.le_refl _)).size, Nat.le_refl _⟩
  ·refine LO_dos (i := 6) rfl (D_insertP (o := 3) (z := 0) Tryz.underlying120 Tryz.underlying119 (by kernel_rfl) rfl rfl rfl hb14 (by simp)) rfl rfl ?_
   rintro h16 ⟨hx29, -, hb30⟩
   refine ⟨(hx13.then' hx29 (by simp) (Nat.le_refl _)), ?_⟩
   refine LH_two (i := 3) (j := 9) (by kernel_rfl) ?_ ?_
   ·refine LO_dos (i := 3) rfl (D_insertP (o := 1) (z := 0) Tryz.underlying120 Tryz.underlying119 (by kernel_rfl) rfl rfl rfl hb30 (by simp)) rfl rfl ?_
    rintro h17 ⟨hx31, -, hb32⟩
    refine ⟨((hx13.then' hx29 (by simp) (Nat.le_refl _)).then' hx31 (by simp) (Nat.le_refl _)), ?_⟩
    refine LH_one (i := 9) (by kernel_rfl) ?_
    refine LO_dos (i := 9) rfl (D_insertP (o := 2) (z := 0) Tryz.underlying120 Tryz.underlying119 (by kernel_rfl) rfl rfl rfl hb32 (by simp)) rfl rfl ?_
    rintro h18 ⟨hx33, -, hb34⟩
    refine ⟨(((hx13.then' hx29 (by simp) (Nat.le_refl _)).then' hx31 (by simp) (Nat.le_refl _)).then' hx33 (by simp) (Nat.le_refl _)), ?_⟩
    have me7 := (hx13.then' hx29 (by simp) (Nat.le_refl _)).then' hx31 (by simp) (Nat.le_refl _)
    refine Ht 10 (fun h_ hI_ => Y_move rfl) (me7.then' hx33 (by simp) (Nat.le_refl _)) ?_
    refine LH_one (i := 11) (by kernel_rfl) ?_
    refine LO_mks (i := 11) rfl (M_rangemap Tryz.underlying120 rfl hb34) rfl rfl rfl ?_
    rintro _ h19 ⟨rfl, hx35, hb36⟩
    refine ⟨((((hx13.then' hx29 (by simp) (Nat.le_refl _)).then' hx31 (by simp) (Nat.le_refl _)).then' hx33 (by simp) (Nat.le_refl _)).trans hx35), ?_⟩
    refine LH_done (by kernel_rfl) ?_
    refine X_cut ((h18.size, h6.size)) (tk5 5 3 2 0 39) ?_
    exact ⟨((me7.then' hx33 (by simp) (Nat.le_refl _)).trans hx35), PIt.start (hb34.ext hx35) (by simp) (fun p => by simp [or_comm, or_left_comm, or_assoc]) hb36, (me7.then' hx33 (by simp) (Nat.le_refl _)).size, Nat.le_refl _⟩
   refine LO_dos (i := 9) rfl (D_insertP (o := 2) (z := 0) Tryz.underlying120 Tryz.underlying119 (by kernel_rfl) rfl rfl rfl hb30 (by simp)) rfl rfl ?_
   rintro h20 ⟨hx37, -, hb38⟩
   refine ⟨((hx13.then' hx29 (by simp) (Nat.le_refl _)).then' hx37 (by simp) (Nat.le_refl _)), ?_⟩
   refine LH_one (i := 3) (by kernel_rfl) ?_
   refine LO_dos (i := 3) rfl (D_insertP (o := 1) (z := 0) Tryz.underlying120 Tryz.underlying119 (by kernel_rfl) rfl rfl rfl hb38 (by simp)) rfl rfl ?_
   rintro h21 ⟨hx39, -, hb40⟩
   refine ⟨(((hx13.then' hx29 (by simp) (Nat.le_refl _)).then' hx37 (by simp) (Nat.le_refl _)).then' hx39 (by simp) (Nat.le_refl _)), ?_⟩
   have me8 := (hx13.then' hx29 (by simp) (Nat.le_refl _)).then' hx37 (by simp) (Nat.le_refl _)
   refine Ht 10 (fun h_ hI_ => Y_move rfl) (me8.then' hx39 (by simp) (Nat.le_refl _)) ?_
   refine LH_one (i := 11) (by kernel_rfl) ?_
   refine LO_mks (i := 11) rfl (M_rangemap Tryz.underlying120 rfl hb40) rfl rfl rfl ?_
   rintro _ h22 ⟨rfl, hx41, hb42⟩
   refine ⟨((((hx13.then' hx29 (by simp) (Nat.le_refl _)).then' hx37 (by simp) (Nat.le_refl _)).then' hx39 (by simp) (Nat.le_refl _)).trans hx41), ?_⟩
   refine LH_done (by kernel_rfl) ?_
   refine X_cut ((h21.size, h6.size)) (tk5 5 3 2 0 39) ?_
   exact ⟨((me8.then' hx39 (by simp) (Nat.le_refl _)).trans hx41), PIt.start (hb40.ext hx41) (by simp) (fun p => by simp [or_comm, or_left_comm, or_assoc]) hb42, (me8.then' hx39 (by simp) (Nat.le_refl _)).size, Nat.le_refl _⟩
  refine LO_dos (i := 9) rfl (D_insertP (o := 2) (z := 0) Tryz.underlying120 Tryz.underlying119 (by kernel_rfl) rfl rfl rfl hb14 (by simp)) rfl rfl ?_
  rintro h23 ⟨hx43, -, hb44⟩
  refine ⟨(hx13.then' hx43 (by simp) (Nat.le_refl _)), ?_⟩
  refine LH_two (i := 3) (j := 6) (by kernel_rfl) ?_ ?_
  ·refine LO_dos (i := 3) rfl (D_insertP (o := 1) (z := 0) Tryz.underlying120 Tryz.underlying119 (by kernel_rfl) rfl rfl rfl hb44 (by simp)) rfl rfl ?_
   rintro h24 ⟨hx45, -, hb46⟩
   refine ⟨((hx13.then' hx43 (by simp) (Nat.le_refl _)).then' hx45 (by simp) (Nat.le_refl _)), ?_⟩
   refine LH_one (i := 6) (by kernel_rfl) ?_
   refine LO_dos (i := 6) rfl (D_insertP (o := 3) (z := 0) Tryz.underlying120 Tryz.underlying119 (by kernel_rfl) rfl rfl rfl hb46 (by simp)) rfl rfl ?_
   rintro h25 ⟨hx47, -, hb48⟩
   refine ⟨(((hx13.then' hx43 (by simp) (Nat.le_refl _)).then' hx45 (by simp) (Nat.le_refl _)).then' hx47 (by simp) (Nat.le_refl _)), ?_⟩
   have me9 := (hx13.then' hx43 (by simp) (Nat.le_refl _)).then' hx45 (by simp) (Nat.le_refl _)
   refine Ht 10 (fun h_ hI_ => Y_move rfl) (me9.then' hx47 (by simp) (Nat.le_refl _)) ?_
   refine LH_one (i := 11) (by kernel_rfl) ?_
   refine LO_mks (i := 11) rfl (M_rangemap Tryz.underlying120 rfl hb48) rfl rfl rfl ?_
   rintro _ h26 ⟨rfl, hx49, hb50⟩
   refine ⟨((((hx13.then' hx43 (by simp) (Nat.le_refl _)).then' hx45 (by simp) (Nat.le_refl _)).then' hx47 (by simp) (Nat.le_refl _)).trans hx49), ?_⟩
   refine LH_done (by kernel_rfl) ?_
   refine X_cut ((h25.size, h6.size)) (tk5 5 3 2 0 39) ?_
   exact ⟨((me9.then' hx47 (by simp) (Nat.le_refl _)).trans hx49), PIt.start (hb48.ext hx49) (by simp) (fun p => by simp [or_comm, or_left_comm, or_assoc]) hb50, (me9.then' hx47 (by simp) (Nat.le_refl _)).size, Nat.le_refl _⟩
  refine LO_dos (i := 6) rfl (D_insertP (o := 3) (z := 0) Tryz.underlying120 Tryz.underlying119 (by kernel_rfl) rfl rfl rfl hb44 (by simp)) rfl rfl ?_
  rintro h27 ⟨hx51, -, hb52⟩
  refine ⟨((hx13.then' hx43 (by simp) (Nat.le_refl _)).then' hx51 (by simp) (Nat.le_refl _)), ?_⟩
  refine LH_one (i := 3) (by kernel_rfl) ?_
  refine LO_dos (i := 3) rfl (D_insertP (o := 1) (z := 0) Tryz.underlying120 Tryz.underlying119 (by kernel_rfl) rfl rfl rfl hb52 (by simp)) rfl rfl ?_
  rintro h28 ⟨hx53, -, hb54⟩
  refine ⟨(((hx13.then' hx43 (by simp) (Nat.le_refl _)).then' hx51 (by simp) (Nat.le_refl _)).then' hx53 (by simp) (Nat.le_refl _)), ?_⟩
  have me10 := (hx13.then' hx43 (by simp) (Nat.le_refl _)).then' hx51 (by simp) (Nat.le_refl _)
  refine Ht 10 (fun h_ hI_ => Y_move rfl) (me10.then' hx53 (by simp) (Nat.le_refl _)) ?_
  refine LH_one (i := 11) (by kernel_rfl) ?_
  refine LO_mks (i := 11) rfl (M_rangemap Tryz.underlying120 rfl hb54) rfl rfl rfl ?_
  rintro _ h29 ⟨rfl, hx55, hb56⟩
  refine ⟨((((hx13.then' hx43 (by simp) (Nat.le_refl _)).then' hx51 (by simp) (Nat.le_refl _)).then' hx53 (by simp) (Nat.le_refl _)).trans hx55), ?_⟩
  refine LH_done (by kernel_rfl) ?_
  refine X_cut ((h28.size, h6.size)) (tk5 5 3 2 0 39) ?_
  exact ⟨((me10.then' hx53 (by simp) (Nat.le_refl _)).trans hx55), PIt.start (hb54.ext hx55) (by simp) (fun p => by simp [or_comm, or_left_comm, or_assoc]) hb56, (me10.then' hx53 (by simp) (Nat.le_refl _)).size, Nat.le_refl _⟩
 rintro ⟨it, bm⟩ h30 ⟨hxc, hit, hl1, hl2⟩
 show W _ _ _ _ _ [(5, .pointer (some ⟨h4.size, 0, none⟩)), (3, .int .i64 0), (2, .pointer (some ⟨h.size, 0, none⟩)), (0, v), (39, .pointer (some ⟨it, 0, none⟩))] _
 refine Wb ?_
 refine W_loop (S := Nat → Bool) (fun done => [(5, .pointer (some ⟨h4.size, 0, none⟩)), (2, .pointer (some ⟨h.size, 0, none⟩)), (0, v), (39, .pointer (some ⟨it, 0, none⟩))]) (fun done h' => PIt (h4.size) h' it bm [(1, .agg #[.int .i64 0, .int .i64 100]), (3, .agg #[.int .i64 157, .int .i64 100]), (2, .agg #[.int .i64 345, .int .i64 155])] done ∧ Blk h' (h4.size) [.int .u8 (byt b 156), str (ud (done 1) (udn b)), str (ud (done 2) (udp b)), str (ud (done 3) (udl b)), .int .i64 0, .int .i64 0] ∧ Blk h' (h.size) [.int .u8 0, str [], str [], str [], .int .i64 0, .int .i64 0] ∧ (done 1 = true → perr (ufl b 0 100) = 0) ∧ (done 2 = true → perr (ufl b 345 500) = 0) ∧ (done 3 = true → perr (ufl b 157 257) = 0) ∧ Ext h h') (fun done => mu (done 1) + mu (done 2) + mu (done 3)) (fun _ => false) (tk4 5 2 0 39) ?_ ?_
 ·exact ⟨hit, (hk10.ext hxc), (hk2.ext ((((hx3.trans hx6).trans hn7.ext).then' hp9.only (by simp) (nt hx3.size hx6.size)).trans hxc)), by simp, by simp, by simp, (((((hn1.ext.trans hx3).trans hx6).trans hn7.ext).then' hp9.only (by simp) (nt (nt hn1.ext.size hx3.size) hx6.size)).trans hxc)⟩
 rintro done h31 ⟨hit2, kb5, kb2, e1, e2, e3, hx⟩
 show W _ _ _ _ _ [(5, .pointer (some ⟨h4.size, 0, none⟩)), (2, .pointer (some ⟨h.size, 0, none⟩)), (0, v), (39, .pointer (some ⟨it, 0, none⟩))] _
 refine Wr ?_
 refine L_mks (M_nextmap rfl hit2) rfl rfl rfl ?_
 rintro _ h32 (⟨rfl, hx57, he⟩ | ⟨pp_, hp59, hd, rfl, hx57, hi58⟩)
 ·refine Lx ?_
  refine Ln (Xt (Wq ?_))
  refine W_false rfl ?_
  refine W_exit ?_
  refine Xe (Xe ?_)
  refine X_block_hit ?_
  refine Xt ?_
  have d1 : done 1 = true := he (1, .agg #[.int .i64 0, .int .i64 100]) (by simp)
  have d2 : done 2 = true := he (2, .agg #[.int .i64 345, .int .i64 155]) (by simp)
  have d3 : done 3 = true := he (3, .agg #[.int .i64 157, .int .i64 100]) (by simp)
  rw [ud_true d1, ud_true d2, ud_true d3] at kb5
  refine Wq ?_
  skip
  skip
  skip
  refine Wg ?_
  refine Ly (Y_ldclsA (us := [.int .i64 100, .int .i64 8]) Tryz.underlying117 rfl (show _ = some 2 by kernel_rfl) rfl ((hG.ext (hx.trans hx57))).g1 rfl) ?_
  refine Mv ?_
  refine Lc (field_of _ 100 8 v b (hb.ext (hx.trans hx57)) (by first | first | omega | (simp; omega) | rfl | (simp <;> omega)) (by first | first | omega | (simp; omega) | rfl | (simp <;> omega))) ?_
  rintro _ h33 ⟨rfl, hx60⟩
  refine Lc (octal_Parse _ (slcut 1 100 108 v) ((b.take 108).drop 100) ((Bytes.cut (lo := 100) (hi := 108) hb (by first | omega | (simp; omega)) (by first | omega | (simp; omega))).ext ((hx.trans hx57).trans hx60))) ?_
  rintro _ h33 ⟨rfl, rfl⟩
  refine Mx ?_
  refine A2 ?_
  refine Nx ?_
  refine Wu _ (tk5 11 10 5 2 0) ?_
  refine Wq (Wq (Wg ?_))
  refine Mv ?_
  refine Ly Yne ?_
  refine Nx ?_
  refine Sd (fun m => ?_) fun m => ?_
  ·refine Wr ?_
   refine Ly (Yb (.agg #[.int .u8 0, str [], str [], str [], .int .i64 0, .int .i64 0]) [] [] []) ?_
   refine Lds [.int .u8 0, str [], str [], str [], .int .i64 0, .int .i64 0] (kb2.ext (hx57.trans hx60)) ?_
   rintro h34 hp61
   have hk62 : Blk h34 h.size [.int .u8 0, str [], str [], str [], .int .i64 0, .int .i64 0] := hp61.blk
   refine Av ?_
   refine Ln (Xt (Wt (Xr ?_)))
   refine X_retv2 rfl (RVa Tryz.underlying71 hk62) rfl ?_
   have hq := uderr_syn hv k' (fun h9 => m h9.2.2.2.1)
   obtain ⟨q1, q2, q3, q4, q5, q6⟩ := ud_bad hq (by decide)
   have me11 := ((hx.trans hx57).trans hx60).then' hp61.only (by simp) (Nat.le_refl _)
   exact ⟨by rw [q1, q2, q3, q4, q5, q6, hq], me11⟩
  refine Wk (Xt (Wq (Wg ?_)))
  refine Ly (Y_ldclsA (us := [.int .i64 124, .int .i64 12]) Tryz.underlying117 rfl (show _ = some 2 by kernel_rfl) rfl ((hG.ext ((hx.trans hx57).trans hx60))).g4 rfl) ?_
  refine Mv ?_
  refine Lc (field_of _ 124 12 v b (hb.ext ((hx.trans hx57).trans hx60)) (by first | first | omega | (simp; omega) | rfl | (simp <;> omega)) (by first | first | omega | (simp; omega) | rfl | (simp <;> omega))) ?_
  rintro _ h35 ⟨rfl, hx63⟩
  refine Lc (octal_Parse _ (slcut 1 124 136 v) ((b.take 136).drop 124) ((Bytes.cut (lo := 124) (hi := 136) hb (by first | omega | (simp; omega)) (by first | omega | (simp; omega))).ext (((hx.trans hx57).trans hx60).trans hx63))) ?_
  rintro _ h35 ⟨rfl, rfl⟩
  refine Mx ?_
  refine A2 ?_
  refine Nx ?_
  refine Wu _ (tk6 11 12 10 5 2 0) ?_
  refine Wq (Wq (Wg ?_))
  refine Mv ?_
  refine Ly Yne ?_
  refine Nx ?_
  refine Sd (fun z => ?_) fun z => ?_
  ·refine Wr ?_
   refine Ly (Yb (.agg #[.int .u8 0, str [], str [], str [], .int .i64 0, .int .i64 0]) [] [] []) ?_
   refine Lds [.int .u8 0, str [], str [], str [], .int .i64 0, .int .i64 0] (kb2.ext ((hx57.trans hx60).trans hx63)) ?_
   rintro h36 hp64
   have hk65 : Blk h36 h.size [.int .u8 0, str [], str [], str [], .int .i64 0, .int .i64 0] := hp64.blk
   refine Av ?_
   refine Ln (Xt (Wt (Xr ?_)))
   refine X_retv2 rfl (RVa Tryz.underlying71 hk65) rfl ?_
   have hq := uderr_syn hv k' (fun h9 => z h9.2.2.2.2.1)
   obtain ⟨q1, q2, q3, q4, q5, q6⟩ := ud_bad hq (by decide)
   have me12 := (((hx.trans hx57).trans hx60).trans hx63).then' hp64.only (by simp) (Nat.le_refl _)
   exact ⟨by rw [q1, q2, q3, q4, q5, q6, hq], me12⟩
  refine Wk (Xt (Wq (Wg ?_)))
  refine M2 ?_
  refine Lf 4 ?_
  refine Lds [.int .i64 (opnum ((b.take 108).drop 100))] (kb5.ext ((hx57.trans hx60).trans hx63)) ?_
  rintro h37 hp66
  have hk67 : Blk h37 h4.size [.int .u8 (byt b 156), str (udn b), str (udp b), str (udl b), .int .i64 (opnum ((b.take 108).drop 100)), .int .i64 0] := hp66.blk
  refine Lf 5 ?_
  refine Lds [.int .i64 (opnum ((b.take 136).drop 124))] hk67 ?_
  rintro h38 hp68
  have hk69 : Blk h38 h4.size [.int .u8 (byt b 156), str (udn b), str (udp b), str (udl b), .int .i64 (opnum ((b.take 108).drop 100)), .int .i64 (opnum ((b.take 136).drop 124))] := hp68.blk
  refine Nx ?_
  refine Wu _ (tk4 11 5 2 0) ?_
  refine Wr ?_
  refine Lg Tryz.underlying71 hk69 ?_
  have me13 := (((hx.trans hx57).trans hx60).trans hx63).then' hp66.only (by simp) (nt (nt hn1.ext.size hx3.size) hx6.size)
  have me14 := me13.then' hp68.only (by simp) (nt (nt hn1.ext.size hx3.size) hx6.size)
  refine Lc (ustar_Encode _ (hG.ext me14) (byt b 156) (udn b) (udp b) (udl b) (opnum ((b.take 108).drop 100)) (opnum ((b.take 136).drop 124)) (by first | first | omega | (simp; omega) | rfl | (simp <;> omega))) ?_
  rintro _ h39 ⟨s070, rfl, hr071, hx72⟩
  refine Mx ?_
  refine A2 ?_
  refine Nx ?_
  have hul := uenc_le (byt b 156) (udn b) (udp b) (udl b) (opnum ((b.take 108).drop 100)) (opnum ((b.take 136).drop 124))
  refine Wq ?_
  refine Wc [(94, .bool (decide ((¬ (ucheck (byt b 156) (udn b) (udp b) (udl b) (opnum ((b.take 108).drop 100)) (opnum ((b.take 136).drop 124))) = 0) ∨ (¬ ((uenc (byt b 156) (udn b) (udp b) (udl b) (opnum ((b.take 108).drop 100)) (opnum ((b.take 136).drop 124))) = b))))), (5, .pointer (some ⟨h4.size, 0, none⟩)), (2, .pointer (some ⟨h.size, 0, none⟩))] (fun h' => h' = h39) ?_ ?_
  ·refine Wg ?_
   refine Mv ?_
   refine Ly Yne ?_
   refine Mv ?_
   refine L_splitd (d := 89) rfl (fun c73 => ?_) (fun c73 => ?_)
   ·have c73 : ¬ (ucheck (byt b 156) (udn b) (udp b) (udl b) (opnum ((b.take 108).drop 100)) (opnum ((b.take 136).drop 124))) = 0 := c73
    refine Sk2 ?_
    refine Sk2 ?_
    refine Ly Ypt ?_
    refine Ln ?_
    exact X_cut () (sk1 94 (lkb rfl (by first | (simp only [eq_true c73, SB]; done) | (simp only [eq_true c73, SB]; rfl))) (sk1 5 rfl (tk1 2))) rfl
   have c73 : ¬ (¬ (ucheck (byt b 156) (udn b) (udp b) (udl b) (opnum ((b.take 108).drop 100)) (opnum ((b.take 136).drop 124))) = 0) := c73
   refine M2 ?_
   refine Lc (slices_EqualB _ s070 (uenc (byt b 156) (udn b) (udp b) (udl b) (opnum ((b.take 108).drop 100)) (opnum ((b.take 136).drop 124))) hr071.bytes v b (hb.ext (me14.trans hx72)) (by first | first | omega | (simp; omega) | rfl | (simp <;> omega))) ?_
   rintro _ h39 ⟨rfl, rfl⟩
   refine Ly (Y_notd rfl) ?_
   refine Ly Ypf ?_
   refine Ln ?_
   exact X_cut () (sk1 94 (lkb rfl (by first | (simp only [eq_false c73, SB]; done) | (simp only [eq_false c73, SB]; rfl))) (sk1 5 rfl (tk1 2))) rfl
  rintro h39 rfl
  refine Sd (fun c => ?_) fun c => ?_
  ·have c : (¬ (ucheck (byt b 156) (udn b) (udp b) (udl b) (opnum ((b.take 108).drop 100)) (opnum ((b.take 136).drop 124))) = 0) ∨ (¬ ((uenc (byt b 156) (udn b) (udp b) (udl b) (opnum ((b.take 108).drop 100)) (opnum ((b.take 136).drop 124))) = b)) := c
   refine Wr ?_
   refine Ly (Yb (.agg #[.int .u8 0, str [], str [], str [], .int .i64 0, .int .i64 0]) [] [] []) ?_
   have hc74 := ((((((kb2.ext hx57).ext hx60).ext hx63).only hp66.only (ni_lt (ntl hk2.lt (nt hx3.size hx6.size)))).only hp68.only (ni_lt (ntl hk2.lt (nt hx3.size hx6.size)))).ext hx72)
   refine Lds [.int .u8 0, str [], str [], str [], .int .i64 0, .int .i64 0] hc74 ?_
   rintro h40 hp75
   have hk76 : Blk h40 h.size [.int .u8 0, str [], str [], str [], .int .i64 0, .int .i64 0] := hp75.blk
   refine Av ?_
   refine Ln (Xt (Wt (Xr ?_)))
   refine X_retv2 rfl (RVa Tryz.underlying71 hk76) rfl ?_
   have hq := uderr_syn hv k' (fun h9 => c.elim (fun q => q h9.2.2.2.2.2.1) (fun q => q h9.2.2.2.2.2.2))
   obtain ⟨q1, q2, q3, q4, q5, q6⟩ := ud_bad hq (by decide)
   have me15 := (me14.trans hx72).then' hp75.only (by simp) (Nat.le_refl _)
   exact ⟨by rw [q1, q2, q3, q4, q5, q6, hq], me15⟩
  have c : ¬ ((¬ (ucheck (byt b 156) (udn b) (udp b) (udl b) (opnum ((b.take 108).drop 100)) (opnum ((b.take 136).drop 124))) = 0) ∨ (¬ ((uenc (byt b 156) (udn b) (udp b) (udl b) (opnum ((b.take 108).drop 100)) (opnum ((b.take 136).drop 124))) = b))) := c
  refine Wk (Xt (Wq (Wg ?_)))
  refine Lg Tryz.underlying71 (hk69.ext hx72) ?_
  have hc77 := ((((((kb2.ext hx57).ext hx60).ext hx63).only hp66.only (ni_lt (ntl hk2.lt (nt hx3.size hx6.size)))).only hp68.only (ni_lt (ntl hk2.lt (nt hx3.size hx6.size)))).ext hx72)
  refine Lds [.int .u8 (byt b 156), str (udn b), str (udp b), str (udl b), .int .i64 (opnum ((b.take 108).drop 100)), .int .i64 (opnum ((b.take 136).drop 124))] hc77 ?_
  rintro h41 hp78
  have hk79 : Blk h41 h.size [.int .u8 (byt b 156), str (udn b), str (udp b), str (udl b), .int .i64 (opnum ((b.take 108).drop 100)), .int .i64 (opnum ((b.take 136).drop 124))] := hp78.blk
  refine Av ?_
  refine Ln (Xt (Wt ?_))
  refine X_retv2 rfl (RVa Tryz.underlying71 hk79) rfl ?_
  have hq := uderr_ok hv k' ⟨e1 d1, e3 d3, e2 d2, Decidable.not_not.1 m, Decidable.not_not.1 z, Decidable.not_not.1 (fun q => c (.inl q)), Decidable.not_not.1 (fun q => c (.inr q))⟩
  obtain ⟨q1, q2, q3, q4, q5, q6⟩ := ud_good hq
  have me16 := (me14.trans hx72).then' hp78.only (by simp) (Nat.le_refl _)
  exact ⟨by rw [q1, q2, q3, q4, q5, q6, hq]; rfl, me16⟩
 simp only [List.mem_cons, List.not_mem_nil, or_false] at hp59
 rcases hp59 with rfl | rfl | rfl
 ·refine Lx ?_
  refine Ln (Xt (Wq ?_))
  refine W_true rfl ?_
  refine Wk (Xt (Wb (Wq (Wg ?_))))
  refine Ly (Y_entrymap rfl hi58) ?_
  refine Lxx ?_
  refine L_mks (M_alloc (u := .agg #[.int .i64 0, .int .i64 0]) (by kernel_rfl)) rfl rfl rfl ?_
  rintro _ h42 ⟨rfl, hn80⟩
  have hk81 : Blk h42 h32.size [.int .i64 0, .int .i64 0] := hn80.blk
  refine Av ?_
  refine Lds [.int .i64 0, .int .i64 100] hk81 ?_
  rintro h43 hp82
  have hk83 : Blk h43 h32.size [.int .i64 0, .int .i64 100] := hp82.blk
  refine Ln (Xt (Wq (Wg ?_)))
  refine Lg Tryz.underlying117 hk83 ?_
  refine Mv ?_
  have me17 := nt (nt (nt (nt hn1.ext.size hx3.size) hx6.size) hn7.ext.size) hp9.only.size
  have me18 := ((hx.then' hx57 (by simp) (nt me17 hl1)).trans hn80.ext).then' hp82.only (by simp) (nt hx.size hx57.size)
  refine Lc (field_of _ 0 100 v b (hb.ext me18) (by first | first | omega | (simp; omega) | rfl | (simp <;> omega)) (by first | first | omega | (simp; omega) | rfl | (simp <;> omega))) ?_
  rintro _ h44 ⟨rfl, hx84⟩
  refine Lc (cstring_Parse _ (slcut 1 0 100 v) ((b.take 100).drop 0) ((Bytes.cut (lo := 0) (hi := 100) hb (by first | omega | (simp; omega)) (by first | omega | (simp; omega))).ext (me18.trans hx84))) ?_
  rintro _ h45 ⟨rfl, hx85⟩
  refine Mx ?_
  refine A2 ?_
  refine Nx ?_
  refine Wu _ (tk7 9 8 6 5 2 0 39) ?_
  refine Wq (Wq (Wg ?_))
  refine Mv ?_
  refine Ly Yne ?_
  refine Nx ?_
  refine Sd (fun g1 => ?_) fun g1 => ?_
  ·refine Wr ?_
   refine Ly (Yb (.agg #[.int .u8 0, str [], str [], str [], .int .i64 0, .int .i64 0]) [] [] []) ?_
   have hc86 := (((((kb2.only hx57 (ni_lt (ntl hk2.lt (nt (nt (nt (nt hx3.size hx6.size) hn7.ext.size) hp9.only.size) hl1)))).ext hn80.ext).only hp82.only (ni_lt (ntl kb2.lt hx57.size))).ext hx84).ext hx85)
   refine Lds [.int .u8 0, str [], str [], str [], .int .i64 0, .int .i64 0] hc86 ?_
   rintro h46 hp87
   have hk88 : Blk h46 h.size [.int .u8 0, str [], str [], str [], .int .i64 0, .int .i64 0] := hp87.blk
   refine Av ?_
   refine Ln (Xt (Wt (Xr (Yr (Xr (Yr (Xr ?_)))))))
   refine X_retv2 rfl (RVa Tryz.underlying71 hk88) rfl ?_
   have hq := uderr_syn hv k' (fun h9 => g1 h9.1)
   obtain ⟨q1, q2, q3, q4, q5, q6⟩ := ud_bad hq (by decide)
   have me19 := ((me18.trans hx84).trans hx85).then' hp87.only (by simp) (Nat.le_refl _)
   exact ⟨by rw [q1, q2, q3, q4, q5, q6, hq], me19⟩
  refine Wk (Xt (Wg ?_))
  refine M2 ?_
  refine Ly (Y_nilCheck rfl) ?_
  have hc89 := (((((kb5.only hx57 (ni_lt (ntl hk8.lt (nt hp9.only.size hl1)))).ext hn80.ext).only hp82.only (ni_lt (ntl kb5.lt hx57.size))).ext hx84).ext hx85)
  refine Lds [str (pstr ((b.take 100).drop 0))] hc89 ?_
  rintro h47 hp90
  have hk91 : Blk h47 h4.size [.int .u8 (byt b 156), str (pstr ((b.take 100).drop 0)), str (ud (done 2) (udp b)), str (ud (done 3) (udl b)), .int .i64 0, .int .i64 0] := hp90.blk
  refine Ln (Xb ?_)
  refine X_loop (fun o => decide (o = 1) || done o) (tk4 5 2 0 39) ?_ ?_
  have hc92 := (((((hi58.ext hn80.ext).only hp82.only (ni_lt (ntl hit2.lt hx57.size)) (ni_lt (ntl hit2.atm.lt hx57.size))).ext hx84).ext hx85).only hp90.only (ni_gt (ntl hk8.lt (nt hp9.only.size hl1))) (ni_gt (ntl hk8.lt (nt hp9.only.size hl2))))
  have hc93 := ((((((kb2.only hx57 (ni_lt (ntl hk2.lt (nt (nt (nt (nt hx3.size hx6.size) hn7.ext.size) hp9.only.size) hl1)))).ext hn80.ext).only hp82.only (ni_lt (ntl kb2.lt hx57.size))).ext hx84).ext hx85).only hp90.only (ni_lt (ntl hk2.lt (nt hx3.size hx6.size))))
  have me20 := ((me18.trans hx84).trans hx85).then' hp90.only (by simp) (nt (nt hn1.ext.size hx3.size) hx6.size)
  ·exact ⟨(hc92).it, hk91, hc93, fun _ => Decidable.not_not.1 g1, e2, e3, me20⟩
  (try dsimp only)
  exact mu1 hd _ _
 ·refine Lx ?_
  refine Ln (Xt (Wq ?_))
  refine W_true rfl ?_
  refine Wk (Xt (Wb (Wq (Wg ?_))))
  refine Ly (Y_entrymap rfl hi58) ?_
  refine Lxx ?_
  refine L_mks (M_alloc (u := .agg #[.int .i64 0, .int .i64 0]) (by kernel_rfl)) rfl rfl rfl ?_
  rintro _ h48 ⟨rfl, hn94⟩
  have hk95 : Blk h48 h32.size [.int .i64 0, .int .i64 0] := hn94.blk
  refine Av ?_
  refine Lds [.int .i64 157, .int .i64 100] hk95 ?_
  rintro h49 hp96
  have hk97 : Blk h49 h32.size [.int .i64 157, .int .i64 100] := hp96.blk
  refine Ln (Xt (Wq (Wg ?_)))
  refine Lg Tryz.underlying117 hk97 ?_
  refine Mv ?_
  have me21 := nt (nt (nt (nt hn1.ext.size hx3.size) hx6.size) hn7.ext.size) hp9.only.size
  have me22 := ((hx.then' hx57 (by simp) (nt me21 hl1)).trans hn94.ext).then' hp96.only (by simp) (nt hx.size hx57.size)
  refine Lc (field_of _ 157 100 v b (hb.ext me22) (by first | first | omega | (simp; omega) | rfl | (simp <;> omega)) (by first | first | omega | (simp; omega) | rfl | (simp <;> omega))) ?_
  rintro _ h50 ⟨rfl, hx98⟩
  refine Lc (cstring_Parse _ (slcut 1 157 257 v) ((b.take 257).drop 157) ((Bytes.cut (lo := 157) (hi := 257) hb (by first | omega | (simp; omega)) (by first | omega | (simp; omega))).ext (me22.trans hx98))) ?_
  rintro _ h51 ⟨rfl, hx99⟩
  refine Mx ?_
  refine A2 ?_
  refine Nx ?_
  refine Wu _ (tk7 9 8 6 5 2 0 39) ?_
  refine Wq (Wq (Wg ?_))
  refine Mv ?_
  refine Ly Yne ?_
  refine Nx ?_
  refine Sd (fun g1 => ?_) fun g1 => ?_
  ·refine Wr ?_
   refine Ly (Yb (.agg #[.int .u8 0, str [], str [], str [], .int .i64 0, .int .i64 0]) [] [] []) ?_
   have hc100 := (((((kb2.only hx57 (ni_lt (ntl hk2.lt (nt (nt (nt (nt hx3.size hx6.size) hn7.ext.size) hp9.only.size) hl1)))).ext hn94.ext).only hp96.only (ni_lt (ntl kb2.lt hx57.size))).ext hx98).ext hx99)
   refine Lds [.int .u8 0, str [], str [], str [], .int .i64 0, .int .i64 0] hc100 ?_
   rintro h52 hp101
   have hk102 : Blk h52 h.size [.int .u8 0, str [], str [], str [], .int .i64 0, .int .i64 0] := hp101.blk
   refine Av ?_
   refine Ln (Xt (Wt (Xr (Yr (Xr (Yr (Xr ?_)))))))
   refine X_retv2 rfl (RVa Tryz.underlying71 hk102) rfl ?_
   have hq := uderr_syn hv k' (fun h9 => g1 h9.2.1)
   obtain ⟨q1, q2, q3, q4, q5, q6⟩ := ud_bad hq (by decide)
   have me23 := ((me22.trans hx98).trans hx99).then' hp101.only (by simp) (Nat.le_refl _)
   exact ⟨by rw [q1, q2, q3, q4, q5, q6, hq], me23⟩
  refine Wk (Xt (Wg ?_))
  refine M2 ?_
  refine Ly (Y_nilCheck rfl) ?_
  have hc103 := (((((kb5.only hx57 (ni_lt (ntl hk8.lt (nt hp9.only.size hl1)))).ext hn94.ext).only hp96.only (ni_lt (ntl kb5.lt hx57.size))).ext hx98).ext hx99)
  refine Lds [str (pstr ((b.take 257).drop 157))] hc103 ?_
  rintro h53 hp104
  have hk105 : Blk h53 h4.size [.int .u8 (byt b 156), str (ud (done 1) (udn b)), str (ud (done 2) (udp b)), str (pstr ((b.take 257).drop 157)), .int .i64 0, .int .i64 0] := hp104.blk
  refine Ln (Xb ?_)
  refine X_loop (fun o => decide (o = 3) || done o) (tk4 5 2 0 39) ?_ ?_
  have hc106 := (((((hi58.ext hn94.ext).only hp96.only (ni_lt (ntl hit2.lt hx57.size)) (ni_lt (ntl hit2.atm.lt hx57.size))).ext hx98).ext hx99).only hp104.only (ni_gt (ntl hk8.lt (nt hp9.only.size hl1))) (ni_gt (ntl hk8.lt (nt hp9.only.size hl2))))
  have hc107 := ((((((kb2.only hx57 (ni_lt (ntl hk2.lt (nt (nt (nt (nt hx3.size hx6.size) hn7.ext.size) hp9.only.size) hl1)))).ext hn94.ext).only hp96.only (ni_lt (ntl kb2.lt hx57.size))).ext hx98).ext hx99).only hp104.only (ni_lt (ntl hk2.lt (nt hx3.size hx6.size))))
  have me24 := ((me22.trans hx98).trans hx99).then' hp104.only (by simp) (nt (nt hn1.ext.size hx3.size) hx6.size)
  ·exact ⟨(hc106).it, hk105, hc107, e1, e2, fun _ => Decidable.not_not.1 g1, me24⟩
  (try dsimp only)
  exact mu3 hd _ _
 refine Lx ?_
 refine Ln (Xt (Wq ?_))
 refine W_true rfl ?_
 refine Wk (Xt (Wb (Wq (Wg ?_))))
 refine Ly (Y_entrymap rfl hi58) ?_
 refine Lxx ?_
 refine L_mks (M_alloc (u := .agg #[.int .i64 0, .int .i64 0]) (by kernel_rfl)) rfl rfl rfl ?_
 rintro _ h54 ⟨rfl, hn108⟩
 have hk109 : Blk h54 h32.size [.int .i64 0, .int .i64 0] := hn108.blk
 refine Av ?_
 refine Lds [.int .i64 345, .int .i64 155] hk109 ?_
 rintro h55 hp110
 have hk111 : Blk h55 h32.size [.int .i64 345, .int .i64 155] := hp110.blk
 refine Ln (Xt (Wq (Wg ?_)))
 refine Lg Tryz.underlying117 hk111 ?_
 refine Mv ?_
 have me25 := nt (nt (nt (nt hn1.ext.size hx3.size) hx6.size) hn7.ext.size) hp9.only.size
 have me26 := ((hx.then' hx57 (by simp) (nt me25 hl1)).trans hn108.ext).then' hp110.only (by simp) (nt hx.size hx57.size)
 refine Lc (field_of _ 345 155 v b (hb.ext me26) (by first | first | omega | (simp; omega) | rfl | (simp <;> omega)) (by first | first | omega | (simp; omega) | rfl | (simp <;> omega))) ?_
 rintro _ h56 ⟨rfl, hx112⟩
 refine Lc (cstring_Parse _ (slcut 1 345 500 v) ((b.take 500).drop 345) ((Bytes.cut (lo := 345) (hi := 500) hb (by first | omega | (simp; omega)) (by first | omega | (simp; omega))).ext (me26.trans hx112))) ?_
 rintro _ h57 ⟨rfl, hx113⟩
 refine Mx ?_
 refine A2 ?_
 refine Nx ?_
 refine Wu _ (tk7 9 8 6 5 2 0 39) ?_
 refine Wq (Wq (Wg ?_))
 refine Mv ?_
 refine Ly Yne ?_
 refine Nx ?_
 refine Sd (fun g1 => ?_) fun g1 => ?_
 ·refine Wr ?_
  refine Ly (Yb (.agg #[.int .u8 0, str [], str [], str [], .int .i64 0, .int .i64 0]) [] [] []) ?_
  have hc114 := (((((kb2.only hx57 (ni_lt (ntl hk2.lt (nt (nt (nt (nt hx3.size hx6.size) hn7.ext.size) hp9.only.size) hl1)))).ext hn108.ext).only hp110.only (ni_lt (ntl kb2.lt hx57.size))).ext hx112).ext hx113)
  refine Lds [.int .u8 0, str [], str [], str [], .int .i64 0, .int .i64 0] hc114 ?_
  rintro h58 hp115
  have hk116 : Blk h58 h.size [.int .u8 0, str [], str [], str [], .int .i64 0, .int .i64 0] := hp115.blk
  refine Av ?_
  refine Ln (Xt (Wt (Xr (Yr (Xr (Yr (Xr ?_)))))))
  refine X_retv2 rfl (RVa Tryz.underlying71 hk116) rfl ?_
  have hq := uderr_syn hv k' (fun h9 => g1 h9.2.2.1)
  obtain ⟨q1, q2, q3, q4, q5, q6⟩ := ud_bad hq (by decide)
  have me27 := ((me26.trans hx112).trans hx113).then' hp115.only (by simp) (Nat.le_refl _)
  exact ⟨by rw [q1, q2, q3, q4, q5, q6, hq], me27⟩
 refine Wk (Xt (Wg ?_))
 refine M2 ?_
 refine Ly (Y_nilCheck rfl) ?_
 have hc117 := (((((kb5.only hx57 (ni_lt (ntl hk8.lt (nt hp9.only.size hl1)))).ext hn108.ext).only hp110.only (ni_lt (ntl kb5.lt hx57.size))).ext hx112).ext hx113)
 refine Lds [str (pstr ((b.take 500).drop 345))] hc117 ?_
 rintro h59 hp118
 have hk119 : Blk h59 h4.size [.int .u8 (byt b 156), str (ud (done 1) (udn b)), str (pstr ((b.take 500).drop 345)), str (ud (done 3) (udl b)), .int .i64 0, .int .i64 0] := hp118.blk
 refine Ln (Xb ?_)
 refine X_loop (fun o => decide (o = 2) || done o) (tk4 5 2 0 39) ?_ ?_
 have hc120 := (((((hi58.ext hn108.ext).only hp110.only (ni_lt (ntl hit2.lt hx57.size)) (ni_lt (ntl hit2.atm.lt hx57.size))).ext hx112).ext hx113).only hp118.only (ni_gt (ntl hk8.lt (nt hp9.only.size hl1))) (ni_gt (ntl hk8.lt (nt hp9.only.size hl2))))
 have hc121 := ((((((kb2.only hx57 (ni_lt (ntl hk2.lt (nt (nt (nt (nt hx3.size hx6.size) hn7.ext.size) hp9.only.size) hl1)))).ext hn108.ext).only hp110.only (ni_lt (ntl kb2.lt hx57.size))).ext hx112).ext hx113).only hp118.only (ni_lt (ntl hk2.lt (nt hx3.size hx6.size))))
 have me28 := ((me26.trans hx112).trans hx113).then' hp118.only (by simp) (nt (nt hn1.ext.size hx3.size) hx6.size)
 ·exact ⟨(hc120).it, hk119, hc121, e1, fun _ => Decidable.not_not.1 g1, e3, me28⟩
 (try dsimp only)
 exact mu2 hd _ _

end Go.Xp
