/- Library functions on slices of bytes: slices.Clone, slices.Equal. -/
import Derived.Test.YtdmhigknppkniaaGreatDoorCstr
import Derived.Test.YtdmhigknppkniaaGreatDoorArr
import Derived.Test.YtdmhigknppkniaaGreatDoorProg
import Derived.KernelRfl
import Derived.Test.YtdmhigknppkniaaGreatDoorShelf
import Derived.Test.YtdmhigknppkniaaGreatDoorRws
import Derived.Lib.AppendIntMem
import Derived.Lib.ItoaMem
import Derived.Below
set_option linter.unusedSimpArgs false
set_option linter.unusedVariables false
set_option maxRecDepth 100000
namespace Go.Xp
open Go.Proofs

theorem slices_CloneB (h : Heap) (v : Value) (b : List UInt8) (hb : Bytes h v b) (hl : b.length ≤ 140737488355328) : Cal Tryz.prog 18 #[v] h (fun v h' => ∃ s0, v = s0 ∧ OwnB h' h.size s0 (b) ∧ Ext h h') := by
 refine Ce Tryz.func18 fun σ => ?_
 refine Wa ?_
 refine Ln (Xt (Wq (Wq (Wg ?_))))
 refine Mv ?_
 refine Ly (Y_slnil Tryz.underlying22 rfl hb) ?_
 refine Nx ?_
 refine W_split rfl (fun c => ?_) (fun c => ?_)
 ·refine Wa ?_
  refine Ln (Xt (Wt (Xr ?_)))
  refine Xv1 ?_
  exact ⟨_, rfl, by rw [isNil_nil hb c]; exact OwnB.nil _ _, (Ext.refl _)⟩
 refine Wk (Xt (Wq (Wg ?_)))
 refine L_mks (M_litb (l := ([] : List UInt8)) (cells := []) (pv := []) (E := 5) (evp (is := []) (os := []) (vs := []) rfl rfl) rfl rfl (fun _ => by kernel_rfl)) rfl rfl rfl ?_
 rintro v1 h1 ⟨ho2, hx3⟩
 refine Mv ?_
 refine L_mks (M_appb Tryz.underlying22 (by unfold elemRow; kernel_rfl) rfl rfl ho2 (hb.ext hx3) hx3.size (by first | omega | (simp; omega))) rfl rfl rfl ?_
 rintro v4 h2 ha5
 refine An ?_
 refine Wu _ (tk1 2) ?_
 refine Wt ?_
 refine Xv1 ?_
 exact ⟨_, rfl, (by simpa using (ha5.own).low (Nat.le_refl _)), (hx3.then' ha5.only ha5.ge (Nat.le_refl _))⟩

theorem byt_extS {a b : List UInt8} (hl : a.length = b.length) (h : ∀ k, k < a.length → byt a k = byt b k) : a = b := by
  apply List.ext_getElem hl
  intro i h1 h2
  have := h i h1
  rw [byt_eq h1, byt_eq h2] at this
  exact UInt8.toNat_inj.1 (by omega)

theorem slices_EqualB (h : Heap) (v : Value) (a : List UInt8) (ha : Bytes h v a) (u : Value) (b : List UInt8) (hb : Bytes h u b) (hl0 : a.length ≤ 140737488355328) : Cal Tryz.prog 55 #[v, u] h (fun v h' => v = .bool (decide (a = b)) ∧ h' = h) := by
 refine Ce Tryz.func55 fun σ => ?_
 refine Wa ?_
 refine Ln (Xt (Wq (Wq (Wg ?_))))
 refine Mv ?_
 refine Ly (Y_len Tryz.underlying22 rfl ha) ?_
 refine Mv ?_
 refine Ly (Y_len Tryz.underlying22 rfl hb) ?_
 refine Ly Yne ?_
 refine Nx ?_
 refine Sd (fun c => ?_) fun c => ?_
 ·refine Wa ?_
  refine Ln (Xt (Wt (Xr ?_)))
  refine Xv1 ?_
  exact ⟨by rw [decide_eq_false (fun e => c (by rw [e]))], rfl⟩
 refine Ws ?_
 have hlen : a.length = b.length := by omega
 refine Wq (Wq (Wg ?_))
 refine Mv ?_
 refine Ly (Y_len Tryz.underlying22 rfl ha) ?_
 refine Mv ?_
 refine Nx ?_
 refine Wu _ (tk5 13 12 4 0 1) ?_
 refine Wb ?_
 refine W_loop (S := Nat) (fun i => [(12, .int .i64 ((a.length : Int))), (0, v), (1, u), (13, .int .i64 ((i : Int)))]) (fun i h' => i ≤ a.length ∧ (∀ k, k < i → byt a k = byt b k) ∧ h' = h) (fun i => a.length - i) 0 (tk4 12 0 1 13) ?_ ?_
 ·exact ⟨Nat.zero_le _, (fun _ hk => absurd hk (Nat.not_lt_zero _)), rfl⟩
 rintro i h ⟨hi, hip, rfl⟩
 show W _ _ _ _ _ [(12, .int .i64 ((a.length : Int))), (0, v), (1, u), (13, .int .i64 ((i : Int)))] _
 refine Wr ?_
 refine Ly Yls ?_
 refine Ln (Xt (Wq ?_))
 refine Sd (fun hl => ?_) fun hl => ?_
 ·refine Wk (Xt (Wq (Wb (Wq (Wg ?_)))))
  refine Mv ?_
  refine Av ?_
  refine Ln (Xt (Wq ?_))
  refine W_quiet (fun h' => h' = h) (by kernel_rfl) (by kernel_rfl) rfl ?_
  refine Qm ?_
  refine Qm ?_
  refine Qy (Y_idx Tryz.underlying22 (show _ = some 1 by kernel_rfl) rfl rfl ha (by omega) (by omega)) ?_
  refine Qy (Y_ldbyte Tryz.underlying5 rfl rfl ha (by omega) (by omega)) ?_
  refine Qm ?_
  refine Qm ?_
  refine Qy (Y_idx Tryz.underlying22 (show _ = some 1 by kernel_rfl) rfl rfl hb (by omega) (by omega)) ?_
  refine Qy (Y_ldbyte Tryz.underlying5 rfl rfl hb (by omega) (by omega)) ?_
  refine Qy (Y_neq rfl rfl) ?_
  refine LQ_nil ?_
  rintro h rfl
  refine Xt ?_
  refine Wu _ (tk5 24 12 0 1 13) ?_
  refine Sd (fun hne => ?_) fun hne => ?_
  ·refine Wa ?_
   refine Ln (Xt (Wt (Yr (Xr (Xr (Yr (Xr ?_)))))))
   refine Xv1 ?_
   exact ⟨by rw [decide_eq_false (fun e => hne (by rw [e]))], rfl⟩
  refine Wk (Xb (Xt (Wg ?_)))
  refine Lad ?_
  refine Mv ?_
  refine Ln ?_
  refine X_loop (i + 1) (tk4 12 0 1 13) ?_ ?_
  ·exact ⟨by omega, (step_ne hip (by simpa using hne)), rfl⟩
  (try dsimp only)
  omega
 refine W_exit ?_
 refine Xe (Xe ?_)
 refine X_block_hit ?_
 refine Xt (Wq (Wg ?_))
 refine Av ?_
 refine Ln (Xt (Wt ?_))
 refine Xv1 ?_
 exact ⟨by rw [decide_eq_true (byt_extS hlen (fun k hk => hip k (by omega)))], rfl⟩

end Go.Xp

/- Decimal numbers: strconv's Itoa, FormatInt, AppendInt and ParseInt. -/
set_option linter.unusedSectionVars false
namespace Go.Xp
open Go.Proofs Go.RowKit
open Go.Sort (putRow Holds)

/-- Block 'g' holds just these cells. -/
def TabH (h : Heap) (g : Nat) (vs : Array Value) : Prop := ∃ T z, h[g]? = some (.cells vs T z)
theorem TabH.ext {h h' : Heap} {g : Nat} {vs : Array Value} (x : TabH h g vs) (y : Ext h h') : TabH h' g vs := by
  obtain ⟨T, z, e⟩ := x
  exact ⟨T, z, by rw [y.same g (Array.getElem?_eq_some_iff.1 e).1 (by simp)]; exact e⟩
/-- Block 'g' holds an interface value. -/
def IfcH (h : Heap) (g : Nat) : Prop := ∃ te pe, cellAt h g 0 = some (.iface te pe)
theorem IfcH.ext {h h' : Heap} {g : Nat} (x : IfcH h g) (hg : g < h.size) (y : Ext h h') : IfcH h' g := by
  obtain ⟨te, pe, e⟩ := x
  exact ⟨te, pe, by rw [y.cellAt hg (by simp)]; exact e⟩
/-- What the numbers' functions read of the library's variables. -/
structure GlbN (h : Heap) : Prop where
  t0 : TabH h 15 ((Lib.pow10Tab.map fun z => Value.int .u64 z).toArray)
theorem GlbN.ext {h h' : Heap} (x : GlbN h) (y : Ext h h') : GlbN h' := ⟨x.t0.ext y⟩
structure GlbE (h : Heap) : Prop where
  i0 : 17 < h.size ∧ IfcH h 17
theorem GlbE.ext {h h' : Heap} (x : GlbE h) (y : Ext h h') : GlbE h' := ⟨ntl x.i0.1 y.size, x.i0.2.ext x.i0.1 y⟩
theorem tabIs {w : World} (x : GlbN w.heap) : Lib.TabIs Tryz.prog w "internal/strconv.uint64pow10" .u64 Lib.pow10Tab := by
  obtain ⟨T, z, e⟩ := x.t0
  unfold Lib.TabIs World.var?
  rw [show Tryz.prog.globalNamed "internal/strconv.uint64pow10" = some 15 by kernel_rfl]
  simp only [Option.bind_some, e]

theorem strconv_Itoa (h : Heap) (hN : GlbN h) (n : Int) (h0 : -9223372036854775808 ≤ n ∧ n ≤ 9223372036854775807) : Cal Tryz.prog 120 #[.int .i64 n] h (fun v h' => v = str (Lib.itoa n) ∧ Ext h h') := fun w hw => by
  refine (Tryz.strconv_Itoa n h0.1 h0.2 w (tabIs (hw ▸ hN))).mono ?_
  rintro e w' ⟨rfl, k, os, rfl⟩
  have hb := Lib.below_grow w.heap.size w (Nat.le_refl _) k os
  refine ⟨_, rfl, by unfold std; rw [hb.os, hb.tape, hb.output], rfl, hw ▸ ⟨hb.size, fun k hk _ => hb.block k hk⟩⟩
theorem strconv_FormatInt (h : Heap) (hN : GlbN h) (n : Int) (h0 : -9223372036854775808 ≤ n ∧ n ≤ 9223372036854775807) : Cal Tryz.prog 77 #[.int .i64 n, .int .i64 10] h (fun v h' => v = str (Lib.itoa n) ∧ Ext h h') := fun w hw => by
  refine (Tryz.strconv_FormatInt_10 n h0.1 h0.2 w (tabIs (hw ▸ hN))).mono ?_
  rintro e w' ⟨rfl, k, os, rfl⟩
  have hb := Lib.below_grow w.heap.size w (Nat.le_refl _) k os
  refine ⟨_, rfl, by unfold std; rw [hb.os, hb.tape, hb.output], rfl, hw ▸ ⟨hb.size, fun k hk _ => hb.block k hk⟩⟩
theorem strconv_small (h : Heap) (n : Int) (h0 : 0 ≤ n ∧ n < 100) : Cal Tryz.prog 138 #[.int .i64 n] h (fun v h' => v = str (Lib.decDigits n.toNat) ∧ h' = h) := fun w hw => by
  have k := Tryz.internal_strconv_small n.toNat (by omega) w
  rw [Int.toNat_of_nonneg h0.1] at k
  refine k.mono ?_
  rintro e w' ⟨rfl, rfl⟩
  exact ⟨_, rfl, rfl, rfl, hw⟩
theorem strconv_numDigits (h : Heap) (hN : GlbN h) (n : Int) (h0 : 1 ≤ n ∧ n < 18446744073709551616) : Cal Tryz.prog 139 #[.int .u64 n] h (fun v h' => v = .int .i64 (Lib.nDigits n.toNat : Int) ∧ h' = h) := fun w hw => by
  have k := Tryz.internal_strconv_numDigits n.toNat (by omega) (by omega) w (tabIs (hw ▸ hN))
  rw [Int.toNat_of_nonneg (by omega)] at k
  refine k.mono ?_
  rintro e w' ⟨rfl, rfl⟩
  exact ⟨_, rfl, rfl, rfl, hw⟩
/-! ### The digits, laid into a buffer -/
theorem Buf.put {w : World} {b : Nat} {L : List UInt8} (hb : Buf w.heap b L) (d : Array UInt8) (hd : d.size ≤ L.length) (k : Nat) :
    Only [b] w.heap ((putRow (fun (b : UInt8) => Value.int .u8 (b.toNat : Int)) w b 0 d).drewN k).heap ∧ Buf ((putRow (fun (b : UInt8) => Value.int .u8 (b.toNat : Int)) w b 0 d).drewN k).heap b (d.toList ++ L.drop d.size) := by
  show Only [b] w.heap (w.heap.modify b (Go.Sort.onCells (Go.Sort.putCells (fun (b : UInt8) => Value.int .u8 (b.toNat : Int)) 0 d))) ∧ Buf (w.heap.modify b (Go.Sort.onCells (Go.Sort.putCells (fun (b : UInt8) => Value.int .u8 (b.toNat : Int)) 0 d))) b _
  refine ⟨⟨by simp, fun j hj hn => ?_⟩, ?_⟩
  · rw [Array.getElem?_modify, if_neg (fun e => hn (by simp [e]))]
  · obtain ⟨T, lo, hi, h1, h2⟩ := hb
    refine ⟨T, lo, hi, ?_, ?_⟩
    · rw [Array.getElem?_modify, if_pos rfl, h1]
      simp only [Option.map_some, Go.Sort.onCells, Option.some.injEq, Obj.cells.injEq, and_true]
      apply Array.ext_getElem?
      intro i
      simp only [Go.Sort.putCells, Array.getElem?_mapIdx, List.getElem?_toArray, List.getElem?_map, Nat.zero_le, true_and, Nat.zero_add, Nat.sub_zero]
      by_cases hi : i < d.size
      · rw [List.getElem?_append_left (by simpa using hi), List.getElem?_eq_getElem (by omega : i < L.length)]
        simp only [Option.map_some, if_pos hi, Array.getElem?_toList, Array.getElem?_eq_getElem hi, bv, getElem!_pos d i hi]
      · rw [List.getElem?_append_right (by simpa using Nat.not_lt.1 hi), List.getElem?_drop, Array.length_toList, show d.size + (i - d.size) = i by omega]
        cases L[i]? <;> simp [if_neg hi]
    · intro i hl
      refine h2 i ?_
      simp only [List.length_map, List.length_append, Array.length_toList, List.length_drop] at hl ⊢
      omega
theorem strconv_formatBase10 (h : Heap) (b m N : Nat) (L : List UInt8) (hb : Buf h b L) (n : Int) (h0 : 1 ≤ n ∧ n < 18446744073709551616) (hm : m = Lib.nDigits n.toNat) (hL : m ≤ L.length) (hL2 : L.length ≤ 1048576) :
    Cal Tryz.prog 140 #[slcut 1 0 m (.slice (some ⟨b, 0, none⟩) N N), .int .u64 n] h (fun v h' => v = .tuple #[] ∧ Only [b] h h' ∧ Buf h' b (Lib.decDigits n.toNat ++ L.drop m)) := fun w hw => by
  subst hw
  have hsz : (L.take m).toArray.size = m := by simp [hL]
  have hH : Holds (fun (b : UInt8) => Value.int .u8 (b.toNat : Int)) w b 0 (L.take m).toArray := fun j hj => by
    have hj' : j < m := hsz ▸ hj
    obtain ⟨T, lo, hi, h1, h2⟩ := hb
    refine ⟨?_, ?_⟩
    · simp only [World.cell?, h1, Nat.zero_add]
      rw [getElem!_pos _ j hj]
      simp [List.getElem?_eq_getElem (by omega : j < L.length), bv]
    · have := h2 j (by simp; omega)
      simp only [World.frozen?, h1, Nat.zero_add]
      simpa using this
  have k := Tryz.internal_strconv_formatBase10 b 0 N n.toNat (L.take m).toArray w hH (by rw [hsz, hm]; exact Lib.lt_pow_nDigits _) (by omega) (by rw [hsz]; omega)
  rw [Int.toNat_of_nonneg (by omega), hsz] at k
  have e : slcut 1 0 m (.slice (some ⟨b, 0, none⟩) N N) = .slice (some ⟨b, 0, none⟩) m N := by
    simp [slcut, Addr.add]
  rw [e]
  refine k.mono ?_
  rintro e w' ⟨rfl, q, v', dk, rfl, hF⟩
  have hdk : dk.toList = Lib.decDigits n.toNat := by
    apply List.ext_getElem
    · rw [Array.length_toList, hF.size, hm, Lib.decDigits_length]
    · intro i h1 h2
      subst hm
      rw [Lib.row_is_numeral hF i h2, getElem!_pos dk i (by simpa using h1), Array.getElem_toList]
  obtain ⟨k1, k2⟩ := hb.put dk (by rw [hF.size]; exact hL) q
  refine ⟨_, rfl, rfl, rfl, k1, ?_⟩
  rw [hdk, hF.size] at k2
  exact k2

/-! ### AppendInt -/
structure SzLe (h h' : Heap) : Prop where
  size : h.size ≤ h'.size
theorem AppB.pre {h h1 h' : Heap} {base : Nat} {v u : Value} {l : List UInt8} (a : AppB h1 h' base v u l) (x : Ext h h1) : AppB h h' base v u l := ⟨a.own, ⟨nt x.size a.only.size, fun k hk hn => (a.only.same k (ntl hk x.size) hn).trans (x.same k hk (by simp))⟩, a.ge⟩
theorem AppB.congr {h h' : Heap} {base : Nat} {v u : Value} {l l' : List UInt8} (a : AppB h h' base v u l) (e : l = l') : AppB h h' base v u l' := e ▸ a
theorem nDigits_le {u : Nat} (h : u < 18446744073709551616) : Lib.nDigits u ≤ 20 := by
  rcases Nat.lt_or_ge u 10 with h1 | h1
  · rw [Lib.nDigits_small h1]; omega
  · rcases Nat.lt_or_ge (Lib.nDigits u) 21 with h2 | h2
    · omega
    · exfalso
      have hp : ∀ (k u : Nat), k + 1 < Lib.nDigits u → 10 ^ (k + 1) ≤ u := by
        intro k
        induction k with
        | zero => intro u hu; rcases Nat.lt_or_ge u 10 with h3 | h3
                  · rw [Lib.nDigits_small h3] at hu; omega
                  · omega
        | succ k ih =>
          intro u hu
          rcases Nat.lt_or_ge u 10 with h3 | h3
          · rw [Lib.nDigits_small h3] at hu; omega
          · rw [Lib.nDigits_big (by omega)] at hu
            have := ih (u / 10) (by omega)
            have h4 := (Nat.le_div_iff_mul_le (by omega : 0 < 10)).1 this
            rw [Nat.pow_succ]; exact h4
      have := hp 19 u (by omega)
      omega

theorem wrap_u64b {n : Int} (h0 : 0 ≤ n) (h1 : n < 18446744073709551616) : IntKind.u64.wrap n = n := by rw [IntKind.wrap_u64]; exact Int.emod_eq_of_lt h0 (by omega)

theorem iAppendUint (h : Heap) (hN : GlbN h) (v0 : Value) (l : List UInt8) (h0 : Heap) (hl : SzLe h0 h) (ho : OwnB h h0.size v0 l) (n : Int) (hn : 0 ≤ n ∧ n < 18446744073709551616) (hlen : l.length ≤ 70368744177664) : Cal Tryz.prog 145 #[v0, .int .u64 (n), .int .i64 10] h (fun v h' => AppB h h' h0.size v0 v (l ++ Lib.decDigits n.toNat)) := by
 have hd : (Lib.decDigits n.toNat).length ≤ 20 := by rw [Lib.decDigits_length]; exact nDigits_le (by omega)
 have hd2 := nDigits_le (u := n.toNat) (by omega)
 have hd3 := Lib.nDigits_pos n.toNat
 have hd4 := Lib.decDigits_length n.toNat
 refine Ce Tryz.func145 fun σ => ?_
 refine Wa ?_
 refine Ln (Xt (Wq (Wq (Wg ?_))))
 refine Mv ?_
 refine Ly Yeq ?_
 refine Nx ?_
 refine W_known true rfl (by first | rfl | decide | simp) ?_
 refine Wq (Wq (Wg ?_))
 refine Mv ?_
 refine Ly Yls ?_
 refine Nx ?_
 refine Sd (fun g => ?_) fun g => ?_
 ·refine Wm ?_
  refine Mv ?_
  refine Ly (Y_convs Tryz.underlying179 Tryz.underlying3 rfl (wrap_i64 (by omega) (by omega))) ?_
  refine Lc (strconv_small _ n (by first | omega | rfl | (simp <;> omega; done) | (simp <;> omega))) ?_
  rintro _ h ⟨rfl, rfl⟩
  refine L_mks (M_appbs Tryz.underlying22 Tryz.underlying9 (by unfold elemRow; kernel_rfl) rfl rfl ho hl.size (by first | omega | (simp; omega))) rfl rfl rfl ?_
  rintro v1 h1 ha2
  refine An ?_
  refine Wu _ (tk4 6 0 1 2) ?_
  refine Wt (Xr (Xr ?_))
  refine Xv1 ?_
  exact AppB.pre ha2 (Ext.refl _)
 refine Wk (Xt (Wq (Wg ?_)))
 refine L_mks (M_allocarr (l := List.replicate 24 0) (by kernel_rfl)) rfl rfl rfl ?_
 rintro _ h2 ⟨rfl, hx3, hb4⟩
 refine Ln (Xt (Wq (Wg ?_)))
 refine Mv ?_
 refine Lc (strconv_numDigits _ (hN.ext hx3) n (by first | omega | rfl | (simp <;> omega; done) | (simp <;> omega))) ?_
 rintro _ h2 ⟨rfl, rfl⟩
 refine An ?_
 refine Wu _ (tk6 8 7 6 0 1 2) ?_
 refine Wm ?_
 refine Ly (Y_arrslice_h Tryz.underlying225 (show _ = some 1 by kernel_rfl) rfl rfl (by omega) (by omega)) ?_
 refine Mv ?_
 refine Lc (strconv_formatBase10 _ h.size (((Lib.nDigits n.toNat : Int)).toNat) 24 (List.replicate 24 0) hb4 n (by first | omega | rfl | (simp <;> omega; done) | (simp <;> omega)) (by first | omega | rfl | (simp <;> omega; done) | (simp <;> omega)) (by first | omega | rfl | (simp <;> omega; done) | (simp <;> omega)) (by first | omega | rfl | (simp <;> omega; done) | (simp <;> omega))) ?_
 rintro _ h3 ⟨rfl, hx5, hb6⟩
 refine Ln (Xt (Wq (Wg ?_)))
 refine M2 ?_
 refine Ly (Y_arrslice_h Tryz.underlying225 (show _ = some 1 by kernel_rfl) rfl rfl (by omega) (by omega)) ?_
 refine L_mks (M_appb Tryz.underlying22 (by unfold elemRow; kernel_rfl) rfl rfl (ho.ext (hx3.then' hx5 (by simp) (Nat.le_refl _))) (Bytes.cut (lo := 0) (hi := ((Lib.nDigits n.toNat : Int)).toNat) (hb6.bytes (by simp <;> omega)) (by omega) (by simp <;> omega)) (nt (nt hl.size hx3.size) hx5.size) (by first | omega | (simp; omega))) rfl rfl rfl ?_
 rintro v7 h4 ha8
 refine An ?_
 refine Wu _ (tk4 6 0 1 2) ?_
 refine Wt (Xr ?_)
 refine Xv1 ?_
 exact (AppB.pre ha8 (hx3.then' hx5 (by simp) (Nat.le_refl _))).congr (by first | (rw [← hd4]; simp; done) | (simp only [List.drop_zero, Int.toNat_natCast]; rw [← hd4]; simp))

theorem iAppendInt (h : Heap) (hN : GlbN h) (v0 : Value) (l : List UInt8) (h0 : Heap) (hl : SzLe h0 h) (ho : OwnB h h0.size v0 l) (n : Int) (hn : 0 ≤ n ∧ n ≤ 9223372036854775807) (hlen : l.length ≤ 70368744177664) : Cal Tryz.prog 119 #[v0, .int .i64 (n), .int .i64 10] h (fun v h' => AppB h h' h0.size v0 v (l ++ Lib.decDigits n.toNat)) := by
 refine Ce Tryz.func119 fun σ => ?_
 refine Wa ?_
 refine Ln (Xt (Wq (Wg ?_)))
 refine Mv ?_
 refine Ly (Y_convs Tryz.underlying2 Tryz.underlying179 rfl (wrap_u64b (by omega) (by omega))) ?_
 refine Av ?_
 refine Ln (Xt (Wq (Wq (Wg ?_))))
 refine Mv ?_
 refine Ly Yls ?_
 refine Nx ?_
 refine W_known false rfl (by exact decide_eq_false (by omega)) ?_
 refine Wk (Xt (Wq (Wg ?_)))
 refine M2 ?_
 refine Mv ?_
 refine Lc (iAppendUint _ hN v0 l h0 (⟨hl.size⟩) ho n (by first | omega | rfl | (simp <;> omega)) (by first | omega | rfl | (simp <;> omega))) ?_
 rintro v1 h1 ha2
 refine An ?_
 refine Wu _ (tk1 6) ?_
 refine Wt ?_
 refine Xv1 ?_
 exact AppB.pre ha2 (Ext.refl _)
theorem strconv_AppendInt (h : Heap) (hN : GlbN h) (v0 : Value) (l : List UInt8) (h0 : Heap) (hl : SzLe h0 h) (ho : OwnB h h0.size v0 l) (n : Int) (hn : 0 ≤ n ∧ n ≤ 9223372036854775807) (hlen : l.length ≤ 70368744177664) : Cal Tryz.prog 83 #[v0, .int .i64 (n), .int .i64 10] h (fun v h' => AppB h h' h0.size v0 v (l ++ Lib.decDigits n.toNat)) := by
 refine Ce Tryz.func83 fun σ => ?_
 refine Wa ?_
 refine Ln (Xt (Wq (Wg ?_)))
 refine M2 ?_
 refine Mv ?_
 refine Lc (iAppendInt _ hN v0 l h0 (⟨hl.size⟩) ho n (by first | omega | rfl | (simp <;> omega)) (by first | omega | rfl | (simp <;> omega))) ?_
 rintro v1 h1 ha2
 refine An ?_
 refine Wu _ (tk1 6) ?_
 refine Wt ?_
 refine Xv1 ?_
 exact AppB.pre ha2 (Ext.refl _)
end Go.Xp
