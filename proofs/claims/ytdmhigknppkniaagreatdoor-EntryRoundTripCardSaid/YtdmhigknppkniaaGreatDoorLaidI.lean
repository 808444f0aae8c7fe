/- Decimal numbers: strconv's Itoa, FormatInt, AppendInt and ParseInt. -/
import Derived.Test.YtdmhigknppkniaaGreatDoorShelf
import Derived.Test.YtdmhigknppkniaaGreatDoorRws
import Derived.Test.YtdmhigknppkniaaGreatDoorSlc
import Derived.Lib.AppendIntMem
import Derived.Lib.ItoaMem
import Derived.Below
import Derived.Test.YtdmhigknppkniaaGreatDoorOpen
import Derived.Lib.LaidTab
import Derived.LaidLaws
set_option linter.unusedSimpArgs false
set_option linter.unusedVariables false
set_option linter.unusedSectionVars false
namespace Go.Xp
open Go.Proofs Go.RowKit
open Go.Sort (putRow Holds)

/-- Block 'g' holds just these cells. -/
def TabH (h : Heap) (g : Nat) (vs : Array Value) : Prop := ∃ T z, h[g]? = some (.cells vs T z)
theorem TabH.ext {h h' : Heap} {g : Nat} {vs : Array Value} (x : TabH h g vs) (y : Ext h h') : TabH h' g vs := by
  obtain ⟨T, z, e⟩ := x
  exact ⟨T, z, by rw [y.same g (Array.getElem?_eq_some_iff.1 e).1 (by simp)]; exact e⟩
/-- Block 'g' holds an interface value. -/
def IfcH (h : Heap) (g : Nat) : Prop := ∃ te pe, cellAt h g 0 = some (.iface te pe)
theorem IfcH.ext {h h' : Heap} {g : Nat} (x : IfcH h g) (hg : g < h.size) (y : Ext h h') : IfcH h' g := by
  obtain ⟨te, pe, e⟩ := x
  exact ⟨te, pe, by rw [y.cellAt hg (by simp)]; exact e⟩
/-- What the numbers' functions read of the library's variables. -/
structure GlbN (h : Heap) : Prop where
  t0 : TabH h 15 ((Lib.pow10Tab.map fun z => Value.int .u64 z).toArray)
theorem GlbN.ext {h h' : Heap} (x : GlbN h) (y : Ext h h') : GlbN h' := ⟨x.t0.ext y⟩
structure GlbE (h : Heap) : Prop where
  i0 : 17 < h.size ∧ IfcH h 17
theorem GlbE.ext {h h' : Heap} (x : GlbE h) (y : Ext h h') : GlbE h' := ⟨ntl x.i0.1 y.size, x.i0.2.ext x.i0.1 y⟩
theorem tabIs {w : World} (x : GlbN w.heap) : Lib.TabIs Tryz.prog w "internal/strconv.uint64pow10" .u64 Lib.pow10Tab := by
  obtain ⟨T, z, e⟩ := x.t0
  unfold Lib.TabIs World.var?
  rw [show Tryz.prog.globalNamed "internal/strconv.uint64pow10" = some 15 by kernel_rfl]
  simp only [Option.bind_some, e]

theorem strconv_Itoa (h : Heap) (hN : GlbN h) (n : Int) (h0 : -9223372036854775808 ≤ n ∧ n ≤ 9223372036854775807) : Cal Tryz.prog 120 #[.int .i64 n] h (fun v h' => v = str (Lib.itoa n) ∧ Ext h h') := fun w hw => by
  refine (Tryz.strconv_Itoa n h0.1 h0.2 w (tabIs (hw ▸ hN))).mono ?_
  rintro e w' ⟨rfl, k, os, rfl⟩
  have hb := Lib.below_grow w.heap.size w (Nat.le_refl _) k os
  refine ⟨_, rfl, by unfold std; rw [hb.os, hb.tape, hb.output], rfl, hw ▸ ⟨hb.size, fun k hk _ => hb.block k hk⟩⟩
theorem strconv_FormatInt (h : Heap) (hN : GlbN h) (n : Int) (h0 : -9223372036854775808 ≤ n ∧ n ≤ 9223372036854775807) : Cal Tryz.prog 77 #[.int .i64 n, .int .i64 10] h (fun v h' => v = str (Lib.itoa n) ∧ Ext h h') := fun w hw => by
  refine (Tryz.strconv_FormatInt_10 n h0.1 h0.2 w (tabIs (hw ▸ hN))).mono ?_
  rintro e w' ⟨rfl, k, os, rfl⟩
  have hb := Lib.below_grow w.heap.size w (Nat.le_refl _) k os
  refine ⟨_, rfl, by unfold std; rw [hb.os, hb.tape, hb.output], rfl, hw ▸ ⟨hb.size, fun k hk _ => hb.block k hk⟩⟩
theorem strconv_small (h : Heap) (n : Int) (h0 : 0 ≤ n ∧ n < 100) : Cal Tryz.prog 138 #[.int .i64 n] h (fun v h' => v = str (Lib.decDigits n.toNat) ∧ h' = h) := fun w hw => by
  have k := Tryz.internal_strconv_small n.toNat (by omega) w
  rw [Int.toNat_of_nonneg h0.1] at k
  refine k.mono ?_
  rintro e w' ⟨rfl, rfl⟩
  exact ⟨_, rfl, rfl, rfl, hw⟩
theorem strconv_numDigits (h : Heap) (hN : GlbN h) (n : Int) (h0 : 1 ≤ n ∧ n < 18446744073709551616) : Cal Tryz.prog 139 #[.int .u64 n] h (fun v h' => v = .int .i64 (Lib.nDigits n.toNat : Int) ∧ h' = h) := fun w hw => by
  have k := Tryz.internal_strconv_numDigits n.toNat (by omega) (by omega) w (tabIs (hw ▸ hN))
  rw [Int.toNat_of_nonneg (by omega)] at k
  refine k.mono ?_
  rintro e w' ⟨rfl, rfl⟩
  exact ⟨_, rfl, rfl, rfl, hw⟩
/-! ### The digits, laid into a buffer -/
theorem Buf.put {w : World} {b : Nat} {L : List UInt8} (hb : Buf w.heap b L) (d : Array UInt8) (hd : d.size ≤ L.length) (k : Nat) :
    Only [b] w.heap ((putRow (fun (b : UInt8) => Value.int .u8 (b.toNat : Int)) w b 0 d).drewN k).heap ∧ Buf ((putRow (fun (b : UInt8) => Value.int .u8 (b.toNat : Int)) w b 0 d).drewN k).heap b (d.toList ++ L.drop d.size) := by
  show Only [b] w.heap (w.heap.modify b (Go.Sort.onCells (Go.Sort.putCells (fun (b : UInt8) => Value.int .u8 (b.toNat : Int)) 0 d))) ∧ Buf (w.heap.modify b (Go.Sort.onCells (Go.Sort.putCells (fun (b : UInt8) => Value.int .u8 (b.toNat : Int)) 0 d))) b _
  refine ⟨⟨by simp, fun j hj hn => ?_⟩, ?_⟩
  · rw [Array.getElem?_modify, if_neg (fun e => hn (by simp [e]))]
  · obtain ⟨T, lo, hi, h1, h2⟩ := hb
    refine ⟨T, lo, hi, ?_, ?_⟩
    · rw [Array.getElem?_modify, if_pos rfl, h1]
      simp only [Option.map_some, Go.Sort.onCells, Option.some.injEq, Obj.cells.injEq, and_true]
      apply Array.ext_getElem?
      intro i
      simp only [Go.Sort.putCells, Array.getElem?_mapIdx, List.getElem?_toArray, List.getElem?_map, Nat.zero_le, true_and, Nat.zero_add, Nat.sub_zero]
      by_cases hi : i < d.size
      · rw [List.getElem?_append_left (by simpa using hi), List.getElem?_eq_getElem (by omega : i < L.length)]
        simp only [Option.map_some, if_pos hi, Array.getElem?_toList, Array.getElem?_eq_getElem hi, bv, getElem!_pos d i hi]
      · rw [List.getElem?_append_right (by simpa using Nat.not_lt.1 hi), List.getElem?_drop, Array.length_toList, show d.size + (i - d.size) = i by omega]
        cases L[i]? <;> simp [if_neg hi]
    · intro i hl
      refine h2 i ?_
      simp only [List.length_map, List.length_append, Array.length_toList, List.length_drop] at hl ⊢
      omega
theorem strconv_formatBase10 (h : Heap) (b m N : Nat) (L : List UInt8) (hb : Buf h b L) (n : Int) (h0 : 1 ≤ n ∧ n < 18446744073709551616) (hm : m = Lib.nDigits n.toNat) (hL : m ≤ L.length) (hL2 : L.length ≤ 1048576) :
    Cal Tryz.prog 140 #[slcut 1 0 m (.slice (some ⟨b, 0, none⟩) N N), .int .u64 n] h (fun v h' => v = .tuple #[] ∧ Only [b] h h' ∧ Buf h' b (Lib.decDigits n.toNat ++ L.drop m)) := fun w hw => by
  subst hw
  have hsz : (L.take m).toArray.size = m := by simp [hL]
  have hH : Holds (fun (b : UInt8) => Value.int .u8 (b.toNat : Int)) w b 0 (L.take m).toArray := fun j hj => by
    have hj' : j < m := hsz ▸ hj
    obtain ⟨T, lo, hi, h1, h2⟩ := hb
    refine ⟨?_, ?_⟩
    · simp only [World.cell?, h1, Nat.zero_add]
      rw [getElem!_pos _ j hj]
      simp [List.getElem?_eq_getElem (by omega : j < L.length), bv]
    · have := h2 j (by simp; omega)
      simp only [World.frozen?, h1, Nat.zero_add]
      simpa using this
  have k := Tryz.internal_strconv_formatBase10 b 0 N n.toNat (L.take m).toArray w hH (by rw [hsz, hm]; exact Lib.lt_pow_nDigits _) (by omega) (by rw [hsz]; omega)
  rw [Int.toNat_of_nonneg (by omega), hsz] at k
  have e : slcut 1 0 m (.slice (some ⟨b, 0, none⟩) N N) = .slice (some ⟨b, 0, none⟩) m N := by
    simp [slcut, Addr.add]
  rw [e]
  refine k.mono ?_
  rintro e w' ⟨rfl, q, v', dk, rfl, hF⟩
  have hdk : dk.toList = Lib.decDigits n.toNat := by
    apply List.ext_getElem
    · rw [Array.length_toList, hF.size, hm, Lib.decDigits_length]
    · intro i h1 h2
      subst hm
      rw [Lib.row_is_numeral hF i h2, getElem!_pos dk i (by simpa using h1), Array.getElem_toList]
  obtain ⟨k1, k2⟩ := hb.put dk (by rw [hF.size]; exact hL) q
  refine ⟨_, rfl, rfl, rfl, k1, ?_⟩
  rw [hdk, hF.size] at k2
  exact k2

/-! ### AppendInt -/
structure SzLe (h h' : Heap) : Prop where
  size : h.size ≤ h'.size
theorem AppB.pre {h h1 h' : Heap} {base : Nat} {v u : Value} {l : List UInt8} (a : AppB h1 h' base v u l) (x : Ext h h1) : AppB h h' base v u l := ⟨a.own, ⟨nt x.size a.only.size, fun k hk hn => (a.only.same k (ntl hk x.size) hn).trans (x.same k hk (by simp))⟩, a.ge⟩
theorem AppB.congr {h h' : Heap} {base : Nat} {v u : Value} {l l' : List UInt8} (a : AppB h h' base v u l) (e : l = l') : AppB h h' base v u l' := e ▸ a
theorem nDigits_le {u : Nat} (h : u < 18446744073709551616) : Lib.nDigits u ≤ 20 := by
  rcases Nat.lt_or_ge u 10 with h1 | h1
  · rw [Lib.nDigits_small h1]; omega
  · rcases Nat.lt_or_ge (Lib.nDigits u) 21 with h2 | h2
    · omega
    · exfalso
      have hp : ∀ (k u : Nat), k + 1 < Lib.nDigits u → 10 ^ (k + 1) ≤ u := by
        intro k
        induction k with
        | zero => intro u hu; rcases Nat.lt_or_ge u 10 with h3 | h3
                  · rw [Lib.nDigits_small h3] at hu; omega
                  · omega
        | succ k ih =>
          intro u hu
          rcases Nat.lt_or_ge u 10 with h3 | h3
          · rw [Lib.nDigits_small h3] at hu; omega
          · rw [Lib.nDigits_big (by omega)] at hu
            have := ih (u / 10) (by omega)
            have h4 := (Nat.le_div_iff_mul_le (by omega : 0 < 10)).1 this
            rw [Nat.pow_succ]; exact h4
      have := hp 19 u (by omega)
      omega

theorem wrap_u64b {n : Int} (h0 : 0 ≤ n) (h1 : n < 18446744073709551616) : IntKind.u64.wrap n = n := by rw [IntKind.wrap_u64]; exact Int.emod_eq_of_lt h0 (by omega)

set_option maxRecDepth 100000 in
theorem iAppendUint (h : Heap) (hN : GlbN h) (v0 : Value) (l : List UInt8) (h0 : Heap) (hl : SzLe h0 h) (ho : OwnB h h0.size v0 l) (n : Int) (hn : 0 ≤ n ∧ n < 18446744073709551616) (hlen : l.length ≤ 70368744177664) : Cal Tryz.prog 145 #[v0, .int .u64 (n), .int .i64 10] h (fun v h' => AppB h h' h0.size v0 v (l ++ Lib.decDigits n.toNat)) := by
 have hd : (Lib.decDigits n.toNat).length ≤ 20 := by rw [Lib.decDigits_length]; exact nDigits_le (by omega)
 have hd2 := nDigits_le (u := n.toNat) (by omega)
 have hd3 := Lib.nDigits_pos n.toNat
 have hd4 := Lib.decDigits_length n.toNat
 refine Cal_enter (args := [v0, .int .u64 (n), .int .i64 10]) Tryz.func145 rfl rfl rfl (fun σ => ?_)
 refine Wa ?_
 refine Ln (Xt (Wq (Wq (Wg ?_))))
 refine Mv ?_
 refine Ly (Y_eql rfl rfl) ?_
 refine Nx ?_
 refine W_known true rfl (by first | rfl | decide | simp) ?_
 refine Wq (Wq (Wg ?_))
 refine Mv ?_
 refine Ly (Y_lss rfl rfl) ?_
 refine Nx ?_
 refine W_splitd rfl (fun g => ?_) (fun g => ?_)
 ·refine Wm ?_
  refine Mv ?_
  refine Ly (Y_convs Tryz.underlying179 Tryz.underlying3 rfl (wrap_i64 (by omega) (by omega))) ?_
  refine Lc (strconv_small _ n (by first | omega | rfl | (simp <;> omega; done) | (simp <;> omega))) ?_
  rintro _ h ⟨rfl, rfl⟩
  refine L_mks (M_appbs Tryz.underlying22 Tryz.underlying9 (by unfold elemRow; kernel_rfl) rfl rfl ho hl.size (by first | omega | (simp; omega))) rfl rfl rfl ?_
  rintro v1 h1 ha2
  refine An ?_
  refine Wu _ (tk4 6 0 1 2) ?_
  refine Wt (Xr (Xr ?_))
  refine X_ret1 rfl rfl ?_
  exact AppB.pre ha2 (Ext.refl _)
 refine Wk (Xt (Wq (Wg ?_)))
 refine L_mks (M_allocarr (l := List.replicate 24 0) (by kernel_rfl)) rfl rfl rfl ?_
 rintro _ h2 ⟨rfl, hx3, hb4⟩
 refine Ln (Xt (Wq (Wg ?_)))
 refine Mv ?_
 refine Lc (strconv_numDigits _ (hN.ext hx3) n (by first | omega | rfl | (simp <;> omega; done) | (simp <;> omega))) ?_
 rintro _ h2 ⟨rfl, rfl⟩
 refine An ?_
 refine Wu _ (tk6 8 7 6 0 1 2) ?_
 refine Wm ?_
 refine Ly (Y_arrslice_h Tryz.underlying225 (show _ = some 1 by kernel_rfl) rfl rfl (by omega) (by omega)) ?_
 refine Mv ?_
 refine Lc (strconv_formatBase10 _ h.size (((Lib.nDigits n.toNat : Int)).toNat) 24 (List.replicate 24 0) hb4 n (by first | omega | rfl | (simp <;> omega; done) | (simp <;> omega)) (by first | omega | rfl | (simp <;> omega; done) | (simp <;> omega)) (by first | omega | rfl | (simp <;> omega; done) | (simp <;> omega)) (by first | omega | rfl | (simp <;> omega; done) | (simp <;> omega))) ?_
 rintro _ h3 ⟨rfl, hx5, hb6⟩
 refine Ln (Xt (Wq (Wg ?_)))
 refine M2 ?_
 refine Ly (Y_arrslice_h Tryz.underlying225 (show _ = some 1 by kernel_rfl) rfl rfl (by omega) (by omega)) ?_
 refine L_mks (M_appb Tryz.underlying22 (by unfold elemRow; kernel_rfl) rfl rfl (ho.ext (hx3.then' hx5 (by simp) (Nat.le_refl _))) (Bytes.cut (lo := 0) (hi := ((Lib.nDigits n.toNat : Int)).toNat) (hb6.bytes (by simp <;> omega)) (by omega) (by simp <;> omega)) (nt (nt hl.size hx3.size) hx5.size) (by first | omega | (simp; omega))) rfl rfl rfl ?_
 rintro v7 h4 ha8
 refine An ?_
 refine Wu _ (tk4 6 0 1 2) ?_
 refine Wt (Xr ?_)
 refine X_ret1 rfl rfl ?_
 exact (AppB.pre ha8 (hx3.then' hx5 (by simp) (Nat.le_refl _))).congr (by first | (rw [← hd4]; simp; done) | (simp only [List.drop_zero, Int.toNat_natCast]; rw [← hd4]; simp))

set_option maxRecDepth 100000 in
theorem iAppendInt (h : Heap) (hN : GlbN h) (v0 : Value) (l : List UInt8) (h0 : Heap) (hl : SzLe h0 h) (ho : OwnB h h0.size v0 l) (n : Int) (hn : 0 ≤ n ∧ n ≤ 9223372036854775807) (hlen : l.length ≤ 70368744177664) : Cal Tryz.prog 119 #[v0, .int .i64 (n), .int .i64 10] h (fun v h' => AppB h h' h0.size v0 v (l ++ Lib.decDigits n.toNat)) := by
 refine Cal_enter (args := [v0, .int .i64 (n), .int .i64 10]) Tryz.func119 rfl rfl rfl (fun σ => ?_)
 refine Wa ?_
 refine Ln (Xt (Wq (Wg ?_)))
 refine Mv ?_
 refine Ly (Y_convs Tryz.underlying2 Tryz.underlying179 rfl (wrap_u64b (by omega) (by omega))) ?_
 refine Av ?_
 refine Ln (Xt (Wq (Wq (Wg ?_))))
 refine Mv ?_
 refine Ly (Y_lss rfl rfl) ?_
 refine Nx ?_
 refine W_known false rfl (by exact decide_eq_false (by omega)) ?_
 refine Wk (Xt (Wq (Wg ?_)))
 refine M2 ?_
 refine Mv ?_
 refine Lc (iAppendUint _ hN v0 l h0 (⟨hl.size⟩) ho n (by first | omega | rfl | (simp <;> omega)) (by first | omega | rfl | (simp <;> omega))) ?_
 rintro v1 h1 ha2
 refine An ?_
 refine Wu _ (tk1 6) ?_
 refine Wt ?_
 refine X_ret1 rfl rfl ?_
 exact AppB.pre ha2 (Ext.refl _)
set_option maxRecDepth 100000 in
theorem strconv_AppendInt (h : Heap) (hN : GlbN h) (v0 : Value) (l : List UInt8) (h0 : Heap) (hl : SzLe h0 h) (ho : OwnB h h0.size v0 l) (n : Int) (hn : 0 ≤ n ∧ n ≤ 9223372036854775807) (hlen : l.length ≤ 70368744177664) : Cal Tryz.prog 83 #[v0, .int .i64 (n), .int .i64 10] h (fun v h' => AppB h h' h0.size v0 v (l ++ Lib.decDigits n.toNat)) := by
 refine Cal_enter (args := [v0, .int .i64 (n), .int .i64 10]) Tryz.func83 rfl rfl rfl (fun σ => ?_)
 refine Wa ?_
 refine Ln (Xt (Wq (Wg ?_)))
 refine M2 ?_
 refine Mv ?_
 refine Lc (iAppendInt _ hN v0 l h0 (⟨hl.size⟩) ho n (by first | omega | rfl | (simp <;> omega)) (by first | omega | rfl | (simp <;> omega))) ?_
 rintro v1 h1 ha2
 refine An ?_
 refine Wu _ (tk1 6) ?_
 refine Wt ?_
 refine X_ret1 rfl rfl ?_
 exact AppB.pre ha2 (Ext.refl _)
end Go.Xp

/- What a row's inputs and variables read as: tables, errors, slices of structs. -/
set_option linter.unusedSimpArgs false
set_option linter.unusedVariables false
set_option linter.unusedSectionVars false
namespace Go.Xp
open Go.WideShapes Go.RowKit
section
variable {H : Type} {enc : TypeId × Value → H} {P : Program} {w : World} {base : Nat} {sp : Nat → Bool} {held : Bool} {R f : Nat} {u : Value} {l : DataW H}
theorem tab_of_laid {fuel g n : Nat} {name : String} {t e : TypeId} {k : IntKind} {zs : List Int} {d : DataW H} {p : List MemPlace} {cs : Array Value} (hg : P.globalNamed name = some g) (ht : P.underlying t = some (.array n e)) (he : P.underlying e = some (.int k)) (hce : P.cellsOf e = 1) (hct : P.cellsOf t = n)
    (hv : w.var? P name = some cs) (hd : DataW.trod enc P w base sp held fuel t cs.toList = some (d, p)) (hdt : d = Lib.tabData k zs) : TabH w.heap g (zs.map fun z => Value.int k z).toArray := by
  subst hdt
  have h1 := Lib.cells_of_tab ht he hce hct hd
  unfold World.var? at hv
  rw [hg] at hv
  simp only [Option.bind_some] at hv
  split at hv
  · rename_i cs' T z hh
    simp only [Option.some.injEq] at hv
    subst hv
    exact ⟨T, z, by rw [hh, ← h1]⟩
  · cases hv
theorem ifc_of_laid {fuel g : Nat} {name nm : String} {t : TypeId} {ms : Array (String × TypeId)} {d : DataW H} {p : List MemPlace} {cs : Array Value} (hg : P.globalNamed name = some g) (ht : P.underlying t = some (.interface ms))
    (hv : w.var? P name = some cs) (hd : DataW.trod enc P w base sp false fuel t cs.toList = some (.iface nm d, p)) : g < w.heap.size ∧ IfcH w.heap g := by
  obtain ⟨_, te, pe, h1, _⟩ := iface_of_trod ht hd
  unfold World.var? at hv
  rw [hg] at hv
  simp only [Option.bind_some] at hv
  split at hv
  · rename_i cs' T z hh
    simp only [Option.some.injEq] at hv
    subst hv
    refine ⟨(Array.getElem?_eq_some_iff.1 hh).1, te, pe, ?_⟩
    unfold cellAt
    rw [hh]
    show cs'[0]? = _
    rw [← Array.getElem?_toList, h1]; rfl
  · cases hv
/-- A slice of data of one kind. -/
theorem rd_sch {β : Type} {S : Sch β} {es : List CSh} (hz : S.z = es.length) (good : β → Prop) (hes : 0 < es.length) (h : CRead w R (f + 1) (.sl es) u l)
    (one : ∀ r : List Value, r.length = es.length → (∀ (j : Nat) (c : CSh), es[j]? = some c → ∃ (u : Value) (l : DataW H), r[j]? = some u ∧ CRead w R f c u l) → ∃ x : β, r = S.cells x ∧ S.ok w.heap x ∧ good x) :
    ∃ b : List β, Rows S w.heap u b ∧ b.length ≤ R ∧ ∀ x ∈ b, good x := by
  obtain ⟨rows, ds, h1, h2, _, _, h3⟩ := rd_rows h hes
  have key : ∀ rs : List (List Value), (∀ r ∈ rs, ∃ x : β, r = S.cells x ∧ S.ok w.heap x ∧ good x) → ∃ b : List β, b.length = rs.length ∧ rs.flatten = b.flatMap S.cells ∧ ∀ x ∈ b, S.ok w.heap x ∧ good x := by
    intro rs
    induction rs with
    | nil => intro _; exact ⟨[], rfl, rfl, fun x hx => by cases hx⟩
    | cons r rs ih =>
      intro hr
      obtain ⟨b, k1, k2, k3⟩ := ih (fun r' hr' => hr r' (by simp [hr']))
      obtain ⟨x, rfl, hx⟩ := hr r (by simp)
      refine ⟨x :: b, by simp [k1], by rw [List.flatten_cons, k2, List.flatMap_cons], fun y hy => ?_⟩
      rcases List.mem_cons.1 hy with rfl | hy
      · exact hx
      · exact k3 y hy
  obtain ⟨b, k1, k2, k3⟩ := key rows (fun r hr => by
    obtain ⟨i, hi, rfl⟩ := List.getElem_of_mem hr
    obtain ⟨d, m0, m1, m2⟩ := h3 i _ (List.getElem?_eq_getElem hi)
    exact one _ m1 (fun j c hj => by obtain ⟨u, l, n1, n2, n3⟩ := m2 j c hj; exact ⟨u, l, n1, n3⟩))
  refine ⟨b, ⟨?_, fun x hx => (k3 x hx).1⟩, by omega, fun x hx => (k3 x hx).2⟩
  rw [← k2, hz, k1]; exact h1
end
end Go.Xp

/- What a row's inputs read as: slices of ints and of entries. -/
set_option linter.unusedSimpArgs false
set_option linter.unusedVariables false
set_option linter.unusedSectionVars false
namespace Go.Xp
open Go.WideShapes Go.RowKit
section
variable {H : Type} {w : World} {R f : Nat} {u : Value} {l : DataW H}
theorem rd_ints (h : CRead w R (f + 2) (.sl [.int .i64]) u l) : ∃ b : List Int, Rows intS w.heap u b ∧ b.length ≤ R := by
  obtain ⟨b, h1, h2, h3⟩ := rd_sch (S := intS) rfl (fun _ => True) (by decide) h (fun r hr hc => by
    obtain ⟨u0, l0, a1, a2⟩ := hc 0 _ rfl
    obtain ⟨z0, rfl, _, a3⟩ := rd_int a2
    match r, hr, a1 with
    | [x], _, a1 =>
      simp at a1
      exact ⟨z0, by rw [a1]; rfl, trivial, trivial⟩)
  exact ⟨b, h1, h2⟩
end
end Go.Xp
