/- append(xs, make([]byte, n)...), which the machine takes as one step: n zero bytes behind. -/
import Derived.Test.YtdmhigknppkniaaGreatDoorRow
import Derived.Test.YtdmhigknppkniaaGreatDoorProg
import Derived.KernelRfl
set_option linter.unusedSimpArgs false
set_option linter.unusedVariables false
namespace Go.Xp

theorem zeroCells_one (v : Value) (k : Nat) : (Builtin.zeroCells #[v] k) = (List.replicate k v).toArray := by
  apply Array.ext
  · simp [Builtin.zeroCells]
  · intro i h1 h2
    simp [Builtin.zeroCells, Nat.mod_one]
section
variable {P : Program}
theorem run_appendz {T T2 E ty : TypeId} {i : TypeInfo} {v : Value} {kn : IntKind} {n m base : Nat} {xs : List Value} (h : Heap) (w : World) (hh : w.heap = h)
    (hT : P.underlying T = some (.slice E)) (hT2 : P.underlying T2 = some (.int kn)) (hi : P.info? E = some i) (hz : i.size = 1) (hz0 : i.zero = some (.int .u8 0)) (hby : i.bytes = 1)
    (hown : Own h base 1 v n xs) (hbase : base ≤ h.size) (hb : n + m ≤ 140737488355328) :
    ∃ v' w', (Builtin.append_ #[T, T2] ty #[v, .int kn (m : Int)]).run P w = .ok v' w' ∧ std w' = std w ∧ Own w'.heap base 1 v' (n + m) (xs ++ List.replicate m (.int .u8 0)) ∧ Only (blockOf v).toList h w'.heap := by
  have hrow := hown.row
  have hxl := hrow.len
  have hsz : (sizeOf E).run P w = .ok 1 w := run_sizeOf w (by rw [hi]; simp [hz])
  have hzv : ∀ w, (zeroValue E).run P w = .ok (.int .u8 0) w := by intro w; simp [zeroValue, typeInfo, hi, hz0]
  have hwr : IntKind.i64.wrap ((m : Int)) = (m : Int) := wrap_i64 (by omega) (by omega)
  have h48 : ¬ ((m : Int) * ((1 : Nat) : Int) > 2 ^ 48) := by
    have : (2 : Int) ^ 48 = 281474976710656 := by decide
    omega
  have hcells : (Value.int .u8 0).cells = #[.int .u8 0] := rfl
  have happ : ∀ w, (if m * 1 = 0 then Result.ok #[] w else ((zeroValue E).run P w).andThen fun u w' => Result.ok (Builtin.zeroCells u.cells m) w') = .ok (List.replicate m (Value.int .u8 0)).toArray w := by
    intro w
    by_cases h0 : m = 0
    · subst h0; simp
    · rw [if_neg (by omega), hzv]
      simp only [Result.andThen_ok, hcells, zeroCells_one]
  obtain ⟨base', cap, hv⟩ : ∃ base' cap, v = .slice base' n cap := by
    obtain ⟨⟨a0, cap, rfl, _⟩, _⟩ := hrow
    exact ⟨_, _, rfl⟩
  have hold : ∀ w, w.heap = h → (Builtin.firstCells 1 n v).run P w = .ok xs.toArray w := fun w hw => firstCells_row hrow w hw
  subst hv
  by_cases hroom : n + m ≤ cap
  · obtain ⟨_, ⟨hv, hn0⟩ | ⟨g, cap', extra, hv, hg, hbk, hl, hn⟩⟩ := hown
    · simp only [Value.slice.injEq] at hv
      obtain ⟨rfl, rfl, rfl⟩ := hv
      have hm0 : m = 0 := by omega
      subst hm0
      have : xs = [] := List.eq_nil_of_length_eq_zero (by simpa using hxl)
      subst this
      refine ⟨.slice none 0 0, w, ?_, rfl, Own.nil _ _ _, hh ▸ Only.refl _ _⟩
      have hn1 : ¬ (((0 : Nat) : Int) < 0) := by omega
      simp only [Builtin.append_, List.getElem?_toArray, List.getElem?_cons_zero, List.getElem?_cons_succ, Sem.run_bind, run_underlying hT, run_underlying hT2, Result.andThen_ok, hsz, Sem.run_pure, Sem.run_ite, asInt, asIntOf, hwr, run_typeInfo w hi, hby, if_true, if_neg hn1, if_neg h48, Int.toNat_natCast, Nat.zero_add, Nat.le_refl, Bool.not_true, Bool.false_eq_true, if_false, Nat.zero_mul]
    · simp only [Value.slice.injEq] at hv
      obtain ⟨rfl, -, rfl⟩ := hv
      subst hh
      have hfit : n * 1 + 0 + (List.replicate m (Value.int .u8 0)).length ≤ (xs ++ extra).length := by rw [hl]; simp; omega
      obtain ⟨w', k1, k2, k3⟩ := run_storeCells_put (P := P) (List.replicate m (Value.int .u8 0)) g (n * 1) 0 w (xs ++ extra) hbk hfit (fun u hu => by obtain ⟨_, rfl⟩ := List.mem_replicate.1 hu; rfl)
      have e1 : (xs ++ extra).take (n * 1 + 0) ++ List.replicate m (Value.int .u8 0) ++ (xs ++ extra).drop (n * 1 + 0 + (List.replicate m (Value.int .u8 0)).length) = (xs ++ List.replicate m (Value.int .u8 0)) ++ extra.drop (List.replicate m (Value.int .u8 0)).length := by
        rw [Nat.add_zero, ← hxl, List.take_left, List.drop_append]
        simp [List.drop_eq_nil_of_le]
      rw [e1] at k3
      have e2 : (⟨g, 0, none⟩ : Addr).add (n * 1) = ⟨g, n * 1, none⟩ := by unfold Addr.add; split <;> simp_all
      refine ⟨.slice (some ⟨g, 0, none⟩) (n + m) cap, w', ?_, k2, Own.of_blk k3.blk hg (by simp [hxl]) ?_ hroom, k3.only⟩
      · have hn1 : ¬ ((m : Int) < 0) := by omega
        have ha := happ w
        simp only [Builtin.append_, List.getElem?_toArray, List.getElem?_cons_zero, List.getElem?_cons_succ, Sem.run_bind, run_underlying hT, run_underlying hT2, Result.andThen_ok, hsz, Sem.run_pure, Sem.run_ite, asInt, asIntOf, hwr, run_typeInfo w hi, hby, if_true, if_neg hn1, if_neg h48, Int.toNat_natCast, if_pos hroom, Bool.not_true, Bool.false_eq_true, if_false, e2]
        rw [ha]
        simp only [Result.andThen_ok, k1]
      · have e3 := congrArg List.length e1
        simp only [List.length_append, List.length_take, List.length_drop] at e3 hl hfit ⊢
        omega
  · have hcap : cap < n + m := by omega
    have hns : Builtin.nextslicecap (n + m) cap * 1 ≤ 281474976710656 := by
      have := nextslicecap_le hcap
      omega
    obtain ⟨newCap, hnc, w1, hch, hw1, hstd⟩ : ∃ newCap, n + m ≤ newCap ∧ ∃ w1, (choose (.appendCap (n + m) cap E)).run P w = .ok newCap w1 ∧ w1.heap = h ∧ std w1 = std w := by
      refine ⟨(n + m) + w.tape w.drawn (.appendCap (n + m) cap E) % (2 ^ 63 - (n + m)), by omega, { w with drawn := w.drawn + 1 }, ?_, hh, rfl⟩
      simp [choose, Sem.run, Question.forced, Question.cut]
    have e5 : ¬ (Builtin.nextslicecap (n + m) cap * 1 > 2 ^ 48) := by
      have : (2 : Nat) ^ 48 = 281474976710656 := by decide
      omega
    have e6 : ¬ (((n + m : Nat) : Int) > IntKind.i64.max) := by
      have : IntKind.i64.max = 9223372036854775807 := rfl
      omega
    have hn1 : ¬ ((m : Int) < 0) := by omega
    have ha := happ w1
    refine ⟨.slice (some ⟨h.size, 0, none⟩) (n + m) newCap, { w1 with heap := w1.heap.push (.cells (xs.toArray ++ (List.replicate m (Value.int .u8 0)).toArray ++ Builtin.zeroCells (Value.int .u8 0).cells (newCap - (n + m))) E) }, ?_, hstd, ?_, ?_⟩
    · simp only [Builtin.append_, List.getElem?_toArray, List.getElem?_cons_zero, List.getElem?_cons_succ, Sem.run_bind, run_underlying hT, run_underlying hT2, Result.andThen_ok, hsz, Sem.run_pure, Sem.run_ite, asInt, asIntOf, hwr, run_typeInfo w hi, run_typeInfo w1 hi, hby, if_true, if_neg hn1, if_neg h48, Int.toNat_natCast, if_neg hroom, Bool.not_true, Bool.false_eq_true, if_false, true_or, and_true, hch, run_askRoom, hold w1 hw1, ha, hzv, run_newRow, hw1]
      have ha2 : (if m * 1 = 0 then Result.ok #[] w1 else Result.ok (Builtin.zeroCells (Value.int .u8 0).cells m) w1) = .ok (List.replicate m (Value.int .u8 0)).toArray w1 := by
        simpa only [hzv, Result.andThen_ok] using ha
      rw [if_neg e6, if_neg e5, ha2]
      simp only [Result.andThen_ok, hw1]
    · have hpn := new_push h (xs ++ List.replicate m (Value.int .u8 0) ++ (Builtin.zeroCells (Value.int .u8 0).cells (newCap - (n + m))).toList) E
      have e7 : (xs ++ List.replicate m (Value.int .u8 0) ++ (Builtin.zeroCells (Value.int .u8 0).cells (newCap - (n + m))).toList).toArray = xs.toArray ++ (List.replicate m (Value.int .u8 0)).toArray ++ Builtin.zeroCells (Value.int .u8 0).cells (newCap - (n + m)) := by simp
      rw [e7] at hpn
      simp only [hw1]
      have hzl : (Builtin.zeroCells (Value.int .u8 0).cells (newCap - (n + m))).toList.length = newCap - (n + m) := by simp [Builtin.zeroCells, hcells]
      refine Own.of_blk hpn.blk hbase (by simp [hxl]) ?_ hnc
      rw [List.length_append, List.length_append, hxl, hzl, List.length_replicate]; omega
    · simp only [hw1]
      exact ((heap_push h _).1).mono (by simp)
variable {n : Nat} {e : Env} {h : Heap} {d : Option Tmp} {t : TypeId} {pos : String} {af : Array Edge} {g : Option (Nat × Bool)}
theorem M_appz {T T' E : TypeId} {x y : Operand} {v : Value} {l : List UInt8} {base : Nat} {kn : IntKind} {p : Int} (hT : P.underlying T = some (.slice E)) (hT' : P.underlying T' = some (.int kn)) (hE : elemRow P E 1 1 (.int .u8 0)) (hs : ev e x = some v) (hx : ev e y = some (.int kn p)) (hown : OwnB h base v l) (hbase : base ≤ h.size) (h0 : 0 ≤ p) (hb : (l.length : Int) + p ≤ 140737488355328) :
    Mks P n e h ⟨d, .call { callee := .builtin .append, args := #[x, y], argTypes := #[T, T'] }, t, pos, af, g⟩ (fun r h' => AppB h h' base v r (l ++ List.replicate p.toNat 0)) := fun w a hh he => by
  unfold elemRow at hE
  cases hi : P.info? E with
  | none => rw [hi] at hE; cases hE
  | some i =>
    rw [hi] at hE
    simp only [Option.map_some, Option.some.injEq, Prod.mk.injEq] at hE
    obtain ⟨hz, hby, hz0⟩ := hE
    obtain ⟨v', w', k1, k2, k3, k4⟩ := run_appendz (P := P) (ty := t) (kn := kn) (m := p.toNat) h w hh hT hT' hi hz hz0 hby hown hbase (by omega)
    rw [Int.toNat_of_nonneg h0] at k1
    refine ⟨v', w', run_blt rfl ?_, k2, ?_, k4, hown.ge⟩
    · simpa [he.eval hs, he.eval hx] using k1
    · unfold OwnB
      rw [List.map_append, List.length_append, List.length_replicate, List.map_replicate]
      exact k3
end
end Go.Xp

/- The functions of Go's library that look for one byte: strings and bytes. -/
set_option maxRecDepth 100000
namespace Go.Xp
open Go.Proofs

theorem ext_IndexByteString {h : Heap} (l : List UInt8) (c : Int) (w : World) (_hw : w.heap = h) : (callFunc 125 #[str l, .int .u8 c]).run Tryz.prog w = .ok (.value (.int .i64 (Lib.indexByte l c.toNat.toUInt8))) w := by
  rw [run_callFunc_extern Tryz.func125 (by kernel_rfl) (by kernel_rfl) (by kernel_rfl) (e := Extern.BytealgIndexByte.indexByte) (by kernel_rfl), Lib.run_indexByteString]
  rfl
theorem run_indexByteRow {P : Program} {h : Heap} (v : Value) (l : List UInt8) (hb : Bytes h v l) (c : Int) (w : World) (hw : w.heap = h) : (Extern.BytealgIndexByte.indexByte #[v, .int .u8 c]).run P w = .ok (.int .i64 (Lib.indexByte l c.toNat.toUInt8)) w := by
  obtain ⟨⟨a0, cap, rfl, k1, k2, k3⟩, _⟩ := hb
  by_cases hl : l = []
  · subst hl
    have hs := Lib.run_indexByteNil (P := P) (w := w) 0 cap c
    cases a0 with
    | none => exact hs
    | some ad => exact hs
  · cases a0 with
    | none => exact absurd (k2 rfl) (by have := List.length_pos_iff.2 hl; omega)
    | some ad =>
      obtain ⟨j1, j3⟩ := k3 ad rfl
      obtain ⟨j1, -⟩ := j1 (List.length_pos_iff.2 hl)
      obtain ⟨b, o, sp⟩ := ad
      simp only at j1 j3
      subst j1
      have := Lib.run_indexByteSlice (P := P) (w := w) b o l.length cap (l.map (fun c => (c.toNat : Int))) (by simp) (fun i hi => by
        rw [cell?_cellAt, hw]
        refine (j3 i _ (List.getElem?_eq_getElem (by simpa using hi))).trans ?_
        simp [List.getD_eq_getElem?_getD, List.getElem?_eq_getElem hi, bv]) c
      rw [this]
      congr 3
      simp [Lib.bytesOf, List.map_map, Function.comp_def]
theorem ext_IndexByte {h : Heap} (v : Value) (l : List UInt8) (hb : Bytes h v l) (c : Int) (w : World) (hw : w.heap = h) : (callFunc 168 #[v, .int .u8 c]).run Tryz.prog w = .ok (.value (.int .i64 (Lib.indexByte l c.toNat.toUInt8))) w := by
  rw [run_callFunc_extern Tryz.func168 (by kernel_rfl) (by kernel_rfl) (by kernel_rfl) (e := Extern.BytealgIndexByte.indexByte) (by kernel_rfl), run_indexByteRow v l hb c w hw]
  rfl

theorem lite_IndexByte (h : Heap) (l : List UInt8) (c : Int) : Cal Tryz.prog 94 #[str l, .int .u8 (c)] h (fun v h' => v = .int .i64 (Lib.indexByte l c.toNat.toUInt8) ∧ h' = h) := by
 refine Ce Tryz.func94 fun σ => ?_
 refine Wa ?_
 refine Ln (Xt (Wq (Wg ?_)))
 refine M2 ?_
 refine Ly (Y_ext rfl (fun w_ h_ => ext_IndexByteString l c w_ h_)) ?_
 refine Av ?_
 refine Ln (Xt (Wt ?_))
 refine Xv1 ?_
 exact ⟨rfl, rfl⟩

theorem strings_IndexByte (h : Heap) (l : List UInt8) (c : Int) : Cal Tryz.prog 52 #[str l, .int .u8 (c)] h (fun v h' => v = .int .i64 (Lib.indexByte l c.toNat.toUInt8) ∧ h' = h) := by
 refine Ce Tryz.func52 fun σ => ?_
 refine Wa ?_
 refine Ln (Xt (Wq (Wg ?_)))
 refine M2 ?_
 refine Lc (lite_IndexByte _ l c) ?_
 rintro _ h ⟨rfl, rfl⟩
 refine Av ?_
 refine Ln (Xt (Wt ?_))
 refine Xv1 ?_
 exact ⟨rfl, rfl⟩

theorem bytes_IndexByte (h : Heap) (v : Value) (l : List UInt8) (hb : Bytes h v l) (c : Int) : Cal Tryz.prog 148 #[v, .int .u8 (c)] h (fun v h' => v = .int .i64 (Lib.indexByte l c.toNat.toUInt8) ∧ h' = h) := by
 refine Ce Tryz.func148 fun σ => ?_
 refine Wa ?_
 refine Ln (Xt (Wq (Wg ?_)))
 refine M2 ?_
 refine Ly (Y_ext rfl (fun w_ h_ => ext_IndexByte v l hb c w_ h_)) ?_
 refine Av ?_
 refine Ln (Xt (Wt ?_))
 refine Xv1 ?_
 exact ⟨rfl, rfl⟩

theorem byt_back (l : List UInt8) (k : Nat) : (byt l k).toNat.toUInt8 = l.getD k 0 := by simp [byt]
theorem indexByte_lt (l : List UInt8) (c : UInt8) : Lib.indexByte l c < l.length := by
  induction l with
  | nil => simp [Lib.indexByte]
  | cons a l ih =>
    simp only [Lib.indexByte, List.length_cons]
    split
    · omega
    · split <;> omega

/-! ### One byte looked for -/
theorem lite_Index (h : Heap) (l : List UInt8) (u : List UInt8) (hu : u.length = 1) : Cal Tryz.prog 137 #[str l, str u] h (fun v h' => v = .int .i64 (Lib.indexByte l (u.getD 0 0)) ∧ h' = h) := by
 refine Ce Tryz.func137 fun σ => ?_
 refine Wa ?_
 refine Ln (Xt (Wq (Wg ?_)))
 refine Mv ?_
 refine Ly (Y_slen Tryz.underlying9 rfl) ?_
 refine Av ?_
 refine Ln (Xt (Wq (Wb (Wq (Wg ?_)))))
 refine Mv ?_
 refine Ly Yeq ?_
 refine Mv ?_
 refine L_known (d := 19) false rfl (by exact decide_eq_false (by omega)) ?_
 refine M2 ?_
 refine Ly (Y_seql rfl rfl) ?_
 refine Ly Ypf ?_
 refine An ?_
 refine Wu _ (tk5 16 5 4 0 1) ?_
 refine Sd (fun g => ?_) fun g => ?_
 ·refine Wa ?_
  refine Ln (Xt (Wt (Yr (Xr ?_))))
  refine Xv1 ?_
  refine ⟨?_, rfl⟩
  subst g
  obtain ⟨c, rfl⟩ := List.length_eq_one_iff.1 hu
  simp [Lib.indexByte]
 refine Wm ?_
 refine Ly Yeq ?_
 refine An ?_
 refine W_known true rfl (by exact decide_eq_true (by omega)) ?_
 refine Wm ?_
 refine Mv ?_
 refine Ly (Y_sidx Tryz.underlying9 rfl rfl (by omega) (by omega)) ?_
 refine Lc (lite_IndexByte _ l (byt u 0)) ?_
 rintro _ h ⟨rfl, rfl⟩
 refine An ?_
 refine Wu _ (tk4 4 5 0 1) ?_
 refine Wt (Yr (Xr ?_))
 refine Xv1 ?_
 exact ⟨by rw [byt_back], rfl⟩

theorem strings_Index (h : Heap) (l : List UInt8) (u : List UInt8) (hu : u.length = 1) : Cal Tryz.prog 111 #[str l, str u] h (fun v h' => v = .int .i64 (Lib.indexByte l (u.getD 0 0)) ∧ h' = h) := by
 refine Ce Tryz.func111 fun σ => ?_
 refine Wa ?_
 refine Ln (Xt (Wq (Wg ?_)))
 refine M2 ?_
 refine Lc (lite_Index _ l u (by first | omega | rfl | (simp <;> omega))) ?_
 rintro _ h ⟨rfl, rfl⟩
 refine Av ?_
 refine Ln (Xt (Wt ?_))
 refine Xv1 ?_
 exact ⟨rfl, rfl⟩

theorem bytes_Index (h : Heap) (v : Value) (l : List UInt8) (hb : Bytes h v l) (vu : Value) (u : List UInt8) (hbu : Bytes h vu u) (hu : u.length = 1) : Cal Tryz.prog 126 #[v, vu] h (fun v h' => v = .int .i64 (Lib.indexByte l (u.getD 0 0)) ∧ h' = h) := by
 refine Ce Tryz.func126 fun σ => ?_
 refine Wa ?_
 refine Ln (Xt (Wq (Wg ?_)))
 refine Mv ?_
 refine Ly (Y_len Tryz.underlying22 rfl hbu) ?_
 refine Av ?_
 refine Ln (Xt (Wq (Wb (Wq (Wg ?_)))))
 refine Mv ?_
 refine Ly Yeq ?_
 refine An ?_
 refine W_known false rfl (by exact decide_eq_false (by omega)) ?_
 refine Wm ?_
 refine Ly Yeq ?_
 refine An ?_
 refine Wu _ (tk5 25 5 4 0 1) ?_
 refine W_known true rfl (by exact decide_eq_true (by omega)) ?_
 refine Wm ?_
 refine Mv ?_
 refine Ly (Y_idx Tryz.underlying22 (show _ = some 1 by kernel_rfl) rfl rfl hbu (by omega) (by omega)) ?_
 refine Ly (Y_ldbyte Tryz.underlying5 rfl rfl hbu (by omega) (by omega)) ?_
 refine Lc (bytes_IndexByte _ v l hb (byt u 0)) ?_
 rintro _ h ⟨rfl, rfl⟩
 refine An ?_
 refine Wu _ (tk4 4 5 0 1) ?_
 refine Wt (Yr (Xr ?_))
 refine Xv1 ?_
 exact ⟨by rw [byt_back], rfl⟩

/-- What Cut at one byte gives: the part ahead, the part behind, found. -/
def cutA (l : List UInt8) (c : UInt8) : List UInt8 := if 0 ≤ Lib.indexByte l c then l.take (Lib.indexByte l c).toNat else l
def cutB (l : List UInt8) (c : UInt8) : List UInt8 := if 0 ≤ Lib.indexByte l c then l.drop (Lib.indexByte l c + 1).toNat else []

theorem lite_Cut (h : Heap) (l : List UInt8) (u : List UInt8) (hu : u.length = 1) (hl : l.length ≤ 9223372036854775807) : Cal Tryz.prog 147 #[str l, str u] h (fun v h' => v = .tuple #[str (cutA l (u.getD 0 0)), str (cutB l (u.getD 0 0)), .bool (decide (0 ≤ Lib.indexByte l (u.getD 0 0)))] ∧ h' = h) := by
 have hi := indexByte_lt l (u.getD 0 0)
 refine Ce Tryz.func147 fun σ => ?_
 refine Wa ?_
 refine A2 ?_
 refine Ln (Xt (Wq (Wq (Wg ?_))))
 refine M2 ?_
 refine Lc (lite_Index _ l u (by first | omega | rfl | (simp <;> omega))) ?_
 rintro _ h ⟨rfl, rfl⟩
 refine Av ?_
 refine Ln (Xt (Wq (Wg ?_)))
 refine Mv ?_
 refine Ly (Y_geq rfl rfl) ?_
 refine Nx ?_
 refine Sd (fun g => ?_) fun g => ?_
 ·refine Wq ?_
  refine W_quiet (fun h' => h' = h) (by kernel_rfl) (by kernel_rfl) rfl ?_
  refine Qm ?_
  refine Qm ?_
  refine Qy (Y_sslice_h Tryz.underlying9 rfl rfl (by omega) (by omega)) ?_
  refine Qm ?_
  refine Qm ?_
  refine Qm ?_
  refine Qy (Y_slen Tryz.underlying9 rfl) ?_
  refine Qy (Y_add rfl rfl (by omega) (by omega)) ?_
  refine Qy (Y_sslice_l Tryz.underlying9 rfl rfl (by omega) (by omega)) ?_
  refine Qa ?_
  refine Qa ?_
  refine Qa ?_
  refine LQ_nil ?_
  rintro h rfl
  refine Xt ?_
  refine Wu _ (tk4 6 5 4 0) ?_
  refine Wt (Xr ?_)
  refine Xv3 ?_
  exact ⟨by simp only [cutA, cutB, if_pos g, decide_eq_true g, hu]; rfl, rfl⟩
 refine Ws ?_
 refine Wu _ (tk4 6 5 4 0) ?_
 refine Wm ?_
 refine A2 ?_
 refine Av ?_
 refine Ln (Xt (Wt ?_))
 refine Xv3 ?_
 exact ⟨by simp only [cutA, cutB, if_neg g, decide_eq_false g], rfl⟩

theorem strings_Cut (h : Heap) (l : List UInt8) (u : List UInt8) (hu : u.length = 1) (hl : l.length ≤ 9223372036854775807) : Cal Tryz.prog 122 #[str l, str u] h (fun v h' => v = .tuple #[str (cutA l (u.getD 0 0)), str (cutB l (u.getD 0 0)), .bool (decide (0 ≤ Lib.indexByte l (u.getD 0 0)))] ∧ h' = h) := by
 refine Ce Tryz.func122 fun σ => ?_
 refine Wa ?_
 refine A2 ?_
 refine Ln (Xt (Wq (Wg ?_)))
 refine M2 ?_
 refine Lc (lite_Cut _ l u (by first | omega | rfl | (simp <;> omega)) (by first | omega | rfl | (simp <;> omega))) ?_
 rintro _ h ⟨rfl, rfl⟩
 refine Lxx ?_
 refine Lx ?_
 refine A2 ?_
 refine An ?_
 refine Wu _ (tk3 6 5 4) ?_
 refine Wt ?_
 refine Xv3 ?_
 exact ⟨rfl, rfl⟩

theorem bytes_Cut (h : Heap) (v : Value) (l : List UInt8) (hb : Bytes h v l) (vu : Value) (u : List UInt8) (hbu : Bytes h vu u) (hu : u.length = 1) (hl : l.length ≤ 9223372036854775807) : Cal Tryz.prog 96 #[v, vu] h (fun v h' => ∃ s0 s1, v = .tuple #[s0, s1, .bool (decide (0 ≤ Lib.indexByte l (u.getD 0 0)))] ∧ Bytes h' s0 (cutA l (u.getD 0 0)) ∧ Bytes h' s1 (cutB l (u.getD 0 0)) ∧ Ext h h') := by
 have hi := indexByte_lt l (u.getD 0 0)
 refine Ce Tryz.func96 fun σ => ?_
 refine Wa ?_
 refine A2 ?_
 refine Ln (Xt (Wq (Wq (Wg ?_))))
 refine M2 ?_
 refine Lc (bytes_Index _ v l hb vu u hbu (by first | omega | rfl | (simp <;> omega))) ?_
 rintro _ h ⟨rfl, rfl⟩
 refine Av ?_
 refine Ln (Xt (Wq (Wg ?_)))
 refine Mv ?_
 refine Ly (Y_geq rfl rfl) ?_
 refine Nx ?_
 refine Sd (fun g => ?_) fun g => ?_
 ·refine Wq ?_
  refine W_quiet (fun h' => h' = h) (by kernel_rfl) (by kernel_rfl) rfl ?_
  refine Qm ?_
  refine Qm ?_
  have hb1 : Bytes h (slcut 1 0 (Lib.indexByte l (u.getD 0 0)).toNat v) (l.take (Lib.indexByte l (u.getD 0 0)).toNat) := Bytes.cuth hb (by omega) 
  refine Qy (Y_cut_h Tryz.underlying22 (show _ = some 1 by kernel_rfl) rfl hb rfl (by omega) (by omega)) ?_
  refine Qm ?_
  refine Qm ?_
  refine Qm ?_
  refine Qy (Y_len Tryz.underlying22 rfl hbu) ?_
  refine Qy (Y_add rfl rfl (by omega) (by omega)) ?_
  have hb2 : Bytes h (slcut 1 ((Lib.indexByte l (u.getD 0 0)) + (u.length : Int)).toNat l.length v) (l.drop ((Lib.indexByte l (u.getD 0 0)) + (u.length : Int)).toNat) := Bytes.cutl hb (by omega) 
  refine Qy (Y_cut_l Tryz.underlying22 (show _ = some 1 by kernel_rfl) rfl hb rfl (by omega) (by omega)) ?_
  refine Qa ?_
  refine Qa ?_
  refine Qa ?_
  refine LQ_nil ?_
  rintro h rfl
  refine Xt ?_
  refine Wu _ (tk4 6 5 4 0) ?_
  refine Wt (Xr ?_)
  refine Xv3 ?_
  exact ⟨_, _, by rw [decide_eq_true g], (Bytes.congr hb1 (by simp only [cutA, if_pos g])), (Bytes.congr hb2 (by simp only [cutB, if_pos g, hu]; rfl)), (Ext.refl _)⟩
 refine Ws ?_
 refine Wu _ (tk4 6 5 4 0) ?_
 refine Wm ?_
 refine A2 ?_
 refine Av ?_
 refine Ln (Xt (Wt ?_))
 refine Xv3 ?_
 exact ⟨_, _, by rw [decide_eq_false g], (Bytes.congr hb (by simp only [cutA, if_neg g])), (Bytes.congr (Bytes.nil _) (by simp only [cutB, if_neg g])), (Ext.refl _)⟩

end Go.Xp
