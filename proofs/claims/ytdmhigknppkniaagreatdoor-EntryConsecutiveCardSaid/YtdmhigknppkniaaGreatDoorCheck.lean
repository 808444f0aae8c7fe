/- Layer 8 (pathname): Check, which ranges over the components by a function of its own. -/
import Derived.Test.YtdmhigknppkniaaGreatDoorPath
import Derived.RangeFuncKeeps
import Derived.RangeFuncLeaves
import Derived.RangeFuncFrom
import Derived.RangeFuncCalls
import Derived.Shelf.Abstract
import Derived.WalkKit
import Derived.OwnWalkIn
import Derived.TacticsInMore
import Derived.LoopNIn
import Derived.LoopIn
set_option linter.unusedSimpArgs false
set_option linter.unusedVariables false
set_option maxRecDepth 100000
namespace Go.Xp
open Go.Proofs Go.RowKit Go.Shelf

/-! ### What the layer answers -/
def comps : List UInt8 → List (List UInt8)
  | [] => [[]]
  | c :: l => if c = 47 then [] :: comps l else match comps l with
    | [] => [[c]]
    | x :: xs => (c :: x) :: xs
theorem comps_ne (p : List UInt8) : comps p ≠ [] := by
  cases p with
  | nil => simp [comps]
  | cons c l =>
    unfold comps
    split
    · simp
    · split <;> simp
def okc (c : List UInt8) : Bool := c != [] && c != [46] && c != [46, 46] && !c.contains 0
def pcheck (p : List UInt8) : Int := if 65536 < p.length then 7 else if (comps p).all okc = true then 0 else 6
theorem comps_cut (p : List UInt8) : comps p = if 0 ≤ Lib.indexByte p 47 then cutA p 47 :: comps (cutB p 47) else [p] := by
  unfold cutA cutB
  induction p with
  | nil => simp [comps, Lib.indexByte]
  | cons a l ih =>
    have hg := Lib.indexByte_ge l 47
    by_cases h : a = 47
    · subst h; simp [comps, Lib.indexByte]
    · have h2 : (a == 47) = false := by simpa using h
      simp only [Lib.indexByte, h2, Bool.false_eq_true, if_false]
      have hc : comps (a :: l) = match comps l with | [] => [[a]] | x :: xs => (a :: x) :: xs := by rw [comps, if_neg h]
      rw [hc]
      by_cases h1 : Lib.indexByte l 47 = -1
      · rw [h1] at ih ⊢
        simp only [show ¬ (0 : Int) ≤ -1 by decide, if_false] at ih
        rw [ih]; simp
      · have h4 : (Lib.indexByte l 47 == -1) = false := by simpa using h1
        have h5 : 0 ≤ Lib.indexByte l 47 := by omega
        simp only [h5, if_true] at ih
        simp only [h4, Bool.false_eq_true, if_false]
        rw [ih, if_pos (by omega : 0 ≤ Lib.indexByte l 47 + 1)]
        simp only [if_pos (by omega : 0 ≤ Lib.indexByte l 47 + 1), show (Lib.indexByte l 47 + 1).toNat = (Lib.indexByte l 47).toNat + 1 by omega, show (Lib.indexByte l 47 + 1 + 1).toNat = (Lib.indexByte l 47 + 1).toNat + 1 by omega, List.take_succ_cons, List.drop_succ_cons]

/-! ### The heap while the loop runs -/
def HP (h : Heap) (e : Int) (p : List UInt8) (ds : Option (List Deferred)) (r : Loop) : Heap := (((h.push (.cells #[.int .i64 e] 38)).push (.cells #[str p] 9)).push (.deferred ds)).push (.loop r)
section
variable (h : Heap) (e e' : Int) (p p' : List UInt8) (ds ds' : Option (List Deferred)) (r r' : Loop)
theorem HP_size : (HP h e p ds r).size = h.size + 4 := by simp [HP]
theorem HP_0 : (HP h e p ds r)[h.size]? = some (.cells #[.int .i64 e] 38 (0, 0)) := by
  simp only [HP, Array.getElem?_push, Array.size_push]
  rw [if_neg (by omega), if_neg (by omega), if_neg (by omega)]; simp
theorem HP_1 : (HP h e p ds r)[h.size + 1]? = some (.cells #[str p] 9 (0, 0)) := by
  simp only [HP, Array.getElem?_push, Array.size_push]
  rw [if_neg (by omega), if_neg (by omega)]; simp
theorem HP_2 : (HP h e p ds r)[h.size + 2]? = some (.deferred ds) := by
  simp only [HP, Array.getElem?_push, Array.size_push]
  rw [if_neg (by omega)]; simp
theorem HP_3 : (HP h e p ds r)[h.size + 3]? = some (.loop r) := by
  simp only [HP, Array.getElem?_push, Array.size_push]
  simp
theorem HP_old {k : Nat} (hk : k < h.size) : (HP h e p ds r)[k]? = h[k]? := by
  simp only [HP, Array.getElem?_push, Array.size_push]
  rw [if_neg (by omega), if_neg (by omega), if_neg (by omega), if_neg (by omega)]
theorem HP_ext : Ext h (HP h e p ds r) := ⟨by rw [HP_size]; omega, fun k hk _ => HP_old h e p ds r hk⟩
theorem HP_eq {H : Heap} (hs : H.size = h.size + 4) (h0 : ∀ k, k < h.size → H[k]? = h[k]?) (h1 : H[h.size]? = some (.cells #[.int .i64 e] 38 (0, 0))) (h2 : H[h.size + 1]? = some (.cells #[str p] 9 (0, 0))) (h3 : H[h.size + 2]? = some (.deferred ds)) (h4 : H[h.size + 3]? = some (.loop r)) : H = HP h e p ds r := by
  apply Array.ext_getElem?
  intro k
  rcases Nat.lt_or_ge k h.size with hk | hk
  · rw [h0 k hk, HP_old h e p ds r hk]
  · rcases Nat.lt_or_ge k (h.size + 4) with hk' | hk'
    · obtain rfl | rfl | rfl | rfl : k = h.size ∨ k = h.size + 1 ∨ k = h.size + 2 ∨ k = h.size + 3 := by omega
      · rw [h1, HP_0]
      · rw [h2, HP_1]
      · rw [h3, HP_2]
      · rw [h4, HP_3]
    · rw [Array.getElem?_eq_none (by omega), Array.getElem?_eq_none (by rw [HP_size]; omega)]
variable {h e p ds r} {W : World}
theorem mod_ne {H : Heap} {b k : Nat} {f : Obj → Obj} (hk : b ≠ k) : (H.modify b f)[k]? = H[k]? := by rw [Array.getElem?_modify, if_neg hk]
theorem mod_eq {H : Heap} {b : Nat} {f : Obj → Obj} : (H.modify b f)[b]? = H[b]?.map f := by rw [Array.getElem?_modify, if_pos rfl]
theorem set_ne {H : Heap} {b k : Nat} {o : Obj} (hk : b ≠ k) : (H.setIfInBounds b o)[k]? = H[k]? := by rw [Array.getElem?_setIfInBounds, if_neg hk]
theorem set_eq {H : Heap} {b : Nat} {o : Obj} (hb : b < H.size) : (H.setIfInBounds b o)[b]? = some o := by rw [Array.getElem?_setIfInBounds, if_pos rfl, if_pos hb]
theorem HP_setBox (hW : W.heap = HP h e p ds r) : (W.setCell ⟨h.size + 1, 0, none⟩ (str p')).heap = HP h e p' ds r := by
  unfold World.setCell
  simp only [hW]
  apply HP_eq
  · simp [HP_size]
  · intro k hk; rw [mod_ne (by omega), HP_old h e p ds r hk]
  · rw [mod_ne (by omega), HP_0]
  · rw [mod_eq, HP_1]; rfl
  · rw [mod_ne (by omega), HP_2]
  · rw [mod_ne (by omega), HP_3]
theorem HP_setErr (hW : W.heap = HP h e p ds r) : (W.setCell ⟨h.size, 0, none⟩ (.int .i64 e')).heap = HP h e' p ds r := by
  unfold World.setCell
  simp only [hW]
  apply HP_eq
  · simp [HP_size]
  · intro k hk; rw [mod_ne (by omega), HP_old h e p ds r hk]
  · rw [mod_eq, HP_0]; rfl
  · rw [mod_ne (by omega), HP_1]
  · rw [mod_ne (by omega), HP_2]
  · rw [mod_ne (by omega), HP_3]
theorem HP_putLoop (hW : W.heap = HP h e p ds r) : (W.putObj (h.size + 3) (.loop r')).heap = HP h e p ds r' := by
  unfold World.putObj
  simp only [hW]
  apply HP_eq
  · simp [HP_size]
  · intro k hk; rw [set_ne (by omega), HP_old h e p ds r hk]
  · rw [set_ne (by omega), HP_0]
  · rw [set_ne (by omega), HP_1]
  · rw [set_ne (by omega), HP_2]
  · rw [set_eq (by rw [HP_size]; omega)]
theorem HP_putDef (hW : W.heap = HP h e p ds r) : (W.putObj (h.size + 2) (.deferred ds')).heap = HP h e p ds' r := by
  unfold World.putObj
  simp only [hW]
  apply HP_eq
  · simp [HP_size]
  · intro k hk; rw [set_ne (by omega), HP_old h e p ds r hk]
  · rw [set_ne (by omega), HP_0]
  · rw [set_ne (by omega), HP_1]
  · rw [set_eq (by rw [HP_size]; omega)]
  · rw [set_ne (by omega), HP_3]
theorem HP_box (hW : W.heap = HP h e p ds r) : W.cell? ⟨h.size + 1, 0, none⟩ = some (str p) ∧ W.frozen? ⟨h.size + 1, 0, none⟩ = false := by
  constructor <;> simp [World.cell?, World.frozen?, hW, HP_1]
theorem HP_err (hW : W.heap = HP h e p ds r) : W.cell? ⟨h.size, 0, none⟩ = some (.int .i64 e) ∧ W.frozen? ⟨h.size, 0, none⟩ = false := by
  constructor <;> simp [World.cell?, World.frozen?, hW, HP_0]
end

/-! ### The loop's own function -/
attribute [local go_sem] Oper.semAt_some
def rec0 (fn : FuncId) (tmps : Array Value) (ps : Array Tmp) (assign body : Code) (D : Nat) (st : LoopState) (pe : Option Code) : Loop := { state := st, pending := pe, fn, tmps, params := ps, assign, body, defers := D }

theorem cutB_lt {p : List UInt8} {c : UInt8} (hm : 0 ≤ Lib.indexByte p c) : (cutB p c).length < p.length := by
  have := indexByte_lt p c
  unfold cutB
  rw [if_pos hm, List.length_drop]; omega
def boxLen (h : Heap) (w : World) : Nat := match w.cell? ⟨h.size + 1, 0, none⟩ with
  | some (.string s) => s.size
  | _ => 0
theorem boxLen_eq {h : Heap} {e : Int} {p : List UInt8} {ds : Option (List Deferred)} {r : Loop} {W : World} (hW : W.heap = HP h e p ds r) : boxLen h W = p.length := by
  unfold boxLen
  rw [(HP_box hW).1]
  simp [ByteArray.size]

set_option maxHeartbeats 2000000 in
theorem comps1_in (n : Nat) (hn : 1 ≤ n) (h : Heap) (σ : Std) (p0 : List UInt8) (hp0 : p0.length ≤ 9223372036854775807) (rec : LoopState → Option Code → Loop)
    (hY : ∀ c p W, std W = σ → W.heap = HP h 0 p (some []) (rec .ready none) → YieldAt Fence.wide (n - 1) Tryz.prog (h.size + 3) #[str c] W fun e W' => std W' = σ ∧
      ((okc c = true ∧ e = .returned (.bool true) ∧ W'.heap = HP h 0 p (some []) (rec .ready none)) ∨ (okc c = false ∧ e = .returned (.bool false) ∧ W'.heap = HP h 6 p (some []) (rec .done (some .ret)))))
    (W : World) (hs : std W = σ) (hW : W.heap = HP h 0 p0 (some []) (rec .ready none)) :
    CallsIn Fence.wide n Tryz.prog 121 #[.func (.yield (h.size + 3)) #[] #[], .pointer (some ⟨h.size + 1, 0, none⟩)] W fun e W' => (∃ v, e = .returned v) ∧ std W' = σ ∧
      (((comps p0).all okc = true ∧ ∃ p', W'.heap = HP h 0 p' (some []) (rec .ready none)) ∨ ((comps p0).all okc = false ∧ ∃ p', W'.heap = HP h 6 p' (some []) (rec .done (some .ret)))) := by
  refine callsIn_of_wp Tryz.func121 rfl trivial ?_ rfl
  simp only [Tryz.ntmps121, List.size_toArray, List.length_cons, List.length_nil, Nat.reduceAdd, Nat.reduceSub, Array.replicate_succ, Array.replicate_zero, List.push_toArray, List.append_toArray, List.nil_append, List.cons_append]
  gi_wp2
  gi_loopw [] (fun wr => ∃ p, std wr = σ ∧ wr.heap = HP h 0 p (some []) (rec .ready none) ∧ p.length ≤ p0.length ∧ (comps p0).all okc = (comps p).all okc) (fun wr => boxLen h wr)
  case atStart => exact ⟨p0, hs, hW, Nat.le_refl _, rfl⟩
  case round =>
    obtain ⟨p, hs1, hW1, hl1, hc1⟩ := hrel
    obtain ⟨hb1, hf1⟩ := HP_box hW1
    have hcut : Cal Tryz.prog 122 #[str p, str [47]] wr.heap (fun v h' => v = .tuple #[str (cutA p 47), str (cutB p 47), .bool (decide (0 ≤ Lib.indexByte p 47))] ∧ h' = wr.heap) := strings_Cut _ p [47] rfl (by omega)
    have hcc := comps_cut p
    have h63 : Fence.wide.fn 122 := trivial
    by_cases hm : 0 ≤ Lib.indexByte p 47
    · rw [decide_eq_true hm] at hcut
      rw [if_pos hm] at hcc
      gi_wp2_with (gi_at_call 122; refine (callsIn_wide.2 (hcut _ rfl)).mono ?_; rintro e w' ⟨v, rfl, hsw, rfl, hhw⟩; obtain ⟨fn, tmps, assign, body, hy, hR⟩ := hY (cutA p 47) p w' (hsw.trans hs1) (hhw.trans hW1))
      refine hR.mono ?_
      rintro e W3 ⟨hs3, ⟨hok, rfl, hW3⟩ | ⟨hbad, rfl, hW3⟩⟩
      · obtain ⟨hb3, hf3⟩ := HP_box hW3
        gi_wp2
        have hlt := cutB_lt hm
        exact ⟨⟨cutB p 47, hs3, HP_setBox (cutB p 47) hW3, by omega, by rw [hc1, hcc]; simp [hok]⟩, by rw [boxLen_eq (HP_setBox (cutB p 47) hW3), boxLen_eq hW1]; exact hlt⟩
      · gi_wp2
        refine bodyPost_ret (results_none rfl _ _ _) rfl ?_
        exact ⟨⟨_, rfl⟩, hs3, .inr ⟨by rw [hc1, hcc]; simp [hbad], p, hW3⟩⟩
    · rw [decide_eq_false hm] at hcut
      rw [if_neg hm] at hcc
      have hca : cutA p 47 = p := by unfold cutA; rw [if_neg hm]
      rw [hca] at hcut
      gi_wp2_with (gi_at_call 122; refine (callsIn_wide.2 (hcut _ rfl)).mono ?_; rintro e w' ⟨v, rfl, hsw, rfl, hhw⟩; obtain ⟨fn, tmps, assign, body, hy, hR⟩ := hY p p w' (hsw.trans hs1) (hhw.trans hW1))
      refine hR.mono ?_
      rintro e W3 ⟨hs3, ⟨hok, rfl, hW3⟩ | ⟨hbad, rfl, hW3⟩⟩
      · gi_wp2
        refine bodyPost_ret (results_none rfl _ _ _) rfl ?_
        exact ⟨⟨_, rfl⟩, hs3, .inl ⟨by rw [hc1, hcc]; simp [hok], p, hW3⟩⟩
      · gi_wp2
        refine bodyPost_ret (results_none rfl _ _ _) rfl ?_
        exact ⟨⟨_, rfl⟩, hs3, .inr ⟨by rw [hc1, hcc]; simp [hbad], p, hW3⟩⟩

theorem comps_range (h : Heap) (p : List UInt8) (hl : p.length ≤ 9223372036854775807) (n : Nat) (hn : 2 ≤ n) {g : Operand} {ps : Array Tmp} {assign body : Code} {Q : Exit → Act → World → Prop} {a : Act} {w : World}
    (hw : w.heap = (h.push (.cells #[.int .i64 0] 38)).push (.cells #[str p] 9)) (hg : a.eval g = .func (.func 121) #[] #[.pointer (some ⟨h.size + 1, 0, none⟩)]) (hps : ps.size = 1)
    (hround : ∀ (rec : LoopState → Option Code → Loop),
      (∀ W q, W.heap = HP h 0 q (some []) (rec .ready none) → (Instr.beginRound (h.size + 3)).run Tryz.prog W = .ok () (W.putObj (h.size + 3) (.loop (rec .busy none)))) →
      (∀ W e q jump, W.heap = HP h e q (some []) (rec .busy none) → (Instr.endRound (h.size + 3) jump).run Tryz.prog W = .ok (.bool jump.isNone) (W.putObj (h.size + 3) (.loop (rec (if jump.isNone then .ready else .done) jump)))) →
      ∀ c q W, std W = std w → W.heap = HP h 0 q (some []) (rec .ready none) →
      assign.wpIn (Fence.wide.inRound (h.size + 3)) (n - 1 - 1) Tryz.prog (Exit.then (fun a1 w1 => ∃ w2, (Instr.beginRound (h.size + 3)).run Tryz.prog w1 = .ok () w2 ∧ body.wpIn (Fence.wide.inRound (h.size + 3)) (n - 1 - 1) Tryz.prog (roundPost Tryz.prog (h.size + 3) (fun e W' => std W' = std w ∧
        ((okc c = true ∧ e = .returned (.bool true) ∧ W'.heap = HP h 0 q (some []) (rec .ready none)) ∨ (okc c = false ∧ e = .returned (.bool false) ∧ W'.heap = HP h 6 q (some []) (rec .done (some .ret)))))) a1 w2) (fun _ _ _ => False))
        { tmps := (ps.zip #[str c]).foldl (fun tmps (t, a) => tmps.setIfInBounds t a) a.tmps, defers := [] } W)
    (hdone : ∀ r q W, std W = std w → (comps p).all okc = true → W.heap = HP h 0 q (some []) r → Q .normal { a with defers := { target := .collected (h.size + 2), args := #[] } :: a.defers } W)
    (hstop : ∀ r q W, std W = std w → (comps p).all okc = false → W.heap = HP h 6 q (some []) r → Code.ret.wpIn Fence.wide n Tryz.prog Q { a with defers := { target := .collected (h.size + 2), args := #[] } :: a.defers } W) :
    (Code.rangeFunc g ps assign body).wpIn Fence.wide n Tryz.prog Q a w := by
  refine wpIn_rangeFunc ?_
  intro fn _
  have hz : w.heap.size = h.size + 2 := by rw [hw]; simp
  obtain ⟨W1, hW1⟩ : ∃ W1, (w.alloc (.deferred (some []))).alloc (.loop (rec0 fn a.tmps ps assign body (h.size + 2) .ready none)) = W1 := ⟨_, rfl⟩
  have hh1 : W1.heap = HP h 0 p (some []) (rec0 fn a.tmps ps assign body (h.size + 2) .ready none) := by
    rw [← hW1]; show ((w.heap.push _).push _) = _; rw [hw]; rfl
  have hs1 : std W1 = std w := by rw [← hW1]; rfl
  refine ⟨h.size + 3, [{ target := .collected (h.size + 2), args := #[] }], W1, { target := .fn (.func 121) #[.pointer (some ⟨h.size + 1, 0, none⟩)], args := #[.func (.yield (h.size + 3)) #[] #[]] }, W1, 121,
    #[.func (.yield (h.size + 3)) #[] #[]] ++ #[.pointer (some ⟨h.size + 1, 0, none⟩)], W1, ?_, ?_, ?_, ?_, (fun _ => by omega), ?_⟩
  · have := run_enterLoop_outer (P := Tryz.prog) (w := w) fn a.tmps ps assign body
    rw [hz] at this
    rw [← hW1]; exact this
  · simp only [resolve, hg]
    simp [go_sem]
  · intro f' _; trivial
  · simp [invoke, go_sem, enters_of Tryz.func121 (by kernel_rfl) rfl]
  · refine (comps1_in (n - 1) (by omega) h (std w) p hl (rec0 fn a.tmps ps assign body (h.size + 2)) ?_ W1 hs1 hh1).mono ?_
    · intro c q W hsW hW
      have hl3 : W.heap[h.size + 3]? = some (.loop (rec0 fn a.tmps ps assign body (h.size + 2) .ready none)) := by rw [hW, HP_3]
      exact ⟨fn, _, assign, body, run_yield (P := Tryz.prog) hl3 (by rw [show (rec0 fn a.tmps ps assign body (h.size + 2) .ready none).params = ps from rfl, hps]; rfl), roundIn_of_wpIn trivial (hround (rec0 fn a.tmps ps assign body (h.size + 2)) (fun W q hW => run_beginRound (r := rec0 fn a.tmps ps assign body (h.size + 2) .ready none) (by rw [hW, HP_3]) rfl) (fun W e q jump hW => run_endRound (r := rec0 fn a.tmps ps assign body (h.size + 2) .busy none) jump (by rw [hW, HP_3])) c q W hsW hW)⟩
    · rintro e W2 ⟨⟨v, rfl⟩, hs2, ⟨hall, q, hh⟩ | ⟨hall, q, hh⟩⟩
      · have hl3 : W2.heap[h.size + 3]? = some (.loop (rec0 fn a.tmps ps assign body (h.size + 2) .ready none)) := by rw [hh, HP_3]
        exact ⟨none, _, run_endLoop (P := Tryz.prog) hl3 (by simp [rec0]), hdone _ q _ hs2 hall (HP_putLoop _ hh)⟩
      · have hl3 : W2.heap[h.size + 3]? = some (.loop (rec0 fn a.tmps ps assign body (h.size + 2) .done (some .ret))) := by rw [hh, HP_3]
        exact ⟨some .ret, _, run_endLoop (P := Tryz.prog) hl3 (by simp [rec0]), hstop _ q _ hs2 hall (HP_putLoop _ hh)⟩

set_option maxHeartbeats 1000000 in
theorem comps_in (n : Nat) (h49 : Fence.wide.fn 86) (p : List UInt8) (w : World) :
    CallsIn Fence.wide n Tryz.prog 86 #[str p] w fun e w' => e = .returned (.func (.func 121) #[] #[.pointer (some ⟨w.heap.size, 0, none⟩)]) ∧ w' = w.alloc (.cells #[str p] 9) := by
  refine callsIn_of_wp Tryz.func86 rfl h49 ?_ rfl
  simp only [Tryz.ntmps86, List.size_toArray, List.length_cons, List.length_nil, Nat.reduceAdd, Nat.reduceSub, Array.replicate_succ, Array.replicate_zero, List.push_toArray, List.append_toArray, List.nil_append, List.cons_append]
  gi_wp2
  go_ret
  exact ⟨rfl, rfl⟩

set_option maxHeartbeats 2000000 in
theorem pathname_Check (h : Heap) (p : List UInt8) (hl : p.length ≤ 9223372036854775807) : Cal Tryz.prog 37 #[str p] h (fun v h' => v = .int .i64 (pcheck p) ∧ Ext h h') := by
  intro w hw
  refine (callsIn_wide (n := 9)).1 (callsIn_of_wp_marks Tryz.func37 rfl trivial ?_ rfl)
  simp only [Tryz.ntmps37, List.size_toArray, List.length_cons, List.length_nil, Nat.reduceAdd, Nat.reduceSub, Array.replicate_succ, Array.replicate_zero, List.push_toArray, List.append_toArray, List.nil_append, List.cons_append]
  have h49 : Fence.wide.fn 86 := trivial
  by_cases hlen : 65536 < p.length
  · gi_wp2
    have hp : pcheck p = 7 := by unfold pcheck; rw [if_pos hlen]
    refine ⟨.int .i64 7, ?_, _, rfl, rfl, by rw [hp], ?_⟩
    · simp [results, Tryz.f37, go_sem, hw]
    · subst hw; exact (heap_push _ _).1
  · gi_wp2_with (gi_at_call 86; refine (comps_in 8 h49 p _).mono ?_; rintro e w' ⟨rfl, rfl⟩)
    obtain ⟨W0, hW0⟩ : ∃ W0, (w.alloc (.cells #[.int .i64 0] 38)).alloc (.cells #[str p] 9) = W0 := ⟨_, rfl⟩
    have hs0 : std W0 = std w := by rw [← hW0]; rfl
    have hh0 : W0.heap = (h.push (.cells #[.int .i64 0] 38)).push (.cells #[str p] 9) := by rw [← hW0, ← hw]; rfl
    have hz0 : W0.heap.size = h.size + 2 := by rw [hh0]; simp
    rw [hW0]
    refine comps_range h p hl 9 (by omega) hh0 rfl rfl ?round ?done ?stop
    case round =>
      intro rec hbeg hend c q W hsW hW
      have h50 : (Fence.wide.inRound (h.size + 3)).fn 52 := trivial
      have h50' : Fence.wide.fn 52 := trivial
      gi_wp2
      refine ⟨_, hbeg W q hW, ?_⟩
      obtain ⟨W2, hW2⟩ : ∃ W2, W.putObj (h.size + 3) (.loop (rec .busy none)) = W2 := ⟨_, rfl⟩
      have hs2 : std W2 = std W0 := by rw [← hW2]; exact hsW
      have hh2 : W2.heap = HP h 0 q (some []) (rec .busy none) := by rw [← hW2]; exact HP_putLoop _ hW
      rw [hW2]
      obtain ⟨hc2, hf2⟩ := HP_err hh2
      have hib : Cal Tryz.prog 52 #[str c, .int .u8 0] W2.heap (fun v h' => v = .int .i64 (Lib.indexByte c 0) ∧ h' = W2.heap) := strings_IndexByte _ c 0
      have hibm := indexByte_mem c 0
      have hbad : okc c = false → ∀ T : Act, roundPost Tryz.prog (h.size + 3) (fun e W' => std W' = std W0 ∧
          ((okc c = true ∧ e = .returned (.bool true) ∧ W'.heap = HP h 0 q (some []) (rec .ready none)) ∨ (okc c = false ∧ e = .returned (.bool false) ∧ W'.heap = HP h 6 q (some []) (rec .done (some .ret))))) .ret T (W2.setCell ⟨h.size, 0, none⟩ (.int .i64 6)) := fun hok T => by
        have hh3 := HP_setErr 6 hh2
        exact ⟨_, _, hend _ _ _ _ hh3, hs2, .inr ⟨hok, rfl, HP_putLoop _ hh3⟩⟩
      gi_wp2
      · rename_i hx; subst hx; exact hbad (by decide) _
      · rename_i _ hx; subst hx; exact hbad (by decide) _
      · rename_i _ _ hx; subst hx; exact hbad (by decide) _
      · have hx1 : ¬ c = [] := by assumption
        have hx2 : ¬ c = [46] := by assumption
        have hx3 : ¬ c = [46, 46] := by assumption
        refine (CallsIn.inRound _ (callsIn_wide.2 (hib _ rfl))).mono ?_
        rintro e w' ⟨v, rfl, hsw, rfl, hhw⟩
        have hh3 : w'.heap = HP h 0 q (some []) (rec .busy none) := hhw.trans hh2
        have hs3 : std w' = std W0 := hsw.trans hs2
        obtain ⟨hc3, hf3⟩ := HP_err hh3
        by_cases hz : (0 : UInt8) ∈ c
        · gi_wp2
          have hh4 := HP_setErr 6 hh3
          exact ⟨_, _, hend _ _ _ _ hh4, hs3, .inr ⟨by unfold okc; simp [hz], rfl, HP_putLoop _ hh4⟩⟩
        · have e1 : c.isEmpty = false := by simp [hx1]
          have e2 : (c == [46]) = false := by simp [hx2]
          have e3 : (c == [46, 46]) = false := by simp [hx3]
          have hok : okc c = true := by unfold okc; simp [hz, hx1, hx2, hx3]
          gi_wp2
          exact ⟨_, _, hend _ _ _ _ hh3, hs3, .inl ⟨hok, rfl, HP_putLoop _ hh3⟩⟩
    case done =>
      intro r q W hsW hall hW
      have hp : pcheck p = 0 := by unfold pcheck; rw [if_neg hlen, if_pos hall]
      obtain ⟨hc2, hf2⟩ := HP_err hW
      gi_wp2
      have hh3 := HP_setErr 0 hW
      have hK : (W.setCell ⟨h.size, 0, none⟩ (.int .i64 0)).heap[h.size + 2]? = some (.deferred (some [])) := by rw [hh3, HP_2]
      have hh4 := HP_putDef none hh3
      refine ⟨by simp, .inl ⟨_, _, rfl, run_takeDeferred hK, ?_⟩⟩
      refine ⟨.int .i64 0, ?_, _, rfl, hsW.trans hs0, by rw [hp], by rw [hh4]; exact HP_ext _ _ _ _ _⟩
      simp [results, Tryz.f37, go_sem, (HP_err hh4).1]
    case stop =>
      intro r q W hsW hall hW
      have hp : pcheck p = 6 := by unfold pcheck; rw [if_neg hlen, if_neg (by simp [hall])]
      gi_wp2
      have hK : W.heap[h.size + 2]? = some (.deferred (some [])) := by rw [hW, HP_2]
      have hh4 := HP_putDef none hW
      refine ⟨by simp, .inl ⟨_, _, rfl, run_takeDeferred hK, ?_⟩⟩
      refine ⟨.int .i64 6, ?_, _, rfl, hsW.trans hs0, by rw [hp], by rw [hh4]; exact HP_ext _ _ _ _ _⟩
      simp [results, Tryz.f37, go_sem, (HP_err hh4).1]

/-! ### The reference's Check -/
def CInv (p : List UInt8) (f i : Nat) : Prop := (i ≤ p.length ∧ f ≤ i ∧ (comps p).all okc = (comps (p.drop f)).all okc ∧ ∀ k, f ≤ k → k < i → ¬ byt p k = 47) ∨ (i = p.length + 1 ∧ (comps p).all okc = true)
theorem CInv.zero (p : List UInt8) : CInv p 0 0 := .inl ⟨by omega, by omega, rfl, fun k h1 h2 => absurd h2 (by omega)⟩
theorem CInv.last {p : List UInt8} {f i : Nat} (h : CInv p f i) (hi : ¬ i ≤ p.length) : pcheck p = if 65536 < p.length then 7 else 0 := by
  rcases h with h | h
  · omega
  · unfold pcheck; rw [if_pos h.2]
theorem CInv.on {p : List UInt8} {f i : Nat} (h : CInv p f i) (hi : i ≤ p.length) (hs : ¬ (i = p.length ∨ byt p i = 47)) : CInv p f (i + 1) := by
  rcases h with ⟨h1, h2, h3, h4⟩ | h
  · exact .inl ⟨by omega, by omega, h3, fun k k1 k2 => if hk : k = i then by subst hk; exact fun h9 => hs (.inr h9) else h4 k k1 (by omega)⟩
  · omega

end Go.Xp
