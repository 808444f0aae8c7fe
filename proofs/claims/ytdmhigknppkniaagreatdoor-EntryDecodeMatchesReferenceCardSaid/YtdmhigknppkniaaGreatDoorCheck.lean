/- Layer 8 (pathname): Check, which ranges over the components by a function of its own. -/
import Derived.Test.YtdmhigknppkniaaGreatDoorPath
import Derived.RangeFuncKeeps
import Derived.RangeFuncLeaves
import Derived.RangeFuncFrom
import Derived.RangeFuncCalls
import Derived.Shelf.Abstract
import Derived.WalkKit
import Derived.OwnWalkIn
import Derived.TacticsInMore
import Derived.LoopNIn
import Derived.LoopIn
set_option linter.unusedSimpArgs false
set_option linter.unusedVariables false
set_option maxRecDepth 100000
namespace Go.Xp
open Go.Proofs Go.RowKit Go.Shelf

/-! ### What the layer answers -/
def comps : List UInt8 → List (List UInt8)
  | [] => [[]]
  | c :: l => if c = 47 then [] :: comps l else match comps l with
    | [] => [[c]]
    | x :: xs => (c :: x) :: xs
theorem comps_ne (p : List UInt8) : comps p ≠ [] := by
  cases p with
  | nil => simp [comps]
  | cons c l =>
    unfold comps
    split
    · simp
    · split <;> simp
def okc (c : List UInt8) : Bool := c != [] && c != [46] && c != [46, 46] && !c.contains 0
def pcheck (p : List UInt8) : Int := if 65536 < p.length then 7 else if (comps p).all okc = true then 0 else 6
theorem comps_cut (p : List UInt8) : comps p = if 0 ≤ Lib.indexByte p 47 then cutA p 47 :: comps (cutB p 47) else [p] := by
  unfold cutA cutB
  induction p with
  | nil => simp [comps, Lib.indexByte]
  | cons a l ih =>
    have hg := Lib.indexByte_ge l 47
    by_cases h : a = 47
    · subst h; simp [comps, Lib.indexByte]
    · have h2 : (a == 47) = false := by simpa using h
      simp only [Lib.indexByte, h2, Bool.false_eq_true, if_false]
      have hc : comps (a :: l) = match comps l with | [] => [[a]] | x :: xs => (a :: x) :: xs := by rw [comps, if_neg h]
      rw [hc]
      by_cases h1 : Lib.indexByte l 47 = -1
      · rw [h1] at ih ⊢
        simp only [show ¬ (0 : Int) ≤ -1 by decide, if_false] at ih
        rw [ih]; simp
      · have h4 : (Lib.indexByte l 47 == -1) = false := by simpa using h1
        have h5 : 0 ≤ Lib.indexByte l 47 := by omega
        simp only [h5, if_true] at ih
        simp only [h4, Bool.false_eq_true, if_false]
        rw [ih, if_pos (by omega : 0 ≤ Lib.indexByte l 47 + 1)]
        simp only [if_pos (by omega : 0 ≤ Lib.indexByte l 47 + 1), show (Lib.indexByte l 47 + 1).toNat = (Lib.indexByte l 47).toNat + 1 by omega, show (Lib.indexByte l 47 + 1 + 1).toNat = (Lib.indexByte l 47 + 1).toNat + 1 by omega, List.take_succ_cons, List.drop_succ_cons]

/-! ### The heap while the loop runs -/
def HP (h : Heap) (e : Int) (p : List UInt8) (ds : Option (List Deferred)) (r : Loop) : Heap := (((h.push (.cells #[.int .i64 e] 38)).push (.cells #[str p] 9)).push (.deferred ds)).push (.loop r)
section
variable (h : Heap) (e e' : Int) (p p' : List UInt8) (ds ds' : Option (List Deferred)) (r r' : Loop)
theorem HP_size : (HP h e p ds r).size = h.size + 4 := by simp [HP]
theorem HP_0 : (HP h e p ds r)[h.size]? = some (.cells #[.int .i64 e] 38 (0, 0)) := by
  simp only [HP, Array.getElem?_push, Array.size_push]
  rw [if_neg (by omega), if_neg (by omega), if_neg (by omega)]; simp
theorem HP_1 : (HP h e p ds r)[h.size + 1]? = some (.cells #[str p] 9 (0, 0)) := by
  simp only [HP, Array.getElem?_push, Array.size_push]
  rw [if_neg (by omega), if_neg (by omega)]; simp
theorem HP_2 : (HP h e p ds r)[h.size + 2]? = some (.deferred ds) := by
  simp only [HP, Array.getElem?_push, Array.size_push]
  rw [if_neg (by omega)]; simp
theorem HP_3 : (HP h e p ds r)[h.size + 3]? = some (.loop r) := by
  simp only [HP, Array.getElem?_push, Array.size_push]
  simp
theorem HP_old {k : Nat} (hk : k < h.size) : (HP h e p ds r)[k]? = h[k]? := by
  simp only [HP, Array.getElem?_push, Array.size_push]
  rw [if_neg (by omega), if_neg (by omega), if_neg (by omega), if_neg (by omega)]
theorem HP_ext : Ext h (HP h e p ds r) := ⟨by rw [HP_size]; omega, fun k hk _ => HP_old h e p ds r hk⟩
theorem HP_eq {H : Heap} (hs : H.size = h.size + 4) (h0 : ∀ k, k < h.size → H[k]? = h[k]?) (h1 : H[h.size]? = some (.cells #[.int .i64 e] 38 (0, 0))) (h2 : H[h.size + 1]? = some (.cells #[str p] 9 (0, 0))) (h3 : H[h.size + 2]? = some (.deferred ds)) (h4 : H[h.size + 3]? = some (.loop r)) : H = HP h e p ds r := by
  apply Array.ext_getElem?
  intro k
  rcases Nat.lt_or_ge k h.size with hk | hk
  · rw [h0 k hk, HP_old h e p ds r hk]
  · rcases Nat.lt_or_ge k (h.size + 4) with hk' | hk'
    · obtain rfl | rfl | rfl | rfl : k = h.size ∨ k = h.size + 1 ∨ k = h.size + 2 ∨ k = h.size + 3 := by omega
      · rw [h1, HP_0]
      · rw [h2, HP_1]
      · rw [h3, HP_2]
      · rw [h4, HP_3]
    · rw [Array.getElem?_eq_none (by omega), Array.getElem?_eq_none (by rw [HP_size]; omega)]
variable {h e p ds r} {W : World}
theorem mod_ne {H : Heap} {b k : Nat} {f : Obj → Obj} (hk : b ≠ k) : (H.modify b f)[k]? = H[k]? := by rw [Array.getElem?_modify, if_neg hk]
theorem mod_eq {H : Heap} {b : Nat} {f : Obj → Obj} : (H.modify b f)[b]? = H[b]?.map f := by rw [Array.getElem?_modify, if_pos rfl]
theorem set_ne {H : Heap} {b k : Nat} {o : Obj} (hk : b ≠ k) : (H.setIfInBounds b o)[k]? = H[k]? := by rw [Array.getElem?_setIfInBounds, if_neg hk]
theorem set_eq {H : Heap} {b : Nat} {o : Obj} (hb : b < H.size) : (H.setIfInBounds b o)[b]? = some o := by rw [Array.getElem?_setIfInBounds, if_pos rfl, if_pos hb]
theorem HP_setBox (hW : W.heap = HP h e p ds r) : (W.setCell ⟨h.size + 1, 0, none⟩ (str p')).heap = HP h e p' ds r := by
  unfold World.setCell
  simp only [hW]
  apply HP_eq
  · simp [HP_size]
  · intro k hk; rw [mod_ne (by omega), HP_old h e p ds r hk]
  · rw [mod_ne (by omega), HP_0]
  · rw [mod_eq, HP_1]; rfl
  · rw [mod_ne (by omega), HP_2]
  · rw [mod_ne (by omega), HP_3]
theorem HP_setErr (hW : W.heap = HP h e p ds r) : (W.setCell ⟨h.size, 0, none⟩ (.int .i64 e')).heap = HP h e' p ds r := by
  unfold World.setCell
  simp only [hW]
  apply HP_eq
  · simp [HP_size]
  · intro k hk; rw [mod_ne (by omega), HP_old h e p ds r hk]
  · rw [mod_eq, HP_0]; rfl
  · rw [mod_ne (by omega), HP_1]
  · rw [mod_ne (by omega), HP_2]
  · rw [mod_ne (by omega), HP_3]
theorem HP_putLoop (hW : W.heap = HP h e p ds r) : (W.putObj (h.size + 3) (.loop r')).heap = HP h e p ds r' := by
  unfold World.putObj
  simp only [hW]
  apply HP_eq
  · simp [HP_size]
  · intro k hk; rw [set_ne (by omega), HP_old h e p ds r hk]
  · rw [set_ne (by omega), HP_0]
  · rw [set_ne (by omega), HP_1]
  · rw [set_ne (by omega), HP_2]
  · rw [set_eq (by rw [HP_size]; omega)]
theorem HP_putDef (hW : W.heap = HP h e p ds r) : (W.putObj (h.size + 2) (.deferred ds')).heap = HP h e p ds' r := by
  unfold World.putObj
  simp only [hW]
  apply HP_eq
  · simp [HP_size]
  · intro k hk; rw [set_ne (by omega), HP_old h e p ds r hk]
  · rw [set_ne (by omega), HP_0]
  · rw [set_ne (by omega), HP_1]
  · rw [set_eq (by rw [HP_size]; omega)]
  · rw [set_ne (by omega), HP_3]
theorem HP_box (hW : W.heap = HP h e p ds r) : W.cell? ⟨h.size + 1, 0, none⟩ = some (str p) ∧ W.frozen? ⟨h.size + 1, 0, none⟩ = false := by
  constructor <;> simp [World.cell?, World.frozen?, hW, HP_1]
theorem HP_err (hW : W.heap = HP h e p ds r) : W.cell? ⟨h.size, 0, none⟩ = some (.int .i64 e) ∧ W.frozen? ⟨h.size, 0, none⟩ = false := by
  constructor <;> simp [World.cell?, World.frozen?, hW, HP_0]
end

/-! ### The loop's own function -/
attribute [local go_sem] Oper.semAt_some
def rec0 (fn : FuncId) (tmps : Array Value) (ps : Array Tmp) (assign body : Code) (D : Nat) (st : LoopState) (pe : Option Code) : Loop := { state := st, pending := pe, fn, tmps, params := ps, assign, body, defers := D }

theorem cutB_lt {p : List UInt8} {c : UInt8} (hm : 0 ≤ Lib.indexByte p c) : (cutB p c).length < p.length := by
  have := indexByte_lt p c
  unfold cutB
  rw [if_pos hm, List.length_drop]; omega
def boxLen (h : Heap) (w : World) : Nat := match w.cell? ⟨h.size + 1, 0, none⟩ with
  | some (.string s) => s.size
  | _ => 0
theorem boxLen_eq {h : Heap} {e : Int} {p : List UInt8} {ds : Option (List Deferred)} {r : Loop} {W : World} (hW : W.heap = HP h e p ds r) : boxLen h W = p.length := by
  unfold boxLen
  rw [(HP_box hW).1]
  simp [ByteArray.size]

set_option maxHeartbeats 2000000 in
theorem comps1_in (n : Nat) (hn : 1 ≤ n) (h : Heap) (σ : Std) (p0 : List UInt8) (hp0 : p0.length ≤ 9223372036854775807) (rec : LoopState → Option Code → Loop)
    (hY : ∀ c p W, std W = σ → W.heap = HP h 0 p (some []) (rec .ready none) → YieldAt Fence.wide (n - 1) Tryz.prog (h.size + 3) #[str c] W fun e W' => std W' = σ ∧
      ((okc c = true ∧ e = .returned (.bool true) ∧ W'.heap = HP h 0 p (some []) (rec .ready none)) ∨ (okc c = false ∧ e = .returned (.bool false) ∧ W'.heap = HP h 6 p (some []) (rec .done (some .ret)))))
    (W : World) (hs : std W = σ) (hW : W.heap = HP h 0 p0 (some []) (rec .ready none)) :
    CallsIn Fence.wide n Tryz.prog 121 #[.func (.yield (h.size + 3)) #[] #[], .pointer (some ⟨h.size + 1, 0, none⟩)] W fun e W' => (∃ v, e = .returned v) ∧ std W' = σ ∧
      (((comps p0).all okc = true ∧ ∃ p', W'.heap = HP h 0 p' (some []) (rec .ready none)) ∨ ((comps p0).all okc = false ∧ ∃ p', W'.heap = HP h 6 p' (some []) (rec .done (some .ret)))) := by
  refine callsIn_of_wp Tryz.func121 rfl trivial ?_ rfl
  simp only [Tryz.ntmps121, List.size_toArray, List.length_cons, List.length_nil, Nat.reduceAdd, Nat.reduceSub, Array.replicate_succ, Array.replicate_zero, List.push_toArray, List.append_toArray, List.nil_append, List.cons_append]
  gi_wp2
  gi_loopw [] (fun wr => ∃ p, std wr = σ ∧ wr.heap = HP h 0 p (some []) (rec .ready none) ∧ p.length ≤ p0.length ∧ (comps p0).all okc = (comps p).all okc) (fun wr => boxLen h wr)
  case atStart => exact ⟨p0, hs, hW, Nat.le_refl _, rfl⟩
  case round =>
    obtain ⟨p, hs1, hW1, hl1, hc1⟩ := hrel
    obtain ⟨hb1, hf1⟩ := HP_box hW1
    have hcut : Cal Tryz.prog 122 #[str p, str [47]] wr.heap (fun v h' => v = .tuple #[str (cutA p 47), str (cutB p 47), .bool (decide (0 ≤ Lib.indexByte p 47))] ∧ h' = wr.heap) := strings_Cut _ p [47] rfl (by omega)
    have hcc := comps_cut p
    have h63 : Fence.wide.fn 122 := trivial
    by_cases hm : 0 ≤ Lib.indexByte p 47
    · rw [decide_eq_true hm] at hcut
      rw [if_pos hm] at hcc
      gi_wp2_with (gi_at_call 122; refine (callsIn_wide.2 (hcut _ rfl)).mono ?_; rintro e w' ⟨v, rfl, hsw, rfl, hhw⟩; obtain ⟨fn, tmps, assign, body, hy, hR⟩ := hY (cutA p 47) p w' (hsw.trans hs1) (hhw.trans hW1))
      refine hR.mono ?_
      rintro e W3 ⟨hs3, ⟨hok, rfl, hW3⟩ | ⟨hbad, rfl, hW3⟩⟩
      · obtain ⟨hb3, hf3⟩ := HP_box hW3
        gi_wp2
        have hlt := cutB_lt hm
        exact ⟨⟨cutB p 47, hs3, HP_setBox (cutB p 47) hW3, by omega, by rw [hc1, hcc]; simp [hok]⟩, by rw [boxLen_eq (HP_setBox (cutB p 47) hW3), boxLen_eq hW1]; exact hlt⟩
      · gi_wp2
        refine bodyPost_ret (results_none rfl _ _ _) rfl ?_
        exact ⟨⟨_, rfl⟩, hs3, .inr ⟨by rw [hc1, hcc]; simp [hbad], p, hW3⟩⟩
    · rw [decide_eq_false hm] at hcut
      rw [if_neg hm] at hcc
      have hca : cutA p 47 = p := by unfold cutA; rw [if_neg hm]
      rw [hca] at hcut
      gi_wp2_with (gi_at_call 122; refine (callsIn_wide.2 (hcut _ rfl)).mono ?_; rintro e w' ⟨v, rfl, hsw, rfl, hhw⟩; obtain ⟨fn, tmps, assign, body, hy, hR⟩ := hY p p w' (hsw.trans hs1) (hhw.trans hW1))
      refine hR.mono ?_
      rintro e W3 ⟨hs3, ⟨hok, rfl, hW3⟩ | ⟨hbad, rfl, hW3⟩⟩
      · gi_wp2
        refine bodyPost_ret (results_none rfl _ _ _) rfl ?_
        exact ⟨⟨_, rfl⟩, hs3, .inl ⟨by rw [hc1, hcc]; simp [hok], p, hW3⟩⟩
      · gi_wp2
        refine bodyPost_ret (results_none rfl _ _ _) rfl ?_
        exact ⟨⟨_, rfl⟩, hs3, .inr ⟨by rw [hc1, hcc]; simp [hbad], p, hW3⟩⟩

theorem comps_range (h : Heap) (p : List UInt8) (hl : p.length ≤ 9223372036854775807) (n : Nat) (hn : 2 ≤ n) {g : Operand} {ps : Array Tmp} {assign body : Code} {Q : Exit → Act → World → Prop} {a : Act} {w : World}
    (hw : w.heap = (h.push (.cells #[.int .i64 0] 38)).push (.cells #[str p] 9)) (hg : a.eval g = .func (.func 121) #[] #[.pointer (some ⟨h.size + 1, 0, none⟩)]) (hps : ps.size = 1)
    (hround : ∀ (rec : LoopState → Option Code → Loop),
      (∀ W q, W.heap = HP h 0 q (some []) (rec .ready none) → (Instr.beginRound (h.size + 3)).run Tryz.prog W = .ok () (W.putObj (h.size + 3) (.loop (rec .busy none)))) →
      (∀ W e q jump, W.heap = HP h e q (some []) (rec .busy none) → (Instr.endRound (h.size + 3) jump).run Tryz.prog W = .ok (.bool jump.isNone) (W.putObj (h.size + 3) (.loop (rec (if jump.isNone then .ready else .done) jump)))) →
      ∀ c q W, std W = std w → W.heap = HP h 0 q (some []) (rec .ready none) →
      assign.wpIn (Fence.wide.inRound (h.size + 3)) (n - 1 - 1) Tryz.prog (Exit.then (fun a1 w1 => ∃ w2, (Instr.beginRound (h.size + 3)).run Tryz.prog w1 = .ok () w2 ∧ body.wpIn (Fence.wide.inRound (h.size + 3)) (n - 1 - 1) Tryz.prog (roundPost Tryz.prog (h.size + 3) (fun e W' => std W' = std w ∧
        ((okc c = true ∧ e = .returned (.bool true) ∧ W'.heap = HP h 0 q (some []) (rec .ready none)) ∨ (okc c = false ∧ e = .returned (.bool false) ∧ W'.heap = HP h 6 q (some []) (rec .done (some .ret)))))) a1 w2) (fun _ _ _ => False))
        { tmps := (ps.zip #[str c]).foldl (fun tmps (t, a) => tmps.setIfInBounds t a) a.tmps, defers := [] } W)
    (hdone : ∀ r q W, std W = std w → (comps p).all okc = true → W.heap = HP h 0 q (some []) r → Q .normal { a with defers := { target := .collected (h.size + 2), args := #[] } :: a.defers } W)
    (hstop : ∀ r q W, std W = std w → (comps p).all okc = false → W.heap = HP h 6 q (some []) r → Code.ret.wpIn Fence.wide n Tryz.prog Q { a with defers := { target := .collected (h.size + 2), args := #[] } :: a.defers } W) :
    (Code.rangeFunc g ps assign body).wpIn Fence.wide n Tryz.prog Q a w := by
  refine wpIn_rangeFunc ?_
  intro fn _
  have hz : w.heap.size = h.size + 2 := by rw [hw]; simp
  obtain ⟨W1, hW1⟩ : ∃ W1, (w.alloc (.deferred (some []))).alloc (.loop (rec0 fn a.tmps ps assign body (h.size + 2) .ready none)) = W1 := ⟨_, rfl⟩
  have hh1 : W1.heap = HP h 0 p (some []) (rec0 fn a.tmps ps assign body (h.size + 2) .ready none) := by
    rw [← hW1]; show ((w.heap.push _).push _) = _; rw [hw]; rfl
  have hs1 : std W1 = std w := by rw [← hW1]; rfl
  refine ⟨h.size + 3, [{ target := .collected (h.size + 2), args := #[] }], W1, { target := .fn (.func 121) #[.pointer (some ⟨h.size + 1, 0, none⟩)], args := #[.func (.yield (h.size + 3)) #[] #[]] }, W1, 121,
    #[.func (.yield (h.size + 3)) #[] #[]] ++ #[.pointer (some ⟨h.size + 1, 0, none⟩)], W1, ?_, ?_, ?_, ?_, (fun _ => by omega), ?_⟩
  · have := run_enterLoop_outer (P := Tryz.prog) (w := w) fn a.tmps ps assign body
    rw [hz] at this
    rw [← hW1]; exact this
  · simp only [resolve, hg]
    simp [go_sem]
  · intro f' _; trivial
  · simp [invoke, go_sem, enters_of Tryz.func121 (by kernel_rfl) rfl]
  · refine (comps1_in (n - 1) (by omega) h (std w) p hl (rec0 fn a.tmps ps assign body (h.size + 2)) ?_ W1 hs1 hh1).mono ?_
    · intro c q W hsW hW
      have hl3 : W.heap[h.size + 3]? = some (.loop (rec0 fn a.tmps ps assign body (h.size + 2) .ready none)) := by rw [hW, HP_3]
      exact ⟨fn, _, assign, body, run_yield (P := Tryz.prog) hl3 (by rw [show (rec0 fn a.tmps ps assign body (h.size + 2) .ready none).params = ps from rfl, hps]; rfl), roundIn_of_wpIn trivial (hround (rec0 fn a.tmps ps assign body (h.size + 2)) (fun W q hW => run_beginRound (r := rec0 fn a.tmps ps assign body (h.size + 2) .ready none) (by rw [hW, HP_3]) rfl) (fun W e q jump hW => run_endRound (r := rec0 fn a.tmps ps assign body (h.size + 2) .busy none) jump (by rw [hW, HP_3])) c q W hsW hW)⟩
    · rintro e W2 ⟨⟨v, rfl⟩, hs2, ⟨hall, q, hh⟩ | ⟨hall, q, hh⟩⟩
      · have hl3 : W2.heap[h.size + 3]? = some (.loop (rec0 fn a.tmps ps assign body (h.size + 2) .ready none)) := by rw [hh, HP_3]
        exact ⟨none, _, run_endLoop (P := Tryz.prog) hl3 (by simp [rec0]), hdone _ q _ hs2 hall (HP_putLoop _ hh)⟩
      · have hl3 : W2.heap[h.size + 3]? = some (.loop (rec0 fn a.tmps ps assign body (h.size + 2) .done (some .ret))) := by rw [hh, HP_3]
        exact ⟨some .ret, _, run_endLoop (P := Tryz.prog) hl3 (by simp [rec0]), hstop _ q _ hs2 hall (HP_putLoop _ hh)⟩

set_option maxHeartbeats 1000000 in
theorem comps_in (n : Nat) (h49 : Fence.wide.fn 86) (p : List UInt8) (w : World) :
    CallsIn Fence.wide n Tryz.prog 86 #[str p] w fun e w' => e = .returned (.func (.func 121) #[] #[.pointer (some ⟨w.heap.size, 0, none⟩)]) ∧ w' = w.alloc (.cells #[str p] 9) := by
  refine callsIn_of_wp Tryz.func86 rfl h49 ?_ rfl
  simp only [Tryz.ntmps86, List.size_toArray, List.length_cons, List.length_nil, Nat.reduceAdd, Nat.reduceSub, Array.replicate_succ, Array.replicate_zero, List.push_toArray, List.append_toArray, List.nil_append, List.cons_append]
  gi_wp2
  go_ret
  exact ⟨rfl, rfl⟩

set_option maxHeartbeats 2000000 in
theorem pathname_Check (h : Heap) (p : List UInt8) (hl : p.length ≤ 9223372036854775807) : Cal Tryz.prog 37 #[str p] h (fun v h' => v = .int .i64 (pcheck p) ∧ Ext h h') := by
  intro w hw
  refine (callsIn_wide (n := 9)).1 (callsIn_of_wp_marks Tryz.func37 rfl trivial ?_ rfl)
  simp only [Tryz.ntmps37, List.size_toArray, List.length_cons, List.length_nil, Nat.reduceAdd, Nat.reduceSub, Array.replicate_succ, Array.replicate_zero, List.push_toArray, List.append_toArray, List.nil_append, List.cons_append]
  have h49 : Fence.wide.fn 86 := trivial
  by_cases hlen : 65536 < p.length
  · gi_wp2
    have hp : pcheck p = 7 := by unfold pcheck; rw [if_pos hlen]
    refine ⟨.int .i64 7, ?_, _, rfl, rfl, by rw [hp], ?_⟩
    · simp [results, Tryz.f37, go_sem, hw]
    · subst hw; exact (heap_push _ _).1
  · gi_wp2_with (gi_at_call 86; refine (comps_in 8 h49 p _).mono ?_; rintro e w' ⟨rfl, rfl⟩)
    obtain ⟨W0, hW0⟩ : ∃ W0, (w.alloc (.cells #[.int .i64 0] 38)).alloc (.cells #[str p] 9) = W0 := ⟨_, rfl⟩
    have hs0 : std W0 = std w := by rw [← hW0]; rfl
    have hh0 : W0.heap = (h.push (.cells #[.int .i64 0] 38)).push (.cells #[str p] 9) := by rw [← hW0, ← hw]; rfl
    have hz0 : W0.heap.size = h.size + 2 := by rw [hh0]; simp
    rw [hW0]
    refine comps_range h p hl 9 (by omega) hh0 rfl rfl ?round ?done ?stop
    case round =>
      intro rec hbeg hend c q W hsW hW
      have h50 : (Fence.wide.inRound (h.size + 3)).fn 52 := trivial
      have h50' : Fence.wide.fn 52 := trivial
      gi_wp2
      refine ⟨_, hbeg W q hW, ?_⟩
      obtain ⟨W2, hW2⟩ : ∃ W2, W.putObj (h.size + 3) (.loop (rec .busy none)) = W2 := ⟨_, rfl⟩
      have hs2 : std W2 = std W0 := by rw [← hW2]; exact hsW
      have hh2 : W2.heap = HP h 0 q (some []) (rec .busy none) := by rw [← hW2]; exact HP_putLoop _ hW
      rw [hW2]
      obtain ⟨hc2, hf2⟩ := HP_err hh2
      have hib : Cal Tryz.prog 52 #[str c, .int .u8 0] W2.heap (fun v h' => v = .int .i64 (Lib.indexByte c 0) ∧ h' = W2.heap) := strings_IndexByte _ c 0
      have hibm := indexByte_mem c 0
      have hbad : okc c = false → ∀ T : Act, roundPost Tryz.prog (h.size + 3) (fun e W' => std W' = std W0 ∧
          ((okc c = true ∧ e = .returned (.bool true) ∧ W'.heap = HP h 0 q (some []) (rec .ready none)) ∨ (okc c = false ∧ e = .returned (.bool false) ∧ W'.heap = HP h 6 q (some []) (rec .done (some .ret))))) .ret T (W2.setCell ⟨h.size, 0, none⟩ (.int .i64 6)) := fun hok T => by
        have hh3 := HP_setErr 6 hh2
        exact ⟨_, _, hend _ _ _ _ hh3, hs2, .inr ⟨hok, rfl, HP_putLoop _ hh3⟩⟩
      gi_wp2
      · rename_i hx; subst hx; exact hbad (by decide) _
      · rename_i _ hx; subst hx; exact hbad (by decide) _
      · rename_i _ _ hx; subst hx; exact hbad (by decide) _
      · have hx1 : ¬ c = [] := by assumption
        have hx2 : ¬ c = [46] := by assumption
        have hx3 : ¬ c = [46, 46] := by assumption
        refine (CallsIn.inRound _ (callsIn_wide.2 (hib _ rfl))).mono ?_
        rintro e w' ⟨v, rfl, hsw, rfl, hhw⟩
        have hh3 : w'.heap = HP h 0 q (some []) (rec .busy none) := hhw.trans hh2
        have hs3 : std w' = std W0 := hsw.trans hs2
        obtain ⟨hc3, hf3⟩ := HP_err hh3
        by_cases hz : (0 : UInt8) ∈ c
        · gi_wp2
          have hh4 := HP_setErr 6 hh3
          exact ⟨_, _, hend _ _ _ _ hh4, hs3, .inr ⟨by unfold okc; simp [hz], rfl, HP_putLoop _ hh4⟩⟩
        · have e1 : c.isEmpty = false := by simp [hx1]
          have e2 : (c == [46]) = false := by simp [hx2]
          have e3 : (c == [46, 46]) = false := by simp [hx3]
          have hok : okc c = true := by unfold okc; simp [hz, hx1, hx2, hx3]
          gi_wp2
          exact ⟨_, _, hend _ _ _ _ hh3, hs3, .inl ⟨hok, rfl, HP_putLoop _ hh3⟩⟩
    case done =>
      intro r q W hsW hall hW
      have hp : pcheck p = 0 := by unfold pcheck; rw [if_neg hlen, if_pos hall]
      obtain ⟨hc2, hf2⟩ := HP_err hW
      gi_wp2
      have hh3 := HP_setErr 0 hW
      have hK : (W.setCell ⟨h.size, 0, none⟩ (.int .i64 0)).heap[h.size + 2]? = some (.deferred (some [])) := by rw [hh3, HP_2]
      have hh4 := HP_putDef none hh3
      refine ⟨by simp, .inl ⟨_, _, rfl, run_takeDeferred hK, ?_⟩⟩
      refine ⟨.int .i64 0, ?_, _, rfl, hsW.trans hs0, by rw [hp], by rw [hh4]; exact HP_ext _ _ _ _ _⟩
      simp [results, Tryz.f37, go_sem, (HP_err hh4).1]
    case stop =>
      intro r q W hsW hall hW
      have hp : pcheck p = 6 := by unfold pcheck; rw [if_neg hlen, if_neg (by simp [hall])]
      gi_wp2
      have hK : W.heap[h.size + 2]? = some (.deferred (some [])) := by rw [hW, HP_2]
      have hh4 := HP_putDef none hW
      refine ⟨by simp, .inl ⟨_, _, rfl, run_takeDeferred hK, ?_⟩⟩
      refine ⟨.int .i64 6, ?_, _, rfl, hsW.trans hs0, by rw [hp], by rw [hh4]; exact HP_ext _ _ _ _ _⟩
      simp [results, Tryz.f37, go_sem, (HP_err hh4).1]

/-! ### The reference's Check -/
theorem ref08_part (h : Heap) (c : List UInt8) (hl : c.length ≤ 9223372036854775807) : Cal Tryz.prog 160 #[str c] h (fun v h' => v = .bool (okc c) ∧ h' = h) := by
 refine Ce Tryz.func160 fun σ => ?_
 refine Wa ?_
 refine Ln (Xt (Wq ?_))
 refine Wc [(13, .bool (decide (((c = []) ∨ (c = [46])) ∨ (c = [46, 46])))), (2, .bool false), (0, str c)] (fun h' => h' = h) ?_ ?_
 ·refine Wg ?_
  refine Mv ?_
  refine Ly (Y_seql rfl rfl) ?_
  refine Mv ?_
  refine L_splitd (d := 6) rfl (fun c1 => ?_) (fun c1 => ?_)
  ·refine Sk2 ?_
   refine Ly Ypt ?_
   refine Mv ?_
   refine Sk2 ?_
   refine Ly Ypt ?_
   refine Ln ?_
   exact X_cut () (sk1 13 (lkb rfl (by first | (simp only [eq_true c1, SB]; done) | (simp only [eq_true c1, SB]; rfl))) (sk1 2 rfl (tk1 0))) rfl
  refine Ly (Y_move rfl) ?_
  refine Ly (Y_seql rfl rfl) ?_
  refine Ly Ypf ?_
  refine Mv ?_
  refine L_splitd (d := 10) rfl (fun c2 => ?_) (fun c2 => ?_)
  ·refine Sk2 ?_
   refine Ly Ypt ?_
   refine Ln ?_
   exact X_cut () (sk1 13 (lkb rfl (by first | (simp only [eq_false c1, eq_true c2, SB]; done) | (simp only [eq_false c1, eq_true c2, SB]; rfl))) (sk1 2 rfl (tk1 0))) rfl
  refine Ly (Y_move rfl) ?_
  refine Ly (Y_seql rfl rfl) ?_
  refine Ly Ypf ?_
  refine Ln ?_
  exact X_cut () (sk1 13 (lkb rfl (by first | (simp only [eq_false c1, eq_false c2, SB]; done) | (simp only [eq_false c1, eq_false c2, SB]; rfl))) (sk1 2 rfl (tk1 0))) rfl
 rintro h rfl
 refine Sd (fun g => ?_) fun g => ?_
 ·refine Wa ?_
  refine Ln (Xt (Wt (Xr ?_)))
  refine Xv1 ?_
  refine ⟨?_, rfl⟩
  have : okc c = false := by unfold okc; rcases g with (g | g) | g <;> simp [g]
  rw [this]
 refine Wk (Xt (Wq (Wq (Wg ?_))))
 refine Av ?_
 refine Ln (Xt (Wb ?_))
 refine W_loop (S := Nat) (fun i => [(0, str c), (3, .int .i64 ((i : Int)))]) (fun i h' => i ≤ c.length ∧ (∀ k, k < i → ¬ byt c k = 0) ∧ h' = h) (fun i => c.length - i) 0 (tk2 0 3) ?_ ?_
 ·exact ⟨Nat.zero_le _, (fun _ hk => absurd hk (Nat.not_lt_zero _)), rfl⟩
 rintro i h ⟨hi, hip, rfl⟩
 show W _ _ _ _ _ [(0, str c), (3, .int .i64 ((i : Int)))] _
 refine Wq (Wq (Wg ?_))
 refine M2 ?_
 refine Ly (Y_slen Tryz.underlying9 rfl) ?_
 refine Ly Yls ?_
 refine Nx ?_
 refine Sd (fun hl => ?_) fun hl => ?_
 ·refine Wk (Xt (Wq (Wb (Wq (Wg ?_)))))
  refine M2 ?_
  refine Ly (Y_sidx Tryz.underlying9 rfl rfl (by omega) (by omega)) ?_
  refine Ly Yeq ?_
  refine Nx ?_
  refine Wu _ (tk3 23 0 3) ?_
  refine Sd (fun he => ?_) fun hne => ?_
  ·refine Wa ?_
   refine Ln (Xt (Wt (Yr (Xr (Xr (Yr (Xr ?_)))))))
   refine Xv1 ?_
   have hz : (0 : UInt8) ∈ c := byt_mem (by omega) he
   refine ⟨?_, rfl⟩
   have : okc c = false := by unfold okc; simp [hz]
   rw [this]
  refine Wk (Xb (Xt (Wg ?_)))
  refine Mv ?_
  refine Lad ?_
  refine Av ?_
  refine Ln ?_
  refine X_loop (i + 1) (tk2 0 3) ?_ ?_
  ·exact ⟨by omega, (step_ne hip hne), rfl⟩
  (try dsimp only)
  omega
 refine W_exit ?_
 refine Xe (Xe ?_)
 refine X_block_hit ?_
 refine Xt ?_
 refine Wu _ sN ?_
 refine Wa ?_
 refine Ln (Xt (Wt ?_))
 refine Xv1 ?_
 have hz : (0 : UInt8) ∉ c := byt_ne (fun k hk => hip k (by omega))
 refine ⟨?_, rfl⟩
 simp only [not_or] at g
 have : okc c = true := by unfold okc; simp [hz, g.1.1, g.1.2, g.2]
 rw [this]

theorem comps_none : ∀ {l : List UInt8}, (∀ j, j < l.length → ¬ byt l j = 47) → comps l = [l]
  | [], _ => rfl
  | a :: l, h => by
    have h1 := comps_none (l := l) (fun j hj => by have := h (j + 1) (by simpa using hj); rwa [byt_succ] at this)
    have h2 := h 0 (by simp)
    rw [byt_zero] at h2
    rw [comps, if_neg (fun e => h2 (by rw [e]; rfl)), h1]
theorem comps_at : ∀ {l : List UInt8} {k : Nat}, k < l.length → byt l k = 47 → (∀ j, j < k → ¬ byt l j = 47) → comps l = l.take k :: comps (l.drop (k + 1))
  | [], k, hk, _, _ => by simp at hk
  | a :: l, 0, _, h1, _ => by
    rw [byt_zero] at h1
    have : a = 47 := UInt8.toNat_inj.1 (Int.ofNat_inj.1 h1)
    rw [comps, if_pos this]; simp
  | a :: l, k + 1, hk, h1, h2 => by
    rw [byt_succ] at h1
    have h3 := comps_at (l := l) (k := k) (by simpa using hk) h1 (fun j hj => by have := h2 (j + 1) (by omega); rwa [byt_succ] at this)
    have h4 := h2 0 (by omega)
    rw [byt_zero] at h4
    rw [comps, if_neg (fun e => h4 (by rw [e]; rfl)), h3]
    simp
theorem byt_drop (l : List UInt8) (f j : Nat) (h : f + j < l.length) : byt (l.drop f) j = byt l (f + j) := by
  rw [byt_eq (by simp; omega), byt_eq h, List.getElem_drop]
/-- The component that begins at 'f' and ends at 'i'. -/
theorem comps_from {p : List UInt8} {f i : Nat} (hf : f ≤ i) (hi : i ≤ p.length) (hn : ∀ k, f ≤ k → k < i → ¬ byt p k = 47) :
    (i = p.length → comps (p.drop f) = [(p.take i).drop f]) ∧ (i < p.length → byt p i = 47 → comps (p.drop f) = (p.take i).drop f :: comps (p.drop (i + 1))) := by
  constructor
  · intro h
    rw [comps_none (fun j hj => by rw [byt_drop p f j (by simp at hj; omega)]; exact hn _ (by omega) (by simp at hj; omega)), h, List.take_length]
  · intro h1 h2
    rw [comps_at (l := p.drop f) (k := i - f) (by simp; omega) (by rw [byt_drop p f _ (by omega), show f + (i - f) = i by omega]; exact h2) (fun j hj => by rw [byt_drop p f j (by omega)]; exact hn _ (by omega) (by omega))]
    rw [List.drop_take, List.drop_drop, show f + (i - f + 1) = i + 1 by omega]

def CInv (p : List UInt8) (f i : Nat) : Prop := (i ≤ p.length ∧ f ≤ i ∧ (comps p).all okc = (comps (p.drop f)).all okc ∧ ∀ k, f ≤ k → k < i → ¬ byt p k = 47) ∨ (i = p.length + 1 ∧ (comps p).all okc = true)
theorem CInv.zero (p : List UInt8) : CInv p 0 0 := .inl ⟨by omega, by omega, rfl, fun k h1 h2 => absurd h2 (by omega)⟩
theorem CInv.last {p : List UInt8} {f i : Nat} (h : CInv p f i) (hi : ¬ i ≤ p.length) : pcheck p = if 65536 < p.length then 7 else 0 := by
  rcases h with h | h
  · omega
  · unfold pcheck; rw [if_pos h.2]
theorem CInv.comp {p : List UInt8} {f i : Nat} (h : CInv p f i) (hi : i ≤ p.length) (hs : i = p.length ∨ byt p i = 47) :
    (okc ((p.take i).drop f) = false → (comps p).all okc = false) ∧ (okc ((p.take i).drop f) = true → CInv p (i + 1) (i + 1)) := by
  rcases h with ⟨h1, h2, h3, h4⟩ | h
  · have hcf := comps_from h2 h1 h4
    rcases Nat.lt_or_eq_of_le hi with hlt | heq
    · have hs' : byt p i = 47 := by rcases hs with hs | hs; omega; exact hs
      have hc := hcf.2 hlt hs'
      constructor
      · intro hb; rw [h3, hc, List.all_cons, hb]; rfl
      · intro hb
        exact .inl ⟨by omega, by omega, by rw [h3, hc, List.all_cons, hb]; rfl, fun k k1 k2 => absurd k2 (by omega)⟩
    · have hc := hcf.1 heq
      constructor
      · intro hb; rw [h3, hc, List.all_cons, hb]; rfl
      · intro hb; exact .inr ⟨by omega, by rw [h3, hc, List.all_cons, hb]; rfl⟩
  · omega
theorem CInv.on {p : List UInt8} {f i : Nat} (h : CInv p f i) (hi : i ≤ p.length) (hs : ¬ (i = p.length ∨ byt p i = 47)) : CInv p f (i + 1) := by
  rcases h with ⟨h1, h2, h3, h4⟩ | h
  · exact .inl ⟨by omega, by omega, h3, fun k k1 k2 => if hk : k = i then by subst hk; exact fun h9 => hs (.inr h9) else h4 k k1 (by omega)⟩
  · omega

theorem ref08_Check (h : Heap) (p : List UInt8) : Cal Tryz.prog 135 #[str p] h (fun v h' => v = .int .i64 (pcheck p) ∧ h' = h) := by
 refine Ce Tryz.func135 fun σ => ?_
 refine Wa ?_
 refine Ln (Xt (Wq (Wq (Wg ?_))))
 refine Mv ?_
 refine Ly (Y_slen Tryz.underlying9 rfl) ?_
 refine Ly (Y_gtr rfl rfl) ?_
 refine Nx ?_
 refine Sd (fun g => ?_) fun g => ?_
 ·refine Wa ?_
  refine Ln (Xt (Wt (Xr ?_)))
  refine Xv1 ?_
  exact ⟨by unfold pcheck; rw [if_pos (by omega)], rfl⟩
 refine Wk (Xt (Wq (Wg ?_)))
 refine Av ?_
 refine Ln (Xt (Wq (Wq (Wg ?_))))
 refine Av ?_
 refine Ln (Xt (Wb ?_))
 refine W_loop (S := Nat × Nat) (fun (f, i) => [(0, str p), (3, .int .i64 ((f : Int))), (4, .int .i64 ((i : Int)))]) (fun (f, i) h' => (CInv p f i ∧ f ≤ i) ∧ h' = h) (fun (f, i) => p.length + 1 - i) (0, 0) (tk3 0 3 4) ?_ ?_
 ·exact ⟨⟨CInv.zero p, Nat.le_refl _⟩, rfl⟩
 rintro ⟨f, i⟩ h ⟨⟨hinv, hfi⟩, rfl⟩
 show W _ _ _ _ _ [(0, str p), (3, .int .i64 ((f : Int))), (4, .int .i64 ((i : Int)))] _
 refine Wq (Wq (Wg ?_))
 refine M2 ?_
 refine Ly (Y_slen Tryz.underlying9 rfl) ?_
 refine Ly (Y_leq rfl rfl) ?_
 refine Nx ?_
 refine Sd (fun hl => ?_) fun hl => ?_
 ·refine Wk (Xt (Wq (Wb ?_)))
  refine Wc [(23, .bool (decide (((i : Int) = (p.length : Int)) ∨ ((byt p ((i : Int)).toNat) = 47)))), (0, str p), (3, .int .i64 ((f : Int))), (4, .int .i64 ((i : Int)))] (fun h' => h' = h) ?_ ?_
  ·refine Wg ?_
   refine M2 ?_
   refine Ly (Y_slen Tryz.underlying9 rfl) ?_
   refine Ly Yeq ?_
   refine Mv ?_
   refine L_splitd (d := 18) rfl (fun c1 => ?_) (fun c1 => ?_)
   ·refine Sk2 ?_
    refine Sk2 ?_
    refine Ly Ypt ?_
    refine Ln ?_
    exact X_cut () (sk1 23 (lkb rfl (by first | (simp only [eq_true c1, SB]; done) | (simp only [eq_true c1, SB]; rfl))) (sk1 0 rfl (sk1 3 rfl (tk1 4)))) rfl
   refine Ly (Y_move rfl) ?_
   refine Mv ?_
   refine Ly (Y_sidx Tryz.underlying9 rfl rfl (by omega) (by omega)) ?_
   refine Ly Yeq ?_
   refine Ly Ypf ?_
   refine Ln ?_
   exact X_cut () (sk1 23 (lkb rfl (by first | (simp only [eq_false c1, SB]; done) | (simp only [eq_false c1, SB]; rfl))) (sk1 0 rfl (sk1 3 rfl (tk1 4)))) rfl
  rintro h rfl
  refine Sd (fun hs => ?_) fun hs => ?_
  ·have hcc := hinv.comp (by omega) (by rcases hs with hs | hs; left; omega; exact .inr hs)
   have hpl : ((p.take (i : Int).toNat).drop (f : Int).toNat).length ≤ p.length := by simp; omega
   refine Wq (Wq (Wg ?_))
   refine M2 ?_
   refine Mv ?_
   refine Ly (Y_sslice Tryz.underlying9 rfl rfl rfl (by omega) (by omega) (by omega)) ?_
   refine Lc (ref08_part _ ((p.take ((i : Int)).toNat).drop ((f : Int)).toNat) (by first | omega | rfl | (simp <;> omega))) ?_
   rintro _ h ⟨rfl, rfl⟩
   refine Ly (Y_not rfl) ?_
   refine Nx ?_
   refine Wu _ (tk4 29 0 3 4) ?_
   refine W_split rfl (fun hb => ?_) (fun hb => ?_)
   ·refine Wa ?_
    refine Ln (Xt (Wt (Xr (Yr (Xr (Xr (Yr (Xr ?_))))))))
    refine Xv1 ?_
    have hbad := hcc.1 (by simpa using hb)
    refine ⟨?_, rfl⟩
    unfold pcheck
    rw [if_neg (by omega), if_neg (by simp [hbad])]
   refine Wk (Xt (Wg ?_))
   refine Mv ?_
   refine Lad ?_
   refine Av ?_
   refine Ln (Xb (Xt (Wg ?_)))
   refine Mv ?_
   refine Lad ?_
   refine Av ?_
   refine Ln ?_
   refine X_loop ((i + 1, i + 1)) (tk3 0 3 4) ?_ ?_
   ·exact ⟨⟨hcc.2 (by simpa using hb), by omega⟩, rfl⟩
   (try dsimp only)
   omega
  refine Wk (Xb (Xt (Wg ?_)))
  refine Mv ?_
  refine Lad ?_
  refine Av ?_
  refine Ln ?_
  refine X_loop ((f, i + 1)) (tk3 0 3 4) ?_ ?_
  ·exact ⟨⟨hinv.on (by omega) (fun h9 => hs (h9.elim (fun h => .inl (by omega)) .inr)), by omega⟩, rfl⟩
  (try dsimp only)
  omega
 refine W_exit ?_
 refine Xe (Xe ?_)
 refine X_block_hit ?_
 refine Xt ?_
 refine Wu _ sN ?_
 refine Wa ?_
 refine Ln (Xt (Wt ?_))
 refine Xv1 ?_
 exact ⟨by rw [hinv.last (by omega), if_neg (by omega)], rfl⟩

end Go.Xp
