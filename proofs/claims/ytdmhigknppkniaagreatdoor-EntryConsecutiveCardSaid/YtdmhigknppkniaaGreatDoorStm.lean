/- Layer 12 (entry): the chapter's example, and the law on the length. -/
import Derived.Test.YtdmhigknppkniaaGreatDoorEncP
import Derived.Test.YtdmhigknppkniaaGreatDoorPath
set_option linter.unusedSimpArgs false
set_option linter.unusedVariables false
set_option linter.unusedSectionVars false
set_option maxRecDepth 100000
namespace Go.Xp
open Go.Proofs

theorem rone_le {r : Rec} (h : rrest r.key r.val ≤ 1152921504606846976) : (rone r).length ≤ rrest r.key r.val + 25 ∧ 1 ≤ (rone r).length := by
  have h2 := pdig_ok h
  have h4 : rrest r.key r.val = r.key.length + r.val.length + 3 := rfl
  have h3 : psz (rrest r.key r.val) = rrest r.key r.val + pdig (rrest r.key r.val) := rfl
  unfold rone
  simp only [List.length_append, List.length_cons, List.length_nil, Lib.decDigits_length]
  rw [h3, h2.2.2.1]; omega
theorem e1_check : fcheck 0 [97] 0 [] 0 = 0 := by decide +kernel
theorem e1_recs : fR (fcheck 0 [97] 0 [] 0) [97] [] 0 = [] := by
  have hs : sok [97] = true := by decide +kernel
  rw [fR, if_pos e1_check]; simp [frecs, hs]
theorem e2_check : fcheck 1 (Lib.repeatL [110] 300) 0 [] 0 = 0 := by decide +kernel
theorem e2_sok : sok (Lib.repeatL [110] 300) = false := by decide +kernel
theorem e2_len : (Lib.repeatL [110] 300).length = 300 := by rw [repeatL_one, List.length_replicate]
theorem rrest_eq (k v : List UInt8) : rrest k v = k.length + v.length + 3 := rfl
theorem e2_recs : fR (fcheck 1 (Lib.repeatL [110] 300) 0 [] 0) (Lib.repeatL [110] 300) [] 0 = [⟨[112, 97, 116, 104], Lib.repeatL [110] 300⟩] := by
  rw [fR, if_pos e2_check]
  unfold frecs
  rw [if_neg (by simp), e2_sok, if_neg (by decide), if_neg (by decide)]; rfl
theorem e2_size : (eenc 1 (Lib.repeatL [110] 300) 0 [] 0).length = 1536 := by
  have hne : fR (fcheck 1 (Lib.repeatL [110] 300) 0 [] 0) (Lib.repeatL [110] 300) [] 0 ≠ [] := by rw [e2_recs]; simp
  have hr := rlerr_plan e2_check
  have hL := eenc_len e2_check
  rw [if_neg hne] at hL
  have hR : (rfmt (fR (fcheck 1 (Lib.repeatL [110] 300) 0 [] 0) (Lib.repeatL [110] 300) [] 0)).length ≤ 400 ∧ 1 ≤ (rfmt (fR (fcheck 1 (Lib.repeatL [110] 300) 0 [] 0) (Lib.repeatL [110] 300) [] 0)).length := by
    rw [e2_recs] at hr ⊢
    unfold rfmt
    rw [if_pos hr]
    have hq : rrest [112, 97, 116, 104] (Lib.repeatL [110] 300) = 307 := by rw [rrest_eq, e2_len]; rfl
    have := rone_le (r := ⟨[112, 97, 116, 104], Lib.repeatL [110] 300⟩) (by show rrest [112, 97, 116, 104] (Lib.repeatL [110] 300) ≤ _; rw [hq]; decide)
    change (rone ⟨[112, 97, 116, 104], Lib.repeatL [110] 300⟩).length ≤ rrest [112, 97, 116, 104] (Lib.repeatL [110] 300) + 25 ∧ _ at this
    rw [hq] at this
    simp only [List.flatMap_cons, List.flatMap_nil, List.append_nil]
    omega
  rw [hL]
  generalize (rfmt (fR (fcheck 1 (Lib.repeatL [110] 300) 0 [] 0) (Lib.repeatL [110] 300) [] 0)).length = R at hR ⊢
  unfold padn; omega
theorem law12_alive (h : Heap) (hG : Glb h) (hK : GlbK h) (hN : GlbN h) (hE : GlbE h) (hT : GlbT h) : Cal Tryz.prog 7 #[] h (fun v h' => v = .bool true ∧ Ext h h') := by
 refine Ce Tryz.func7 fun σ => ?_
 refine Wa ?_
 refine Ln (Xt (Wq (Wg ?_)))
 refine Ly (Yb (.agg #[.int .i64 0, str [97], .int .i64 0, str [], .int .i64 0]) [0, 1] [.const (.int .i64 0), .const (str [97])] [.int .i64 0, str [97]]) ?_
 refine Lc (entry_Encode _ hG hK hN hE hT (0 : Int) [97] (0 : Int) [] (0 : Int) (by decide) (by decide) (by decide)) ?_
 rintro _ h1 ⟨s01, rfl, hr02, hx3⟩
 refine Mx ?_
 refine A2 ?_
 refine Ln (Xt (Wq (Wg ?_)))
 refine Lc (strings_Repeat _ [110] (300 : Int) (by decide) (by decide)) ?_
 rintro _ h2 ⟨rfl, hx4⟩
 refine Ly (Yb (.agg #[.int .i64 1, str (Lib.repeatL [110] (300 : Int).toNat), .int .i64 0, str [], .int .i64 0]) [0, 1] [.const (.int .i64 1), .tmp 11] [.int .i64 1, str (Lib.repeatL [110] (300 : Int).toNat)]) ?_
 refine Lc (entry_Encode _ (hG.ext (hx3.trans hx4)) (hK.ext (hx3.trans hx4)) (hN.ext (hx3.trans hx4)) (hE.ext (hx3.trans hx4)) (hT.ext (hx3.trans hx4)) (1 : Int) (Lib.repeatL [110] (300 : Int).toNat) (0 : Int) [] (0 : Int) (by show (Lib.repeatL [110] 300).length ≤ _; rw [e2_len]; decide) (by decide) (by decide)) ?_
 rintro _ h3 ⟨s05, rfl, hr06, hx7⟩
 refine Mx ?_
 refine A2 ?_
 refine Nx ?_
 refine Wu _ (tk5 4 3 2 1 0) ?_
 refine Wm ?_
 refine Ly Yeq ?_
 refine Mv ?_
 refine L_known (d := 18) true rfl (by exact decide_eq_true (by exact e1_check)) ?_
 refine Mv ?_
 refine Ly (Y_len Tryz.underlying22 rfl (hr02.bytes.ext (hx4.trans hx7))) ?_
 refine Ly Yeq ?_
 refine Ly Ypt ?_
 refine Mv ?_
 refine L_known (d := 23) true rfl (by exact decide_eq_true (by rw [eenc_short e1_check e1_recs]; rfl)) ?_
 refine Mv ?_
 refine Ly Yeq ?_
 refine Ly Ypt ?_
 refine Mv ?_
 refine L_known (d := 27) true rfl (by exact decide_eq_true (by exact e2_check)) ?_
 refine Mv ?_
 refine Ly (Y_len Tryz.underlying22 rfl hr06.bytes) ?_
 refine Ly Yeq ?_
 refine Ly Ypt ?_
 refine An ?_
 refine Wu _ (tk1 0) ?_
 refine Wt ?_
 refine Xv1 ?_
 exact ⟨congrArg Value.bool (decide_eq_true (by show ((eenc 1 (Lib.repeatL [110] 300) 0 [] 0).length : Int) = 1536; rw [e2_size]; rfl)), ((hx3.trans hx4).trans hx7)⟩
end Go.Xp

/- Layer 12 (entry): the reference's Encode, IsZero on both sides, and the law that they agree. -/
namespace Go.Xp
open Go.Proofs

/-- The index of the first byte that is not zero, or -1. -/
def nzx : List UInt8 → Int
  | [] => -1
  | a :: l => if ¬ a = 0 then 0 else if nzx l < 0 then -1 else nzx l + 1
theorem nzx_found : ∀ {l : List UInt8} {m : Nat}, (∀ k, k < m → byt l k = 0) → m < l.length → ¬ byt l m = 0 → nzx l = m
  | [], _, _, h, _ => by simp at h
  | a :: l, 0, _, _, h => if_pos (fun e => h (by rw [e]; rfl))
  | a :: l, m + 1, hd, hl, h => by
    have h0 : ((a.toNat : Nat) : Int) = 0 := hd 0 (by omega)
    have ha : a = 0 := UInt8.toNat_inj.1 (by show a.toNat = 0; omega)
    have ih := nzx_found (l := l) (m := m) (fun k hk => by have := hd (k + 1) (by omega); rwa [byt_succ] at this) (by simpa using hl) (by rwa [byt_succ] at h)
    unfold nzx
    rw [if_neg (fun e => e ha), ih, if_neg (by omega)]; omega
theorem nzx_none : ∀ {l : List UInt8}, (∀ k, k < l.length → byt l k = 0) → nzx l = -1
  | [], _ => rfl
  | a :: l, hd => by
    have h0 : ((a.toNat : Nat) : Int) = 0 := hd 0 (by simp)
    have ha : a = 0 := UInt8.toNat_inj.1 (by show a.toNat = 0; omega)
    have ih := nzx_none (l := l) (fun k hk => by have := hd (k + 1) (by simpa using hk); rwa [byt_succ] at this)
    unfold nzx
    rw [if_neg (fun e => e ha), ih]; rfl
theorem isZero_nz (h : Heap) (c : Int) : Cal Tryz.prog 49 #[.int .u8 (c)] h (fun v h' => v = .bool (decide (¬ c = 0)) ∧ h' = h) := by
 refine Ce Tryz.func49 fun σ => ?_
 refine Wa ?_
 refine Ln (Xt (Wq (Wg ?_)))
 refine Mv ?_
 refine Ly Yne ?_
 refine Av ?_
 refine Ln (Xt (Wt ?_))
 refine Xv1 ?_
 exact ⟨rfl, rfl⟩
theorem slices_IndexNz (h : Heap) (v : Value) (l : List UInt8) (hb : Bytes h v l) (hn : l.length ≤ 140737488355328) : Cal Tryz.prog 93 #[v, .func (.func 49) #[] #[]] h (fun v h' => v = .int .i64 (nzx l) ∧ h' = h) := by
 refine Ce Tryz.func93 fun σ => ?_
 refine Wa ?_
 refine Ln (Xt (Wq (Wq (Wg ?_))))
 refine Mv ?_
 refine Ly (Y_len Tryz.underlying22 rfl hb) ?_
 refine Mv ?_
 refine Ln (Xt (Wb ?_))
 refine W_loop (S := Nat) (fun i => [(7, .int .i64 ((l.length : Int))), (0, v), (1, .func (.func 49) #[] #[]), (8, .int .i64 ((i : Int)))]) (fun i h' => i ≤ l.length ∧ (∀ k, k < i → byt l k = 0) ∧ h' = h) (fun i => l.length - i) 0 (tk4 7 0 1 8) ?_ ?_
 ·exact ⟨Nat.zero_le _, (fun _ hk => absurd hk (Nat.not_lt_zero _)), rfl⟩
 rintro i h ⟨hi, hip, rfl⟩
 show W _ _ _ _ _ [(7, .int .i64 ((l.length : Int))), (0, v), (1, .func (.func 49) #[] #[]), (8, .int .i64 ((i : Int)))] _
 refine Wr ?_
 refine Ly Yls ?_
 refine Ln (Xt (Wq ?_))
 refine Sd (fun hl2 => ?_) fun hl2 => ?_
 ·refine Wk (Xt (Wq (Wb (Wq (Wg ?_)))))
  refine Mv ?_
  refine Av ?_
  refine Ln (Xt (Wq (Wg ?_)))
  refine M2 ?_
  refine Mv ?_
  refine Ly (Y_idx Tryz.underlying22 (show _ = some 1 by kernel_rfl) rfl rfl hb (by omega) (by omega)) ?_
  refine Ly (Y_ldbyte Tryz.underlying5 rfl rfl hb (by omega) (by omega)) ?_
  refine L_call (E_callv (fs := []) (cs := []) (by kernel_rfl) rfl rfl) (isZero_nz _ (byt l ((i : Int)).toNat)) rfl rfl rfl ?_
  rintro _ h ⟨rfl, rfl⟩
  refine Nx ?_
  refine Wu _ (tk6 16 5 7 0 1 8) ?_
  refine Sd (fun hne => ?_) fun hne => ?_
  ·refine Wm ?_
   refine Av ?_
   refine Ln (Xt (Wt (Yr (Xr (Xr (Yr (Xr ?_)))))))
   refine Xv1 ?_
   rw [Int.toNat_natCast] at hne
   exact ⟨by rw [nzx_found (m := i) hip (by omega) hne], rfl⟩
  refine Wk (Xb (Xt (Wg ?_)))
  refine Lad ?_
  refine Mv ?_
  refine Ln ?_
  refine X_loop (i + 1) (tk4 7 0 1 8) ?_ ?_
  ·exact ⟨by omega, (step_ne hip (by have h9 := Classical.not_not.1 hne; rw [Int.toNat_natCast] at h9; exact h9)), rfl⟩
  (try dsimp only)
  omega
 refine W_exit ?_
 refine Xe (Xe ?_)
 refine X_block_hit ?_
 refine Xt (Wq (Wg ?_))
 refine Av ?_
 refine Ln (Xt (Wt ?_))
 refine Xv1 ?_
 have hi9 : i = l.length := by omega
 exact ⟨by rw [nzx_none (fun k hk => hip k (by omega))], rfl⟩
theorem slices_ContainsNz (h : Heap) (v : Value) (l : List UInt8) (hb : Bytes h v l) (hn : l.length ≤ 140737488355328) : Cal Tryz.prog 48 #[v, .func (.func 49) #[] #[]] h (fun v h' => v = .bool (decide (0 ≤ nzx l)) ∧ h' = h) := by
 refine Ce Tryz.func48 fun σ => ?_
 refine Wa ?_
 refine Ln (Xt (Wq (Wg ?_)))
 refine M2 ?_
 refine Lc (slices_IndexNz _ v l hb (by first | omega | rfl | (simp <;> omega))) ?_
 rintro _ h ⟨rfl, rfl⟩
 refine Ly (Y_geq rfl rfl) ?_
 refine An ?_
 refine Wu _ (tk1 4) ?_
 refine Wt ?_
 refine Xv1 ?_
 exact ⟨rfl, rfl⟩
theorem entry_IsZero (h : Heap) (v : Value) (l : List UInt8) (hb : Bytes h v l) (hn : l.length ≤ 140737488355328) : Cal Tryz.prog 21 #[v] h (fun v h' => v = .bool (decide (¬ (0 ≤ nzx l))) ∧ h' = h) := by
 refine Ce Tryz.func21 fun σ => ?_
 refine Wa ?_
 refine Ln (Xt (Wq (Wg ?_)))
 refine Mv ?_
 refine Lc (slices_ContainsNz _ v l hb (by first | omega | rfl | (simp <;> omega))) ?_
 rintro _ h ⟨rfl, rfl⟩
 refine Ly (Y_notd rfl) ?_
 refine Av ?_
 refine Ln (Xt (Wt ?_))
 refine Xv1 ?_
 exact ⟨rfl, rfl⟩
end Go.Xp

/- Streams of bytes that end or fail somewhere: plain. -/
namespace Go.Xp

/-- Where the stream that stands at p ends. -/
def stp (D : List UInt8) (f : Int) (p : Nat) : Nat := if (p : Int) ≤ f then min D.length f.toNat else D.length
section
variable {D : List UInt8} {f : Int} {p q : Nat}
theorem stp_ge (hp : p ≤ D.length) : p ≤ stp D f p := by unfold stp; split <;> omega
theorem stp_le : stp D f p ≤ D.length := by unfold stp; split <;> omega
theorem stp_mv (h : p ≤ q) (hq : q ≤ stp D f p) : stp D f q = stp D f p := by
  unfold stp at hq ⊢
  by_cases c : (p : Int) ≤ f
  · rw [if_pos c] at hq ⊢; rw [if_pos (by omega)]
  · rw [if_neg c, if_neg (by omega)]
/-- What a read says where the stream ends. -/
theorem stp_end (hp : p ≤ D.length) (h : ((p : Nat) : Int) = f ∨ D.length ≤ p) : stp D f p = p := by
  unfold stp; split <;> omega
end
/-- What reading a block says, where the reader stands then, and what it gives. -/
def nE (D : List UInt8) (f : Int) (p : Nat) (er : Int) : Int := if ¬ er = 0 then er else if p + 512 ≤ stp D f p then 0 else if ((stp D f p : Nat) : Int) = f then 11 else if stp D f p = p then 4 else 5
def nP (D : List UInt8) (f : Int) (p : Nat) (er : Int) : Nat := if ¬ er = 0 then p else if p + 512 ≤ stp D f p then p + 512 else stp D f p
def nB (D : List UInt8) (p : Nat) : List UInt8 := (D.drop p).take 512
theorem nE_er {D : List UInt8} {f : Int} {p : Nat} {er : Int} (h : ¬ er = 0) : nE D f p er = er ∧ nP D f p er = p := ⟨if_pos h, if_pos h⟩
theorem nE_ok {D : List UInt8} {f : Int} {p : Nat} (h : p + 512 ≤ stp D f p) : nE D f p 0 = 0 ∧ nP D f p 0 = p + 512 := by
  have z : ¬ ¬ ((0 : Int) = 0) := by simp
  unfold nE nP; rw [if_neg z, if_neg z, if_pos h, if_pos h]; exact ⟨rfl, rfl⟩
theorem nE_no {D : List UInt8} {f : Int} {p : Nat} (h : ¬ p + 512 ≤ stp D f p) : nE D f p 0 = (if ((stp D f p : Nat) : Int) = f then 11 else if stp D f p = p then 4 else 5) ∧ nP D f p 0 = stp D f p := by
  have z : ¬ ¬ ((0 : Int) = 0) := by simp
  unfold nE nP; rw [if_neg z, if_neg z, if_neg h, if_neg h]; exact ⟨rfl, rfl⟩
theorem nE_pos {D : List UInt8} {f : Int} {p : Nat} {er : Int} (h : nE D f p er = 0) : er = 0 ∧ p + 512 ≤ stp D f p ∧ nP D f p er = p + 512 := by
  by_cases e : er = 0
  · subst e
    by_cases c : p + 512 ≤ stp D f p
    · exact ⟨rfl, c, (nE_ok c).2⟩
    · rw [(nE_no c).1] at h
      split at h
      · cases h
      · split at h <;> cases h
  · rw [(nE_er e).1] at h; exact absurd h e
/-- What a stream of k blocks says (its reader without an error). -/
def pE (D : List UInt8) (f : Int) (p k : Nat) : Int := if p + 512 * k ≤ stp D f p then 0 else if ((stp D f p : Nat) : Int) = f then 11 else 5
def pR (D : List UInt8) (f : Int) (p k : Nat) : Int := if p + 512 * k ≤ stp D f p then 0 else if ((stp D f p : Nat) : Int) = f then 11 else if (stp D f p - p) % 512 = 0 then 4 else 5
def pP (D : List UInt8) (f : Int) (p k : Nat) : Nat := if p + 512 * k ≤ stp D f p then p + 512 * k else stp D f p
/-- The block that fails, j blocks behind p. -/
theorem pE_fail {D : List UInt8} {f : Int} {p j k : Nat} (hp : p ≤ D.length) (hj : p + 512 * j ≤ stp D f p) (hk : j < k) (h : ¬ nE D f (p + 512 * j) 0 = 0) :
    pE D f p k = (if nE D f (p + 512 * j) 0 = 4 then 5 else nE D f (p + 512 * j) 0) ∧ pR D f p k = nE D f (p + 512 * j) 0 ∧ pP D f p k = nP D f (p + 512 * j) 0 := by
  have hm : stp D f (p + 512 * j) = stp D f p := stp_mv (by omega) hj
  have hn : ¬ p + 512 * j + 512 ≤ stp D f (p + 512 * j) := fun q => h (nE_ok q).1
  obtain ⟨e1, e2⟩ := nE_no hn
  rw [hm] at e1 e2 hn
  have hnk : ¬ p + 512 * k ≤ stp D f p := by omega
  unfold pE pR pP
  rw [if_neg hnk, if_neg hnk, if_neg hnk, e1, e2]
  by_cases c : ((stp D f p : Nat) : Int) = f
  · rw [if_pos c, if_pos c, if_pos c]; exact ⟨by decide, rfl, rfl⟩
  · rw [if_neg c, if_neg c, if_neg c]
    by_cases d : stp D f p = p + 512 * j
    · have e : (stp D f p - p) % 512 = 0 := by omega
      rw [if_pos d, if_pos e]; simp
    · have e : ¬ (stp D f p - p) % 512 = 0 := by omega
      rw [if_neg d, if_neg e]; simp
theorem pE_ok {D : List UInt8} {f : Int} {p k : Nat} (h : p + 512 * k ≤ stp D f p) : pE D f p k = 0 ∧ pR D f p k = 0 ∧ pP D f p k = p + 512 * k := by
  unfold pE pR pP; rw [if_pos h, if_pos h, if_pos h]; exact ⟨rfl, rfl, rfl⟩
end Go.Xp
