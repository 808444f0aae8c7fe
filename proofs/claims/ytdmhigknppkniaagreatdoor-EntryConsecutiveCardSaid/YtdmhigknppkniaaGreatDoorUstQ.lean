/- Layer 7: the program's Encode. -/
import Derived.Test.YtdmhigknppkniaaGreatDoorUstP
set_option linter.unusedSimpArgs false
set_option linter.unusedVariables false
set_option maxRecDepth 100000
namespace Go.Xp
open Go.Proofs

def zr (w : Nat) : List UInt8 := List.replicate w 0
theorem zr_len (w : Nat) : (zr w).length = w := by simp [zr]
theorem fl_splice {Fs : List (List UInt8)} {i o w : Nat} {src F : List UInt8} (hi : Fs[i]? = some (zr w)) (ho : ((Fs.take i).flatten).length = o) (hs : src.length ≤ w) (hF : src ++ List.replicate (w - src.length) 0 = F) :
    Fs.flatten.take o ++ src.take w ++ Fs.flatten.drop (o + Nat.min src.length w) = (Fs.set i F).flatten := by
  have hlt : i < Fs.length := (List.getElem?_eq_some_iff.1 hi).1
  have hv : Fs[i] = zr w := (List.getElem?_eq_some_iff.1 hi).2
  have e1 : Fs = Fs.take i ++ zr w :: Fs.drop (i + 1) := by
    rw [← hv, List.getElem_cons_drop, List.take_append_drop]
  have e2 : Fs.flatten = (Fs.take i).flatten ++ (zr w ++ (Fs.drop (i + 1)).flatten) := by
    conv => lhs; rw [e1]
    simp
  have e3 : (Fs.set i F).flatten = (Fs.take i).flatten ++ (F ++ (Fs.drop (i + 1)).flatten) := by
    rw [List.set_eq_take_append_cons_drop, if_pos hlt]
    simp
  rw [e2, e3, ← ho, List.take_left' rfl, ← hF, List.take_of_length_le hs, show Nat.min src.length w = src.length from Nat.min_eq_left hs, List.drop_append, List.drop_append]
  simp [zr, zr_len, hs]
def UB (n m u g s t ty l mg mj mn p : List UInt8) : List (List UInt8) := [n, m, u, g, s, t, zr 8, ty, l, mg, zr 64, mj, mn, p, zr 12]
theorem cf_le {s : List UInt8} {w : Nat} (h : cerr s (w : Int) = 0) : s.length ≤ w := by
  unfold cerr at h
  split at h
  · cases h
  · split at h
    · cases h
    · split at h
      · cases h
      · omega
theorem cf_ok {s : List UInt8} {w : Nat} (h : cerr s (w : Int) = 0) : s ++ List.replicate (w - s.length) 0 = cfmt s (w : Int) := by
  unfold cfmt; rw [if_pos h]; simp
theorem cf_len {s : List UInt8} {w : Nat} (h : cerr s (w : Int) = 0) : (cfmt s (w : Int)).length = w := by
  rw [← cf_ok h]; have := cf_le h; simp; omega
theorem of_ok {s : List UInt8} {w : Nat} (h : s.length = w) : s ++ List.replicate (w - s.length) 0 = s := by rw [h]; simp
theorem of_len {n : Int} {w : Nat} (h : oerr n (w : Int) = 0) (h0 : 1 ≤ w) : (octf n (w : Int)).length = w := by
  unfold octf; rw [if_pos h]; simp [octD_length]; omega
theorem ucheck_ok {t : Int} {name pre link : List UInt8} {mode size : Int} (h : ucheck t name pre link mode size = 0) :
    uknown t = true ∧ cerr name 100 = 0 ∧ cerr link 100 = 0 ∧ cerr pre 155 = 0 ∧ (0 ≤ mode ∧ mode ≤ 4095) ∧ (0 ≤ size ∧ size ≤ 8589934591) := by
  unfold ucheck at h
  split at h
  · cases h
  · split at h
    · exact absurd h ‹_›
    · split at h
      · exact absurd h ‹_›
      · split at h
        · exact absurd h ‹_›
        · split at h
          · cases h
          · split at h
            · cases h
            · refine ⟨by simpa using ‹¬ uknown t = false›, Decidable.not_not.1 ‹_›, Decidable.not_not.1 ‹_›, Decidable.not_not.1 ‹_›, by omega, by omega⟩
theorem oerr_mode {n : Int} (h : 0 ≤ n ∧ n ≤ 4095) : oerr n 8 = 0 := by
  unfold oerr omax; rw [if_neg (by omega), if_neg (by simp; omega)]
theorem oerr_size {n : Int} (h : 0 ≤ n ∧ n ≤ 8589934591) : oerr n 12 = 0 := by
  unfold oerr omax; rw [if_neg (by omega), if_neg (by simp; omega)]

/-! ### The checksum field does not matter -/
theorem csumN_congr {a b : List UInt8} (h : ∀ k, ¬ (148 ≤ k ∧ k < 156) → byt a k = byt b k) : ∀ i, csumN a i = csumN b i
  | 0 => rfl
  | i + 1 => by
    unfold csumN
    rw [csumN_congr h i]
    split
    · rfl
    · rw [h i ‹_›]
theorem sseal_chk {A X Y B : List UInt8} (hA : A.length = 148) (hX : X.length = 8) (hY : Y.length = 8) (hB : B.length = 356) : sseal (A ++ (X ++ B)) = sseal (A ++ (Y ++ B)) := by
  have hb : ∀ k, ¬ (148 ≤ k ∧ k < 156) → byt (A ++ (X ++ B)) k = byt (A ++ (Y ++ B)) k := by
    intro k hk
    unfold byt
    congr 2
    simp only [List.getD_eq_getElem?_getD]
    congr 1
    by_cases h1 : k < 148
    · rw [List.getElem?_append_left (by omega), List.getElem?_append_left (by omega)]
    · rw [List.getElem?_append_right (by omega), List.getElem?_append_right (by omega), List.getElem?_append_right (by omega), List.getElem?_append_right (by omega), hX, hY]
  unfold sseal ssum
  rw [if_pos (by simp only [List.length_append, hA, hX, hY, hB]), if_pos (by simp only [List.length_append, hA, hX, hY, hB]), if_pos (by simp only [List.length_append, hA, hX, hY, hB]), if_pos (by simp only [List.length_append, hA, hX, hY, hB]), csumN_congr hb]
  have d1 : (A ++ (X ++ B)).drop 156 = B := by rw [← List.append_assoc]; exact List.drop_left' (by simp [hA, hX])
  have d2 : (A ++ (Y ++ B)).drop 156 = B := by rw [← List.append_assoc]; exact List.drop_left' (by simp [hA, hY])
  rw [List.take_left' hA, List.take_left' hA, d1, d2]
theorem uenc_ub {t : Int} {name pre link : List UInt8} {mode size : Int} (h : ucheck t name pre link mode size = 0) :
    sseal (UB (cfmt name 100) (octf mode 8) (octf 0 8) (octf 0 8) (octf size 12) (octf 0 12) [t.toNat.toUInt8] (cfmt link 100) [117, 115, 116, 97, 114, 0, 48, 48] (octf 0 8) (octf 0 8) (cfmt pre 155)).flatten = uenc t name pre link mode size := by
  obtain ⟨-, c1, c2, c3, hm, hs⟩ := ucheck_ok h
  have k1 := cf_len (w := 100) c1
  have k2 := cf_len (w := 100) c2
  have k3 := cf_len (w := 155) c3
  have l1 := of_len (w := 8) (oerr_mode hm) (by decide)
  have l2 := of_len (w := 12) (oerr_size hs) (by decide)
  have l3 := of_len (n := 0) (w := 8) (by decide) (by decide)
  have l4 := of_len (n := 0) (w := 12) (by decide) (by decide)
  unfold uenc
  rw [if_pos h]
  have z1 : cfmt [] 32 ++ cfmt [] 32 = zr 64 := by decide +kernel
  have z2 : cfmt [] 12 = zr 12 := by decide +kernel
  have e1 : ∀ X : List UInt8, cfmt name 100 ++ (octf mode 8 ++ (octf 0 8 ++ (octf 0 8 ++ (octf size 12 ++ (octf 0 12 ++ (X ++ ([t.toNat.toUInt8] ++ (cfmt link 100 ++ ([117, 115, 116, 97, 114, 0, 48, 48] ++ (zr 64 ++ (octf 0 8 ++ (octf 0 8 ++ (cfmt pre 155 ++ zr 12)))))))))))))
      = (cfmt name 100 ++ (octf mode 8 ++ (octf 0 8 ++ (octf 0 8 ++ (octf size 12 ++ octf 0 12))))) ++ (X ++ ([t.toNat.toUInt8] ++ (cfmt link 100 ++ ([117, 115, 116, 97, 114, 0, 48, 48] ++ (zr 64 ++ (octf 0 8 ++ (octf 0 8 ++ (cfmt pre 155 ++ zr 12)))))))) := by
    intro X; simp only [List.append_assoc]
  have e2 : ubody t name pre link mode size = cfmt name 100 ++ (octf mode 8 ++ (octf 0 8 ++ (octf 0 8 ++ (octf size 12 ++ (octf 0 12 ++ ([32, 32, 32, 32, 32, 32, 32, 32] ++ ([t.toNat.toUInt8] ++ (cfmt link 100 ++ ([117, 115, 116, 97, 114, 0, 48, 48] ++ (zr 64 ++ (octf 0 8 ++ (octf 0 8 ++ (cfmt pre 155 ++ zr 12))))))))))))) := by
    rw [← z1, ← z2]; unfold ubody; simp only [List.append_assoc]
  have e3 : (UB (cfmt name 100) (octf mode 8) (octf 0 8) (octf 0 8) (octf size 12) (octf 0 12) [t.toNat.toUInt8] (cfmt link 100) [117, 115, 116, 97, 114, 0, 48, 48] (octf 0 8) (octf 0 8) (cfmt pre 155)).flatten = cfmt name 100 ++ (octf mode 8 ++ (octf 0 8 ++ (octf 0 8 ++ (octf size 12 ++ (octf 0 12 ++ (zr 8 ++ ([t.toNat.toUInt8] ++ (cfmt link 100 ++ ([117, 115, 116, 97, 114, 0, 48, 48] ++ (zr 64 ++ (octf 0 8 ++ (octf 0 8 ++ (cfmt pre 155 ++ zr 12))))))))))))) := by
    unfold UB; simp only [List.flatten_cons, List.flatten_nil, List.append_nil]
  rw [e2, e3, e1, e1]
  have q1 : (cfmt name 100).length = 100 := k1
  have q2 : (cfmt link 100).length = 100 := k2
  have q3 : (cfmt pre 155).length = 155 := k3
  have q4 : (octf mode 8).length = 8 := l1
  have q5 : (octf size 12).length = 12 := l2
  have q6 : (octf 0 8).length = 8 := l3
  have q7 : (octf 0 12).length = 12 := l4
  refine sseal_chk ?_ (zr_len 8) rfl ?_
  · simp only [List.length_append, q1, q4, q6, q5, q7]
  · simp only [List.length_append, q2, q6, q3, zr_len, List.length_cons, List.length_nil]

theorem ustar_Encode (h : Heap) (hG : Glb h) (t : Int) (name : List UInt8) (pre : List UInt8) (link : List UInt8) (mode : Int) (size : Int) (ht : 0 ≤ t ∧ t ≤ 255) : Cal Tryz.prog 32 #[.agg #[.int .u8 (t), str name, str pre, str link, .int .i64 (mode), .int .i64 (size)]] h (fun v h' => ∃ s0, v = .tuple #[s0, .int .i64 (ucheck t name pre link mode size)] ∧ OwnB h' h.size s0 (uenc t name pre link mode size) ∧ Ext h h') := by
 refine Ce Tryz.func32 fun σ => ?_
 refine Wr ?_
 refine L_mks (M_box rfl) rfl rfl rfl ?_
 rintro _ h1 ⟨rfl, hn1⟩
 have hk2 : Blk h1 h.size [.int .u8 (t), str name, str pre, str link, .int .i64 (mode), .int .i64 (size)] := hn1.blk
 refine A2 ?_
 refine Ln (Xt (Wq (Wq (Wg ?_))))
 refine Lg Tryz.underlying71 hk2 ?_
 refine Lc (ustar_Check _ (hG.ext hn1.ext) t name pre link mode size (by first | omega | rfl | (simp [UB, zr_len, k1, k2, k3, l1, l2, l3, l4]; done) | (simp <;> omega))) ?_
 rintro _ h2 ⟨rfl, hx3⟩
 refine Av ?_
 refine Ln (Xt (Wq (Wg ?_)))
 refine Mv ?_
 refine Ly Yne ?_
 refine Nx ?_
 refine Sd (fun e => ?_) fun e => ?_
 ·refine Wm ?_
  refine A2 ?_
  refine Nx ?_
  refine Wu _ (tk3 3 2 1) ?_
  refine Wt (Xr ?_)
  refine Xv2 ?_
  refine ⟨_, rfl, ?_, (hn1.ext.trans hx3)⟩
  unfold uenc
  rw [if_neg e]
  exact OwnB.nil _ _
 refine Ws ?_
 refine Wu _ (tk3 3 2 1) ?_
 have e' : ucheck t name pre link mode size = 0 := by simpa using e
 obtain ⟨-, c1, c2, c3, hm, hs⟩ := ucheck_ok e'
 have k1 : (cfmt name 100).length = 100 := cf_len (w := 100) c1
 have k2 : (cfmt link 100).length = 100 := cf_len (w := 100) c2
 have k3 : (cfmt pre 155).length = 155 := cf_len (w := 155) c3
 have l1 : (octf mode 8).length = 8 := of_len (w := 8) (oerr_mode hm) (by decide)
 have l2 : (octf size 12).length = 12 := of_len (w := 12) (oerr_size hs) (by decide)
 have l3 : (octf 0 8).length = 8 := of_len (n := 0) (w := 8) (by decide) (by decide)
 have l4 : (octf 0 12).length = 12 := of_len (n := 0) (w := 12) (by decide) (by decide)
 refine Wr ?_
 refine L_mks (M_makeb Tryz.underlying22 (by unfold elemRow; kernel_rfl) rfl rfl rfl (by omega) (by omega)) rfl rfl rfl ?_
 rintro _ h3 ⟨rfl, hx4, hb5⟩
 refine Av ?_
 refine Ln (Xt (Wq (Wg ?_)))
 refine A2 ?_
 refine Nx ?_
 have hb6 : Buf h3 h2.size ((UB (zr 100) (zr 8) (zr 8) (zr 8) (zr 12) (zr 12) (zr 1) (zr 100) (zr 8) (zr 8) (zr 8) (zr 155)).flatten) := Buf.congr hb5 (by kernel_rfl)
 refine Wq ?_
 refine W_pers [(7, .func (.func 80) #[] #[]), (6, .func (.func 51) #[] #[]), (5, .slice (some ⟨h2.size, 0, none⟩) (512 : Int).toNat (512 : Int).toNat), (3, .int .i64 0), (2, .slice none 0 0), (1, .pointer (some ⟨h.size, 0, none⟩))] (tk6 7 6 5 3 2 1) (by kernel_rfl) ?_
 refine LPc 0 (.func (.func 51) #[] #[]) [] ?_ ?_
 ·intro h4 hx7
  exact Sm
 refine LPc 1 (.agg #[.int .i64 0, .int .i64 100]) [] ?_ ?_
 ·intro h5 hx8
  exact Sy (Y_ldclsA (us := [.int .i64 0, .int .i64 100]) Tryz.underlying117 rfl (show _ = some 2 by kernel_rfl) rfl ((hG.ext (((hn1.ext.trans hx3).trans hx4).trans hx8))).g0 rfl)
 refine LPc 2 (.slice (some ⟨h2.size, 0, none⟩) (512 : Int).toNat (512 : Int).toNat) [] ?_ ?_
 ·intro h6 hx9
  exact Sm
 refine LPc 3 (slcut 1 0 100 (.slice (some ⟨h2.size, 0, none⟩) (512 : Int).toNat (512 : Int).toNat)) [(0, 16), (1, 17), (2, 18)] ?_ ?_
 ·intro h7 hx10
  rintro _ rfl
  rintro _ rfl
  rintro _ rfl
  refine Nn ?_
  refine Stp_call (E_callv (fs := []) (cs := []) (by kernel_rfl) rfl rfl) (field_of _ 0 100 (.slice (some ⟨h2.size, 0, none⟩) (512 : Int).toNat (512 : Int).toNat) ((UB (zr 100) (zr 8) (zr 8) (zr 8) (zr 12) (zr 12) (zr 1) (zr 100) (zr 8) (zr 8) (zr 8) (zr 155)).flatten) ((hb6.bytes (by simp [UB, zr_len, k1, k2, k3, l1, l2, l3, l4])).ext hx10) (by first | omega | rfl | (simp [UB, zr_len, k1, k2, k3, l1, l2, l3, l4]; done) | (simp <;> omega)) (by first | omega | rfl | (simp [UB, zr_len, k1, k2, k3, l1, l2, l3, l4]; done) | (simp <;> omega))) rfl ?_
  rintro _ h8 ⟨rfl, hx11⟩
  exact ⟨hx11, rfl⟩
 refine LPc 4 (.pointer (some ⟨h.size, 0 + 1, none⟩)) [] ?_ ?_
 ·intro h9 hx12
  exact Sf 1
 refine LPc 5 (str name) [(4, 20)] ?_ ?_
 ·intro h10 hx13
  rintro _ rfl
  exact Sb Tryz.underlying9 (hk2.ext ((hx3.trans hx4).trans hx13))
 refine LP_tail rfl 6 [(3, 19), (5, 21)] rfl rfl (by kernel_rfl) (by kernel_rfl) (by kernel_rfl) rfl ?_
 intro h11 hx14
 rintro _ rfl
 rintro _ rfl
 refine Nn ?_
 refine L_mks (M_copysubs Tryz.underlying22 (show _ = some 1 by kernel_rfl) rfl rfl (hb6.ext hx14) (by omega) (by omega) (by omega) (by simp [UB, zr_len, k1, k2, k3, l1, l2, l3, l4])) rfl rfl rfl ?_
 rintro _ h12 ⟨rfl, hx15, hs16, hb17⟩
 have hb18 : Buf h12 h2.size ((UB (cfmt name 100) (zr 8) (zr 8) (zr 8) (zr 12) (zr 12) (zr 1) (zr 100) (zr 8) (zr 8) (zr 8) (zr 155)).flatten) := Buf.congr hb17 (by exact fl_splice (i := 0) (w := 100) rfl (by simp [UB, zr_len, k1, k2, k3, l1, l2, l3, l4]) (cf_le c1) (cf_ok c1))
 refine Ln (Xt (Wq ?_))
 refine W_pers [(7, .func (.func 80) #[] #[]), (6, .func (.func 51) #[] #[]), (5, .slice (some ⟨h2.size, 0, none⟩) (512 : Int).toNat (512 : Int).toNat), (3, .int .i64 0), (2, .slice none 0 0), (1, .pointer (some ⟨h.size, 0, none⟩))] (tk6 7 6 5 3 2 1) (by kernel_rfl) ?_
 refine LPc 0 (.func (.func 51) #[] #[]) [] ?_ ?_
 ·intro h13 hx19
  exact Sm
 refine LPc 1 (.agg #[.int .i64 157, .int .i64 100]) [] ?_ ?_
 ·intro h14 hx20
  exact Sy (Y_ldclsA (us := [.int .i64 157, .int .i64 100]) Tryz.underlying117 rfl (show _ = some 2 by kernel_rfl) rfl ((hG.ext (((((hn1.ext.trans hx3).trans hx4).trans hx14).then' hx15 (by simp) (nt hn1.ext.size hx3.size)).trans hx20))).g7 rfl)
 refine LPc 2 (.slice (some ⟨h2.size, 0, none⟩) (512 : Int).toNat (512 : Int).toNat) [] ?_ ?_
 ·intro h15 hx21
  exact Sm
 refine LPc 3 (slcut 1 157 257 (.slice (some ⟨h2.size, 0, none⟩) (512 : Int).toNat (512 : Int).toNat)) [(1, 24), (2, 25), (0, 23)] ?_ ?_
 ·intro h16 hx22
  rintro _ rfl
  rintro _ rfl
  rintro _ rfl
  refine Nn ?_
  refine Stp_call (E_callv (fs := []) (cs := []) (by kernel_rfl) rfl rfl) (field_of _ 157 100 (.slice (some ⟨h2.size, 0, none⟩) (512 : Int).toNat (512 : Int).toNat) ((UB (cfmt name 100) (zr 8) (zr 8) (zr 8) (zr 12) (zr 12) (zr 1) (zr 100) (zr 8) (zr 8) (zr 8) (zr 155)).flatten) ((hb18.bytes (by simp [UB, zr_len, k1, k2, k3, l1, l2, l3, l4])).ext hx22) (by first | omega | rfl | (simp [UB, zr_len, k1, k2, k3, l1, l2, l3, l4]; done) | (simp <;> omega)) (by first | omega | rfl | (simp [UB, zr_len, k1, k2, k3, l1, l2, l3, l4]; done) | (simp <;> omega))) rfl ?_
  rintro _ h17 ⟨rfl, hx23⟩
  exact ⟨hx23, rfl⟩
 refine LPc 4 (.pointer (some ⟨h.size, 0 + 3, none⟩)) [] ?_ ?_
 ·intro h18 hx24
  exact Sf 3
 refine LPc 5 (str link) [(4, 27)] ?_ ?_
 ·intro h19 hx25
  rintro _ rfl
  exact Sb Tryz.underlying9 (hk2.ext ((((hx3.trans hx4).trans hx14).then' hx15 (by simp) hx3.size).trans hx25))
 refine LP_tail rfl 6 [(3, 26), (5, 28)] rfl rfl (by kernel_rfl) (by kernel_rfl) (by kernel_rfl) rfl ?_
 intro h20 hx26
 rintro _ rfl
 rintro _ rfl
 refine Nn ?_
 refine L_mks (M_copysubs Tryz.underlying22 (show _ = some 1 by kernel_rfl) rfl rfl (hb18.ext hx26) (by omega) (by omega) (by omega) (by simp [UB, zr_len, k1, k2, k3, l1, l2, l3, l4])) rfl rfl rfl ?_
 rintro _ h21 ⟨rfl, hx27, hs28, hb29⟩
 have hb30 : Buf h21 h2.size ((UB (cfmt name 100) (zr 8) (zr 8) (zr 8) (zr 12) (zr 12) (zr 1) (cfmt link 100) (zr 8) (zr 8) (zr 8) (zr 155)).flatten) := Buf.congr hb29 (by exact fl_splice (i := 8) (w := 100) rfl (by simp [UB, zr_len, k1, k2, k3, l1, l2, l3, l4]) (cf_le c2) (cf_ok c2))
 refine Ln (Xt (Wq ?_))
 refine W_pers [(7, .func (.func 80) #[] #[]), (6, .func (.func 51) #[] #[]), (5, .slice (some ⟨h2.size, 0, none⟩) (512 : Int).toNat (512 : Int).toNat), (3, .int .i64 0), (2, .slice none 0 0), (1, .pointer (some ⟨h.size, 0, none⟩))] (tk6 7 6 5 3 2 1) (by kernel_rfl) ?_
 refine LPc 0 (.func (.func 51) #[] #[]) [] ?_ ?_
 ·intro h22 hx31
  exact Sm
 refine LPc 1 (.agg #[.int .i64 345, .int .i64 155]) [] ?_ ?_
 ·intro h23 hx32
  exact Sy (Y_ldclsA (us := [.int .i64 345, .int .i64 155]) Tryz.underlying117 rfl (show _ = some 2 by kernel_rfl) rfl ((hG.ext (((((((hn1.ext.trans hx3).trans hx4).trans hx14).then' hx15 (by simp) (nt hn1.ext.size hx3.size)).trans hx26).then' hx27 (by simp) (nt hn1.ext.size hx3.size)).trans hx32))).g11 rfl)
 refine LPc 2 (.slice (some ⟨h2.size, 0, none⟩) (512 : Int).toNat (512 : Int).toNat) [] ?_ ?_
 ·intro h24 hx33
  exact Sm
 refine LPc 3 (slcut 1 345 500 (.slice (some ⟨h2.size, 0, none⟩) (512 : Int).toNat (512 : Int).toNat)) [(2, 32), (0, 30), (1, 31)] ?_ ?_
 ·intro h25 hx34
  rintro _ rfl
  rintro _ rfl
  rintro _ rfl
  refine Nn ?_
  refine Stp_call (E_callv (fs := []) (cs := []) (by kernel_rfl) rfl rfl) (field_of _ 345 155 (.slice (some ⟨h2.size, 0, none⟩) (512 : Int).toNat (512 : Int).toNat) ((UB (cfmt name 100) (zr 8) (zr 8) (zr 8) (zr 12) (zr 12) (zr 1) (cfmt link 100) (zr 8) (zr 8) (zr 8) (zr 155)).flatten) ((hb30.bytes (by simp [UB, zr_len, k1, k2, k3, l1, l2, l3, l4])).ext hx34) (by first | omega | rfl | (simp [UB, zr_len, k1, k2, k3, l1, l2, l3, l4]; done) | (simp <;> omega)) (by first | omega | rfl | (simp [UB, zr_len, k1, k2, k3, l1, l2, l3, l4]; done) | (simp <;> omega))) rfl ?_
  rintro _ h26 ⟨rfl, hx35⟩
  exact ⟨hx35, rfl⟩
 refine LPc 4 (.pointer (some ⟨h.size, 0 + 2, none⟩)) [] ?_ ?_
 ·intro h27 hx36
  exact Sf 2
 refine LPc 5 (str pre) [(4, 34)] ?_ ?_
 ·intro h28 hx37
  rintro _ rfl
  exact Sb Tryz.underlying9 (hk2.ext ((((((hx3.trans hx4).trans hx14).then' hx15 (by simp) hx3.size).trans hx26).then' hx27 (by simp) hx3.size).trans hx37))
 refine LP_tail rfl 6 [(3, 33), (5, 35)] rfl rfl (by kernel_rfl) (by kernel_rfl) (by kernel_rfl) rfl ?_
 intro h29 hx38
 rintro _ rfl
 rintro _ rfl
 refine Nn ?_
 refine L_mks (M_copysubs Tryz.underlying22 (show _ = some 1 by kernel_rfl) rfl rfl (hb30.ext hx38) (by omega) (by omega) (by omega) (by simp [UB, zr_len, k1, k2, k3, l1, l2, l3, l4])) rfl rfl rfl ?_
 rintro _ h30 ⟨rfl, hx39, hs40, hb41⟩
 have hb42 : Buf h30 h2.size ((UB (cfmt name 100) (zr 8) (zr 8) (zr 8) (zr 12) (zr 12) (zr 1) (cfmt link 100) (zr 8) (zr 8) (zr 8) (cfmt pre 155)).flatten) := Buf.congr hb41 (by exact fl_splice (i := 13) (w := 155) rfl (by simp [UB, zr_len, k1, k2, k3, l1, l2, l3, l4]) (cf_le c3) (cf_ok c3))
 refine Ln (Xt (Wq (Wg ?_)))
 refine Mv ?_
 have me1 := (((hn1.ext.trans hx3).trans hx4).trans hx14).then' hx15 (by simp) (nt hn1.ext.size hx3.size)
 have me2 := (me1.trans hx26).then' hx27 (by simp) (nt hn1.ext.size hx3.size)
 have me3 := (me2.trans hx38).then' hx39 (by simp) (nt hn1.ext.size hx3.size)
 refine Ly (Y_ldclsA (us := [.int .i64 257, .int .i64 8]) Tryz.underlying117 rfl (show _ = some 2 by kernel_rfl) rfl ((hG.ext me3)).g8 rfl) ?_
 refine Mv ?_
 refine L_call (E_callv (fs := []) (cs := []) (by kernel_rfl) rfl rfl) (field_of _ 257 8 (.slice (some ⟨h2.size, 0, none⟩) (512 : Int).toNat (512 : Int).toNat) ((UB (cfmt name 100) (zr 8) (zr 8) (zr 8) (zr 12) (zr 12) (zr 1) (cfmt link 100) (zr 8) (zr 8) (zr 8) (cfmt pre 155)).flatten) (hb42.bytes (by simp [UB, zr_len, k1, k2, k3, l1, l2, l3, l4])) (by first | omega | rfl | (simp [UB, zr_len, k1, k2, k3, l1, l2, l3, l4]; done) | (simp <;> omega)) (by first | omega | rfl | (simp [UB, zr_len, k1, k2, k3, l1, l2, l3, l4]; done) | (simp <;> omega))) rfl rfl rfl ?_
 rintro _ h31 ⟨rfl, hx43⟩
 refine L_mks (M_copysubs Tryz.underlying22 (show _ = some 1 by kernel_rfl) rfl rfl (hb42.ext hx43) (by omega) (by omega) (by omega) (by simp [UB, zr_len, k1, k2, k3, l1, l2, l3, l4])) rfl rfl rfl ?_
 rintro _ h32 ⟨rfl, hx44, hs45, hb46⟩
 have hb47 : Buf h32 h2.size ((UB (cfmt name 100) (zr 8) (zr 8) (zr 8) (zr 12) (zr 12) (zr 1) (cfmt link 100) [117, 115, 116, 97, 114, 0, 48, 48] (zr 8) (zr 8) (cfmt pre 155)).flatten) := Buf.congr hb46 (by exact fl_splice (i := 9) (w := 8) rfl (by simp [UB, zr_len, k1, k2, k3, l1, l2, l3, l4]) (by decide) rfl)
 refine Nx ?_
 refine Wu _ (tk6 7 6 5 3 2 1) ?_
 refine Wq ?_
 refine W_pers [(7, .func (.func 80) #[] #[]), (6, .func (.func 51) #[] #[]), (5, .slice (some ⟨h2.size, 0, none⟩) (512 : Int).toNat (512 : Int).toNat), (3, .int .i64 0), (2, .slice none 0 0), (1, .pointer (some ⟨h.size, 0, none⟩))] (tk6 7 6 5 3 2 1) (by kernel_rfl) ?_
 refine LPc 0 (.func (.func 51) #[] #[]) [] ?_ ?_
 ·intro h33 hx48
  exact Sm
 refine LPc 1 (.agg #[.int .i64 156, .int .i64 1]) [] ?_ ?_
 ·intro h34 hx49
  exact Sy (Y_ldclsA (us := [.int .i64 156, .int .i64 1]) Tryz.underlying117 rfl (show _ = some 2 by kernel_rfl) rfl ((hG.ext (((((((((((hn1.ext.trans hx3).trans hx4).trans hx14).then' hx15 (by simp) (nt hn1.ext.size hx3.size)).trans hx26).then' hx27 (by simp) (nt hn1.ext.size hx3.size)).trans hx38).then' hx39 (by simp) (nt hn1.ext.size hx3.size)).trans hx43).then' hx44 (by simp) (nt hn1.ext.size hx3.size)).trans hx49))).g6 rfl)
 refine LPc 2 (.slice (some ⟨h2.size, 0, none⟩) (512 : Int).toNat (512 : Int).toNat) [] ?_ ?_
 ·intro h35 hx50
  exact Sm
 refine LPc 3 (slcut 1 156 157 (.slice (some ⟨h2.size, 0, none⟩) (512 : Int).toNat (512 : Int).toNat)) [(0, 42), (1, 43), (2, 44)] ?_ ?_
 ·intro h36 hx51
  rintro _ rfl
  rintro _ rfl
  rintro _ rfl
  refine Nn ?_
  refine Stp_call (E_callv (fs := []) (cs := []) (by kernel_rfl) rfl rfl) (field_of _ 156 1 (.slice (some ⟨h2.size, 0, none⟩) (512 : Int).toNat (512 : Int).toNat) ((UB (cfmt name 100) (zr 8) (zr 8) (zr 8) (zr 12) (zr 12) (zr 1) (cfmt link 100) [117, 115, 116, 97, 114, 0, 48, 48] (zr 8) (zr 8) (cfmt pre 155)).flatten) ((hb47.bytes (by simp [UB, zr_len, k1, k2, k3, l1, l2, l3, l4])).ext hx51) (by first | omega | rfl | (simp [UB, zr_len, k1, k2, k3, l1, l2, l3, l4]; done) | (simp <;> omega)) (by first | omega | rfl | (simp [UB, zr_len, k1, k2, k3, l1, l2, l3, l4]; done) | (simp <;> omega))) rfl ?_
  rintro _ h37 ⟨rfl, hx52⟩
  exact ⟨hx52, rfl⟩
 refine LPc 4 (.pointer (some ⟨h.size, 0 + 0, none⟩)) [] ?_ ?_
 ·intro h38 hx53
  exact Sf 0
 refine LPc 5 (.int .u8 (t)) [(4, 46)] ?_ ?_
 ·intro h39 hx54
  rintro _ rfl
  exact Sb Tryz.underlying5 (hk2.ext ((((((((((hx3.trans hx4).trans hx14).then' hx15 (by simp) hx3.size).trans hx26).then' hx27 (by simp) hx3.size).trans hx38).then' hx39 (by simp) hx3.size).trans hx43).then' hx44 (by simp) hx3.size).trans hx54))
 refine LP_op 6 (fun hh r10_1 => OwnB hh h32.size r10_1 ([(t).toNat.toUInt8])) [(5, 47)] rfl rfl (by kernel_rfl) (fun _ _ _ x_ p_ => p_.ext x_) ?_ ?_
 ·intro h40 hx55
  rintro _ rfl
  refine Nn ?_
  refine Stp_mks (M_litb (l := [(t).toNat.toUInt8]) (cells := [.int .u8 (t)]) (pv := [(0, .int .u8 (t))]) (E := 5) (evp (is := [0]) (os := [.tmp 47]) (vs := [.int .u8 (t)]) rfl rfl) rfl (by rw [bv_of (show 0 ≤ t ∧ t ≤ 255 by first | exact byt_lt _ _ | omega)]; rfl) (fun _ => by kernel_rfl)) rfl ?_
  rintro v56 h41 ⟨ho57, hx58⟩
  exact ⟨hx58, (ho57.low hx55.size)⟩
 refine LP_tail rfl 7 [(3, 45), (6, 48)] rfl rfl (by kernel_rfl) (by kernel_rfl) (by kernel_rfl) rfl ?_
 intro h42 hx59
 rintro _ rfl
 intro r10_1 q10_1
 refine Nn ?_
 refine L_mks (M_copysubb Tryz.underlying22 (show _ = some 1 by kernel_rfl) rfl rfl q10_1.bytes (hb47.ext hx59) (by omega) (by omega) (by omega) (by simp [UB, zr_len, k1, k2, k3, l1, l2, l3, l4])) rfl rfl rfl ?_
 rintro _ h43 ⟨rfl, hx60, hs61, hb62⟩
 have hb63 : Buf h43 h2.size ((UB (cfmt name 100) (zr 8) (zr 8) (zr 8) (zr 12) (zr 12) [t.toNat.toUInt8] (cfmt link 100) [117, 115, 116, 97, 114, 0, 48, 48] (zr 8) (zr 8) (cfmt pre 155)).flatten) := Buf.congr hb62 (by exact fl_splice (i := 7) (w := 1) rfl (by simp [UB, zr_len, k1, k2, k3, l1, l2, l3, l4]) (by simp) rfl)
 refine Ln (Xt (Wq (Wg ?_)))
 refine Mv ?_
 have me4 := (me3.trans hx43).then' hx44 (by simp) (nt hn1.ext.size hx3.size)
 have me5 := (me4.trans hx59).then' hx60 (by simp) (nt hn1.ext.size hx3.size)
 refine Ly (Y_ldclsA (us := [.int .i64 100, .int .i64 8]) Tryz.underlying117 rfl (show _ = some 2 by kernel_rfl) rfl ((hG.ext me5)).g1 rfl) ?_
 refine Mv ?_
 refine Lf 4 ?_
 have me6 := ((hx3.trans hx4).trans hx14).then' hx15 (by simp) hx3.size
 have me7 := ((me6.trans hx26).then' hx27 (by simp) hx3.size).trans hx38
 have me8 := ((me7.then' hx39 (by simp) hx3.size).trans hx43).then' hx44 (by simp) hx3.size
 refine Lb Tryz.underlying3 (hk2.ext ((me8.trans hx59).then' hx60 (by simp) hx3.size)) ?_
 refine L_call (E_callv (fs := []) (cs := []) (by kernel_rfl) rfl rfl) (field_number _ 100 8 h2.size ((512 : Int).toNat) ((UB (cfmt name 100) (zr 8) (zr 8) (zr 8) (zr 12) (zr 12) [t.toNat.toUInt8] (cfmt link 100) [117, 115, 116, 97, 114, 0, 48, 48] (zr 8) (zr 8) (cfmt pre 155)).flatten) hb63 mode (by first | omega | rfl | (simp [UB, zr_len, k1, k2, k3, l1, l2, l3, l4]; done) | (simp <;> omega)) (by first | omega | rfl | (simp [UB, zr_len, k1, k2, k3, l1, l2, l3, l4]; done) | (simp <;> omega)) (by first | omega | rfl | (simp [UB, zr_len, k1, k2, k3, l1, l2, l3, l4]; done) | (simp <;> omega)) (by first | omega | rfl | (simp [UB, zr_len, k1, k2, k3, l1, l2, l3, l4]; done) | (simp <;> omega)) (by first | omega | rfl | (simp [UB, zr_len, k1, k2, k3, l1, l2, l3, l4]; done) | (simp <;> omega))) rfl rfl rfl ?_
 rintro _ h44 ⟨rfl, hx64, hb65⟩
 have hb66 : Buf h44 h2.size ((UB (cfmt name 100) (octf mode 8) (zr 8) (zr 8) (zr 12) (zr 12) [t.toNat.toUInt8] (cfmt link 100) [117, 115, 116, 97, 114, 0, 48, 48] (zr 8) (zr 8) (cfmt pre 155)).flatten) := Buf.congr hb65 (by exact fl_splice (i := 1) (w := 8) rfl (by simp [UB, zr_len, k1, k2, k3, l1, l2, l3, l4]) (Nat.le_of_eq l1) (of_ok l1))
 refine Nx ?_
 refine Wu _ (tk5 7 5 3 2 1) ?_
 refine Wm ?_
 refine Ly (Y_ldclsA (us := [.int .i64 124, .int .i64 12]) Tryz.underlying117 rfl (show _ = some 2 by kernel_rfl) rfl ((hG.ext (me5.then' hx64 (by simp) (nt hn1.ext.size hx3.size)))).g4 rfl) ?_
 refine Mv ?_
 refine Lf 5 ?_
 have me9 := ((me8.trans hx59).then' hx60 (by simp) hx3.size).then' hx64 (by simp) hx3.size
 refine Lb Tryz.underlying2 (hk2.ext me9) ?_
 refine L_call (E_callv (fs := []) (cs := []) (by kernel_rfl) rfl rfl) (field_number _ 124 12 h2.size ((512 : Int).toNat) ((UB (cfmt name 100) (octf mode 8) (zr 8) (zr 8) (zr 12) (zr 12) [t.toNat.toUInt8] (cfmt link 100) [117, 115, 116, 97, 114, 0, 48, 48] (zr 8) (zr 8) (cfmt pre 155)).flatten) hb66 size (by first | omega | rfl | (simp [UB, zr_len, k1, k2, k3, l1, l2, l3, l4]; done) | (simp <;> omega)) (by first | omega | rfl | (simp [UB, zr_len, k1, k2, k3, l1, l2, l3, l4]; done) | (simp <;> omega)) (by first | omega | rfl | (simp [UB, zr_len, k1, k2, k3, l1, l2, l3, l4]; done) | (simp <;> omega)) (by first | omega | rfl | (simp [UB, zr_len, k1, k2, k3, l1, l2, l3, l4]; done) | (simp <;> omega)) (by first | omega | rfl | (simp [UB, zr_len, k1, k2, k3, l1, l2, l3, l4]; done) | (simp <;> omega))) rfl rfl rfl ?_
 rintro _ h45 ⟨rfl, hx67, hb68⟩
 have hb69 : Buf h45 h2.size ((UB (cfmt name 100) (octf mode 8) (zr 8) (zr 8) (octf size 12) (zr 12) [t.toNat.toUInt8] (cfmt link 100) [117, 115, 116, 97, 114, 0, 48, 48] (zr 8) (zr 8) (cfmt pre 155)).flatten) := Buf.congr hb68 (by exact fl_splice (i := 4) (w := 12) rfl (by simp [UB, zr_len, k1, k2, k3, l1, l2, l3, l4]) (Nat.le_of_eq l2) (of_ok l2))
 refine Nx ?_
 refine Wu _ (tk4 7 5 3 2) ?_
 refine Wq (Wq (Wg ?_))
 have me10 := (me5.then' hx64 (by simp) (nt hn1.ext.size hx3.size)).then' hx67 (by simp) (nt hn1.ext.size hx3.size)
 refine Ly (Y_ldclsA (us := [.int .i64 108, .int .i64 8]) Tryz.underlying117 rfl (show _ = some 2 by kernel_rfl) rfl ((hG.ext me10)).g2 rfl) ?_
 refine Ly (Y_ldclsA (us := [.int .i64 116, .int .i64 8]) Tryz.underlying117 rfl (show _ = some 2 by kernel_rfl) rfl ((hG.ext me10)).g3 rfl) ?_
 refine Ly (Y_ldclsA (us := [.int .i64 136, .int .i64 12]) Tryz.underlying117 rfl (show _ = some 2 by kernel_rfl) rfl ((hG.ext me10)).g5 rfl) ?_
 refine Ly (Y_ldclsA (us := [.int .i64 329, .int .i64 8]) Tryz.underlying117 rfl (show _ = some 2 by kernel_rfl) rfl ((hG.ext me10)).g9 rfl) ?_
 refine Ly (Y_ldclsA (us := [.int .i64 337, .int .i64 8]) Tryz.underlying117 rfl (show _ = some 2 by kernel_rfl) rfl ((hG.ext me10)).g10 rfl) ?_
 refine L_mks (M_buildSlice (cells := [.int .i64 108, .int .i64 8, .int .i64 116, .int .i64 8, .int .i64 136, .int .i64 12, .int .i64 329, .int .i64 8, .int .i64 337, .int .i64 8]) (pv := [(0, .agg #[.int .i64 108, .int .i64 8]), (1, .agg #[.int .i64 116, .int .i64 8]), (2, .agg #[.int .i64 136, .int .i64 12]), (3, .agg #[.int .i64 329, .int .i64 8]), (4, .agg #[.int .i64 337, .int .i64 8])]) (E := 117) (evp (is := [0, 1, 2, 3, 4]) (os := [.tmp 62, .tmp 63, .tmp 64, .tmp 65, .tmp 66]) (vs := [.agg #[.int .i64 108, .int .i64 8], .agg #[.int .i64 116, .int .i64 8], .agg #[.int .i64 136, .int .i64 12], .agg #[.int .i64 329, .int .i64 8], .agg #[.int .i64 337, .int .i64 8]]) rfl rfl) (fun _ => by kernel_rfl)) rfl rfl rfl ?_
 rintro _ h46 ⟨rfl, hn70⟩
 have hk71 : Blk h46 h45.size [.int .i64 108, .int .i64 8, .int .i64 116, .int .i64 8, .int .i64 136, .int .i64 12, .int .i64 329, .int .i64 8, .int .i64 337, .int .i64 8] := hn70.blk
 refine Ly (Y_lensl Tryz.underlying167 rfl) ?_
 refine Mv ?_
 refine Ln (Xt (Wb ?_))
 refine W_rounds 5 ?_
 refine Wr ?_
 refine Ly Yls ?_
 refine Ln (Xt (Wq ?_))
 refine W_known true rfl (by first | rfl | decide | simp) ?_
 refine Wk (Xt (Wq (Wb (Wq (Wg ?_)))))
 refine Ly (Y_idxlit (off := 0) Tryz.underlying167 (show _ = some 2 by kernel_rfl) rfl rfl (by decide) (by decide) rfl) ?_
 refine Ly (Y_ldbox (us := [.int .i64 108, .int .i64 8]) Tryz.underlying117 rfl (show _ = some 2 by kernel_rfl) rfl hk71 rfl) ?_
 refine L_mks (M_alloc (u := .agg #[.int .i64 0, .int .i64 0]) (by kernel_rfl)) rfl rfl rfl ?_
 rintro _ h47 ⟨rfl, hn72⟩
 have hk73 : Blk h47 h46.size [.int .i64 0, .int .i64 0] := hn72.blk
 refine Lds [.int .i64 108, .int .i64 8] hk73 ?_
 rintro h48 hp74
 have hk75 : Blk h48 h46.size [.int .i64 108, .int .i64 8] := hp74.blk
 refine Ln (Xt (Wg ?_))
 refine Mv ?_
 refine Lg Tryz.underlying117 hk75 ?_
 refine Mv ?_
 have me11 := (hn70.ext.trans hn72.ext).then' hp74.only (by simp) hn70.ext.size
 refine L_call (E_callv (fs := []) (cs := []) (by kernel_rfl) rfl rfl) (field_number _ 108 8 h2.size ((512 : Int).toNat) ((UB (cfmt name 100) (octf mode 8) (zr 8) (zr 8) (octf size 12) (zr 12) [t.toNat.toUInt8] (cfmt link 100) [117, 115, 116, 97, 114, 0, 48, 48] (zr 8) (zr 8) (cfmt pre 155)).flatten) (hb69.ext me11) (0 : Int) (by first | omega | rfl | (simp [UB, zr_len, k1, k2, k3, l1, l2, l3, l4]; done) | (simp <;> omega)) (by first | omega | rfl | (simp [UB, zr_len, k1, k2, k3, l1, l2, l3, l4]; done) | (simp <;> omega)) (by first | omega | rfl | (simp [UB, zr_len, k1, k2, k3, l1, l2, l3, l4]; done) | (simp <;> omega)) (by first | omega | rfl | (simp [UB, zr_len, k1, k2, k3, l1, l2, l3, l4]; done) | (simp <;> omega)) (by first | omega | rfl | (simp [UB, zr_len, k1, k2, k3, l1, l2, l3, l4]; done) | (simp <;> omega))) rfl rfl rfl ?_
 rintro _ h49 ⟨rfl, hx76, hb77⟩
 have hb78 : Buf h49 h2.size ((UB (cfmt name 100) (octf mode 8) (octf 0 8) (zr 8) (octf size 12) (zr 12) [t.toNat.toUInt8] (cfmt link 100) [117, 115, 116, 97, 114, 0, 48, 48] (zr 8) (zr 8) (cfmt pre 155)).flatten) := Buf.congr hb77 (by exact fl_splice (i := 2) (w := 8) rfl (by simp [UB, zr_len, k1, k2, k3, l1, l2, l3, l4]) (Nat.le_of_eq l3) (of_ok l3))
 refine Ln (Xb (Xt ?_))
 refine Wu _ (sk6 75 74 73 9 72 71 rfl rfl rfl rfl rfl rfl (tk8 70 69 68 67 7 5 3 2)) ?_
 refine Wg ?_
 refine Ly (Y_addl (r := 1) rfl rfl (by decide) (by decide) (by decide)) ?_
 refine Mv ?_
 refine Ln ?_
 refine X_round ?_
 refine Wr ?_
 refine Ly Yls ?_
 refine Ln (Xt (Wq ?_))
 refine W_known true rfl (by first | rfl | decide | simp) ?_
 refine Wk (Xt (Wq (Wb (Wq (Wg ?_)))))
 refine Ly (Y_idxlit (off := 2) Tryz.underlying167 (show _ = some 2 by kernel_rfl) rfl rfl (by decide) (by decide) rfl) ?_
 have me12 := nt (nt (nt (nt hx14.size hx15.size) hx26.size) hx27.size) hx38.size
 have me13 := nt (nt (nt (nt me12 hx39.size) hx43.size) hx44.size) hx59.size
 have hc79 := (((hk71.ext hn72.ext).only hp74.only (ni_lt (ntl hk71.lt (Nat.le_refl _)))).only hx76 (ni_gt (ntl hb5.lt (nt (nt (nt me13 hx60.size) hx64.size) hx67.size))))
 refine Ly (Y_ldbox (us := [.int .i64 116, .int .i64 8]) Tryz.underlying117 rfl (show _ = some 2 by kernel_rfl) rfl hc79 rfl) ?_
 refine L_mks (M_alloc (u := .agg #[.int .i64 0, .int .i64 0]) (by kernel_rfl)) rfl rfl rfl ?_
 rintro _ h50 ⟨rfl, hn80⟩
 have hk81 : Blk h50 h49.size [.int .i64 0, .int .i64 0] := hn80.blk
 refine Lds [.int .i64 116, .int .i64 8] hk81 ?_
 rintro h51 hp82
 have hk83 : Blk h51 h49.size [.int .i64 116, .int .i64 8] := hp82.blk
 refine Ln (Xt (Wg ?_))
 refine Mv ?_
 refine Lg Tryz.underlying117 hk83 ?_
 refine Mv ?_
 refine L_call (E_callv (fs := []) (cs := []) (by kernel_rfl) rfl rfl) (field_number _ 116 8 h2.size ((512 : Int).toNat) ((UB (cfmt name 100) (octf mode 8) (octf 0 8) (zr 8) (octf size 12) (zr 12) [t.toNat.toUInt8] (cfmt link 100) [117, 115, 116, 97, 114, 0, 48, 48] (zr 8) (zr 8) (cfmt pre 155)).flatten) (hb78.ext (hn80.ext.then' hp82.only (by simp) (Nat.le_refl _))) (0 : Int) (by first | omega | rfl | (simp [UB, zr_len, k1, k2, k3, l1, l2, l3, l4]; done) | (simp <;> omega)) (by first | omega | rfl | (simp [UB, zr_len, k1, k2, k3, l1, l2, l3, l4]; done) | (simp <;> omega)) (by first | omega | rfl | (simp [UB, zr_len, k1, k2, k3, l1, l2, l3, l4]; done) | (simp <;> omega)) (by first | omega | rfl | (simp [UB, zr_len, k1, k2, k3, l1, l2, l3, l4]; done) | (simp <;> omega)) (by first | omega | rfl | (simp [UB, zr_len, k1, k2, k3, l1, l2, l3, l4]; done) | (simp <;> omega))) rfl rfl rfl ?_
 rintro _ h52 ⟨rfl, hx84, hb85⟩
 have hb86 : Buf h52 h2.size ((UB (cfmt name 100) (octf mode 8) (octf 0 8) (octf 0 8) (octf size 12) (zr 12) [t.toNat.toUInt8] (cfmt link 100) [117, 115, 116, 97, 114, 0, 48, 48] (zr 8) (zr 8) (cfmt pre 155)).flatten) := Buf.congr hb85 (by exact fl_splice (i := 3) (w := 8) rfl (by simp [UB, zr_len, k1, k2, k3, l1, l2, l3, l4]) (Nat.le_of_eq l3) (of_ok l3))
 refine Ln (Xb (Xt (Wg ?_)))
 refine Ly (Y_addl (r := 2) rfl rfl (by decide) (by decide) (by decide)) ?_
 refine Mv ?_
 refine Ln ?_
 refine X_round ?_
 refine Wr ?_
 refine Ly Yls ?_
 refine Ln (Xt (Wq ?_))
 refine W_known true rfl (by first | rfl | decide | simp) ?_
 refine Wk (Xt (Wq (Wb (Wq (Wg ?_)))))
 refine Ly (Y_idxlit (off := 4) Tryz.underlying167 (show _ = some 2 by kernel_rfl) rfl rfl (by decide) (by decide) rfl) ?_
 have hc87 := (((hc79.ext hn80.ext).only hp82.only (ni_lt (ntl hk71.lt (nt (nt hn72.ext.size hp74.only.size) hx76.size)))).only hx84 (ni_gt (ntl hb5.lt (nt (nt (nt me13 hx60.size) hx64.size) hx67.size))))
 refine Ly (Y_ldbox (us := [.int .i64 136, .int .i64 12]) Tryz.underlying117 rfl (show _ = some 2 by kernel_rfl) rfl hc87 rfl) ?_
 refine L_mks (M_alloc (u := .agg #[.int .i64 0, .int .i64 0]) (by kernel_rfl)) rfl rfl rfl ?_
 rintro _ h53 ⟨rfl, hn88⟩
 have hk89 : Blk h53 h52.size [.int .i64 0, .int .i64 0] := hn88.blk
 refine Lds [.int .i64 136, .int .i64 12] hk89 ?_
 rintro h54 hp90
 have hk91 : Blk h54 h52.size [.int .i64 136, .int .i64 12] := hp90.blk
 refine Ln (Xt (Wg ?_))
 refine Mv ?_
 refine Lg Tryz.underlying117 hk91 ?_
 refine Mv ?_
 refine L_call (E_callv (fs := []) (cs := []) (by kernel_rfl) rfl rfl) (field_number _ 136 12 h2.size ((512 : Int).toNat) ((UB (cfmt name 100) (octf mode 8) (octf 0 8) (octf 0 8) (octf size 12) (zr 12) [t.toNat.toUInt8] (cfmt link 100) [117, 115, 116, 97, 114, 0, 48, 48] (zr 8) (zr 8) (cfmt pre 155)).flatten) (hb86.ext (hn88.ext.then' hp90.only (by simp) (Nat.le_refl _))) (0 : Int) (by first | omega | rfl | (simp [UB, zr_len, k1, k2, k3, l1, l2, l3, l4]; done) | (simp <;> omega)) (by first | omega | rfl | (simp [UB, zr_len, k1, k2, k3, l1, l2, l3, l4]; done) | (simp <;> omega)) (by first | omega | rfl | (simp [UB, zr_len, k1, k2, k3, l1, l2, l3, l4]; done) | (simp <;> omega)) (by first | omega | rfl | (simp [UB, zr_len, k1, k2, k3, l1, l2, l3, l4]; done) | (simp <;> omega)) (by first | omega | rfl | (simp [UB, zr_len, k1, k2, k3, l1, l2, l3, l4]; done) | (simp <;> omega))) rfl rfl rfl ?_
 rintro _ h55 ⟨rfl, hx92, hb93⟩
 have hb94 : Buf h55 h2.size ((UB (cfmt name 100) (octf mode 8) (octf 0 8) (octf 0 8) (octf size 12) (octf 0 12) [t.toNat.toUInt8] (cfmt link 100) [117, 115, 116, 97, 114, 0, 48, 48] (zr 8) (zr 8) (cfmt pre 155)).flatten) := Buf.congr hb93 (by exact fl_splice (i := 5) (w := 12) rfl (by simp [UB, zr_len, k1, k2, k3, l1, l2, l3, l4]) (Nat.le_of_eq l4) (of_ok l4))
 refine Ln (Xb (Xt (Wg ?_)))
 refine Ly (Y_addl (r := 3) rfl rfl (by decide) (by decide) (by decide)) ?_
 refine Mv ?_
 refine Ln ?_
 refine X_round ?_
 refine Wr ?_
 refine Ly Yls ?_
 refine Ln (Xt (Wq ?_))
 refine W_known true rfl (by first | rfl | decide | simp) ?_
 refine Wk (Xt (Wq (Wb (Wq (Wg ?_)))))
 refine Ly (Y_idxlit (off := 6) Tryz.underlying167 (show _ = some 2 by kernel_rfl) rfl rfl (by decide) (by decide) rfl) ?_
 have me14 := nt (nt (nt hn72.ext.size hp74.only.size) hx76.size) hn80.ext.size
 have hc95 := (((hc87.ext hn88.ext).only hp90.only (ni_lt (ntl hk71.lt (nt (nt me14 hp82.only.size) hx84.size)))).only hx92 (ni_gt (ntl hb5.lt (nt (nt (nt me13 hx60.size) hx64.size) hx67.size))))
 refine Ly (Y_ldbox (us := [.int .i64 329, .int .i64 8]) Tryz.underlying117 rfl (show _ = some 2 by kernel_rfl) rfl hc95 rfl) ?_
 refine L_mks (M_alloc (u := .agg #[.int .i64 0, .int .i64 0]) (by kernel_rfl)) rfl rfl rfl ?_
 rintro _ h56 ⟨rfl, hn96⟩
 have hk97 : Blk h56 h55.size [.int .i64 0, .int .i64 0] := hn96.blk
 refine Lds [.int .i64 329, .int .i64 8] hk97 ?_
 rintro h57 hp98
 have hk99 : Blk h57 h55.size [.int .i64 329, .int .i64 8] := hp98.blk
 refine Ln (Xt (Wg ?_))
 refine Mv ?_
 refine Lg Tryz.underlying117 hk99 ?_
 refine Mv ?_
 refine L_call (E_callv (fs := []) (cs := []) (by kernel_rfl) rfl rfl) (field_number _ 329 8 h2.size ((512 : Int).toNat) ((UB (cfmt name 100) (octf mode 8) (octf 0 8) (octf 0 8) (octf size 12) (octf 0 12) [t.toNat.toUInt8] (cfmt link 100) [117, 115, 116, 97, 114, 0, 48, 48] (zr 8) (zr 8) (cfmt pre 155)).flatten) (hb94.ext (hn96.ext.then' hp98.only (by simp) (Nat.le_refl _))) (0 : Int) (by first | omega | rfl | (simp [UB, zr_len, k1, k2, k3, l1, l2, l3, l4]; done) | (simp <;> omega)) (by first | omega | rfl | (simp [UB, zr_len, k1, k2, k3, l1, l2, l3, l4]; done) | (simp <;> omega)) (by first | omega | rfl | (simp [UB, zr_len, k1, k2, k3, l1, l2, l3, l4]; done) | (simp <;> omega)) (by first | omega | rfl | (simp [UB, zr_len, k1, k2, k3, l1, l2, l3, l4]; done) | (simp <;> omega)) (by first | omega | rfl | (simp [UB, zr_len, k1, k2, k3, l1, l2, l3, l4]; done) | (simp <;> omega))) rfl rfl rfl ?_
 rintro _ h58 ⟨rfl, hx100, hb101⟩
 have hb102 : Buf h58 h2.size ((UB (cfmt name 100) (octf mode 8) (octf 0 8) (octf 0 8) (octf size 12) (octf 0 12) [t.toNat.toUInt8] (cfmt link 100) [117, 115, 116, 97, 114, 0, 48, 48] (octf 0 8) (zr 8) (cfmt pre 155)).flatten) := Buf.congr hb101 (by exact fl_splice (i := 11) (w := 8) rfl (by simp [UB, zr_len, k1, k2, k3, l1, l2, l3, l4]) (Nat.le_of_eq l3) (of_ok l3))
 refine Ln (Xb (Xt (Wg ?_)))
 refine Ly (Y_addl (r := 4) rfl rfl (by decide) (by decide) (by decide)) ?_
 refine Mv ?_
 refine Ln ?_
 refine X_round ?_
 refine Wr ?_
 refine Ly Yls ?_
 refine Ln (Xt (Wq ?_))
 refine W_known true rfl (by first | rfl | decide | simp) ?_
 refine Wk (Xt (Wq (Wb (Wq (Wg ?_)))))
 refine Ly (Y_idxlit (off := 8) Tryz.underlying167 (show _ = some 2 by kernel_rfl) rfl rfl (by decide) (by decide) rfl) ?_
 have me15 := nt (nt (nt (nt me14 hp82.only.size) hx84.size) hn88.ext.size) hp90.only.size
 have hc103 := (((hc95.ext hn96.ext).only hp98.only (ni_lt (ntl hk71.lt (nt me15 hx92.size)))).only hx100 (ni_gt (ntl hb5.lt (nt (nt (nt me13 hx60.size) hx64.size) hx67.size))))
 refine Ly (Y_ldbox (us := [.int .i64 337, .int .i64 8]) Tryz.underlying117 rfl (show _ = some 2 by kernel_rfl) rfl hc103 rfl) ?_
 refine L_mks (M_alloc (u := .agg #[.int .i64 0, .int .i64 0]) (by kernel_rfl)) rfl rfl rfl ?_
 rintro _ h59 ⟨rfl, hn104⟩
 have hk105 : Blk h59 h58.size [.int .i64 0, .int .i64 0] := hn104.blk
 refine Lds [.int .i64 337, .int .i64 8] hk105 ?_
 rintro h60 hp106
 have hk107 : Blk h60 h58.size [.int .i64 337, .int .i64 8] := hp106.blk
 refine Ln (Xt (Wg ?_))
 refine Mv ?_
 refine Lg Tryz.underlying117 hk107 ?_
 refine Mv ?_
 refine L_call (E_callv (fs := []) (cs := []) (by kernel_rfl) rfl rfl) (field_number _ 337 8 h2.size ((512 : Int).toNat) ((UB (cfmt name 100) (octf mode 8) (octf 0 8) (octf 0 8) (octf size 12) (octf 0 12) [t.toNat.toUInt8] (cfmt link 100) [117, 115, 116, 97, 114, 0, 48, 48] (octf 0 8) (zr 8) (cfmt pre 155)).flatten) (hb102.ext (hn104.ext.then' hp106.only (by simp) (Nat.le_refl _))) (0 : Int) (by first | omega | rfl | (simp [UB, zr_len, k1, k2, k3, l1, l2, l3, l4]; done) | (simp <;> omega)) (by first | omega | rfl | (simp [UB, zr_len, k1, k2, k3, l1, l2, l3, l4]; done) | (simp <;> omega)) (by first | omega | rfl | (simp [UB, zr_len, k1, k2, k3, l1, l2, l3, l4]; done) | (simp <;> omega)) (by first | omega | rfl | (simp [UB, zr_len, k1, k2, k3, l1, l2, l3, l4]; done) | (simp <;> omega)) (by first | omega | rfl | (simp [UB, zr_len, k1, k2, k3, l1, l2, l3, l4]; done) | (simp <;> omega))) rfl rfl rfl ?_
 rintro _ h61 ⟨rfl, hx108, hb109⟩
 have hb110 : Buf h61 h2.size ((UB (cfmt name 100) (octf mode 8) (octf 0 8) (octf 0 8) (octf size 12) (octf 0 12) [t.toNat.toUInt8] (cfmt link 100) [117, 115, 116, 97, 114, 0, 48, 48] (octf 0 8) (octf 0 8) (cfmt pre 155)).flatten) := Buf.congr hb109 (by exact fl_splice (i := 12) (w := 8) rfl (by simp [UB, zr_len, k1, k2, k3, l1, l2, l3, l4]) (Nat.le_of_eq l3) (of_ok l3))
 refine Ln (Xb (Xt (Wg ?_)))
 refine Ly (Y_addl (r := 5) rfl rfl (by decide) (by decide) (by decide)) ?_
 refine Mv ?_
 refine Ln ?_
 refine X_round ?_
 refine Wr ?_
 refine Ly Yls ?_
 refine Ln (Xt (Wq ?_))
 refine W_known false rfl (by first | rfl | decide | simp) ?_
 refine W_exit ?_
 refine Xe (Xe ?_)
 refine X_block_hit ?_
 refine Xt ?_
 refine Wu _ (tk3 5 3 2) ?_
 refine Wm ?_
 refine Lc (checksum_Seal _ (.slice (some ⟨h2.size, 0, none⟩) (512 : Int).toNat (512 : Int).toNat) ((UB (cfmt name 100) (octf mode 8) (octf 0 8) (octf 0 8) (octf size 12) (octf 0 12) [t.toNat.toUInt8] (cfmt link 100) [117, 115, 116, 97, 114, 0, 48, 48] (octf 0 8) (octf 0 8) (cfmt pre 155)).flatten) (hb110.bytes (by simp [UB, zr_len, k1, k2, k3, l1, l2, l3, l4]))) ?_
 rintro _ h62 ⟨s0111, rfl, hr0112, hx113⟩
 refine Lxx ?_
 refine A2 ?_
 refine Ln (Xt (Wt ?_))
 refine Xv2 ?_
 have me16 := nt (nt (nt (nt hn1.ext.size hx3.size) hx4.size) hx14.size) hx15.size
 have me17 := nt (nt (nt (nt me16 hx26.size) hx27.size) hx38.size) hx39.size
 have me18 := nt (nt (nt (nt me17 hx43.size) hx44.size) hx59.size) hx60.size
 have me19 := nt (nt (nt (nt me18 hx64.size) hx67.size) hn70.ext.size) hn72.ext.size
 have me20 := nt (nt (nt (nt me19 hp74.only.size) hx76.size) hn80.ext.size) hp82.only.size
 have me21 := nt (nt (nt (nt me20 hx84.size) hn88.ext.size) hp90.only.size) hx92.size
 have me22 := ((me10.trans hn70.ext).trans hn72.ext).then' hp74.only (by simp) (nt (nt (nt me18 hx64.size) hx67.size) hn70.ext.size)
 have me23 := (me22.then' hx76 (by simp) (nt hn1.ext.size hx3.size)).trans hn80.ext
 have me24 := me23.then' hp82.only (by simp) (nt (nt me19 hp74.only.size) hx76.size)
 have me25 := (me24.then' hx84 (by simp) (nt hn1.ext.size hx3.size)).trans hn88.ext
 have me26 := (me25.then' hp90.only (by simp) (nt me20 hx84.size)).then' hx92 (by simp) (nt hn1.ext.size hx3.size)
 have me27 := ((me26.trans hn96.ext).then' hp98.only (by simp) me21).then' hx100 (by simp) (nt hn1.ext.size hx3.size)
 have me28 := (me27.trans hn104.ext).then' hp106.only (by simp) (nt (nt (nt me21 hn96.ext.size) hp98.only.size) hx100.size)
 have me29 := (me28.then' hx108 (by simp) (nt hn1.ext.size hx3.size)).trans hx113
 refine ⟨_, by rw [e', show serr _ = 0 from by unfold serr; rw [if_pos (by simp [UB, zr_len, k1, k2, k3, l1, l2, l3, l4])]], ?_, me29⟩
 rw [← uenc_ub e']
 have me30 := nt (nt (nt (nt me21 hn96.ext.size) hp98.only.size) hx100.size) hn104.ext.size
 exact (hr0112).low (nt (nt me30 hp106.only.size) hx108.size)
end Go.Xp
