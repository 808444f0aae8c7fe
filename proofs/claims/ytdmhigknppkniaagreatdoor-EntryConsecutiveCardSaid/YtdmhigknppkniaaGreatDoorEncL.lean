/- Layer 7: the laws' own texts that do not reach Decode. -/
import Derived.Test.YtdmhigknppkniaaGreatDoorUstQ
import Derived.Test.YtdmhigknppkniaaGreatDoorRws
import Derived.Test.YtdmhigknppkniaaGreatDoorMergeL
set_option linter.unusedSimpArgs false
set_option linter.unusedVariables false
namespace Go.Xp
open Go.Proofs

theorem ubody_len {t : Int} {name pre link : List UInt8} {mode size : Int} (h : ucheck t name pre link mode size = 0) : (ubody t name pre link mode size).length = 512 := by
  obtain ⟨-, c1, c2, c3, hm, hs⟩ := ucheck_ok h
  have k1 : (cfmt name 100).length = 100 := cf_len (w := 100) c1
  have k2 : (cfmt link 100).length = 100 := cf_len (w := 100) c2
  have k3 : (cfmt pre 155).length = 155 := cf_len (w := 155) c3
  have l1 : (octf mode 8).length = 8 := of_len (w := 8) (oerr_mode hm) (by decide)
  have l2 : (octf size 12).length = 12 := of_len (w := 12) (oerr_size hs) (by decide)
  have l3 : (octf 0 8).length = 8 := of_len (n := 0) (w := 8) (by decide) (by decide)
  have l4 : (octf 0 12).length = 12 := of_len (n := 0) (w := 12) (by decide) (by decide)
  have z1 : (cfmt [] 32).length = 32 := cf_len (s := []) (w := 32) (by decide)
  have z2 : (cfmt [] 12).length = 12 := cf_len (s := []) (w := 12) (by decide)
  unfold ubody
  simp only [List.length_append, k1, k2, k3, l1, l2, l3, l4, z1, z2, List.length_cons, List.length_nil]
theorem uenc_len {t : Int} {name pre link : List UInt8} {mode size : Int} (h : ucheck t name pre link mode size = 0) : (uenc t name pre link mode size).length = 512 := by
  unfold uenc; rw [if_pos h]; exact sseal_len (ubody_len h)
end Go.Xp

/- Layer 7: the laws UstarFields and UstarLimits. -/

namespace Go.Xp
open Go.Proofs

theorem byt_mid {A M C : List UInt8} {a i : Nat} (hA : A.length = a) (h1 : a ≤ i) (h2 : i < a + M.length) : byt (A ++ (M ++ C)) i = byt M (i - a) := by
  unfold byt
  congr 2
  simp only [List.getD_eq_getElem?_getD]
  rw [List.getElem?_append_right (by omega), List.getElem?_append_left (by omega), hA]
theorem sseal_byt {b : List UInt8} (hb : b.length = 512) {i : Nat} (hi : i < 512) (hn : ¬ (148 ≤ i ∧ i < 156)) : byt (sseal b) i = byt b i := by
  have hs : sseal b = b.take 148 ++ octf (ssum b) 7 ++ [32] ++ b.drop 156 := by unfold sseal; rw [if_pos hb]
  have h7 := oct7_len b
  rw [hs]
  unfold byt
  congr 2
  simp only [List.getD_eq_getElem?_getD]
  congr 1
  by_cases h1 : i < 148
  · rw [List.append_assoc, List.append_assoc, List.getElem?_append_left (by simp [hb]; omega), List.getElem?_take, if_pos h1]
  · rw [List.getElem?_append_right (by simp [hb, h7]; omega), List.getElem?_drop]
    congr 1
    simp [hb, h7]; omega
section
variable {t : Int} {name pre link : List UInt8} {mode size : Int}
theorem ulens (h : ucheck t name pre link mode size = 0) : (cfmt name 100).length = 100 ∧ (cfmt link 100).length = 100 ∧ (cfmt pre 155).length = 155 ∧ (octf mode 8).length = 8 ∧ (octf size 12).length = 12 := by
  obtain ⟨-, c1, c2, c3, hm, hs⟩ := ucheck_ok h
  exact ⟨cf_len (w := 100) c1, cf_len (w := 100) c2, cf_len (w := 155) c3, of_len (w := 8) (oerr_mode hm) (by decide), of_len (w := 12) (oerr_size hs) (by decide)⟩
theorem oz8 : (octf 0 8).length = 8 := by decide
theorem oz12 : (octf 0 12).length = 12 := by decide
theorem cz32 : (cfmt [] 32).length = 32 := by decide +kernel
/-- What the block holds outside of the checksum. -/
theorem uenc_byt (h : ucheck t name pre link mode size = 0) {i : Nat} (hi : i < 512) (hn : ¬ (148 ≤ i ∧ i < 156)) : byt (uenc t name pre link mode size) i = byt (ubody t name pre link mode size) i := by
  unfold uenc; rw [if_pos h]; exact sseal_byt (ubody_len h) hi hn
theorem ub_mid (A M C : List UInt8) {a i : Nat} (hb : ubody t name pre link mode size = A ++ (M ++ C)) (hA : A.length = a) (h1 : a ≤ i) (h2 : i < a + M.length) : byt (ubody t name pre link mode size) i = byt M (i - a) := by
  rw [hb]; exact byt_mid hA h1 h2
theorem ub_156 (h : ucheck t name pre link mode size = 0) : byt (ubody t name pre link mode size) 156 = byt [t.toNat.toUInt8] 0 := by
  obtain ⟨k1, k2, k3, k4, k5⟩ := ulens h
  exact ub_mid (i := 156) (cfmt name 100 ++ octf mode 8 ++ octf 0 8 ++ octf 0 8 ++ octf size 12 ++ octf 0 12 ++ [32, 32, 32, 32, 32, 32, 32, 32]) _ (cfmt link 100 ++ [117, 115, 116, 97, 114, 0, 48, 48] ++ cfmt [] 32 ++ cfmt [] 32 ++ octf 0 8 ++ octf 0 8 ++ cfmt pre 155 ++ cfmt [] 12) (by unfold ubody; simp only [List.append_assoc]) (a := 156) (by simp only [List.length_append, k1, k4, oz8, k5, oz12, List.length_cons, List.length_nil]) (Nat.le_refl _) (by simp only [List.length_cons, List.length_nil]; omega)
end
/-- A part of the block. -/
theorem sub_ext {b F s : List UInt8} {a : Nat} (hb : ∀ i, i < s.length → byt b (a + i) = byt s i) (hl : a + s.length ≤ b.length) : (b.take (a + s.length)).drop a = s := by
  apply byt_ext
  · simp; omega
  · intro k hk
    have hk' : k < s.length := by simp at hk; omega
    rw [← hb k hk', byt_eq hk, byt_eq (by omega)]
    simp
theorem uf_type {t : Int} {name pre link : List UInt8} {mode size : Int} (ht : 0 ≤ t ∧ t ≤ 255) (h : ucheck t name pre link mode size = 0) : byt (uenc t name pre link mode size) 156 = t := by
  rw [uenc_byt h (by decide) (by omega), ub_156 h]
  show ((t.toNat.toUInt8).toNat : Int) = t
  have : t.toNat < 256 := by omega
  rw [show (t.toNat.toUInt8).toNat = t.toNat % 256 from rfl, Nat.mod_eq_of_lt this]
  omega
end Go.Xp

/- Slices of slices of bytes; parts of a row of the call's own. -/
set_option linter.unusedSectionVars false
namespace Go.Xp

structure Byt where
  dv : Value
  data : List UInt8
def bytS : Sch Byt where
  z := 1
  pos := by decide
  cells x := [x.dv]
  len _ := rfl
  ok h x := Bytes h x.dv x.data
  one o u hu := by simp at hu; rw [hu]; exact o.cell1
  only o y hb := o.only y (fun b h => hb _ (by simp) b h)
  d := ⟨.slice none 0 0, []⟩
def at_byt (l : List Byt) (k : Nat) : Byt := l.getD k bytS.d
theorem Own.cuth {h : Heap} {base n k : Nat} {v : Value} {xs : List Value} (x : Own h base 1 v n xs) (hk : k ≤ n) : Own h base 1 (slcut 1 0 k v) k (xs.take k) := by
  obtain ⟨h1, ⟨rfl, rfl⟩ | ⟨g, cap, extra, rfl, hg, hb, hl, hn⟩⟩ := x
  · have : k = 0 := by omega
    subst this
    exact ⟨by simp, .inl ⟨rfl, rfl⟩⟩
  · refine ⟨by simp at h1 ⊢; omega, .inr ⟨g, cap, xs.drop k ++ extra, ?_, hg, ?_, ?_, by omega⟩⟩
    · show Value.slice (if cap = 0 then some _ else (some (⟨g, 0, none⟩ : Addr)).map (·.add (0 * 1))) (k - 0) (cap - 0) = _
      have e : (⟨g, 0, none⟩ : Addr).add (0 * 1) = ⟨g, 0, none⟩ := by unfold Addr.add; split <;> simp_all
      by_cases hc : cap = 0
      · rw [if_pos hc]; rfl
      · rw [if_neg hc, Option.map_some, e]; rfl
    · rw [← List.append_assoc, List.take_append_drop]; exact hb
    · rw [← List.append_assoc, List.take_append_drop]; exact hl
theorem OwnB.cuth {h : Heap} {base k : Nat} {v : Value} {l : List UInt8} (x : OwnB h base v l) (hk : k ≤ l.length) : OwnB h base (slcut 1 0 k v) (l.take k) := by
  have := Own.cuth x hk
  unfold OwnB
  rw [List.length_take, Nat.min_eq_left hk, List.map_take]; exact this
theorem slice_form {h : Heap} {v : Value} {l : List UInt8} (b : Bytes h v l) : ∃ x n c, v = .slice x n c := by
  obtain ⟨⟨a0, cap, rfl, _⟩, _⟩ := b; exact ⟨_, _, _, rfl⟩
section
variable {P : Program} {n : Nat} {e : Env} {h : Heap} {d : Option Tmp} {t : TypeId} {pos : String} {af : Array Edge} {g : Option (Nat × Bool)} {T E : TypeId} {x : Operand}
theorem Y_capnil (hT : P.underlying T = some (.slice E)) (hx : ev e x = some (.slice none 0 0)) : Yld P n e h ⟨d, .call { callee := .builtin .cap, args := #[x], argTypes := #[T] }, t, pos, af, g⟩ (.int .i64 0) := fun w a _ he => by
  refine run_blt rfl ?_
  simp [he.eval hx, Builtin.cap_, run_underlying hT, goInt]
end
/-- The first n slices' bytes, one after the other. -/
def bcat (l : List Byt) (n : Nat) : List UInt8 := (l.take n).flatMap (·.data)
theorem at_byt_eq {l : List Byt} {i : Nat} (h : i < l.length) : at_byt l i = l[i] := by
  rw [at_byt, List.getD_eq_getElem?_getD, List.getElem?_eq_getElem h]; rfl
theorem bcat_succ {l : List Byt} {i : Nat} (h : i < l.length) : bcat l (i + 1) = bcat l i ++ (at_byt l i).data := by
  unfold bcat
  rw [List.take_succ_eq_append_getElem h, List.flatMap_append, ← at_byt_eq h]; simp
theorem bcat_le {l : List Byt} {i : Nat} (h : i ≤ l.length) : (bcat l i).length ≤ (bcat l l.length).length := by
  have : bcat l l.length = bcat l i ++ (l.drop i).flatMap (·.data) := by
    unfold bcat; rw [List.take_length, ← List.flatMap_append, List.take_append_drop]
  rw [this, List.length_append]; omega
theorem bcat_four (v1 v2 v3 v4 : Value) (a b c d : List UInt8) : bcat [⟨v1, a⟩, ⟨v2, b⟩, ⟨v3, c⟩, ⟨v4, d⟩] ([⟨v1, a⟩, ⟨v2, b⟩, ⟨v3, c⟩, ⟨v4, d⟩] : List Byt).length = a ++ b ++ c ++ d := by
  simp [bcat]
end Go.Xp

/- Layer 12 (entry): what Encode answers. -/
namespace Go.Xp
open Go.Proofs

/-- How many bytes pad n bytes to a whole number of blocks. -/
def padn (n : Nat) : Nat := (512 - n % 512) % 512
def epre (l : List Rec) : List UInt8 :=
  if l = [] then [] else uenc 120 [112, 97, 120] [] [] 0 ((rfmt l).length : Int) ++ rfmt l ++ List.replicate (padn (rfmt l).length) 0
def eenc (k : Int) (p : List UInt8) (m : Int) (tg : List UInt8) (z : Int) : List UInt8 :=
  if fcheck k p m tg z = 0 then epre (fR (fcheck k p m tg z) p tg z) ++ uenc (fT (fcheck k p m tg z) k) (fN (fcheck k p m tg z) p) (fP (fcheck k p m tg z) p) (fL (fcheck k p m tg z) tg) (fM (fcheck k p m tg z) m) (fZ (fcheck k p m tg z) z) else []
theorem rlerr_each : ∀ {l : List Rec} {p : Option (List UInt8)}, rlerr p l = 0 → ∀ r ∈ l, rerr r.key r.val = 0
  | [], _, _, r, hr => by cases hr
  | x :: l, p, h, r, hr => by
    unfold rlerr at h
    split at h
    · rename_i h1; exact absurd h h1
    · rename_i h1
      split at h
      · cases h
      · rcases List.mem_cons.1 hr with e | hr
        · rw [e]; exact Classical.not_not.1 h1
        · exact rlerr_each h r hr
theorem flat_le : ∀ {l : List Rec}, (∀ r ∈ l, rerr r.key r.val = 0) → (l.flatMap rone).length ≤ 65600 * l.length
  | [], _ => by simp
  | x :: l, h => by
    have h1 := rone_len (h x (by simp))
    have h2 := flat_le (l := l) (fun r hr => h r (by simp [hr]))
    rw [List.flatMap_cons, List.length_append, List.length_cons]; omega
theorem flat_ge : ∀ {l : List Rec}, l ≠ [] → 1 ≤ (l.flatMap rone).length
  | [], h => absurd rfl h
  | x :: l, _ => by
    rw [List.flatMap_cons, List.length_append]
    have : 1 ≤ (rone x).length := by unfold rone; simp; omega
    omega
theorem fR_len3 (c : Int) (p tg : List UInt8) (z : Int) : (fR c p tg z).length ≤ 3 := by
  unfold fR frecs
  split
  · simp only [List.length_append]; split <;> split <;> split <;> simp
  · simp
section
variable {k m z : Int} {p tg : List UInt8}
theorem rfmt_le (e : fcheck k p m tg z = 0) : (rfmt (fR (fcheck k p m tg z) p tg z)).length ≤ 196800 := by
  have h1 := rlerr_plan e
  have h2 := flat_le (rlerr_each h1)
  have h3 := fR_len3 (fcheck k p m tg z) p tg z
  unfold rfmt
  rw [if_pos h1]
  have := Nat.mul_le_mul_left 65600 h3
  omega
theorem rfmt_ge (e : fcheck k p m tg z = 0) (hne : fR (fcheck k p m tg z) p tg z ≠ []) : 1 ≤ (rfmt (fR (fcheck k p m tg z) p tg z)).length := by
  unfold rfmt
  rw [if_pos (rlerr_plan e)]; exact flat_ge hne
end
theorem ext_ok {n : Nat} (h : n ≤ 196800) : ucheck 120 [112, 97, 120] [] [] 0 (n : Int) = 0 := by
  have c1 : cerr [112, 97, 120] 100 = 0 := by decide
  have c2 : cerr [] 100 = 0 := by decide
  have c3 : cerr [] 155 = 0 := by decide
  unfold ucheck
  rw [if_neg (by decide), if_neg (by rw [c1]; decide), if_neg (by rw [c2]; decide), if_neg (by rw [c3]; decide), if_neg (by omega), if_neg (by omega)]
theorem padn_lt (n : Nat) : padn n < 512 ∧ (n + padn n) % 512 = 0 := by unfold padn; omega
theorem blocks_pad {n : Nat} (h : 1 ≤ n) : (((n : Int) - 1) / 512 + 1) * 512 - (n : Int) = (padn n : Int) := by unfold padn; omega
theorem fcheck_lens {k m z : Int} {p tg : List UInt8} (e : fcheck k p m tg z = 0) : p.length ≤ 65536 ∧ tg.length ≤ 65536 := ⟨(pcheck_valid (fcheck_path e)).1, (ftarget_valid (fcheck_target e)).2⟩
theorem eenc_len {k m z : Int} {p tg : List UInt8} (e : fcheck k p m tg z = 0) : (eenc k p m tg z).length = (if fR (fcheck k p m tg z) p tg z = [] then 0 else 512 + ((rfmt (fR (fcheck k p m tg z) p tg z)).length + padn (rfmt (fR (fcheck k p m tg z) p tg z)).length)) + 512 := by
  unfold eenc
  rw [if_pos e, List.length_append, uenc_len (ucheck_plan e)]
  unfold epre
  split
  · rfl
  · rw [List.length_append, List.length_append, uenc_len (ext_ok (rfmt_le e)), List.length_replicate]; omega
end Go.Xp

/- Layer 12 (entry): how long an encoding is, and how it begins. -/
namespace Go.Xp
open Go.Proofs

section
variable {k m z : Int} {p tg : List UInt8}
theorem eenc_short (e : fcheck k p m tg z = 0) (hne : fR (fcheck k p m tg z) p tg z = []) : (eenc k p m tg z).length = 512 := by
  rw [eenc_len e, if_pos hne]
theorem eenc_none (e : ¬ fcheck k p m tg z = 0) : eenc k p m tg z = [] := if_neg e
end
end Go.Xp
