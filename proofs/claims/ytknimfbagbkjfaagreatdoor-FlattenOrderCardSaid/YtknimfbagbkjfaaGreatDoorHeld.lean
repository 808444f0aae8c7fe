/- Regions that draw their order: the operations that only look are taken first, the others as they come up. -/
import Derived.Test.YtknimfbagbkjfaaGreatDoorMore
import Derived.OrdersHeld
set_option linter.unusedSimpArgs false
set_option linter.unusedVariables false
namespace Go.Xp

def LH (σ : Std) (P : Program) (ops : Array Oper) (n : Nat) (S : Heap → Prop) (Q : Exit → Act → World → Prop) (fuel : Nat) (listed : Array Bool) (e : Env) (h : Heap) : Prop :=
  ∀ w a, std w = σ → w.heap = h → EOk n e a → wpAnyH P .any ops Q (fun w => S w.heap) fuel listed a w
def LO (σ : Std) (P : Program) (ops : Array Oper) (n : Nat) (S : Heap → Prop) (Q : Exit → Act → World → Prop) (fuel : Nat) (listed : Array Bool) (i : Nat) (e : Env) (h : Heap) : Prop :=
  ∀ w a, std w = σ → w.heap = h → EOk n e a → wpOp P ops Q i (fun a' w' => S w'.heap ∧ wpAnyH P .any ops Q (fun w => S w.heap) fuel (listed.setIfInBounds i true) a' w') a w

section
variable {σ : Std} {P : Program} {n : Nat} {Q : Exit → Act → World → Prop} {e e' : Env} {h : Heap} {ops : Array Oper} {S : Heap → Prop} {fuel : Nat} {listed : Array Bool}

theorem W_held {id : Nat} {l : List Oper} (S : Heap → Prop) (fuel : Nat) (hfu : l.length = fuel) (hm : P.follows .mixedOrders = true) (k : LH σ P l.toArray n S Q fuel (Array.replicate fuel false) e h) : W σ P n (.region id l.toArray true) Q e h := by
  intro w a hs hh he
  subst hfu
  refine wp_region_held (S := fun w => S w.heap) hm ?_
  have := k { w with drawn := w.drawn + 1 } a hs hh he
  simpa using this
theorem LH_take {i d : Nat} {o : Oper} {v : Value} (hi : ops[i]? = some o) (hy : ∀ h', S h' → Yld P n e h' o v) (hd : o.dst = some d) (hn : Nat.blt d n = true) (hg : gd ops e o.guard = some true) (hs : Region.noSelect ops = true) (hf : Region.free .any ops listed i = true) (hr : (Region.ready .any ops listed).contains i = true)
    (hQ : ∀ c a w, ¬ Q (.panic c) a w) (hS : S h) (k : LH σ P ops n S Q fuel (listed.setIfInBounds i true) ((d, v) :: e) h) : LH σ P ops n S Q (fuel + 1) listed e h := by
  intro w a h1 h2 he
  refine wpAnyH_take hi hs hf hr (fun c a w hq => absurd hq (hQ _ _ _)) (.inl ⟨wanted_of_gd he hg, fun w' hw' => hy _ hw' w' a rfl he⟩) (h2 ▸ hS) ?_
  rw [hd]
  exact k w _ h1 h2 (he.put hn _)
theorem LH_done (hr : Region.ready .any ops listed = []) (k : X σ n Q .normal e h) : LH σ P ops n S Q fuel listed e h := fun w a h1 h2 he => wpAnyH_done hr (k w a h1 h2 he) _
theorem LH_one {i : Nat} (hr : Region.ready .any ops listed = [i]) (k : LO σ P ops n S Q fuel listed i e h) : LH σ P ops n S Q (fuel + 1) listed e h := fun w a h1 h2 he => wpAnyH_all hr (by simp) (fun j hj => by
  rw [List.mem_singleton] at hj; subst hj; exact k w a h1 h2 he)
theorem LH_two {i j : Nat} (hr : Region.ready .any ops listed = [i, j]) (k : LO σ P ops n S Q fuel listed i e h) (k' : LO σ P ops n S Q fuel listed j e h) : LH σ P ops n S Q (fuel + 1) listed e h := fun w a h1 h2 he => wpAnyH_all hr (by simp) (fun x hx => by
  simp only [List.mem_cons, List.not_mem_nil, or_false] at hx
  rcases hx with rfl | rfl
  · exact k w a h1 h2 he
  · exact k' w a h1 h2 he)
theorem LO_yld {i d : Nat} {o : Oper} {v : Value} (hi : ops[i]? = some o) (hy : Yld P n e h o v) (hd : o.dst = some d) (hn : Nat.blt d n = true) (hg : gd ops e o.guard = some true) (hS : S h) (k : LH σ P ops n S Q fuel (listed.setIfInBounds i true) ((d, v) :: e) h) : LO σ P ops n S Q fuel listed i e h := by
  intro w a h1 h2 he
  unfold wpOp
  simp only [hi]
  rw [wanted_of_gd he hg, if_pos rfl]
  refine .inl ?_
  unfold Oper.wp
  rw [hy w a h2 he, Oper.upon_value, hd]
  exact ⟨h2 ▸ hS, k w _ h1 h2 (he.put hn _)⟩
theorem LO_dos {i : Nat} {o : Oper} {R : Heap → Prop} (hi : ops[i]? = some o) (hy : Dos P n e h o R) (hd : o.dst = none) (hg : gd ops e o.guard = some true) (k : ∀ h', R h' → S h' ∧ LH σ P ops n S Q fuel (listed.setIfInBounds i true) e h') : LO σ P ops n S Q fuel listed i e h := by
  intro w a h1 h2 he
  unfold wpOp
  simp only [hi]
  rw [wanted_of_gd he hg, if_pos rfl]
  refine .inl ?_
  obtain ⟨w', k1, k2, k3⟩ := hy w a h2 he
  unfold Oper.wp
  rw [k1, Oper.upon_skip, hd]
  exact ⟨(k _ k3).1, (k _ k3).2 w' _ (k2.trans h1) rfl he⟩
end
end Go.Xp
