/- Layer 10 (fit): Merge on any list. -/
import Derived.Test.YtkcgabodpcfohaaDoorMergeP
set_option linter.unusedSimpArgs false
set_option linter.unusedVariables false
set_option linter.unusedSectionVars false
namespace Go.Xp
open Go.Proofs

section
variable (h : Heap)
theorem fit_Merge (hK : GlbK h) (hN : GlbN h) (hE : GlbE h) (hT : GlbT h) (hS : GlbS h) (ty : Int) (nm : List UInt8) (pr : List UInt8) (lk : List UInt8) (md : Int) (sz : Int) (w : Value) (l : List Rec) (hl : Rows recS h w l)
    (hty : 0 ≤ ty ∧ ty ≤ 255) (hnm : pr.length + 1 + nm.length ≤ 140737488355328) (hlk : lk.length ≤ 140737488355328) (hsz : -9223372036854775808 ≤ sz ∧ sz ≤ 9223372036854775807) (hn : l.length ≤ 140737488355328) (hs : ∀ r ∈ l, r.key.length ≤ 140737488355328 ∧ r.val.length ≤ 140737488355328) :
    Cal Tryd.prog 39 #[.agg #[.int .u8 ty, str nm, str pr, str lk, .int .i64 md, .int .i64 sz], w] h (fun v h' => v = .tuple #[.agg #[.int .i64 (oI (mres ty nm pr lk md sz l) (mkind ty)), str (oP (mres ty nm pr lk md sz l)), .int .i64 (oI (mres ty nm pr lk md sz l) md), str (oT (mres ty nm pr lk md sz l)), .int .i64 (oZ (mres ty nm pr lk md sz l))], .int .i64 (oE (mres ty nm pr lk md sz l) l)] ∧ Ext h h') := by
  rcases Nat.eq_zero_or_pos l.length with h0 | h0
  · exact fit_MergeN h hK hN hE hT hS ty nm pr lk md sz w l hl hty hnm hlk hsz hn hs h0
  · exact fit_MergeS h hK hN hE hT hS ty nm pr lk md sz w l hl hty hnm hlk hsz hn hs h0
end
end Go.Xp
