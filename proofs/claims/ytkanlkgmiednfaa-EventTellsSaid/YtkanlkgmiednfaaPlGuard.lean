/- The guards of layer 11's statements; small words on what is known of plain data. -/
import Derived.Test.YtkanlkgmiednfaaPlRec
import Derived.Test.YtkanlkgmiednfaaPlAwake
import Derived.Test.YtkanlkgmiednfaaAxOpens
import Derived.Test.YtkanlkgmiednfaaAxinterleavelaw11long
namespace Go.Proofs.Ytkanlkgmiednfaa.Pl
open Go.RowKit Go.Proofs.YtkanlkgmiednfaaW.PrintWords Go.Proofs.YtkanlkgmiednfaaW.PrintMore Go.Proofs.Ytkanlkgmiednfaa.A
set_option linter.unusedVariables false
theorem i64_of {a : Int} (h : (Lit.int .i64 a).wf = true) : I64 a := i64_bounds h
/-- A record's guard: at most 400 of each list, or the statement says nothing. -/
theorem long_f (a0 a1 a2 a3 a4 a5 : Int) (l6 l7 : List Int) : interleavelaw11_long.f a0 a1 a2 a3 a4 a5 l6 l7 = some (decide (¬ (l6.length ≤ 400 ∧ l7.length ≤ 400))) := by
  unfold interleavelaw11_long.f
  by_cases h : (l6.length : Int) > 400
  · rw [if_pos h, decide_eq_true (by omega)]
  · rw [if_neg h]
    congr 1
    apply decide_eq_decide.mpr
    omega
end Go.Proofs.Ytkanlkgmiednfaa.Pl
