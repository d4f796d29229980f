/- The plain statement of the law EventTells. -/
import Derived.Test.YtkanlkgmiednfaaAxOpens
import Derived.Test.YtkanlkgmiednfaaAxinterleavelaw11EventTells
namespace Go.Proofs.Ytkanlkgmiednfaa.A
open Go.RowKit Go.Proofs.YtkanlkgmiednfaaW.PrintWords Go.Proofs.Ytkanlkgmiednfaa.OpenKd
set_option linter.unusedVariables false
/-- What is left to show of the law: no memory in it. -/
def interleavelaw11_EventTells.Pure : Prop := ∀ (x0 : List Int) (x1 : S35) (x2 : Int), (fun xs => xs.length ≤ maxLen ∧ xs.length * 1 ≤ 140737488351232 ∧ ∀ x ∈ xs, (fun n => (Lit.int .u8 n).wf = true) x) x0 → J35 x1 → (fun n => (Lit.int .i64 n).wf = true) x2 → ∃ k, interleavelaw11_EventTells.f k x0 (x1.f0) (x1.f1.f0) (x1.f1.f1) (x1.f1.f2) (x1.f1.f3) (x1.f1.f4) (x1.f1.f5) (x1.f1.f6) x2 = some true
end Go.Proofs.Ytkanlkgmiednfaa.A
