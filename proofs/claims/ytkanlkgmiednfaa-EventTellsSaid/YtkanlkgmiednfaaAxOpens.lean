/- What is known of the plain data of each struct type, and that what is read as data is read by its kind. No condition. -/
import Derived.Test.YtkanlkgmiednfaaAx0
import Derived.Test.YtkanlkgmiednfaaOpenKd
import Derived.KernelRfl
namespace Go.Proofs.Ytkanlkgmiednfaa.A
open Go.RowKit Go.Proofs.YtkanlkgmiednfaaW.PrintWords Go.Proofs.Ytkanlkgmiednfaa.OpenKd
set_option linter.unusedVariables false

def J33 : S33 → Prop := fun y => (fun n => (Lit.int .i64 n).wf = true) y.f0 ∧ ((fun n => (Lit.int .i64 n).wf = true) y.f1 ∧ ((fun n => (Lit.int .i64 n).wf = true) y.f2 ∧ ((fun n => (Lit.int .i64 n).wf = true) y.f3 ∧ ((fun n => (Lit.int .i64 n).wf = true) y.f4 ∧ ((fun xs => xs.length ≤ maxLen ∧ xs.length * 8 ≤ 140737488351232 ∧ ∀ x ∈ xs, (fun n => (Lit.int .i64 n).wf = true) x) y.f5 ∧ ((fun xs => xs.length ≤ maxLen ∧ xs.length * 8 ≤ 140737488351232 ∧ ∀ x ∈ xs, (fun n => (Lit.int .i64 n).wf = true) x) y.f6))))))
theorem opens33 : Opens Try.prog k33 33 J33 := opens_struct (fun x : S33 => (x.f0, x.f1, x.f2, x.f3, x.f4, x.f5, x.f6)) (fun p => ⟨p.1, p.2.1, p.2.2.1, p.2.2.2.1, p.2.2.2.2.1, p.2.2.2.2.2.1, p.2.2.2.2.2.2⟩) (fun _ => rfl) Try.underlying33 (by kernel_rfl) (opF_cons rfl rfl (opens_int Try.underlying3) (by kernel_rfl) (opF_cons rfl rfl (opens_int Try.underlying3) (by kernel_rfl) (opF_cons rfl rfl (opens_int Try.underlying3) (by kernel_rfl) (opF_cons rfl rfl (opens_int Try.underlying2) (by kernel_rfl) (opF_cons rfl rfl (opens_int Try.underlying3) (by kernel_rfl) (opF_cons rfl rfl (opens_slice Try.underlying31 (opens_int Try.underlying3) (by kernel_rfl) (by kernel_rfl)) (by kernel_rfl) (opF_one rfl rfl (opens_slice Try.underlying31 (opens_int Try.underlying3) (by kernel_rfl) (by kernel_rfl)) (by kernel_rfl))))))))
def J35 : S35 → Prop := fun y => (fun n => (Lit.int .i64 n).wf = true) y.f0 ∧ (J33 y.f1)
theorem opens35 : Opens Try.prog k35 35 J35 := opens_struct (fun x : S35 => (x.f0, x.f1)) (fun p => ⟨p.1, p.2⟩) (fun _ => rfl) Try.underlying35 (by kernel_rfl) (opF_cons rfl rfl (opens_int Try.underlying3) (by kernel_rfl) (opF_one rfl rfl opens33 (by kernel_rfl)))
end Go.Proofs.Ytkanlkgmiednfaa.A
