/- The program's Pack answers as the reference's Pack does: the plain side of the statement PackTells. No condition. -/
import Derived.Test.YtkanlkgmiednfaaPlPack2
import Derived.Test.YtkanlkgmiednfaaAxinterleavelaw12PackTells
namespace Go.Proofs.Ytkanlkgmiednfaa.Pure
open Go.RowKit Go.Proofs.YtkanlkgmiednfaaW.PrintWords Go.Proofs.YtkanlkgmiednfaaW.PrintMore Go.Proofs.Ytkanlkgmiednfaa.A Go.Proofs.Ytkanlkgmiednfaa.Pl
theorem PackTells : interleavelaw12_PackTells.Pure := by
  intro l _ hl hb
  by_cases h : (l.length : Int) > 3000
  · exact ⟨0, by unfold interleavelaw12_PackTells.f; rw [if_pos h]⟩
  · have hs := packS_length l
    refine Ev.rounds (Ev.congr (fun k => by unfold interleavelaw12_PackTells.f; rw [if_neg h]) ?_)
    refine Ev.bind (pack_f l (by omega)) (Ev.bind (refPack_f l (by omega)) (Ev.bind (same_yes (packS l) (by omega)) ?_))
    exact Ev.bind pack_awake (Ev.now _)
end Go.Proofs.Ytkanlkgmiednfaa.Pure
