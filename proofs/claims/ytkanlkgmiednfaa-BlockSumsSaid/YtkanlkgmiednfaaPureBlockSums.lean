/- The program's Sum is the reference's, for every list of bytes: the plain side of the statement BlockSums. No condition. -/
import Derived.Test.YtkanlkgmiednfaaPlSum2
import Derived.Test.YtkanlkgmiednfaaAxinterleavelaw13BlockSums
namespace Go.Proofs.Ytkanlkgmiednfaa.Pure
open Go.RowKit Go.Proofs.YtkanlkgmiednfaaW.PrintWords Go.Proofs.YtkanlkgmiednfaaW.PrintMore Go.Proofs.Ytkanlkgmiednfaa.A Go.Proofs.Ytkanlkgmiednfaa.Pl
theorem BlockSums : interleavelaw13_BlockSums.Pure := by
  intro l _ hl hb
  have hb' : ∀ c ∈ l, 0 ≤ c ∧ c < 256 := fun c hc => u8_bounds (hb c hc)
  by_cases h : (l.length : Int) > 2000
  · exact ⟨0, by unfold interleavelaw13_BlockSums.f; rw [if_pos h]⟩
  · refine Ev.rounds ?_
    refine Ev.congr (fun k => by show interleavelaw13_BlockSums.f k l = _; unfold interleavelaw13_BlockSums.f; exact if_neg h) ?_
    refine Ev.bind (sum_f l (by omega) hb') ?_
    refine Ev.bind (refSum_f l (by omega) hb') ?_
    simp only [if_true]
    exact Ev.bind block_awake (Ev.now _)
end Go.Proofs.Ytkanlkgmiednfaa.Pure
