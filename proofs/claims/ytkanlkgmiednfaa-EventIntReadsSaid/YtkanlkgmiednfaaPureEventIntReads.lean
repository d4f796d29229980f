/- The program's Int answers as the reference's Int does, for every list of bytes: the plain side of the statement EventIntReads. No condition. -/
import Derived.Test.YtkanlkgmiednfaaPlAwake
import Derived.Test.YtkanlkgmiednfaaAxinterleavelaw11EventIntReads
namespace Go.Proofs.Ytkanlkgmiednfaa.Pure
open Go.RowKit Go.Proofs.YtkanlkgmiednfaaW.PrintWords Go.Proofs.YtkanlkgmiednfaaW.PrintMore Go.Proofs.Ytkanlkgmiednfaa.A Go.Proofs.Ytkanlkgmiednfaa.Pl
theorem EventIntReads : interleavelaw11_EventIntReads.Pure := by
  intro l _ hl hb
  have hb' : ∀ c ∈ l, 0 ≤ c ∧ c < 256 := fun c hc => u8_bounds (hb c hc)
  by_cases h : (l.length : Int) > 300
  · exact ⟨0, by unfold interleavelaw11_EventIntReads.f; rw [if_pos h]⟩
  · refine Ev.rounds ?_
    refine Ev.congr (f := fun k => (event_Int.f k l).bind fun bt219 => ((interleaveref11_Int.f k l).bind fun bt222 => (if bt219.1 = bt222.1 then (if bt219.2.1 = bt222.2.1 then (if bt219.2.2 = bt222.2.2 then ((interleavelaw11_awake.f k).bind fun t225 => (some t225)) else (some false)) else (some false)) else (some false)))) (fun k => ?_) ?_
    · show interleavelaw11_EventIntReads.f k l = _
      unfold interleavelaw11_EventIntReads.f
      rw [if_neg h]
    · refine Ev.bind (int_f l (by omega) hb') ?_
      refine Ev.bind (refInt_f l (by omega) hb') ?_
      simp only [if_true]
      exact Ev.bind event_awake (Ev.now _)
end Go.Proofs.Ytkanlkgmiednfaa.Pure
