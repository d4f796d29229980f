/- A packed stream is at most one byte longer for each 128 bytes: the plain side of the statement PackBounded. No condition. -/
import Derived.Test.YtkanlkgmiednfaaPlPack2
import Derived.Test.YtkanlkgmiednfaaAxinterleavelaw12PackBounded
namespace Go.Proofs.Ytkanlkgmiednfaa.Pure
open Go.RowKit Go.Proofs.YtkanlkgmiednfaaW.PrintWords Go.Proofs.YtkanlkgmiednfaaW.PrintMore Go.Proofs.Ytkanlkgmiednfaa.A Go.Proofs.Ytkanlkgmiednfaa.Pl
theorem PackBounded : interleavelaw12_PackBounded.Pure := by
  intro l _ hl hb
  by_cases h : (l.length : Int) > 3000
  · exact ⟨0, by unfold interleavelaw12_PackBounded.f; rw [if_pos h]⟩
  · have hs := packS_length l
    have e1 : wrap64 ((l.length : Int) + 127) = (l.length : Int) + 127 := wrap64_id (by omega) (by omega)
    have e2 : Int.tdiv ((l.length : Int) + 127) 128 = (((l.length + 127) / 128 : Nat) : Int) := by rw [Int.tdiv_eq_ediv_of_nonneg (by omega)]; omega
    have e3 : wrap64 ((((l.length + 127) / 128 : Nat)) : Int) = (((l.length + 127) / 128 : Nat) : Int) := wrap64_id (by omega) (by omega)
    have e4 : wrap64 ((l.length : Int) + (((l.length + 127) / 128 : Nat) : Int)) = (l.length : Int) + (((l.length + 127) / 128 : Nat) : Int) := wrap64_id (by omega) (by omega)
    refine Ev.rounds (Ev.congr (fun k => by unfold interleavelaw12_PackBounded.f; rw [if_neg h]) ?_)
    refine Ev.bind (pack_f l (by omega)) ?_
    refine Ev.congr (fun k => ?_) (Ev.bind pack_awake (Ev.now true))
    rw [e1, e2, e3, e4, if_pos (by omega)]
end Go.Proofs.Ytkanlkgmiednfaa.Pure
