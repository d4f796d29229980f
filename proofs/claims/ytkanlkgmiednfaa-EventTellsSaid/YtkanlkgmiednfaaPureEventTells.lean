/- Append appends the specified bytes: the plain side of the statement EventTells. No condition. -/
import Derived.Test.YtkanlkgmiednfaaPlGuard
import Derived.Test.YtkanlkgmiednfaaAxStEventTells
namespace Go.Proofs.Ytkanlkgmiednfaa.Pure
open Go.RowKit Go.Proofs.YtkanlkgmiednfaaW.PrintWords Go.Proofs.YtkanlkgmiednfaaW.PrintMore Go.Proofs.Ytkanlkgmiednfaa.A Go.Proofs.Ytkanlkgmiednfaa.Pl
theorem EventTells : interleavelaw11_EventTells.Pure := by
  intro b r q hb hr hq
  obtain ⟨_, ⟨_, hk, ho, hv, hs, _, _⟩⟩ := hr
  refine Ev.rounds ?_
  by_cases h : (b.length : Int) > 300
  · refine Ev.congr (f := fun k => interleavelaw11_EventTells.j0 k b q true r.f0 r.f1.f0 r.f1.f1 r.f1.f2 r.f1.f3 r.f1.f4 r.f1.f5 r.f1.f6) (fun k => ?_) (Ev.step (f := fun _ => some true) (fun k => ?_) (Ev.now _))
    · show interleavelaw11_EventTells.f k _ _ _ _ _ _ _ _ _ _ = _
      unfold interleavelaw11_EventTells.f
      rw [if_pos h]
    · simp only [interleavelaw11_EventTells.j0]
      exact if_pos trivial
  · refine Ev.congr (f := fun k => interleavelaw11_EventTells.j0 k b q (decide (¬ (r.f1.f5.length ≤ 400 ∧ r.f1.f6.length ≤ 400))) r.f0 r.f1.f0 r.f1.f1 r.f1.f2 r.f1.f3 r.f1.f4 r.f1.f5 r.f1.f6) (fun k => ?_) ?_
    · show interleavelaw11_EventTells.f k _ _ _ _ _ _ _ _ _ _ = _
      unfold interleavelaw11_EventTells.f
      rw [if_neg h, long_f]
      rfl
    · by_cases hl : r.f1.f5.length ≤ 400 ∧ r.f1.f6.length ≤ 400
      · rw [decide_eq_false (by simpa using hl)]
        refine Ev.step (fun k => by simp only [interleavelaw11_EventTells.j0]; exact if_neg (by decide)) ?_
        refine Ev.bind (append_f b r.f0 r.f1.f0 r.f1.f1 r.f1.f2 r.f1.f3 r.f1.f4 r.f1.f5 r.f1.f6 q (by omega) (i64_of hk) (i64_of ho) (i64_of hv) (i64_of hs) hl.1 hl.2) ?_
        refine Ev.bind (refAppend_f b r.f0 r.f1.f0 r.f1.f1 r.f1.f2 r.f1.f3 r.f1.f4 r.f1.f5 r.f1.f6 q (by omega) (i64_of hk) (i64_of ho) (i64_of hv) (i64_of hs) hl.1 hl.2) ?_
        have hn := encR_len (wrap64 (r.f0 - q)) r.f1.f1 r.f1.f2 r.f1.f3 r.f1.f4 r.f1.f5 r.f1.f6 (wrap64_I64 _) (i64_of hk) (i64_of ho) (i64_of hv) (i64_of hs) hl.1 hl.2
        refine Ev.bind (same_yes _ (by rw [List.length_append]; omega)) ?_
        refine Ev.congr (fun k => if_pos rfl) (Ev.bind event_awake (Ev.now _))
      · rw [decide_eq_true hl]
        refine Ev.step (f := fun _ => some true) (fun k => ?_) (Ev.now _)
        simp only [interleavelaw11_EventTells.j0]
        exact if_pos trivial
end Go.Proofs.Ytkanlkgmiednfaa.Pure
