/- Unpacking returns what was packed; one byte less is too little room: the plain side of the statement PackRoundTrip. No condition. -/
import Derived.Test.YtkanlkgmiednfaaPlPack4
import Derived.Test.YtkanlkgmiednfaaAxinterleavelaw12PackRoundTrip
namespace Go.Proofs.Ytkanlkgmiednfaa.Pure
open Go.RowKit Go.Proofs.YtkanlkgmiednfaaW.PrintWords Go.Proofs.YtkanlkgmiednfaaW.PrintMore Go.Proofs.Ytkanlkgmiednfaa.A Go.Proofs.Ytkanlkgmiednfaa.Pl
theorem PackRoundTrip : interleavelaw12_PackRoundTrip.Pure := by
  intro l _ hl hb
  have hb' : ∀ c ∈ l, 0 ≤ c ∧ c < 256 := fun c hc => u8_bounds (hb c hc)
  by_cases h : (l.length : Int) > 3000
  · exact ⟨0, by unfold interleavelaw12_PackRoundTrip.f; rw [if_pos h]⟩
  · have hs := packS_length l
    have hp := ch_bytes hb' (packS_ch l)
    have e1 : wrap64 ((l.length : Int) - 1) = (l.length : Int) - 1 := wrap64_id (by omega) (by omega)
    refine Ev.rounds (Ev.congr (fun k => by unfold interleavelaw12_PackRoundTrip.f; rw [if_neg h, e1]) ?_)
    refine Ev.bind (pack_f l (by omega)) (Ev.bind (unpack_f (by omega) hp (l.length : Int)) (Ev.bind (unpack_f (by omega) hp ((l.length : Int) - 1)) ?_))
    rw [un_packS (by omega) (Nat.le_refl _)]
    have e2 : un ((l.length : Int) - 1) (packS l).length (packS l) [] = ([], if 0 < l.length then 2 else 0) := by
      by_cases c : 0 < l.length
      · rw [if_pos c]
        exact un_small (packS_ch l) c _ (Nat.le_refl _)
      · rw [if_neg c]
        have hl0 : l = [] := List.eq_nil_of_length_eq_zero (by omega)
        subst hl0
        rfl
    rw [e2]
    refine Ev.congr (fun k => by rw [if_pos rfl]) (Ev.bind (same_yes l (by omega)) ?_)
    refine Ev.congr (fun k => ?_) (Ev.bind pack_awake (Ev.now true))
    rw [if_pos rfl, if_pos (by simp), if_pos (by
      by_cases c : 0 < l.length
      · rw [if_pos c]
        simp
        omega
      · rw [if_neg c]
        have hl0 : l = [] := List.eq_nil_of_length_eq_zero (by omega)
        subst hl0
        rfl)]
end Go.Proofs.Ytkanlkgmiednfaa.Pure
