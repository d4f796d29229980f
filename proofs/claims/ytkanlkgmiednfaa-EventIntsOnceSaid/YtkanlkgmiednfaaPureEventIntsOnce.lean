/- Bytes that Int accepts are those of PutInt: the plain side of the statement EventIntsOnce. No condition. -/
import Derived.Test.YtkanlkgmiednfaaPlAwake
import Derived.Test.YtkanlkgmiednfaaAxinterleavelaw11EventIntsOnce
namespace Go.Proofs.Ytkanlkgmiednfaa.Pure
open Go.RowKit Go.Proofs.YtkanlkgmiednfaaW.PrintWords Go.Proofs.YtkanlkgmiednfaaW.PrintMore Go.Proofs.Ytkanlkgmiednfaa.A Go.Proofs.Ytkanlkgmiednfaa.Pl
theorem EventIntsOnce : interleavelaw11_EventIntsOnce.Pure := by
  intro l _ hl hb
  have hb' : ∀ c ∈ l, 0 ≤ c ∧ c < 256 := fun c hc => u8_bounds (hb c hc)
  by_cases h : (l.length : Int) > 300
  · exact ⟨0, by unfold interleavelaw11_EventIntsOnce.f; rw [if_pos h]⟩
  · refine Ev.rounds ?_
    obtain ⟨n, s, e, hd⟩ : ∃ n s e, dec 10 0 l = (n, s, e) := ⟨_, _, _, rfl⟩
    have hI := int_f l (by omega) hb'
    rw [hd] at hI
    refine Ev.congr (f := fun k => (event_Int.f k l).bind fun bt226 => (if bt226.2.2 = 0 then (if bt226.2.1 ≥ 1 then (if bt226.2.1 ≤ (l.length : Int) then ((event_PutInt.f k ([] : List Int) bt226.1).bind fun t229 => (if 0 ≤ bt226.2.1 then ((interleaveref11_SameBytes.f k t229 (l.take (bt226.2.1 : Int).toNat)).bind fun t233 => (some t233)) else (none))) else (some false)) else (some false)) else (if bt226.2.1 = 0 then (if bt226.1 = 0 then ((interleavelaw11_awake.f k).bind fun t234 => (some t234)) else (some false)) else (some false)))) (fun k => ?_) ?_
    · show interleavelaw11_EventIntsOnce.f k l = _
      unfold interleavelaw11_EventIntsOnce.f
      rw [if_neg h]
    refine Ev.bind hI ?_
    dsimp only
    rcases dec_bad 10 0 l n s e hd with rfl | ⟨rfl, rfl, he⟩
    · obtain ⟨h0, h1, rest, hl2, hs⟩ := dec_once hb' hd
      have hen := enc_len h0 h1
      have hll : l.length = (enc n).length + rest.length := by rw [hl2, List.length_append]
      refine Ev.congr (f := fun k => (event_PutInt.f k ([] : List Int) n).bind fun t229 => (interleaveref11_SameBytes.f k t229 (enc n)).bind fun t233 => (some t233)) (fun k => ?_) ?_
      · rw [if_pos rfl, if_pos (by omega), if_pos (by omega), hs]
        have ht : l.take (((enc n).length : Int)).toNat = enc n := by rw [hl2]; simp
        rw [ht]
        simp only [show (0 : Int) ≤ ((enc n).length : Int) by omega, if_true]
      · refine Ev.bind (putInt_f h0 h1 [] (by simp)) ?_
        exact Ev.bind (same_yes _ (by simp; omega)) (Ev.now _)
    · refine Ev.congr (f := fun k => (interleavelaw11_awake.f k).bind fun t234 => (some t234)) (fun k => ?_) ?_
      · rw [if_neg (by omega), if_pos rfl, if_pos rfl]
      · exact Ev.bind event_awake (Ev.now _)
end Go.Proofs.Ytkanlkgmiednfaa.Pure
