/- PutInt appends the specified bytes, and Int reads them again whatever follows: the plain side of the statement EventInts. No condition. -/
import Derived.Test.YtkanlkgmiednfaaPlAwake
import Derived.Test.YtkanlkgmiednfaaAxinterleavelaw11EventInts
namespace Go.Proofs.Ytkanlkgmiednfaa.Pure
open Go.RowKit Go.Proofs.YtkanlkgmiednfaaW.PrintWords Go.Proofs.YtkanlkgmiednfaaW.PrintMore Go.Proofs.Ytkanlkgmiednfaa.A Go.Proofs.Ytkanlkgmiednfaa.Pl
theorem EventInts : interleavelaw11_EventInts.Pure := by
  intro l a more _ hl hb ha _ hm hmb
  obtain ⟨h0, h1⟩ := i64_bounds ha
  have hmb' : ∀ c ∈ more, 0 ≤ c ∧ c < 256 := fun c hc => u8_bounds (hmb c hc)
  by_cases h : (l.length : Int) > 300
  · exact ⟨1, by unfold interleavelaw11_EventInts.f; rw [if_pos h]; simp only [interleavelaw11_EventInts.j0]; rfl⟩
  · refine Ev.rounds ?_
    by_cases h2 : (more.length : Int) > 300
    · refine ⟨1, fun k hk => ?_⟩
      obtain ⟨m, rfl⟩ : ∃ m, k = m + 1 := ⟨k - 1, by omega⟩
      show interleavelaw11_EventInts.f (m + 1) l a more = _
      unfold interleavelaw11_EventInts.f
      rw [if_neg h, decide_eq_true h2]
      simp only [interleavelaw11_EventInts.j0]
      rfl
    · have he := enc_len h0 h1
      have hd := dec_enc h0 h1 more
      refine Ev.congr (f := fun k => interleavelaw11_EventInts.j0 k l a more false) (fun k => ?_) ?_
      · show interleavelaw11_EventInts.f k l a more = _
        unfold interleavelaw11_EventInts.f
        rw [if_neg h, decide_eq_false h2]
      · refine Ev.step (fun k => by simp only [interleavelaw11_EventInts.j0]; exact if_neg (by decide)) ?_
        refine Ev.bind (putInt_f h0 h1 l (by omega)) ?_
        refine Ev.bind (refPutInt_f h0 h1 l (by omega)) ?_
        refine Ev.bind (same_yes _ (by rw [List.length_append]; omega)) ?_
        have hI := int_f (enc a ++ more) (by rw [List.length_append]; omega) (fun c hc => by
          rcases List.mem_append.1 hc with hc | hc
          · exact enc_bytes a c hc
          · exact hmb' c hc)
        rw [hd] at hI
        have hlen : ((l ++ enc a).length : Int) = l.length + (enc a).length := by rw [List.length_append]; omega
        refine Ev.congr (f := fun k => (event_Int.f k (enc a ++ more)).bind fun bt212 => (if bt212.1 = a then (if bt212.2.1 = (wrap64 (((l ++ enc a).length : Int) - (l.length : Int))) then (some (bt212.2.2 == 0)) else (some false)) else (some false))) (fun k => ?_) ?_
        · simp only [if_true, Option.bind_some, List.length_nil, List.nil_append]
          rw [if_neg (by omega), if_pos (by omega), if_pos (by omega)]
          have hdrop : List.drop ((l.length : Int)).toNat (l ++ enc a) = enc a := by simp
          rw [hdrop, if_pos (by omega), if_pos (by omega)]
        · refine Ev.bind hI ?_
          refine ⟨0, fun k _ => ?_⟩
          dsimp only
          rw [wrap64_id (by omega) (by omega), if_pos rfl, if_pos (by omega)]
          rfl
end Go.Proofs.Ytkanlkgmiednfaa.Pure
