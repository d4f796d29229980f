/- Bytes that Read accepts are those of Append: the plain side of the statement EventOnce. No condition. -/
import Derived.Test.YtkanlkgmiednfaaPlRead3
import Derived.Test.YtkanlkgmiednfaaPlAwake
import Derived.Test.YtkanlkgmiednfaaAxinterleavelaw11EventOnce
namespace Go.Proofs.Ytkanlkgmiednfaa.Pure
open Go.RowKit Go.Proofs.YtkanlkgmiednfaaW.PrintWords Go.Proofs.YtkanlkgmiednfaaW.PrintMore Go.Proofs.Ytkanlkgmiednfaa.A Go.Proofs.Ytkanlkgmiednfaa.Pl
set_option linter.unusedVariables false
theorem once_take {l : List Int} (hx : ∀ c ∈ l, 0 ≤ c ∧ c < 256) (h : (r6 l).2.2 = 0) :
    I64 (r0 l).1 ∧ I64 (r1 l).1 ∧ I64 (r2 l).1 ∧ I64 (r3 l).1 ∧ I64 (r4 l).1 ∧ l.take (r6 l).2.1 = encR (r0 l).1 (r1 l).1 (r2 l).1 (r3 l).1 (r4 l).1 (r5 l).1 (r6 l).1 := by
  obtain ⟨h0, h1, h2, h3, h4, h5, h6⟩ := r_le l
  obtain ⟨e6, t6⟩ := li_once hx h5 h
  obtain ⟨e5, t5⟩ := li_once hx h4 e6
  obtain ⟨e4, i4, t4⟩ := nx_once hx h3 e5
  obtain ⟨e3, i3, t3⟩ := nx_once hx h2 e4
  obtain ⟨e2, i2, t2⟩ := nx_once hx h1 e3
  obtain ⟨e1, i1, t1⟩ := nx_once hx h0 e2
  obtain ⟨e0, i0, t0⟩ := nx_once hx (Nat.zero_le _) e1
  refine ⟨i0, i1, i2, i3, i4, ?_⟩
  have t0' : l.take (r0 l).2.1 = enc (r0 l).1 := t0
  have t1' : l.take (r1 l).2.1 = l.take (r0 l).2.1 ++ enc (r1 l).1 := t1
  have t2' : l.take (r2 l).2.1 = l.take (r1 l).2.1 ++ enc (r2 l).1 := t2
  have t3' : l.take (r3 l).2.1 = l.take (r2 l).2.1 ++ enc (r3 l).1 := t3
  have t4' : l.take (r4 l).2.1 = l.take (r3 l).2.1 ++ enc (r4 l).1 := t4
  have t5' : l.take (r5 l).2.1 = l.take (r4 l).2.1 ++ encL (r5 l).1 := t5
  have t6' : l.take (r6 l).2.1 = l.take (r5 l).2.1 ++ encL (r6 l).1 := t6
  rw [t6', t5', t4', t3', t2', t1', t0']
  unfold encR
  simp only [List.append_assoc]
theorem EventOnce : interleavelaw11_EventOnce.Pure := by
  intro l th sq _ hl hb ht hs
  have hb' : ∀ c ∈ l, 0 ≤ c ∧ c < 256 := fun c hc => u8_bounds (hb c hc)
  by_cases h : (l.length : Int) > 2000
  · exact ⟨0, by unfold interleavelaw11_EventOnce.f; rw [if_pos h]⟩
  · obtain ⟨q0, q1, q2, q3, q4, q5, q6⟩ := r_le l
    have h1 := read_f (l := l) (by omega) hb' th sq
    refine Ev.rounds (Ev.congr (fun k => by unfold interleavelaw11_EventOnce.f; rw [if_neg h]) (Ev.bind h1 ?_))
    unfold rdS
    by_cases c : (r6 l).2.2 = 0
    · obtain ⟨i0, i1, i2, i3, i4, ht⟩ := once_take hb' c
      have l5 := (li_le (l := l) (e := (r4 l).2.2) q4).2
      have l6 := (li_le (l := l) (e := (r5 l).2.2) q5).2
      have hp := encR_pos (r0 l).1 (r1 l).1 (r2 l).1 (r3 l).1 (r4 l).1 (r5 l).1 (r6 l).1
      have hlen : (l.take (r6 l).2.1).length = (r6 l).2.1 := by rw [List.length_take]; omega
      have hpos : 0 < (r6 l).2.1 := by rw [← hlen, ht]; exact hp
      have ha := append_f [] (wrap64 ((r0 l).1 + sq)) th (r1 l).1 (r2 l).1 (r3 l).1 (r4 l).1 (r5 l).1 (r6 l).1 sq (by simp) i1 i2 i3 i4 l5 l6
      have hw : wrap64 (wrap64 ((r0 l).1 + sq) - sq) = (r0 l).1 := by
        rw [Int.add_comm]
        exact wrap_back i0
      rw [hw, ← ht, List.nil_append] at ha
      rw [if_pos c]
      refine Ev.congr (f := fun k => (event_Append.f k ([] : List Int) (wrap64 ((r0 l).1 + sq)) th (r1 l).1 (r2 l).1 (r3 l).1 (r4 l).1 (r5 l).1 (r6 l).1 sq).bind fun t550 => (if 0 ≤ ((r6 l).2.1 : Int) then ((interleaveref11_SameBytes.f k t550 (l.take (((r6 l).2.1 : Int)).toNat)).bind fun t554 => (some t554)) else (none))) (fun k => ?_) (Ev.bind ha ?_)
      · show (if (0 : Int) = 0 then (if ((r6 l).2.1 : Int) ≥ 1 then (if ((r6 l).2.1 : Int) ≤ (l.length : Int) then _ else _) else _) else _) = _
        rw [if_pos rfl, if_pos (by omega), if_pos (by omega)]
      · refine Ev.congr (fun k => by rw [if_pos (by omega), Int.toNat_natCast]) (Ev.bind (same_yes (l.take (r6 l).2.1) (by rw [hlen]; omega)) (Ev.now true))
    · rw [if_neg c]
      refine Ev.congr (f := fun k => (interleavelaw11_awake.f k).bind fun t555 => (some t555)) (fun k => ?_) (Ev.bind event_awake (Ev.now true))
      show (if (r6 l).2.2 = 0 then _ else (if (0 : Int) = 0 then _ else _)) = _
      rw [if_neg c, if_pos rfl]
end Go.Proofs.Ytkanlkgmiednfaa.Pure
