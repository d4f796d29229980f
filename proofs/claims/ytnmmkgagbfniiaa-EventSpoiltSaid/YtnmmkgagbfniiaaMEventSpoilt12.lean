/- MEventSpoilt12: texts of this session and of the kit's printer on the road to the statement EventSpoilt, laid into one and rid of what it doesn't need. No condition beyond what each fact names. -/
import Derived.Test.YtnmmkgagbfniiaaMEventSpoilt3
import Derived.Test.YtnmmkgagbfniiaaMEventSpoilt11
import Derived.Test.YtnmmkgagbfniiaaMEventSpoilt8
import Derived.Test.YtnmmkgagbfniiaaMEventSpoilt9
import Derived.Test.YtnmmkgagbfniiaaMEventSpoilt10
section
namespace Go.Proofs.Ytnmmkgagbfniiaa.A
open Go.RowKit Go.Proofs.YtnmmkgagbfniiaaW.PrintWords Go.Proofs.Ytnmmkgagbfniiaa.OpenKd
set_option linter.unusedVariables false
def interleavelaw11_EventSpoilt.Pure : Prop := ∀ (x0 : S26) (x1 : Int) (x2 : Int) (x3 : Int) (x4 : Int), J26 x0 → (fun n => (Lit.int .i64 n).wf = true) x1 → (fun n => (Lit.int .u16 n).wf = true) x2 → (fun n => (Lit.int .u16 n).wf = true) x3 → (fun n => (Lit.int .u8 n).wf = true) x4 → ∃ k, interleavelaw11_EventSpoilt.f k (x0.f0) (x0.f1.f0) (x0.f1.f1) (x0.f1.f2) (x0.f1.f3) (x0.f1.f4) (x0.f1.f5) (x0.f1.f6) x1 x2 x3 x4 = some true
end Go.Proofs.Ytnmmkgagbfniiaa.A
end
section
namespace Go.Proofs.Ytnmmkgagbfniiaa.Pure
open Go.RowKit Go.Proofs.YtnmmkgagbfniiaaW.PrintWords Go.Proofs.YtnmmkgagbfniiaaW.PrintMore Go.Proofs.Ytnmmkgagbfniiaa.A Go.Proofs.Ytnmmkgagbfniiaa.Pl
set_option linter.unusedVariables false
theorem u16_bounds {a : Int} (h : (Lit.int .u16 a).wf = true) : 0 ≤ a ∧ a < 65536 := by
  simp [Lit.wf, IntKind.min, IntKind.max, IntKind.signed, IntKind.bits] at h
  omega
theorem spoilt_any {l : List Int} (hm : l.length ≤ 1000000) (hb : ∀ c ∈ l, 0 ≤ c ∧ c < 256) (sq : Int) :
    Ev (fun k => ((event_Read.f k l 1 sq).bind fun bt261 => ((interleaveref11_Read.f k l 1 sq).bind fun bt276 => (if bt261.1 = bt276.1 then ((interleaveref09_SameEvent.f k bt261.2.1 bt261.2.2.1 bt261.2.2.2.1 bt261.2.2.2.2.1 bt261.2.2.2.2.2.1 bt261.2.2.2.2.2.2.1 bt261.2.2.2.2.2.2.2.1 bt276.2.1 bt276.2.2.1 bt276.2.2.2.1 bt276.2.2.2.2.1 bt276.2.2.2.2.2.1 bt276.2.2.2.2.2.2.1 bt276.2.2.2.2.2.2.2.1).bind fun t291 => (if t291 = true then (if bt261.2.2.2.2.2.2.2.2.1 = bt276.2.2.2.2.2.2.2.2.1 then (interleavelaw11_EventSpoilt.j0 k sq l bt261.2.2.2.2.2.2.2.2.1 bt261.2.2.2.2.2.2.2.2.2 (bt261.2.2.2.2.2.2.2.2.2 != bt276.2.2.2.2.2.2.2.2.2) bt261.1 bt261.2.1 bt261.2.2.1 bt261.2.2.2.1 bt261.2.2.2.2.1 bt261.2.2.2.2.2.1 bt261.2.2.2.2.2.2.1 bt261.2.2.2.2.2.2.2.1) else (interleavelaw11_EventSpoilt.j0 k sq l bt261.2.2.2.2.2.2.2.2.1 bt261.2.2.2.2.2.2.2.2.2 true bt261.1 bt261.2.1 bt261.2.2.1 bt261.2.2.2.1 bt261.2.2.2.2.1 bt261.2.2.2.2.2.1 bt261.2.2.2.2.2.2.1 bt261.2.2.2.2.2.2.2.1)) else (interleavelaw11_EventSpoilt.j0 k sq l bt261.2.2.2.2.2.2.2.2.1 bt261.2.2.2.2.2.2.2.2.2 true bt261.1 bt261.2.1 bt261.2.2.1 bt261.2.2.2.1 bt261.2.2.2.2.1 bt261.2.2.2.2.2.1 bt261.2.2.2.2.2.2.1 bt261.2.2.2.2.2.2.2.1))) else (interleavelaw11_EventSpoilt.j0 k sq l bt261.2.2.2.2.2.2.2.2.1 bt261.2.2.2.2.2.2.2.2.2 true bt261.1 bt261.2.1 bt261.2.2.1 bt261.2.2.2.1 bt261.2.2.2.2.1 bt261.2.2.2.2.2.1 bt261.2.2.2.2.2.2.1 bt261.2.2.2.2.2.2.2.1))))) true := by
  obtain ⟨q0, q1, q2, q3, q4, q5, q6⟩ := r_le l
  refine Ev.bind (read_f hm hb 1 sq) (Ev.bind (refRead_f hm hb 1 sq) ?_)
  unfold rdS
  by_cases c : (r6 l).2.2 = 0
  · obtain ⟨i0, i1, i2, i3, i4, ht⟩ := once_take hb c
    have l5 := (li_le (l := l) (e := (r4 l).2.2) q4).2
    have l6 := (li_le (l := l) (e := (r5 l).2.2) q5).2
    have hlen : (l.take (r6 l).2.1).length = (r6 l).2.1 := by rw [List.length_take]; omega
    have ha := append_f [] (wrap64 ((r0 l).1 + sq)) 1 (r1 l).1 (r2 l).1 (r3 l).1 (r4 l).1 (r5 l).1 (r6 l).1 sq (by simp) i1 i2 i3 i4 l5 l6
    have hw : wrap64 (wrap64 ((r0 l).1 + sq) - sq) = (r0 l).1 := by
      rw [Int.add_comm]
      exact wrap_back i0
    rw [hw, ← ht, List.nil_append] at ha
    rw [if_pos c]
    dsimp only
    refine Ev.congr (fun k => if_pos rfl) (Ev.bind (sameEvent_yes 1 (r1 l).1 (r2 l).1 (r3 l).1 (r4 l).1 (r5 l).1 (r6 l).1 l5 l6) ?_)
    refine Ev.congr (fun k => (if_pos rfl).trans (if_pos rfl)) ?_
    refine Ev.step (f := fun k => (event_Append.f k ([] : List Int) (wrap64 ((r0 l).1 + sq)) 1 (r1 l).1 (r2 l).1 (r3 l).1 (r4 l).1 (r5 l).1 (r6 l).1 sq).bind fun t292 => (if 0 ≤ ((r6 l).2.1 : Int) then (if ((r6 l).2.1 : Int) ≤ (l.length : Int) then ((interleaveref11_SameBytes.f k t292 (l.take (((r6 l).2.1 : Int) : Int).toNat)).bind fun t296 => (if t296 = true then ((interleavelaw11_awake.f k).bind fun t297 => (some t297)) else none)) else (none)) else (none))) (fun k => ?_) ?_
    · simp only [interleavelaw11_EventSpoilt.j0]
      rw [if_neg (by decide), if_pos trivial]
    · refine Ev.bind ha ?_
      refine Ev.congr (fun k => by rw [if_pos (by omega), if_pos (by omega), Int.toNat_natCast]) (Ev.bind (same_yes (l.take (r6 l).2.1) (by rw [hlen]; omega)) ?_)
      exact Ev.congr (fun k => if_pos rfl) (Ev.bind event_awake (Ev.now true))
  · rw [if_neg c]
    dsimp only
    refine Ev.congr (fun k => if_pos rfl) (Ev.bind (sameEvent_yes 0 0 0 0 0 [] [] (by simp) (by simp)) ?_)
    refine Ev.congr (fun k => (if_pos rfl).trans (if_pos rfl)) ?_
    refine Ev.step (f := fun k => (interleavelaw11_awake.f k).bind fun t298 => (some t298)) (fun k => ?_) (Ev.bind event_awake (Ev.now true))
    simp only [interleavelaw11_EventSpoilt.j0]
    rw [if_neg (by simp), if_neg c]
theorem EventSpoilt : interleavelaw11_EventSpoilt.Pure := by
  intro r q at_ how ch hr hq ha _ _
  obtain ⟨_, ⟨_, hk, ho, hv, hs, _, _⟩⟩ := hr
  have ha' := u16_bounds ha
  refine Ev.rounds ?_
  refine Ev.congr (fun k => by unfold interleavelaw11_EventSpoilt.f; rw [long_f, Option.bind_some]) ?_
  by_cases hl : r.f1.f5.length ≤ 400 ∧ r.f1.f6.length ≤ 400
  · refine Ev.congr (fun k => if_neg (by simpa using hl)) ?_
    refine Ev.bind (refAppend_f [] r.f0 r.f1.f0 r.f1.f1 r.f1.f2 r.f1.f3 r.f1.f4 r.f1.f5 r.f1.f6 q (by simp) (i64_of hk) (i64_of ho) (i64_of hv) (i64_of hs) hl.1 hl.2) ?_
    rw [List.nil_append]
    have hn := encR_len (wrap64 (r.f0 - q)) r.f1.f1 r.f1.f2 r.f1.f3 r.f1.f4 r.f1.f5 r.f1.f6 (wrap64_I64 _) (i64_of hk) (i64_of ho) (i64_of hv) (i64_of hs) hl.1 hl.2
    generalize encR (wrap64 (r.f0 - q)) r.f1.f1 r.f1.f2 r.f1.f3 r.f1.f4 r.f1.f5 r.f1.f6 = b at hn ⊢
    have hz := strOfNums_size b
    obtain ⟨t, e, ht⟩ := spoil_f (strOfNums b) (by omega) ha'.1 ha'.2 how ch
    have hy := bytesOf_length t
    have hy2 := bytesOf_bytes t
    refine Ev.congr (fun k => by rw [e, Option.bind_some, if_pos (by omega), Option.bind_some]) (spoilt_any (l := bytesOf t) (by omega) hy2 q)
  · exact Ev.congr (fun k => if_pos (by have := hl; simp; omega)) (Ev.now true)
end Go.Proofs.Ytnmmkgagbfniiaa.Pure
end
