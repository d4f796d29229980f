/- The program's Read answers as the reference's Read does, for every list of bytes: the plain side of the statement EventReads. No condition. -/
import Derived.Test.YtkanlkgmiednfaaPlRead2
import Derived.Test.YtkanlkgmiednfaaPlAwake
import Derived.Test.YtkanlkgmiednfaaAxinterleavelaw11EventReads
namespace Go.Proofs.Ytkanlkgmiednfaa.Pure
open Go.RowKit Go.Proofs.YtkanlkgmiednfaaW.PrintWords Go.Proofs.YtkanlkgmiednfaaW.PrintMore Go.Proofs.Ytkanlkgmiednfaa.A Go.Proofs.Ytkanlkgmiednfaa.Pl
set_option linter.unusedVariables false
theorem ints_loop (x : List Int) (hm : x.length ≤ 140737488355328) : ∀ d i, i + d = x.length → Ev (fun k => interleaveref07_SameInts.l0 k x x (i : Int)) true := by
  intro d
  induction d with
  | zero =>
    intro i hi
    refine Ev.step (f := fun _ => some _) (fun k => ?_) (Ev.now _)
    simp only [interleaveref07_SameInts.l0]
    rw [if_neg (by omega)]
  | succ d ih =>
    intro i hi
    refine Ev.step (fun k => ?_) (ih (i + 1) (by omega))
    simp only [interleaveref07_SameInts.l0]
    rw [if_pos (by omega), if_pos (by omega), if_pos (by omega), if_pos trivial, wrap64_id (by omega) (by omega)]
    rfl
theorem ints_yes (x : List Int) (hm : x.length ≤ 140737488355328) : Ev (fun k => interleaveref07_SameInts.f k x x) true := by
  refine Ev.congr (fun k => ?_) (ints_loop x hm x.length 0 (by omega))
  unfold interleaveref07_SameInts.f
  rw [if_pos rfl]
  rfl
theorem rdS_len (l : List Int) (th sq : Int) : (rdS l th sq).2.2.2.2.2.2.1.length ≤ 400 ∧ (rdS l th sq).2.2.2.2.2.2.2.1.length ≤ 400 := by
  obtain ⟨h0, h1, h2, h3, h4, h5, h6⟩ := r_le l
  unfold rdS
  split
  · exact ⟨(li_le h4).2, (li_le h5).2⟩
  · exact ⟨Nat.zero_le _, Nat.zero_le _⟩
theorem event_yes (a b c d e : Int) (x y : List Int) (hx : x.length ≤ 400) (hy : y.length ≤ 400) : Ev (fun k => interleaveref09_SameEvent.f k a b c d e x y a b c d e x y) true := by
  refine Ev.congr (f := fun k => (interleaveref07_SameInts.f k x x).bind fun t351 => (if t351 = true then ((interleaveref07_SameInts.f k y y).bind fun t352 => (some t352)) else (some false))) (fun k => ?_) (Ev.bind (ints_yes x (by omega)) ?_)
  · unfold interleaveref09_SameEvent.f
    rw [if_pos rfl, if_pos rfl, if_pos rfl, if_pos rfl, if_pos rfl]
  · exact Ev.congr (fun k => if_pos rfl) (Ev.bind (ints_yes y (by omega)) (Ev.now true))
theorem EventReads : interleavelaw11_EventReads.Pure := by
  intro l th sq _ hl hb ht hs
  have hb' : ∀ c ∈ l, 0 ≤ c ∧ c < 256 := fun c hc => u8_bounds (hb c hc)
  by_cases h : (l.length : Int) > 2000
  · exact ⟨0, by unfold interleavelaw11_EventReads.f; rw [if_pos h]⟩
  · have hr := rdS_len l th sq
    have h1 := read_f (l := l) (by omega) hb' th sq
    have h2 := refRead_f (l := l) (by omega) hb' th sq
    generalize rdS l th sq = p at hr h1 h2
    obtain ⟨p0, p1, p2, p3, p4, p5, p6, p7, p8, p9⟩ := p
    dsimp only at hr
    refine Ev.rounds (Ev.congr (fun k => by unfold interleavelaw11_EventReads.f; rw [if_neg h]) (Ev.bind h1 (Ev.bind h2 ?_)))
    refine Ev.congr (f := fun k => (interleaveref09_SameEvent.f k p1 p2 p3 p4 p5 p6 p7 p1 p2 p3 p4 p5 p6 p7).bind fun t383 => (if t383 = true then ((interleavelaw11_awake.f k).bind fun t384 => (some t384)) else (some false))) (fun k => ?_) (Ev.bind (event_yes p1 p2 p3 p4 p5 p6 p7 hr.1 hr.2) ?_)
    · show (if p0 = p0 then ((interleaveref09_SameEvent.f k p1 p2 p3 p4 p5 p6 p7 p1 p2 p3 p4 p5 p6 p7).bind fun t383 => (if t383 = true then (if p8 = p8 then (if p9 = p9 then ((interleavelaw11_awake.f k).bind fun t384 => (some t384)) else (some false)) else (some false)) else (some false))) else (some false)) = _
      rw [if_pos rfl, if_pos rfl, if_pos rfl]
    · exact Ev.congr (fun k => if_pos rfl) (Ev.bind event_awake (Ev.now true))
end Go.Proofs.Ytkanlkgmiednfaa.Pure
