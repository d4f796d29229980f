/- The outputs of two packed streams follow each other if the streams do: the plain side of the statement PackJoins. No condition. -/
import Derived.Test.YtkanlkgmiednfaaPlPack4
import Derived.Test.YtkanlkgmiednfaaAxinterleavelaw12PackJoins
namespace Go.Proofs.Ytkanlkgmiednfaa.Pure
open Go.RowKit Go.Proofs.YtkanlkgmiednfaaW.PrintWords Go.Proofs.YtkanlkgmiednfaaW.PrintMore Go.Proofs.Ytkanlkgmiednfaa.A Go.Proofs.Ytkanlkgmiednfaa.Pl
theorem joins_yes (x y : List Int) : Ev (fun k => interleavelaw12_PackJoins.j0 k x y true) true := by
  refine Ev.step (f := fun _ => some _) (fun k => ?_) (Ev.now _)
  simp only [interleavelaw12_PackJoins.j0]
  rw [if_pos trivial]
theorem joins_no (x y : List Int) (hx : ∀ c ∈ x, 0 ≤ c ∧ c < 256) (hy : ∀ c ∈ y, 0 ≤ c ∧ c < 256) (h1 : x.length ≤ 1000) (h2 : y.length ≤ 1000) : Ev (fun k => interleavelaw12_PackJoins.j0 k x y false) true := by
  have s1 := packS_length x
  have s2 := packS_length y
  have hp : ∀ c ∈ packS x ++ packS y, 0 ≤ c ∧ c < 256 := fun c hc => by
    rcases List.mem_append.1 hc with hc | hc
    · exact ch_bytes hx (packS_ch x) c hc
    · exact ch_bytes hy (packS_ch y) c hc
  have e1 : wrap64 ((x.length : Int) + (y.length : Int)) = ((x.length + y.length : Nat) : Int) := by rw [wrap64_id (by omega) (by omega)]; omega
  have hE1 := Aside0.mk e1
  clear e1
  have hu : un ((x.length + y.length : Nat) : Int) (packS x ++ packS y).length (packS x ++ packS y) [] = (x ++ y, 0) := by
    obtain ⟨g, g1, _, g3⟩ := un_ch (pre := []) (rest := packS y) (lim := ((x.length + y.length : Nat) : Int)) (by simp only [List.length_nil]; omega) (packS_ch x) (packS x ++ packS y).length (by rw [List.length_append]; omega)
    obtain ⟨q, _, _, q3⟩ := un_ch (pre := x) (rest := []) (lim := ((x.length + y.length : Nat) : Int)) (by omega) (packS_ch y) g (by simpa using g1)
    have g4 : un ((x.length + y.length : Nat) : Int) (packS x ++ packS y).length (packS x ++ packS y) [] = un ((x.length + y.length : Nat) : Int) g (packS y) x := g3
    rw [List.append_nil, List.take_zero, List.append_nil] at q3
    rw [g4, q3, un_nil]
  refine Ev.step (fun k => by simp only [interleavelaw12_PackJoins.j0]; rw [if_neg (by simp), Option.bind_some]) (Ev.bind (pack_f x (by omega)) ?_)
  refine Ev.congr (fun k => by rw [List.nil_append, if_pos (by simp only [List.length_nil]; omega), Option.bind_some]) (Ev.bind (pack_f y (by omega)) ?_)
  refine Ev.congr (fun k => by rw [if_pos (by omega), hE1.out]) (Ev.bind (unpack_f (by rw [List.length_append]; omega) hp ((x.length + y.length : Nat) : Int)) ?_)
  rw [hu]
  refine Ev.congr (fun k => by rw [if_pos rfl, Option.bind_some, List.nil_append, if_pos (by simp only [List.length_nil]; omega), Option.bind_some, if_pos (by omega)]) (Ev.bind (same_yes (x ++ y) (by rw [List.length_append]; omega)) ?_)
  exact Ev.congr (fun k => by rw [if_pos rfl]) (Ev.bind pack_awake (Ev.now true))
theorem PackJoins : interleavelaw12_PackJoins.Pure := by
  intro x y _ hx hxb _ hy hyb
  have hX : ∀ c ∈ x, 0 ≤ c ∧ c < 256 := fun c hc => u8_bounds (hxb c hc)
  have hY : ∀ c ∈ y, 0 ≤ c ∧ c < 256 := fun c hc => u8_bounds (hyb c hc)
  refine Ev.rounds ?_
  by_cases h : (x.length : Int) > 1000
  · exact Ev.congr (fun k => by unfold interleavelaw12_PackJoins.f; rw [if_pos h]) (joins_yes x y)
  · by_cases h2 : (y.length : Int) > 1000
    · exact Ev.congr (fun k => by unfold interleavelaw12_PackJoins.f; rw [if_neg h, decide_eq_true h2]) (joins_yes x y)
    · exact Ev.congr (fun k => by unfold interleavelaw12_PackJoins.f; rw [if_neg h, decide_eq_false h2]) (joins_no x y hX hY (by omega) (by omega))
end Go.Proofs.Ytkanlkgmiednfaa.Pure
