/- EventTells holds: out of its plain statement and the walk over the program's text. No condition. -/
import Derived.Test.YtkanlkgmiednfaaRows
import Derived.Test.YtkanlkgmiednfaaFtab
import Derived.Test.YtkanlkgmiednfaaAxOpens
import Derived.Test.YtkanlkgmiednfaaPureEventTells
import Derived.Test.YtkanlkgmiednfaaFtab
import Derived.WalkKit
import Derived.ProofKit
import Derived.OpenShut
import Derived.ShutString
import Derived.ChangeOld
import Derived.Below
import Derived.SizedLaws
import Derived.Test.YtkanlkgmiednfaaWSized
namespace Go.Proofs.Ytkanlkgmiednfaa.eventTells
open Go.ChangeShapes Go.WideShapes Go.ChangeAt Go.RowKit Go.Proofs.Ytkanlkgmiednfaa.OpenKd Go.Proofs.Ytkanlkgmiednfaa.A Go.Proofs.YtkanlkgmiednfaaW.PrintWords
open Go.ChangeMaps (open_string shut_string)
set_option linter.unusedVariables false
theorem own : ownKnob Try.prog.godebug = none := by kernel_rfl
theorem laidOut : laidOutB Try.prog = true := by kernel_rfl
set_option maxHeartbeats 1000000 in
set_option maxRecDepth 100000 in
theorem lifted (os : Os) (started : os.Started) (H : Type) (enc : TypeId × Value → H) :
    ReturnsInHanded {} Try.checked os 6 .any (Rows.eventTellsSpec.pre6 enc Try.prog Try.f6 Rows.eventTellsRow.domain false) (Rows.eventTellsSpec.post enc Try.prog Try.f6 false true false false) := by
  refine returnsInHanded_of_change_sized (C := Try.checked) own started (by kernel_rfl) Try.func6
    (ChangeSpec.witness6 (enc := enc) (C := Try.checked) false ⟨#[], #[.slice none 0 0, .agg #[.int .i64 0, .int .i64 0, .int .i64 0, .int .i64 0, .int .i64 0, .int .i64 0, .slice none 0 0, .slice none 0 0], .int .i64 0], []⟩ 8 (by kernel_rfl) (by kernel_rfl) (by kernel_rfl) (by kernel_rfl)) ?_
  intro W base args ds gs before hval0 hW hcnd hsz0 _
  have hsz : (DataW.weightsEach Try.prog (Try.f6.params.toList ++ Rows.eventTellsSpec.plain.varTypes Try.prog) (ds ++ gs)).all (· ≤ reachBytes) = true := hsz0
  have hval : ∀ (j : Nat) t v, Try.f6.params[j]? = some t → args[j]? = some v → Value.okWide Try.prog W .any base t v := hval0
  have hW' := hW
  obtain ⟨p, q, hA0, hV, rfl, hfz, hnd⟩ := hW
  have hA : DataW.TrodAll enc Try.prog W 0 (fun _ => true) true Try.f6.params.toList args.toList ds p := hA0
  rw [Try.params6] at hA hval hsz
  obtain ⟨v0, vs0, d0, ds0, p0, q0, hargs, rfl, rfl, h0, r0⟩ := trodAll_cons hA
  obtain ⟨v1, vs1, d1, ds1, p1, q1, rfl, rfl, rfl, h1, r1⟩ := trodAll_cons r0
  obtain ⟨v2, vs2, d2, ds2, p2, q2, rfl, rfl, rfl, h2, r2⟩ := trodAll_cons r1
  obtain ⟨rfl, rfl, rfl⟩ := trodAll_nil r2
  obtain rfl : args = #[v0, v1, v2] := by cases args; simp_all
  obtain ⟨rfl, rfl⟩ := trodVars_none hV
  have k0 := h0
  have lt0 : ∀ x ∈ p0, x.block < W.heap.size := by obtain ⟨m, hm⟩ := k0; exact DataW.trod_lt m _ _ _ hm
  have lw0 : Light Try.prog 22 d0 := light_each hsz (j := 0) (t := 22) rfl rfl
  obtain ⟨b0, n0, m0, rfl⟩ := okWide_slice Try.underlying22 (hval 0 22 v0 rfl rfl)
  obtain ⟨f0, e0⟩ := h0
  obtain ⟨y0, hk0, hj0⟩ := (opens_slice Try.underlying22 (opens_int Try.underlying5) (by kernel_rfl) (by kernel_rfl)) _ _ _ _ _ _ e0 lw0
  obtain ⟨A0, c0, hc0, hl0, hC0⟩ := hk0
  obtain ⟨rfl, rfl, rfl⟩ := slice_of_cells hc0
  have k1 := h1
  have lt1 : ∀ x ∈ p1, x.block < W.heap.size := by obtain ⟨m, hm⟩ := k1; exact DataW.trod_lt m _ _ _ hm
  have lw1 : Light Try.prog 35 d1 := light_each hsz (j := 1) (t := 35) rfl rfl
  obtain ⟨f1, e1⟩ := h1
  obtain ⟨y1, hk1, hj1⟩ := opens35 _ _ _ _ _ _ e1 lw1
  obtain ⟨A1_6, c1_6, A1_7, c1_7, hc1, l1_6, g1_6, l1_7, g1_7⟩ := k35_open hk1
  obtain rfl := agg_of_cells hc1
  obtain ⟨a2, rfl, rfl, rfl, w2⟩ := open_int Try.underlying3 (hval 2 3 v2 rfl rfl) h2
  obtain ⟨k, hp⟩ := Pure.EventTells y0 y1 a2 hj0 hj1 w2
  clear hA0 hval0 hsz0 hsz
  refine (interleavelaw11_EventTells.calls k _ _ y0 y1.f0 y1.f1.f0 y1.f1.f1 y1.f1.f2 y1.f1.f3 y1.f1.f4 A1_6 c1_6 y1.f1.f5 A1_7 c1_7 y1.f1.f6 a2 true W hC0 hl0 g1_6 l1_6 g1_7 l1_7 hp).mono fun e W' ⟨he, bel0⟩ => ?_
  have bel : Below W.heap.size W W' := bel0
  subst he
  exact ⟨_, rfl, _, _, _, [], _, [], hW', trodAll_mk1 (shut_bool Try.underlying4 _), (trodAll_cons_mk (Below.trod laidOut (by kernel_rfl) (of_decide_eq_true (by kernel_rfl)) k0 bel lt0) (trodAll_cons_mk (Below.trod laidOut (by kernel_rfl) (of_decide_eq_true (by kernel_rfl)) k1 bel lt1) (trodAll_cons_mk (shut_int Try.underlying3 w2) trodAll_mk0))), rfl, bel.frame _, fun h => by cases h⟩
set_option maxHeartbeats 1000000 in
set_option maxRecDepth 100000 in
theorem closedF : joinedFacts Try.prog 6 Try.f6 Rows.eventTellsSpec Rows.eventTellsRow = true := by
  unfold joinedFacts
  simp only [Bool.and_eq_true]
  exact ⟨⟨⟨⟨⟨⟨⟨⟨⟨⟨⟨⟨⟨⟨⟨⟨⟨⟨⟨⟨⟨⟨⟨⟨⟨⟨⟨⟨⟨⟨⟨(by as_aux_lemma => kernel_rfl), (by as_aux_lemma => kernel_rfl)⟩, (by as_aux_lemma => kernel_rfl)⟩, (by as_aux_lemma => kernel_rfl)⟩, (by as_aux_lemma => kernel_rfl)⟩, (by as_aux_lemma => kernel_rfl)⟩, (by as_aux_lemma => kernel_rfl)⟩, (by as_aux_lemma => kernel_rfl)⟩, (by as_aux_lemma => kernel_rfl)⟩, (by rw [Ftab.inPlace_eq Ftab.size Ftab.rows]; exact (by as_aux_lemma => kernel_rfl))⟩, (by rw [Ftab.unfollowed_eq Ftab.size Ftab.rows]; exact (by as_aux_lemma => kernel_rfl))⟩, (by rw [Ftab.recurses_eq Ftab.size Ftab.rows]; exact (by as_aux_lemma => kernel_rfl))⟩, (by rw [Ftab.varsNamed_none Ftab.size Ftab.rows _ (by as_aux_lemma => kernel_rfl)]; exact (by as_aux_lemma => kernel_rfl))⟩, (by as_aux_lemma => kernel_rfl)⟩, (by as_aux_lemma => kernel_rfl)⟩, (by as_aux_lemma => kernel_rfl)⟩, (by as_aux_lemma => kernel_rfl)⟩, (by as_aux_lemma => kernel_rfl)⟩, (by as_aux_lemma => kernel_rfl)⟩, (by as_aux_lemma => kernel_rfl)⟩, (by as_aux_lemma => kernel_rfl)⟩, (by as_aux_lemma => kernel_rfl)⟩, (by as_aux_lemma => kernel_rfl)⟩, (by as_aux_lemma => kernel_rfl)⟩, (by as_aux_lemma => kernel_rfl)⟩, Ftab.mayEnter⟩, (by rw [Ftab.liftsFinal]; exact (by as_aux_lemma => kernel_rfl))⟩, (by rw [Ftab.make_]; exact (by as_aux_lemma => kernel_rfl))⟩, (by as_aux_lemma => kernel_rfl)⟩, (by as_aux_lemma => kernel_rfl)⟩, (by as_aux_lemma => kernel_rfl)⟩, (by as_aux_lemma => kernel_rfl)⟩
theorem over : Rows.eventTellsRow.holds Try.pinned (OpenSpec.ofChange Rows.eventTellsSpec) :=
  OpenClaim.holds_of_wide 6 Try.f6 rfl rfl rfl rfl rfl rfl rfl ⟨rfl, rfl, rfl, rfl, rfl⟩ rfl rfl rfl rfl rfl (by as_aux_lemma => kernel_rfl) Try.func6 closedF
    (of_decide_eq_true (by as_aux_lemma => kernel_rfl)) (by unfold Func.isWrapper; first | (rw [if_pos (by decide +kernel)]; kernel_rfl) | (rw [if_neg (by decide +kernel)]; exact ⟨rfl, rfl⟩))
    (fun os started H enc _ => lifted os started H enc)
theorem proved : Rows.EventTellsSaid := over
#print axioms proved
end Go.Proofs.Ytkanlkgmiednfaa.eventTells
namespace Go.Proofs.Ytkanlkgmiednfaa
/-- The row, under a short name, for the claim. -/
theorem eventTells_holds : Rows.EventTellsSaid := eventTells.proved
end Go.Proofs.Ytkanlkgmiednfaa
