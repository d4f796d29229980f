/- MEventSpoilt13: the statement EventSpoilt holds. No condition beyond what each fact names. -/
import Derived.Test.YtnmmkgagbfniiaaRows
import Derived.Test.YtnmmkgagbfniiaaMEventSpoilt1
import Derived.Test.YtnmmkgagbfniiaaMEventSpoilt3
import Derived.Test.YtnmmkgagbfniiaaMEventSpoilt12
import Derived.WalkKit
import Derived.ProofKit
import Derived.OpenShut
import Derived.ShutString
import Derived.ChangeOld
import Derived.Below
import Derived.SizedLaws
import Derived.ChangeSlices
namespace Go.Proofs.Ytnmmkgagbfniiaa.eventSpoilt
open Go.ChangeShapes Go.WideShapes Go.ChangeAt Go.RowKit Go.Proofs.Ytnmmkgagbfniiaa.OpenKd Go.Proofs.Ytnmmkgagbfniiaa.A Go.Proofs.YtnmmkgagbfniiaaW.PrintWords
open Go.ChangeMaps (open_string shut_string)
set_option linter.unusedVariables false
theorem own : ownKnob Try.prog.godebug = none := by kernel_rfl
theorem laidOut : laidOutB Try.prog = true := by kernel_rfl
set_option maxHeartbeats 1000000 in
set_option maxRecDepth 100000 in
theorem lifted (os : Os) (started : os.Started) (H : Type) (enc : TypeId × Value → H) :
    ReturnsInHanded {} Try.checked os 4 .any (Rows.eventSpoiltSpec.pre6 enc Try.prog Try.f4 Rows.eventSpoiltRow.domain false) (Rows.eventSpoiltSpec.post enc Try.prog Try.f4 false true false false) := by
  refine returnsInHanded_of_change_sized (C := Try.checked) own started (by kernel_rfl) Try.func4
    (ChangeSpec.witness6 (enc := enc) (C := Try.checked) false ⟨#[], #[.agg #[.int .i64 0, .int .i64 0, .int .i64 0, .int .i64 0, .int .i64 0, .int .i64 0, .slice none 0 0, .slice none 0 0], .int .i64 0, .int .u16 0, .int .u16 0, .int .u8 0], []⟩ 8 (by kernel_rfl) (by kernel_rfl) (by kernel_rfl) (by kernel_rfl)) ?_
  intro W base args ds gs before hval0 hW hcnd hsz0 _
  have hsz : (DataW.weightsEach Try.prog (Try.f4.params.toList ++ Rows.eventSpoiltSpec.plain.varTypes Try.prog) (ds ++ gs)).all (· ≤ reachBytes) = true := hsz0
  have hval : ∀ (j : Nat) t v, Try.f4.params[j]? = some t → args[j]? = some v → Value.okWide Try.prog W .any base t v := hval0
  have hW' := hW
  obtain ⟨p, q, hA0, hV, rfl, hfz, hnd⟩ := hW
  have hA : DataW.TrodAll enc Try.prog W 0 (fun _ => true) true Try.f4.params.toList args.toList ds p := hA0
  rw [Try.params4] at hA hval hsz
  obtain ⟨v0, vs0, d0, ds0, p0, q0, hargs, rfl, rfl, h0, r0⟩ := trodAll_cons hA
  obtain ⟨v1, vs1, d1, ds1, p1, q1, rfl, rfl, rfl, h1, r1⟩ := trodAll_cons r0
  obtain ⟨v2, vs2, d2, ds2, p2, q2, rfl, rfl, rfl, h2, r2⟩ := trodAll_cons r1
  obtain ⟨v3, vs3, d3, ds3, p3, q3, rfl, rfl, rfl, h3, r3⟩ := trodAll_cons r2
  obtain ⟨v4, vs4, d4, ds4, p4, q4, rfl, rfl, rfl, h4, r4⟩ := trodAll_cons r3
  obtain ⟨rfl, rfl, rfl⟩ := trodAll_nil r4
  obtain rfl : args = #[v0, v1, v2, v3, v4] := by cases args; simp_all
  obtain ⟨rfl, rfl⟩ := trodVars_none hV
  have k0 := h0
  have lt0 : ∀ x ∈ p0, x.block < W.heap.size := by obtain ⟨m, hm⟩ := k0; exact DataW.trod_lt m _ _ _ hm
  have lw0 : Light Try.prog 26 d0 := light_each hsz (j := 0) (t := 26) rfl rfl
  obtain ⟨f0, e0⟩ := h0
  obtain ⟨y0, hk0, hj0⟩ := opens26 _ _ _ _ _ _ e0 lw0
  obtain ⟨A0_6, c0_6, A0_7, c0_7, hc0, l0_6, g0_6, l0_7, g0_7⟩ := k26_open hk0
  obtain rfl := agg_of_cells hc0
  obtain ⟨a1, rfl, rfl, rfl, w1⟩ := open_int Try.underlying3 (hval 1 3 v1 rfl rfl) h1
  obtain ⟨a2, rfl, rfl, rfl, w2⟩ := open_int Try.underlying28 (hval 2 28 v2 rfl rfl) h2
  obtain ⟨a3, rfl, rfl, rfl, w3⟩ := open_int Try.underlying28 (hval 3 28 v3 rfl rfl) h3
  obtain ⟨a4, rfl, rfl, rfl, w4⟩ := open_int Try.underlying5 (hval 4 5 v4 rfl rfl) h4
  obtain ⟨k, hp⟩ := Pure.EventSpoilt y0 a1 a2 a3 a4 hj0 w1 w2 w3 w4
  clear hA0 hval0 hsz0 hsz
  refine (interleavelaw11_EventSpoilt.calls k y0.f0 y0.f1.f0 y0.f1.f1 y0.f1.f2 y0.f1.f3 y0.f1.f4 A0_6 c0_6 y0.f1.f5 A0_7 c0_7 y0.f1.f6 a1 a2 a3 a4 true W g0_6 l0_6 g0_7 l0_7 hp).mono fun e W' ⟨he, bel0⟩ => ?_
  have bel : Below W.heap.size W W' := bel0
  subst he
  exact ⟨_, rfl, _, _, _, [], _, [], hW', trodAll_mk1 (shut_bool Try.underlying4 _), (trodAll_cons_mk (Below.trod laidOut (by kernel_rfl) (of_decide_eq_true (by kernel_rfl)) k0 bel lt0) (trodAll_cons_mk (shut_int Try.underlying3 w1) (trodAll_cons_mk (shut_int Try.underlying28 w2) (trodAll_cons_mk (shut_int Try.underlying28 w3) (trodAll_cons_mk (shut_int Try.underlying5 w4) trodAll_mk0))))), rfl, bel.frame _, fun h => by cases h⟩
set_option maxHeartbeats 1000000 in
set_option maxRecDepth 100000 in
theorem closedF : joinedFacts Try.prog 4 Try.f4 Rows.eventSpoiltSpec Rows.eventSpoiltRow = true := by
  unfold joinedFacts
  simp only [Bool.and_eq_true]
  exact ⟨⟨⟨⟨⟨⟨⟨⟨⟨⟨⟨⟨⟨⟨⟨⟨⟨⟨⟨⟨⟨⟨⟨⟨⟨⟨⟨⟨⟨⟨⟨(by as_aux_lemma => kernel_rfl), (by as_aux_lemma => kernel_rfl)⟩, (by as_aux_lemma => kernel_rfl)⟩, (by as_aux_lemma => kernel_rfl)⟩, (by as_aux_lemma => kernel_rfl)⟩, (by as_aux_lemma => kernel_rfl)⟩, (by as_aux_lemma => kernel_rfl)⟩, (by as_aux_lemma => kernel_rfl)⟩, (by as_aux_lemma => kernel_rfl)⟩, (by rw [Ftab.inPlace_eq Ftab.size Ftab.rows]; exact (by as_aux_lemma => kernel_rfl))⟩, (by rw [Ftab.unfollowed_eq Ftab.size Ftab.rows]; exact (by as_aux_lemma => kernel_rfl))⟩, (by rw [Ftab.recurses_eq Ftab.size Ftab.rows]; exact (by as_aux_lemma => kernel_rfl))⟩, (by rw [Ftab.varsNamed_none Ftab.size Ftab.rows _ (by as_aux_lemma => kernel_rfl)]; exact (by as_aux_lemma => kernel_rfl))⟩, (by as_aux_lemma => kernel_rfl)⟩, (by as_aux_lemma => kernel_rfl)⟩, (by as_aux_lemma => kernel_rfl)⟩, (by as_aux_lemma => kernel_rfl)⟩, (by as_aux_lemma => kernel_rfl)⟩, (by as_aux_lemma => kernel_rfl)⟩, (by as_aux_lemma => kernel_rfl)⟩, (by as_aux_lemma => kernel_rfl)⟩, (by as_aux_lemma => kernel_rfl)⟩, (by as_aux_lemma => kernel_rfl)⟩, (by as_aux_lemma => kernel_rfl)⟩, (by as_aux_lemma => kernel_rfl)⟩, Ftab.mayEnter⟩, (by rw [Ftab.liftsFinal]; exact (by as_aux_lemma => kernel_rfl))⟩, (by rw [Ftab.make_]; exact (by as_aux_lemma => kernel_rfl))⟩, (by as_aux_lemma => kernel_rfl)⟩, (by as_aux_lemma => kernel_rfl)⟩, (by as_aux_lemma => kernel_rfl)⟩, (by as_aux_lemma => kernel_rfl)⟩
theorem over : Rows.eventSpoiltRow.holds Try.pinned (OpenSpec.ofChange Rows.eventSpoiltSpec) :=
  OpenClaim.holds_of_wide 4 Try.f4 rfl rfl rfl rfl rfl rfl rfl ⟨rfl, rfl, rfl, rfl, rfl⟩ rfl rfl rfl rfl rfl (by as_aux_lemma => kernel_rfl) Try.func4 closedF
    (of_decide_eq_true (by as_aux_lemma => kernel_rfl)) (by unfold Func.isWrapper; first | (rw [if_pos (by decide +kernel)]; kernel_rfl) | (rw [if_neg (by decide +kernel)]; exact ⟨rfl, rfl⟩))
    (fun os started H enc _ => lifted os started H enc)
theorem proved : Rows.EventSpoiltSaid := over
#print axioms proved
end Go.Proofs.Ytnmmkgagbfniiaa.eventSpoilt
namespace Go.Proofs.Ytnmmkgagbfniiaa
theorem eventSpoilt_holds : Rows.EventSpoiltSaid := eventSpoilt.proved
end Go.Proofs.Ytnmmkgagbfniiaa
