/- MRecordTells15: the statement RecordTells holds. No condition beyond what each fact names. -/
import Derived.Test.YtnmmkgagbfniiaaRows
import Derived.Test.YtnmmkgagbfniiaaMRecordTells1
import Derived.Test.YtnmmkgagbfniiaaMRecordTells4
import Derived.Test.YtnmmkgagbfniiaaMRecordTells14
import Derived.WalkKit
import Derived.ProofKit
import Derived.OpenShut
import Derived.ShutString
import Derived.ChangeOld
import Derived.Below
import Derived.SizedLaws
import Derived.ChangeSlices
section
namespace Go.Proofs.Ytnmmkgagbfniiaa.recordTells
open Go.ChangeShapes Go.WideShapes Go.ChangeAt Go.RowKit Go.Proofs.Ytnmmkgagbfniiaa.OpenKd Go.Proofs.Ytnmmkgagbfniiaa.A Go.Proofs.YtnmmkgagbfniiaaW.PrintWords
open Go.ChangeMaps (open_string shut_string)
set_option linter.unusedVariables false
theorem own : ownKnob Try.prog.godebug = none := by kernel_rfl
theorem laidOut : laidOutB Try.prog = true := by kernel_rfl
set_option maxHeartbeats 1000000 in
set_option maxRecDepth 100000 in
theorem lifted (os : Os) (started : os.Started) (H : Type) (enc : TypeId × Value → H) :
    ReturnsInHanded {} Try.checked os 6 .any (Rows.recordTellsSpec.pre6 enc Try.prog Try.f6 Rows.recordTellsRow.domain false) (Rows.recordTellsSpec.post enc Try.prog Try.f6 false true false false) := by
  refine returnsInHanded_of_change_sized (C := Try.checked) own started (by kernel_rfl) Try.func6
    (ChangeSpec.witness6 (enc := enc) (C := Try.checked) false ⟨#[], #[.slice none 0 0, .int .i64 0, .agg #[.int .i64 0, .slice none 0 0, .int .i64 0, .slice none 0 0]], []⟩ 8 (by kernel_rfl) (by kernel_rfl) (by kernel_rfl) (by kernel_rfl)) ?_
  intro W base args ds gs before hval0 hW hcnd hsz0 _
  have hsz : (DataW.weightsEach Try.prog (Try.f6.params.toList ++ Rows.recordTellsSpec.plain.varTypes Try.prog) (ds ++ gs)).all (· ≤ reachBytes) = true := hsz0
  have hval : ∀ (j : Nat) t v, Try.f6.params[j]? = some t → args[j]? = some v → Value.okWide Try.prog W .any base t v := hval0
  have hW' := hW
  obtain ⟨p, q, hA0, hV, rfl, hfz, hnd⟩ := hW
  have hA : DataW.TrodAll enc Try.prog W 0 (fun _ => true) true Try.f6.params.toList args.toList ds p := hA0
  rw [Try.params6] at hA hval hsz
  obtain ⟨v0, vs0, d0, ds0, p0, q0, hargs, rfl, rfl, h0, r0⟩ := trodAll_cons hA
  obtain ⟨v1, vs1, d1, ds1, p1, q1, rfl, rfl, rfl, h1, r1⟩ := trodAll_cons r0
  obtain ⟨v2, vs2, d2, ds2, p2, q2, rfl, rfl, rfl, h2, r2⟩ := trodAll_cons r1
  obtain ⟨rfl, rfl, rfl⟩ := trodAll_nil r2
  obtain rfl : args = #[v0, v1, v2] := by cases args; simp_all
  obtain ⟨rfl, rfl⟩ := trodVars_none hV
  have k0 := h0
  have lt0 : ∀ x ∈ p0, x.block < W.heap.size := by obtain ⟨m, hm⟩ := k0; exact DataW.trod_lt m _ _ _ hm
  have lw0 : Light Try.prog 46 d0 := light_each hsz (j := 0) (t := 46) rfl rfl
  obtain ⟨b0, n0, m0, rfl⟩ := okWide_slice Try.underlying46 (hval 0 46 v0 rfl rfl)
  obtain ⟨f0, e0⟩ := h0
  obtain ⟨y0, hk0, hj0⟩ := (opens_slice Try.underlying46 opens24 (by kernel_rfl) (by kernel_rfl)) _ _ _ _ _ _ e0 lw0
  obtain ⟨A0, c0, hc0, hl0, hC0⟩ := hk0
  obtain ⟨rfl, rfl, rfl⟩ := slice_of_cells hc0
  obtain ⟨a1, rfl, rfl, rfl, w1⟩ := open_int Try.underlying3 (hval 1 3 v1 rfl rfl) h1
  have k2 := h2
  have lt2 : ∀ x ∈ p2, x.block < W.heap.size := by obtain ⟨m, hm⟩ := k2; exact DataW.trod_lt m _ _ _ hm
  have lw2 : Light Try.prog 49 d2 := light_each hsz (j := 2) (t := 49) rfl rfl
  obtain ⟨f2, e2⟩ := h2
  obtain ⟨y2, hk2, hj2⟩ := opens49 _ _ _ _ _ _ e2 lw2
  obtain ⟨A2_1, c2_1, A2_3, c2_3, hc2, l2_1, g2_1, l2_3, g2_3⟩ := k49_open hk2
  obtain rfl := agg_of_cells hc2
  obtain ⟨k, hp⟩ := Pure.RecordTells y0 a1 y2 hj0 w1 hj2
  clear hA0 hval0 hsz0 hsz
  refine (l14_RecordTells.calls k _ _ y0 a1 y2.f0 A2_1 c2_1 y2.f1 y2.f2 A2_3 c2_3 y2.f3 true W hC0 hl0 g2_1 l2_1 g2_3 l2_3 hp).mono fun e W' ⟨he, bel0⟩ => ?_
  have bel : Below W.heap.size W W' := bel0
  subst he
  exact ⟨_, rfl, _, _, _, [], _, [], hW', trodAll_mk1 (shut_bool Try.underlying4 _), (trodAll_cons_mk (Below.trod laidOut (by kernel_rfl) (of_decide_eq_true (by kernel_rfl)) k0 bel lt0) (trodAll_cons_mk (shut_int Try.underlying3 w1) (trodAll_cons_mk (Below.trod laidOut (by kernel_rfl) (of_decide_eq_true (by kernel_rfl)) k2 bel lt2) trodAll_mk0))), rfl, bel.frame _, fun h => by cases h⟩
set_option maxHeartbeats 1000000 in
set_option maxRecDepth 100000 in
theorem closedF : joinedFacts Try.prog 6 Try.f6 Rows.recordTellsSpec Rows.recordTellsRow = true := by
  unfold joinedFacts
  simp only [Bool.and_eq_true]
  exact ⟨⟨⟨⟨⟨⟨⟨⟨⟨⟨⟨⟨⟨⟨⟨⟨⟨⟨⟨⟨⟨⟨⟨⟨⟨⟨⟨⟨⟨⟨⟨(by as_aux_lemma => kernel_rfl), (by as_aux_lemma => kernel_rfl)⟩, (by as_aux_lemma => kernel_rfl)⟩, (by as_aux_lemma => kernel_rfl)⟩, (by as_aux_lemma => kernel_rfl)⟩, (by as_aux_lemma => kernel_rfl)⟩, (by as_aux_lemma => kernel_rfl)⟩, (by as_aux_lemma => kernel_rfl)⟩, (by as_aux_lemma => kernel_rfl)⟩, (by rw [Ftab.inPlace_eq Ftab.size Ftab.rows]; exact (by as_aux_lemma => kernel_rfl))⟩, (by rw [Ftab.unfollowed_eq Ftab.size Ftab.rows]; exact (by as_aux_lemma => kernel_rfl))⟩, (by rw [Ftab.recurses_eq Ftab.size Ftab.rows]; exact (by as_aux_lemma => kernel_rfl))⟩, (by rw [Ftab.varsNamed_none Ftab.size Ftab.rows _ (by as_aux_lemma => kernel_rfl)]; exact (by as_aux_lemma => kernel_rfl))⟩, (by as_aux_lemma => kernel_rfl)⟩, (by as_aux_lemma => kernel_rfl)⟩, (by as_aux_lemma => kernel_rfl)⟩, (by as_aux_lemma => kernel_rfl)⟩, (by as_aux_lemma => kernel_rfl)⟩, (by as_aux_lemma => kernel_rfl)⟩, (by as_aux_lemma => kernel_rfl)⟩, (by as_aux_lemma => kernel_rfl)⟩, (by as_aux_lemma => kernel_rfl)⟩, (by as_aux_lemma => kernel_rfl)⟩, (by as_aux_lemma => kernel_rfl)⟩, (by as_aux_lemma => kernel_rfl)⟩, Ftab.mayEnter⟩, (by rw [Ftab.liftsFinal]; exact (by as_aux_lemma => kernel_rfl))⟩, (by rw [Ftab.make_]; exact (by as_aux_lemma => kernel_rfl))⟩, (by as_aux_lemma => kernel_rfl)⟩, (by as_aux_lemma => kernel_rfl)⟩, (by as_aux_lemma => kernel_rfl)⟩, (by as_aux_lemma => kernel_rfl)⟩
theorem over : Rows.recordTellsRow.holds Try.pinned (OpenSpec.ofChange Rows.recordTellsSpec) :=
  OpenClaim.holds_of_wide 6 Try.f6 rfl rfl rfl rfl rfl rfl rfl ⟨rfl, rfl, rfl, rfl, rfl⟩ rfl rfl rfl rfl rfl (by as_aux_lemma => kernel_rfl) Try.func6 closedF
    (of_decide_eq_true (by as_aux_lemma => kernel_rfl)) (by unfold Func.isWrapper; first | (rw [if_pos (by decide +kernel)]; kernel_rfl) | (rw [if_neg (by decide +kernel)]; exact ⟨rfl, rfl⟩))
    (fun os started H enc _ => lifted os started H enc)
theorem proved : Rows.RecordTellsSaid := over
#print axioms proved
end Go.Proofs.Ytnmmkgagbfniiaa.recordTells
namespace Go.Proofs.Ytnmmkgagbfniiaa
theorem recordTells_holds : Rows.RecordTellsSaid := recordTells.proved
end Go.Proofs.Ytnmmkgagbfniiaa
end
