/- BlockTells holds: out of its plain statement and the walk over the program's text. No condition. -/
import Derived.Test.YtnmmkgagbfniiaaRows
import Derived.Test.YtnmmkgagbfniiaaFtab
import Derived.Test.YtnmmkgagbfniiaaPlainBlockTells
import Derived.WalkKit
import Derived.ProofKit
import Derived.OpenShut
import Derived.ShutString
import Derived.ChangeOld
import Derived.Below
import Derived.SizedLaws
import Derived.Test.YtnmmkgagbfniiaaWSized
namespace Go.Proofs.Ytnmmkgagbfniiaa.blockTells
open Go.ChangeShapes Go.WideShapes Go.ChangeAt Go.RowKit Go.Proofs.Ytnmmkgagbfniiaa.OpenKd Go.Proofs.Ytnmmkgagbfniiaa.A Go.Proofs.YtnmmkgagbfniiaaW.PrintWords
open Go.ChangeMaps (open_string shut_string)
set_option linter.unusedVariables false
theorem own : ownKnob Try.prog.godebug = none := by kernel_rfl
theorem laidOut : laidOutB Try.prog = true := by kernel_rfl
set_option maxHeartbeats 1000000 in
set_option maxRecDepth 100000 in
theorem lifted (os : Os) (started : os.Started) (H : Type) (enc : TypeId × Value → H) :
    ReturnsInHanded {} Try.checked os 5 .any (Rows.blockTellsSpec.pre6 enc Try.prog Try.f5 Rows.blockTellsRow.domain false) (Rows.blockTellsSpec.post enc Try.prog Try.f5 false true false false) := by
  refine returnsInHanded_of_change_sized (C := Try.checked) own started (by kernel_rfl) Try.func5
    (ChangeSpec.witness6 (enc := enc) (C := Try.checked) false ⟨#[], #[.agg #[.int .i64 0, .int .i64 0, .slice none 0 0]], []⟩ 8 (by kernel_rfl) (by kernel_rfl) (by kernel_rfl) (by kernel_rfl)) ?_
  intro W base args ds gs before hval0 hW hcnd hsz0 _
  have hsz : (DataW.weightsEach Try.prog (Try.f5.params.toList ++ Rows.blockTellsSpec.plain.varTypes Try.prog) (ds ++ gs)).all (· ≤ reachBytes) = true := hsz0
  have hval : ∀ (j : Nat) t v, Try.f5.params[j]? = some t → args[j]? = some v → Value.okWide Try.prog W .any base t v := hval0
  have hW' := hW
  obtain ⟨p, q, hA0, hV, rfl, hfz, hnd⟩ := hW
  have hA : DataW.TrodAll enc Try.prog W 0 (fun _ => true) true Try.f5.params.toList args.toList ds p := hA0
  rw [Try.params5] at hA hval hsz
  obtain ⟨v0, vs0, d0, ds0, p0, q0, hargs, rfl, rfl, h0, r0⟩ := trodAll_cons hA
  obtain ⟨rfl, rfl, rfl⟩ := trodAll_nil r0
  obtain rfl : args = #[v0] := by cases args; simp_all
  obtain ⟨rfl, rfl⟩ := trodVars_none hV
  have k0 := h0
  have lt0 : ∀ x ∈ p0, x.block < W.heap.size := by obtain ⟨m, hm⟩ := k0; exact DataW.trod_lt m _ _ _ hm
  have lw0 : Light Try.prog 42 d0 := light_each hsz (j := 0) (t := 42) rfl rfl
  obtain ⟨f0, e0⟩ := h0
  obtain ⟨y0, hk0, hj0⟩ := opens42 _ _ _ _ _ _ e0 lw0
  obtain ⟨A0_2, c0_2, hc0, l0_2, g0_2⟩ := k42_open hk0
  obtain rfl := agg_of_cells hc0
  obtain ⟨k, hp⟩ := Pure.BlockTells y0 hj0
  clear hA0 hval0 hsz0 hsz
  refine (interleavelaw13_BlockTells.calls k y0.f0 y0.f1 A0_2 c0_2 y0.f2 true W g0_2 l0_2 hp).mono fun e W' ⟨he, bel0⟩ => ?_
  have bel : Below W.heap.size W W' := bel0
  subst he
  exact ⟨_, rfl, _, _, _, [], _, [], hW', trodAll_mk1 (shut_bool Try.underlying4 _), (trodAll_cons_mk (Below.trod laidOut (by kernel_rfl) (of_decide_eq_true (by kernel_rfl)) k0 bel lt0) trodAll_mk0), rfl, bel.frame _, fun h => by cases h⟩
set_option maxHeartbeats 1000000 in
set_option maxRecDepth 100000 in
theorem closedF : joinedFacts Try.prog 5 Try.f5 Rows.blockTellsSpec Rows.blockTellsRow = true := by
  unfold joinedFacts
  simp only [Bool.and_eq_true]
  exact ⟨⟨⟨⟨⟨⟨⟨⟨⟨⟨⟨⟨⟨⟨⟨⟨⟨⟨⟨⟨⟨⟨⟨⟨⟨⟨⟨⟨⟨⟨⟨(by as_aux_lemma => kernel_rfl), (by as_aux_lemma => kernel_rfl)⟩, (by as_aux_lemma => kernel_rfl)⟩, (by as_aux_lemma => kernel_rfl)⟩, (by as_aux_lemma => kernel_rfl)⟩, (by as_aux_lemma => kernel_rfl)⟩, (by as_aux_lemma => kernel_rfl)⟩, (by as_aux_lemma => kernel_rfl)⟩, (by as_aux_lemma => kernel_rfl)⟩, (by rw [Ftab.inPlace_eq Ftab.size Ftab.rows]; exact (by as_aux_lemma => kernel_rfl))⟩, (by rw [Ftab.unfollowed_eq Ftab.size Ftab.rows]; exact (by as_aux_lemma => kernel_rfl))⟩, (by rw [Ftab.recurses_eq Ftab.size Ftab.rows]; exact (by as_aux_lemma => kernel_rfl))⟩, (by rw [Ftab.varsNamed_none Ftab.size Ftab.rows _ (by as_aux_lemma => kernel_rfl)]; exact (by as_aux_lemma => kernel_rfl))⟩, (by as_aux_lemma => kernel_rfl)⟩, (by as_aux_lemma => kernel_rfl)⟩, (by as_aux_lemma => kernel_rfl)⟩, (by as_aux_lemma => kernel_rfl)⟩, (by as_aux_lemma => kernel_rfl)⟩, (by as_aux_lemma => kernel_rfl)⟩, (by as_aux_lemma => kernel_rfl)⟩, (by as_aux_lemma => kernel_rfl)⟩, (by as_aux_lemma => kernel_rfl)⟩, (by as_aux_lemma => kernel_rfl)⟩, (by as_aux_lemma => kernel_rfl)⟩, (by as_aux_lemma => kernel_rfl)⟩, Ftab.mayEnter⟩, (by rw [Ftab.liftsFinal]; exact (by as_aux_lemma => kernel_rfl))⟩, (by rw [Ftab.make_]; exact (by as_aux_lemma => kernel_rfl))⟩, (by as_aux_lemma => kernel_rfl)⟩, (by as_aux_lemma => kernel_rfl)⟩, (by as_aux_lemma => kernel_rfl)⟩, (by as_aux_lemma => kernel_rfl)⟩
theorem over : Rows.blockTellsRow.holds Try.pinned (OpenSpec.ofChange Rows.blockTellsSpec) :=
  OpenClaim.holds_of_wide 5 Try.f5 rfl rfl rfl rfl rfl rfl rfl ⟨rfl, rfl, rfl, rfl, rfl⟩ rfl rfl rfl rfl rfl (by as_aux_lemma => kernel_rfl) Try.func5 closedF
    (of_decide_eq_true (by as_aux_lemma => kernel_rfl)) (by unfold Func.isWrapper; first | (rw [if_pos (by decide +kernel)]; kernel_rfl) | (rw [if_neg (by decide +kernel)]; exact ⟨rfl, rfl⟩))
    (fun os started H enc _ => lifted os started H enc)
theorem proved : Rows.BlockTellsSaid := over
#print axioms proved
end Go.Proofs.Ytnmmkgagbfniiaa.blockTells
namespace Go.Proofs.Ytnmmkgagbfniiaa
/-- The row, under a short name, for the claim. -/
theorem blockTells_holds : Rows.BlockTellsSaid := blockTells.proved
end Go.Proofs.Ytnmmkgagbfniiaa
