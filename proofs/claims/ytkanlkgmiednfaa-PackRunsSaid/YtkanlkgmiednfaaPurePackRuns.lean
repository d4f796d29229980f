/- What is packed of a run of equal bytes: the plain side of the statement PackRuns. No condition. -/
import Derived.Test.YtkanlkgmiednfaaPlRuns
import Derived.Test.YtkanlkgmiednfaaAxinterleavelaw12PackRuns
namespace Go.Proofs.Ytkanlkgmiednfaa.Pure
open Go.RowKit Go.Proofs.YtkanlkgmiednfaaW.PrintWords Go.Proofs.YtkanlkgmiednfaaW.PrintMore Go.Proofs.Ytkanlkgmiednfaa.A Go.Proofs.Ytkanlkgmiednfaa.Pl
set_option linter.unusedVariables false
theorem wrapN {n : Nat} {x : Int} (h : x = (n : Int)) (hn : n ≤ 1000000000000000) : wrap64 x = (n : Int) := by rw [h, wrap64_id (by omega) (by omega)]
theorem fill (x K : Int) (n : Nat) (hn : n ≤ 100000) {r : Bool} (h : Ev (fun k => interleavelaw12_PackRuns.l1 k K (List.replicate n x) ([0, x])) r) : ∀ m j, j + m = n → Ev (fun k => interleavelaw12_PackRuns.l0 k x K (List.replicate j x ++ List.replicate m 0) (j : Int)) r := by
  intro m
  induction m with
  | zero =>
    intro j hj
    obtain rfl : j = n := by omega
    refine Ev.step (fun k => ?_) h
    simp only [interleavelaw12_PackRuns.l0]
    rw [if_neg (by simp)]
    simp
  | succ m ih =>
    intro j hj
    refine Ev.step (fun k => ?_) (ih (j + 1) (by omega))
    simp only [interleavelaw12_PackRuns.l0]
    rw [if_pos (by simp; omega), if_pos (by omega), wrapN (n := j + 1) (by omega) (by omega), Int.toNat_natCast]
    congr 1
    rw [List.set_append_right _ _ (by simp), List.length_replicate, Nat.sub_self, List.replicate_succ, List.set_cons_zero, List.replicate_succ', List.append_assoc]
    rfl
theorem j3_big (x : Int) (n : Nat) (acc : List Int) (h1 : 3 < n) (h2 : n ≤ 100000) (h : packS (List.replicate n x) = acc) (hl : acc.length ≤ 1000000) : Ev (fun k => interleavelaw12_PackRuns.j3 k (List.replicate n x) acc) true := by
  have hp := pack_f (List.replicate n x) (by simp; omega)
  rw [h] at hp
  refine Ev.step (fun k => by simp only [interleavelaw12_PackRuns.j3]; rw [if_neg (by simp; omega)]) (Ev.bind hp ?_)
  exact Ev.bind (same_yes acc (by omega)) (Ev.now true)
theorem j3_small (x : Int) (k : Nat) (acc : List Int) (h1 : k + 1 ≤ 3) : Ev (fun q => interleavelaw12_PackRuns.j3 q (List.replicate (k + 1) x) acc) true := by
  have hp := pack_f (List.replicate (k + 1) x) (by simp; omega)
  rw [packS_run, if_pos h1] at hp
  have e : wrap64 (((List.replicate (k + 1) x).length : Int) - 1) % 256 = ((k : Nat) : Int) := by rw [List.length_replicate, wrapN (n := k) (by omega) (by omega)]; omega
  have hE := Aside0.mk e
  clear e
  refine Ev.step (fun q => by simp only [interleavelaw12_PackRuns.j3]; rw [if_pos (by simp; omega), Option.bind_some, if_pos (by simp; omega), hE.out]) (Ev.bind hp ?_)
  exact Ev.bind (same_yes (((k : Nat) : Int) :: List.replicate (k + 1) x) (by simp; omega)) (Ev.now true)
theorem runs_length (x : Int) : ∀ f k, (runs x f k).length ≤ 3 * f := by
  intro f
  induction f with
  | zero => intro k; simp [runs]
  | succ f ih =>
    intro k
    rw [runs]
    split
    · have := ih (k - min k 130)
      simp only [List.length_append, List.length_cons, List.length_nil]
      omega
    · split
      · simp only [List.length_cons, List.length_replicate]
        omega
      · simp
theorem mn_nat (a : Nat) : mn (a : Int) 130 = ((min a 130 : Nat) : Int) := by unfold mn; split <;> omega
theorem big_loop (x : Int) (n : Nat) (hn : 3 < n) (hn2 : n ≤ 100000) : ∀ f k (acc : List Int), k < f → k ≤ n → acc.length + 3 * f ≤ 1000000 → Ev (fun q => interleavelaw12_PackRuns.j3 q (List.replicate n x) (acc ++ runs x f k)) true → Ev (fun q => interleavelaw12_PackRuns.l1 q (k : Int) (List.replicate n x) acc) true := by
  intro f
  induction f with
  | zero => intro k acc h; omega
  | succ f ih =>
    intro k acc hf hk hl h
    rw [runs] at h
    by_cases c : 3 ≤ k
    · rw [if_pos c, ← List.append_assoc] at h
      refine Ev.step (fun q => ?_) (ih (k - min k 130) _ (by omega) (by omega) (by simp; omega) h)
      simp only [interleavelaw12_PackRuns.l1]
      rw [if_pos (by omega), mn_nat, wrapN (x := ((min k 130 : Nat) : Int) + 125) (n := min k 130 + 125) (by omega) (by omega), wrapN (x := (k : Int) - ((min k 130 : Nat) : Int)) (n := k - min k 130) (by omega) (by omega), show (((min k 130 + 125 : Nat)) : Int) % 256 = ((min k 130 + 125 : Nat) : Int) by omega, Option.bind_some, if_pos (by simp; omega)]
    · rw [if_neg c] at h
      by_cases c1 : 0 < k
      · rw [if_pos c1] at h
        refine Ev.step (f := fun q => interleavelaw12_PackRuns.j2 q (k : Int) (List.replicate n x) acc true) (fun q => ?_) (Ev.step (fun q => ?_) h)
        · simp only [interleavelaw12_PackRuns.l1]
          rw [if_neg (by omega), if_pos (by omega), decide_eq_true (by simp; omega)]
        · simp only [interleavelaw12_PackRuns.j2]
          rw [if_pos trivial, if_pos (by omega), wrapN (x := (k : Int) - 1) (n := k - 1) (by omega) (by omega), Option.bind_some, if_pos (by omega), if_pos (by simp; omega), Option.bind_some, if_pos (by simp; omega), show (((k - 1 : Nat)) : Int) % 256 = ((k - 1 : Nat) : Int) by omega, Int.toNat_natCast, List.take_replicate, Nat.min_eq_left hk, List.append_assoc]
          rfl
      · rw [if_neg c1, List.append_nil] at h
        refine Ev.step (f := fun q => interleavelaw12_PackRuns.j2 q (k : Int) (List.replicate n x) acc false) (fun q => ?_) (Ev.step (fun q => ?_) h)
        · simp only [interleavelaw12_PackRuns.l1]
          rw [if_neg (by omega), if_neg (by omega)]
        · simp only [interleavelaw12_PackRuns.j2]
          rw [if_neg (by simp)]
theorem small_loop (x : Int) (k : Nat) (acc : List Int) (h1 : k + 1 ≤ 3) : Ev (fun q => interleavelaw12_PackRuns.l1 q (k : Int) (List.replicate (k + 1) x) acc) true := by
  refine Ev.step (f := fun q => interleavelaw12_PackRuns.j2 q (k : Int) (List.replicate (k + 1) x) acc false) (fun q => ?_) (Ev.step (fun q => ?_) (j3_small x k acc h1))
  · simp only [interleavelaw12_PackRuns.l1]
    rw [if_neg (by omega)]
    by_cases c : (k : Int) > 0
    · rw [if_pos c, decide_eq_false (by simp; omega)]
    · rw [if_neg c]
  · simp only [interleavelaw12_PackRuns.j2]
    rw [if_neg (by simp)]
theorem PackRuns : interleavelaw12_PackRuns.Pure := by
  intro x a hx ha
  have ha' : 0 ≤ a ∧ a < 65536 := by
    simp [Lit.wf, IntKind.min, IntKind.max, IntKind.signed, IntKind.bits] at ha
    omega
  obtain ⟨n, rfl⟩ := Int.eq_ofNat_of_zero_le ha'.1
  have e1 : Int.tmod (wrap64 (n : Int)) 2000 = ((n % 2000 : Nat) : Int) := by
    rw [wrap64_id (by omega) (by omega), Int.tmod_eq_emod_of_nonneg (by omega)]
    rfl
  have hK : n % 2000 < 2000 := Nat.mod_lt _ (by omega)
  generalize n % 2000 = K at e1 hK
  have e2 : wrap64 ((K : Int) + 1) = ((K + 1 : Nat) : Int) := wrapN (by omega) (by omega)
  refine Ev.rounds (Ev.congr (f := fun k => interleavelaw12_PackRuns.l0 k x (K : Int) (List.replicate (K + 1) 0) 0) (fun k => ?_) ?_)
  · unfold interleavelaw12_PackRuns.f
    rw [e1, e2, if_pos (by omega), if_pos (by omega), Int.toNat_natCast]
  · have h := fill x (K : Int) (K + 1) (by omega) (r := true) (by
      by_cases c : K + 1 ≤ 3
      · exact small_loop x K [0, x] c
      · refine big_loop x (K + 1) (by omega) (by omega) (K + 1) K [0, x] (by omega) (by omega) (by simp; omega) ?_
        have hr := runs_length x (K + 1) K
        exact j3_big x (K + 1) _ (by omega) (by omega) (by rw [packS_run, if_neg c]) (by simp; omega)) (K + 1) 0 (by omega)
    exact h
end Go.Proofs.Ytkanlkgmiednfaa.Pure
