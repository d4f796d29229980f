/- The number of bytes of PutInt is the least n for which the number lies within 2^(7n-1) of zero, ten at the most: the plain side of the statement EventIntSizes. No condition. -/
import Derived.Test.YtkanlkgmiednfaaPlAwake
import Derived.Test.YtkanlkgmiednfaaAxeventPutInt
import Derived.Test.YtkanlkgmiednfaaAxinterleavelaw11EventIntSizes
namespace Go.Proofs.Ytkanlkgmiednfaa.Pure
open Go.RowKit Go.Proofs.YtkanlkgmiednfaaW.PrintWords Go.Proofs.YtkanlkgmiednfaaW.PrintMore Go.Proofs.Ytkanlkgmiednfaa.A Go.Proofs.Ytkanlkgmiednfaa.Pl
theorem shl_pos (w : Nat) (h0 : 0 < w) (h1 : w < 10) : shl .i64 1 (7 * (w : Int) - 1) = 2 ^ (7 * w - 1) ∧ shl .i64 (-1) (7 * (w : Int) - 1) = -2 ^ (7 * w - 1) ∧ ((2 : Int) ^ (7 * w - 1)) ≤ 4611686018427387904 ∧ 0 < ((2 : Int) ^ (7 * w - 1)) := by
  have h3 : 2 ^ (7 * w - 1) ≤ 2 ^ 62 := Nat.pow_le_pow_right (by decide) (by omega)
  have h4 : 0 < 2 ^ (7 * w - 1) := Nat.pow_pos (by decide)
  have e : ((2 : Int) ^ (7 * w - 1)) = ((2 ^ (7 * w - 1) : Nat) : Int) := by simp
  unfold shl
  rw [show min (7 * (w : Int) - 1).toNat IntKind.i64.bits = 7 * w - 1 by simp [IntKind.bits]; omega, IntKind.wrap_i64, IntKind.wrap_i64, e]
  omega
/-- Within 2^(7w-1) of zero. -/
theorem within_zz (a : Int) (w : Nat) (hw : 0 < w) : (a ≥ 2 ^ (7 * w - 1) ∨ a < -2 ^ (7 * w - 1)) ↔ 128 ^ w ≤ (zz a).toNat := by
  have e1 : (128 : Nat) ^ w = 2 * 2 ^ (7 * w - 1) := by
    rw [show (128 : Nat) = 2 ^ 7 from rfl, ← Nat.pow_mul, ← Nat.pow_succ']
    congr 1
    omega
  have e : ((2 : Int) ^ (7 * w - 1)) = ((2 ^ (7 * w - 1) : Nat) : Int) := by simp
  rw [e1, e]
  generalize 2 ^ (7 * w - 1) = q
  unfold zz
  split <;> omega
theorem sizes_loop (a : Int) (h0 : -9223372036854775808 ≤ a) (h1 : a < 9223372036854775808) : ∀ (d w : Nat), w + d = 10 → 0 < w → (1 < w → 128 ^ (w - 1) ≤ (zz a).toNat) →
    Ev (fun k => interleavelaw11_EventIntSizes.l0 k a ((enc a).length : Int) (w : Int)) true := by
  have hl := enc_len h0 h1
  have hz := zz_range h0 h1
  intro d
  induction d with
  | zero =>
    intro w hw _ hlo
    have : 9 + 1 ≤ (enc a).length := by
      have := hlo (by omega)
      rw [show w - 1 = 9 by omega] at this
      exact encN_ge 9 _ this
    refine Ev.step (f := fun _ => some true) (fun k => ?_) (Ev.now _)
    simp only [interleavelaw11_EventIntSizes.l0]
    rw [if_neg (by omega), show ((enc a).length : Int) = (w : Int) by omega]
    simp
  | succ d ih =>
    intro w hw hw0 hlo
    obtain ⟨s1, s2, s3, s4⟩ := shl_pos w hw0 (by omega)
    have hi := within_zz a w hw0
    have e0 : IntKind.u64.wrap (wrap64 ((wrap64 (7 * (w : Int))) - 1)) = 7 * (w : Int) - 1 := by
      rw [wrap64_id (x := 7 * (w : Int)) (by omega) (by omega), wrap64_id (by omega) (by omega), u64_wrap]
      omega
    have e1 : wrap64 ((w : Int) + 1) = ((w + 1 : Nat) : Int) := by rw [wrap64_id (by omega) (by omega)]; omega
    by_cases h : a ≥ 2 ^ (7 * w - 1) ∨ a < -2 ^ (7 * w - 1)
    · refine Ev.step (f := fun k => interleavelaw11_EventIntSizes.l0 k a ((enc a).length : Int) ((w + 1 : Nat) : Int)) (fun k => ?_) ?_
      · simp only [interleavelaw11_EventIntSizes.l0]
        rw [e0, e1, s1, s2, if_pos (by omega), if_pos (by omega)]
        by_cases hp : a ≥ 2 ^ (7 * w - 1)
        · rw [if_pos hp]
        · rw [if_neg hp, if_pos (by omega)]
      · exact ih (w + 1) (by omega) (by omega) (fun _ => hi.1 h)
    · have hlt : (zz a).toNat < 128 ^ (w - 1 + 1) := by
        rw [show w - 1 + 1 = w by omega]
        have := mt hi.2 h
        omega
      have hle : (enc a).length ≤ w := by have := encN_le (w - 1) _ hlt; unfold enc; omega
      have hge : w ≤ (enc a).length := by
        by_cases hw1 : 1 < w
        · have := encN_ge (w - 1) _ (hlo hw1); unfold enc; omega
        · omega
      refine Ev.step (f := fun _ => some true) (fun k => ?_) (Ev.now _)
      simp only [interleavelaw11_EventIntSizes.l0]
      rw [e0, s1, s2, if_pos (by omega), if_pos (by omega), if_neg (by omega), if_neg (by omega), show ((enc a).length : Int) = (w : Int) by omega]
      simp
theorem EventIntSizes : interleavelaw11_EventIntSizes.Pure := by
  intro a ha
  obtain ⟨h0, h1⟩ := i64_bounds ha
  refine Ev.rounds ?_
  exact Ev.bind (putInt_f h0 h1 [] (by simp)) (by simpa using sizes_loop a h0 h1 9 1 rfl (by omega) (fun h => absurd h (by omega)))
end Go.Proofs.Ytkanlkgmiednfaa.Pure
