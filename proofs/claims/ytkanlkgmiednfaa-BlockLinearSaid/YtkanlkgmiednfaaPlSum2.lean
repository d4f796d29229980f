/- What the two Sum functions compute, out of their printed forms; the sanity check of layer 13. -/
import Derived.Test.YtkanlkgmiednfaaPlSum
import Derived.Test.YtkanlkgmiednfaaAxblockSum
import Derived.Test.YtkanlkgmiednfaaAxinterleaveref11Sum
import Derived.Test.YtkanlkgmiednfaaAxinterleavelaw13awake
namespace Go.Proofs.Ytkanlkgmiednfaa.Pl
open Go.RowKit Go.Proofs.YtkanlkgmiednfaaW.PrintWords Go.Proofs.YtkanlkgmiednfaaW.PrintMore Go.Proofs.Ytkanlkgmiednfaa.A
set_option linter.unusedVariables false
theorem crcBit_int (c : Nat) (h : c < 4294967296) : (if bits .and .u32 (c : Int) 1 = 1 then bits .xor .u32 ((c : Int) / 2) 3988292384 else (c : Int) / 2) = ((crcBit c : Nat) : Int) := by
  have e1 : bits .and .u32 (c : Int) 1 = ((c % 2 : Nat) : Int) := by
    have := u32_and_nat c 1 h (by omega)
    rw [nat_mask1] at this
    exact this
  have e2 : bits .xor .u32 ((c : Int) / 2) 3988292384 = (((c / 2) ^^^ 3988292384 : Nat) : Int) := by
    have := u32_xor_nat (c / 2) 3988292384 (by omega) (by omega)
    rw [show ((c / 2 : Nat) : Int) = (c : Int) / 2 by omega] at this
    exact this
  rw [e1, e2]
  unfold crcBit
  by_cases hc : c % 2 = 1
  · rw [if_pos (by omega), if_pos hc]
  · rw [if_neg (by omega), if_neg hc]
    omega
theorem sum_bits {xs : List Int} {n i r : Int} : ∀ (d j c : Nat), j + d = 8 → c < 4294967296 → Ev (fun k => block_Sum.l0 k ((crcBits d c : Nat) : Int) xs n (wrap64 (i + 1))) r → Ev (fun k => block_Sum.l1 k (c : Int) xs n i (j : Int)) r := by
  intro d
  induction d with
  | zero =>
    intro j c hj hc h
    refine Ev.step (fun k => ?_) h
    simp only [block_Sum.l1]
    rw [if_neg (by omega)]
    rfl
  | succ d ih =>
    intro j c hj hc h
    refine Ev.step (f := fun k => block_Sum.l1 k ((crcBit c : Nat) : Int) xs n i ((j + 1 : Nat) : Int)) (fun k => ?_) (ih (j + 1) (crcBit c) (by omega) (crcBit_lt hc) h)
    simp only [block_Sum.l1]
    rw [if_pos (by omega), wrap64_id (x := (j : Int) + 1) (by omega) (by omega), ← crcBit_int c hc]
    split <;> rfl
theorem sum_loop (xs : List Int) (hm : xs.length ≤ 140737488355328) (hx : ∀ c ∈ xs, 0 ≤ c ∧ c < 256) : ∀ (d i c : Nat), i + d = xs.length → c < 4294967296 →
    Ev (fun k => block_Sum.l0 k (c : Int) xs (xs.length : Int) (i : Int)) ((4294967295 ^^^ crc c (xs.drop i) : Nat) : Int) := by
  intro d
  induction d with
  | zero =>
    intro i c hi hc
    refine Ev.step (f := fun _ => some _) (fun k => ?_) (Ev.now _)
    simp only [block_Sum.l0]
    rw [if_neg (by omega), List.drop_of_length_le (by omega)]
    have := u32_xor_nat 4294967295 c (by omega) hc
    exact congrArg some this
  | succ d ih =>
    intro i c hi hc
    have hlt : i < xs.length := by omega
    have hb := hx xs[i] (List.getElem_mem hlt)
    have e : bits .xor .u32 (c : Int) ((rd xs (i : Int)) % 4294967296) = ((c ^^^ xs[i].toNat : Nat) : Int) := by
      rw [show rd xs (i : Int) = xs[i] by simp [rd, List.getD_eq_getElem?_getD, List.getElem?_eq_getElem hlt]]
      have := u32_xor_nat c xs[i].toNat hc (by omega)
      rw [show ((xs[i].toNat : Nat) : Int) = xs[i] % 4294967296 by omega] at this
      exact this
    refine Ev.step (f := fun k => block_Sum.l1 k ((c ^^^ xs[i].toNat : Nat) : Int) xs (xs.length : Int) (i : Int) ((0 : Nat) : Int)) (fun k => ?_) ?_
    · simp only [block_Sum.l0]
      rw [if_pos (by omega), if_pos (by omega), if_pos (by omega), e]
      rfl
    · refine sum_bits 8 0 _ rfl (xor_byte_lt hc hb.2) ?_
      have := ih (i + 1) (crcByte c xs[i]) (by omega) (crcByte_lt hc hb.2)
      rw [List.drop_eq_getElem_cons hlt, wrap64_id (x := (i : Int) + 1) (by omega) (by omega)]
      exact this
theorem sum_f (xs : List Int) (hm : xs.length ≤ 140737488355328) (hx : ∀ c ∈ xs, 0 ≤ c ∧ c < 256) : Ev (fun k => block_Sum.f k xs) ((sumS xs : Nat) : Int) := by
  have := sum_loop xs hm hx xs.length 0 4294967295 (by omega) (by omega)
  exact this
theorem refSum_bits {xs : List Int} {i r : Int} : ∀ (d j c : Nat), j + d = 8 → c < 4294967296 → Ev (fun k => interleaveref11_Sum.l0 k xs ((crcBits d c : Nat) : Int) (wrap64 (i + 1))) r → Ev (fun k => interleaveref11_Sum.l1 k xs (c : Int) i (j : Int)) r := by
  intro d
  induction d with
  | zero =>
    intro j c hj hc h
    refine Ev.step (fun k => ?_) h
    simp only [interleaveref11_Sum.l1]
    rw [if_neg (by omega)]
    rfl
  | succ d ih =>
    intro j c hj hc h
    refine Ev.step (f := fun k => interleaveref11_Sum.l1 k xs ((crcBit c : Nat) : Int) i ((j + 1 : Nat) : Int)) (fun k => ?_) (ih (j + 1) (crcBit c) (by omega) (crcBit_lt hc) h)
    simp only [interleaveref11_Sum.l1]
    rw [if_pos (by omega), wrap64_id (x := (j : Int) + 1) (by omega) (by omega), ← crcBit_int c hc]
    split <;> rfl
theorem refSum_loop (xs : List Int) (hm : xs.length ≤ 140737488355328) (hx : ∀ c ∈ xs, 0 ≤ c ∧ c < 256) : ∀ (d i c : Nat), i + d = xs.length → c < 4294967296 →
    Ev (fun k => interleaveref11_Sum.l0 k xs (c : Int) (i : Int)) ((4294967295 ^^^ crc c (xs.drop i) : Nat) : Int) := by
  intro d
  induction d with
  | zero =>
    intro i c hi hc
    refine Ev.step (f := fun _ => some _) (fun k => ?_) (Ev.now _)
    simp only [interleaveref11_Sum.l0]
    rw [if_neg (by omega), List.drop_of_length_le (by omega)]
    have := u32_xor_nat c 4294967295 hc (by omega)
    rw [Nat.xor_comm] at this
    exact congrArg some this
  | succ d ih =>
    intro i c hi hc
    have hlt : i < xs.length := by omega
    have hb := hx xs[i] (List.getElem_mem hlt)
    have e : bits .xor .u32 (c : Int) ((rd xs (i : Int)) % 4294967296) = ((c ^^^ xs[i].toNat : Nat) : Int) := by
      rw [show rd xs (i : Int) = xs[i] by simp [rd, List.getD_eq_getElem?_getD, List.getElem?_eq_getElem hlt]]
      have := u32_xor_nat c xs[i].toNat hc (by omega)
      rw [show ((xs[i].toNat : Nat) : Int) = xs[i] % 4294967296 by omega] at this
      exact this
    refine Ev.step (f := fun k => interleaveref11_Sum.l1 k xs ((c ^^^ xs[i].toNat : Nat) : Int) (i : Int) ((0 : Nat) : Int)) (fun k => ?_) ?_
    · simp only [interleaveref11_Sum.l0]
      rw [if_pos (by omega), if_pos (by omega), e]
      rfl
    · refine refSum_bits 8 0 _ rfl (xor_byte_lt hc hb.2) ?_
      have := ih (i + 1) (crcByte c xs[i]) (by omega) (crcByte_lt hc hb.2)
      rw [List.drop_eq_getElem_cons hlt, wrap64_id (x := (i : Int) + 1) (by omega) (by omega)]
      exact this
theorem refSum_f (xs : List Int) (hm : xs.length ≤ 140737488355328) (hx : ∀ c ∈ xs, 0 ≤ c ∧ c < 256) : Ev (fun k => interleaveref11_Sum.f k xs) ((sumS xs : Nat) : Int) := by
  have := refSum_loop xs hm hx xs.length 0 4294967295 (by omega) (by omega)
  exact this
theorem block_awake : Ev (fun k => interleavelaw13_awake.f k) true := by
  have h := sum_f [49, 50, 51, 52, 53, 54, 55, 56, 57] (by simp) (by decide)
  rw [sum9] at h
  exact Ev.bind h ⟨0, fun k _ => by simp⟩
end Go.Proofs.Ytkanlkgmiednfaa.Pl
