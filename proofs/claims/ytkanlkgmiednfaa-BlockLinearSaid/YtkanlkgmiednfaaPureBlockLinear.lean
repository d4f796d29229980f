/- The checksum of the exclusive or of three texts of one length is the exclusive or of their checksums: the plain side of the statement BlockLinear. No condition. -/
import Derived.Test.YtkanlkgmiednfaaPlSum2
import Derived.Test.YtkanlkgmiednfaaAxinterleavelaw13BlockLinear
namespace Go.Proofs.Ytkanlkgmiednfaa.Pure
open Go.RowKit Go.Proofs.YtkanlkgmiednfaaW.PrintWords Go.Proofs.YtkanlkgmiednfaaW.PrintMore Go.Proofs.Ytkanlkgmiednfaa.A Go.Proofs.Ytkanlkgmiednfaa.Pl
set_option linter.unusedVariables false
theorem xor3_int (a b c : Int) (ha : 0 ≤ a ∧ a < 256) (hb : 0 ≤ b ∧ b < 256) (hc : 0 ≤ c ∧ c < 256) :
    bits .xor .u8 (bits .xor .u8 a b) c = ((a.toNat ^^^ b.toNat ^^^ c.toNat : Nat) : Int) := by
  rw [u8_xor a b ha.1 ha.2 hb.1 hb.2]
  have h : a.toNat ^^^ b.toNat < 2 ^ 8 := Nat.xor_lt_two_pow (by omega) (by omega)
  rw [u8_xor _ c (by omega) (by omega) hc.1 hc.2]
  rfl
theorem linear_loop (a b c : List Int) (n : Nat) (r : Bool) (hn : n ≤ 1000) (ha : n ≤ a.length) (hb : n ≤ b.length) (hc : n ≤ c.length)
    (h : ∀ d : List Int, d.length = n → (∀ i (h : i < d.length), d[i] = bits .xor .u8 (bits .xor .u8 (rd a (i : Int)) (rd b (i : Int))) (rd c (i : Int))) →
      Ev (fun k => interleavelaw13_BlockLinear.l0 k a b c (n : Int) d (n : Int)) r) :
    ∀ (m i : Nat) (d : List Int), i + m = n → d.length = n → (∀ j (h : j < d.length), j < i → d[j] = bits .xor .u8 (bits .xor .u8 (rd a (j : Int)) (rd b (j : Int))) (rd c (j : Int))) →
      Ev (fun k => interleavelaw13_BlockLinear.l0 k a b c (n : Int) d (i : Int)) r := by
  intro m
  induction m with
  | zero =>
    intro i d hi hd hj
    obtain rfl : i = n := by omega
    exact h d hd (fun j hj' => hj j hj' (by omega))
  | succ m ih =>
    intro i d hi hd hj
    refine Ev.step (f := fun k => interleavelaw13_BlockLinear.l0 k a b c (n : Int) (d.set i (bits .xor .u8 (bits .xor .u8 (rd a (i : Int)) (rd b (i : Int))) (rd c (i : Int)))) ((i + 1 : Nat) : Int)) (fun k => ?_) ?_
    · simp only [interleavelaw13_BlockLinear.l0]
      rw [if_pos (by omega), if_pos (by omega), if_pos (by omega), if_pos (by omega), if_pos (by omega), if_pos (by omega), wrap64_id (by omega) (by omega)]
      rfl
    · refine ih (i + 1) _ (by omega) (by simpa using hd) (fun j hjl hj1 => ?_)
      rw [List.getElem_set]
      split
      · rename_i e
        subst e
        rfl
      · exact hj j (by simpa using hjl) (by omega)
theorem BlockLinear : interleavelaw13_BlockLinear.Pure := by
  intro a b c _ hal hab _ hbl hbb _ hcl hcb
  have hA : ∀ x ∈ a, 0 ≤ x ∧ x < 256 := fun x hx => u8_bounds (hab x hx)
  have hB : ∀ x ∈ b, 0 ≤ x ∧ x < 256 := fun x hx => u8_bounds (hbb x hx)
  have hC : ∀ x ∈ c, 0 ≤ x ∧ x < 256 := fun x hx => u8_bounds (hcb x hx)
  obtain ⟨n, hn⟩ : ∃ n : Nat, mn (a.length : Int) (mn (b.length : Int) (c.length : Int)) = (n : Int) := ⟨min a.length (min b.length c.length), by unfold mn; split <;> split <;> omega⟩
  have hn' : n ≤ a.length ∧ n ≤ b.length ∧ n ≤ c.length := by unfold mn at hn; split at hn <;> split at hn <;> omega
  obtain ⟨n1, n2, n3⟩ := hn'
  by_cases h : (n : Int) > 1000
  · exact ⟨0, by unfold interleavelaw13_BlockLinear.f; rw [hn, if_pos h]⟩
  · refine Ev.rounds ?_
    refine Ev.congr (f := fun k => interleavelaw13_BlockLinear.l0 k a b c (n : Int) (List.replicate n 0) ((0 : Nat) : Int)) (fun k => ?_) ?_
    · show interleavelaw13_BlockLinear.f k a b c = _
      unfold interleavelaw13_BlockLinear.f
      rw [hn, if_neg h, if_pos (by omega), if_pos (by omega)]
      rfl
    · refine linear_loop a b c n true (by omega) n1 n2 n3 ?_ n 0 _ (by omega) (by simp) (fun j _ hj => absurd hj (by omega))
      intro d hd hx
      have hga : ∀ i (h : i < n), rd a (i : Int) = (a.take n)[i]'(by simp; omega) := fun i h => by simp [rd, List.getD_eq_getElem?_getD, List.getElem?_eq_getElem (show i < a.length by omega)]
      have hgb : ∀ i (h : i < n), rd b (i : Int) = (b.take n)[i]'(by simp; omega) := fun i h => by simp [rd, List.getD_eq_getElem?_getD, List.getElem?_eq_getElem (show i < b.length by omega)]
      have hgc : ∀ i (h : i < n), rd c (i : Int) = (c.take n)[i]'(by simp; omega) := fun i h => by simp [rd, List.getD_eq_getElem?_getD, List.getElem?_eq_getElem (show i < c.length by omega)]
      have hAt : ∀ x ∈ a.take n, 0 ≤ x ∧ x < 256 := fun x hx => hA x (List.mem_of_mem_take hx)
      have hBt : ∀ x ∈ b.take n, 0 ≤ x ∧ x < 256 := fun x hx => hB x (List.mem_of_mem_take hx)
      have hCt : ∀ x ∈ c.take n, 0 ≤ x ∧ x < 256 := fun x hx => hC x (List.mem_of_mem_take hx)
      have hdv : ∀ i (h : i < d.length), d[i] = (((a.take n)[i]'(by simp; omega)).toNat ^^^ ((b.take n)[i]'(by simp; omega)).toNat ^^^ ((c.take n)[i]'(by simp; omega)).toNat : Nat) := by
        intro i hi
        rw [hx i hi, hga i (by omega), hgb i (by omega), hgc i (by omega)]
        exact xor3_int _ _ _ (hAt _ (List.getElem_mem _)) (hBt _ (List.getElem_mem _)) (hCt _ (List.getElem_mem _))
      have hD : ∀ x ∈ d, 0 ≤ x ∧ x < 256 := by
        intro x hxd
        obtain ⟨i, hi, rfl⟩ := List.getElem_of_mem hxd
        have b1 := hAt _ (List.getElem_mem (show i < (a.take n).length by simp; omega))
        have b2 := hBt _ (List.getElem_mem (show i < (b.take n).length by simp; omega))
        have b3 := hCt _ (List.getElem_mem (show i < (c.take n).length by simp; omega))
        rw [hdv i hi]
        have h1 : ((a.take n)[i]'(by simp; omega)).toNat ^^^ ((b.take n)[i]'(by simp; omega)).toNat < 2 ^ 8 := Nat.xor_lt_two_pow (by omega) (by omega)
        have h2 : (((a.take n)[i]'(by simp; omega)).toNat ^^^ ((b.take n)[i]'(by simp; omega)).toNat) ^^^ ((c.take n)[i]'(by simp; omega)).toNat < 2 ^ 8 := Nat.xor_lt_two_pow (by omega) (by omega)
        omega
      have hS := sumS_three (a.take n) (b.take n) (c.take n) d (by simp; omega) (by simp; omega) (by simp; omega) (fun i hi h1 h2 h3 => by
        have := hdv i hi
        omega)
      refine Ev.step (fun k => by simp only [interleavelaw13_BlockLinear.l0]; exact if_neg (by omega)) ?_
      refine Ev.bind (sum_f d (by omega) hD) ?_
      refine Ev.congr (fun k => (if_pos (by omega)).trans (if_pos (by omega))) ?_
      rw [show ((n : Int)).toNat = n by omega]
      refine Ev.bind (sum_f (a.take n) (by simp; omega) hAt) ?_
      refine Ev.congr (fun k => if_pos (by omega)) ?_
      refine Ev.bind (sum_f (b.take n) (by simp; omega) hBt) ?_
      refine Ev.congr (fun k => if_pos (by omega)) ?_
      refine Ev.bind (sum_f (c.take n) (by simp; omega) hCt) ?_
      have s1 := sumS_lt (a.take n) (fun x hx => (hAt x hx).2)
      have s2 := sumS_lt (b.take n) (fun x hx => (hBt x hx).2)
      have s3 := sumS_lt (c.take n) (fun x hx => (hCt x hx).2)
      have s12 : sumS (a.take n) ^^^ sumS (b.take n) < 2 ^ 32 := Nat.xor_lt_two_pow (by omega) (by omega)
      refine Ev.congr (fun k => if_pos ?_) (Ev.bind block_awake (Ev.now _))
      rw [u32_xor_nat _ _ s1 s2, u32_xor_nat _ _ (by omega) s3, hS]
end Go.Proofs.Ytkanlkgmiednfaa.Pure
