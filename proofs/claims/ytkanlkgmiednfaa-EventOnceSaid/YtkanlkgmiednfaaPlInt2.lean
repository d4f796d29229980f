/- What Int computes, of the program and of the reference: 'dec'. -/
import Derived.Test.YtkanlkgmiednfaaPlInt
namespace Go.Proofs.Ytkanlkgmiednfaa.Pl
open Go.RowKit Go.Proofs.YtkanlkgmiednfaaW.PrintWords Go.Proofs.YtkanlkgmiednfaaW.PrintMore Go.Proofs.Ytkanlkgmiednfaa.A
set_option linter.unusedVariables false

theorem rd_at {x : List Int} {i : Nat} (h : i < x.length) : rd x (i : Int) = x[i] := by simp [rd, List.getD_eq_getElem?_getD, List.getElem?_eq_getElem h]
/-- One more byte's seven bits. -/
theorem gather {u c : Int} {i : Nat} (hi : i < 10) (h0 : 0 ≤ u) (h1 : u < 2 ^ (7 * i)) (hc0 : 0 ≤ c) (hc1 : c < 256) (h9 : i = 9 → c % 128 ≤ 1) (y : Int) (hy : y = 7 * (i : Int)) :
    bits .or .u64 u (shl .u64 (IntKind.u64.wrap (bits .and .u8 c 127)) y) = u + (c % 128) * 2 ^ (7 * i) := by
  subst hy
  rw [u8_and127 c hc0 hc1, u64_wrap]
  unfold shl
  rw [show min (7 * (i : Int)).toNat IntKind.u64.bits = 7 * i by simp [IntKind.bits]; omega, u64_wrap, show c % 128 % 18446744073709551616 = c % 128 by omega]
  have hp : ((2 : Int) ^ (7 * i)) = ((2 ^ (7 * i) : Nat) : Int) := by simp
  have hb : (c % 128) * 2 ^ (7 * i) < 18446744073709551616 := by
    rw [hp]
    by_cases h : i = 9
    · subst h
      have := h9 rfl
      have h2 : ((2 ^ (7 * 9) : Nat) : Int) = 9223372036854775808 := by decide
      rw [h2]
      omega
    · have h3 : 2 ^ (7 * i) ≤ 2 ^ 56 := Nat.pow_le_pow_right (by decide) (by omega)
      have h4 : (c % 128) * ((2 ^ (7 * i) : Nat) : Int) ≤ 127 * ((2 ^ (7 * i) : Nat) : Int) := Int.mul_le_mul_of_nonneg_right (by omega) (by omega)
      omega
  have hb0 : 0 ≤ (c % 128) * 2 ^ (7 * i) := Int.mul_nonneg (by omega) (by rw [hp]; omega)
  rw [show (c % 128) * 2 ^ (7 * i) % 18446744073709551616 = (c % 128) * 2 ^ (7 * i) by omega]
  exact u64_join u (c % 128) (7 * i) h0 h1 (by omega) hb (by omega)
theorem gather_range {u c : Int} {i : Nat} (h0 : 0 ≤ u) (h1 : u < 2 ^ (7 * i)) : 0 ≤ u + (c % 128) * 2 ^ (7 * i) ∧ u + (c % 128) * 2 ^ (7 * i) < 2 ^ (7 * (i + 1)) := by
  have hp : ((2 : Int) ^ (7 * i)) = ((2 ^ (7 * i) : Nat) : Int) := by simp
  have hp2 : ((2 : Int) ^ (7 * (i + 1))) = 128 * ((2 ^ (7 * i) : Nat) : Int) := by
    rw [Nat.mul_add, Int.pow_add, hp, Int.mul_comm]
    rfl
  rw [hp2]
  rw [hp] at h1 ⊢
  have h4 : (c % 128) * ((2 ^ (7 * i) : Nat) : Int) ≤ 127 * ((2 ^ (7 * i) : Nat) : Int) := Int.mul_le_mul_of_nonneg_right (by omega) (by omega)
  have hb0 : 0 ≤ (c % 128) * ((2 ^ (7 * i) : Nat) : Int) := Int.mul_nonneg (by omega) (by omega)
  omega

theorem int_loop (x : List Int) (hm : x.length ≤ 140737488355328) (hx : ∀ c ∈ x, 0 ≤ c ∧ c < 256) : ∀ (d i : Nat) (u : Int), i + d = 10 → i ≤ x.length → (d ≠ 0 → 0 ≤ u ∧ u < 2 ^ (7 * i)) →
    Ev (fun k => event_Int.l0 k x u (i : Int)) (dec d u (x.drop i)) := by
  intro d
  induction d with
  | zero =>
    intro i u hi _ _
    refine Ev.step (f := fun _ => some _) (fun k => ?_) (Ev.now _)
    simp only [event_Int.l0]
    rw [if_neg (by omega)]
    rfl
  | succ d ih =>
    intro i u hi hxl hu
    obtain ⟨h0, h1⟩ := hu (by omega)
    by_cases he : i = x.length
    · refine Ev.step (f := fun _ => some _) (fun k => ?_) (Ev.now _)
      simp only [event_Int.l0]
      rw [if_pos (by omega), if_pos (by omega), List.drop_of_length_le (by omega)]
      rfl
    · have hlt : i < x.length := by omega
      have hc := hx x[i] (List.getElem_mem hlt)
      have e7 : wrap64 (7 * (i : Int)) = 7 * (i : Int) := wrap64_id (by omega) (by omega)
      have e1 : wrap64 ((i : Int) + 1) = ((i + 1 : Nat) : Int) := by rw [wrap64_id (by omega) (by omega)]; omega
      have ed : 9 - d = i := by omega
      rw [List.drop_eq_getElem_cons hlt]
      simp only [dec]
      rw [ed]
      generalize hcc : x[i] = c at hc ⊢
      by_cases hb : c ≥ 128
      · rw [if_pos hb]
        by_cases h9 : i = 9
        · have hd : d = 0 := by omega
          subst hd
          refine Ev.step (f := fun k => event_Int.l0 k x (bits .or .u64 u (shl .u64 (IntKind.u64.wrap (bits .and .u8 c 127)) (7 * (i : Int)))) ((i + 1 : Nat) : Int)) (fun k => ?_) ?_
          · simp only [event_Int.l0]
            rw [if_pos (by omega), if_neg (by omega), if_pos (by omega), if_pos (by omega), rd_at hlt, hcc, e7, if_pos (by omega), if_pos hb, e1]
          · exact ih (i + 1) _ (by omega) (by omega) (fun h => absurd rfl h)
        · have hg := gather (i := i) (u := u) (c := c) (by omega) h0 h1 hc.1 hc.2 (fun h => absurd h h9) (7 * (i : Int)) rfl
          refine Ev.step (f := fun k => event_Int.l0 k x (u + c % 128 * 2 ^ (7 * i)) ((i + 1 : Nat) : Int)) (fun k => ?_) ?_
          · simp only [event_Int.l0]
            rw [if_pos (by omega), if_neg (by omega), if_pos (by omega), if_pos (by omega), rd_at hlt, hcc, e7, if_pos (by omega), if_pos hb, e1, hg]
          · exact ih (i + 1) _ (by omega) (by omega) (fun _ => gather_range h0 h1)
      · rw [if_neg (by omega)]
        by_cases hbad : d = 0 ∧ 1 < c ∨ d < 9 ∧ c = 0
        · rw [if_pos hbad]
          refine Ev.step (f := fun _ => some _) (fun k => ?_) (Ev.now _)
          simp only [event_Int.l0]
          rw [if_pos (by omega), if_neg (by omega), if_pos (by omega), if_pos (by omega), rd_at hlt, hcc, e7, if_pos (by omega), if_neg hb]
          by_cases h9 : (i : Int) = 9
          · rw [if_pos h9]
            by_cases hc1 : c > 1
            · rw [if_pos hc1]
            · rw [if_neg hc1, if_pos (by omega), if_pos (by omega)]
          · rw [if_neg h9, if_pos (by omega), if_pos (by omega)]
        · rw [if_neg hbad]
          have hm7 : c % 128 = c := by omega
          have hg := gather (i := i) (u := u) (c := c) (by omega) h0 h1 hc.1 hc.2 (fun h => by omega) (7 * (i : Int)) rfl
          rw [hm7] at hg
          have hr := gather_range (i := i) (u := u) (c := c) h0 h1
          rw [hm7] at hr
          have h64 : u + c * 2 ^ (7 * i) < 18446744073709551616 := by
            by_cases h9 : i = 9
            · subst h9
              have hc1 : c ≤ 1 := by omega
              have e2 : ((2 : Int) ^ (7 * 9)) = 9223372036854775808 := by decide
              rw [e2] at h1 ⊢
              omega
            · have h3 : ((2 ^ (7 * (i + 1)) : Nat) : Int) ≤ ((2 ^ 63 : Nat) : Int) := by exact_mod_cast Nat.pow_le_pow_right (by decide) (by omega)
              have h5 : ((2 : Int) ^ (7 * (i + 1))) = ((2 ^ (7 * (i + 1)) : Nat) : Int) := by simp
              have h6 : ((2 ^ 63 : Nat) : Int) = 9223372036854775808 := by decide
              omega
          refine Ev.step (f := fun _ => some _) (fun k => ?_) (Ev.now _)
          simp only [event_Int.l0]
          rw [if_pos (by omega), if_neg (by omega), if_pos (by omega), if_pos (by omega), rd_at hlt, hcc, e7, if_pos (by omega), if_neg hb, hg, e1, unzz_impl hr.1 h64]
          have es : ((i + 1 : Nat) : Int) = 10 - (d : Int) := by omega
          rw [es]
          by_cases h9 : (i : Int) = 9
          · rw [if_pos h9, if_neg (by omega), if_pos (by omega), if_neg (by omega)]
          · rw [if_neg h9]
            by_cases hi0 : (i : Int) > 0
            · rw [if_pos hi0, if_neg (by omega)]
            · rw [if_neg hi0]
theorem int_f (x : List Int) (hm : x.length ≤ 140737488355328) (hx : ∀ c ∈ x, 0 ≤ c ∧ c < 256) : Ev (fun k => event_Int.f k x) (dec 10 0 x) := by
  have := int_loop x hm hx 10 0 0 rfl (Nat.zero_le _) (fun _ => by simp)
  simpa [event_Int.f] using this
theorem refInt_j2 (u : Int) (i : Nat) (h0 : 0 ≤ u) (h1 : u < 18446744073709551616) (hi : i < 10) (b : Bool) :
    Ev (fun k => interleaveref11_Int.j2 k u (i : Int) b) (if b = true then (0, 0, 11) else (unzz u, (i : Int) + 1, 0)) := by
  refine Ev.step (f := fun _ => some _) (fun k => ?_) (Ev.now _)
  simp only [interleaveref11_Int.j2]
  by_cases hb : b = true
  · rw [if_pos hb, if_pos hb]
  · rw [if_neg hb, if_neg hb, u64_and1 u h0 h1, wrap64_id (x := u / 2) (by omega) (by omega), wrap64_id (x := (i : Int) + 1) (by omega) (by omega)]
    unfold unzz
    by_cases h : u % 2 = 1
    · rw [if_pos h, if_pos h, (i64_xor_ones _ (by omega) (by omega)).1]
    · rw [if_neg h, if_neg h]
theorem refInt_loop (x : List Int) (hm : x.length ≤ 140737488355328) (hx : ∀ c ∈ x, 0 ≤ c ∧ c < 256) : ∀ (d i : Nat) (u : Int), i + d = 10 → i ≤ x.length → (d ≠ 0 → 0 ≤ u ∧ u < 2 ^ (7 * i)) →
    Ev (fun k => interleaveref11_Int.l0 k x u (i : Int)) (dec d u (x.drop i)) := by
  intro d
  induction d with
  | zero =>
    intro i u hi _ _
    refine Ev.step (f := fun _ => some _) (fun k => ?_) (Ev.now _)
    simp only [interleaveref11_Int.l0]
    rw [if_neg (by omega)]
    rfl
  | succ d ih =>
    intro i u hi hxl hu
    obtain ⟨h0, h1⟩ := hu (by omega)
    by_cases he : i = x.length
    · refine Ev.step (f := fun _ => some _) (fun k => ?_) (Ev.now _)
      simp only [interleaveref11_Int.l0]
      rw [if_pos (by omega), if_pos (by omega), List.drop_of_length_le (by omega)]
      rfl
    · have hlt : i < x.length := by omega
      have hc := hx x[i] (List.getElem_mem hlt)
      have e7 : IntKind.u64.wrap (wrap64 (7 * (i : Int))) = 7 * (i : Int) := by rw [wrap64_id (by omega) (by omega), u64_wrap]; omega
      have e1 : wrap64 ((i : Int) + 1) = ((i + 1 : Nat) : Int) := by rw [wrap64_id (by omega) (by omega)]; omega
      have ed : 9 - d = i := by omega
      rw [List.drop_eq_getElem_cons hlt]
      simp only [dec]
      rw [ed]
      generalize hcc : x[i] = c at hc ⊢
      -- the tenth byte is looked at first
      refine Ev.step (f := fun k => interleaveref11_Int.j1 k x u (i : Int) (decide (i = 9 ∧ c > 1))) (fun k => ?_) ?_
      · simp only [interleaveref11_Int.l0]
        rw [if_pos (by omega), if_neg (by omega)]
        by_cases h9 : (i : Int) = 9
        · rw [if_pos h9, if_pos (by omega), if_pos (by omega), rd_at hlt, hcc]
          congr 1
          apply decide_eq_decide.mpr
          omega
        · rw [if_neg h9]
          congr 1
          symm
          apply decide_eq_false
          omega
      by_cases hten : i = 9 ∧ c > 1
      · rw [show decide (i = 9 ∧ c > 1) = true from decide_eq_true hten]
        have hr : (if 128 ≤ c then dec d (u + c % 128 * 2 ^ (7 * i)) (List.drop (i + 1) x) else if d = 0 ∧ 1 < c ∨ d < 9 ∧ c = 0 then (0, 0, 11) else (unzz (u + c * 2 ^ (7 * i)), 10 - (d : Int), 0)) = (0, 0, 11) := by
          have hd : d = 0 := by omega
          subst hd
          by_cases hb : 128 ≤ c
          · rw [if_pos hb]; rfl
          · rw [if_neg hb, if_pos (by omega)]
        rw [hr]
        refine Ev.step (f := fun _ => some _) (fun k => ?_) (Ev.now _)
        simp only [interleaveref11_Int.j1]
        rw [if_pos trivial]
      · rw [show decide (i = 9 ∧ c > 1) = false from decide_eq_false hten]
        have hm9 : i = 9 → c % 128 ≤ 1 := by omega
        have hg := gather (i := i) (u := u) (c := c) (by omega) h0 h1 hc.1 hc.2 hm9 (7 * (i : Int)) rfl
        have hr := gather_range (i := i) (u := u) (c := c) h0 h1
        by_cases hb : 128 ≤ c
        · rw [if_pos hb]
          refine Ev.step (f := fun k => interleaveref11_Int.l0 k x (u + c % 128 * 2 ^ (7 * i)) ((i + 1 : Nat) : Int)) (fun k => ?_) ?_
          · simp only [interleaveref11_Int.j1]
            rw [if_neg (by decide), if_pos (by omega), if_pos (by omega), rd_at hlt, hcc, e7, if_pos (by omega), if_neg (by omega), e1, hg]
          · exact ih (i + 1) _ (by omega) (by omega) (fun _ => hr)
        · rw [if_neg hb]
          have hm7 : c % 128 = c := by omega
          rw [hm7] at hg hr
          have h64 : u + c * 2 ^ (7 * i) < 18446744073709551616 := by
            by_cases h9 : i = 9
            · subst h9
              have hc1 : c ≤ 1 := by omega
              have e2 : ((2 : Int) ^ (7 * 9)) = 9223372036854775808 := by decide
              rw [e2] at h1 ⊢
              omega
            · have h3 : ((2 ^ (7 * (i + 1)) : Nat) : Int) ≤ ((2 ^ 63 : Nat) : Int) := by exact_mod_cast Nat.pow_le_pow_right (by decide) (by omega)
              have h5 : ((2 : Int) ^ (7 * (i + 1))) = ((2 ^ (7 * (i + 1)) : Nat) : Int) := by simp
              have h6 : ((2 ^ 63 : Nat) : Int) = 9223372036854775808 := by decide
              omega
          refine Ev.step (f := fun k => interleaveref11_Int.j2 k (u + c * 2 ^ (7 * i)) (i : Int) (decide (0 < i ∧ c = 0))) (fun k => ?_) ?_
          · simp only [interleaveref11_Int.j1]
            rw [if_neg (by decide), if_pos (by omega), if_pos (by omega), rd_at hlt, hcc, e7, if_pos (by omega), if_pos (by omega), hg]
            by_cases hi0 : (i : Int) > 0
            · rw [if_pos hi0]
              congr 1
              rw [show (c == 0) = decide (c = 0) from rfl]
              apply decide_eq_decide.mpr
              omega
            · rw [if_neg hi0]
              congr 1
              symm
              apply decide_eq_false
              omega
          · have := refInt_j2 (u + c * 2 ^ (7 * i)) i hr.1 h64 (by omega) (decide (0 < i ∧ c = 0))
            by_cases hz : 0 < i ∧ c = 0
            · rw [show decide (0 < i ∧ c = 0) = true from decide_eq_true hz] at this ⊢
              rw [if_pos rfl] at this
              rw [if_pos (by omega)]
              exact this
            · rw [show decide (0 < i ∧ c = 0) = false from decide_eq_false hz] at this ⊢
              rw [if_neg (by decide)] at this
              rw [if_neg (by omega), show (10 : Int) - (d : Int) = (i : Int) + 1 by omega]
              exact this
theorem refInt_f (x : List Int) (hm : x.length ≤ 140737488355328) (hx : ∀ c ∈ x, 0 ≤ c ∧ c < 256) : Ev (fun k => interleaveref11_Int.f k x) (dec 10 0 x) := by
  have := refInt_loop x hm hx 10 0 0 rfl (Nat.zero_le _) (fun _ => by simp)
  simpa [interleaveref11_Int.f] using this
end Go.Proofs.Ytkanlkgmiednfaa.Pl
