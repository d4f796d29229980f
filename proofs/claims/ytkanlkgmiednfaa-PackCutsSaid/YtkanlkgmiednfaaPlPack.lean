/- What Pack computes, of the program and of the reference: 'pk'. -/
import Derived.Test.YtkanlkgmiednfaaPlInt2
import Derived.Test.YtkanlkgmiednfaaAxpackPack
import Derived.Test.YtkanlkgmiednfaaAxinterleaveref11Pack
namespace Go.Proofs.Ytkanlkgmiednfaa.Pl
open Go.RowKit Go.Proofs.YtkanlkgmiednfaaW.PrintWords Go.Proofs.YtkanlkgmiednfaaW.PrintMore Go.Proofs.Ytkanlkgmiednfaa.A
set_option linter.unusedVariables false

/-- How far the bytes at i equal those d ahead of them. -/
def ml (b : List Int) (i d : Nat) : Nat → Nat → Nat
  | 0, n => n
  | m + 1, n => if i + n < b.length ∧ rd b ((i + n : Nat) : Int) = rd b ((i + n - d : Nat) : Int) then ml b i d m (n + 1) else n
def up (p : Nat × Nat) (r d : Nat) : Nat × Nat := if p.1 < r then (r, d) else p
/-- The longest copy at i, the least distance first. -/
def bs (b : List Int) (i : Nat) : Nat → Nat → Nat × Nat → Nat × Nat
  | 0, _, p => p
  | f + 1, d, p => bs b i f (d + 1) (up p (ml b i d 130 0) d)
def lg (b : List Int) (i : Nat) : Nat × Nat := bs b i (min i 255) 1 (0, 0)
theorem ml_zero (b : List Int) (i d n : Nat) : ml b i d 0 n = n := rfl
theorem ml_succ (b : List Int) (i d m n : Nat) : ml b i d (m + 1) n = if i + n < b.length ∧ rd b ((i + n : Nat) : Int) = rd b ((i + n - d : Nat) : Int) then ml b i d m (n + 1) else n := rfl
theorem bs_zero (b : List Int) (i d : Nat) (p : Nat × Nat) : bs b i 0 d p = p := rfl
theorem bs_succ (b : List Int) (i f d : Nat) (p : Nat × Nat) : bs b i (f + 1) d p = bs b i f (d + 1) (up p (ml b i d 130 0) d) := rfl
theorem up_def (p : Nat × Nat) (r d : Nat) : up p r d = if p.1 < r then (r, d) else p := rfl
theorem lg_def (b : List Int) (i : Nat) : lg b i = bs b i (min i 255) 1 (0, 0) := rfl
attribute [irreducible] ml up bs lg
theorem ml_le (b : List Int) (i d : Nat) : ∀ m n, n ≤ ml b i d m n ∧ ml b i d m n ≤ n + m ∧ (i + n ≤ b.length → i + ml b i d m n ≤ b.length) ∧ (∀ j, n ≤ j → j < ml b i d m n → rd b ((i + j : Nat) : Int) = rd b ((i + j - d : Nat) : Int)) := by
  intro m
  induction m with
  | zero => intro n; exact ⟨by simp [ml_zero], by simp [ml_zero], by simp [ml_zero], fun j h h1 => by rw [ml_zero] at h1; omega⟩
  | succ m ih =>
    intro n
    rw [ml_succ]
    by_cases h : i + n < b.length ∧ rd b ((i + n : Nat) : Int) = rd b ((i + n - d : Nat) : Int)
    · rw [if_pos h]
      obtain ⟨h1, h2, h3, h4⟩ := ih (n + 1)
      refine ⟨by omega, by omega, fun _ => h3 (by omega), fun j hj hj2 => ?_⟩
      by_cases e : j = n
      · subst e
        exact h.2
      · exact h4 j (by omega) hj2
    · rw [if_neg h]
      exact ⟨by omega, by omega, fun h => h, fun j h1 h2 => by omega⟩
/-- What a copy must be. -/
def Good (b : List Int) (i : Nat) (p : Nat × Nat) : Prop := p.1 = 0 ∨ (p.1 ≤ 130 ∧ i + p.1 ≤ b.length ∧ 1 ≤ p.2 ∧ p.2 ≤ 255 ∧ p.2 ≤ i ∧ ∀ j, j < p.1 → rd b ((i + j : Nat) : Int) = rd b ((i + j - p.2 : Nat) : Int))
theorem bs_good {b : List Int} {i : Nat} (hi : i ≤ b.length) : ∀ f d p, 1 ≤ d → d + f ≤ min i 255 + 1 → Good b i p → Good b i (bs b i f d p) := by
  intro f
  induction f with
  | zero => intro d p _ _ h; rw [bs_zero]; exact h
  | succ f ih =>
    intro d p h1 h2 h
    rw [bs_succ]
    refine ih (d + 1) _ (by omega) (by omega) ?_
    rw [up_def]
    split
    · obtain ⟨m1, m2, m3, m4⟩ := ml_le b i d 130 0
      exact .inr ⟨by simpa using m2, by simpa using m3 (by omega), h1, by show d ≤ 255; omega, by show d ≤ i; omega, fun j hj => m4 j (by omega) hj⟩
    · exact h
theorem lg_good {b : List Int} {i : Nat} (hi : i ≤ b.length) : Good b i (lg b i) := lg_def b i ▸ bs_good hi _ _ _ (by omega) (by omega) (.inl rfl)
section
variable (b : List Int) (hm : b.length ≤ 1000000000000) (i : Nat) (hi : i ≤ b.length)
include hm hi
theorem longest_in (p : Nat × Nat) (d : Nat) (h1 : 1 ≤ d) (hd : d ≤ i) {r : Int × Int} {R : Nat} (h : Ev (fun k => pack_longest.l0 k b (i : Int) ((up p R d).1 : Int) ((up p R d).2 : Int) ((d + 1 : Nat) : Int)) r) (hd2 : d ≤ 255) :
    ∀ m n, n + m = 130 → Aside0 (ml b i d m n = R) → Ev (fun k => pack_longest.l1 k b (i : Int) (p.1 : Int) (p.2 : Int) (d : Int) (n : Int)) r := by
  have ed : wrap64 ((d : Int) + 1) = ((d + 1 : Nat) : Int) := by rw [wrap64_id (by omega) (by omega)]; omega
  have fin : ∀ n : Nat, n = R → Ev (fun k => if (n : Int) > (p.1 : Int) then (pack_longest.l0 k b (i : Int) (n : Int) (d : Int) (wrap64 ((d : Int) + 1))) else (pack_longest.l0 k b (i : Int) (p.1 : Int) (p.2 : Int) (wrap64 ((d : Int) + 1)))) r := by
    intro n hn
    rw [ed]
    rw [← hn] at h
    rw [up_def] at h
    by_cases c : p.1 < n
    · rw [if_pos c] at h
      exact Ev.congr (fun k => by rw [if_pos (by omega)]) h
    · rw [if_neg c] at h
      exact Ev.congr (fun k => by rw [if_neg (by omega)]) h
  intro m
  induction m with
  | zero =>
    intro n hn e
    have e := e.out
    rw [ml_zero] at e
    refine Ev.step (fun k => ?_) (fin n e)
    simp only [pack_longest.l1]
    rw [if_neg (by omega)]
  | succ m ih =>
    intro n hn e
    have e1 : wrap64 ((i : Int) + (n : Int)) = ((i + n : Nat) : Int) := by rw [wrap64_id (by omega) (by omega)]; omega
    have e2 : wrap64 (((i + n : Nat) : Int) - (d : Int)) = ((i + n - d : Nat) : Int) := by rw [wrap64_id (by omega) (by omega)]; omega
    have e3 : wrap64 ((n : Int) + 1) = ((n + 1 : Nat) : Int) := by rw [wrap64_id (by omega) (by omega)]; omega
    have e' := Aside0.mk ((ml_succ b i d m n).symm.trans e.out)
    clear e
    by_cases c : i + n < b.length
    · by_cases c2 : rd b ((i + n : Nat) : Int) = rd b ((i + n - d : Nat) : Int)
      · have e := Aside0.mk ((if_pos ⟨c, c2⟩).symm.trans e'.out)
        refine Ev.step (fun k => ?_) (ih (n + 1) (by omega) e)
        simp only [pack_longest.l1]
        rw [if_pos (by omega), e1, if_pos (by omega), if_pos (by omega), e2, if_pos (by omega), if_pos (by omega), if_pos c2, e3]
      · have e := (if_neg (fun h => c2 h.2)).symm.trans e'.out
        refine Ev.step (fun k => ?_) (fin n e)
        simp only [pack_longest.l1]
        rw [if_pos (by omega), e1, if_pos (by omega), if_pos (by omega), e2, if_pos (by omega), if_pos (by omega), if_neg c2]
    · have e := (if_neg (fun h => c h.1)).symm.trans e'.out
      refine Ev.step (fun k => ?_) (fin n e)
      simp only [pack_longest.l1]
      rw [if_pos (by omega), e1, if_neg (by omega)]
theorem longest_out : ∀ f d p, 1 ≤ d → d + f = min i 255 + 1 → Ev (fun k => pack_longest.l0 k b (i : Int) ((p : Nat × Nat).1 : Int) (p.2 : Int) ((d : Nat) : Int)) (((bs b i f d p).1 : Int), ((bs b i f d p).2 : Int)) := by
  have em : mn (i : Int) 255 = ((min i 255 : Nat) : Int) := by unfold mn; split <;> omega
  intro f
  induction f with
  | zero =>
    intro d p h1 h
    refine Ev.step (f := fun _ => some _) (fun k => ?_) (Ev.now _)
    simp only [pack_longest.l0, bs_zero]
    rw [em, if_neg (by omega)]
  | succ f ih =>
    intro d p h1 h
    rw [bs_succ]
    have := longest_in b hm i hi p d h1 (by omega) (ih (d + 1) (up p (ml b i d 130 0) d) (by omega) (by omega)) (by omega) 130 0 rfl ⟨rfl⟩
    refine Ev.step (fun k => ?_) this
    simp only [pack_longest.l0]
    rw [em, if_pos (by omega)]
    rfl
theorem longest_f : Ev (fun k => pack_longest.f k b (i : Int)) (((lg b i).1 : Int), ((lg b i).2 : Int)) := by
  rw [lg_def]
  exact longest_out b hm i hi (min i 255) 1 (0, 0) (by omega) (by omega)
theorem match_in (p : Nat × Nat) (d : Nat) (h1 : 1 ≤ d) (hd : d ≤ i) {r : Int × Int} {R : Nat} (h : Ev (fun k => interleaveref11_Match.l0 k b (i : Int) ((up p R d).1 : Int) ((up p R d).2 : Int) ((d + 1 : Nat) : Int)) r) (hd2 : d ≤ 255) :
    ∀ m n, n + m = 130 → Aside0 (ml b i d m n = R) → Ev (fun k => interleaveref11_Match.l1 k b (i : Int) (p.1 : Int) (p.2 : Int) (d : Int) (n : Int)) r := by
  have ed : wrap64 ((d : Int) + 1) = ((d + 1 : Nat) : Int) := by rw [wrap64_id (by omega) (by omega)]; omega
  have fin : ∀ n : Nat, n = R → Ev (fun k => if (n : Int) > (p.1 : Int) then (interleaveref11_Match.l0 k b (i : Int) (n : Int) (d : Int) (wrap64 ((d : Int) + 1))) else (interleaveref11_Match.l0 k b (i : Int) (p.1 : Int) (p.2 : Int) (wrap64 ((d : Int) + 1)))) r := by
    intro n hn
    rw [ed]
    rw [← hn] at h
    rw [up_def] at h
    by_cases c : p.1 < n
    · rw [if_pos c] at h
      exact Ev.congr (fun k => by rw [if_pos (by omega)]) h
    · rw [if_neg c] at h
      exact Ev.congr (fun k => by rw [if_neg (by omega)]) h
  intro m
  induction m with
  | zero =>
    intro n hn e
    have e := e.out
    rw [ml_zero] at e
    refine Ev.step (fun k => ?_) (fin n e)
    simp only [interleaveref11_Match.l1]
    rw [if_neg (by omega)]
  | succ m ih =>
    intro n hn e
    have e1 : wrap64 ((i : Int) + (n : Int)) = ((i + n : Nat) : Int) := by rw [wrap64_id (by omega) (by omega)]; omega
    have e2 : wrap64 (((i + n : Nat) : Int) - (d : Int)) = ((i + n - d : Nat) : Int) := by rw [wrap64_id (by omega) (by omega)]; omega
    have e3 : wrap64 ((n : Int) + 1) = ((n + 1 : Nat) : Int) := by rw [wrap64_id (by omega) (by omega)]; omega
    have e' := Aside0.mk ((ml_succ b i d m n).symm.trans e.out)
    clear e
    by_cases c : i + n < b.length
    · by_cases c2 : rd b ((i + n : Nat) : Int) = rd b ((i + n - d : Nat) : Int)
      · have e := Aside0.mk ((if_pos ⟨c, c2⟩).symm.trans e'.out)
        refine Ev.step (fun k => ?_) (ih (n + 1) (by omega) e)
        simp only [interleaveref11_Match.l1]
        rw [if_pos (by omega), e1, if_pos (by omega), if_pos (by omega), e2, if_pos (by omega), if_pos (by omega), if_pos c2, e3]
      · have e := (if_neg (fun h => c2 h.2)).symm.trans e'.out
        refine Ev.step (fun k => ?_) (fin n e)
        simp only [interleaveref11_Match.l1]
        rw [if_pos (by omega), e1, if_pos (by omega), if_pos (by omega), e2, if_pos (by omega), if_pos (by omega), if_neg c2]
    · have e := (if_neg (fun h => c h.1)).symm.trans e'.out
      refine Ev.step (fun k => ?_) (fin n e)
      simp only [interleaveref11_Match.l1]
      rw [if_pos (by omega), e1, if_neg (by omega)]
/-- What Match makes of it. -/
def mt (p : Nat × Nat) : Nat × Nat := if p.1 < 3 then (0, 0) else p
omit hm hi in
theorem match_end (p : Nat × Nat) (d : Int) : Ev (fun k => interleaveref11_Match.j1 k b (i : Int) (p.1 : Int) (p.2 : Int) d false) (((mt p).1 : Int), ((mt p).2 : Int)) := by
  refine Ev.step (f := fun _ => some _) (fun k => ?_) (Ev.now _)
  simp only [interleaveref11_Match.j1]
  rw [if_neg (by simp)]
  unfold mt
  by_cases c : p.1 < 3
  · rw [if_pos (by omega), if_pos c]
    rfl
  · rw [if_neg (by omega), if_neg c]
theorem match_out : ∀ f d p, 1 ≤ d → d + f = min i 255 + 1 → Ev (fun k => interleaveref11_Match.l0 k b (i : Int) ((p : Nat × Nat).1 : Int) (p.2 : Int) ((d : Nat) : Int)) (((mt (bs b i f d p)).1 : Int), ((mt (bs b i f d p)).2 : Int)) := by
  intro f
  induction f with
  | zero =>
    intro d p h1 h
    refine Ev.step (fun k => ?_) (by rw [bs_zero]; exact match_end b i p (d : Int))
    simp only [interleaveref11_Match.l0]
    by_cases c : (d : Int) ≤ 255
    · rw [if_pos c, show decide ((d : Int) ≤ (i : Int)) = false from decide_eq_false (by omega)]
    · rw [if_neg c]
  | succ f ih =>
    intro d p h1 h
    rw [bs_succ]
    have := match_in b hm i hi p d h1 (by omega) (ih (d + 1) (up p (ml b i d 130 0) d) (by omega) (by omega)) (by omega) 130 0 rfl ⟨rfl⟩
    refine Ev.step (f := fun k => interleaveref11_Match.j1 k b (i : Int) (p.1 : Int) (p.2 : Int) (d : Int) true) (fun k => ?_) (Ev.step (fun k => ?_) this)
    · simp only [interleaveref11_Match.l0]
      rw [if_pos (by omega), show decide ((d : Int) ≤ (i : Int)) = true from decide_eq_true (by omega)]
    · simp only [interleaveref11_Match.j1]
      rw [if_pos trivial]
      rfl
theorem match_f : Ev (fun k => interleaveref11_Match.f k b (i : Int)) (((mt (lg b i)).1 : Int), ((mt (lg b i)).2 : Int)) := by
  rw [lg_def]
  exact match_out b hm i hi (min i 255) 1 (0, 0) (by omega) (by omega)
end
end Go.Proofs.Ytkanlkgmiednfaa.Pl
