/- What the readers compute, of the program and of the reference. -/
import Derived.Test.YtkanlkgmiednfaaPlInt2
import Derived.Test.YtkanlkgmiednfaaAxeventRead
import Derived.Test.YtkanlkgmiednfaaAxinterleaveref11Read
namespace Go.Proofs.Ytkanlkgmiednfaa.Pl
open Go.RowKit Go.Proofs.YtkanlkgmiednfaaW.PrintWords Go.Proofs.YtkanlkgmiednfaaW.PrintMore Go.Proofs.Ytkanlkgmiednfaa.A
set_option linter.unusedVariables false
/-- The next integer of l from byte at on, if there was no error yet. -/
def nx (l : List Int) (at_ : Nat) (e : Int) : Int × Nat × Int :=
  if e = 0 then ((dec 10 0 (l.drop at_)).1, at_ + (dec 10 0 (l.drop at_)).2.1.toNat, (dec 10 0 (l.drop at_)).2.2) else (0, at_, e)
def c3 (r : Int × Nat × Int) : Int × Int × Int := (r.1, (r.2.1 : Int), r.2.2)
theorem dec_size : ∀ (d : Nat) (u : Int) (l : List Int), d ≤ 10 → 0 ≤ (dec d u l).2.1 ∧ (dec d u l).2.1 ≤ (l.length : Int) + (10 - (d : Int)) ∧ ((dec d u l).2.2 ≠ 0 → (dec d u l).1 = 0 ∧ (dec d u l).2.1 = 0) := by
  intro d
  induction d with
  | zero => intro u l _; simp [dec]; omega
  | succ d ih =>
    intro u l hd
    rcases l with _ | ⟨c, t⟩
    · simp [dec]; omega
    · rw [dec]
      split
      · obtain ⟨h1, h2, h3⟩ := ih (u + (c % 128) * 2 ^ (7 * (9 - d))) t (by omega)
        refine ⟨h1, ?_, h3⟩
        rw [List.length_cons]
        omega
      · split
        · simp; omega
        · rw [List.length_cons]
          refine ⟨by show 0 ≤ 10 - (d : Int); omega, by show 10 - (d : Int) ≤ _; omega, fun h => absurd rfl h⟩
theorem nx_le {l : List Int} {at_ : Nat} {e : Int} (h : at_ ≤ l.length) : (nx l at_ e).2.1 ≤ l.length := by
  unfold nx
  split
  · obtain ⟨h1, h2, _⟩ := dec_size 10 0 (l.drop at_) (by omega)
    rw [List.length_drop] at h2
    show at_ + (dec 10 0 (l.drop at_)).2.1.toNat ≤ _
    omega
  · exact h
section
variable {l : List Int} (hm : l.length ≤ 1000000) (hx : ∀ c ∈ l, 0 ≤ c ∧ c < 256)
include hm hx
theorem next_f (at_ : Nat) (e : Int) (h : at_ ≤ l.length) : Ev (fun k => event_reader_next.f k l (at_ : Int) e) (c3 (nx l at_ e)) := by
  unfold nx
  by_cases c : e = 0
  · rw [if_pos c]
    have hd := int_f (l.drop at_) (by rw [List.length_drop]; omega) (fun z hz => hx z (List.mem_of_mem_drop hz))
    obtain ⟨h1, h2, _⟩ := dec_size 10 0 (l.drop at_) (by omega)
    rw [List.length_drop] at h2
    generalize dec 10 0 (l.drop at_) = p at hd h1 h2 ⊢
    obtain ⟨n, z, e'⟩ := p
    dsimp only at h1 h2
    refine Ev.congr (fun k => by unfold event_reader_next.f; rw [if_pos c, if_pos (by omega), Int.toNat_natCast]) (Ev.bind hd ?_)
    refine Ev.congr (fun k => ?_) (Ev.now _)
    show some (n, wrap64 ((at_ : Int) + z), e') = some (n, ((at_ + z.toNat : Nat) : Int), e')
    rw [wrap64_id (by omega) (by omega), show (at_ : Int) + z = ((at_ + z.toNat : Nat) : Int) by omega]
  · rw [if_neg c]
    exact Ev.congr (fun k => by unfold event_reader_next.f; rw [if_neg c]; rfl) (Ev.now _)
theorem num_f (at_ : Nat) (e : Int) (h : at_ ≤ l.length) : Ev (fun k => interleaveref11_reader_num.f k l (at_ : Int) e) (c3 (nx l at_ e)) := by
  unfold nx
  by_cases c : e = 0
  · rw [if_pos c]
    have hd := refInt_f (l.drop at_) (by rw [List.length_drop]; omega) (fun z hz => hx z (List.mem_of_mem_drop hz))
    obtain ⟨h1, h2, h3⟩ := dec_size 10 0 (l.drop at_) (by omega)
    rw [List.length_drop] at h2
    generalize dec 10 0 (l.drop at_) = p at hd h1 h2 h3 ⊢
    obtain ⟨n, z, e'⟩ := p
    dsimp only at h1 h2 h3
    refine Ev.congr (fun k => by unfold interleaveref11_reader_num.f; rw [if_pos c, if_pos (by omega), Int.toNat_natCast]) (Ev.bind hd ?_)
    refine Ev.congr (fun k => ?_) (Ev.now _)
    show (if e' = 0 then some (n, wrap64 ((at_ : Int) + z), e) else some (0, (at_ : Int), e')) = some (n, ((at_ + z.toNat : Nat) : Int), e')
    by_cases c2 : e' = 0
    · rw [if_pos c2, wrap64_id (by omega) (by omega), show (at_ : Int) + z = ((at_ + z.toNat : Nat) : Int) by omega, c, c2]
    · obtain ⟨h4, h5⟩ := h3 c2
      rw [if_neg c2, h4, h5]
      rfl
  · rw [if_neg c]
    exact Ev.congr (fun k => by unfold interleaveref11_reader_num.f; rw [if_neg c]; rfl) (Ev.now _)
end
/-- m numbers more of a list. -/
def ls (l : List Int) : Nat → Int → List Int → Nat → Int → List Int × Nat × Int
  | 0, _, acc, at_, e => (acc, at_, e)
  | m + 1, last, acc, at_, e => if e = 0 then ls l m (wrap64 (last + (nx l at_ e).1)) (acc ++ [wrap64 (last + (nx l at_ e).1)]) (nx l at_ e).2.1 (nx l at_ e).2.2 else (acc, at_, e)
theorem ls_err (l : List Int) {m : Nat} {last : Int} {acc : List Int} {at_ : Nat} {e : Int} (h : e ≠ 0) : ls l m last acc at_ e = (acc, at_, e) := by
  cases m with
  | zero => rfl
  | succ m => rw [ls, if_neg h]
def l3 (r : List Int × Nat × Int) : List Int × Int × Int := (r.1, (r.2.1 : Int), r.2.2)
/-- A list: its length, and its numbers. -/
def li (l : List Int) (at_ : Nat) (e : Int) : List Int × Nat × Int :=
  let r := nx l at_ e
  if r.2.2 = 0 then (if r.1 < 0 ∨ r.1 > 400 then ([], r.2.1, 11) else ls l r.1.toNat 0 [] r.2.1 r.2.2) else ([], r.2.1, r.2.2)
section
variable {l : List Int} (hm : l.length ≤ 1000000) (hx : ∀ c ∈ l, 0 ≤ c ∧ c < 256)
include hm hx
theorem list_l0 (N : Nat) : ∀ m i (last : Int) (acc : List Int) (at_ : Nat) (e : Int), i + m = N → N ≤ 1000 → at_ ≤ l.length → acc.length ≤ i →
    Ev (fun k => event_reader_list.l0 k (N : Int) acc last (i : Int) l (at_ : Int) e) (l3 (ls l m last acc at_ e)) := by
  intro m
  induction m with
  | zero =>
    intro i last acc at_ e hi hN hat ha
    refine Ev.step (f := fun _ => some _) (fun k => ?_) (Ev.now _)
    simp only [event_reader_list.l0]
    rw [if_neg (by omega)]
    rfl
  | succ m ih =>
    intro i last acc at_ e hi hN hat ha
    rw [ls]
    by_cases c : e = 0
    · rw [if_pos c]
      refine Ev.step (fun k => by simp only [event_reader_list.l0]; rw [if_pos (by omega), if_pos c]) (Ev.bind (next_f hm hx at_ e hat) ?_)
      refine Ev.congr (fun k => ?_) (ih (i + 1) (wrap64 (last + (nx l at_ e).1)) (acc ++ [wrap64 (last + (nx l at_ e).1)]) (nx l at_ e).2.1 (nx l at_ e).2.2 (by omega) hN (nx_le hat) (by rw [List.length_append, List.length_singleton]; omega))
      rw [if_pos (by omega), wrap64_id (x := (i : Int) + 1) (by omega) (by omega)]
      rfl
    · rw [if_neg c]
      refine Ev.step (f := fun _ => some _) (fun k => ?_) (Ev.now _)
      simp only [event_reader_list.l0]
      rw [if_pos (by omega), if_neg c]
      rfl
theorem refList_l0 (N : Nat) : ∀ m i (last : Int) (acc : List Int) (at_ : Nat) (e : Int), i + m = N → N ≤ 1000 → at_ ≤ l.length → acc.length ≤ i →
    Ev (fun k => interleaveref11_reader_list.l0 k (N : Int) acc last (i : Int) l (at_ : Int) e) (l3 (ls l m last acc at_ e)) := by
  intro m
  induction m with
  | zero =>
    intro i last acc at_ e hi hN hat ha
    refine Ev.step (f := fun _ => some _) (fun k => ?_) (Ev.now _)
    simp only [interleaveref11_reader_list.l0]
    rw [if_neg (by omega)]
    rfl
  | succ m ih =>
    intro i last acc at_ e hi hN hat ha
    rw [ls]
    by_cases c : e = 0
    · rw [if_pos c]
      refine Ev.step (fun k => by simp only [interleaveref11_reader_list.l0]; rw [if_pos (by omega), if_pos c]) (Ev.bind (num_f hm hx at_ e hat) ?_)
      refine Ev.congr (fun k => ?_) (ih (i + 1) (wrap64 (last + (nx l at_ e).1)) (acc ++ [wrap64 (last + (nx l at_ e).1)]) (nx l at_ e).2.1 (nx l at_ e).2.2 (by omega) hN (nx_le hat) (by rw [List.length_append, List.length_singleton]; omega))
      rw [if_pos (by omega), wrap64_id (x := (i : Int) + 1) (by omega) (by omega)]
      rfl
    · rw [if_neg c]
      refine Ev.step (f := fun _ => some _) (fun k => ?_) (Ev.now _)
      simp only [interleaveref11_reader_list.l0]
      rw [if_pos (by omega), if_neg c]
      rfl
end
theorem ls_le {l : List Int} : ∀ m (last : Int) (acc : List Int) (at_ : Nat) (e : Int), at_ ≤ l.length → (ls l m last acc at_ e).2.1 ≤ l.length ∧ (ls l m last acc at_ e).1.length ≤ acc.length + m := by
  intro m
  induction m with
  | zero => intro last acc at_ e h; exact ⟨h, Nat.le_refl _⟩
  | succ m ih =>
    intro last acc at_ e h
    rw [ls]
    split
    · obtain ⟨h1, h2⟩ := ih (wrap64 (last + (nx l at_ e).1)) (acc ++ [wrap64 (last + (nx l at_ e).1)]) (nx l at_ e).2.1 (nx l at_ e).2.2 (nx_le h)
      rw [List.length_append, List.length_singleton] at h2
      exact ⟨h1, by omega⟩
    · exact ⟨h, by show acc.length ≤ _; omega⟩
end Go.Proofs.Ytkanlkgmiednfaa.Pl
