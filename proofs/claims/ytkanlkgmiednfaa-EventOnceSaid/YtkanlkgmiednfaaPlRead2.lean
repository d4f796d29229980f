/- What Read computes, of the program and of the reference. -/
import Derived.Test.YtkanlkgmiednfaaPlRead
namespace Go.Proofs.Ytkanlkgmiednfaa.Pl
open Go.RowKit Go.Proofs.YtkanlkgmiednfaaW.PrintWords Go.Proofs.YtkanlkgmiednfaaW.PrintMore Go.Proofs.Ytkanlkgmiednfaa.A
set_option linter.unusedVariables false
theorem list_err {l : List Int} {n : Int} {at_ : Nat} {e : Int} (h : e ≠ 0) : Ev (fun k => event_reader_list.l0 k n [] 0 0 l (at_ : Int) e) (l3 ([], at_, e)) := by
  refine Ev.step (f := fun _ => some _) (fun k => ?_) (Ev.now _)
  simp only [event_reader_list.l0]
  rw [if_neg h]
  split <;> rfl
theorem list {l : List Int} (hm : l.length ≤ 1000000) (hx : ∀ c ∈ l, 0 ≤ c ∧ c < 256) (at_ : Nat) (e : Int) (h : at_ ≤ l.length) : Ev (fun k => event_reader_list.f k l (at_ : Int) e) (l3 (li l at_ e)) := by
  have hn := next_f hm hx at_ e h
  have hle := nx_le (l := l) (e := e) h
  unfold li
  generalize nx l at_ e = p at hn hle ⊢
  obtain ⟨n, a, e'⟩ := p
  dsimp only at hle ⊢
  refine Ev.bind hn ?_
  have j1 : ∀ {e2 : Int} {r : List Int × Int × Int}, Ev (fun k => event_reader_list.l0 k n [] 0 0 l (a : Int) e2) r → Ev (fun k => event_reader_list.j1 k n l (a : Int) e2) r := fun hh => Ev.step (fun k => by simp only [event_reader_list.j1]) hh
  have j0t : ∀ {r : List Int × Int × Int}, Ev (fun k => event_reader_list.l0 k n [] 0 0 l (a : Int) 11) r → Ev (fun k => event_reader_list.j0 k n true l (a : Int) e') r := fun hh => Ev.step (fun k => by simp only [event_reader_list.j0]; rw [if_pos trivial]) (j1 hh)
  have j0f : ∀ {r : List Int × Int × Int}, Ev (fun k => event_reader_list.l0 k n [] 0 0 l (a : Int) e') r → Ev (fun k => event_reader_list.j0 k n false l (a : Int) e') r := fun hh => Ev.step (fun k => by simp only [event_reader_list.j0]; rw [if_neg (by simp)]) (j1 hh)
  by_cases c : e' = 0
  · rw [if_pos c]
    by_cases c1 : n < 0
    · rw [if_pos (.inl c1)]
      exact Ev.congr (fun k => by show (if e' = 0 then _ else _) = _; rw [if_pos c]; show (if n < 0 then _ else _) = _; rw [if_pos c1]; rfl) (j0t (list_err (by decide)))
    · by_cases c2 : n > 400
      · rw [if_pos (.inr c2)]
        exact Ev.congr (fun k => by show (if e' = 0 then _ else _) = _; rw [if_pos c]; show (if n < 0 then _ else _) = _; rw [if_neg c1]; show event_reader_list.j0 k n (decide (n > 400)) l (a : Int) e' = _; rw [decide_eq_true c2]) (j0t (list_err (by decide)))
      · rw [if_neg (by omega)]
        obtain ⟨N, rfl⟩ := Int.eq_ofNat_of_zero_le (show 0 ≤ n by omega)
        have := list_l0 hm hx N N 0 0 [] a e' (by omega) (by omega) hle (Nat.le_refl _)
        exact Ev.congr (fun k => by show (if e' = 0 then _ else _) = _; rw [if_pos c]; show (if (N : Int) < 0 then _ else _) = _; rw [if_neg c1]; show event_reader_list.j0 k (N : Int) (decide ((N : Int) > 400)) l (a : Int) e' = _; rw [decide_eq_false c2]) (j0f this)
  · rw [if_neg c]
    exact Ev.congr (fun k => by show (if e' = 0 then _ else _) = _; rw [if_neg c]; rfl) (j0f (list_err c))
theorem refList_err {l : List Int} {n : Int} {at_ : Nat} {e : Int} (h : e ≠ 0) : Ev (fun k => interleaveref11_reader_list.l0 k n [] 0 0 l (at_ : Int) e) (l3 ([], at_, e)) := by
  refine Ev.step (f := fun _ => some _) (fun k => ?_) (Ev.now _)
  simp only [interleaveref11_reader_list.l0]
  rw [if_neg h]
  split <;> rfl
theorem refList {l : List Int} (hm : l.length ≤ 1000000) (hx : ∀ c ∈ l, 0 ≤ c ∧ c < 256) (at_ : Nat) (e : Int) (h : at_ ≤ l.length) : Ev (fun k => interleaveref11_reader_list.f k l (at_ : Int) e) (l3 (li l at_ e)) := by
  have hn := num_f hm hx at_ e h
  have hle := nx_le (l := l) (e := e) h
  unfold li
  generalize nx l at_ e = p at hn hle ⊢
  obtain ⟨n, a, e'⟩ := p
  dsimp only at hle ⊢
  refine Ev.bind hn ?_
  have j1 : ∀ {e2 : Int} {r : List Int × Int × Int}, Ev (fun k => interleaveref11_reader_list.l0 k n [] 0 0 l (a : Int) e2) r → Ev (fun k => interleaveref11_reader_list.j1 k n l (a : Int) e2) r := fun hh => Ev.step (fun k => by simp only [interleaveref11_reader_list.j1]) hh
  have j0t : ∀ {r : List Int × Int × Int}, Ev (fun k => interleaveref11_reader_list.l0 k n [] 0 0 l (a : Int) 11) r → Ev (fun k => interleaveref11_reader_list.j0 k n true l (a : Int) e') r := fun hh => Ev.step (fun k => by simp only [interleaveref11_reader_list.j0]; rw [if_pos trivial]) (j1 hh)
  have j0f : ∀ {r : List Int × Int × Int}, Ev (fun k => interleaveref11_reader_list.l0 k n [] 0 0 l (a : Int) e') r → Ev (fun k => interleaveref11_reader_list.j0 k n false l (a : Int) e') r := fun hh => Ev.step (fun k => by simp only [interleaveref11_reader_list.j0]; rw [if_neg (by simp)]) (j1 hh)
  by_cases c : e' = 0
  · rw [if_pos c]
    by_cases c1 : n < 0
    · rw [if_pos (.inl c1)]
      exact Ev.congr (fun k => by show (if e' = 0 then _ else _) = _; rw [if_pos c]; show (if n < 0 then _ else _) = _; rw [if_pos c1]; rfl) (j0t (refList_err (by decide)))
    · by_cases c2 : n > 400
      · rw [if_pos (.inr c2)]
        exact Ev.congr (fun k => by show (if e' = 0 then _ else _) = _; rw [if_pos c]; show (if n < 0 then _ else _) = _; rw [if_neg c1]; show interleaveref11_reader_list.j0 k n (decide (n > 400)) l (a : Int) e' = _; rw [decide_eq_true c2]) (j0t (refList_err (by decide)))
      · rw [if_neg (by omega)]
        obtain ⟨N, rfl⟩ := Int.eq_ofNat_of_zero_le (show 0 ≤ n by omega)
        have := refList_l0 hm hx N N 0 0 [] a e' (by omega) (by omega) hle (Nat.le_refl _)
        exact Ev.congr (fun k => by show (if e' = 0 then _ else _) = _; rw [if_pos c]; show (if (N : Int) < 0 then _ else _) = _; rw [if_neg c1]; show interleaveref11_reader_list.j0 k (N : Int) (decide ((N : Int) > 400)) l (a : Int) e' = _; rw [decide_eq_false c2]) (j0f this)
  · rw [if_neg c]
    exact Ev.congr (fun k => by show (if e' = 0 then _ else _) = _; rw [if_neg c]; rfl) (j0f (refList_err c))
theorem li_le {l : List Int} {at_ : Nat} {e : Int} (h : at_ ≤ l.length) : (li l at_ e).2.1 ≤ l.length ∧ (li l at_ e).1.length ≤ 400 := by
  have hle := nx_le (l := l) (e := e) h
  unfold li
  dsimp only
  split
  · split
    · exact ⟨hle, by simp⟩
    · obtain ⟨h1, h2⟩ := ls_le (l := l) (nx l at_ e).1.toNat 0 [] (nx l at_ e).2.1 (nx l at_ e).2.2 hle
      rw [List.length_nil] at h2
      exact ⟨h1, by omega⟩
  · exact ⟨hle, by simp⟩
/-- The steps of Read. -/
def r0 (l : List Int) := nx l 0 0
def r1 (l : List Int) := nx l (r0 l).2.1 (r0 l).2.2
def r2 (l : List Int) := nx l (r1 l).2.1 (r1 l).2.2
def r3 (l : List Int) := nx l (r2 l).2.1 (r2 l).2.2
def r4 (l : List Int) := nx l (r3 l).2.1 (r3 l).2.2
def r5 (l : List Int) := li l (r4 l).2.1 (r4 l).2.2
def r6 (l : List Int) := li l (r5 l).2.1 (r5 l).2.2
/-- What Read tells. -/
def rdS (l : List Int) (th sq : Int) : Int × Int × Int × Int × Int × Int × List Int × List Int × Int × Int :=
  if (r6 l).2.2 = 0 then (wrap64 ((r0 l).1 + sq), th, (r1 l).1, (r2 l).1, (r3 l).1, (r4 l).1, (r5 l).1, (r6 l).1, ((r6 l).2.1 : Int), 0) else (0, 0, 0, 0, 0, 0, [], [], 0, (r6 l).2.2)
theorem r_le (l : List Int) : (r0 l).2.1 ≤ l.length ∧ (r1 l).2.1 ≤ l.length ∧ (r2 l).2.1 ≤ l.length ∧ (r3 l).2.1 ≤ l.length ∧ (r4 l).2.1 ≤ l.length ∧ (r5 l).2.1 ≤ l.length ∧ (r6 l).2.1 ≤ l.length := by
  have h0 : (r0 l).2.1 ≤ l.length := nx_le (Nat.zero_le _)
  have h1 : (r1 l).2.1 ≤ l.length := nx_le h0
  have h2 : (r2 l).2.1 ≤ l.length := nx_le h1
  have h3 : (r3 l).2.1 ≤ l.length := nx_le h2
  have h4 : (r4 l).2.1 ≤ l.length := nx_le h3
  have h5 : (r5 l).2.1 ≤ l.length := (li_le h4).1
  exact ⟨h0, h1, h2, h3, h4, h5, (li_le h5).1⟩
theorem read_f {l : List Int} (hm : l.length ≤ 1000000) (hx : ∀ c ∈ l, 0 ≤ c ∧ c < 256) (th sq : Int) : Ev (fun k => event_Read.f k l th sq) (rdS l th sq) := by
  obtain ⟨h0, h1, h2, h3, h4, h5, h6⟩ := r_le l
  refine Ev.bind (next_f hm hx 0 0 (Nat.zero_le _)) (Ev.bind (next_f hm hx (r0 l).2.1 (r0 l).2.2 h0) (Ev.bind (next_f hm hx (r1 l).2.1 (r1 l).2.2 h1) (Ev.bind (next_f hm hx (r2 l).2.1 (r2 l).2.2 h2) (Ev.bind (next_f hm hx (r3 l).2.1 (r3 l).2.2 h3) (Ev.bind (list hm hx (r4 l).2.1 (r4 l).2.2 h4) (Ev.bind (list hm hx (r5 l).2.1 (r5 l).2.2 h5) ?_))))))
  refine Ev.congr (fun k => ?_) (Ev.now _)
  unfold rdS
  show (if (r6 l).2.2 = 0 then _ else _) = some (if (r6 l).2.2 = 0 then _ else _)
  split <;> rfl
theorem refRead_f {l : List Int} (hm : l.length ≤ 1000000) (hx : ∀ c ∈ l, 0 ≤ c ∧ c < 256) (th sq : Int) : Ev (fun k => interleaveref11_Read.f k l th sq) (rdS l th sq) := by
  obtain ⟨h0, h1, h2, h3, h4, h5, h6⟩ := r_le l
  refine Ev.bind (num_f hm hx 0 0 (Nat.zero_le _)) (Ev.bind (num_f hm hx (r0 l).2.1 (r0 l).2.2 h0) (Ev.bind (num_f hm hx (r1 l).2.1 (r1 l).2.2 h1) (Ev.bind (num_f hm hx (r2 l).2.1 (r2 l).2.2 h2) (Ev.bind (num_f hm hx (r3 l).2.1 (r3 l).2.2 h3) (Ev.bind (refList hm hx (r4 l).2.1 (r4 l).2.2 h4) (Ev.bind (refList hm hx (r5 l).2.1 (r5 l).2.2 h5) ?_))))))
  refine Ev.congr (fun k => ?_) (Ev.now _)
  unfold rdS
  show (if (r6 l).2.2 = 0 then some (wrap64 (sq + (r0 l).1), _) else _) = some (if (r6 l).2.2 = 0 then (wrap64 ((r0 l).1 + sq), _) else _)
  rw [Int.add_comm sq]
  split <;> rfl
end Go.Proofs.Ytkanlkgmiednfaa.Pl
