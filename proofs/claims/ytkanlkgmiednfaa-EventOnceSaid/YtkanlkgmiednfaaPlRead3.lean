/- Bytes that Read accepts are those of the record. -/
import Derived.Test.YtkanlkgmiednfaaPlRead2
import Derived.Test.YtkanlkgmiednfaaPlRec
namespace Go.Proofs.Ytkanlkgmiednfaa.Pl
open Go.RowKit Go.Proofs.YtkanlkgmiednfaaW.PrintWords Go.Proofs.YtkanlkgmiednfaaW.PrintMore Go.Proofs.Ytkanlkgmiednfaa.A
set_option linter.unusedVariables false
theorem nx_zero {l : List Int} {at_ : Nat} {e : Int} (h : (nx l at_ e).2.2 = 0) : e = 0 := by
  unfold nx at h
  by_cases c : e = 0
  · exact c
  · rw [if_neg c] at h
    exact h
theorem nx_once {l : List Int} (hx : ∀ c ∈ l, 0 ≤ c ∧ c < 256) {at_ : Nat} (hat : at_ ≤ l.length) {e : Int} (h : (nx l at_ e).2.2 = 0) :
    e = 0 ∧ I64 (nx l at_ e).1 ∧ l.take (nx l at_ e).2.1 = l.take at_ ++ enc (nx l at_ e).1 := by
  have he := nx_zero h
  unfold nx at h ⊢
  rw [if_pos he] at h ⊢
  dsimp only at h ⊢
  obtain ⟨h1, h2, rest, h3, h4⟩ := dec_once (l := l.drop at_) (n := (dec 10 0 (l.drop at_)).1) (s := (dec 10 0 (l.drop at_)).2.1) (fun z hz => hx z (List.mem_of_mem_drop hz)) (Prod.ext rfl (Prod.ext rfl h))
  refine ⟨he, ⟨h1, h2⟩, ?_⟩
  rw [h4, Int.toNat_natCast, List.take_add]
  congr 1
  generalize (dec 10 0 (l.drop at_)).1 = n at h3
  rw [h3, List.take_left]
theorem wrap_back {last d : Int} (hd : I64 d) : wrap64 (wrap64 (last + d) - last) = d := by
  unfold I64 at hd
  unfold wrap64
  omega
theorem ls_once {l : List Int} (hx : ∀ c ∈ l, 0 ≤ c ∧ c < 256) : ∀ m (last : Int) (acc : List Int) (at_ : Nat) (e : Int), at_ ≤ l.length → (ls l m last acc at_ e).2.2 = 0 →
    e = 0 ∧ ∃ ys, (ls l m last acc at_ e).1 = acc ++ ys ∧ ys.length = m ∧ l.take (ls l m last acc at_ e).2.1 = l.take at_ ++ encDiffs last ys := by
  intro m
  induction m with
  | zero =>
    intro last acc at_ e hat h
    exact ⟨h, [], by simp [ls], rfl, by simp [ls, encDiffs]⟩
  | succ m ih =>
    intro last acc at_ e hat h
    by_cases c : e = 0
    · rw [ls, if_pos c] at h ⊢
      obtain ⟨h1, ys, h2, h3, h4⟩ := ih _ _ _ _ (nx_le hat) h
      obtain ⟨_, h5, h6⟩ := nx_once hx hat h1
      refine ⟨c, wrap64 (last + (nx l at_ e).1) :: ys, by rw [h2, List.append_assoc]; rfl, by rw [List.length_cons, h3], ?_⟩
      rw [h4, h6, encDiffs, wrap_back h5, List.append_assoc]
    · rw [ls_err l c] at h
      exact absurd h c
theorem li_once {l : List Int} (hx : ∀ c ∈ l, 0 ≤ c ∧ c < 256) {at_ : Nat} (hat : at_ ≤ l.length) {e : Int} (h : (li l at_ e).2.2 = 0) :
    e = 0 ∧ l.take (li l at_ e).2.1 = l.take at_ ++ encL (li l at_ e).1 := by
  unfold li at h ⊢
  dsimp only at h ⊢
  by_cases c : (nx l at_ e).2.2 = 0
  · rw [if_pos c] at h ⊢
    obtain ⟨h1, h2, h3⟩ := nx_once hx hat c
    by_cases c1 : (nx l at_ e).1 < 0 ∨ (nx l at_ e).1 > 400
    · rw [if_pos c1] at h
      exact absurd h (by simp)
    · rw [if_neg c1] at h ⊢
      obtain ⟨_, ys, h4, h5, h6⟩ := ls_once hx _ _ _ _ _ (nx_le hat) h
      refine ⟨h1, ?_⟩
      rw [h6, h4, List.nil_append, h3]
      unfold encL
      rw [List.append_assoc, show (ys.length : Int) = (nx l at_ e).1 by omega]
  · rw [if_neg c] at h
    exact absurd h c
end Go.Proofs.Ytkanlkgmiednfaa.Pl
