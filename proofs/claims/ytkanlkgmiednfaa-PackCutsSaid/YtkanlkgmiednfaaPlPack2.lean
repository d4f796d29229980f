/- The packed stream 'pk': what both Pack functions return; the sanity check of layer 12. -/
import Derived.Test.YtkanlkgmiednfaaPlPack
import Derived.Test.YtkanlkgmiednfaaAxinterleavelaw12awake
namespace Go.Proofs.Ytkanlkgmiednfaa.Pl
open Go.RowKit Go.Proofs.YtkanlkgmiednfaaW.PrintWords Go.Proofs.YtkanlkgmiednfaaW.PrintMore Go.Proofs.Ytkanlkgmiednfaa.A
set_option linter.unusedVariables false
/-- A literal item of the bytes from s to e, if there are any. -/
def lit (b : List Int) (s e : Nat) : List Int := if s < e then (((e - s - 1 : Nat) : Int)) :: (b.take e).drop s else []
def pk (b : List Int) : Nat → Nat → Nat → List Int
  | 0, _, _ => []
  | n + 1, i, s =>
    if i < b.length then
      (if (lg b i).1 < 3 then (if i + 1 - s = 128 then lit b s (i + 1) ++ pk b n (i + 1) (i + 1) else pk b n (i + 1) s)
      else lit b s i ++ ([((((lg b i).1 + 125 : Nat)) : Int), ((lg b i).2 : Int)] ++ pk b n (i + (lg b i).1) (i + (lg b i).1)))
    else lit b s b.length
def packS (b : List Int) : List Int := pk b (b.length + 1) 0 0
theorem lit_length {b : List Int} {s e : Nat} (he : e ≤ b.length) : (lit b s e).length = if s < e then e - s + 1 else 0 := by
  unfold lit
  split
  · rw [List.length_cons, List.length_drop, List.length_take]; omega
  · rfl
theorem lg_bounds {b : List Int} {i : Nat} (hi : i ≤ b.length) (h : ¬ (lg b i).1 < 3) : (lg b i).1 ≤ 130 ∧ i + (lg b i).1 ≤ b.length ∧ 1 ≤ (lg b i).2 ∧ (lg b i).2 ≤ 255 ∧ (lg b i).2 ≤ i := by
  rcases lg_good hi with h0 | ⟨h1, h2, h3, h4, h5, _⟩
  · omega
  · exact ⟨h1, h2, h3, h4, h5⟩
/-- A packed stream is at most one byte longer for each 128 bytes that were begun. -/
theorem pk_length (b : List Int) : ∀ n i s, s ≤ i → i ≤ b.length → i - s < 128 → b.length - i < n → (pk b n i s).length ≤ (b.length - s) + (b.length - s + 127) / 128 := by
  intro n
  induction n with
  | zero => intro i s _ _ _ h; omega
  | succ n ih =>
    intro i s hs hi hp hn
    rw [pk]
    by_cases c : i < b.length
    · rw [if_pos c]
      by_cases c1 : (lg b i).1 < 3
      · rw [if_pos c1]
        by_cases c2 : i + 1 - s = 128
        · rw [if_pos c2, List.length_append, lit_length (by omega), if_pos (by omega)]
          have := ih (i + 1) (i + 1) (by omega) (by omega) (by omega) (by omega)
          omega
        · rw [if_neg c2]
          have := ih (i + 1) s (by omega) (by omega) (by omega) (by omega)
          omega
      · rw [if_neg c1, List.length_append, List.length_append, lit_length (by omega)]
        obtain ⟨g1, g2, _⟩ := lg_bounds (by omega) c1
        have := ih (i + (lg b i).1) (i + (lg b i).1) (by omega) (by omega) (by omega) (by omega)
        simp only [List.length_cons, List.length_nil]
        generalize (lg b i).1 = l at *
        split <;> omega
    · rw [if_neg c, lit_length (by omega)]
      split <;> omega
theorem packS_length (b : List Int) : (packS b).length ≤ b.length + (b.length + 127) / 128 := by
  have := pk_length b (b.length + 1) 0 0 (by omega) (by omega) (by omega) (by omega)
  simpa [packS] using this
theorem flush_is {b out : List Int} {s e : Nat} (he : e ≤ b.length) (h1 : e - s ≤ 128) (hl : out.length + (lit b s e).length < 140737488355328) : pack_Pack.flush b out (s : Int) (e : Int) = some (out ++ lit b s e) := by
  rw [lit_length he] at hl
  unfold pack_Pack.flush lit
  by_cases c : s < e
  · rw [if_pos c] at hl
    rw [if_pos (by omega), if_pos (by omega), if_pos c]
    rw [show ((e : Int) - (s : Int) - 1) % 256 = ((e - s - 1 : Nat) : Int) by omega]
    simp
  · rw [if_neg (by omega), if_neg c, List.append_nil]
theorem ev_all {α : Type} {f : Nat → Nat → Option α} {r : Nat → α} : ∀ n, (∀ i, i < n → Ev (fun k => f k i) (r i)) → ∃ K, ∀ k, K ≤ k → ∀ i, i < n → f k i = some (r i) := by
  intro n
  induction n with
  | zero => intro _; exact ⟨0, fun k _ i h => by omega⟩
  | succ n ih =>
    intro h
    obtain ⟨K, hK⟩ := ih (fun i hi => h i (by omega))
    obtain ⟨K2, hK2⟩ := h n (by omega)
    refine ⟨max K K2, fun k hk i hi => ?_⟩
    by_cases e : i = n
    · subst e
      exact hK2 k (by omega)
    · exact hK k (by omega) i (by omega)
theorem go_is {b : List Int} {k : Nat} (hK : ∀ i, i < b.length → pack_longest.f k b (i : Int) = some (((lg b i).1 : Int), ((lg b i).2 : Int))) :
    ∀ n m i s out, s ≤ i → i ≤ b.length → i - s < 128 → b.length - i < n → n ≤ m → out.length + (pk b n i s).length + 3 < 140737488355328 →
      pack_Pack.go k b m (i : Int) (s : Int) out = some (out ++ pk b n i s) := by
  intro n
  induction n with
  | zero => intro m i s out _ _ _ h; omega
  | succ n ih =>
    intro m i s out hs hi hp hn hm hl
    obtain ⟨m, rfl⟩ : ∃ m', m = m' + 1 := ⟨m - 1, by omega⟩
    rw [pack_Pack.go]
    rw [pk] at hl ⊢
    by_cases c : i < b.length
    · rw [if_pos c] at hl ⊢
      rw [if_pos (by omega), hK i c, Option.bind_some]
      have e1 : (i : Int) + 1 = ((i + 1 : Nat) : Int) := by omega
      by_cases c1 : (lg b i).1 < 3
      · rw [if_pos c1] at hl ⊢
        rw [if_pos (by show ((lg b i).1 : Int) < 3; omega), e1]
        by_cases c2 : i + 1 - s = 128
        · rw [if_pos c2] at hl ⊢
          rw [List.length_append] at hl
          rw [if_pos (by omega), flush_is (by omega) (by omega) (by omega), Option.bind_some, ih m (i + 1) (i + 1) _ (by omega) (by omega) (by omega) (by omega) (by omega) (by rw [List.length_append]; omega), List.append_assoc]
        · rw [if_neg c2] at hl ⊢
          rw [if_neg (by omega)]
          exact ih m (i + 1) s out (by omega) (by omega) (by omega) (by omega) (by omega) (by omega)
      · rw [if_neg c1] at hl ⊢
        obtain ⟨g1, g2, _, g4, _⟩ := lg_bounds (by omega) c1
        rw [List.length_append, List.length_append] at hl
        simp only [List.length_cons, List.length_nil] at hl
        have e2 : (i : Int) + ((lg b i).1 : Int) = ((i + (lg b i).1 : Nat) : Int) := by omega
        have e3 : ((lg b i).1 : Int) - 3 + 128 = (((lg b i).1 + 125 : Nat) : Int) := by omega
        have e4 : ((lg b i).2 : Int) % 256 = ((lg b i).2 : Int) := by omega
        rw [if_neg (by show ¬ ((lg b i).1 : Int) < 3; omega), if_pos (by constructor <;> (show ((_ : Int) ≤ _); omega)), flush_is (by omega) (by omega) (by omega), Option.bind_some, if_pos (by rw [List.length_append]; omega)]
        show pack_Pack.go k b m ((i : Int) + ((lg b i).1 : Int)) ((i : Int) + ((lg b i).1 : Int)) (out ++ lit b s i ++ [((lg b i).1 : Int) - 3 + 128, ((lg b i).2 : Int) % 256]) = _
        rw [e2, e3, e4, ih m _ _ _ (by omega) (by omega) (by omega) (by omega) (by omega) (by rw [List.length_append, List.length_append]; simp only [List.length_cons, List.length_nil]; omega), List.append_assoc, List.append_assoc]
    · rw [if_neg c] at hl ⊢
      obtain rfl : i = b.length := by omega
      rw [if_neg (by omega), flush_is (by omega) (by omega) (by omega)]
theorem pack_f (b : List Int) (hm : b.length ≤ 1000000000000) : Ev (fun k => pack_Pack.f k b) (packS b) := by
  obtain ⟨K, hK⟩ := ev_all (f := fun k i => pack_longest.f k b (i : Int)) (r := fun i => (((lg b i).1 : Int), ((lg b i).2 : Int))) b.length (fun i hi => longest_f b hm i (by omega))
  refine ⟨max K (b.length + 1), fun k hk => ?_⟩
  have h1 := packS_length b
  have := go_is (hK k (by omega)) (b.length + 1) k 0 0 [] (by omega) (by omega) (by omega) (by omega) (by omega) (by simp only [List.length_nil]; unfold packS at h1; omega)
  exact this
theorem refLit_is {b out : List Int} {s e : Nat} (hs : s ≤ e) (he : e ≤ b.length) (h1 : e - s ≤ 128) (hl : out.length + (lit b s e).length < 140737488355328) : interleaveref11_literal.f out ((b.take e).drop s) = some (out ++ lit b s e) := by
  have hlen : ((b.take e).drop s).length = e - s := by rw [List.length_drop, List.length_take]; omega
  rw [lit_length he] at hl
  unfold interleaveref11_literal.f lit
  rw [hlen]
  by_cases c : s < e
  · rw [if_pos c] at hl
    rw [if_neg (by omega), if_pos (by omega), if_pos c, wrap64_id (by omega) (by omega)]
    show (if (out ++ [(((e - s : Nat) : Int) - 1) % 256]).length + (e - s) < 140737488355328 then _ else _) = _
    rw [if_pos (by simp; omega), show (((e - s : Nat) : Int) - 1) % 256 = ((e - s - 1 : Nat) : Int) by omega]
    simp
  · rw [if_pos (by omega), if_neg c, List.append_nil]
theorem take_snoc {b : List Int} {i s : Nat} (hi : i < b.length) (hs : s ≤ i) : (b.take i).drop s ++ [rd b (i : Int)] = (b.take (i + 1)).drop s := by
  rw [List.take_add_one, List.getElem?_eq_getElem hi, List.drop_append_of_le_length (by rw [List.length_take]; omega), rd_at hi]
  rfl
theorem wrap_add {i l : Nat} (h : i + l ≤ 1000000000000) : wrap64 ((i : Int) + (l : Int)) = ((i + l : Nat) : Int) := by rw [wrap64_id (by omega) (by omega)]; omega
theorem wrap_125 {l : Nat} (h : l ≤ 130) : wrap64 ((l : Int) + 125) % 256 = ((l + 125 : Nat) : Int) := by rw [wrap64_id (by omega) (by omega)]; omega
theorem mod_byte {d : Nat} (h : d ≤ 255) : (d : Int) % 256 = (d : Int) := by omega
theorem refPack_l0 {b : List Int} (hm : b.length ≤ 1000000000000) :
    ∀ n i s out, s ≤ i → i ≤ b.length → i - s < 128 → b.length - i < n → out.length + (pk b n i s).length + 3 < 140737488355328 →
      Ev (fun k => interleaveref11_Pack.l0 k b out ((b.take i).drop s) (i : Int)) (out ++ pk b n i s) := by
  intro n
  induction n with
  | zero => intro i s out _ _ _ h; omega
  | succ n ih =>
    intro i s out hs hi hp hn hl
    rw [pk] at hl ⊢
    by_cases c : i < b.length
    · rw [if_pos c] at hl ⊢
      have hM := match_f b hm i (by omega)
      have e1 : Aside0 (wrap64 ((i : Int) + 1) = ((i + 1 : Nat) : Int)) := ⟨by rw [wrap64_id (by omega) (by omega)]; omega⟩
      refine Ev.step (fun k => by simp only [interleaveref11_Pack.l0]; rw [if_pos (by omega)]) (Ev.bind hM ?_)
      have hG := lg_bounds (b := b) (i := i) (by omega)
      clear hM
      generalize lg b i = p at hG hl ⊢
      obtain ⟨l, d⟩ := p
      dsimp only at hG hl ⊢
      by_cases c1 : l < 3
      · rw [if_pos c1] at hl ⊢
        rw [show mt (l, d) = (0, 0) from if_pos c1]
        refine Ev.congr (f := fun k => (if ((b.take (i + 1)).drop s).length = 128 then ((interleaveref11_literal.f out ((b.take (i + 1)).drop s)).bind fun t269 => (interleaveref11_Pack.l0 k b t269 ([] : List Int) ((i + 1 : Nat) : Int))) else (interleaveref11_Pack.l0 k b out ((b.take (i + 1)).drop s) ((i + 1 : Nat) : Int)))) (fun k => ?_) ?_
        · show (if ((0 : Nat) : Int) > 0 then _ else _) = _
          rw [if_neg (by omega), if_pos (by omega), if_pos (by rw [List.length_drop, List.length_take]; omega), take_snoc c hs, e1.out, Option.bind_some]
          by_cases c3 : ((b.take (i + 1)).drop s).length = 128
          · rw [if_pos (by omega), if_pos c3]
          · rw [if_neg (by omega), if_neg c3]
        · have hlen : ((b.take (i + 1)).drop s).length = i + 1 - s := by rw [List.length_drop, List.length_take]; omega
          rw [hlen]
          by_cases c2 : i + 1 - s = 128
          · rw [if_pos c2] at hl ⊢
            rw [List.length_append] at hl
            refine Ev.congr (fun k => by rw [if_pos c2, refLit_is (by omega) (by omega) (by omega) (by omega), Option.bind_some]) ?_
            have := ih (i + 1) (i + 1) (out ++ lit b s (i + 1)) (by omega) (by omega) (by omega) (by omega) (by rw [List.length_append]; omega)
            rw [List.drop_of_length_le (by rw [List.length_take]; omega), List.append_assoc] at this
            exact this
          · rw [if_neg c2] at hl ⊢
            exact Ev.congr (fun k => by rw [if_neg c2]) (ih (i + 1) s out (by omega) (by omega) (by omega) (by omega) (by omega))
      · rw [if_neg c1] at hl ⊢
        obtain ⟨g1, g2, _, g4, _⟩ := hG c1
        rw [show mt (l, d) = (l, d) from if_neg c1]
        rw [List.length_append, List.length_append] at hl
        simp only [List.length_cons, List.length_nil] at hl
        have e2 := Aside0.mk (wrap_add (i := i) (l := l) (by omega))
        have e3 := Aside0.mk (wrap_125 g1)
        have e4 := Aside0.mk (mod_byte g4)
        have := Aside0.mk (ih (i + l) (i + l) (out ++ lit b s i ++ [((l + 125 : Nat) : Int), (d : Int)]) (by omega) (by omega) (by omega) (by omega) (by rw [List.length_append, List.length_append]; simp only [List.length_cons, List.length_nil]; omega))
        have this := this.out
        rw [List.drop_of_length_le (by rw [List.length_take]; omega)] at this
        rw [show out ++ (lit b s i ++ ([((l + 125 : Nat) : Int), (d : Int)] ++ pk b n (i + l) (i + l))) = out ++ lit b s i ++ [((l + 125 : Nat) : Int), (d : Int)] ++ pk b n (i + l) (i + l) by simp only [List.append_assoc]]
        refine Ev.congr (fun k => ?_) this
        clear this
        show (if (l : Int) > 0 then _ else _) = _
        rw [if_pos (by omega), refLit_is (by omega) (by omega) (by omega) (by omega), Option.bind_some, Option.bind_some, if_pos (by rw [List.length_append]; simp only [List.length_cons, List.length_nil]; omega)]
        show interleaveref11_Pack.l0 k b (out ++ lit b s i ++ [wrap64 ((l : Int) + 125) % 256, (d : Int) % 256]) [] (wrap64 ((i : Int) + (l : Int))) = _
        rw [e2.out, e3.out, e4.out]
    · rw [if_neg c] at hl ⊢
      obtain rfl : i = b.length := by omega
      refine Ev.step (f := fun _ => some _) (fun k => ?_) (Ev.now _)
      simp only [interleaveref11_Pack.l0]
      rw [if_neg (by omega), refLit_is (by omega) (by omega) (by omega) (by omega)]
      rfl
theorem refPack_f (b : List Int) (hm : b.length ≤ 1000000000000) : Ev (fun k => interleaveref11_Pack.f k b) (packS b) := by
  have h1 := packS_length b
  exact refPack_l0 hm (b.length + 1) 0 0 [] (by omega) (by omega) (by omega) (by omega) (by simp only [List.length_nil]; unfold packS at h1; omega)
theorem lg_zero (b : List Int) : lg b 0 = (0, 0) := by rw [lg_def]; exact bs_zero _ _ _ _
theorem pack_awake : Ev (fun k => interleavelaw12_awake.f k) true := by
  have h := pack_f [7] (by simp)
  have e : packS [7] = [0, 7] := by
    unfold packS
    rw [show [(7 : Int)].length + 1 = 1 + 1 from rfl, pk, if_pos (by decide), lg_zero, if_pos (by decide), if_neg (by decide), pk, if_neg (by decide)]
    rfl
  rw [e] at h
  exact Ev.bind h ⟨0, fun k _ => by simp [rd]⟩
end Go.Proofs.Ytkanlkgmiednfaa.Pl
