/- What is packed of a run of equal bytes. -/
import Derived.Test.YtkanlkgmiednfaaPlPack2
namespace Go.Proofs.Ytkanlkgmiednfaa.Pl
open Go.RowKit Go.Proofs.YtkanlkgmiednfaaW.PrintWords Go.Proofs.YtkanlkgmiednfaaW.PrintMore Go.Proofs.Ytkanlkgmiednfaa.A
set_option linter.unusedVariables false
theorem rd_run {x : Int} {n i : Nat} (h : i < n) : rd (List.replicate n x) (i : Int) = x := by rw [rd_at (by simpa using h)]; simp
theorem ml_run {x : Int} {n i d : Nat} (hd : d ≤ i) : ∀ m l, i + l ≤ n → ml (List.replicate n x) i d m l = l + min m (n - (i + l)) := by
  intro m
  induction m with
  | zero => intro l _; rw [ml_zero]; omega
  | succ m ih =>
    intro l hl
    rw [ml_succ]
    by_cases c : i + l < n
    · rw [if_pos ⟨by simpa using c, by rw [rd_run c, rd_run (by omega)]⟩, ih (l + 1) (by omega)]
      omega
    · rw [if_neg (fun h => c (by simpa using h.1))]
      omega
/-- A best copy stays the best. -/
theorem bs_run {x : Int} {n i : Nat} (hi : i ≤ n) : ∀ f d p, d + f ≤ i + 1 → min 130 (n - i) ≤ (p : Nat × Nat).1 → bs (List.replicate n x) i f d p = p := by
  intro f
  induction f with
  | zero => intro d p _ _; exact bs_zero _ _ _ _
  | succ f ih =>
    intro d p hd hp
    rw [bs_succ, ml_run (by omega) 130 0 (by omega), up_def, if_neg (by omega)]
    exact ih (d + 1) p (by omega) hp
theorem lg_run {x : Int} {n i : Nat} (h0 : 1 ≤ i) (hi : i < n) : lg (List.replicate n x) i = (min 130 (n - i), 1) := by
  rw [lg_def]
  obtain ⟨f, hf⟩ : ∃ f, min i 255 = f + 1 := ⟨min i 255 - 1, by omega⟩
  rw [hf, bs_succ, ml_run (by omega) 130 0 (by omega), up_def, if_pos (by show 0 < _; omega), Nat.zero_add]
  exact bs_run (by omega) f 2 _ (by omega) (by show min 130 (n - i) ≤ min 130 (n - (i + 0)); omega)
/-- The copies of a run of k bytes, and the bytes that are left. -/
def runs (x : Int) : Nat → Nat → List Int
  | 0, _ => []
  | f + 1, k => if 3 ≤ k then [((min k 130 + 125 : Nat) : Int), 1] ++ runs x f (k - min k 130) else if 0 < k then ((k - 1 : Nat) : Int) :: List.replicate k x else []
theorem drop_run {x : Int} {n e s : Nat} (he : e ≤ n) : ((List.replicate n x).take e).drop s = List.replicate (e - s) x := by
  rw [List.take_replicate, List.drop_replicate, Nat.min_eq_left he]
/-- Behind the first byte. -/
theorem pk_run {x : Int} {n : Nat} : ∀ f k i g, i + k = n → 1 ≤ i → k < f → k < g → 3 ≤ k ∨ k < 3 → pk (List.replicate n x) g i i = runs x f k := by
  intro f
  induction f with
  | zero => intro k i g _ _ h; omega
  | succ f ih =>
    intro k i g hk hi hf hg _
    rw [runs]
    obtain ⟨g, rfl⟩ : ∃ g', g = g' + 1 := ⟨g - 1, by omega⟩
    have hlen : (List.replicate n x).length = n := List.length_replicate
    by_cases c : 3 ≤ k
    · rw [if_pos c, pk, hlen, if_pos (by omega), lg_run hi (by omega)]
      dsimp only
      rw [if_neg (by omega), show lit (List.replicate n x) i i = [] by unfold lit; rw [if_neg (by omega)], List.nil_append, show min 130 (n - i) = min k 130 by omega, ih (k - min k 130) (i + min k 130) g (by omega) (by omega) (by omega) (by omega) (by omega)]
      rfl
    · rw [if_neg c]
      have step : ∀ m j g', j + m = n → m < g' → m ≤ k → i ≤ j → pk (List.replicate n x) g' j i = lit (List.replicate n x) i n := by
        intro m
        induction m with
        | zero =>
          intro j g' hj hg' _ _
          obtain ⟨g', rfl⟩ : ∃ g2, g' = g2 + 1 := ⟨g' - 1, by omega⟩
          rw [pk, hlen, if_neg (by omega)]
        | succ m ihm =>
          intro j g' hj hg' hm hij
          obtain ⟨g', rfl⟩ : ∃ g2, g' = g2 + 1 := ⟨g' - 1, by omega⟩
          rw [pk, hlen, if_pos (by omega), lg_run (by omega) (by omega)]
          dsimp only
          rw [if_pos (by omega), if_neg (by omega)]
          exact ihm (j + 1) g' (by omega) (by omega) (by omega) (by omega)
      rw [step k i (g + 1) hk hg (Nat.le_refl _) (Nat.le_refl _)]
      unfold lit
      by_cases c1 : 0 < k
      · rw [if_pos (by omega), if_pos c1, drop_run (Nat.le_refl _), show n - i = k by omega]
      · rw [if_neg (by omega), if_neg c1]
theorem packS_run {x : Int} {k : Nat} : packS (List.replicate (k + 1) x) = if k + 1 ≤ 3 then ((k : Nat) : Int) :: List.replicate (k + 1) x else [0, x] ++ runs x (k + 1) k := by
  have hlen : (List.replicate (k + 1) x).length = k + 1 := List.length_replicate
  unfold packS
  rw [hlen]
  by_cases c : k + 1 ≤ 3
  · rw [if_pos c]
    have step : ∀ m j g', j + m = k + 1 → m < g' → pk (List.replicate (k + 1) x) g' j 0 = lit (List.replicate (k + 1) x) 0 (k + 1) := by
      intro m
      induction m with
      | zero =>
        intro j g' hj hg'
        obtain ⟨g', rfl⟩ : ∃ g2, g' = g2 + 1 := ⟨g' - 1, by omega⟩
        rw [pk, hlen, if_neg (by omega)]
      | succ m ihm =>
        intro j g' hj hg'
        obtain ⟨g', rfl⟩ : ∃ g2, g' = g2 + 1 := ⟨g' - 1, by omega⟩
        have hL : (lg (List.replicate (k + 1) x) j).1 < 3 := by
          by_cases h : 1 ≤ j
          · rw [lg_run h (by omega)]
            show min 130 (k + 1 - j) < 3
            omega
          · obtain rfl : j = 0 := by omega
            rw [lg_def, show min 0 255 = 0 by omega, bs_zero]
            decide
        rw [pk, hlen, if_pos (by omega), if_pos hL, if_neg (by omega)]
        exact ihm (j + 1) g' (by omega) (by omega)
    rw [step (k + 1) 0 (k + 1 + 1) (by omega) (by omega)]
    unfold lit
    rw [if_pos (by omega), drop_run (Nat.le_refl _)]
    rfl
  · rw [if_neg c, pk, hlen, if_pos (by omega)]
    have hL : (lg (List.replicate (k + 1) x) 0).1 < 3 := by
      rw [lg_def, show min 0 255 = 0 by omega, bs_zero]
      decide
    rw [if_pos hL, if_neg (by omega), pk, hlen, if_pos (by omega), lg_run (by omega) (by omega)]
    dsimp only
    rw [if_neg (by omega)]
    have h := pk_run (x := x) (n := k + 1) (k + 1) k 1 (k + 1) (by omega) (by omega) (by omega) (by omega) (by omega)
    rw [pk, hlen, if_pos (by omega), lg_run (by omega) (by omega)] at h
    dsimp only at h
    rw [if_neg (by omega), show lit (List.replicate (k + 1) x) 1 1 = [] by unfold lit; rw [if_neg (by omega)], List.nil_append] at h
    rw [show 0 + 1 = 1 from rfl, h, show lit (List.replicate (k + 1) x) 0 1 = [0, x] by
      unfold lit
      rw [if_pos (by omega), drop_run (by omega)]
      rfl]
end Go.Proofs.Ytkanlkgmiednfaa.Pl
