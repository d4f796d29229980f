/- A packed stream is read back: 'un' of 'pk', whole, cut, behind other bytes. -/
import Derived.Test.YtkanlkgmiednfaaPlPack3
namespace Go.Proofs.Ytkanlkgmiednfaa.Pl
open Go.RowKit Go.Proofs.YtkanlkgmiednfaaW.PrintWords Go.Proofs.YtkanlkgmiednfaaW.PrintMore Go.Proofs.Ytkanlkgmiednfaa.A
set_option linter.unusedVariables false
/-- A stream that tells b from s on. -/
inductive Ch (b : List Int) : Nat → List Int → Prop
  | done : Ch b b.length []
  | lit (s e : Nat) (t : List Int) : s < e → e ≤ b.length → e - s ≤ 128 → Ch b e t → Ch b s (((e - s - 1 : Nat) : Int) :: ((b.take e).drop s ++ t))
  | copy (s l d : Nat) (t : List Int) : 3 ≤ l → l ≤ 130 → 1 ≤ d → d ≤ 255 → d ≤ s → s + l ≤ b.length → (∀ j, j < l → rd b ((s + j : Nat) : Int) = rd b ((s + j - d : Nat) : Int)) → Ch b (s + l) t → Ch b s (((l + 125 : Nat) : Int) :: (d : Int) :: t)
theorem lit_ch {b t : List Int} {s e : Nat} (hs : s ≤ e) (he : e ≤ b.length) (h1 : e - s ≤ 128) (h : Ch b e t) : Ch b s (lit b s e ++ t) := by
  unfold lit
  by_cases c : s < e
  · rw [if_pos c]
    exact .lit s e t c he h1 h
  · rw [if_neg c]
    obtain rfl : s = e := by omega
    exact h
theorem pk_ch (b : List Int) : ∀ n i s, s ≤ i → i ≤ b.length → i - s < 128 → b.length - i < n → Ch b s (pk b n i s) := by
  intro n
  induction n with
  | zero => intro i s _ _ _ h; omega
  | succ n ih =>
    intro i s hs hi hp hn
    have hG := lg_good hi
    rw [pk]
    generalize lg b i = p at hG ⊢
    obtain ⟨l, d⟩ := p
    unfold Good at hG
    dsimp only at hG ⊢
    by_cases c : i < b.length
    · rw [if_pos c]
      by_cases c1 : l < 3
      · rw [if_pos c1]
        by_cases c2 : i + 1 - s = 128
        · rw [if_pos c2]
          exact lit_ch (by omega) (by omega) (by omega) (ih (i + 1) (i + 1) (by omega) (by omega) (by omega) (by omega))
        · rw [if_neg c2]
          exact ih (i + 1) s (by omega) (by omega) (by omega) (by omega)
      · rw [if_neg c1]
        rcases hG with h0 | ⟨h1, h2, h3, h4, h5, h6⟩
        · omega
        · refine lit_ch (by omega) (by omega) (by omega) ?_
          exact .copy i l d _ (by omega) h1 h3 h4 h5 h2 h6 (ih (i + l) (i + l) (by omega) (by omega) (by omega) (by omega))
    · rw [if_neg c]
      obtain rfl : i = b.length := by omega
      have := lit_ch (b := b) (t := []) hs (by omega) (by omega) .done
      rwa [List.append_nil] at this
theorem packS_ch (b : List Int) : Ch b 0 (packS b) := pk_ch b (b.length + 1) 0 0 (by omega) (by omega) (by omega) (by omega)
theorem ch_bytes {b : List Int} (hb : ∀ c ∈ b, 0 ≤ c ∧ c < 256) {s : Nat} {t : List Int} (h : Ch b s t) : ∀ c ∈ t, 0 ≤ c ∧ c < 256 := by
  induction h with
  | done => intro c hc; simp at hc
  | lit s e t h1 h2 h3 _ ih =>
    intro c hc
    rcases List.mem_cons.1 hc with rfl | hc
    · omega
    · rcases List.mem_append.1 hc with hc | hc
      · exact hb c (List.mem_of_mem_take (List.mem_of_mem_drop hc))
      · exact ih c hc
  | copy s l d t h1 h2 h3 h4 h5 h6 h7 _ ih =>
    intro c hc
    rcases List.mem_cons.1 hc with rfl | hc
    · omega
    · rcases List.mem_cons.1 hc with rfl | hc
      · omega
      · exact ih c hc
theorem take_lit {b : List Int} {s e : Nat} (hs : s ≤ e) : b.take s ++ (b.take e).drop s = b.take e := by
  have := List.take_append_drop s (b.take e)
  rwa [List.take_take, Nat.min_eq_left hs] at this
theorem take_one {b : List Int} {s : Nat} (h : s < b.length) : b.take s ++ [rd b (s : Int)] = b.take (s + 1) := by
  rw [List.take_add_one, List.getElem?_eq_getElem h, rd_at h]
  rfl
/-- A copy of l bytes behind other bytes. -/
theorem cp_take {b pre : List Int} {d : Nat} (hd : 1 ≤ d) : ∀ l s, d ≤ s → s + l ≤ b.length → (∀ j, j < l → rd b ((s + j : Nat) : Int) = rd b ((s + j - d : Nat) : Int)) → cp l d (pre ++ b.take s) = pre ++ b.take (s + l) := by
  intro l
  induction l with
  | zero => intro s _ _ _; rfl
  | succ l ih =>
    intro s hds hl h
    have e1 : (pre ++ b.take s).length = pre.length + s := by rw [List.length_append, List.length_take]; omega
    have e2 : rd (pre ++ b.take s) (((pre ++ b.take s).length - d : Nat) : Int) = rd b (s : Int) := by
      have h0 := h 0 (by omega)
      simp only [Nat.add_zero] at h0
      rw [h0, e1, rd_at (by rw [e1]; omega), rd_at (by omega), List.getElem_append_right (by omega), List.getElem_take]
      congr 1
      omega
    rw [cp, e2, List.append_assoc, take_one (by omega), ih (s + 1) (by omega) (by omega) (fun j hj => by have := h (j + 1) (by omega); rw [show s + 1 + j = s + (j + 1) by omega]; exact this), show s + 1 + l = s + (l + 1) by omega]
theorem un_copyN (lim : Int) (f : Nat) {l d : Nat} (hl : 3 ≤ l) (t out : List Int) : un lim (f + 1) (((l + 125 : Nat) : Int) :: (d : Int) :: t) out = if d = 0 ∨ d > out.length then ([], 11) else if ((cp l d out).length : Int) > lim then ([], 2) else un lim f t (cp l d out) := by
  have e : ((l + 125 : Nat) : Int).toNat - 125 = l := by omega
  rw [un_cons, if_neg (by omega), e]
  show (if (d : Int) = 0 ∨ (d : Int) > (out.length : Int) then _ else _ : List Int × Int) = _
  rw [Int.toNat_natCast]
  by_cases c : d = 0 ∨ d > out.length
  · rw [if_pos c, if_pos (by omega)]
  · rw [if_neg c, if_neg (by omega)]
theorem un_copy1 (lim : Int) (f : Nat) {l : Nat} (hl : 3 ≤ l) (out : List Int) : un lim (f + 1) [((l + 125 : Nat) : Int)] out = ([], 9) := by
  rw [un_cons, if_neg (by omega)]
/-- A whole stream, with room, behind other bytes and ahead of others. -/
theorem un_ch {b pre rest : List Int} {lim : Int} (hlim : ((pre.length + b.length : Nat) : Int) ≤ lim) {s : Nat} {t : List Int} (h : Ch b s t) :
    ∀ f, t.length + rest.length ≤ f → ∃ g, rest.length ≤ g ∧ g ≤ f ∧ un lim f (t ++ rest) (pre ++ b.take s) = un lim g rest (pre ++ b) := by
  induction h with
  | done => intro f hf; exact ⟨f, by simpa using hf, Nat.le_refl _, by rw [List.take_length]; rfl⟩
  | lit s e t h1 h2 h3 _ ih =>
    intro f hf
    have hl : ((b.take e).drop s).length = e - s := by rw [List.length_drop, List.length_take]; omega
    have ht : ((b.take e).drop s ++ (t ++ rest)).take (e - s) = (b.take e).drop s := by rw [List.take_append_of_le_length (by omega), List.take_of_length_le (by omega)]
    have hd : ((b.take e).drop s ++ (t ++ rest)).drop (e - s) = t ++ rest := by rw [← hl, List.drop_left]
    rw [List.length_cons, List.length_append, hl] at hf
    obtain ⟨f, rfl⟩ : ∃ f', f = f' + 1 := ⟨f - 1, by omega⟩
    obtain ⟨g, g1, g2, g3⟩ := ih f (by omega)
    refine ⟨g, g1, by omega, ?_⟩
    rw [List.cons_append, List.append_assoc, un_cons, if_pos (by omega), show ((e - s - 1 : Nat) : Int).toNat + 1 = e - s by omega, ht, hd, if_neg (by rw [List.length_append, hl]; omega), List.append_assoc, take_lit (by omega)]
    rw [if_neg (by rw [List.length_append, List.length_take]; omega)]
    exact g3
  | copy s l d t h1 h2 h3 h4 h5 h6 h7 _ ih =>
    intro f hf
    rw [List.length_cons, List.length_cons] at hf
    obtain ⟨f, rfl⟩ : ∃ f', f = f' + 1 := ⟨f - 1, by omega⟩
    obtain ⟨g, g1, g2, g3⟩ := ih f (by omega)
    refine ⟨g, g1, by omega, ?_⟩
    have hc : cp l d (pre ++ b.take s) = pre ++ b.take (s + l) := cp_take h3 l s h5 h6 h7
    rw [List.cons_append, List.cons_append, un_copyN lim f h1, hc, if_neg (by rw [List.length_append, List.length_take]; omega), if_neg (by rw [List.length_append, List.length_take]; omega)]
    exact g3
theorem un_packS {b : List Int} {lim : Int} (hlim : (b.length : Int) ≤ lim) {f : Nat} (hf : (packS b).length ≤ f) : un lim f (packS b) [] = (b, 0) := by
  obtain ⟨g, _, _, h⟩ := un_ch (pre := []) (rest := []) (lim := lim) (by simpa using hlim) (packS_ch b) f (by simpa using hf)
  rw [List.append_nil] at h
  exact h.trans (un_nil _ _ _)
/-- One byte less is too little room. -/
theorem un_small {b : List Int} {s : Nat} {t : List Int} (h : Ch b s t) : s < b.length → ∀ f, t.length ≤ f → un ((b.length : Int) - 1) f t (b.take s) = ([], 2) := by
  induction h with
  | done => intro h; omega
  | lit s e t h1 h2 h3 _ ih =>
    intro hs f hf
    have hl : ((b.take e).drop s).length = e - s := by rw [List.length_drop, List.length_take]; omega
    have ht : ((b.take e).drop s ++ t).take (e - s) = (b.take e).drop s := by rw [List.take_append_of_le_length (by omega), List.take_of_length_le (by omega)]
    have hd : ((b.take e).drop s ++ t).drop (e - s) = t := by rw [← hl, List.drop_left]
    rw [List.length_cons, List.length_append, hl] at hf
    obtain ⟨f, rfl⟩ : ∃ f', f = f' + 1 := ⟨f - 1, by omega⟩
    rw [un_cons, if_pos (by omega), show ((e - s - 1 : Nat) : Int).toNat + 1 = e - s by omega, ht, hd, if_neg (by rw [List.length_append, hl]; omega), take_lit (by omega)]
    by_cases c : e = b.length
    · rw [if_pos (by rw [List.length_take]; omega)]
    · rw [if_neg (by rw [List.length_take]; omega)]
      exact ih (by omega) f (by omega)
  | copy s l d t h1 h2 h3 h4 h5 h6 h7 _ ih =>
    intro hs f hf
    rw [List.length_cons, List.length_cons] at hf
    obtain ⟨f, rfl⟩ : ∃ f', f = f' + 1 := ⟨f - 1, by omega⟩
    have hc : cp l d (b.take s) = b.take (s + l) := cp_take (pre := []) h3 l s h5 h6 h7
    rw [un_copyN _ f h1, hc, if_neg (by rw [List.length_take]; omega)]
    by_cases c : s + l = b.length
    · rw [if_pos (by rw [List.length_take]; omega)]
    · rw [if_neg (by rw [List.length_take]; omega)]
      exact ih (by omega) f (by omega)
/-- A stream that is cut. -/
theorem un_cut {b : List Int} {lim : Int} (hlim : (b.length : Int) ≤ lim) {s : Nat} {t : List Int} (h : Ch b s t) : ∀ f m, m < t.length → t.length ≤ f → un lim f (t.take m) (b.take s) = ([], 9) ∨ ∃ j, j < b.length ∧ un lim f (t.take m) (b.take s) = (b.take j, 0) := by
  induction h with
  | done => intro f m hm; simp at hm
  | lit s e t h1 h2 h3 _ ih =>
    intro f m hm hf
    have hl : ((b.take e).drop s).length = e - s := by rw [List.length_drop, List.length_take]; omega
    rw [List.length_cons, List.length_append, hl] at hf hm
    obtain ⟨f, rfl⟩ : ∃ f', f = f' + 1 := ⟨f - 1, by omega⟩
    rcases m with _ | m
    · exact .inr ⟨s, by omega, by rw [List.take_zero, un_nil]⟩
    · rw [List.take_succ_cons, un_cons, if_pos (by omega), show ((e - s - 1 : Nat) : Int).toNat + 1 = e - s by omega]
      by_cases c : m < e - s
      · left
        rw [if_pos (by rw [List.length_take, List.length_append, hl]; omega)]
      · have ht : (((b.take e).drop s ++ t).take m).take (e - s) = (b.take e).drop s := by rw [List.take_take, Nat.min_eq_left (by omega), List.take_append_of_le_length (by omega), List.take_of_length_le (by omega)]
        have hd : (((b.take e).drop s ++ t).take m).drop (e - s) = t.take (m - (e - s)) := by rw [List.drop_take, ← hl, List.drop_left]
        rw [if_neg (by rw [List.length_take, List.length_append, hl]; omega), ht, hd, take_lit (by omega), if_neg (by rw [List.length_take]; omega)]
        exact ih f (m - (e - s)) (by omega) (by omega)
  | copy s l d t h1 h2 h3 h4 h5 h6 h7 _ ih =>
    intro f m hm hf
    rw [List.length_cons, List.length_cons] at hf hm
    obtain ⟨f, rfl⟩ : ∃ f', f = f' + 1 := ⟨f - 1, by omega⟩
    have hc : cp l d (b.take s) = b.take (s + l) := cp_take (pre := []) h3 l s h5 h6 h7
    rcases m with _ | m
    · exact .inr ⟨s, by omega, by rw [List.take_zero, un_nil]⟩
    · rw [List.take_succ_cons]
      rcases m with _ | m
      · left
        rw [List.take_zero]
        exact un_copy1 lim f h1 _
      · rw [List.take_succ_cons, un_copyN lim f h1, hc, if_neg (by rw [List.length_take]; omega), if_neg (by rw [List.length_take]; omega)]
        exact ih f m (by omega) (by omega)
end Go.Proofs.Ytkanlkgmiednfaa.Pl
