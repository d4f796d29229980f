/- Integers and their bytes, in plain Lean: what is put, and what is read. No condition beyond the bounds that each fact names. -/
import Derived.Test.YtkanlkgmiednfaaPlBits
namespace Go.Proofs.Ytkanlkgmiednfaa.Pl
open Go.RowKit Go.Proofs.YtkanlkgmiednfaaW.PrintWords Go.Proofs.YtkanlkgmiednfaaW.PrintMore
set_option linter.unusedVariables false

/-- The bytes of a number. -/
def encN (u : Nat) : List Int := if u < 128 then [(u : Int)] else ((u % 128 + 128 : Nat) : Int) :: encN (u / 128)
  termination_by u
  decreasing_by omega
def enc (a : Int) : List Int := encN (zz a).toNat
theorem encN_small {u : Nat} (h : u < 128) : encN u = [(u : Int)] := by rw [encN, if_pos h]
theorem encN_big {u : Nat} (h : ¬ u < 128) : encN u = ((u % 128 + 128 : Nat) : Int) :: encN (u / 128) := by rw [encN, if_neg h]
theorem encN_pos (u : Nat) : 0 < (encN u).length := by
  by_cases h : u < 128
  · rw [encN_small h]; simp
  · rw [encN_big h]; simp
theorem encN_le : ∀ (n u : Nat), u < 128 ^ (n + 1) → (encN u).length ≤ n + 1 := by
  intro n
  induction n with
  | zero => intro u h; rw [encN_small (by simpa using h)]; simp
  | succ n ih =>
    intro u h
    by_cases hs : u < 128
    · rw [encN_small hs]; simp
    · rw [encN_big hs, List.length_cons]
      have := ih (u / 128) (by rw [Nat.div_lt_iff_lt_mul (by omega)]; rw [Nat.pow_succ] at h; exact h)
      omega
theorem encN_ge : ∀ (n u : Nat), 128 ^ n ≤ u → n + 1 ≤ (encN u).length := by
  intro n
  induction n with
  | zero => intro u _; exact encN_pos u
  | succ n ih =>
    intro u h
    have h1 : 128 ≤ u := by
      have : 0 < 128 ^ n := Nat.pow_pos (by omega)
      rw [Nat.pow_succ] at h
      omega
    rw [encN_big (by omega), List.length_cons]
    have := ih (u / 128) (by rw [Nat.le_div_iff_mul_le (by omega)]; rw [Nat.pow_succ] at h; exact h)
    omega
theorem encN_len10 {u : Nat} (h : u < 18446744073709551616) : (encN u).length ≤ 10 := encN_le 9 u (by omega)
theorem enc_len {a : Int} (h0 : -9223372036854775808 ≤ a) (h1 : a < 9223372036854775808) : 0 < (enc a).length ∧ (enc a).length ≤ 10 := by
  have := zz_range h0 h1
  exact ⟨encN_pos _, encN_len10 (by omega)⟩
theorem encN_bytes : ∀ (u : Nat), ∀ x ∈ encN u, 0 ≤ x ∧ x < 256 := by
  intro u
  induction u using Nat.strongRecOn with
  | _ u ih =>
    by_cases h : u < 128
    · rw [encN_small h]
      intro x hx
      rw [List.mem_singleton] at hx
      omega
    · rw [encN_big h]
      intro x hx
      rcases List.mem_cons.1 hx with rfl | hx
      · omega
      · exact ih _ (by omega) x hx
theorem enc_bytes (a : Int) : ∀ x ∈ enc a, 0 ≤ x ∧ x < 256 := encN_bytes _

/-- What Int answers of the bytes l, d rounds being left, u what was read so far. -/
def dec : Nat → Int → List Int → Int × Int × Int
  | 0, _, _ => (0, 0, 11)
  | _ + 1, _, [] => (0, 0, 9)
  | d + 1, u, c :: t => if 128 ≤ c then dec d (u + (c % 128) * 2 ^ (7 * (9 - d))) t
    else if d = 0 ∧ 1 < c ∨ d < 9 ∧ c = 0 then (0, 0, 11) else (unzz (u + c * 2 ^ (7 * (9 - d))), 10 - (d : Int), 0)
/-- What is put is read again, whatever follows. -/
theorem dec_encN : ∀ (d : Nat) (u v : Nat) (more : List Int), d < 10 → v < 128 ^ (d + 1) → (d = 9 ∨ v ≠ 0) → u + v * 2 ^ (7 * (9 - d)) < 18446744073709551616 →
    dec (d + 1) (u : Int) (encN v ++ more) = (unzz ((u + v * 2 ^ (7 * (9 - d)) : Nat) : Int), 9 - (d : Int) + ((encN v).length : Int), 0) := by
  intro d
  induction d with
  | zero =>
    intro u v more _ hv hz hb
    have hv1 : v < 128 := by simpa using hv
    rw [encN_small hv1]
    have : v ≤ 1 := by
      simp at hb
      omega
    simp only [List.cons_append, List.nil_append, dec]
    rw [if_neg (by omega), if_neg (by omega)]
    simp
  | succ d ih =>
    intro u v more hd hv hz hb
    by_cases hs : v < 128
    · rw [encN_small hs]
      simp only [List.cons_append, List.nil_append, dec]
      rw [if_neg (by omega), if_neg (by omega)]
      simp
      omega
    · rw [encN_big hs]
      simp only [List.cons_append, dec]
      rw [if_pos (by omega)]
      have e1 : 7 * (9 - d) = 7 * (9 - (d + 1)) + 7 := by omega
      have e2 : v % 128 * 2 ^ (7 * (9 - (d + 1))) + v / 128 * 2 ^ (7 * (9 - d)) = v * 2 ^ (7 * (9 - (d + 1))) := by
        rw [e1, Nat.pow_add, ← Nat.mul_assoc, Nat.mul_comm (v / 128) _, Nat.mul_assoc, Nat.mul_comm (2 ^ (7 * (9 - (d + 1)))) , ← Nat.add_mul]
        congr 1
        omega
      have e3 : ((u : Int) + (((v % 128 + 128 : Nat) : Int) % 128) * 2 ^ (7 * (9 - (d + 1)))) = ((u + v % 128 * 2 ^ (7 * (9 - (d + 1))) : Nat) : Int) := by
        rw [show (((v % 128 + 128 : Nat) : Int) % 128) = ((v % 128 : Nat) : Int) by omega]
        simp
      rw [e3, ih _ (v / 128) more (by omega) (by rw [Nat.div_lt_iff_lt_mul (by omega)]; rw [Nat.pow_succ] at hv; exact hv) (.inr (by omega)) (by omega)]
      rw [Nat.add_assoc, e2, List.length_cons]
      simp
      omega
theorem dec_enc {a : Int} (h0 : -9223372036854775808 ≤ a) (h1 : a < 9223372036854775808) (more : List Int) : dec 10 0 (enc a ++ more) = (a, ((enc a).length : Int), 0) := by
  have hz := zz_range h0 h1
  have := dec_encN 9 0 (zz a).toNat more (by omega) (by omega) (.inl rfl) (by simp; omega)
  unfold enc
  rw [show ((0 : Nat) : Int) = (0 : Int) from rfl] at this
  rw [this]
  simp
  rw [show (max (zz a) 0) = zz a by omega, unzz_zz]
/-- What is read was put so. -/
theorem dec_sound : ∀ (d : Nat) (u : Nat) (l : List Int) (n s : Int), d < 10 → (∀ x ∈ l, 0 ≤ x ∧ x < 256) → u < 2 ^ (7 * (9 - d)) → dec (d + 1) (u : Int) l = (n, s, 0) →
    ∃ (v : Nat) (rest : List Int), l = encN v ++ rest ∧ (d = 9 ∨ v ≠ 0) ∧ u + v * 2 ^ (7 * (9 - d)) < 18446744073709551616 ∧ n = unzz ((u + v * 2 ^ (7 * (9 - d)) : Nat) : Int) ∧ s = 9 - (d : Int) + ((encN v).length : Int) := by
  intro d
  induction d with
  | zero =>
    intro u l n s _ hl hu h
    cases l with
    | nil => simp [dec] at h
    | cons c t =>
      have hc := hl c List.mem_cons_self
      simp only [dec] at h
      split at h
      · simp at h
      · split at h
        · simp at h
        · rename_i h1 h2
          simp only [Prod.mk.injEq, and_true] at h
          obtain ⟨rfl, rfl⟩ := h
          obtain ⟨b, rfl⟩ := Int.eq_ofNat_of_zero_le hc.1
          refine ⟨b, t, by rw [encN_small (by omega)]; simp, ?_⟩
          rw [encN_small (by omega)]
          simp at hu h2 ⊢
          omega
  | succ d ih =>
    intro u l n s hd hl hu h
    cases l with
    | nil => simp [dec] at h
    | cons c t =>
      have hc := hl c List.mem_cons_self
      obtain ⟨b, rfl⟩ := Int.eq_ofNat_of_zero_le hc.1
      simp only [dec] at h
      have e1 : 7 * (9 - d) = 7 * (9 - (d + 1)) + 7 := by omega
      split at h
      · rename_i h1
        have e3 : ((u : Int) + ((b : Int) % 128) * 2 ^ (7 * (9 - (d + 1)))) = ((u + b % 128 * 2 ^ (7 * (9 - (d + 1))) : Nat) : Int) := by
          simp
        rw [e3] at h
        have hu2 : u + b % 128 * 2 ^ (7 * (9 - (d + 1))) < 2 ^ (7 * (9 - d)) := by
          rw [e1, Nat.pow_add]
          have : b % 128 * 2 ^ (7 * (9 - (d + 1))) ≤ 127 * 2 ^ (7 * (9 - (d + 1))) := Nat.mul_le_mul_right _ (by omega)
          omega
        obtain ⟨v, rest, rfl, hz, hb, rfl, rfl⟩ := ih _ t n s (by omega) (fun x hx => hl x (List.mem_cons_of_mem _ hx)) hu2 h
        have hv0 : v ≠ 0 := by omega
        have e2 : b % 128 * 2 ^ (7 * (9 - (d + 1))) + v * 2 ^ (7 * (9 - d)) = (b % 128 + v * 128) * 2 ^ (7 * (9 - (d + 1))) := by
          rw [e1, Nat.pow_add, Nat.add_mul]
          congr 1
          rw [Nat.mul_assoc, Nat.mul_comm 128]
        refine ⟨b % 128 + v * 128, rest, ?_, .inr (by omega), ?_, ?_, ?_⟩
        · rw [encN_big (u := b % 128 + v * 128) (by omega), show (b % 128 + v * 128) / 128 = v by omega, show (b % 128 + v * 128) % 128 + 128 = b by omega]
          rfl
        · rw [← e2]; omega
        · rw [← e2, Nat.add_assoc]
        · rw [encN_big (u := b % 128 + v * 128) (by omega), show (b % 128 + v * 128) / 128 = v by omega, List.length_cons]
          omega
      · split at h
        · simp at h
        · rename_i h1 h2
          simp only [Prod.mk.injEq, and_true] at h
          obtain ⟨rfl, rfl⟩ := h
          refine ⟨b, t, by rw [encN_small (by omega)]; simp, by omega, ?_, by simp, ?_⟩
          · have hb' : b ≤ 127 := by omega
            have hb : b * 2 ^ (7 * (9 - (d + 1))) ≤ 127 * 2 ^ (7 * (9 - (d + 1))) := Nat.mul_le_mul_right _ hb'
            have hp : 2 ^ (7 * (9 - (d + 1))) ≤ 2 ^ 56 := Nat.pow_le_pow_right (by omega) (by omega)
            generalize 2 ^ (7 * (9 - (d + 1))) = q at hb hp hu ⊢
            generalize b * q = bq at hb ⊢
            omega
          · rw [encN_small (by omega)]
            simp
            omega
theorem dec_once {l : List Int} {n s : Int} (hl : ∀ x ∈ l, 0 ≤ x ∧ x < 256) (h : dec 10 0 l = (n, s, 0)) :
    -9223372036854775808 ≤ n ∧ n < 9223372036854775808 ∧ ∃ rest, l = enc n ++ rest ∧ s = ((enc n).length : Int) := by
  obtain ⟨v, rest, rfl, _, hb, rfl, rfl⟩ := dec_sound 9 0 l n s (by omega) hl (by simp) h
  simp only [Nat.sub_self, Nat.mul_zero, Nat.pow_zero, Nat.mul_one, Nat.zero_add] at hb ⊢
  have hr := unzz_range (u := (v : Int)) (by omega) (by omega)
  refine ⟨hr.1, hr.2, rest, ?_, ?_⟩
  · unfold enc
    rw [zz_unzz (by omega)]
    rfl
  · unfold enc
    rw [zz_unzz (by omega)]
    simp
/-- With an error the numbers are zero; the error is one of three. -/
theorem dec_bad : ∀ (d : Nat) (u : Int) (l : List Int) (n s e : Int), dec d u l = (n, s, e) → e = 0 ∨ (n = 0 ∧ s = 0 ∧ (e = 9 ∨ e = 11)) := by
  intro d
  induction d with
  | zero => intro u l n s e h; simp [dec] at h; omega
  | succ d ih =>
    intro u l n s e h
    cases l with
    | nil => simp [dec] at h; omega
    | cons c t =>
      simp only [dec] at h
      split at h
      · exact ih _ _ _ _ _ h
      · split at h
        · simp at h; omega
        · simp at h; omega
/-- Of a cut encoding nothing is read. -/
theorem dec_cut : ∀ (d : Nat) (u v : Nat) (m : Nat), d < 10 → v < 128 ^ (d + 1) → (d = 9 ∨ v ≠ 0) → m < (encN v).length → dec (d + 1) (u : Int) ((encN v).take m) = (0, 0, 9) := by
  intro d
  induction d with
  | zero =>
    intro u v m _ hv hz hm
    have hv1 : v < 128 := by simpa using hv
    rw [encN_small hv1] at hm ⊢
    simp at hm
    subst hm
    rfl
  | succ d ih =>
    intro u v m hd hv hz hm
    by_cases hs : v < 128
    · rw [encN_small hs] at hm ⊢
      simp at hm
      subst hm
      rfl
    · rw [encN_big hs] at hm ⊢
      cases m with
      | zero => rfl
      | succ m =>
        simp only [List.take_succ_cons, dec]
        rw [if_pos (by omega)]
        have e3 : ((u : Int) + (((v % 128 + 128 : Nat) : Int) % 128) * 2 ^ (7 * (9 - (d + 1)))) = ((u + v % 128 * 2 ^ (7 * (9 - (d + 1))) : Nat) : Int) := by
          rw [show (((v % 128 + 128 : Nat) : Int) % 128) = ((v % 128 : Nat) : Int) by omega]
          simp
        rw [e3]
        exact ih _ _ m (by omega) (by rw [Nat.div_lt_iff_lt_mul (by omega)]; rw [Nat.pow_succ] at hv; exact hv) (.inr (by omega)) (by simpa using hm)
theorem dec_enc_cut {a : Int} (h0 : -9223372036854775808 ≤ a) (h1 : a < 9223372036854775808) (m : Nat) (hm : m < (enc a).length) : dec 10 0 ((enc a).take m) = (0, 0, 9) := by
  have hz := zz_range h0 h1
  exact dec_cut 9 0 (zz a).toNat m (by omega) (by omega) (.inl rfl) hm
end Go.Proofs.Ytkanlkgmiednfaa.Pl
