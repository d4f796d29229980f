/- The checksum, in plain Lean: what it is, that it is linear, that each step can be undone. -/
import Derived.Test.YtkanlkgmiednfaaPlBits
namespace Go.Proofs.Ytkanlkgmiednfaa.Pl
open Go.RowKit Go.Proofs.YtkanlkgmiednfaaW.PrintWords Go.Proofs.YtkanlkgmiednfaaW.PrintMore
set_option linter.unusedVariables false
def crcBit (c : Nat) : Nat := if c % 2 = 1 then (c / 2) ^^^ 3988292384 else c / 2
def crcBits : Nat → Nat → Nat
  | 0, c => c
  | n + 1, c => crcBits n (crcBit c)
def crcByte (c : Nat) (x : Int) : Nat := crcBits 8 (c ^^^ x.toNat)
def crc (c : Nat) (l : List Int) : Nat := l.foldl crcByte c
def sumS (l : List Int) : Nat := 4294967295 ^^^ crc 4294967295 l
theorem crcBit_lt {c : Nat} (h : c < 4294967296) : crcBit c < 4294967296 := by
  unfold crcBit
  split
  · have : (c / 2) ^^^ 3988292384 < 2 ^ 32 := Nat.xor_lt_two_pow (by omega) (by omega)
    omega
  · omega
theorem crcBits_lt : ∀ (n : Nat) {c : Nat}, c < 4294967296 → crcBits n c < 4294967296
  | 0, _, h => h
  | n + 1, _, h => crcBits_lt n (crcBit_lt h)
theorem xor_byte_lt {c : Nat} {x : Int} (h : c < 4294967296) (hx : x < 256) : c ^^^ x.toNat < 4294967296 := by
  have : c ^^^ x.toNat < 2 ^ 32 := Nat.xor_lt_two_pow (by omega) (by omega)
  omega
theorem crcByte_lt {c : Nat} {x : Int} (h : c < 4294967296) (hx : x < 256) : crcByte c x < 4294967296 := crcBits_lt 8 (xor_byte_lt h hx)
theorem crc_lt : ∀ (l : List Int) {c : Nat}, c < 4294967296 → (∀ x ∈ l, x < 256) → crc c l < 4294967296
  | [], _, h, _ => h
  | x :: l, c, h, hl => crc_lt l (crcByte_lt h (hl x List.mem_cons_self)) (fun y hy => hl y (List.mem_cons_of_mem _ hy))
theorem sumS_lt (l : List Int) (hl : ∀ x ∈ l, x < 256) : sumS l < 4294967296 := by
  have h1 := crc_lt l (c := 4294967295) (by omega) hl
  have : (4294967295 ^^^ crc 4294967295 l) < 2 ^ 32 := Nat.xor_lt_two_pow (by omega) (by omega)
  unfold sumS
  omega
theorem xor_half (a b : Nat) : (a ^^^ b) / 2 = (a / 2) ^^^ (b / 2) := by
  have := Nat.shiftRight_xor_distrib (a := a) (b := b) (i := 1)
  simpa [Nat.shiftRight_eq_div_pow] using this
theorem xor_par (a b : Nat) : (a ^^^ b) % 2 = (a % 2 + b % 2) % 2 := by
  have h := Nat.xor_mod_two_pow (a := a) (b := b) (n := 1)
  simp only [Nat.pow_one] at h
  rw [h]
  have ha : a % 2 = 0 ∨ a % 2 = 1 := by omega
  have hb : b % 2 = 0 ∨ b % 2 = 1 := by omega
  rcases ha with ha | ha <;> rcases hb with hb | hb <;> rw [ha, hb] <;> rfl
theorem xor_swap (a b c d : Nat) : (a ^^^ b) ^^^ (c ^^^ d) = (a ^^^ c) ^^^ (b ^^^ d) := by
  rw [Nat.xor_assoc, Nat.xor_assoc, ← Nat.xor_assoc b, Nat.xor_comm b c, Nat.xor_assoc c]
/-- One step is linear. -/
theorem crcBit_xor (a b : Nat) : crcBit (a ^^^ b) = crcBit a ^^^ crcBit b := by
  unfold crcBit
  rw [xor_par, xor_half]
  have ha : a % 2 = 0 ∨ a % 2 = 1 := by omega
  have hb : b % 2 = 0 ∨ b % 2 = 1 := by omega
  rcases ha with ha | ha <;> rcases hb with hb | hb <;> rw [ha, hb] <;> simp only [Nat.reduceAdd, Nat.reduceMod, Nat.zero_ne_one, if_true, if_false]
  · rw [Nat.xor_assoc]
  · rw [Nat.xor_assoc, Nat.xor_comm (b / 2), ← Nat.xor_assoc]
  · rw [xor_swap, Nat.xor_self, Nat.xor_zero]
theorem crcBits_xor : ∀ (n a b : Nat), crcBits n (a ^^^ b) = crcBits n a ^^^ crcBits n b
  | 0, _, _ => rfl
  | n + 1, a, b => by simp only [crcBits]; rw [crcBit_xor, crcBits_xor n]
/-- Three texts of one length. -/
theorem crc_three : ∀ (a b c d : List Int) (x y z : Nat), a.length = d.length → b.length = d.length → c.length = d.length →
    (∀ i (h : i < d.length) (ha : i < a.length) (hb : i < b.length) (hc : i < c.length), d[i].toNat = a[i].toNat ^^^ b[i].toNat ^^^ c[i].toNat) → crc (x ^^^ y ^^^ z) d = crc x a ^^^ crc y b ^^^ crc z c
  | [], [], [], [], _, _, _, _, _, _, _ => rfl
  | p :: a, q :: b, r :: c, s :: d, x, y, z, h1, h2, h3, h => by
    simp only [crc, List.foldl_cons]
    have h0 : s.toNat = p.toNat ^^^ q.toNat ^^^ r.toNat := h 0 (by simp) (by simp) (by simp) (by simp)
    have e : crcByte (x ^^^ y ^^^ z) s = crcByte x p ^^^ crcByte y q ^^^ crcByte z r := by
      unfold crcByte
      rw [h0, xor_swap (x ^^^ y) z, xor_swap x y, crcBits_xor, crcBits_xor]
    rw [e]
    exact crc_three a b c d _ _ _ (by simpa using h1) (by simpa using h2) (by simpa using h3) (fun i hi ha hb hc => h (i + 1) (by simpa using hi) (by simpa using ha) (by simpa using hb) (by simpa using hc))
  | _ :: _, _, _, [], _, _, _, h1, _, _, _ => by simp at h1
  | [], _, _, _ :: _, _, _, _, h1, _, _, _ => by simp at h1
  | _, _ :: _, _, [], _, _, _, _, h2, _, _ => by simp at h2
  | _, [], _, _ :: _, _, _, _, _, h2, _, _ => by simp at h2
  | _, _, _ :: _, [], _, _, _, _, _, h3, _ => by simp at h3
  | _, _, [], _ :: _, _, _, _, _, _, h3, _ => by simp at h3
theorem xor3 (M A B C : Nat) : M ^^^ (A ^^^ B ^^^ C) = (M ^^^ A) ^^^ (M ^^^ B) ^^^ (M ^^^ C) := by
  rw [xor_swap M A M B, Nat.xor_self, Nat.zero_xor, ← Nat.xor_assoc (A ^^^ B) M C, Nat.xor_comm (A ^^^ B) M, Nat.xor_assoc M]
theorem sumS_three (a b c d : List Int) (h1 : a.length = d.length) (h2 : b.length = d.length) (h3 : c.length = d.length)
    (h : ∀ i (h : i < d.length) (ha : i < a.length) (hb : i < b.length) (hc : i < c.length), d[i].toNat = a[i].toNat ^^^ b[i].toNat ^^^ c[i].toNat) : sumS d = sumS a ^^^ sumS b ^^^ sumS c := by
  have h0 := crc_three a b c d 4294967295 4294967295 4294967295 h1 h2 h3 h
  have e : (4294967295 ^^^ 4294967295 ^^^ 4294967295 : Nat) = 4294967295 := by decide
  rw [e] at h0
  unfold sumS
  rw [h0]
  exact xor3 _ _ _ _
theorem sum9 : sumS [49, 50, 51, 52, 53, 54, 55, 56, 57] = 3421780262 := by decide +kernel
end Go.Proofs.Ytkanlkgmiednfaa.Pl
