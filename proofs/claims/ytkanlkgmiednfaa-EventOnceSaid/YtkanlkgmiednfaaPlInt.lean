/- What the integer functions of the program and of its reference compute, out of their printed forms: PutInt, Int, SameBytes. -/
import Derived.Test.YtkanlkgmiednfaaPlEvent
import Derived.Test.YtkanlkgmiednfaaAxeventPutInt
import Derived.Test.YtkanlkgmiednfaaAxeventInt
import Derived.Test.YtkanlkgmiednfaaAxinterleaveref11PutInt
import Derived.Test.YtkanlkgmiednfaaAxinterleaveref11Int
import Derived.Test.YtkanlkgmiednfaaAxinterleaveref11SameBytes
namespace Go.Proofs.Ytkanlkgmiednfaa.Pl
open Go.RowKit Go.Proofs.YtkanlkgmiednfaaW.PrintWords Go.Proofs.YtkanlkgmiednfaaW.PrintMore Go.Proofs.Ytkanlkgmiednfaa.A
set_option linter.unusedVariables false

theorem appendInt_ev : ∀ (u : Nat) (x : List Int), x.length + (encN u).length ≤ 140737488355328 → Ev (fun k => event_appendInt.l0 k x (u : Int)) (x ++ encN u) := by
  intro u
  induction u using Nat.strongRecOn with
  | _ u ih =>
    intro x hx
    by_cases h : u < 128
    · rw [encN_small h] at hx ⊢
      refine Ev.step (f := fun _ => some (x ++ [(u : Int)])) (fun k => ?_) (Ev.now _)
      simp only [List.length_singleton] at hx
      simp only [event_appendInt.l0]
      rw [if_neg (by omega), if_pos (by omega), show (u : Int) % 256 = u by omega]
    · rw [encN_big h] at hx ⊢
      simp only [List.length_cons] at hx
      refine Ev.step (f := fun k => event_appendInt.l0 k (x ++ [((u % 128 + 128 : Nat) : Int)]) ((u / 128 : Nat) : Int)) (fun k => ?_) ?_
      · simp only [event_appendInt.l0]
        rw [if_pos (by omega), if_pos (by omega), u8_or128', show (u : Int) % 128 + 128 = ((u % 128 + 128 : Nat) : Int) by omega, show (u : Int) / 128 = ((u / 128 : Nat) : Int) by omega]
      · have := ih (u / 128) (by omega) (x ++ [((u % 128 + 128 : Nat) : Int)]) (by rw [List.length_append, List.length_singleton]; omega)
        simpa using this
theorem appendInt_f {a : Int} (h0 : -9223372036854775808 ≤ a) (h1 : a < 9223372036854775808) (x : List Int) (hx : x.length ≤ 140737488355318) : Ev (fun k => event_appendInt.f k x a) (x ++ enc a) := by
  have hz := zz_range h0 h1
  have hl := enc_len h0 h1
  have := appendInt_ev (zz a).toNat x (by unfold enc at hl; omega)
  refine Ev.congr (fun k => ?_) this
  unfold event_appendInt.f
  rw [zz_impl h0 h1, show ((zz a).toNat : Int) = zz a by omega]
theorem putInt_f {a : Int} (h0 : -9223372036854775808 ≤ a) (h1 : a < 9223372036854775808) (x : List Int) (hx : x.length ≤ 140737488355318) : Ev (fun k => event_PutInt.f k x a) (x ++ enc a) := appendInt_f h0 h1 x hx

theorem refPutInt_ev : ∀ (u : Nat) (x : List Int), x.length + (encN u).length ≤ 140737488355328 → Ev (fun k => interleaveref11_PutInt.l0 k (u : Int) x) (x ++ encN u) := by
  intro u
  induction u using Nat.strongRecOn with
  | _ u ih =>
    intro x hx
    by_cases h : u < 128
    · rw [encN_small h] at hx ⊢
      refine Ev.step (f := fun _ => some (x ++ [(u : Int)])) (fun k => ?_) (Ev.now _)
      simp only [List.length_singleton] at hx
      simp only [interleaveref11_PutInt.l0]
      rw [if_neg (by omega), if_pos (by omega), show (u : Int) % 256 = u by omega]
    · rw [encN_big h] at hx ⊢
      simp only [List.length_cons] at hx
      refine Ev.step (f := fun k => interleaveref11_PutInt.l0 k ((u / 128 : Nat) : Int) (x ++ [((u % 128 + 128 : Nat) : Int)])) (fun k => ?_) ?_
      · simp only [interleaveref11_PutInt.l0]
        rw [if_pos (by omega), if_pos (by omega), u8_or128', show (u : Int) % 128 + 128 = ((u % 128 + 128 : Nat) : Int) by omega, show (u : Int) / 128 = ((u / 128 : Nat) : Int) by omega]
      · have := ih (u / 128) (by omega) (x ++ [((u % 128 + 128 : Nat) : Int)]) (by rw [List.length_append, List.length_singleton]; omega)
        simpa using this
theorem refPutInt_f {a : Int} (h0 : -9223372036854775808 ≤ a) (h1 : a < 9223372036854775808) (x : List Int) (hx : x.length ≤ 140737488355318) : Ev (fun k => interleaveref11_PutInt.f k x a) (x ++ enc a) := by
  have hz := zz_range h0 h1
  have hl := enc_len h0 h1
  have := refPutInt_ev (zz a).toNat x (by unfold enc at hl; omega)
  rw [show ((zz a).toNat : Int) = zz a by omega] at this
  refine Ev.step (f := fun k => interleaveref11_PutInt.l0 k (zz a) x) (fun k => ?_) this
  unfold interleaveref11_PutInt.f
  by_cases h : a < 0
  · rw [if_pos h, zz_ref_neg h0 h]
    simp only [interleaveref11_PutInt.j0, Option.bind_some, List.nil_append, List.length_nil]
    rw [if_pos (by omega)]
  · rw [if_neg h, zz_ref_pos (by omega) h1]
    simp only [interleaveref11_PutInt.j0, Option.bind_some, List.nil_append, List.length_nil]
    rw [if_pos (by omega)]

/-- Two lists of bytes are compared. -/
theorem same_loop (x y : List Int) (hl : x.length = y.length) (hm : x.length ≤ 140737488355328) : ∀ (d i : Nat), i + d = x.length → Ev (fun k => interleaveref11_SameBytes.l0 k x y (i : Int)) (decide (x.drop i = y.drop i)) := by
  intro d
  induction d with
  | zero =>
    intro i hi
    refine Ev.step (f := fun _ => some _) (fun k => ?_) (Ev.now _)
    simp only [interleaveref11_SameBytes.l0]
    rw [if_neg (by omega), List.drop_of_length_le (by omega), List.drop_of_length_le (by omega)]
    simp
  | succ d ih =>
    intro i hi
    have hx : i < x.length := by omega
    have hy : i < y.length := by omega
    have ex : rd x (i : Int) = x[i] := by simp [rd, List.getD_eq_getElem?_getD, List.getElem?_eq_getElem hx]
    have ey : rd y (i : Int) = y[i] := by simp [rd, List.getD_eq_getElem?_getD, List.getElem?_eq_getElem hy]
    rw [List.drop_eq_getElem_cons hx, List.drop_eq_getElem_cons hy]
    by_cases h : x[i] = y[i]
    · refine Ev.step (f := fun k => interleaveref11_SameBytes.l0 k x y ((i + 1 : Nat) : Int)) (fun k => ?_) ?_
      · simp only [interleaveref11_SameBytes.l0]
        rw [if_pos (by omega), if_pos (by omega), if_pos (by omega), ex, ey, if_pos h, wrap64_id (by omega) (by omega)]
        rfl
      · have := ih (i + 1) (by omega)
        rwa [show decide (x[i] :: x.drop (i + 1) = y[i] :: y.drop (i + 1)) = decide (x.drop (i + 1) = y.drop (i + 1)) from decide_eq_decide.mpr ⟨fun e => (List.cons.inj e).2, fun e => by rw [h, e]⟩]
    · rw [show decide (x[i] :: x.drop (i + 1) = y[i] :: y.drop (i + 1)) = false from decide_eq_false (fun e => h (List.cons.inj e).1)]
      refine Ev.step (f := fun _ => some _) (fun k => ?_) (Ev.now _)
      simp only [interleaveref11_SameBytes.l0]
      rw [if_pos (by omega), if_pos (by omega), if_pos (by omega), ex, ey, if_neg h]
theorem same_f (x y : List Int) (hm : x.length ≤ 140737488355328) : Ev (fun k => interleaveref11_SameBytes.f k x y) (decide (x = y)) := by
  by_cases hl : x.length = y.length
  · have := same_loop x y hl hm x.length 0 (by omega)
    simp only [List.drop_zero] at this
    refine Ev.congr (fun k => ?_) this
    unfold interleaveref11_SameBytes.f
    rw [if_pos (by omega)]
    rfl
  · refine ⟨0, fun k _ => ?_⟩
    show interleaveref11_SameBytes.f k x y = _
    unfold interleaveref11_SameBytes.f
    rw [if_neg (by omega)]
    have : x ≠ y := fun e => hl (by rw [e])
    simp [this]
theorem same_yes (x : List Int) (hm : x.length ≤ 140737488355328) : Ev (fun k => interleaveref11_SameBytes.f k x x) true := by simpa using same_f x x hm
end Go.Proofs.Ytkanlkgmiednfaa.Pl
