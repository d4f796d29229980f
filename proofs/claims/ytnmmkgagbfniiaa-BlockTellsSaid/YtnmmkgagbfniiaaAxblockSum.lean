/- Made by a program of this session (drv.py) over the kit's printer: plain functions, and the proofs that the program's functions come to their answers. No condition. -/
import Derived.Test.YtnmmkgagbfniiaaAx0
namespace Go.Proofs.Ytnmmkgagbfniiaa.A
open Go.RowKit Go.Proofs.YtnmmkgagbfniiaaW.PrintWords Go.Proofs.YtnmmkgagbfniiaaW.PrintLast Go.Proofs.YtnmmkgagbfniiaaW.PrintMore
attribute [local go_sem] max2_int min2_int max_two min_two max_three min_three max_four min_four   -- for this text's walks alone
set_option linter.unusedVariables false
set_option linter.unusedSimpArgs false

/-! ### block_Sum: function 57 -/
mutual
def block_Sum.l0 : Nat → Int → List Int → Int → Int → Option (Int)
  | 0, _, _, _, _ => none
  | k + 1, x3, x7, x8, x9 => if x9 < x8 then (if 0 ≤ x9 then (if x9 < (x7.length : Int) then (block_Sum.l1 k (Go.bits .xor .u32 x3 ((rd x7 x9) % 4294967296)) x7 x8 x9 0) else (none)) else (none)) else (some (Go.bits .xor .u32 4294967295 x3))
def block_Sum.l1 : Nat → Int → List Int → Int → Int → Int → Option (Int)
  | 0, _, _, _, _, _ => none
  | k + 1, x3, x7, x8, x9, x17 => if x17 < 8 then (if (Go.bits .and .u32 x3 1) = 1 then (block_Sum.l1 k (Go.bits .xor .u32 (x3 / 2) 3988292384) x7 x8 x9 (wrap64 (x17 + 1))) else (block_Sum.l1 k (x3 / 2) x7 x8 x9 (wrap64 (x17 + 1)))) else (block_Sum.l0 k x3 x7 x8 (wrap64 (x9 + 1)))
end
def block_Sum.f (k : Nat) (l0 : List Int) : Option (Int) := block_Sum.l0 k 4294967295 l0 (l0.length : Int) 0
theorem block_Sum.mono_l : ∀ k, (∀ y0 y1 y2 y3, LeO (block_Sum.l0 k y0 y1 y2 y3) (block_Sum.l0 (k + 1) y0 y1 y2 y3)) ∧ (∀ y0 y1 y2 y3 y4, LeO (block_Sum.l1 k y0 y1 y2 y3 y4) (block_Sum.l1 (k + 1) y0 y1 y2 y3 y4))
  | 0 => ⟨fun _ _ _ _ r h => by simp [block_Sum.l0] at h, fun _ _ _ _ _ r h => by simp [block_Sum.l1] at h⟩
  | k + 1 => by
    obtain ⟨ih0, ih1⟩ := block_Sum.mono_l k
    refine ⟨?_, ?_⟩
    · intro y0 y1 y2 y3
      unfold block_Sum.l0
      repeat' first
      | (with_reducible exact ih0 _ _ _ _)
      | (with_reducible exact ih1 _ _ _ _ _)
      | (with_reducible exact LeO.refl _)
      | (with_reducible exact LeO.none _)
      | (with_reducible refine LeO.ite ?_ ?_)
      | (with_reducible refine LeO.bind ?_ (fun _ => ?_))
      | exact ih0 _ _ _ _
      | exact ih1 _ _ _ _ _
      | exact LeO.none _
      | refine LeO.ite ?_ ?_
      | refine LeO.bind ?_ (fun _ => ?_)
    · intro y0 y1 y2 y3 y4
      unfold block_Sum.l1
      repeat' first
      | (with_reducible exact ih0 _ _ _ _)
      | (with_reducible exact ih1 _ _ _ _ _)
      | (with_reducible exact LeO.refl _)
      | (with_reducible exact LeO.none _)
      | (with_reducible refine LeO.ite ?_ ?_)
      | (with_reducible refine LeO.bind ?_ (fun _ => ?_))
      | exact ih0 _ _ _ _
      | exact ih1 _ _ _ _ _
      | exact LeO.none _
      | refine LeO.ite ?_ ?_
      | refine LeO.bind ?_ (fun _ => ?_)
theorem block_Sum.mono : ∀ a0 k, LeO (block_Sum.f k a0) (block_Sum.f (k + 1) a0) := by
  intro a0 k
  obtain ⟨ih0, ih1⟩ := block_Sum.mono_l k
  unfold block_Sum.f
  repeat' first
      | (with_reducible exact ih0 _ _ _ _)
      | (with_reducible exact ih1 _ _ _ _ _)
      | (with_reducible exact LeO.refl _)
      | (with_reducible exact LeO.none _)
      | (with_reducible refine LeO.ite ?_ ?_)
      | (with_reducible refine LeO.bind ?_ (fun _ => ?_))
      | exact ih0 _ _ _ _
      | exact ih1 _ _ _ _ _
      | exact LeO.none _
      | refine LeO.ite ?_ ?_
      | refine LeO.bind ?_ (fun _ => ?_)
set_option maxHeartbeats 8000000 in
set_option maxRecDepth 100000 in
theorem block_Sum.calls (k : Nat) (A0 : Option Addr) (c0 : Nat) (l0 : List Int) (r : Int) (w : World) (hr0 : Kd.C (Kd.int .u8) w A0 l0.length l0) (hc0 : l0.length ≤ c0) (h : block_Sum.f k l0 = some r) :
    Calls Try.prog 57 #[.slice A0 l0.length c0] w fun e w' => e = .returned (.int .u32 r) ∧ Drawn0 w w' := by
  have HR0 := Aside0.mk hr0
  have HC0 := Aside0.mk hc0
  clear hr0 hc0
  have H : (block_Sum.l0 k 4294967295 l0 (l0.length : Int) 0) = some r := h
  clear h
  have H' := Aside0.mk H
  clear H
  go_enter Try.func57, Try.ntmps57
  go_wp2
  go_loopg [3, 9] k (fun kq v3 v9 w' => ∃ (x3_1 : Int) (x9_1 : Int), v3 = .int .u32 x3_1 ∧ v9 = .int .i64 x9_1 ∧ Aside0 (block_Sum.l0 kq x3_1 l0 (l0.length : Int) x9_1 = some r) ∧ Aside0 (kq ≤ k) ∧ Drawn0 w w')
  case atStart => exact ⟨(4294967295), (0), (by first | rfl | (simp; done) | (simp [*]; done)), (by first | rfl | (simp; done) | (simp [*]; done)), H', ⟨Nat.le_refl _⟩, by repeat (first | exact Drawn0.refl _ | apply Drawn0.step)⟩
  case round =>
    clear H'
    obtain ⟨x3_1, x9_1, rfl, rfl, HA, HK1, ⟨m1, rfl⟩⟩ := hrel
    cases gk with
    | zero => exact absurd HA.out (by simp [block_Sum.l0])
    | succ k1 =>
      have H := HA.out
      clear HA
      simp only [block_Sum.l0] at H
      by_cases c2 : x9_1 < (l0.length : Int)
      · rw [if_pos c2] at H
        have c2b0 : decide (x9_1 < (l0.length : Int)) = true := decide_eq_true c2
        clear c2
        by_cases c3 : 0 ≤ x9_1
        · rw [if_pos c3] at H
          have c3b0 : decide (0 ≤ x9_1) = true := decide_eq_true c3
          clear c3
          by_cases c4 : x9_1 < (l0.length : Int)
          · rw [if_pos c4] at H
            have c4b0 : decide (x9_1 < (l0.length : Int)) = true := decide_eq_true c4
            clear c4
            have H' := Aside0.mk H
            clear H
            have p265 : 0 ≤ (x9_1 : Int) := of_decide_eq_true (by first | (with_reducible assumption) | assumption)
            have q265 : x9_1 < (l0.length : Int) := of_decide_eq_true (by first | (with_reducible assumption) | assumption)
            obtain ⟨ad265, e265, hx265_0⟩ := Kd.at_int HR0.out x9_1 p265 q265
            cases e265
            replace p265 := eq_true p265
            replace q265 := eq_true q265
            go_wp2
            go_loopg [3, 17] k1 (fun kq v3 v17 w' => ∃ (x3_2 : Int) (x17_2 : Int), v3 = .int .u32 x3_2 ∧ v17 = .int .i64 x17_2 ∧ Aside0 (block_Sum.l1 kq x3_2 l0 (l0.length : Int) x9_1 x17_2 = some r) ∧ Aside0 (kq ≤ k1) ∧ Drawn0 w w')
            case atStart => exact ⟨(Go.bits .xor .u32 x3_1 ((rd l0 x9_1) % 4294967296)), (0), (by first | rfl | (simp; done) | (simp [*]; done)), (by first | rfl | (simp; done) | (simp [*]; done)), H', ⟨Nat.le_refl _⟩, by repeat (first | exact Drawn0.refl _ | apply Drawn0.step)⟩
            case round =>
              clear H'
              try clear c2
              try clear c2b0
              try clear p2
              try clear q2
              try clear hx2
              try clear c3
              try clear c3b0
              try clear c4
              try clear c4b0
              try clear hx265_0
              try clear p265
              try clear q265
              obtain ⟨x3_2, x17_2, rfl, rfl, HA, HK2, ⟨m2, rfl⟩⟩ := hrel
              cases gk with
              | zero => exact absurd HA.out (by simp [block_Sum.l1])
              | succ k2 =>
                have H := HA.out
                clear HA
                simp only [block_Sum.l1] at H
                by_cases c5 : x17_2 < 8
                · rw [if_pos c5] at H
                  have c5b0 : decide (x17_2 < 8) = true := decide_eq_true c5
                  clear c5
                  by_cases c6 : (Go.bits .and .u32 x3_2 1) = 1
                  · rw [if_pos c6] at H
                    have c6b0 : ((Go.bits .and .u32 x3_2 1) == 1) = true := beq_iff_eq.mpr c6
                    have c6b1 : ((Go.bits .and .u32 x3_2 1) != 1) = false := bne_eq_false_iff_eq.mpr c6
                    clear c6
                    have H' := Aside0.mk H
                    clear H
                    go_wp2
                    go_roundg k2
                    case measure => have := HK1.out; have := HK2.out; omega
                    case rel => exact ⟨(Go.bits .xor .u32 (x3_2 / 2) 3988292384), (wrap64 (x17_2 + 1)), (by first | rfl | (simp; done) | (simp [*]; done)), (by first | rfl | (simp; done) | (simp [*]; done)), H', ⟨by have := HK1.out; have := HK2.out; omega⟩, by repeat (first | exact Drawn0.refl _ | apply Drawn0.step)⟩
                  · rw [if_neg c6] at H
                    have c6b0 : ((Go.bits .and .u32 x3_2 1) == 1) = false := beq_eq_false_iff_ne.mpr c6
                    have c6b1 : ((Go.bits .and .u32 x3_2 1) != 1) = true := bne_iff_ne.mpr c6
                    have H' := Aside0.mk H
                    clear H
                    go_wp2
                    go_roundg k2
                    case measure => have := HK1.out; have := HK2.out; omega
                    case rel => exact ⟨(x3_2 / 2), (wrap64 (x17_2 + 1)), (by first | rfl | (simp; done) | (simp [*]; done)), (by first | rfl | (simp; done) | (simp [*]; done)), H', ⟨by have := HK1.out; have := HK2.out; omega⟩, by repeat (first | exact Drawn0.refl _ | apply Drawn0.step)⟩
                · rw [if_neg c5] at H
                  have c5b0 : decide (x17_2 < 8) = false := decide_eq_false c5
                  clear c5
                  have H' := Aside0.mk H
                  clear H
                  go_wp2
                  go_roundg k2
                  case measure => have := HK1.out; have := HK2.out; omega
                  case rel => exact ⟨(x3_2), (wrap64 (x9_1 + 1)), (by first | rfl | (simp; done) | (simp [*]; done)), (by first | rfl | (simp; done) | (simp [*]; done)), H', ⟨by have := HK1.out; have := HK2.out; omega⟩, by repeat (first | exact Drawn0.refl _ | apply Drawn0.step)⟩
          · rw [if_neg c4] at H
            exact absurd H (by simp)
        · rw [if_neg c3] at H
          exact absurd H (by simp)
      · rw [if_neg c2] at H
        have c2b0 : decide (x9_1 < (l0.length : Int)) = false := decide_eq_false c2
        clear c2
        obtain rfl := Option.some.inj H
        go_wp2
        go_ret
        exact ⟨by first | rfl | (simp; done) | (simp [*]; done), by repeat (first | exact Drawn0.refl _ | apply Drawn0.step)⟩

end Go.Proofs.Ytnmmkgagbfniiaa.A
