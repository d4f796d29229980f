/- Made by a program of this session (drv.py) over the kit's printer: plain functions, and the proofs that the program's functions come to their answers. No condition. -/
import Derived.Test.YtnmmkgagbfniiaaAx0
namespace Go.Proofs.Ytnmmkgagbfniiaa.A
open Go.RowKit Go.Proofs.YtnmmkgagbfniiaaW.PrintWords Go.Proofs.YtnmmkgagbfniiaaW.PrintLast Go.Proofs.YtnmmkgagbfniiaaW.PrintMore
attribute [local go_sem] max2_int min2_int max_two min_two max_three min_three max_four min_four   -- for this text's walks alone
set_option linter.unusedVariables false
set_option linter.unusedSimpArgs false

/-! ### pack_longest: function 78 -/
mutual
def pack_longest.l0 : Nat → List Int → Int → Int → Int → Int → Option (Int × Int)
  | 0, _, _, _, _, _ => none
  | k + 1, x0, x1, x6, x7, x8 => if x8 ≤ (mn x1 255) then (pack_longest.l1 k x0 x1 x6 x7 x8 0) else (some (x6, x7))
def pack_longest.l1 : Nat → List Int → Int → Int → Int → Int → Int → Option (Int × Int)
  | 0, _, _, _, _, _, _ => none
  | k + 1, x0, x1, x6, x7, x8, x9 => if x9 < 130 then (if (wrap64 (x1 + x9)) < (x0.length : Int) then (if 0 ≤ (wrap64 (x1 + x9)) then (if 0 ≤ (wrap64 ((wrap64 (x1 + x9)) - x8)) then (if (wrap64 ((wrap64 (x1 + x9)) - x8)) < (x0.length : Int) then (if (rd x0 (wrap64 (x1 + x9))) = (rd x0 (wrap64 ((wrap64 (x1 + x9)) - x8))) then (pack_longest.l1 k x0 x1 x6 x7 x8 (wrap64 (x9 + 1))) else (if x9 > x6 then (pack_longest.l0 k x0 x1 x9 x8 (wrap64 (x8 + 1))) else (pack_longest.l0 k x0 x1 x6 x7 (wrap64 (x8 + 1))))) else (none)) else (none)) else (none)) else (if x9 > x6 then (pack_longest.l0 k x0 x1 x9 x8 (wrap64 (x8 + 1))) else (pack_longest.l0 k x0 x1 x6 x7 (wrap64 (x8 + 1))))) else (if x9 > x6 then (pack_longest.l0 k x0 x1 x9 x8 (wrap64 (x8 + 1))) else (pack_longest.l0 k x0 x1 x6 x7 (wrap64 (x8 + 1))))
end
def pack_longest.f (k : Nat) (l0 : List Int) (a1 : Int) : Option (Int × Int) := pack_longest.l0 k l0 a1 0 0 1
theorem pack_longest.mono_l : ∀ k, (∀ y0 y1 y2 y3 y4, LeO (pack_longest.l0 k y0 y1 y2 y3 y4) (pack_longest.l0 (k + 1) y0 y1 y2 y3 y4)) ∧ (∀ y0 y1 y2 y3 y4 y5, LeO (pack_longest.l1 k y0 y1 y2 y3 y4 y5) (pack_longest.l1 (k + 1) y0 y1 y2 y3 y4 y5))
  | 0 => ⟨fun _ _ _ _ _ r h => by simp [pack_longest.l0] at h, fun _ _ _ _ _ _ r h => by simp [pack_longest.l1] at h⟩
  | k + 1 => by
    obtain ⟨ih0, ih1⟩ := pack_longest.mono_l k
    refine ⟨?_, ?_⟩
    · intro y0 y1 y2 y3 y4
      unfold pack_longest.l0
      repeat' first
      | (with_reducible exact ih0 _ _ _ _ _)
      | (with_reducible exact ih1 _ _ _ _ _ _)
      | (with_reducible exact LeO.refl _)
      | (with_reducible exact LeO.none _)
      | (with_reducible refine LeO.ite ?_ ?_)
      | (with_reducible refine LeO.bind ?_ (fun _ => ?_))
      | exact ih0 _ _ _ _ _
      | exact ih1 _ _ _ _ _ _
      | exact LeO.none _
      | refine LeO.ite ?_ ?_
      | refine LeO.bind ?_ (fun _ => ?_)
    · intro y0 y1 y2 y3 y4 y5
      unfold pack_longest.l1
      repeat' first
      | (with_reducible exact ih0 _ _ _ _ _)
      | (with_reducible exact ih1 _ _ _ _ _ _)
      | (with_reducible exact LeO.refl _)
      | (with_reducible exact LeO.none _)
      | (with_reducible refine LeO.ite ?_ ?_)
      | (with_reducible refine LeO.bind ?_ (fun _ => ?_))
      | exact ih0 _ _ _ _ _
      | exact ih1 _ _ _ _ _ _
      | exact LeO.none _
      | refine LeO.ite ?_ ?_
      | refine LeO.bind ?_ (fun _ => ?_)
theorem pack_longest.mono : ∀ a0 a1 k, LeO (pack_longest.f k a0 a1) (pack_longest.f (k + 1) a0 a1) := by
  intro a0 a1 k
  obtain ⟨ih0, ih1⟩ := pack_longest.mono_l k
  unfold pack_longest.f
  repeat' first
      | (with_reducible exact ih0 _ _ _ _ _)
      | (with_reducible exact ih1 _ _ _ _ _ _)
      | (with_reducible exact LeO.refl _)
      | (with_reducible exact LeO.none _)
      | (with_reducible refine LeO.ite ?_ ?_)
      | (with_reducible refine LeO.bind ?_ (fun _ => ?_))
      | exact ih0 _ _ _ _ _
      | exact ih1 _ _ _ _ _ _
      | exact LeO.none _
      | refine LeO.ite ?_ ?_
      | refine LeO.bind ?_ (fun _ => ?_)
set_option maxHeartbeats 8000000 in
set_option maxRecDepth 100000 in
theorem pack_longest.calls (k : Nat) (A0 : Option Addr) (c0 : Nat) (l0 : List Int) (a1 : Int) (r1 : Int) (r2 : Int) (w : World) (hr0 : Kd.C (Kd.int .u8) w A0 l0.length l0) (hc0 : l0.length ≤ c0) (h : pack_longest.f k l0 a1 = some (r1, r2)) :
    Calls Try.prog 78 #[.slice A0 l0.length c0, .int .i64 a1] w fun e w' => e = .returned (.tuple #[.int .i64 r1, .int .i64 r2]) ∧ Below w.heap.size w w' := by
  have HR0 := Aside0.mk hr0
  have HC0 := Aside0.mk hc0
  clear hr0 hc0
  have HB := Aside0.mk (Below.refl w.heap.size w)
  have H : (pack_longest.l0 k l0 a1 0 0 1) = some (r1, r2) := h
  clear h
  have H' := Aside0.mk H
  clear H
  go_enter Try.func78, Try.ntmps78
  go_wp2
  repeat (go_quiet (fail); try go_wp2)
  go_loopg [6, 7, 8] k (fun kq v6 v7 v8 w' => ∃ (x6_1 : Int) (x7_1 : Int) (x8_1 : Int), v6 = .int .i64 x6_1 ∧ v7 = .int .i64 x7_1 ∧ v8 = .int .i64 x8_1 ∧ Aside0 (pack_longest.l0 kq l0 a1 x6_1 x7_1 x8_1 = some (r1, r2)) ∧ Aside0 (kq ≤ k) ∧ Aside0 (Below w.heap.size w w'))
  case atStart => exact ⟨(0), (0), (1), (by first | rfl | (simp; done) | (simp [*]; done)), (by first | rfl | (simp; done) | (simp [*]; done)), (by first | rfl | (simp; done) | (simp [*]; done)), H', ⟨Nat.le_refl _⟩, ⟨by repeat (first | (with_reducible first | exact HB.out | apply below_alloc | apply pw_below_drewN | apply below_drew1) | exact HB.out)⟩⟩
  case round =>
    clear H'
    try clear p2
    obtain ⟨x6_1, x7_1, x8_1, rfl, rfl, rfl, HA, HK1, HB⟩ := hrel
    cases gk with
    | zero => exact absurd HA.out (by simp [pack_longest.l0])
    | succ k1 =>
      have H := HA.out
      clear HA
      simp only [pack_longest.l0] at H
      obtain ⟨ji3, hji3⟩ : ∃ j_ : Int, (mn a1 255) = j_ := ⟨_, rfl⟩
      replace H : (if x8_1 ≤ (ji3) then (pack_longest.l1 k1 l0 a1 x6_1 x7_1 x8_1 0) else (some (x6_1, x7_1))) = some (r1, r2) := by first | (rw [hji3] at H; exact H) | (simp only [hji3] at H ⊢; exact H)
      have hji3_ : (if 255 < a1 then 255 else a1) = ji3 := hji3
      by_cases c4 : x8_1 ≤ (ji3)
      · rw [if_pos c4] at H
        have c4b0 : decide (x8_1 ≤ (ji3)) = true := decide_eq_true c4
        clear c4
        have H' := Aside0.mk H
        clear H
        go_wp2
        repeat (go_quiet (fail); try go_wp2)
        go_loopg [9] k1 (fun kq v9 w' => ∃ (x9_2 : Int), v9 = .int .i64 x9_2 ∧ Aside0 (pack_longest.l1 kq l0 a1 x6_1 x7_1 x8_1 x9_2 = some (r1, r2)) ∧ Aside0 (kq ≤ k1) ∧ Aside0 (Below w.heap.size w w'))
        case atStart => exact ⟨(0), (by first | rfl | (simp; done) | (simp [*]; done)), H', ⟨Nat.le_refl _⟩, ⟨by repeat (first | (with_reducible first | exact HB.out | apply below_alloc | apply pw_below_drewN | apply below_drew1) | exact HB.out)⟩⟩
        case round =>
          clear H'
          try clear p2
          try clear c4
          try clear c4b0
          try clear p2
          obtain ⟨x9_2, rfl, HA, HK2, HB⟩ := hrel
          cases gk with
          | zero => exact absurd HA.out (by simp [pack_longest.l1])
          | succ k2 =>
            have H := HA.out
            clear HA
            simp only [pack_longest.l1] at H
            by_cases c5 : x9_2 < 130
            · rw [if_pos c5] at H
              have c5b0 : decide (x9_2 < 130) = true := decide_eq_true c5
              clear c5
              by_cases c6 : (wrap64 (a1 + x9_2)) < (l0.length : Int)
              · rw [if_pos c6] at H
                have c6b0 : decide ((wrap64 (a1 + x9_2)) < (l0.length : Int)) = true := decide_eq_true c6
                clear c6
                obtain ⟨ji7, hji7⟩ : ∃ j_ : Int, (wrap64 (a1 + x9_2)) = j_ := ⟨_, rfl⟩
                replace H : (if 0 ≤ (ji7) then (if 0 ≤ (wrap64 ((ji7) - x8_1)) then (if (wrap64 ((ji7) - x8_1)) < (l0.length : Int) then (if (rd l0 (ji7)) = (rd l0 (wrap64 ((ji7) - x8_1))) then (pack_longest.l1 k2 l0 a1 x6_1 x7_1 x8_1 (wrap64 (x9_2 + 1))) else (if x9_2 > x6_1 then (pack_longest.l0 k2 l0 a1 x9_2 x8_1 (wrap64 (x8_1 + 1))) else (pack_longest.l0 k2 l0 a1 x6_1 x7_1 (wrap64 (x8_1 + 1))))) else (none)) else (none)) else (none)) = some (r1, r2) := by first | (rw [hji7] at H; exact H) | (simp only [hji7] at H ⊢; exact H)
                (try rw [hji7] at c6b0)
                have hji7w : (IntKind.i64.wrap (a1 + x9_2)) = ji7 := (i64_w _).trans hji7
                by_cases c8 : 0 ≤ (ji7)
                · rw [if_pos c8] at H
                  have c8b0 : decide (0 ≤ (ji7)) = true := decide_eq_true c8
                  clear c8
                  obtain ⟨ji9, hji9⟩ : ∃ j_ : Int, (wrap64 ((ji7) - x8_1)) = j_ := ⟨_, rfl⟩
                  replace H : (if 0 ≤ (ji9) then (if (ji9) < (l0.length : Int) then (if (rd l0 (ji7)) = (rd l0 (ji9)) then (pack_longest.l1 k2 l0 a1 x6_1 x7_1 x8_1 (wrap64 (x9_2 + 1))) else (if x9_2 > x6_1 then (pack_longest.l0 k2 l0 a1 x9_2 x8_1 (wrap64 (x8_1 + 1))) else (pack_longest.l0 k2 l0 a1 x6_1 x7_1 (wrap64 (x8_1 + 1))))) else (none)) else (none)) = some (r1, r2) := by first | (rw [hji9] at H; exact H) | (simp only [hji9] at H ⊢; exact H)
                  have hji9w : (IntKind.i64.wrap ((ji7) - x8_1)) = ji9 := (i64_w _).trans hji9
                  by_cases c10 : 0 ≤ (ji9)
                  · rw [if_pos c10] at H
                    have c10b0 : decide (0 ≤ (ji9)) = true := decide_eq_true c10
                    clear c10
                    by_cases c11 : (ji9) < (l0.length : Int)
                    · rw [if_pos c11] at H
                      have c11b0 : decide ((ji9) < (l0.length : Int)) = true := decide_eq_true c11
                      clear c11
                      by_cases c12 : (rd l0 (ji7)) = (rd l0 (ji9))
                      · rw [if_pos c12] at H
                        have c12b0 : ((rd l0 (ji7)) == (rd l0 (ji9))) = true := beq_iff_eq.mpr c12
                        have c12b1 : ((rd l0 (ji7)) != (rd l0 (ji9))) = false := bne_eq_false_iff_eq.mpr c12
                        clear c12
                        have H' := Aside0.mk H
                        clear H
                        have p263 : 0 ≤ ((ji7) : Int) := of_decide_eq_true (by first | (with_reducible assumption) | assumption)
                        have q263 : (ji7) < (l0.length : Int) := of_decide_eq_true (by first | (with_reducible assumption) | assumption)
                        obtain ⟨ad263, e263, hx263_0⟩ := Kd.at_int HR0.out (ji7) p263 q263
                        cases e263
                        replace hx263_0 := (HB.out.cell (World.block_lt_of_cell? w _ hx263_0)).trans hx263_0
                        replace p263 := eq_true p263
                        replace q263 := eq_true q263
                        have p264 : 0 ≤ ((ji9) : Int) := of_decide_eq_true (by first | (with_reducible assumption) | assumption)
                        have q264 : (ji9) < (l0.length : Int) := of_decide_eq_true (by first | (with_reducible assumption) | assumption)
                        obtain ⟨ad264, e264, hx264_0⟩ := Kd.at_int HR0.out (ji9) p264 q264
                        obtain rfl : ad263 = ad264 := (by injection e264)
                        replace hx264_0 := (HB.out.cell (World.block_lt_of_cell? w _ hx264_0)).trans hx264_0
                        replace p264 := eq_true p264
                        replace q264 := eq_true q264
                        go_wp2
                        repeat (go_quiet (fail); try go_wp2)
                        go_roundg k2
                        case measure => have := HK1.out; have := HK2.out; omega
                        case rel => exact ⟨(wrap64 (x9_2 + 1)), (by first | rfl | (simp; done) | (simp [*]; done)), H', ⟨by have := HK1.out; have := HK2.out; omega⟩, ⟨by repeat (first | (with_reducible first | exact HB.out | apply below_alloc | apply pw_below_drewN | apply below_drew1) | exact HB.out)⟩⟩
                      · rw [if_neg c12] at H
                        have c12b0 : ((rd l0 (ji7)) == (rd l0 (ji9))) = false := beq_eq_false_iff_ne.mpr c12
                        have c12b1 : ((rd l0 (ji7)) != (rd l0 (ji9))) = true := bne_iff_ne.mpr c12
                        by_cases c13 : x9_2 > x6_1
                        · rw [if_pos c13] at H
                          have c13b0 : decide (x6_1 < x9_2) = true := decide_eq_true c13
                          clear c13
                          have H' := Aside0.mk H
                          clear H
                          have p263 : 0 ≤ ((ji7) : Int) := of_decide_eq_true (by first | (with_reducible assumption) | assumption)
                          have q263 : (ji7) < (l0.length : Int) := of_decide_eq_true (by first | (with_reducible assumption) | assumption)
                          obtain ⟨ad263, e263, hx263_0⟩ := Kd.at_int HR0.out (ji7) p263 q263
                          cases e263
                          replace hx263_0 := (HB.out.cell (World.block_lt_of_cell? w _ hx263_0)).trans hx263_0
                          replace p263 := eq_true p263
                          replace q263 := eq_true q263
                          have p264 : 0 ≤ ((ji9) : Int) := of_decide_eq_true (by first | (with_reducible assumption) | assumption)
                          have q264 : (ji9) < (l0.length : Int) := of_decide_eq_true (by first | (with_reducible assumption) | assumption)
                          obtain ⟨ad264, e264, hx264_0⟩ := Kd.at_int HR0.out (ji9) p264 q264
                          obtain rfl : ad263 = ad264 := (by injection e264)
                          replace hx264_0 := (HB.out.cell (World.block_lt_of_cell? w _ hx264_0)).trans hx264_0
                          replace p264 := eq_true p264
                          replace q264 := eq_true q264
                          go_wp2
                          repeat (go_quiet (fail); try go_wp2)
                          go_roundg k2
                          case measure => have := HK1.out; have := HK2.out; omega
                          case rel => exact ⟨(x9_2), (x8_1), (wrap64 (x8_1 + 1)), (by first | rfl | (simp; done) | (simp [*]; done)), (by first | rfl | (simp; done) | (simp [*]; done)), (by first | rfl | (simp; done) | (simp [*]; done)), H', ⟨by have := HK1.out; have := HK2.out; omega⟩, ⟨by repeat (first | (with_reducible first | exact HB.out | apply below_alloc | apply pw_below_drewN | apply below_drew1) | exact HB.out)⟩⟩
                        · rw [if_neg c13] at H
                          have c13b0 : decide (x6_1 < x9_2) = false := decide_eq_false c13
                          clear c13
                          have H' := Aside0.mk H
                          clear H
                          have p263 : 0 ≤ ((ji7) : Int) := of_decide_eq_true (by first | (with_reducible assumption) | assumption)
                          have q263 : (ji7) < (l0.length : Int) := of_decide_eq_true (by first | (with_reducible assumption) | assumption)
                          obtain ⟨ad263, e263, hx263_0⟩ := Kd.at_int HR0.out (ji7) p263 q263
                          cases e263
                          replace hx263_0 := (HB.out.cell (World.block_lt_of_cell? w _ hx263_0)).trans hx263_0
                          replace p263 := eq_true p263
                          replace q263 := eq_true q263
                          have p264 : 0 ≤ ((ji9) : Int) := of_decide_eq_true (by first | (with_reducible assumption) | assumption)
                          have q264 : (ji9) < (l0.length : Int) := of_decide_eq_true (by first | (with_reducible assumption) | assumption)
                          obtain ⟨ad264, e264, hx264_0⟩ := Kd.at_int HR0.out (ji9) p264 q264
                          obtain rfl : ad263 = ad264 := (by injection e264)
                          replace hx264_0 := (HB.out.cell (World.block_lt_of_cell? w _ hx264_0)).trans hx264_0
                          replace p264 := eq_true p264
                          replace q264 := eq_true q264
                          go_wp2
                          repeat (go_quiet (fail); try go_wp2)
                          go_roundg k2
                          case measure => have := HK1.out; have := HK2.out; omega
                          case rel => exact ⟨(x6_1), (x7_1), (wrap64 (x8_1 + 1)), (by first | rfl | (simp; done) | (simp [*]; done)), (by first | rfl | (simp; done) | (simp [*]; done)), (by first | rfl | (simp; done) | (simp [*]; done)), H', ⟨by have := HK1.out; have := HK2.out; omega⟩, ⟨by repeat (first | (with_reducible first | exact HB.out | apply below_alloc | apply pw_below_drewN | apply below_drew1) | exact HB.out)⟩⟩
                    · rw [if_neg c11] at H
                      exact absurd H (by simp)
                  · rw [if_neg c10] at H
                    exact absurd H (by simp)
                · rw [if_neg c8] at H
                  exact absurd H (by simp)
              · rw [if_neg c6] at H
                have c6b0 : decide ((wrap64 (a1 + x9_2)) < (l0.length : Int)) = false := decide_eq_false c6
                clear c6
                by_cases c14 : x9_2 > x6_1
                · rw [if_pos c14] at H
                  have c14b0 : decide (x6_1 < x9_2) = true := decide_eq_true c14
                  clear c14
                  have H' := Aside0.mk H
                  clear H
                  go_wp2
                  repeat (go_quiet (fail); try go_wp2)
                  go_roundg k2
                  case measure => have := HK1.out; have := HK2.out; omega
                  case rel => exact ⟨(x9_2), (x8_1), (wrap64 (x8_1 + 1)), (by first | rfl | (simp; done) | (simp [*]; done)), (by first | rfl | (simp; done) | (simp [*]; done)), (by first | rfl | (simp; done) | (simp [*]; done)), H', ⟨by have := HK1.out; have := HK2.out; omega⟩, ⟨by repeat (first | (with_reducible first | exact HB.out | apply below_alloc | apply pw_below_drewN | apply below_drew1) | exact HB.out)⟩⟩
                · rw [if_neg c14] at H
                  have c14b0 : decide (x6_1 < x9_2) = false := decide_eq_false c14
                  clear c14
                  have H' := Aside0.mk H
                  clear H
                  go_wp2
                  repeat (go_quiet (fail); try go_wp2)
                  go_roundg k2
                  case measure => have := HK1.out; have := HK2.out; omega
                  case rel => exact ⟨(x6_1), (x7_1), (wrap64 (x8_1 + 1)), (by first | rfl | (simp; done) | (simp [*]; done)), (by first | rfl | (simp; done) | (simp [*]; done)), (by first | rfl | (simp; done) | (simp [*]; done)), H', ⟨by have := HK1.out; have := HK2.out; omega⟩, ⟨by repeat (first | (with_reducible first | exact HB.out | apply below_alloc | apply pw_below_drewN | apply below_drew1) | exact HB.out)⟩⟩
            · rw [if_neg c5] at H
              have c5b0 : decide (x9_2 < 130) = false := decide_eq_false c5
              clear c5
              by_cases c15 : x9_2 > x6_1
              · rw [if_pos c15] at H
                have c15b0 : decide (x6_1 < x9_2) = true := decide_eq_true c15
                clear c15
                have H' := Aside0.mk H
                clear H
                go_wp2
                repeat (go_quiet (fail); try go_wp2)
                go_roundg k2
                case measure => have := HK1.out; have := HK2.out; omega
                case rel => exact ⟨(x9_2), (x8_1), (wrap64 (x8_1 + 1)), (by first | rfl | (simp; done) | (simp [*]; done)), (by first | rfl | (simp; done) | (simp [*]; done)), (by first | rfl | (simp; done) | (simp [*]; done)), H', ⟨by have := HK1.out; have := HK2.out; omega⟩, ⟨by repeat (first | (with_reducible first | exact HB.out | apply below_alloc | apply pw_below_drewN | apply below_drew1) | exact HB.out)⟩⟩
              · rw [if_neg c15] at H
                have c15b0 : decide (x6_1 < x9_2) = false := decide_eq_false c15
                clear c15
                have H' := Aside0.mk H
                clear H
                go_wp2
                repeat (go_quiet (fail); try go_wp2)
                go_roundg k2
                case measure => have := HK1.out; have := HK2.out; omega
                case rel => exact ⟨(x6_1), (x7_1), (wrap64 (x8_1 + 1)), (by first | rfl | (simp; done) | (simp [*]; done)), (by first | rfl | (simp; done) | (simp [*]; done)), (by first | rfl | (simp; done) | (simp [*]; done)), H', ⟨by have := HK1.out; have := HK2.out; omega⟩, ⟨by repeat (first | (with_reducible first | exact HB.out | apply below_alloc | apply pw_below_drewN | apply below_drew1) | exact HB.out)⟩⟩
      · rw [if_neg c4] at H
        have c4b0 : decide (x8_1 ≤ (ji3)) = false := decide_eq_false c4
        clear c4
        simp only [Option.some.injEq, Prod.mk.injEq] at H
        obtain ⟨rfl, rfl⟩ := H
        go_wp2
        repeat (go_quiet (fail); try go_wp2)
        go_ret2
        exact ⟨by first | rfl | (simp [errW_none, errW_some] <;> rfl) | (simp only [← hji3]; first | rfl | (simp [errW_none, errW_some] <;> rfl)) | (simp [*, errW_none, errW_some] <;> rfl), by repeat (first | (with_reducible first | exact HB.out | apply below_alloc | apply pw_below_drewN | apply below_drew1) | exact HB.out)⟩

end Go.Proofs.Ytnmmkgagbfniiaa.A
