/- Made by a program of this session (drv.py) over the kit's printer: plain functions, and the proofs that the program's functions come to their answers. No condition. -/
import Derived.Test.YtnmmkgagbfniiaaAx0
namespace Go.Proofs.Ytnmmkgagbfniiaa.A
open Go.RowKit Go.Proofs.YtnmmkgagbfniiaaW.PrintWords Go.Proofs.YtnmmkgagbfniiaaW.PrintLast Go.Proofs.YtnmmkgagbfniiaaW.PrintMore
attribute [local go_sem] max2_int min2_int max_two min_two max_three min_three max_four min_four   -- for this text's walks alone
set_option linter.unusedVariables false
set_option linter.unusedSimpArgs false

/-! ### event_Int: function 75 -/
def event_Int.l0 : Nat → List Int → Int → Int → Option (Int × Int × Int)
  | 0, _, _, _ => none
  | k + 1, x0, x5, x6 => if x6 < 10 then (if x6 = (x0.length : Int) then (some (0, 0, 9)) else (if 0 ≤ x6 then (if x6 < (x0.length : Int) then (if 0 ≤ (wrap64 (7 * x6)) then (if (rd x0 x6) ≥ 128 then (event_Int.l0 k x0 (Go.bits .or .u64 x5 (shl .u64 (IntKind.u64.wrap (Go.bits .and .u8 (rd x0 x6) 127)) (wrap64 (7 * x6)))) (wrap64 (x6 + 1))) else (if x6 = 9 then (if (rd x0 x6) > 1 then (some (0, 0, 11)) else (if x6 > 0 then (if (rd x0 x6) = 0 then (some (0, 0, 11)) else (some (Go.bits .xor .i64 (wrap64 ((Go.bits .or .u64 x5 (shl .u64 (IntKind.u64.wrap (Go.bits .and .u8 (rd x0 x6) 127)) (wrap64 (7 * x6)))) / 2)) (wrap64 (-(wrap64 (Go.bits .and .u64 (Go.bits .or .u64 x5 (shl .u64 (IntKind.u64.wrap (Go.bits .and .u8 (rd x0 x6) 127)) (wrap64 (7 * x6)))) 1)))), wrap64 (x6 + 1), 0))) else (some (Go.bits .xor .i64 (wrap64 ((Go.bits .or .u64 x5 (shl .u64 (IntKind.u64.wrap (Go.bits .and .u8 (rd x0 x6) 127)) (wrap64 (7 * x6)))) / 2)) (wrap64 (-(wrap64 (Go.bits .and .u64 (Go.bits .or .u64 x5 (shl .u64 (IntKind.u64.wrap (Go.bits .and .u8 (rd x0 x6) 127)) (wrap64 (7 * x6)))) 1)))), wrap64 (x6 + 1), 0)))) else (if x6 > 0 then (if (rd x0 x6) = 0 then (some (0, 0, 11)) else (some (Go.bits .xor .i64 (wrap64 ((Go.bits .or .u64 x5 (shl .u64 (IntKind.u64.wrap (Go.bits .and .u8 (rd x0 x6) 127)) (wrap64 (7 * x6)))) / 2)) (wrap64 (-(wrap64 (Go.bits .and .u64 (Go.bits .or .u64 x5 (shl .u64 (IntKind.u64.wrap (Go.bits .and .u8 (rd x0 x6) 127)) (wrap64 (7 * x6)))) 1)))), wrap64 (x6 + 1), 0))) else (some (Go.bits .xor .i64 (wrap64 ((Go.bits .or .u64 x5 (shl .u64 (IntKind.u64.wrap (Go.bits .and .u8 (rd x0 x6) 127)) (wrap64 (7 * x6)))) / 2)) (wrap64 (-(wrap64 (Go.bits .and .u64 (Go.bits .or .u64 x5 (shl .u64 (IntKind.u64.wrap (Go.bits .and .u8 (rd x0 x6) 127)) (wrap64 (7 * x6)))) 1)))), wrap64 (x6 + 1), 0))))) else (none)) else (none)) else (none))) else (some (0, 0, 11))
def event_Int.f (k : Nat) (l0 : List Int) : Option (Int × Int × Int) := event_Int.l0 k l0 0 0
theorem event_Int.mono_l : ∀ k, (∀ y0 y1 y2, LeO (event_Int.l0 k y0 y1 y2) (event_Int.l0 (k + 1) y0 y1 y2))
  | 0 => fun _ _ _ r h => by simp [event_Int.l0] at h
  | k + 1 => by
    have ih0 := event_Int.mono_l k
    · intro y0 y1 y2
      unfold event_Int.l0
      repeat' first
      | (with_reducible exact ih0 _ _ _)
      | (with_reducible exact LeO.refl _)
      | (with_reducible exact LeO.none _)
      | (with_reducible refine LeO.ite ?_ ?_)
      | (with_reducible refine LeO.bind ?_ (fun _ => ?_))
      | exact ih0 _ _ _
      | exact LeO.none _
      | refine LeO.ite ?_ ?_
      | refine LeO.bind ?_ (fun _ => ?_)
theorem event_Int.mono : ∀ a0 k, LeO (event_Int.f k a0) (event_Int.f (k + 1) a0) := by
  intro a0 k
  have ih0 := event_Int.mono_l k
  unfold event_Int.f
  repeat' first
      | (with_reducible exact ih0 _ _ _)
      | (with_reducible exact LeO.refl _)
      | (with_reducible exact LeO.none _)
      | (with_reducible refine LeO.ite ?_ ?_)
      | (with_reducible refine LeO.bind ?_ (fun _ => ?_))
      | exact ih0 _ _ _
      | exact LeO.none _
      | refine LeO.ite ?_ ?_
      | refine LeO.bind ?_ (fun _ => ?_)
set_option maxHeartbeats 8000000 in
set_option maxRecDepth 100000 in
theorem event_Int.calls (k : Nat) (A0 : Option Addr) (c0 : Nat) (l0 : List Int) (r1 : Int) (r2 : Int) (r3 : Int) (w : World) (hr0 : Kd.C (Kd.int .u8) w A0 l0.length l0) (hc0 : l0.length ≤ c0) (h : event_Int.f k l0 = some (r1, r2, r3)) :
    Calls Try.prog 75 #[.slice A0 l0.length c0] w fun e w' => e = .returned (.tuple #[.int .i64 r1, .int .i64 r2, .int .i64 r3]) ∧ Below w.heap.size w w' := by
  have HR0 := Aside0.mk hr0
  have HC0 := Aside0.mk hc0
  clear hr0 hc0
  have HB := Aside0.mk (Below.refl w.heap.size w)
  have H : (event_Int.l0 k l0 0 0) = some (r1, r2, r3) := h
  clear h
  have H' := Aside0.mk H
  clear H
  go_enter Try.func75, Try.ntmps75
  go_wp2
  go_loopg [5, 6] k (fun kq v5 v6 w' => ∃ (x5_1 : Int) (x6_1 : Int), v5 = .int .u64 x5_1 ∧ v6 = .int .i64 x6_1 ∧ Aside0 (event_Int.l0 kq l0 x5_1 x6_1 = some (r1, r2, r3)) ∧ Aside0 (kq ≤ k) ∧ Aside0 (Below w.heap.size w w'))
  case atStart => exact ⟨(0), (0), (by first | rfl | (simp; done) | (simp [*]; done)), (by first | rfl | (simp; done) | (simp [*]; done)), H', ⟨Nat.le_refl _⟩, ⟨by repeat (first | (with_reducible first | exact HB.out | apply below_alloc | apply pw_below_drewN | apply below_drew1) | exact HB.out)⟩⟩
  case round =>
    clear H'
    obtain ⟨x5_1, x6_1, rfl, rfl, HA, HK1, HB⟩ := hrel
    cases gk with
    | zero => exact absurd HA.out (by simp [event_Int.l0])
    | succ k1 =>
      have H := HA.out
      clear HA
      simp only [event_Int.l0] at H
      by_cases c2 : x6_1 < 10
      · rw [if_pos c2] at H
        have c2b0 : decide (x6_1 < 10) = true := decide_eq_true c2
        clear c2
        by_cases c3 : x6_1 = (l0.length : Int)
        · rw [if_pos c3] at H
          have c3b0 : (x6_1 == (l0.length : Int)) = true := beq_iff_eq.mpr c3
          have c3b1 : (x6_1 != (l0.length : Int)) = false := bne_eq_false_iff_eq.mpr c3
          clear c3
          simp only [Option.some.injEq, Prod.mk.injEq] at H
          obtain ⟨rfl, rfl, rfl⟩ := H
          go_wp2
          go_ret3
          exact ⟨by first | rfl | (simp [errW_none, errW_some] <;> rfl) | (simp [*, errW_none, errW_some] <;> rfl), by repeat (first | (with_reducible first | exact HB.out | apply below_alloc | apply pw_below_drewN | apply below_drew1) | exact HB.out)⟩
        · rw [if_neg c3] at H
          have c3b0 : (x6_1 == (l0.length : Int)) = false := beq_eq_false_iff_ne.mpr c3
          have c3b1 : (x6_1 != (l0.length : Int)) = true := bne_iff_ne.mpr c3
          by_cases c4 : 0 ≤ x6_1
          · rw [if_pos c4] at H
            have c4b0 : decide (0 ≤ x6_1) = true := decide_eq_true c4
            clear c4
            by_cases c5 : x6_1 < (l0.length : Int)
            · rw [if_pos c5] at H
              have c5b0 : decide (x6_1 < (l0.length : Int)) = true := decide_eq_true c5
              clear c5
              obtain ⟨ji6, hji6⟩ : ∃ j_ : Int, (wrap64 (7 * x6_1)) = j_ := ⟨_, rfl⟩
              replace H : (if 0 ≤ (ji6) then (if (rd l0 x6_1) ≥ 128 then (event_Int.l0 k1 l0 (Go.bits .or .u64 x5_1 (shl .u64 (IntKind.u64.wrap (Go.bits .and .u8 (rd l0 x6_1) 127)) (ji6))) (wrap64 (x6_1 + 1))) else (if x6_1 = 9 then (if (rd l0 x6_1) > 1 then (some (0, 0, 11)) else (if x6_1 > 0 then (if (rd l0 x6_1) = 0 then (some (0, 0, 11)) else (some (Go.bits .xor .i64 (wrap64 ((Go.bits .or .u64 x5_1 (shl .u64 (IntKind.u64.wrap (Go.bits .and .u8 (rd l0 x6_1) 127)) (ji6))) / 2)) (wrap64 (-(wrap64 (Go.bits .and .u64 (Go.bits .or .u64 x5_1 (shl .u64 (IntKind.u64.wrap (Go.bits .and .u8 (rd l0 x6_1) 127)) (ji6))) 1)))), wrap64 (x6_1 + 1), 0))) else (some (Go.bits .xor .i64 (wrap64 ((Go.bits .or .u64 x5_1 (shl .u64 (IntKind.u64.wrap (Go.bits .and .u8 (rd l0 x6_1) 127)) (ji6))) / 2)) (wrap64 (-(wrap64 (Go.bits .and .u64 (Go.bits .or .u64 x5_1 (shl .u64 (IntKind.u64.wrap (Go.bits .and .u8 (rd l0 x6_1) 127)) (ji6))) 1)))), wrap64 (x6_1 + 1), 0)))) else (if x6_1 > 0 then (if (rd l0 x6_1) = 0 then (some (0, 0, 11)) else (some (Go.bits .xor .i64 (wrap64 ((Go.bits .or .u64 x5_1 (shl .u64 (IntKind.u64.wrap (Go.bits .and .u8 (rd l0 x6_1) 127)) (ji6))) / 2)) (wrap64 (-(wrap64 (Go.bits .and .u64 (Go.bits .or .u64 x5_1 (shl .u64 (IntKind.u64.wrap (Go.bits .and .u8 (rd l0 x6_1) 127)) (ji6))) 1)))), wrap64 (x6_1 + 1), 0))) else (some (Go.bits .xor .i64 (wrap64 ((Go.bits .or .u64 x5_1 (shl .u64 (IntKind.u64.wrap (Go.bits .and .u8 (rd l0 x6_1) 127)) (ji6))) / 2)) (wrap64 (-(wrap64 (Go.bits .and .u64 (Go.bits .or .u64 x5_1 (shl .u64 (IntKind.u64.wrap (Go.bits .and .u8 (rd l0 x6_1) 127)) (ji6))) 1)))), wrap64 (x6_1 + 1), 0))))) else (none)) = some (r1, r2, r3) := by first | (rw [hji6] at H; exact H) | (simp only [hji6] at H ⊢; exact H)
              have hji6w : (IntKind.i64.wrap (7 * x6_1)) = ji6 := (i64_w _).trans hji6
              by_cases c7 : 0 ≤ (ji6)
              · rw [if_pos c7] at H
                have c7b0 := eq_true c7
                have c7b1 : decide (0 ≤ (ji6)) = true := decide_eq_true c7
                clear c7
                obtain ⟨ji8, hji8⟩ : ∃ j_ : Int, (shl .u64 (IntKind.u64.wrap (Go.bits .and .u8 (rd l0 x6_1) 127)) (ji6)) = j_ := ⟨_, rfl⟩
                replace H : (if (rd l0 x6_1) ≥ 128 then (event_Int.l0 k1 l0 (Go.bits .or .u64 x5_1 (ji8)) (wrap64 (x6_1 + 1))) else (if x6_1 = 9 then (if (rd l0 x6_1) > 1 then (some (0, 0, 11)) else (if x6_1 > 0 then (if (rd l0 x6_1) = 0 then (some (0, 0, 11)) else (some (Go.bits .xor .i64 (wrap64 ((Go.bits .or .u64 x5_1 (ji8)) / 2)) (wrap64 (-(wrap64 (Go.bits .and .u64 (Go.bits .or .u64 x5_1 (ji8)) 1)))), wrap64 (x6_1 + 1), 0))) else (some (Go.bits .xor .i64 (wrap64 ((Go.bits .or .u64 x5_1 (ji8)) / 2)) (wrap64 (-(wrap64 (Go.bits .and .u64 (Go.bits .or .u64 x5_1 (ji8)) 1)))), wrap64 (x6_1 + 1), 0)))) else (if x6_1 > 0 then (if (rd l0 x6_1) = 0 then (some (0, 0, 11)) else (some (Go.bits .xor .i64 (wrap64 ((Go.bits .or .u64 x5_1 (ji8)) / 2)) (wrap64 (-(wrap64 (Go.bits .and .u64 (Go.bits .or .u64 x5_1 (ji8)) 1)))), wrap64 (x6_1 + 1), 0))) else (some (Go.bits .xor .i64 (wrap64 ((Go.bits .or .u64 x5_1 (ji8)) / 2)) (wrap64 (-(wrap64 (Go.bits .and .u64 (Go.bits .or .u64 x5_1 (ji8)) 1)))), wrap64 (x6_1 + 1), 0))))) = some (r1, r2, r3) := by first | (rw [hji8] at H; exact H) | (simp only [hji8] at H ⊢; exact H)
                have hji8_ : (IntKind.u64.wrap ((IntKind.u64.wrap (Go.bits .and .u8 (rd l0 x6_1) 127)) * 2 ^ min (ji6).toNat 64)) = ji8 := hji8
                have hji8z : (ji6) ≤ 64 → (IntKind.u64.wrap ((IntKind.u64.wrap (Go.bits .and .u8 (rd l0 x6_1) 127)) * 2 ^ (ji6).toNat)) = ji8 := shl_small hji8
                by_cases c9 : (rd l0 x6_1) ≥ 128
                · rw [if_pos c9] at H
                  have c9b0 : decide (128 ≤ (rd l0 x6_1)) = true := decide_eq_true c9
                  clear c9
                  have H' := Aside0.mk H
                  clear H
                  have p115 : 0 ≤ (x6_1 : Int) := of_decide_eq_true (by first | (with_reducible assumption) | assumption)
                  have q115 : x6_1 < (l0.length : Int) := of_decide_eq_true (by first | (with_reducible assumption) | assumption)
                  obtain ⟨ad115, e115, hx115_0⟩ := Kd.at_int HR0.out x6_1 p115 q115
                  cases e115
                  replace hx115_0 := (HB.out.cell (World.block_lt_of_cell? w _ hx115_0)).trans hx115_0
                  replace p115 := eq_true p115
                  replace q115 := eq_true q115
                  go_wp2
                  go_roundg k1
                  case measure => have := HK1.out; omega
                  case rel => exact ⟨(Go.bits .or .u64 x5_1 (ji8)), (wrap64 (x6_1 + 1)), (by first | rfl | (simp; done) | (simp only [← hji8] <;> (first | rfl | simp)) | (simp [*]; done)), (by first | rfl | (simp; done) | (simp [*]; done)), H', ⟨by have := HK1.out; omega⟩, ⟨by repeat (first | (with_reducible first | exact HB.out | apply below_alloc | apply pw_below_drewN | apply below_drew1) | exact HB.out)⟩⟩
                · rw [if_neg c9] at H
                  have c9b0 : decide (128 ≤ (rd l0 x6_1)) = false := decide_eq_false c9
                  clear c9
                  by_cases c10 : x6_1 = 9
                  · rw [if_pos c10] at H
                    have c10b0 : (x6_1 == 9) = true := beq_iff_eq.mpr c10
                    have c10b1 : (x6_1 != 9) = false := bne_eq_false_iff_eq.mpr c10
                    clear c10
                    by_cases c11 : (rd l0 x6_1) > 1
                    · rw [if_pos c11] at H
                      have c11b0 : decide (1 < (rd l0 x6_1)) = true := decide_eq_true c11
                      clear c11
                      simp only [Option.some.injEq, Prod.mk.injEq] at H
                      obtain ⟨rfl, rfl, rfl⟩ := H
                      have p115 : 0 ≤ (x6_1 : Int) := of_decide_eq_true (by first | (with_reducible assumption) | assumption)
                      have q115 : x6_1 < (l0.length : Int) := of_decide_eq_true (by first | (with_reducible assumption) | assumption)
                      obtain ⟨ad115, e115, hx115_0⟩ := Kd.at_int HR0.out x6_1 p115 q115
                      cases e115
                      replace hx115_0 := (HB.out.cell (World.block_lt_of_cell? w _ hx115_0)).trans hx115_0
                      replace p115 := eq_true p115
                      replace q115 := eq_true q115
                      go_wp2
                      go_ret3
                      exact ⟨by first | rfl | (simp [errW_none, errW_some] <;> rfl) | (simp only [← hji6, ← hji8]; first | rfl | (simp [errW_none, errW_some] <;> rfl)) | (simp [*, errW_none, errW_some] <;> rfl), by repeat (first | (with_reducible first | exact HB.out | apply below_alloc | apply pw_below_drewN | apply below_drew1) | exact HB.out)⟩
                    · rw [if_neg c11] at H
                      have c11b0 : decide (1 < (rd l0 x6_1)) = false := decide_eq_false c11
                      clear c11
                      by_cases c12 : x6_1 > 0
                      · rw [if_pos c12] at H
                        have c12b0 : decide (0 < x6_1) = true := decide_eq_true c12
                        clear c12
                        by_cases c13 : (rd l0 x6_1) = 0
                        · rw [if_pos c13] at H
                          have c13b0 : ((rd l0 x6_1) == 0) = true := beq_iff_eq.mpr c13
                          have c13b1 : ((rd l0 x6_1) != 0) = false := bne_eq_false_iff_eq.mpr c13
                          clear c13
                          simp only [Option.some.injEq, Prod.mk.injEq] at H
                          obtain ⟨rfl, rfl, rfl⟩ := H
                          have p115 : 0 ≤ (x6_1 : Int) := of_decide_eq_true (by first | (with_reducible assumption) | assumption)
                          have q115 : x6_1 < (l0.length : Int) := of_decide_eq_true (by first | (with_reducible assumption) | assumption)
                          obtain ⟨ad115, e115, hx115_0⟩ := Kd.at_int HR0.out x6_1 p115 q115
                          cases e115
                          replace hx115_0 := (HB.out.cell (World.block_lt_of_cell? w _ hx115_0)).trans hx115_0
                          replace p115 := eq_true p115
                          replace q115 := eq_true q115
                          go_wp2
                          go_ret3
                          exact ⟨by first | rfl | (simp [errW_none, errW_some] <;> rfl) | (simp only [← hji6, ← hji8]; first | rfl | (simp [errW_none, errW_some] <;> rfl)) | (simp [*, errW_none, errW_some] <;> rfl), by repeat (first | (with_reducible first | exact HB.out | apply below_alloc | apply pw_below_drewN | apply below_drew1) | exact HB.out)⟩
                        · rw [if_neg c13] at H
                          have c13b0 : ((rd l0 x6_1) == 0) = false := beq_eq_false_iff_ne.mpr c13
                          have c13b1 : ((rd l0 x6_1) != 0) = true := bne_iff_ne.mpr c13
                          simp only [Option.some.injEq, Prod.mk.injEq] at H
                          obtain ⟨rfl, rfl, rfl⟩ := H
                          have p115 : 0 ≤ (x6_1 : Int) := of_decide_eq_true (by first | (with_reducible assumption) | assumption)
                          have q115 : x6_1 < (l0.length : Int) := of_decide_eq_true (by first | (with_reducible assumption) | assumption)
                          obtain ⟨ad115, e115, hx115_0⟩ := Kd.at_int HR0.out x6_1 p115 q115
                          cases e115
                          replace hx115_0 := (HB.out.cell (World.block_lt_of_cell? w _ hx115_0)).trans hx115_0
                          replace p115 := eq_true p115
                          replace q115 := eq_true q115
                          go_wp2
                          go_ret3
                          exact ⟨by first | rfl | (simp [errW_none, errW_some] <;> rfl) | (simp only [← hji6, ← hji8]; first | rfl | (simp [errW_none, errW_some] <;> rfl)) | (simp [*, errW_none, errW_some] <;> rfl), by repeat (first | (with_reducible first | exact HB.out | apply below_alloc | apply pw_below_drewN | apply below_drew1) | exact HB.out)⟩
                      · rw [if_neg c12] at H
                        have c12b0 : decide (0 < x6_1) = false := decide_eq_false c12
                        clear c12
                        simp only [Option.some.injEq, Prod.mk.injEq] at H
                        obtain ⟨rfl, rfl, rfl⟩ := H
                        have p115 : 0 ≤ (x6_1 : Int) := of_decide_eq_true (by first | (with_reducible assumption) | assumption)
                        have q115 : x6_1 < (l0.length : Int) := of_decide_eq_true (by first | (with_reducible assumption) | assumption)
                        obtain ⟨ad115, e115, hx115_0⟩ := Kd.at_int HR0.out x6_1 p115 q115
                        cases e115
                        replace hx115_0 := (HB.out.cell (World.block_lt_of_cell? w _ hx115_0)).trans hx115_0
                        replace p115 := eq_true p115
                        replace q115 := eq_true q115
                        go_wp2
                        go_ret3
                        exact ⟨by first | rfl | (simp [errW_none, errW_some] <;> rfl) | (simp only [← hji6, ← hji8]; first | rfl | (simp [errW_none, errW_some] <;> rfl)) | (simp [*, errW_none, errW_some] <;> rfl), by repeat (first | (with_reducible first | exact HB.out | apply below_alloc | apply pw_below_drewN | apply below_drew1) | exact HB.out)⟩
                  · rw [if_neg c10] at H
                    have c10b0 : (x6_1 == 9) = false := beq_eq_false_iff_ne.mpr c10
                    have c10b1 : (x6_1 != 9) = true := bne_iff_ne.mpr c10
                    by_cases c14 : x6_1 > 0
                    · rw [if_pos c14] at H
                      have c14b0 : decide (0 < x6_1) = true := decide_eq_true c14
                      clear c14
                      by_cases c15 : (rd l0 x6_1) = 0
                      · rw [if_pos c15] at H
                        have c15b0 : ((rd l0 x6_1) == 0) = true := beq_iff_eq.mpr c15
                        have c15b1 : ((rd l0 x6_1) != 0) = false := bne_eq_false_iff_eq.mpr c15
                        clear c15
                        simp only [Option.some.injEq, Prod.mk.injEq] at H
                        obtain ⟨rfl, rfl, rfl⟩ := H
                        have p115 : 0 ≤ (x6_1 : Int) := of_decide_eq_true (by first | (with_reducible assumption) | assumption)
                        have q115 : x6_1 < (l0.length : Int) := of_decide_eq_true (by first | (with_reducible assumption) | assumption)
                        obtain ⟨ad115, e115, hx115_0⟩ := Kd.at_int HR0.out x6_1 p115 q115
                        cases e115
                        replace hx115_0 := (HB.out.cell (World.block_lt_of_cell? w _ hx115_0)).trans hx115_0
                        replace p115 := eq_true p115
                        replace q115 := eq_true q115
                        go_wp2
                        go_ret3
                        exact ⟨by first | rfl | (simp [errW_none, errW_some] <;> rfl) | (simp only [← hji6, ← hji8]; first | rfl | (simp [errW_none, errW_some] <;> rfl)) | (simp [*, errW_none, errW_some] <;> rfl), by repeat (first | (with_reducible first | exact HB.out | apply below_alloc | apply pw_below_drewN | apply below_drew1) | exact HB.out)⟩
                      · rw [if_neg c15] at H
                        have c15b0 : ((rd l0 x6_1) == 0) = false := beq_eq_false_iff_ne.mpr c15
                        have c15b1 : ((rd l0 x6_1) != 0) = true := bne_iff_ne.mpr c15
                        simp only [Option.some.injEq, Prod.mk.injEq] at H
                        obtain ⟨rfl, rfl, rfl⟩ := H
                        have p115 : 0 ≤ (x6_1 : Int) := of_decide_eq_true (by first | (with_reducible assumption) | assumption)
                        have q115 : x6_1 < (l0.length : Int) := of_decide_eq_true (by first | (with_reducible assumption) | assumption)
                        obtain ⟨ad115, e115, hx115_0⟩ := Kd.at_int HR0.out x6_1 p115 q115
                        cases e115
                        replace hx115_0 := (HB.out.cell (World.block_lt_of_cell? w _ hx115_0)).trans hx115_0
                        replace p115 := eq_true p115
                        replace q115 := eq_true q115
                        go_wp2
                        go_ret3
                        exact ⟨by first | rfl | (simp [errW_none, errW_some] <;> rfl) | (simp only [← hji6, ← hji8]; first | rfl | (simp [errW_none, errW_some] <;> rfl)) | (simp [*, errW_none, errW_some] <;> rfl), by repeat (first | (with_reducible first | exact HB.out | apply below_alloc | apply pw_below_drewN | apply below_drew1) | exact HB.out)⟩
                    · rw [if_neg c14] at H
                      have c14b0 : decide (0 < x6_1) = false := decide_eq_false c14
                      clear c14
                      simp only [Option.some.injEq, Prod.mk.injEq] at H
                      obtain ⟨rfl, rfl, rfl⟩ := H
                      have p115 : 0 ≤ (x6_1 : Int) := of_decide_eq_true (by first | (with_reducible assumption) | assumption)
                      have q115 : x6_1 < (l0.length : Int) := of_decide_eq_true (by first | (with_reducible assumption) | assumption)
                      obtain ⟨ad115, e115, hx115_0⟩ := Kd.at_int HR0.out x6_1 p115 q115
                      cases e115
                      replace hx115_0 := (HB.out.cell (World.block_lt_of_cell? w _ hx115_0)).trans hx115_0
                      replace p115 := eq_true p115
                      replace q115 := eq_true q115
                      go_wp2
                      go_ret3
                      exact ⟨by first | rfl | (simp [errW_none, errW_some] <;> rfl) | (simp only [← hji6, ← hji8]; first | rfl | (simp [errW_none, errW_some] <;> rfl)) | (simp [*, errW_none, errW_some] <;> rfl), by repeat (first | (with_reducible first | exact HB.out | apply below_alloc | apply pw_below_drewN | apply below_drew1) | exact HB.out)⟩
              · rw [if_neg c7] at H
                exact absurd H (by simp)
            · rw [if_neg c5] at H
              exact absurd H (by simp)
          · rw [if_neg c4] at H
            exact absurd H (by simp)
      · rw [if_neg c2] at H
        have c2b0 : decide (x6_1 < 10) = false := decide_eq_false c2
        clear c2
        simp only [Option.some.injEq, Prod.mk.injEq] at H
        obtain ⟨rfl, rfl, rfl⟩ := H
        go_wp2
        go_ret3
        exact ⟨by first | rfl | (simp [errW_none, errW_some] <;> rfl) | (simp [*, errW_none, errW_some] <;> rfl), by repeat (first | (with_reducible first | exact HB.out | apply below_alloc | apply pw_below_drewN | apply below_drew1) | exact HB.out)⟩

end Go.Proofs.Ytnmmkgagbfniiaa.A
