/- MEventSpoilt5: texts of this session and of the kit's printer on the road to the statement EventSpoilt, laid into one and rid of what it doesn't need. No condition beyond what each fact names. -/
import Derived.Test.YtnmmkgagbfniiaaMEventSpoilt3
import Derived.Test.YtnmmkgagbfniiaaMEventSpoilt4
section
namespace Go.Proofs.Ytnmmkgagbfniiaa.A
open Go.RowKit Go.Proofs.YtnmmkgagbfniiaaW.PrintWords Go.Proofs.YtnmmkgagbfniiaaW.PrintLast Go.Proofs.YtnmmkgagbfniiaaW.PrintMore
attribute [local go_sem] max2_int min2_int max_two min_two max_three min_three max_four min_four
set_option linter.unusedVariables false
set_option linter.unusedSimpArgs false
mutual
def interleaveref11_Int.l0 : Nat → List Int → Int → Int → Option (Int × Int × Int)
  | 0, _, _, _ => none
  | k + 1, x0, x5, x6 => if x6 < 10 then (if x6 ≥ (x0.length : Int) then (some (0, 0, 9)) else (if x6 = 9 then (if 0 ≤ x6 then (if x6 < (x0.length : Int) then (interleaveref11_Int.j1 k x0 x5 x6 (decide ((rd x0 x6) > 1))) else (none)) else (none)) else (interleaveref11_Int.j1 k x0 x5 x6 false))) else (some (0, 0, 11))
def interleaveref11_Int.j1 : Nat → List Int → Int → Int → Bool → Option (Int × Int × Int)
  | 0, _, _, _, _ => none
  | k + 1, x0, x5, x6, x24 => if x24 = true then (some (0, 0, 11)) else (if 0 ≤ x6 then (if x6 < (x0.length : Int) then (if 0 ≤ (IntKind.u64.wrap (wrap64 (7 * x6))) then (if (rd x0 x6) < 128 then (if x6 > 0 then (interleaveref11_Int.j2 k (Go.bits .or .u64 x5 (shl .u64 (IntKind.u64.wrap (Go.bits .and .u8 (rd x0 x6) 127)) (IntKind.u64.wrap (wrap64 (7 * x6))))) x6 ((rd x0 x6) == 0)) else (interleaveref11_Int.j2 k (Go.bits .or .u64 x5 (shl .u64 (IntKind.u64.wrap (Go.bits .and .u8 (rd x0 x6) 127)) (IntKind.u64.wrap (wrap64 (7 * x6))))) x6 false)) else (interleaveref11_Int.l0 k x0 (Go.bits .or .u64 x5 (shl .u64 (IntKind.u64.wrap (Go.bits .and .u8 (rd x0 x6) 127)) (IntKind.u64.wrap (wrap64 (7 * x6))))) (wrap64 (x6 + 1)))) else (none)) else (none)) else (none))
def interleaveref11_Int.j2 : Nat → Int → Int → Bool → Option (Int × Int × Int)
  | 0, _, _, _ => none
  | k + 1, x5, x6, x50 => if x50 = true then (some (0, 0, 11)) else (if (Go.bits .and .u64 x5 1) = 1 then (some (Go.bits .xor .i64 (-1) (wrap64 (x5 / 2)), wrap64 (x6 + 1), 0)) else (some (wrap64 (x5 / 2), wrap64 (x6 + 1), 0)))
end
def interleaveref11_Int.f (k : Nat) (l0 : List Int) : Option (Int × Int × Int) := interleaveref11_Int.l0 k l0 0 0
theorem interleaveref11_Int.mono_l : ∀ k, (∀ y0 y1 y2, LeO (interleaveref11_Int.l0 k y0 y1 y2) (interleaveref11_Int.l0 (k + 1) y0 y1 y2)) ∧ (∀ y0 y1 y2 y3, LeO (interleaveref11_Int.j1 k y0 y1 y2 y3) (interleaveref11_Int.j1 (k + 1) y0 y1 y2 y3)) ∧ (∀ y0 y1 y2, LeO (interleaveref11_Int.j2 k y0 y1 y2) (interleaveref11_Int.j2 (k + 1) y0 y1 y2))
  | 0 => ⟨fun _ _ _ r h => by simp [interleaveref11_Int.l0] at h, fun _ _ _ _ r h => by simp [interleaveref11_Int.j1] at h, fun _ _ _ r h => by simp [interleaveref11_Int.j2] at h⟩
  | k + 1 => by
    obtain ⟨ih0, ih1, ih2⟩ := interleaveref11_Int.mono_l k
    refine ⟨?_, ?_, ?_⟩
    · intro y0 y1 y2
      unfold interleaveref11_Int.l0
      repeat' first
      | (with_reducible exact ih0 _ _ _)
      | (with_reducible exact ih1 _ _ _ _)
      | (with_reducible exact ih2 _ _ _)
      | (with_reducible exact LeO.refl _)
      | (with_reducible exact LeO.none _)
      | (with_reducible refine LeO.ite ?_ ?_)
      | (with_reducible refine LeO.bind ?_ (fun _ => ?_))
      | exact ih0 _ _ _
      | exact ih1 _ _ _ _
      | exact ih2 _ _ _
      | exact LeO.none _
      | refine LeO.ite ?_ ?_
      | refine LeO.bind ?_ (fun _ => ?_)
    · intro y0 y1 y2 y3
      unfold interleaveref11_Int.j1
      repeat' first
      | (with_reducible exact ih0 _ _ _)
      | (with_reducible exact ih1 _ _ _ _)
      | (with_reducible exact ih2 _ _ _)
      | (with_reducible exact LeO.refl _)
      | (with_reducible exact LeO.none _)
      | (with_reducible refine LeO.ite ?_ ?_)
      | (with_reducible refine LeO.bind ?_ (fun _ => ?_))
      | exact ih0 _ _ _
      | exact ih1 _ _ _ _
      | exact ih2 _ _ _
      | exact LeO.none _
      | refine LeO.ite ?_ ?_
      | refine LeO.bind ?_ (fun _ => ?_)
    · intro y0 y1 y2
      unfold interleaveref11_Int.j2
      repeat' first
      | (with_reducible exact ih0 _ _ _)
      | (with_reducible exact ih1 _ _ _ _)
      | (with_reducible exact ih2 _ _ _)
      | (with_reducible exact LeO.refl _)
      | (with_reducible exact LeO.none _)
      | (with_reducible refine LeO.ite ?_ ?_)
      | (with_reducible refine LeO.bind ?_ (fun _ => ?_))
      | exact ih0 _ _ _
      | exact ih1 _ _ _ _
      | exact ih2 _ _ _
      | exact LeO.none _
      | refine LeO.ite ?_ ?_
      | refine LeO.bind ?_ (fun _ => ?_)
theorem interleaveref11_Int.mono : ∀ a0 k, LeO (interleaveref11_Int.f k a0) (interleaveref11_Int.f (k + 1) a0) := by
  intro a0 k
  obtain ⟨ih0, ih1, ih2⟩ := interleaveref11_Int.mono_l k
  unfold interleaveref11_Int.f
  repeat' first
      | (with_reducible exact ih0 _ _ _)
      | (with_reducible exact ih1 _ _ _ _)
      | (with_reducible exact ih2 _ _ _)
      | (with_reducible exact LeO.refl _)
      | (with_reducible exact LeO.none _)
      | (with_reducible refine LeO.ite ?_ ?_)
      | (with_reducible refine LeO.bind ?_ (fun _ => ?_))
      | exact ih0 _ _ _
      | exact ih1 _ _ _ _
      | exact ih2 _ _ _
      | exact LeO.none _
      | refine LeO.ite ?_ ?_
      | refine LeO.bind ?_ (fun _ => ?_)
set_option maxHeartbeats 8000000 in
set_option maxRecDepth 100000 in
theorem interleaveref11_Int.calls (k : Nat) (A0 : Option Addr) (c0 : Nat) (l0 : List Int) (r1 : Int) (r2 : Int) (r3 : Int) (w : World) (hr0 : Kd.C (Kd.int .u8) w A0 l0.length l0) (hc0 : l0.length ≤ c0) (h : interleaveref11_Int.f k l0 = some (r1, r2, r3)) :
    Calls Try.prog 76 #[.slice A0 l0.length c0] w fun e w' => e = .returned (.tuple #[.int .i64 r1, .int .i64 r2, .int .i64 r3]) ∧ Drawn0 w w' := by
  have HR0 := Aside0.mk hr0
  have HC0 := Aside0.mk hc0
  clear hr0 hc0
  have H : (interleaveref11_Int.l0 k l0 0 0) = some (r1, r2, r3) := h
  clear h
  have H' := Aside0.mk H
  clear H
  go_enter Try.func76, Try.ntmps76
  go_wp2
  go_loopg [5, 6] k (fun kq v5 v6 w' => ∃ (x5_1 : Int) (x6_1 : Int), v5 = .int .u64 x5_1 ∧ v6 = .int .i64 x6_1 ∧ Aside0 (interleaveref11_Int.l0 kq l0 x5_1 x6_1 = some (r1, r2, r3)) ∧ Aside0 (kq ≤ k) ∧ Drawn0 w w')
  case atStart => exact ⟨(0), (0), (by first | rfl | (simp; done) | (simp [*]; done)), (by first | rfl | (simp; done) | (simp [*]; done)), H', ⟨Nat.le_refl _⟩, by repeat (first | exact Drawn0.refl _ | apply Drawn0.step)⟩
  case round =>
    clear H'
    obtain ⟨x5_1, x6_1, rfl, rfl, HA, HK1, ⟨m1, rfl⟩⟩ := hrel
    cases gk with
    | zero => exact absurd HA.out (by simp [interleaveref11_Int.l0])
    | succ k1 =>
      have H := HA.out
      clear HA
      simp only [interleaveref11_Int.l0] at H
      by_cases c2 : x6_1 < 10
      · rw [if_pos c2] at H
        have c2b0 : decide (x6_1 < 10) = true := decide_eq_true c2
        clear c2
        by_cases c3 : x6_1 ≥ (l0.length : Int)
        · rw [if_pos c3] at H
          have c3b0 : decide ((l0.length : Int) ≤ x6_1) = true := decide_eq_true c3
          clear c3
          simp only [Option.some.injEq, Prod.mk.injEq] at H
          obtain ⟨rfl, rfl, rfl⟩ := H
          go_wp2
          go_ret3
          exact ⟨by first | rfl | (simp; done) | (simp [*]; done), by repeat (first | exact Drawn0.refl _ | apply Drawn0.step)⟩
        · rw [if_neg c3] at H
          have c3b0 : decide ((l0.length : Int) ≤ x6_1) = false := decide_eq_false c3
          clear c3
          have HC4 := Aside0.mk H
          clear H
          go_upto_region 7 with (fail)
          go_cut [24] (fun v24 wc => ∃ (kq : Nat) (x24_3 : Bool), v24 = .bool x24_3 ∧ Aside0 (interleaveref11_Int.j1 kq l0 x5_1 x6_1 x24_3 = some (r1, r2, r3)) ∧ Aside0 (kq ≤ k1) ∧ Drawn0 w wc)
          case first =>
            have H := HC4.out
            clear HC4
            by_cases c5 : x6_1 = 9
            · rw [if_pos c5] at H
              have c5b0 : (x6_1 == 9) = true := beq_iff_eq.mpr c5
              have c5b1 : (x6_1 != 9) = false := bne_eq_false_iff_eq.mpr c5
              clear c5
              (first | rw [c5b0] | (simp only [i64_w, i32_w]; rw [c5b0]) | skip)
              by_cases c6 : 0 ≤ x6_1
              · rw [if_pos c6] at H
                have c6b0 : decide (0 ≤ x6_1) = true := decide_eq_true c6
                clear c6
                by_cases c7 : x6_1 < (l0.length : Int)
                · rw [if_pos c7] at H
                  have c7b0 : decide (x6_1 < (l0.length : Int)) = true := decide_eq_true c7
                  clear c7
                  have H' := Aside0.mk H
                  clear H
                  have p231 : 0 ≤ (x6_1 : Int) := of_decide_eq_true (by first | (with_reducible assumption) | assumption)
                  have q231 : x6_1 < (l0.length : Int) := of_decide_eq_true (by first | (with_reducible assumption) | assumption)
                  obtain ⟨ad231, e231, hx231_0⟩ := Kd.at_int HR0.out x6_1 p231 q231
                  cases e231
                  replace p231 := eq_true p231
                  replace q231 := eq_true q231
                  go_wp2
                  go_meet
                  case rel => exact ⟨_, (decide ((rd l0 x6_1) > 1)), (by first | rfl | (simp; done) | (simp [*]; done)), H', ⟨by have := HK1.out; first | omega | exact Nat.le_refl _⟩, by repeat (first | exact Drawn0.refl _ | apply Drawn0.step)⟩
                · rw [if_neg c7] at H
                  exact absurd H (by simp)
              · rw [if_neg c6] at H
                exact absurd H (by simp)
            · rw [if_neg c5] at H
              have c5b0 : (x6_1 == 9) = false := beq_eq_false_iff_ne.mpr c5
              have c5b1 : (x6_1 != 9) = true := bne_iff_ne.mpr c5
              (first | rw [c5b0] | (simp only [i64_w, i32_w]; rw [c5b0]) | skip)
              have H' := Aside0.mk H
              clear H
              go_wp2
              go_meet
              case rel => exact ⟨_, (false), (by first | rfl | (simp; done) | (simp [*]; done)), H', ⟨by have := HK1.out; first | omega | exact Nat.le_refl _⟩, by repeat (first | exact Drawn0.refl _ | apply Drawn0.step)⟩
          case rest =>
            clear HC4
            try clear c2
            try clear c2b0
            try clear p2
            try clear q2
            try clear hx2
            try clear c3
            try clear c3b0
            try clear c5
            try clear c5b0
            try clear c5b1
            try clear c6
            try clear c6b0
            try clear c7
            try clear c7b0
            try clear hx231_0
            try clear p231
            try clear q231
            obtain ⟨kq, x24_3, rfl, HA, HJ3, ⟨mc3, rfl⟩⟩ := hcut
            cases kq with
            | zero => exact absurd HA.out (by simp [interleaveref11_Int.j1])
            | succ kj3 =>
              have H := HA.out
              clear HA
              simp only [interleaveref11_Int.j1] at H
              by_cases c8 : x24_3 = true
              · subst c8
                have H1 : (some (0, 0, 11)) = some (r1, r2, r3) := by rw [if_pos rfl] at H; exact H
                clear H
                have H := H1
                clear H1
                simp only [Option.some.injEq, Prod.mk.injEq] at H
                obtain ⟨rfl, rfl, rfl⟩ := H
                go_wp2
                go_ret3
                exact ⟨by first | rfl | (simp; done) | (simp [*]; done), by repeat (first | exact Drawn0.refl _ | apply Drawn0.step)⟩
              · replace c8 := Bool.eq_false_iff.mpr c8
                subst c8
                have H1 : (if 0 ≤ x6_1 then (if x6_1 < (l0.length : Int) then (if 0 ≤ (IntKind.u64.wrap (wrap64 (7 * x6_1))) then (if (rd l0 x6_1) < 128 then (if x6_1 > 0 then (interleaveref11_Int.j2 kj3 (Go.bits .or .u64 x5_1 (shl .u64 (IntKind.u64.wrap (Go.bits .and .u8 (rd l0 x6_1) 127)) (IntKind.u64.wrap (wrap64 (7 * x6_1))))) x6_1 ((rd l0 x6_1) == 0)) else (interleaveref11_Int.j2 kj3 (Go.bits .or .u64 x5_1 (shl .u64 (IntKind.u64.wrap (Go.bits .and .u8 (rd l0 x6_1) 127)) (IntKind.u64.wrap (wrap64 (7 * x6_1))))) x6_1 false)) else (interleaveref11_Int.l0 kj3 l0 (Go.bits .or .u64 x5_1 (shl .u64 (IntKind.u64.wrap (Go.bits .and .u8 (rd l0 x6_1) 127)) (IntKind.u64.wrap (wrap64 (7 * x6_1))))) (wrap64 (x6_1 + 1)))) else (none)) else (none)) else (none)) = some (r1, r2, r3) := by rw [if_neg (show ¬ (false = true) by decide)] at H; exact H
                clear H
                have H := H1
                clear H1
                by_cases c9 : 0 ≤ x6_1
                · rw [if_pos c9] at H
                  have c9b0 : decide (0 ≤ x6_1) = true := decide_eq_true c9
                  clear c9
                  by_cases c10 : x6_1 < (l0.length : Int)
                  · rw [if_pos c10] at H
                    have c10b0 : decide (x6_1 < (l0.length : Int)) = true := decide_eq_true c10
                    clear c10
                    obtain ⟨ji11, hji11⟩ : ∃ j_ : Int, (IntKind.u64.wrap (wrap64 (7 * x6_1))) = j_ := ⟨_, rfl⟩
                    replace H : (if 0 ≤ (ji11) then (if (rd l0 x6_1) < 128 then (if x6_1 > 0 then (interleaveref11_Int.j2 kj3 (Go.bits .or .u64 x5_1 (shl .u64 (IntKind.u64.wrap (Go.bits .and .u8 (rd l0 x6_1) 127)) (ji11))) x6_1 ((rd l0 x6_1) == 0)) else (interleaveref11_Int.j2 kj3 (Go.bits .or .u64 x5_1 (shl .u64 (IntKind.u64.wrap (Go.bits .and .u8 (rd l0 x6_1) 127)) (ji11))) x6_1 false)) else (interleaveref11_Int.l0 kj3 l0 (Go.bits .or .u64 x5_1 (shl .u64 (IntKind.u64.wrap (Go.bits .and .u8 (rd l0 x6_1) 127)) (ji11))) (wrap64 (x6_1 + 1)))) else (none)) = some (r1, r2, r3) := by first | (rw [hji11] at H; exact H) | (simp only [hji11] at H ⊢; exact H)
                    by_cases c12 : 0 ≤ (ji11)
                    · rw [if_pos c12] at H
                      have c12b0 := eq_true c12
                      have c12b1 : decide (0 ≤ (ji11)) = true := decide_eq_true c12
                      clear c12
                      obtain ⟨ji13, hji13⟩ : ∃ j_ : Int, (shl .u64 (IntKind.u64.wrap (Go.bits .and .u8 (rd l0 x6_1) 127)) (ji11)) = j_ := ⟨_, rfl⟩
                      replace H : (if (rd l0 x6_1) < 128 then (if x6_1 > 0 then (interleaveref11_Int.j2 kj3 (Go.bits .or .u64 x5_1 (ji13)) x6_1 ((rd l0 x6_1) == 0)) else (interleaveref11_Int.j2 kj3 (Go.bits .or .u64 x5_1 (ji13)) x6_1 false)) else (interleaveref11_Int.l0 kj3 l0 (Go.bits .or .u64 x5_1 (ji13)) (wrap64 (x6_1 + 1)))) = some (r1, r2, r3) := by first | (rw [hji13] at H; exact H) | (simp only [hji13] at H ⊢; exact H)
                      have hji13_ : (IntKind.u64.wrap ((IntKind.u64.wrap (Go.bits .and .u8 (rd l0 x6_1) 127)) * 2 ^ min (ji11).toNat 64)) = ji13 := hji13
                      have hji13z : (ji11) ≤ 64 → (IntKind.u64.wrap ((IntKind.u64.wrap (Go.bits .and .u8 (rd l0 x6_1) 127)) * 2 ^ (ji11).toNat)) = ji13 := shl_small hji13
                      by_cases c14 : (rd l0 x6_1) < 128
                      · rw [if_pos c14] at H
                        have c14b0 : decide ((rd l0 x6_1) < 128) = true := decide_eq_true c14
                        clear c14
                        have HC15 := Aside0.mk H
                        clear H
                        have p232 : 0 ≤ (x6_1 : Int) := of_decide_eq_true (by first | (with_reducible assumption) | assumption)
                        have q232 : x6_1 < (l0.length : Int) := of_decide_eq_true (by first | (with_reducible assumption) | assumption)
                        obtain ⟨ad232, e232, hx232_0⟩ := Kd.at_int HR0.out x6_1 p232 q232
                        cases e232
                        replace p232 := eq_true p232
                        replace q232 := eq_true q232
                        have p233 : 0 ≤ (x6_1 : Int) := of_decide_eq_true (by first | (with_reducible assumption) | assumption)
                        have q233 : x6_1 < (l0.length : Int) := of_decide_eq_true (by first | (with_reducible assumption) | assumption)
                        obtain ⟨ad233, e233, hx233_0⟩ := Kd.at_int HR0.out x6_1 p233 q233
                        obtain rfl : ad232 = ad233 := (by injection e233)
                        replace p233 := eq_true p233
                        replace q233 := eq_true q233
                        go_upto_region 11 with (fail)
                        go_cut [50] (fun v50 wc => ∃ (kq : Nat) (x50_14 : Bool), v50 = .bool x50_14 ∧ Aside0 (interleaveref11_Int.j2 kq (Go.bits .or .u64 x5_1 (ji13)) x6_1 x50_14 = some (r1, r2, r3)) ∧ Aside0 (kq ≤ kj3) ∧ Drawn0 w wc)
                        case first =>
                          have H := HC15.out
                          clear HC15
                          by_cases c16 : x6_1 > 0
                          · rw [if_pos c16] at H
                            have c16b0 : decide (0 < x6_1) = true := decide_eq_true c16
                            clear c16
                            (first | rw [c16b0] | (simp only [i64_w, i32_w]; rw [c16b0]) | skip)
                            have H' := Aside0.mk H
                            clear H
                            have p234 : 0 ≤ (x6_1 : Int) := of_decide_eq_true (by first | (with_reducible assumption) | assumption)
                            have q234 : x6_1 < (l0.length : Int) := of_decide_eq_true (by first | (with_reducible assumption) | assumption)
                            obtain ⟨ad234, e234, hx234_0⟩ := Kd.at_int HR0.out x6_1 p234 q234
                            obtain rfl : ad232 = ad234 := (by injection e234)
                            replace p234 := eq_true p234
                            replace q234 := eq_true q234
                            go_wp2
                            go_meet
                            case rel => exact ⟨_, (((rd l0 x6_1) == 0)), (by first | rfl | (simp; done) | (simp [*]; done)), H', ⟨by have := HK1.out; have := HJ3.out; first | omega | exact Nat.le_refl _⟩, by repeat (first | exact Drawn0.refl _ | apply Drawn0.step)⟩
                          · rw [if_neg c16] at H
                            have c16b0 : decide (0 < x6_1) = false := decide_eq_false c16
                            clear c16
                            (first | rw [c16b0] | (simp only [i64_w, i32_w]; rw [c16b0]) | skip)
                            have H' := Aside0.mk H
                            clear H
                            go_wp2
                            go_meet
                            case rel => exact ⟨_, (false), (by first | rfl | (simp; done) | (simp [*]; done)), H', ⟨by have := HK1.out; have := HJ3.out; first | omega | exact Nat.le_refl _⟩, by repeat (first | exact Drawn0.refl _ | apply Drawn0.step)⟩
                        case rest =>
                          clear HC15
                          try clear c1
                          try clear c2
                          try clear c2b0
                          try clear p2
                          try clear q2
                          try clear hx2
                          try clear c3
                          try clear c3b0
                          try clear c5
                          try clear c5b0
                          try clear c5b1
                          try clear c6
                          try clear c6b0
                          try clear p6
                          try clear c7
                          try clear c7b0
                          try clear c8
                          try clear c9
                          try clear c9b0
                          try clear c10
                          try clear c10b0
                          try clear c12
                          try clear c12b0
                          try clear c12b1
                          try clear c14
                          try clear c14b0
                          try clear c16
                          try clear c16b0
                          try clear hx231_0
                          try clear hx232_0
                          try clear hx233_0
                          try clear hx234_0
                          try clear p2
                          try clear p231
                          try clear p232
                          try clear p233
                          try clear p234
                          try clear q2
                          try clear q231
                          try clear q232
                          try clear q233
                          try clear q234
                          obtain ⟨kq, x50_14, rfl, HA, HJ14, ⟨mc14, rfl⟩⟩ := hcut
                          cases kq with
                          | zero => exact absurd HA.out (by simp [interleaveref11_Int.j2])
                          | succ kj14 =>
                            have H := HA.out
                            clear HA
                            simp only [interleaveref11_Int.j2] at H
                            by_cases c17 : x50_14 = true
                            · subst c17
                              have H1 : (some (0, 0, 11)) = some (r1, r2, r3) := by rw [if_pos rfl] at H; exact H
                              clear H
                              have H := H1
                              clear H1
                              simp only [Option.some.injEq, Prod.mk.injEq] at H
                              obtain ⟨rfl, rfl, rfl⟩ := H
                              go_wp2
                              go_ret3
                              exact ⟨by first | rfl | (simp; done) | (simp only [← hji11, ← hji13] <;> (first | rfl | simp)) | (simp [*]; done), by repeat (first | exact Drawn0.refl _ | apply Drawn0.step)⟩
                            · replace c17 := Bool.eq_false_iff.mpr c17
                              subst c17
                              have H1 : (if (Go.bits .and .u64 (Go.bits .or .u64 x5_1 (ji13)) 1) = 1 then (some (Go.bits .xor .i64 (-1) (wrap64 ((Go.bits .or .u64 x5_1 (ji13)) / 2)), wrap64 (x6_1 + 1), 0)) else (some (wrap64 ((Go.bits .or .u64 x5_1 (ji13)) / 2), wrap64 (x6_1 + 1), 0))) = some (r1, r2, r3) := by rw [if_neg (show ¬ (false = true) by decide)] at H; exact H
                              clear H
                              have H := H1
                              clear H1
                              by_cases c18 : (Go.bits .and .u64 (Go.bits .or .u64 x5_1 (ji13)) 1) = 1
                              · rw [if_pos c18] at H
                                have c18b0 : ((Go.bits .and .u64 (Go.bits .or .u64 x5_1 (ji13)) 1) == 1) = true := beq_iff_eq.mpr c18
                                have c18b1 : ((Go.bits .and .u64 (Go.bits .or .u64 x5_1 (ji13)) 1) != 1) = false := bne_eq_false_iff_eq.mpr c18
                                clear c18
                                simp only [Option.some.injEq, Prod.mk.injEq] at H
                                obtain ⟨rfl, rfl, rfl⟩ := H
                                go_wp2
                                go_ret3
                                exact ⟨by first | rfl | (simp; done) | (simp only [← hji11, ← hji13] <;> (first | rfl | simp)) | (simp [*]; done), by repeat (first | exact Drawn0.refl _ | apply Drawn0.step)⟩
                              · rw [if_neg c18] at H
                                have c18b0 : ((Go.bits .and .u64 (Go.bits .or .u64 x5_1 (ji13)) 1) == 1) = false := beq_eq_false_iff_ne.mpr c18
                                have c18b1 : ((Go.bits .and .u64 (Go.bits .or .u64 x5_1 (ji13)) 1) != 1) = true := bne_iff_ne.mpr c18
                                simp only [Option.some.injEq, Prod.mk.injEq] at H
                                obtain ⟨rfl, rfl, rfl⟩ := H
                                go_wp2
                                go_ret3
                                exact ⟨by first | rfl | (simp; done) | (simp only [← hji11, ← hji13] <;> (first | rfl | simp)) | (simp [*]; done), by repeat (first | exact Drawn0.refl _ | apply Drawn0.step)⟩
                      · rw [if_neg c14] at H
                        have c14b0 : decide ((rd l0 x6_1) < 128) = false := decide_eq_false c14
                        clear c14
                        have H' := Aside0.mk H
                        clear H
                        have p232 : 0 ≤ (x6_1 : Int) := of_decide_eq_true (by first | (with_reducible assumption) | assumption)
                        have q232 : x6_1 < (l0.length : Int) := of_decide_eq_true (by first | (with_reducible assumption) | assumption)
                        obtain ⟨ad232, e232, hx232_0⟩ := Kd.at_int HR0.out x6_1 p232 q232
                        cases e232
                        replace p232 := eq_true p232
                        replace q232 := eq_true q232
                        have p233 : 0 ≤ (x6_1 : Int) := of_decide_eq_true (by first | (with_reducible assumption) | assumption)
                        have q233 : x6_1 < (l0.length : Int) := of_decide_eq_true (by first | (with_reducible assumption) | assumption)
                        obtain ⟨ad233, e233, hx233_0⟩ := Kd.at_int HR0.out x6_1 p233 q233
                        obtain rfl : ad232 = ad233 := (by injection e233)
                        replace p233 := eq_true p233
                        replace q233 := eq_true q233
                        go_wp2
                        go_roundg kj3
                        case measure => have := HK1.out; have := HJ3.out; omega
                        case rel => exact ⟨(Go.bits .or .u64 x5_1 (ji13)), (wrap64 (x6_1 + 1)), (by first | rfl | (simp; done) | (simp only [← hji13] <;> (first | rfl | simp)) | (simp [*]; done)), (by first | rfl | (simp; done) | (simp [*]; done)), H', ⟨by have := HK1.out; have := HJ3.out; omega⟩, by repeat (first | exact Drawn0.refl _ | apply Drawn0.step)⟩
                    · rw [if_neg c12] at H
                      exact absurd H (by simp)
                  · rw [if_neg c10] at H
                    exact absurd H (by simp)
                · rw [if_neg c9] at H
                  exact absurd H (by simp)
      · rw [if_neg c2] at H
        have c2b0 : decide (x6_1 < 10) = false := decide_eq_false c2
        clear c2
        simp only [Option.some.injEq, Prod.mk.injEq] at H
        obtain ⟨rfl, rfl, rfl⟩ := H
        go_wp2
        go_ret3
        exact ⟨by first | rfl | (simp; done) | (simp [*]; done), by repeat (first | exact Drawn0.refl _ | apply Drawn0.step)⟩
end Go.Proofs.Ytnmmkgagbfniiaa.A
end
section
namespace Go.Proofs.Ytnmmkgagbfniiaa.Pl
open Go.RowKit Go.Proofs.YtnmmkgagbfniiaaW.PrintWords Go.Proofs.YtnmmkgagbfniiaaW.PrintMore Go.Proofs.Ytnmmkgagbfniiaa.A
set_option linter.unusedVariables false
theorem gather {u c : Int} {i : Nat} (hi : i < 10) (h0 : 0 ≤ u) (h1 : u < 2 ^ (7 * i)) (hc0 : 0 ≤ c) (hc1 : c < 256) (h9 : i = 9 → c % 128 ≤ 1) (y : Int) (hy : y = 7 * (i : Int)) :
    bits .or .u64 u (shl .u64 (IntKind.u64.wrap (bits .and .u8 c 127)) y) = u + (c % 128) * 2 ^ (7 * i) := by
  subst hy
  rw [u8_and127 c hc0 hc1, u64_wrap]
  unfold shl
  rw [show min (7 * (i : Int)).toNat IntKind.u64.bits = 7 * i by simp [IntKind.bits]; omega, u64_wrap, show c % 128 % 18446744073709551616 = c % 128 by omega]
  have hp : ((2 : Int) ^ (7 * i)) = ((2 ^ (7 * i) : Nat) : Int) := by simp
  have hb : (c % 128) * 2 ^ (7 * i) < 18446744073709551616 := by
    rw [hp]
    by_cases h : i = 9
    · subst h
      have := h9 rfl
      have h2 : ((2 ^ (7 * 9) : Nat) : Int) = 9223372036854775808 := by decide
      rw [h2]
      omega
    · have h3 : 2 ^ (7 * i) ≤ 2 ^ 56 := Nat.pow_le_pow_right (by decide) (by omega)
      have h4 : (c % 128) * ((2 ^ (7 * i) : Nat) : Int) ≤ 127 * ((2 ^ (7 * i) : Nat) : Int) := Int.mul_le_mul_of_nonneg_right (by omega) (by omega)
      omega
  have hb0 : 0 ≤ (c % 128) * 2 ^ (7 * i) := Int.mul_nonneg (by omega) (by rw [hp]; omega)
  rw [show (c % 128) * 2 ^ (7 * i) % 18446744073709551616 = (c % 128) * 2 ^ (7 * i) by omega]
  exact u64_join u (c % 128) (7 * i) h0 h1 (by omega) hb (by omega)
theorem gather_range {u c : Int} {i : Nat} (h0 : 0 ≤ u) (h1 : u < 2 ^ (7 * i)) : 0 ≤ u + (c % 128) * 2 ^ (7 * i) ∧ u + (c % 128) * 2 ^ (7 * i) < 2 ^ (7 * (i + 1)) := by
  have hp : ((2 : Int) ^ (7 * i)) = ((2 ^ (7 * i) : Nat) : Int) := by simp
  have hp2 : ((2 : Int) ^ (7 * (i + 1))) = 128 * ((2 ^ (7 * i) : Nat) : Int) := by
    rw [Nat.mul_add, Int.pow_add, hp, Int.mul_comm]
    rfl
  rw [hp2]
  rw [hp] at h1 ⊢
  have h4 : (c % 128) * ((2 ^ (7 * i) : Nat) : Int) ≤ 127 * ((2 ^ (7 * i) : Nat) : Int) := Int.mul_le_mul_of_nonneg_right (by omega) (by omega)
  have hb0 : 0 ≤ (c % 128) * ((2 ^ (7 * i) : Nat) : Int) := Int.mul_nonneg (by omega) (by omega)
  omega
theorem int_loop (x : List Int) (hm : x.length ≤ 140737488355328) (hx : ∀ c ∈ x, 0 ≤ c ∧ c < 256) : ∀ (d i : Nat) (u : Int), i + d = 10 → i ≤ x.length → (d ≠ 0 → 0 ≤ u ∧ u < 2 ^ (7 * i)) →
    Ev (fun k => event_Int.l0 k x u (i : Int)) (dec d u (x.drop i)) := by
  intro d
  induction d with
  | zero =>
    intro i u hi _ _
    refine Ev.step (f := fun _ => some _) (fun k => ?_) (Ev.now _)
    simp only [event_Int.l0]
    rw [if_neg (by omega)]
    rfl
  | succ d ih =>
    intro i u hi hxl hu
    obtain ⟨h0, h1⟩ := hu (by omega)
    by_cases he : i = x.length
    · refine Ev.step (f := fun _ => some _) (fun k => ?_) (Ev.now _)
      simp only [event_Int.l0]
      rw [if_pos (by omega), if_pos (by omega), List.drop_of_length_le (by omega)]
      rfl
    · have hlt : i < x.length := by omega
      have hc := hx x[i] (List.getElem_mem hlt)
      have e7 : wrap64 (7 * (i : Int)) = 7 * (i : Int) := wrap64_id (by omega) (by omega)
      have e1 : wrap64 ((i : Int) + 1) = ((i + 1 : Nat) : Int) := by rw [wrap64_id (by omega) (by omega)]; omega
      have ed : 9 - d = i := by omega
      rw [List.drop_eq_getElem_cons hlt]
      simp only [dec]
      rw [ed]
      generalize hcc : x[i] = c at hc ⊢
      by_cases hb : c ≥ 128
      · rw [if_pos hb]
        by_cases h9 : i = 9
        · have hd : d = 0 := by omega
          subst hd
          refine Ev.step (f := fun k => event_Int.l0 k x (bits .or .u64 u (shl .u64 (IntKind.u64.wrap (bits .and .u8 c 127)) (7 * (i : Int)))) ((i + 1 : Nat) : Int)) (fun k => ?_) ?_
          · simp only [event_Int.l0]
            rw [if_pos (by omega), if_neg (by omega), if_pos (by omega), if_pos (by omega), rd_at hlt, hcc, e7, if_pos (by omega), if_pos hb, e1]
          · exact ih (i + 1) _ (by omega) (by omega) (fun h => absurd rfl h)
        · have hg := gather (i := i) (u := u) (c := c) (by omega) h0 h1 hc.1 hc.2 (fun h => absurd h h9) (7 * (i : Int)) rfl
          refine Ev.step (f := fun k => event_Int.l0 k x (u + c % 128 * 2 ^ (7 * i)) ((i + 1 : Nat) : Int)) (fun k => ?_) ?_
          · simp only [event_Int.l0]
            rw [if_pos (by omega), if_neg (by omega), if_pos (by omega), if_pos (by omega), rd_at hlt, hcc, e7, if_pos (by omega), if_pos hb, e1, hg]
          · exact ih (i + 1) _ (by omega) (by omega) (fun _ => gather_range h0 h1)
      · rw [if_neg (by omega)]
        by_cases hbad : d = 0 ∧ 1 < c ∨ d < 9 ∧ c = 0
        · rw [if_pos hbad]
          refine Ev.step (f := fun _ => some _) (fun k => ?_) (Ev.now _)
          simp only [event_Int.l0]
          rw [if_pos (by omega), if_neg (by omega), if_pos (by omega), if_pos (by omega), rd_at hlt, hcc, e7, if_pos (by omega), if_neg hb]
          by_cases h9 : (i : Int) = 9
          · rw [if_pos h9]
            by_cases hc1 : c > 1
            · rw [if_pos hc1]
            · rw [if_neg hc1, if_pos (by omega), if_pos (by omega)]
          · rw [if_neg h9, if_pos (by omega), if_pos (by omega)]
        · rw [if_neg hbad]
          have hm7 : c % 128 = c := by omega
          have hg := gather (i := i) (u := u) (c := c) (by omega) h0 h1 hc.1 hc.2 (fun h => by omega) (7 * (i : Int)) rfl
          rw [hm7] at hg
          have hr := gather_range (i := i) (u := u) (c := c) h0 h1
          rw [hm7] at hr
          have h64 : u + c * 2 ^ (7 * i) < 18446744073709551616 := by
            by_cases h9 : i = 9
            · subst h9
              have hc1 : c ≤ 1 := by omega
              have e2 : ((2 : Int) ^ (7 * 9)) = 9223372036854775808 := by decide
              rw [e2] at h1 ⊢
              omega
            · have h3 : ((2 ^ (7 * (i + 1)) : Nat) : Int) ≤ ((2 ^ 63 : Nat) : Int) := by exact_mod_cast Nat.pow_le_pow_right (by decide) (by omega)
              have h5 : ((2 : Int) ^ (7 * (i + 1))) = ((2 ^ (7 * (i + 1)) : Nat) : Int) := by simp
              have h6 : ((2 ^ 63 : Nat) : Int) = 9223372036854775808 := by decide
              omega
          refine Ev.step (f := fun _ => some _) (fun k => ?_) (Ev.now _)
          simp only [event_Int.l0]
          rw [if_pos (by omega), if_neg (by omega), if_pos (by omega), if_pos (by omega), rd_at hlt, hcc, e7, if_pos (by omega), if_neg hb, hg, e1, unzz_impl hr.1 h64]
          have es : ((i + 1 : Nat) : Int) = 10 - (d : Int) := by omega
          rw [es]
          by_cases h9 : (i : Int) = 9
          · rw [if_pos h9, if_neg (by omega), if_pos (by omega), if_neg (by omega)]
          · rw [if_neg h9]
            by_cases hi0 : (i : Int) > 0
            · rw [if_pos hi0, if_neg (by omega)]
            · rw [if_neg hi0]
theorem int_f (x : List Int) (hm : x.length ≤ 140737488355328) (hx : ∀ c ∈ x, 0 ≤ c ∧ c < 256) : Ev (fun k => event_Int.f k x) (dec 10 0 x) := by
  have := int_loop x hm hx 10 0 0 rfl (Nat.zero_le _) (fun _ => by simp)
  simpa [event_Int.f] using this
theorem refInt_j2 (u : Int) (i : Nat) (h0 : 0 ≤ u) (h1 : u < 18446744073709551616) (hi : i < 10) (b : Bool) :
    Ev (fun k => interleaveref11_Int.j2 k u (i : Int) b) (if b = true then (0, 0, 11) else (unzz u, (i : Int) + 1, 0)) := by
  refine Ev.step (f := fun _ => some _) (fun k => ?_) (Ev.now _)
  simp only [interleaveref11_Int.j2]
  by_cases hb : b = true
  · rw [if_pos hb, if_pos hb]
  · rw [if_neg hb, if_neg hb, u64_and1 u h0 h1, wrap64_id (x := u / 2) (by omega) (by omega), wrap64_id (x := (i : Int) + 1) (by omega) (by omega)]
    unfold unzz
    by_cases h : u % 2 = 1
    · rw [if_pos h, if_pos h, (i64_xor_ones _ (by omega) (by omega)).1]
    · rw [if_neg h, if_neg h]
theorem refInt_loop (x : List Int) (hm : x.length ≤ 140737488355328) (hx : ∀ c ∈ x, 0 ≤ c ∧ c < 256) : ∀ (d i : Nat) (u : Int), i + d = 10 → i ≤ x.length → (d ≠ 0 → 0 ≤ u ∧ u < 2 ^ (7 * i)) →
    Ev (fun k => interleaveref11_Int.l0 k x u (i : Int)) (dec d u (x.drop i)) := by
  intro d
  induction d with
  | zero =>
    intro i u hi _ _
    refine Ev.step (f := fun _ => some _) (fun k => ?_) (Ev.now _)
    simp only [interleaveref11_Int.l0]
    rw [if_neg (by omega)]
    rfl
  | succ d ih =>
    intro i u hi hxl hu
    obtain ⟨h0, h1⟩ := hu (by omega)
    by_cases he : i = x.length
    · refine Ev.step (f := fun _ => some _) (fun k => ?_) (Ev.now _)
      simp only [interleaveref11_Int.l0]
      rw [if_pos (by omega), if_pos (by omega), List.drop_of_length_le (by omega)]
      rfl
    · have hlt : i < x.length := by omega
      have hc := hx x[i] (List.getElem_mem hlt)
      have e7 : IntKind.u64.wrap (wrap64 (7 * (i : Int))) = 7 * (i : Int) := by rw [wrap64_id (by omega) (by omega), u64_wrap]; omega
      have e1 : wrap64 ((i : Int) + 1) = ((i + 1 : Nat) : Int) := by rw [wrap64_id (by omega) (by omega)]; omega
      have ed : 9 - d = i := by omega
      rw [List.drop_eq_getElem_cons hlt]
      simp only [dec]
      rw [ed]
      generalize hcc : x[i] = c at hc ⊢
      refine Ev.step (f := fun k => interleaveref11_Int.j1 k x u (i : Int) (decide (i = 9 ∧ c > 1))) (fun k => ?_) ?_
      · simp only [interleaveref11_Int.l0]
        rw [if_pos (by omega), if_neg (by omega)]
        by_cases h9 : (i : Int) = 9
        · rw [if_pos h9, if_pos (by omega), if_pos (by omega), rd_at hlt, hcc]
          congr 1
          apply decide_eq_decide.mpr
          omega
        · rw [if_neg h9]
          congr 1
          symm
          apply decide_eq_false
          omega
      by_cases hten : i = 9 ∧ c > 1
      · rw [show decide (i = 9 ∧ c > 1) = true from decide_eq_true hten]
        have hr : (if 128 ≤ c then dec d (u + c % 128 * 2 ^ (7 * i)) (List.drop (i + 1) x) else if d = 0 ∧ 1 < c ∨ d < 9 ∧ c = 0 then (0, 0, 11) else (unzz (u + c * 2 ^ (7 * i)), 10 - (d : Int), 0)) = (0, 0, 11) := by
          have hd : d = 0 := by omega
          subst hd
          by_cases hb : 128 ≤ c
          · rw [if_pos hb]; rfl
          · rw [if_neg hb, if_pos (by omega)]
        rw [hr]
        refine Ev.step (f := fun _ => some _) (fun k => ?_) (Ev.now _)
        simp only [interleaveref11_Int.j1]
        rw [if_pos trivial]
      · rw [show decide (i = 9 ∧ c > 1) = false from decide_eq_false hten]
        have hm9 : i = 9 → c % 128 ≤ 1 := by omega
        have hg := gather (i := i) (u := u) (c := c) (by omega) h0 h1 hc.1 hc.2 hm9 (7 * (i : Int)) rfl
        have hr := gather_range (i := i) (u := u) (c := c) h0 h1
        by_cases hb : 128 ≤ c
        · rw [if_pos hb]
          refine Ev.step (f := fun k => interleaveref11_Int.l0 k x (u + c % 128 * 2 ^ (7 * i)) ((i + 1 : Nat) : Int)) (fun k => ?_) ?_
          · simp only [interleaveref11_Int.j1]
            rw [if_neg (by decide), if_pos (by omega), if_pos (by omega), rd_at hlt, hcc, e7, if_pos (by omega), if_neg (by omega), e1, hg]
          · exact ih (i + 1) _ (by omega) (by omega) (fun _ => hr)
        · rw [if_neg hb]
          have hm7 : c % 128 = c := by omega
          rw [hm7] at hg hr
          have h64 : u + c * 2 ^ (7 * i) < 18446744073709551616 := by
            by_cases h9 : i = 9
            · subst h9
              have hc1 : c ≤ 1 := by omega
              have e2 : ((2 : Int) ^ (7 * 9)) = 9223372036854775808 := by decide
              rw [e2] at h1 ⊢
              omega
            · have h3 : ((2 ^ (7 * (i + 1)) : Nat) : Int) ≤ ((2 ^ 63 : Nat) : Int) := by exact_mod_cast Nat.pow_le_pow_right (by decide) (by omega)
              have h5 : ((2 : Int) ^ (7 * (i + 1))) = ((2 ^ (7 * (i + 1)) : Nat) : Int) := by simp
              have h6 : ((2 ^ 63 : Nat) : Int) = 9223372036854775808 := by decide
              omega
          refine Ev.step (f := fun k => interleaveref11_Int.j2 k (u + c * 2 ^ (7 * i)) (i : Int) (decide (0 < i ∧ c = 0))) (fun k => ?_) ?_
          · simp only [interleaveref11_Int.j1]
            rw [if_neg (by decide), if_pos (by omega), if_pos (by omega), rd_at hlt, hcc, e7, if_pos (by omega), if_pos (by omega), hg]
            by_cases hi0 : (i : Int) > 0
            · rw [if_pos hi0]
              congr 1
              rw [show (c == 0) = decide (c = 0) from rfl]
              apply decide_eq_decide.mpr
              omega
            · rw [if_neg hi0]
              congr 1
              symm
              apply decide_eq_false
              omega
          · have := refInt_j2 (u + c * 2 ^ (7 * i)) i hr.1 h64 (by omega) (decide (0 < i ∧ c = 0))
            by_cases hz : 0 < i ∧ c = 0
            · rw [show decide (0 < i ∧ c = 0) = true from decide_eq_true hz] at this ⊢
              rw [if_pos rfl] at this
              rw [if_pos (by omega)]
              exact this
            · rw [show decide (0 < i ∧ c = 0) = false from decide_eq_false hz] at this ⊢
              rw [if_neg (by decide)] at this
              rw [if_neg (by omega), show (10 : Int) - (d : Int) = (i : Int) + 1 by omega]
              exact this
theorem refInt_f (x : List Int) (hm : x.length ≤ 140737488355328) (hx : ∀ c ∈ x, 0 ≤ c ∧ c < 256) : Ev (fun k => interleaveref11_Int.f k x) (dec 10 0 x) := by
  have := refInt_loop x hm hx 10 0 0 rfl (Nat.zero_le _) (fun _ => by simp)
  simpa [interleaveref11_Int.f] using this
end Go.Proofs.Ytnmmkgagbfniiaa.Pl
end
section
namespace Go.Proofs.Ytnmmkgagbfniiaa.A
open Go.RowKit Go.Proofs.YtnmmkgagbfniiaaW.PrintWords Go.Proofs.YtnmmkgagbfniiaaW.PrintLast Go.Proofs.YtnmmkgagbfniiaaW.PrintMore
attribute [local go_sem] max2_int min2_int max_two min_two max_three min_three max_four min_four
set_option linter.unusedVariables false
set_option linter.unusedSimpArgs false
def IsS88 (w0 W : World) (g : Nat) (f0 : List Int) (f1 : Int) (f2 : Int) : Prop := ∃ A0 c0, W.heap[g]? = some (.cells #[.slice A0 f0.length c0, .int .i64 f1, .int .i64 f2] 88 (0, 0)) ∧ w0.heap.size ≤ g ∧ (Kd.C (Kd.int .u8) w0 A0 f0.length f0 ∧ f0.length ≤ c0)
theorem IsS88.grown {w0 W : World} {g : Nat} {f0 : List Int} {f1 : Int} {f2 : Int} {W1 : World} {row : Option Nat} (h : IsS88 w0 W g f0 f1 f2) (hw : W.grownBy W1 row) (hne : some g ≠ row) : IsS88 w0 W1 g f0 f1 f2 := by
  obtain ⟨A0, c0, hb, hg, hr0⟩ := h
  exact ⟨A0, c0, blk_grown hb hw hne, hg, hr0⟩
theorem IsS88.kept {w0 W : World} {g : Nat} {f0 : List Int} {f1 : Int} {f2 : Int} {W1 : World} {S : Nat → Prop} (h : IsS88 w0 W g f0 f1 f2) (hk : Kept W W1 S) (hne : ¬ S g) : IsS88 w0 W1 g f0 f1 f2 := by
  obtain ⟨A0, c0, hb, hg, hr0⟩ := h
  exact ⟨A0, c0, blk_kept hb hk hne, hg, hr0⟩
theorem IsS88.below {w0 W : World} {g : Nat} {f0 : List Int} {f1 : Int} {f2 : Int} {W1 : World} (h : IsS88 w0 W g f0 f1 f2) (hw : Below W.heap.size W W1) : IsS88 w0 W1 g f0 f1 f2 := h.grown (grown_of_below hw none) (by simp)
theorem IsS88.alloc {w0 W : World} {g : Nat} {f0 : List Int} {f1 : Int} {f2 : Int} (h : IsS88 w0 W g f0 f1 f2) (o : Obj) : IsS88 w0 (W.alloc o) g f0 f1 f2 := h.below (below_alloc (Below.refl _ _) o)
theorem IsS88.drewN {w0 W : World} {g : Nat} {f0 : List Int} {f1 : Int} {f2 : Int} (h : IsS88 w0 W g f0 f1 f2) (m : Nat) : IsS88 w0 (W.drewN m) g f0 f1 f2 := h
theorem IsS88.drew {w0 W : World} {g : Nat} {f0 : List Int} {f1 : Int} {f2 : Int} (h : IsS88 w0 W g f0 f1 f2) : IsS88 w0 W.drew g f0 f1 f2 := h
theorem IsS88.at_ {w0 W : World} {g : Nat} {f0 : List Int} {f1 : Int} {f2 : Int} {w' : World} {m : Nat} (hq : W.drewN m = w') (h : IsS88 w0 W g f0 f1 f2) : IsS88 w0 w' g f0 f1 f2 := by subst hq; exact IsS88.drewN h m
theorem IsS88.apart {w0 W : World} {g : Nat} {f0 : List Int} {f1 : Int} {f2 : Int} {α : Type} {d : Kd α} {e : Nat} {base : Nat} {ok : Nat → Prop} {v : Value} {xs : List α} (h : IsS88 w0 W g f0 f1 f2) (ho : d.R e W base ok v xs) (ht : ∀ q, q ∈ e :: d.E → q ≠ 88) : d.R e W base (fun k => ok k ∧ k ≠ g) v xs := by
  obtain ⟨A0, c0, hb, hg, hr0⟩ := h
  exact Kd.R_types ho hb ht
theorem IsS88.own_ne {w0 W : World} {g : Nat} {f0 : List Int} {f1 : Int} {f2 : Int} {α : Type} {d : Kd α} {e : Nat} {base : Nat} {ok : Nat → Prop} {v : Value} {xs : List α} (h : IsS88 w0 W g f0 f1 f2) (ho : d.R e W base ok v xs) (ht : e ≠ 88) : some g ≠ v.ownBlock := by
  obtain ⟨A0, c0, hb, hg, hr0⟩ := h
  exact Kd.R_ne ho hb ht
theorem IsS88.lt {w0 W : World} {g : Nat} {f0 : List Int} {f1 : Int} {f2 : Int} (h : IsS88 w0 W g f0 f1 f2) : g < W.heap.size := by
  obtain ⟨A0, c0, hb, hg, hr0⟩ := h
  exact blk_lt hb
theorem IsS88.ge {w0 W : World} {g : Nat} {f0 : List Int} {f1 : Int} {f2 : Int} (h : IsS88 w0 W g f0 f1 f2) : w0.heap.size ≤ g := by
  obtain ⟨A0, c0, hb, hg, hr0⟩ := h
  exact hg
theorem IsS88.far {w0 W : World} {g : Nat} {f0 : List Int} {f1 : Int} {f2 : Int} {p : Addr} (h : IsS88 w0 W g f0 f1 f2) (hne : g ≠ p.block) (u : Value) : IsS88 w0 (W.setCell p u) g f0 f1 f2 := by
  obtain ⟨A0, c0, hb, hg, hr0⟩ := h
  exact ⟨A0, c0, blk_far hb hne u, hg, hr0⟩
theorem cellS88_0 {W : World} {g : Nat} {A0 : Option Addr} {c0 : Nat} {f0 : List Int} {f1 : Int} {f2 : Int} (h : W.heap[g]? = some (.cells #[.slice A0 f0.length c0, .int .i64 f1, .int .i64 f2] 88 (0, 0))) : W.cell? ⟨g, 0, none⟩ = some (.slice A0 f0.length c0) := (blk_cell h 0).trans rfl
theorem cellS88_1 {W : World} {g : Nat} {A0 : Option Addr} {c0 : Nat} {f0 : List Int} {f1 : Int} {f2 : Int} (h : W.heap[g]? = some (.cells #[.slice A0 f0.length c0, .int .i64 f1, .int .i64 f2] 88 (0, 0))) : W.cell? ⟨g, 1, none⟩ = some (.int .i64 f1) := (blk_cell h 1).trans rfl
theorem IsS88.set_1 {w0 W : World} {g : Nat} {f0 : List Int} {f1 : Int} {f2 : Int} (h : IsS88 w0 W g f0 f1 f2) (x : Int) : IsS88 w0 (W.setCell ⟨g, 1, none⟩ (.int .i64 x)) g f0 x f2 := by
  obtain ⟨A0, c0, hb, hg, hr0⟩ := h
  exact ⟨A0, c0, by simpa using blk_set hb 1 (.int .i64 x), hg, hr0⟩
theorem cellS88_2 {W : World} {g : Nat} {A0 : Option Addr} {c0 : Nat} {f0 : List Int} {f1 : Int} {f2 : Int} (h : W.heap[g]? = some (.cells #[.slice A0 f0.length c0, .int .i64 f1, .int .i64 f2] 88 (0, 0))) : W.cell? ⟨g, 2, none⟩ = some (.int .i64 f2) := (blk_cell h 2).trans rfl
theorem IsS88.set_2 {w0 W : World} {g : Nat} {f0 : List Int} {f1 : Int} {f2 : Int} (h : IsS88 w0 W g f0 f1 f2) (x : Int) : IsS88 w0 (W.setCell ⟨g, 2, none⟩ (.int .i64 x)) g f0 f1 x := by
  obtain ⟨A0, c0, hb, hg, hr0⟩ := h
  exact ⟨A0, c0, by simpa using blk_set hb 2 (.int .i64 x), hg, hr0⟩
theorem IsS88.new (w0 W : World) (A0 : Option Addr) (c0 : Nat) (f0 : List Int) (f1 : Int) (f2 : Int) (hB : Below w0.heap.size w0 W) (hr0 : Kd.C (Kd.int .u8) w0 A0 f0.length f0 ∧ f0.length ≤ c0) : IsS88 w0 (W.alloc (.cells #[.slice A0 f0.length c0, .int .i64 f1, .int .i64 f2] 88)) W.heap.size f0 f1 f2 := ⟨A0, c0, by simpa using heap_alloc_new W _, hB.size, hr0⟩
def event_reader_next.f (k : Nat) (s0_0 : List Int) (s0_1 : Int) (s0_2 : Int) : Option (Int × Int × Int) :=
  if s0_2 = 0 then (if 0 ≤ s0_1 ∧ s0_1 ≤ (s0_0.length : Int) then (event_Int.f k (s0_0.drop s0_1.toNat)).bind fun p => some (p.1, wrap64 (s0_1 + p.2.1), p.2.2) else none) else some (0, s0_1, s0_2)
theorem event_reader_next.mono : ∀ a0 a1 a2 k, LeO (event_reader_next.f k a0 a1 a2) (event_reader_next.f (k + 1) a0 a1 a2) := by
  intro a0 a1 a2 k
  unfold event_reader_next.f
  by_cases c : a2 = 0
  · rw [if_pos c, if_pos c]
    by_cases c1 : 0 ≤ a1 ∧ a1 ≤ (a0.length : Int)
    · rw [if_pos c1, if_pos c1]
      exact LeO.bind (event_Int.mono _ _) fun _ => LeO.refl _
    · rw [if_neg c1, if_neg c1]
      exact LeO.refl _
  · rw [if_neg c, if_neg c]
    exact LeO.refl _
set_option maxHeartbeats 4000000 in
set_option maxRecDepth 100000 in
theorem event_reader_next.calls (k : Nat) (g : Nat) (s0_0 : List Int) (s0_1 : Int) (s0_2 : Int) (r1 : Int) (r2 : Int) (r3 : Int) (w0 w : World) (hI : IsS88 w0 w g s0_0 s0_1 s0_2) (hB : Below w0.heap.size w0 w) (h : event_reader_next.f k s0_0 s0_1 s0_2 = some (r1, r2, r3)) :
    Calls Try.prog 42 #[.pointer (some ⟨g, 0, none⟩)] w fun e w' => e = .returned (.int .i64 r1) ∧ IsS88 w0 w' g s0_0 r2 r3 ∧ Below w0.heap.size w0 w' ∧ KeepBut w w' g none := by
  have HI := Aside0.mk hI
  have HB := Aside0.mk hB
  obtain ⟨A0, c0, hblk, hg, hr0, hc0⟩ := hI
  have q0 := cellS88_0 hblk
  have q1 := cellS88_1 hblk
  have q2 := cellS88_2 hblk
  have HR0 := Aside0.mk hr0
  clear hblk hB hr0
  unfold event_reader_next.f at h
  by_cases c : s0_2 = 0
  · rw [if_pos c] at h
    have c0_ : (s0_2 != 0) = false := by simp [c]
    have c1_ : (s0_2 == 0) = true := by simp [c]
    by_cases c2 : 0 ≤ s0_1 ∧ s0_1 ≤ (s0_0.length : Int)
    case neg =>
      rw [if_neg c2] at h
      exact absurd h (by simp)
    rw [if_pos c2] at h
    obtain ⟨p, hp, h⟩ := Option.bind_eq_some_iff.mp h
    obtain ⟨n_, z_, e_⟩ := p
    dsimp only at h
    obtain ⟨i0, hi0, _, hsz, _⟩ := info_parts info5
    obtain ⟨A1, hcut, hA, hC⟩ := print_drop_of (P := Try.prog) (Value.int .u8) 0 27 5 .i64 Try.underlying27 hi0 hsz A0 c0 s0_0 s0_1 c2.1 c2.2 hc0
    have HR1 : Aside0 (Kd.C (Kd.int .u8) w0 A1 (s0_0.drop s0_1.toNat).length (s0_0.drop s0_1.toNat)) := ⟨Kd.C_of_reads (h1 := fun _ => rfl) (hA _ (Kd.reads_of_C HR0.out))⟩
    obtain ⟨zs, hz⟩ : ∃ zs : List Int, zs = s0_0.drop s0_1.toNat := ⟨_, rfl⟩
    rw [← hz] at hcut HR1 hC hp
    have HC1 := Aside0.mk hC
    have HF := Aside0.mk hp
    clear hA hC hp hz c2 hc0 c hi0
    simp only [Option.some.injEq, Prod.mk.injEq] at h
    obtain ⟨rfl, rfl, rfl⟩ := h
    go_enter Try.func42, Try.ntmps42
    go_wp2
    refine start_ (n := 17) (S := fun w' => w'.cell? ⟨g, 0, none⟩ = some (.slice A0 s0_0.length c0) ∧ w'.cell? ⟨g, 1, none⟩ = some (.int .i64 s0_1)) (ds := []) #[false, false, false, false, false, false, false, false, false, false, false, false, false, false, false, false, false] (by kernel_rfl) rfl rfl ⟨q0, q1⟩ (fun hHeld => ?_)
    have HI2 := Aside0.mk (IsS88.drew HI.out)
    have HB2 := Aside0.mk (HB.out.drew)
    have HK2 := Aside0.mk (keep_drew (KeepBut.refl w g none))
    generalize w.drew = w2 at HI2 HB2 HK2 hHeld ⊢
    have HR2 := Aside0.mk (Kd.C_below HR1.out HB2.out)
    refine pure_ (i := 0) (N := some 12) (v := ?_) (a' := ?_) #[true, false, false, false, false, false, false, false, false, false, false, false, false, false, false, false, false] rfl rfl (by kernel_rfl) (fun _ _ _ h => h) (Or.inl ⟨by rfl, ?_⟩) ?_ ?_
    rotate_left
    · intro w'
      go_simp
      with_reducible rfl
    rotate_left
    · simp only [Act.put, List.setIfInBounds_toArray, List.set_cons_zero, List.set_cons_succ, i64_w, i32_w]
      rfl
    refine pure_ (i := 1) (N := some 13) (v := ?_) (a' := ?_) #[true, true, false, false, false, false, false, false, false, false, false, false, false, false, false, false, false] rfl rfl (by kernel_rfl) (fun _ _ _ h => h) (Or.inl ⟨by rfl, ?_⟩) ?_ ?_
    rotate_left
    · intro w'
      go_simp
      with_reducible rfl
    rotate_left
    · simp only [Act.put, List.setIfInBounds_toArray, List.set_cons_zero, List.set_cons_succ, i64_w, i32_w]
      rfl
    refine pure_ (i := 2) (N := some 14) (v := ?_) (a' := ?_) #[true, true, true, false, false, false, false, false, false, false, false, false, false, false, false, false, false] rfl rfl (by kernel_rfl) (fun _ _ _ h => h) (Or.inl ⟨by rfl, ?_⟩) ?_ ?_
    rotate_left
    · intro w'
      go_simp
      with_reducible rfl
    rotate_left
    · simp only [Act.put, List.setIfInBounds_toArray, List.set_cons_zero, List.set_cons_succ, i64_w, i32_w]
      rfl
    refine pure_ (i := 4) (N := some 16) (v := ?_) (a' := ?_) #[true, true, true, false, true, false, false, false, false, false, false, false, false, false, false, false, false] rfl rfl (by kernel_rfl) (fun _ _ _ h => h) (Or.inl ⟨by rfl, ?_⟩) ?_ ?_
    rotate_left
    · intro w'
      go_simp
      with_reducible rfl
    rotate_left
    · simp only [Act.put, List.setIfInBounds_toArray, List.set_cons_zero, List.set_cons_succ, i64_w, i32_w]
      rfl
    refine pure_ (i := 5) (N := some 17) (v := ?_) (a' := ?_) #[true, true, true, false, true, true, false, false, false, false, false, false, false, false, false, false, false] rfl rfl (by kernel_rfl) (fun _ _ _ h => h) (Or.inl ⟨by rfl, ?_⟩) ?_ ?_
    rotate_left
    · intro w'
      go_simp
      with_reducible rfl
    rotate_left
    · simp only [Act.put, List.setIfInBounds_toArray, List.set_cons_zero, List.set_cons_succ, i64_w, i32_w]
      rfl
    refine pure_ (i := 6) (N := some 18) (v := ?_) (a' := ?_) #[true, true, true, false, true, true, true, false, false, false, false, false, false, false, false, false, false] rfl rfl (by kernel_rfl) (fun _ _ _ h => h) (Or.inl ⟨by rfl, ?_⟩) ?_ ?_
    rotate_left
    · intro w'
      go_simp
      with_reducible rfl
    rotate_left
    · simp only [Act.put, List.setIfInBounds_toArray, List.set_cons_zero, List.set_cons_succ, i64_w, i32_w]
      rfl
    refine take_ (i := 3) (N := some 15) (v := ?_) (a' := ?_) #[true, true, true, true, true, true, true, false, false, false, false, false, false, false, false, false, false] rfl rfl (by kernel_rfl) (fun _ _ _ h => h) (Or.inl ⟨by rfl, ?_⟩) hHeld ?_ ?_
    rotate_left
    · rintro w' ⟨s0, s1⟩
      go_simp
      with_reducible rfl
    rotate_left
    · simp only [Act.put, List.setIfInBounds_toArray, List.set_cons_zero, List.set_cons_succ, i64_w, i32_w]
      rfl
    refine take_ (i := 7) (N := some 19) (v := ?_) (a' := ?_) #[true, true, true, true, true, true, true, true, false, false, false, false, false, false, false, false, false] rfl rfl (by kernel_rfl) (fun _ _ _ h => h) (Or.inl ⟨by rfl, ?_⟩) hHeld ?_ ?_
    rotate_left
    · rintro w' ⟨s0, s1⟩
      go_simp
      with_reducible rfl
    rotate_left
    · simp only [Act.put, List.setIfInBounds_toArray, List.set_cons_zero, List.set_cons_succ, i64_w, i32_w]
      rfl
    refine pure_ (i := 8) (N := some 20) (v := ?_) (a' := ?_) #[true, true, true, true, true, true, true, true, true, false, false, false, false, false, false, false, false] rfl rfl (by kernel_rfl) (fun _ _ _ h => h) (Or.inl ⟨by rfl, ?_⟩) ?_ ?_
    rotate_left
    · intro w'
      go_simp
      with_reducible rfl
    rotate_left
    · simp only [Act.put, List.setIfInBounds_toArray, List.set_cons_zero, List.set_cons_succ, i64_w, i32_w]
      rfl
    refine one_ (i := 9) (N := some 21) #[true, true, true, true, true, true, true, true, true, true, false, false, false, false, false, false, false] rfl rfl (by kernel_rfl) (by decide) (fun K hK => ?_)
    refine goes_ Try.func75 (by kernel_rfl) rfl #[.slice A1 zs.length (c0 - s0_1.toNat)] (by rfl) rfl rfl (by simp only [List.map_toArray, List.map_cons, List.map_nil]; rfl) ?_
    with_reducible refine (event_Int.calls k A1 (c0 - s0_1.toNat) zs n_ z_ e_ _ HR2.out HC1.out HF.out).mono ?_
    rintro e w4 ⟨rfl, hb⟩
    refine ⟨_, rfl, ?_⟩
    have HB4 := Aside0.mk (hb)
    have HI4 := Aside0.mk (IsS88.below HI2.out HB4.out)
    clear hb
    refine hK.out _ _ ⟨(HB4.out.cell (p := ⟨g, 0, none⟩) (IsS88.lt HI2.out)).trans hHeld.1, (HB4.out.cell (p := ⟨g, 1, none⟩) (IsS88.lt HI2.out)).trans hHeld.2⟩ (fun hHeld => ?_)
    clear hK K
    refine norm_ (a' := ?_) ?_ ?_
    rotate_left
    · show Act.put _ (some 21) _ = _
      simp only [Act.put, List.setIfInBounds_toArray, List.set_cons_zero, List.set_cons_succ, i64_w, i32_w]
      rfl
    refine pure_ (i := 10) (N := some 11) (v := ?_) (a' := ?_) #[true, true, true, true, true, true, true, true, true, true, true, false, false, false, false, false, false] rfl rfl (by kernel_rfl) (fun _ _ _ h => h) (Or.inl ⟨by rfl, ?_⟩) ?_ ?_
    rotate_left
    · intro w'
      go_simp
      with_reducible rfl
    rotate_left
    · simp only [Act.put, List.setIfInBounds_toArray, List.set_cons_zero, List.set_cons_succ, i64_w, i32_w]
      rfl
    refine pure_ (i := 11) (N := some 22) (v := ?_) (a' := ?_) #[true, true, true, true, true, true, true, true, true, true, true, true, false, false, false, false, false] rfl rfl (by kernel_rfl) (fun _ _ _ h => h) (Or.inl ⟨by rfl, ?_⟩) ?_ ?_
    rotate_left
    · intro w'
      go_simp
      with_reducible rfl
    rotate_left
    · simp only [Act.put, List.setIfInBounds_toArray, List.set_cons_zero, List.set_cons_succ, i64_w, i32_w]
      rfl
    refine pure_ (i := 12) (N := some 23) (v := ?_) (a' := ?_) #[true, true, true, true, true, true, true, true, true, true, true, true, true, false, false, false, false] rfl rfl (by kernel_rfl) (fun _ _ _ h => h) (Or.inl ⟨by rfl, ?_⟩) ?_ ?_
    rotate_left
    · intro w'
      go_simp
      with_reducible rfl
    rotate_left
    · simp only [Act.put, List.setIfInBounds_toArray, List.set_cons_zero, List.set_cons_succ, i64_w, i32_w]
      rfl
    refine pure_ (i := 13) (N := some 24) (v := ?_) (a' := ?_) #[true, true, true, true, true, true, true, true, true, true, true, true, true, true, false, false, false] rfl rfl (by kernel_rfl) (fun _ _ _ h => h) (Or.inl ⟨by rfl, ?_⟩) ?_ ?_
    rotate_left
    · intro w'
      go_simp
      with_reducible rfl
    rotate_left
    · simp only [Act.put, List.setIfInBounds_toArray, List.set_cons_zero, List.set_cons_succ, i64_w, i32_w]
      rfl
    refine pure_ (i := 14) (N := some 3) (v := ?_) (a' := ?_) #[true, true, true, true, true, true, true, true, true, true, true, true, true, true, true, false, false] rfl rfl (by kernel_rfl) (fun _ _ _ h => h) (Or.inl ⟨by rfl, ?_⟩) ?_ ?_
    rotate_left
    · intro w'
      go_simp
      with_reducible rfl
    rotate_left
    · simp only [Act.put, List.setIfInBounds_toArray, List.set_cons_zero, List.set_cons_succ, i64_w, i32_w]
      rfl
    refine pure_ (i := 15) (N := some 4) (v := ?_) (a' := ?_) #[true, true, true, true, true, true, true, true, true, true, true, true, true, true, true, true, false] rfl rfl (by kernel_rfl) (fun _ _ _ h => h) (Or.inl ⟨by rfl, ?_⟩) ?_ ?_
    rotate_left
    · intro w'
      go_simp
      with_reducible rfl
    rotate_left
    · simp only [Act.put, List.setIfInBounds_toArray, List.set_cons_zero, List.set_cons_succ, i64_w, i32_w]
      rfl
    refine pure_ (i := 16) (N := some 5) (v := ?_) (a' := ?_) #[true, true, true, true, true, true, true, true, true, true, true, true, true, true, true, true, true] rfl rfl (by kernel_rfl) (fun _ _ _ h => h) (Or.inl ⟨by rfl, ?_⟩) ?_ ?_
    rotate_left
    · intro w'
      go_simp
      with_reducible rfl
    rotate_left
    · simp only [Act.put, List.setIfInBounds_toArray, List.set_cons_zero, List.set_cons_succ, i64_w, i32_w]
      rfl
    refine done_ (by kernel_rfl) ?_
    obtain ⟨Az, cz, hz, _, _⟩ := HI4.out
    have f1 := blk_frozen hz 1
    have f2 := blk_frozen hz 2
    have q4 := cellS88_1 hz
    have q5 := cellS88_2 hz
    clear hz
    go_wp2
    go_ret
    exact ⟨rfl, (HI4.out.set_1 _).set_2 _, below_set (below_set (below_then HB2.out HB2.out.size HB4.out) HI.out.ge) HI.out.ge, ((KeepBut.trans HK2.out (KeepBut.of_below HB4.out g none) (.inl rfl)).set_ 1 _).set_ 2 _⟩
  · rw [if_neg c] at h
    have c0_ : (s0_2 != 0) = true := by simp [c]
    have c1_ : (s0_2 == 0) = false := by simp [c]
    clear c
    simp only [Option.some.injEq, Prod.mk.injEq] at h
    obtain ⟨rfl, rfl, rfl⟩ := h
    go_enter Try.func42, Try.ntmps42
    go_wp2
    go_ret
    exact ⟨rfl, HI.out, HB.out, KeepBut.refl w g none⟩
end Go.Proofs.Ytnmmkgagbfniiaa.A
end
section
namespace Go.Proofs.Ytnmmkgagbfniiaa.A
open Go.RowKit Go.Proofs.YtnmmkgagbfniiaaW.PrintWords Go.Proofs.YtnmmkgagbfniiaaW.PrintLast Go.Proofs.YtnmmkgagbfniiaaW.PrintMore
attribute [local go_sem] max2_int min2_int max_two min_two max_three min_three max_four min_four
set_option linter.unusedVariables false
set_option linter.unusedSimpArgs false
mutual
def event_reader_list.j0 : Nat → Int → Bool → List Int → Int → Int → Option (List Int × Int × Int)
  | 0, _, _, _, _, _ => none
  | k + 1, x3, x21, x1000, x1001, x1002 => if x21 = true then (event_reader_list.j1 k x3 x1000 x1001 11) else (event_reader_list.j1 k x3 x1000 x1001 x1002)
def event_reader_list.j1 : Nat → Int → List Int → Int → Int → Option (List Int × Int × Int)
  | 0, _, _, _, _ => none
  | k + 1, x3, x1000, x1001, x1002 => event_reader_list.l0 k x3 ([] : List Int) 0 0 x1000 x1001 x1002
def event_reader_list.l0 : Nat → Int → List Int → Int → Int → List Int → Int → Int → Option (List Int × Int × Int)
  | 0, _, _, _, _, _, _, _ => none
  | k + 1, x3, x4, x5, x6, x1000, x1001, x1002 => if x6 < x3 then (if x1002 = 0 then ((event_reader_next.f k x1000 x1001 x1002).bind fun bt119 => (if x4.length < 17592186044416 then (event_reader_list.l0 k x3 (x4 ++ [wrap64 (x5 + bt119.1)]) (wrap64 (x5 + bt119.1)) (wrap64 (x6 + 1)) x1000 bt119.2.1 bt119.2.2) else (none))) else (some (x4, x1001, x1002))) else (some (x4, x1001, x1002))
end
def event_reader_list.f (k : Nat) (s0_0 : List Int) (s0_1 : Int) (s0_2 : Int) : Option (List Int × Int × Int) := (event_reader_next.f k s0_0 s0_1 s0_2).bind fun bt116 => (if bt116.2.2 = 0 then (if bt116.1 < 0 then (event_reader_list.j0 k bt116.1 true s0_0 bt116.2.1 bt116.2.2) else (event_reader_list.j0 k bt116.1 (decide (bt116.1 > 400)) s0_0 bt116.2.1 bt116.2.2)) else (event_reader_list.j0 k bt116.1 false s0_0 bt116.2.1 bt116.2.2))
theorem event_reader_list.mono_l : ∀ k, (∀ y0 y1 y2 y3 y4, LeO (event_reader_list.j0 k y0 y1 y2 y3 y4) (event_reader_list.j0 (k + 1) y0 y1 y2 y3 y4)) ∧ (∀ y0 y1 y2 y3, LeO (event_reader_list.j1 k y0 y1 y2 y3) (event_reader_list.j1 (k + 1) y0 y1 y2 y3)) ∧ (∀ y0 y1 y2 y3 y4 y5 y6, LeO (event_reader_list.l0 k y0 y1 y2 y3 y4 y5 y6) (event_reader_list.l0 (k + 1) y0 y1 y2 y3 y4 y5 y6))
  | 0 => ⟨fun _ _ _ _ _ r h => by simp [event_reader_list.j0] at h, fun _ _ _ _ r h => by simp [event_reader_list.j1] at h, fun _ _ _ _ _ _ _ r h => by simp [event_reader_list.l0] at h⟩
  | k + 1 => by
    obtain ⟨ih0, ih1, ih2⟩ := event_reader_list.mono_l k
    refine ⟨?_, ?_, ?_⟩
    · intro y0 y1 y2 y3 y4
      unfold event_reader_list.j0
      repeat' first
      | (with_reducible exact ih0 _ _ _ _ _)
      | (with_reducible exact ih1 _ _ _ _)
      | (with_reducible exact ih2 _ _ _ _ _ _ _)
      | (with_reducible exact event_reader_next.mono _ _ _ _)
      | (with_reducible exact LeO.refl _)
      | (with_reducible exact LeO.none _)
      | (with_reducible refine LeO.ite ?_ ?_)
      | (with_reducible refine LeO.bind ?_ (fun _ => ?_))
      | exact ih0 _ _ _ _ _
      | exact ih1 _ _ _ _
      | exact ih2 _ _ _ _ _ _ _
      | exact event_reader_next.mono _ _ _ _
      | exact LeO.none _
      | refine LeO.ite ?_ ?_
      | refine LeO.bind ?_ (fun _ => ?_)
    · intro y0 y1 y2 y3
      unfold event_reader_list.j1
      repeat' first
      | (with_reducible exact ih0 _ _ _ _ _)
      | (with_reducible exact ih1 _ _ _ _)
      | (with_reducible exact ih2 _ _ _ _ _ _ _)
      | (with_reducible exact event_reader_next.mono _ _ _ _)
      | (with_reducible exact LeO.refl _)
      | (with_reducible exact LeO.none _)
      | (with_reducible refine LeO.ite ?_ ?_)
      | (with_reducible refine LeO.bind ?_ (fun _ => ?_))
      | exact ih0 _ _ _ _ _
      | exact ih1 _ _ _ _
      | exact ih2 _ _ _ _ _ _ _
      | exact event_reader_next.mono _ _ _ _
      | exact LeO.none _
      | refine LeO.ite ?_ ?_
      | refine LeO.bind ?_ (fun _ => ?_)
    · intro y0 y1 y2 y3 y4 y5 y6
      unfold event_reader_list.l0
      repeat' first
      | (with_reducible exact ih0 _ _ _ _ _)
      | (with_reducible exact ih1 _ _ _ _)
      | (with_reducible exact ih2 _ _ _ _ _ _ _)
      | (with_reducible exact event_reader_next.mono _ _ _ _)
      | (with_reducible exact LeO.refl _)
      | (with_reducible exact LeO.none _)
      | (with_reducible refine LeO.ite ?_ ?_)
      | (with_reducible refine LeO.bind ?_ (fun _ => ?_))
      | exact ih0 _ _ _ _ _
      | exact ih1 _ _ _ _
      | exact ih2 _ _ _ _ _ _ _
      | exact event_reader_next.mono _ _ _ _
      | exact LeO.none _
      | refine LeO.ite ?_ ?_
      | refine LeO.bind ?_ (fun _ => ?_)
theorem event_reader_list.mono : ∀ a0 a1 a2 k, LeO (event_reader_list.f k a0 a1 a2) (event_reader_list.f (k + 1) a0 a1 a2) := by
  intro a0 a1 a2 k
  obtain ⟨ih0, ih1, ih2⟩ := event_reader_list.mono_l k
  unfold event_reader_list.f
  repeat' first
      | (with_reducible exact ih0 _ _ _ _ _)
      | (with_reducible exact ih1 _ _ _ _)
      | (with_reducible exact ih2 _ _ _ _ _ _ _)
      | (with_reducible exact event_reader_next.mono _ _ _ _)
      | (with_reducible exact LeO.refl _)
      | (with_reducible exact LeO.none _)
      | (with_reducible refine LeO.ite ?_ ?_)
      | (with_reducible refine LeO.bind ?_ (fun _ => ?_))
      | exact ih0 _ _ _ _ _
      | exact ih1 _ _ _ _
      | exact ih2 _ _ _ _ _ _ _
      | exact event_reader_next.mono _ _ _ _
      | exact LeO.none _
      | refine LeO.ite ?_ ?_
      | refine LeO.bind ?_ (fun _ => ?_)
set_option maxHeartbeats 8000000 in
set_option maxRecDepth 100000 in
theorem event_reader_list.calls (k : Nat) (g : Nat) (s0_0 : List Int) (s0_1 : Int) (s0_2 : Int) (r1 : List Int) (r2 : Int) (r3 : Int) (w0 w : World) (hI : IsS88 w0 w g s0_0 s0_1 s0_2) (hB : Below w0.heap.size w0 w) (h : event_reader_list.f k s0_0 s0_1 s0_2 = some (r1, r2, r3)) :
    Calls Try.prog 43 #[.pointer (some ⟨g, 0, none⟩)] w fun e w' => ∃ v0_ : Value, e = .returned (v0_) ∧ Kd.R (Kd.int .i64) 3 w' w.heap.size (fun _ => True) v0_ r1 ∧ IsS88 w0 w' g s0_0 r2 r3 ∧ Below w0.heap.size w0 w' ∧ KeepBut w w' g none := by
  have HI0 := Aside0.mk hI
  have HK := Aside0.mk (KeepBut.refl w g none)
  have HL := Aside0.mk hB.size
  clear hI
  have HW0 := Aside0.mk hB.size
  have HB := Aside0.mk hB
  clear hB
  have H : ((event_reader_next.f k s0_0 s0_1 s0_2).bind fun bt116 => (if bt116.2.2 = 0 then (if bt116.1 < 0 then (event_reader_list.j0 k bt116.1 true s0_0 bt116.2.1 bt116.2.2) else (event_reader_list.j0 k bt116.1 (decide (bt116.1 > 400)) s0_0 bt116.2.1 bt116.2.2)) else (event_reader_list.j0 k bt116.1 false s0_0 bt116.2.1 bt116.2.2))) = some (r1, r2, r3) := h
  clear h
  replace H := Option.bind_eq_some_iff.mp H
  obtain ⟨⟨t116, t117, t118⟩, A20, H⟩ := H
  replace H : (if t118 = 0 then (if t116 < 0 then (event_reader_list.j0 k t116 true s0_0 t117 t118) else (event_reader_list.j0 k t116 (decide (t116 > 400)) s0_0 t117 t118)) else (event_reader_list.j0 k t116 false s0_0 t117 t118)) = some (r1, r2, r3) := H
  have A2 := Aside0.mk A20
  clear A20
  have HC3 := Aside0.mk H
  clear H
  go_enter Try.func43, Try.ntmps43
  go_upto_region 2 with (first | ((with_reducible refine gate_callee (f := 42) rfl ?_); refine goesL_ (some 8) rfl rfl Try.func42 (by kernel_rfl) rfl #[.pointer (some ⟨g, 0, none⟩)] rfl (by (try simp only [List.map_toArray, List.map_cons, List.map_nil]); first | done | rfl | (simp only [List.length_drop, List.length_take]; rfl)) ?_; (with_reducible refine (event_reader_next.calls k g s0_0 s0_1 s0_2 t116 t117 t118 w0 _ ?side1 ?side2 A2.out).mono ?_); (case side1 => repeat (first | (with_reducible first | exact HI0.out | apply IsS88.alloc | apply IsS88.drewN | apply IsS88.drew | apply IsS88.set_1 | apply IsS88.set_2) | exact HI0.out)); (case side2 => repeat (first | (with_reducible first | exact HB.out | apply below_alloc | apply pw_below_drewN | apply below_drew1 | refine below_set ?_ (IsS88.ge HI0.out)) | exact HB.out)); rintro e w4 ⟨rfl, hi, hb, hk⟩; refine ⟨_, rfl, ?_⟩; have n0_ := Aside0.mk (KeepBut.trans (by repeat (first | (with_reducible first | exact HK.out | apply KeepBut.set_ | apply keep_drewN | apply keep_drew | apply keep_alloc) | exact HK.out)) hk (.inl rfl)); have n1_ := Aside0.mk (hb); have n2_ := Aside0.mk (hi); clear HK; clear HB; clear HI0; have HK := n0_; have HB := n1_; have HI0 := n2_; clear n0_ n1_ n2_; (try clear hb); (try clear hb2); (try clear hk); (try clear hi)))
  (try simp only [Act.put, List.setIfInBounds_toArray, List.set_cons_zero, List.set_cons_succ])
  go_cut [21] (fun v21 wc => ∃ (kq : Nat) (x21_2 : Bool), v21 = .bool x21_2 ∧ Aside0 (event_reader_list.j0 kq t116 x21_2 s0_0 t117 t118 = some (r1, r2, r3)) ∧ Aside0 (kq ≤ k) ∧ Aside0 (IsS88 w0 wc g s0_0 t117 t118) ∧ Aside0 (KeepBut w wc g none) ∧ Aside0 (Below w0.heap.size w0 wc))
  case first =>
    have H := HC3.out
    clear HC3
    by_cases c5 : t118 = 0
    · rw [if_pos c5] at H
      have c5b0 : (t118 == 0) = true := beq_iff_eq.mpr c5
      have c5b1 : (t118 != 0) = false := bne_eq_false_iff_eq.mpr c5
      clear c5
      (first | rw [c5b0] | (simp only [i64_w, i32_w]; rw [c5b0]) | skip)
      by_cases c6 : t116 < 0
      · rw [if_pos c6] at H
        have c6b0 : decide (t116 < 0) = true := decide_eq_true c6
        clear c6
        have H' := Aside0.mk H
        clear H
        obtain ⟨ASz7_0, cSz7_0, HGz7, hgz7, ⟨HSz7_0, _⟩⟩ := HI0.out
        have hcz7_0 := cellS88_0 HGz7
        have hcz7_1 := cellS88_1 HGz7
        have hcz7_2 := cellS88_2 HGz7
        have hfz7_1 := blk_frozen HGz7 1
        have hfz7_2 := blk_frozen HGz7 2
        clear HGz7 hgz7
        go_wp2
        go_meet
        case rel => exact ⟨_, (true), (by first | rfl | (simp; done) | (simp [*]; done)), H', ⟨by first | omega | exact Nat.le_refl _⟩, ⟨by repeat (first | (with_reducible first | exact HI0.out | apply IsS88.alloc | apply IsS88.drewN | apply IsS88.drew | apply IsS88.set_1 | apply IsS88.set_2) | exact HI0.out)⟩, ⟨by repeat (first | (with_reducible first | exact HK.out | apply KeepBut.set_ | apply keep_drewN | apply keep_drew | apply keep_alloc) | exact HK.out)⟩, ⟨by repeat (first | (with_reducible first | exact HB.out | apply below_alloc | apply pw_below_drewN | apply below_drew1 | refine below_set ?_ (IsS88.ge HI0.out)) | exact HB.out)⟩⟩
      · rw [if_neg c6] at H
        have c6b0 : decide (t116 < 0) = false := decide_eq_false c6
        clear c6
        have H' := Aside0.mk H
        clear H
        obtain ⟨ASz8_0, cSz8_0, HGz8, hgz8, ⟨HSz8_0, _⟩⟩ := HI0.out
        have hcz8_0 := cellS88_0 HGz8
        have hcz8_1 := cellS88_1 HGz8
        have hcz8_2 := cellS88_2 HGz8
        have hfz8_1 := blk_frozen HGz8 1
        have hfz8_2 := blk_frozen HGz8 2
        clear HGz8 hgz8
        go_wp2
        go_meet
        case rel => exact ⟨_, (decide (t116 > 400)), (by first | rfl | (simp; done) | (simp [*]; done)), H', ⟨by first | omega | exact Nat.le_refl _⟩, ⟨by repeat (first | (with_reducible first | exact HI0.out | apply IsS88.alloc | apply IsS88.drewN | apply IsS88.drew | apply IsS88.set_1 | apply IsS88.set_2) | exact HI0.out)⟩, ⟨by repeat (first | (with_reducible first | exact HK.out | apply KeepBut.set_ | apply keep_drewN | apply keep_drew | apply keep_alloc) | exact HK.out)⟩, ⟨by repeat (first | (with_reducible first | exact HB.out | apply below_alloc | apply pw_below_drewN | apply below_drew1 | refine below_set ?_ (IsS88.ge HI0.out)) | exact HB.out)⟩⟩
    · rw [if_neg c5] at H
      have c5b0 : (t118 == 0) = false := beq_eq_false_iff_ne.mpr c5
      have c5b1 : (t118 != 0) = true := bne_iff_ne.mpr c5
      (first | rw [c5b0] | (simp only [i64_w, i32_w]; rw [c5b0]) | skip)
      have H' := Aside0.mk H
      clear H
      obtain ⟨ASz9_0, cSz9_0, HGz9, hgz9, ⟨HSz9_0, _⟩⟩ := HI0.out
      have hcz9_0 := cellS88_0 HGz9
      have hcz9_1 := cellS88_1 HGz9
      have hcz9_2 := cellS88_2 HGz9
      have hfz9_1 := blk_frozen HGz9 1
      have hfz9_2 := blk_frozen HGz9 2
      clear HGz9 hgz9
      go_wp2
      go_meet
      case rel => exact ⟨_, (false), (by first | rfl | (simp; done) | (simp [*]; done)), H', ⟨by first | omega | exact Nat.le_refl _⟩, ⟨by repeat (first | (with_reducible first | exact HI0.out | apply IsS88.alloc | apply IsS88.drewN | apply IsS88.drew | apply IsS88.set_1 | apply IsS88.set_2) | exact HI0.out)⟩, ⟨by repeat (first | (with_reducible first | exact HK.out | apply KeepBut.set_ | apply keep_drewN | apply keep_drew | apply keep_alloc) | exact HK.out)⟩, ⟨by repeat (first | (with_reducible first | exact HB.out | apply below_alloc | apply pw_below_drewN | apply below_drew1 | refine below_set ?_ (IsS88.ge HI0.out)) | exact HB.out)⟩⟩
  case rest =>
    clear HC3
    try clear p2
    try clear c4
    try clear c5
    try clear c5b0
    try clear c5b1
    try clear c6
    try clear c6b0
    try clear hcz7_0
    try clear hcz7_1
    try clear hcz7_2
    try clear hcz8_0
    try clear hcz8_1
    try clear hcz8_2
    try clear hcz9_0
    try clear hcz9_1
    try clear hcz9_2
    try clear hfz7_1
    try clear hfz7_2
    try clear hfz8_1
    try clear hfz8_2
    try clear hfz9_1
    try clear hfz9_2
    obtain ⟨kq, x21_2, rfl, HA, HJ2, HI0, HK, HB⟩ := hcut
    cases kq with
    | zero => exact absurd HA.out (by simp [event_reader_list.j0])
    | succ kj2 =>
      have H := HA.out
      clear HA
      simp only [event_reader_list.j0] at H
      have HC10 := Aside0.mk H
      clear H
      go_upto_if 21 with (fail)
      go_cut [] (fun wc => ∃ (kq : Nat) (x1002_9 : Int), Aside0 (event_reader_list.j1 kq t116 s0_0 t117 x1002_9 = some (r1, r2, r3)) ∧ Aside0 (kq ≤ kj2) ∧ Aside0 (IsS88 w0 wc g s0_0 t117 x1002_9) ∧ Aside0 (KeepBut w wc g none) ∧ Aside0 (Below w0.heap.size w0 wc))
      case first =>
        have H := HC10.out
        clear HC10
        by_cases c11 : x21_2 = true
        · subst c11
          have H1 : (event_reader_list.j1 kj2 t116 s0_0 t117 11) = some (r1, r2, r3) := by rw [if_pos rfl] at H; exact H
          clear H
          have H := H1
          clear H1
          have H' := Aside0.mk H
          clear H
          obtain ⟨ASz12_0, cSz12_0, HGz12, hgz12, ⟨HSz12_0, _⟩⟩ := HI0.out
          have hcz12_0 := cellS88_0 HGz12
          have hcz12_1 := cellS88_1 HGz12
          have hcz12_2 := cellS88_2 HGz12
          have hfz12_1 := blk_frozen HGz12 1
          have hfz12_2 := blk_frozen HGz12 2
          clear HGz12 hgz12
          go_wp2
          go_meet
          case rel => exact ⟨_, (11), H', ⟨by have := HJ2.out; first | omega | exact Nat.le_refl _⟩, ⟨by repeat (first | (with_reducible first | exact HI0.out | apply IsS88.alloc | apply IsS88.drewN | apply IsS88.drew | apply IsS88.set_1 | apply IsS88.set_2) | exact HI0.out)⟩, ⟨by repeat (first | (with_reducible first | exact HK.out | apply KeepBut.set_ | apply keep_drewN | apply keep_drew | apply keep_alloc) | exact HK.out)⟩, ⟨by repeat (first | (with_reducible first | exact HB.out | apply below_alloc | apply pw_below_drewN | apply below_drew1 | refine below_set ?_ (IsS88.ge HI0.out)) | exact HB.out)⟩⟩
        · replace c11 := Bool.eq_false_iff.mpr c11
          subst c11
          have H1 : (event_reader_list.j1 kj2 t116 s0_0 t117 t118) = some (r1, r2, r3) := by rw [if_neg (show ¬ (false = true) by decide)] at H; exact H
          clear H
          have H := H1
          clear H1
          have H' := Aside0.mk H
          clear H
          go_wp2
          go_meet
          case rel => exact ⟨_, (t118), H', ⟨by have := HJ2.out; first | omega | exact Nat.le_refl _⟩, ⟨by repeat (first | (with_reducible first | exact HI0.out | apply IsS88.alloc | apply IsS88.drewN | apply IsS88.drew | apply IsS88.set_1 | apply IsS88.set_2) | exact HI0.out)⟩, ⟨by repeat (first | (with_reducible first | exact HK.out | apply KeepBut.set_ | apply keep_drewN | apply keep_drew | apply keep_alloc) | exact HK.out)⟩, ⟨by repeat (first | (with_reducible first | exact HB.out | apply below_alloc | apply pw_below_drewN | apply below_drew1 | refine below_set ?_ (IsS88.ge HI0.out)) | exact HB.out)⟩⟩
      case rest =>
        clear HC10
        try clear c1
        try clear p2
        try clear c4
        try clear c5
        try clear c5b0
        try clear c5b1
        try clear c6
        try clear c6b0
        try clear c11
        try clear hcz12_0
        try clear hcz12_1
        try clear hcz12_2
        try clear hcz7_0
        try clear hcz7_1
        try clear hcz7_2
        try clear hcz8_0
        try clear hcz8_1
        try clear hcz8_2
        try clear hcz9_0
        try clear hcz9_1
        try clear hcz9_2
        try clear hfz12_1
        try clear hfz12_2
        try clear hfz7_1
        try clear hfz7_2
        try clear hfz8_1
        try clear hfz8_2
        try clear hfz9_1
        try clear hfz9_2
        try clear p2
        obtain ⟨kq, x1002_9, HA, HJ9, HI0, HK, HB⟩ := hcut
        cases kq with
        | zero => exact absurd HA.out (by simp [event_reader_list.j1])
        | succ kj9 =>
          have H := HA.out
          clear HA
          simp only [event_reader_list.j1] at H
          have H' := Aside0.mk H
          clear H
          go_wp2
          go_loopg [4, 5, 6] kj9 (fun kq v4 v5 v6 w' => ∃ (x4_3 : List Int) (x5_3 : Int) (x6_3 : Int) (x1001_3 : Int) (x1002_3 : Int), v5 = .int .i64 x5_3 ∧ v6 = .int .i64 x6_3 ∧ Aside0 (event_reader_list.l0 kq t116 x4_3 x5_3 x6_3 s0_0 x1001_3 x1002_3 = some (r1, r2, r3)) ∧ Aside0 (kq ≤ kj9) ∧ Aside0 (Kd.R (Kd.int .i64) 3 w' w.heap.size (fun _ => True) v4 x4_3) ∧ Aside0 (IsS88 w0 w' g s0_0 x1001_3 x1002_3) ∧ Aside0 (KeepBut w w' g none) ∧ Aside0 (Below w0.heap.size w0 w'))
          case atStart => exact ⟨(([] : List Int)), (0), (0), (t117), (x1002_9), (by first | rfl | (simp; done) | (simp [*]; done)), (by first | rfl | (simp; done) | (simp [*]; done)), H', ⟨Nat.le_refl _⟩, ⟨by first | exact Kd.R_nil _ _ _ _ _ | exact Kd.N_nil _ _ _ _ _ | exact Kd.V_nil _ _ _ _ _ | exact Kd.Q_nil _ _ _ _ _ | exact Kd.S_nil _ _ _ _ _⟩, ⟨by repeat (first | (with_reducible first | exact HI0.out | apply IsS88.alloc | apply IsS88.drewN | apply IsS88.drew | apply IsS88.set_1 | apply IsS88.set_2) | exact HI0.out)⟩, ⟨by repeat (first | (with_reducible first | exact HK.out | apply KeepBut.set_ | apply keep_drewN | apply keep_drew | apply keep_alloc) | exact HK.out)⟩, ⟨by repeat (first | (with_reducible first | exact HB.out | apply below_alloc | apply pw_below_drewN | apply below_drew1 | refine below_set ?_ (IsS88.ge HI0.out)) | exact HB.out)⟩⟩
          case round =>
            clear H'
            try clear c1
            try clear p2
            try clear c4
            try clear c5
            try clear c5b0
            try clear c5b1
            try clear c6
            try clear c6b0
            try clear c11
            try clear hcz12_0
            try clear hcz12_1
            try clear hcz12_2
            try clear hcz7_0
            try clear hcz7_1
            try clear hcz7_2
            try clear hcz8_0
            try clear hcz8_1
            try clear hcz8_2
            try clear hcz9_0
            try clear hcz9_1
            try clear hcz9_2
            try clear hfz12_1
            try clear hfz12_2
            try clear hfz7_1
            try clear hfz7_2
            try clear hfz8_1
            try clear hfz8_2
            try clear hfz9_1
            try clear hfz9_2
            try clear p2
            obtain ⟨x4_3, x5_3, x6_3, x1001_3, x1002_3, rfl, rfl, HA, HK3, HO_4, HI0, HK, HB⟩ := hrel
            cases gk with
            | zero => exact absurd HA.out (by simp [event_reader_list.l0])
            | succ k3 =>
              have H := HA.out
              clear HA
              simp only [event_reader_list.l0] at H
              by_cases c13 : x6_3 < t116
              · rw [if_pos c13] at H
                have c13b0 : decide (x6_3 < t116) = true := decide_eq_true c13
                clear c13
                by_cases c14 : x1002_3 = 0
                · rw [if_pos c14] at H
                  have c14b0 : (x1002_3 == 0) = true := beq_iff_eq.mpr c14
                  have c14b1 : (x1002_3 != 0) = false := bne_eq_false_iff_eq.mpr c14
                  clear c14
                  replace H := Option.bind_eq_some_iff.mp H
                  obtain ⟨⟨t119, t120, t121⟩, A150, H⟩ := H
                  replace H : (if x4_3.length < 17592186044416 then (event_reader_list.l0 k3 t116 (x4_3 ++ [wrap64 (x5_3 + t119)]) (wrap64 (x5_3 + t119)) (wrap64 (x6_3 + 1)) s0_0 t120 t121) else (none)) = some (r1, r2, r3) := H
                  have A15 := Aside0.mk A150
                  clear A150
                  by_cases c16 : x4_3.length < 17592186044416
                  · rw [if_pos c16] at H
                    have LMc16 := Aside0.mk c16
                    clear c16
                    obtain ⟨y122, hy122⟩ : ∃ y_ : List Int, y_ = (x4_3 ++ [wrap64 (x5_3 + t119)]) := ⟨_, rfl⟩
                    replace H : (event_reader_list.l0 k3 t116 y122 (wrap64 (x5_3 + t119)) (wrap64 (x6_3 + 1)) s0_0 t120 t121) = some (r1, r2, r3) := by first | (rw [hy122]; with_reducible exact H) | (have H2_ := (Option.bind_some _ _).symm.trans H; rw [hy122]; with_reducible exact H2_) | (have H2_ := (Option.bind_some _ _).symm.trans H; with_reducible exact H2_) | with_reducible exact H | (rw [hy122]; exact H) | exact H
                    have Ny122 := Aside0.mk hy122
                    clear hy122
                    have H' := Aside0.mk H
                    clear H
                    obtain ⟨ASz17_0, cSz17_0, HGz17, hgz17, ⟨HSz17_0, _⟩⟩ := HI0.out
                    have hcz17_0 := cellS88_0 HGz17
                    have hcz17_1 := cellS88_1 HGz17
                    have hcz17_2 := cellS88_2 HGz17
                    have hfz17_1 := blk_frozen HGz17 1
                    have hfz17_2 := blk_frozen HGz17 2
                    clear HGz17 hgz17
                    go_wp2_with (first | ((with_reducible refine gate_callee (f := 42) rfl ?_); refine goesL_ (some 39) rfl rfl Try.func42 (by kernel_rfl) rfl #[.pointer (some ⟨g, 0, none⟩)] rfl (by (try simp only [List.map_toArray, List.map_cons, List.map_nil]); first | done | rfl | (simp only [List.length_drop, List.length_take]; rfl)) ?_; (with_reducible refine (event_reader_next.calls k3 g s0_0 x1001_3 x1002_3 t119 t120 t121 w0 _ ?side1 ?side2 A15.out).mono ?_); (case side1 => repeat (first | (with_reducible first | exact HI0.out | apply IsS88.alloc | apply IsS88.drewN | apply IsS88.drew | apply IsS88.set_1 | apply IsS88.set_2) | exact HI0.out)); (case side2 => repeat (first | (with_reducible first | exact HB.out | apply below_alloc | apply pw_below_drewN | apply below_drew1 | refine below_set ?_ (IsS88.ge HI0.out)) | exact HB.out)); rintro e w18 ⟨rfl, hi, hb, hk⟩; refine ⟨_, rfl, ?_⟩; have n0_ := Aside0.mk (Kd.R_mono (Kd.R_keep (IsS88.apart (show IsS88 w0 _ g s0_0 x1001_3 x1002_3 from by repeat (first | (with_reducible first | exact HI0.out | apply IsS88.alloc | apply IsS88.drewN | apply IsS88.drew | apply IsS88.set_1 | apply IsS88.set_2) | exact HI0.out)) (by (with_reducible repeat (first | apply Kd.R_alloc | apply Kd.R_drewN | apply Kd.R_drew)); exact HO_4.out) (by decide)) hk (fun _ h => h.2)) (fun _ h => h.1)); have n1_ := Aside0.mk (KeepBut.trans (by repeat (first | (with_reducible first | exact HK.out | apply KeepBut.set_ | apply keep_drewN | apply keep_drew | apply keep_alloc) | exact HK.out)) hk (.inl rfl)); have n2_ := Aside0.mk (hb); have n3_ := Aside0.mk (hi); clear HO_4; clear HK; clear HB; clear HI0; have HO_4 := n0_; have HK := n1_; have HB := n2_; have HI0 := n3_; clear n0_ n1_ n2_ n3_; (try clear hb); (try clear hb2); (try clear hk); (try clear hi)) | ((with_reducible refine gate_builtin (b := .append) (xs := #[.tmp 41, .tmp 43]) rfl ?_); at_builtin; refine Kd.R_append (Kd.int .i64) w.heap.size rfl (.tmp 41) (.tmp 43) 22 3 (.int .i64 0) 8 rfl Try.underlying22 info3 rfl (by decide) (by omega) u4 x4_3 (wrap64 (x5_3 + t119)) [.int .i64 (wrap64 (x5_3 + t119))] (fun _ => True) (fun _ => False) rfl rfl ?aP (fun _ hk => hk.elim) ?aF ?aO (Below.refl _ _) ?aS ?aL ?_; (case aP => exact rfl); (case aF => exact (fun _ _ => trivial)); (case aO => exact (by (with_reducible repeat (first | apply Kd.R_alloc | apply Kd.R_drewN | apply Kd.R_drew)); exact HO_4.out)); (case aS => exact (keep_size (w := w) (g := g) (row := none) (by repeat (first | (with_reducible first | exact HK.out | apply KeepBut.set_ | apply keep_drewN | apply keep_drew | apply keep_alloc) | exact HK.out)))); (case aL => have := LMc16.out; omega); intro v123 w19 ho hb hg hat; rw [← Ny122.out] at ho; have n0_ := Aside0.mk (IsS88.grown (by repeat (first | (with_reducible first | exact HI0.out | apply IsS88.alloc | apply IsS88.drewN | apply IsS88.drew | apply IsS88.set_1 | apply IsS88.set_2) | exact HI0.out)) hg (IsS88.own_ne HI0.out HO_4.out (by decide))); have n1_ := Aside0.mk (below_weaken (by repeat (first | (with_reducible first | exact HB.out | apply below_alloc | apply pw_below_drewN | apply below_drew1 | refine below_set ?_ (IsS88.ge HI0.out)) | exact HB.out)) HL.out hb); have n2_ := Aside0.mk (KeepBut.trans (by repeat (first | (with_reducible first | exact HK.out | apply KeepBut.set_ | apply keep_drewN | apply keep_drew | apply keep_alloc) | exact HK.out)) (KeepBut.of_grown hg g) (Kd.R_base2 HO_4.out)); have n3_ := Aside0.mk (ho); clear HI0; clear HB; clear HK; clear HO_4; have HI0 := n0_; have HB := n1_; have HK := n2_; have HO124 := n3_; clear n0_ n1_ n2_ n3_; clear ho hb hg hat))
                    go_roundg k3
                    case measure => have := HJ2.out; have := HJ9.out; have := HK3.out; omega
                    case rel => exact ⟨(y122), (wrap64 (x5_3 + t119)), (wrap64 (x6_3 + 1)), (t120), (t121), (by first | rfl | (simp; done) | (simp [*]; done)), (by first | rfl | (simp; done) | (simp [*]; done)), H', ⟨by have := HJ2.out; have := HJ9.out; have := HK3.out; omega⟩, ⟨by (with_reducible repeat (first | apply Kd.R_alloc | apply Kd.R_drewN | apply Kd.R_drew)); exact HO124.out⟩, ⟨by repeat (first | (with_reducible first | exact HI0.out | apply IsS88.alloc | apply IsS88.drewN | apply IsS88.drew | apply IsS88.set_1 | apply IsS88.set_2) | exact HI0.out)⟩, ⟨by repeat (first | (with_reducible first | exact HK.out | apply KeepBut.set_ | apply keep_drewN | apply keep_drew | apply keep_alloc) | exact HK.out)⟩, ⟨by repeat (first | (with_reducible first | exact HB.out | apply below_alloc | apply pw_below_drewN | apply below_drew1 | refine below_set ?_ (IsS88.ge HI0.out)) | exact HB.out)⟩⟩
                  · rw [if_neg c16] at H
                    exact absurd H (by simp)
                · rw [if_neg c14] at H
                  have c14b0 : (x1002_3 == 0) = false := beq_eq_false_iff_ne.mpr c14
                  have c14b1 : (x1002_3 != 0) = true := bne_iff_ne.mpr c14
                  simp only [Option.some.injEq, Prod.mk.injEq] at H
                  obtain ⟨rfl, rfl, rfl⟩ := H
                  obtain ⟨ASz20_0, cSz20_0, HGz20, hgz20, ⟨HSz20_0, _⟩⟩ := HI0.out
                  have hcz20_0 := cellS88_0 HGz20
                  have hcz20_1 := cellS88_1 HGz20
                  have hcz20_2 := cellS88_2 HGz20
                  have hfz20_1 := blk_frozen HGz20 1
                  have hfz20_2 := blk_frozen HGz20 2
                  clear HGz20 hgz20
                  go_wp2
                  go_ret
                  exact ⟨_, by first | rfl | (simp [errW_none, errW_some] <;> rfl) | (simp [*, errW_none, errW_some] <;> rfl), by (with_reducible repeat (first | apply Kd.R_alloc | apply Kd.R_drewN | apply Kd.R_drew)); exact HO_4.out, by repeat (first | (with_reducible first | exact HI0.out | apply IsS88.alloc | apply IsS88.drewN | apply IsS88.drew | apply IsS88.set_1 | apply IsS88.set_2) | exact HI0.out), by repeat (first | (with_reducible first | exact HB.out | apply below_alloc | apply pw_below_drewN | apply below_drew1 | refine below_set ?_ (IsS88.ge HI0.out)) | exact HB.out), by repeat (first | (with_reducible first | exact HK.out | apply KeepBut.set_ | apply keep_drewN | apply keep_drew | apply keep_alloc) | exact HK.out)⟩
              · rw [if_neg c13] at H
                have c13b0 : decide (x6_3 < t116) = false := decide_eq_false c13
                clear c13
                simp only [Option.some.injEq, Prod.mk.injEq] at H
                obtain ⟨rfl, rfl, rfl⟩ := H
                go_wp2
                go_ret
                exact ⟨_, by first | rfl | (simp [errW_none, errW_some] <;> rfl) | (simp [*, errW_none, errW_some] <;> rfl), by (with_reducible repeat (first | apply Kd.R_alloc | apply Kd.R_drewN | apply Kd.R_drew)); exact HO_4.out, by repeat (first | (with_reducible first | exact HI0.out | apply IsS88.alloc | apply IsS88.drewN | apply IsS88.drew | apply IsS88.set_1 | apply IsS88.set_2) | exact HI0.out), by repeat (first | (with_reducible first | exact HB.out | apply below_alloc | apply pw_below_drewN | apply below_drew1 | refine below_set ?_ (IsS88.ge HI0.out)) | exact HB.out), by repeat (first | (with_reducible first | exact HK.out | apply KeepBut.set_ | apply keep_drewN | apply keep_drew | apply keep_alloc) | exact HK.out)⟩
end Go.Proofs.Ytnmmkgagbfniiaa.A
end
