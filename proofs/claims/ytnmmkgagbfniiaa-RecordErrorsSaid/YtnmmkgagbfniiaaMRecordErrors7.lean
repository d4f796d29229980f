/- MRecordErrors7: texts of this session and of the kit's printer on the road to the statement RecordErrors, laid into one and rid of what it doesn't need. No condition beyond what each fact names. -/
import Derived.Test.YtnmmkgagbfniiaaMRecordErrors3
import Derived.Test.YtnmmkgagbfniiaaMRecordErrors2
import Derived.Test.YtnmmkgagbfniiaaMRecordErrors5
import Derived.Test.YtnmmkgagbfniiaaMRecordErrors6
section
namespace Go.Proofs.Ytnmmkgagbfniiaa.A
open Go.RowKit Go.Proofs.YtnmmkgagbfniiaaW.PrintWords Go.Proofs.YtnmmkgagbfniiaaW.PrintLast Go.Proofs.YtnmmkgagbfniiaaW.PrintMore
attribute [local go_sem] max2_int min2_int max_two min_two max_three min_three max_four min_four
set_option linter.unusedVariables false
set_option linter.unusedSimpArgs false
mutual
def j11_Match.l0 : Nat → List Int → Int → Int → Int → Int → Option (Int × Int)
 | 0, _, _, _, _, _ => none
 | k + 1, x0, x1, x6, x7, x8 => if x8 ≤ 255 then (j11_Match.j1 k x0 x1 x6 x7 x8 (decide (x8 ≤ x1))) else (j11_Match.j1 k x0 x1 x6 x7 x8 false)
def j11_Match.j1 : Nat → List Int → Int → Int → Int → Int → Bool → Option (Int × Int)
 | 0, _, _, _, _, _, _ => none
 | k + 1, x0, x1, x6, x7, x8, x16 => if x16 = true then (j11_Match.l1 k x0 x1 x6 x7 x8 0) else (if x6 < 3 then (some (0, 0)) else (some (x6, x7)))
def j11_Match.l1 : Nat → List Int → Int → Int → Int → Int → Int → Option (Int × Int)
 | 0, _, _, _, _, _, _ => none
 | k + 1, x0, x1, x6, x7, x8, x9 => if x9 < 130 then (if (wrap64 (x1 + x9)) < (x0.length : Int) then (if 0 ≤ (wrap64 (x1 + x9)) then (if 0 ≤ (wrap64 ((wrap64 (x1 + x9)) - x8)) then (if (wrap64 ((wrap64 (x1 + x9)) - x8)) < (x0.length : Int) then (if (rd x0 (wrap64 (x1 + x9))) = (rd x0 (wrap64 ((wrap64 (x1 + x9)) - x8))) then (j11_Match.l1 k x0 x1 x6 x7 x8 (wrap64 (x9 + 1))) else (if x9 > x6 then (j11_Match.l0 k x0 x1 x9 x8 (wrap64 (x8 + 1))) else (j11_Match.l0 k x0 x1 x6 x7 (wrap64 (x8 + 1))))) else (none)) else (none)) else (none)) else (if x9 > x6 then (j11_Match.l0 k x0 x1 x9 x8 (wrap64 (x8 + 1))) else (j11_Match.l0 k x0 x1 x6 x7 (wrap64 (x8 + 1))))) else (if x9 > x6 then (j11_Match.l0 k x0 x1 x9 x8 (wrap64 (x8 + 1))) else (j11_Match.l0 k x0 x1 x6 x7 (wrap64 (x8 + 1))))
end
def j11_Match.f (k : Nat) (l0 : List Int) (a1 : Int) : Option (Int × Int) := j11_Match.l0 k l0 a1 0 0 1
theorem j11_Match.mono_l : ∀ k, (∀ y0 y1 y2 y3 y4, LeO (j11_Match.l0 k y0 y1 y2 y3 y4) (j11_Match.l0 (k + 1) y0 y1 y2 y3 y4)) ∧ (∀ y0 y1 y2 y3 y4 y5, LeO (j11_Match.j1 k y0 y1 y2 y3 y4 y5) (j11_Match.j1 (k + 1) y0 y1 y2 y3 y4 y5)) ∧ (∀ y0 y1 y2 y3 y4 y5, LeO (j11_Match.l1 k y0 y1 y2 y3 y4 y5) (j11_Match.l1 (k + 1) y0 y1 y2 y3 y4 y5))
 | 0 => ⟨fun _ _ _ _ _ r h => by simp [j11_Match.l0] at h, fun _ _ _ _ _ _ r h => by simp [j11_Match.j1] at h, fun _ _ _ _ _ _ r h => by simp [j11_Match.l1] at h⟩
 | k + 1 => by
  obtain ⟨ih0, ih1, ih2⟩ := j11_Match.mono_l k
  refine ⟨?_, ?_, ?_⟩
  ·
   intro y0 y1 y2 y3 y4
   unfold j11_Match.l0
   exact zM
  ·
   intro y0 y1 y2 y3 y4 y5
   unfold j11_Match.j1
   exact zM
  ·
   intro y0 y1 y2 y3 y4 y5
   unfold j11_Match.l1
   exact zM
theorem j11_Match.mono : ∀ a0 a1 k, LeO (j11_Match.f k a0 a1) (j11_Match.f (k + 1) a0 a1) := by
 intro a0 a1 k
 obtain ⟨ih0, ih1, ih2⟩ := j11_Match.mono_l k
 unfold j11_Match.f
 exact zM
set_option maxHeartbeats 8000000 in
set_option maxRecDepth 100000 in
theorem j11_Match.calls (k : Nat) (A0 : Option Addr) (c0 : Nat) (l0 : List Int) (a1 : Int) (r1 : Int) (r2 : Int) (w : World) (hr0 : Kd.C (Kd.int .u8) w A0 l0.length l0) (hc0 : l0.length ≤ c0) (h : j11_Match.f k l0 a1 = some (r1, r2)) :
  Calls Try.prog 79 #[.slice A0 l0.length c0, .int .i64 a1] w fun e w' => e = .returned (.tuple #[.int .i64 r1, .int .i64 r2]) ∧ Drawn0 w w' := by
 have HR0 := am hr0
 have HC0 := am hc0
 clear hr0 hc0
 have H : (j11_Match.l0 k l0 a1 0 0 1) = some (r1, r2) := h
 clear h
 have H' := am H
 clear H
 go_enter Try.func79, Try.ntmps79
 go_wp2
 repeat (go_quiet (fail); try go_wp2)
 go_loopg [6, 7, 8] k (fun kq v6 v7 v8 w' => ∃ (x6_1 : Int) (x7_1 : Int) (x8_1 : Int), v6 = .int .i64 x6_1 ∧ v7 = .int .i64 x7_1 ∧ v8 = .int .i64 x8_1 ∧ Aside0 (j11_Match.l0 kq l0 a1 x6_1 x7_1 x8_1 = some (r1, r2)) ∧ Aside0 (kq ≤ k) ∧ Drawn0 w w')
 case atStart => exact ⟨(0), (0), (1), zr, zr, zr, H', ⟨Nat.le_refl _⟩, by repeat (first | exact Drawn0.refl _ | apply Drawn0.step)⟩
 case round =>
  clear H'
  try clear p2
  obtain ⟨x6_1, x7_1, x8_1, rfl, rfl, rfl, HA, HK1, ⟨m1, rfl⟩⟩ := hrel
  cases gk with
  | zero => exact absurd HA.out (by simp [j11_Match.l0])
  | succ k1 =>
   have H := HA.out
   clear HA
   simp only [j11_Match.l0] at H
   have HC3 := am H
   clear H
   go_upto_region 3 with (fail)
   repeat (go_quiet (fail); go_upto_region 3 with (fail))
   go_cut [16] (fun v16 wc => ∃ (kq : Nat) (x16_2 : Bool), v16 = .bool x16_2 ∧ Aside0 (j11_Match.j1 kq l0 a1 x6_1 x7_1 x8_1 x16_2 = some (r1, r2)) ∧ Aside0 (kq ≤ k1) ∧ Drawn0 w wc)
   case first =>
    have H := HC3.out
    clear HC3
    by_cases c4 : x8_1 ≤ 255
    ·
     rw [if_pos c4] at H
     have c4b0 := decide_eq_true c4
     clear c4
     (first | rw [c4b0] | (simp only [i64_w, i32_w]; rw [c4b0]) | skip)
     have H' := am H
     clear H
     go_wp2
     repeat (go_quiet (fail); try go_wp2)
     go_meet
     case rel => exact ⟨_, (decide (x8_1 ≤ a1)), zr, H', ⟨by have := HK1.out; first | omega | exact Nat.le_refl _⟩, by repeat (first | exact Drawn0.refl _ | apply Drawn0.step)⟩
    ·
     rw [if_neg c4] at H
     have c4b0 := decide_eq_false c4
     clear c4
     (first | rw [c4b0] | (simp only [i64_w, i32_w]; rw [c4b0]) | skip)
     have H' := am H
     clear H
     go_wp2
     repeat (go_quiet (fail); try go_wp2)
     go_meet
     case rel => exact ⟨_, (false), zr, H', ⟨by have := HK1.out; first | omega | exact Nat.le_refl _⟩, by repeat (first | exact Drawn0.refl _ | apply Drawn0.step)⟩
   case rest =>
    clear HC3
    obtain ⟨kq, x16_2, rfl, HA, HJ2, ⟨mc2, rfl⟩⟩ := hcut
    cases kq with
    | zero => exact absurd HA.out (by simp [j11_Match.j1])
    | succ kj2 =>
     have H := HA.out
     clear HA
     simp only [j11_Match.j1] at H
     by_cases c5 : x16_2 = true
     ·
      subst c5
      have H1 : (j11_Match.l1 kj2 l0 a1 x6_1 x7_1 x8_1 0) = some (r1, r2) := by rw [if_pos rfl] at H; exact H
      clear H
      have H := H1
      clear H1
      have H' := am H
      clear H
      go_wp2
      repeat (go_quiet (fail); try go_wp2)
      go_loopg [9] kj2 (fun kq v9 w' => ∃ (x9_3 : Int), v9 = .int .i64 x9_3 ∧ Aside0 (j11_Match.l1 kq l0 a1 x6_1 x7_1 x8_1 x9_3 = some (r1, r2)) ∧ Aside0 (kq ≤ kj2) ∧ Drawn0 w w')
      case atStart => exact ⟨(0), zr, H', ⟨Nat.le_refl _⟩, by repeat (first | exact Drawn0.refl _ | apply Drawn0.step)⟩
      case round =>
       clear H'
       obtain ⟨x9_3, rfl, HA, HK3, ⟨m3, rfl⟩⟩ := hrel
       cases gk with
       | zero => exact absurd HA.out (by simp [j11_Match.l1])
       | succ k3 =>
        have H := HA.out
        clear HA
        simp only [j11_Match.l1] at H
        by_cases c6 : x9_3 < 130
        ·
         rw [if_pos c6] at H
         have c6b0 := decide_eq_true c6
         clear c6
         by_cases c7 : (wrap64 (a1 + x9_3)) < (l0.length : Int)
         ·
          rw [if_pos c7] at H
          have c7b0 := decide_eq_true c7
          clear c7
          obtain ⟨ji8, hji8⟩ : ∃ j_ : Int, (wrap64 (a1 + x9_3)) = j_ := ⟨_, rfl⟩
          (first | rw [hji8] at H | simp only [hji8] at H)
          (try rw [hji8] at c7b0)
          have hji8w : (IntKind.i64.wrap (a1 + x9_3)) = ji8 := (i64_w _).trans hji8
          by_cases c9 : 0 ≤ (ji8)
          ·
           rw [if_pos c9] at H
           have c9b0 := decide_eq_true c9
           clear c9
           obtain ⟨ji10, hji10⟩ : ∃ j_ : Int, (wrap64 ((ji8) - x8_1)) = j_ := ⟨_, rfl⟩
           (first | rw [hji10] at H | simp only [hji10] at H)
           have hji10w : (IntKind.i64.wrap ((ji8) - x8_1)) = ji10 := (i64_w _).trans hji10
           by_cases c11 : 0 ≤ (ji10)
           ·
            rw [if_pos c11] at H
            have c11b0 := decide_eq_true c11
            clear c11
            by_cases c12 : (ji10) < (l0.length : Int)
            ·
             rw [if_pos c12] at H
             have c12b0 := decide_eq_true c12
             clear c12
             by_cases c13 : (rd l0 (ji8)) = (rd l0 (ji10))
             ·
              rw [if_pos c13] at H
              obtain ⟨c13b0, c13b1⟩ := zt c13
              clear c13
              have H' := am H
              clear H
              have p354 : 0 ≤ ((ji8) : Int) := zo
              have q354 : (ji8) < (l0.length : Int) := zo
              obtain ⟨ad354, e354, hx354_0⟩ := Kd.at_int HR0.out (ji8) p354 q354
              cases e354
              replace p354 := eq_true p354
              replace q354 := eq_true q354
              have p355 : 0 ≤ ((ji10) : Int) := zo
              have q355 : (ji10) < (l0.length : Int) := zo
              obtain ⟨ad355, e355, hx355_0⟩ := Kd.at_int HR0.out (ji10) p355 q355
              obtain rfl : ad354 = ad355 := (by injection e355)
              replace p355 := eq_true p355
              replace q355 := eq_true q355
              go_wp2
              repeat (go_quiet (fail); try go_wp2)
              go_roundg k3
              case measure => have := HK1.out; have := HJ2.out; have := HK3.out; omega
              case rel => exact ⟨(wrap64 (x9_3 + 1)), zr, H', ⟨by have := HK1.out; have := HJ2.out; have := HK3.out; omega⟩, by repeat (first | exact Drawn0.refl _ | apply Drawn0.step)⟩
             ·
              rw [if_neg c13] at H
              obtain ⟨c13b0, c13b1⟩ := zs c13
              by_cases c14 : x9_3 > x6_1
              ·
               rw [if_pos c14] at H
               have c14b0 : decide (x6_1 < x9_3) = true := decide_eq_true c14
               clear c14
               have H' := am H
               clear H
               have p354 : 0 ≤ ((ji8) : Int) := zo
               have q354 : (ji8) < (l0.length : Int) := zo
               obtain ⟨ad354, e354, hx354_0⟩ := Kd.at_int HR0.out (ji8) p354 q354
               cases e354
               replace p354 := eq_true p354
               replace q354 := eq_true q354
               have p355 : 0 ≤ ((ji10) : Int) := zo
               have q355 : (ji10) < (l0.length : Int) := zo
               obtain ⟨ad355, e355, hx355_0⟩ := Kd.at_int HR0.out (ji10) p355 q355
               obtain rfl : ad354 = ad355 := (by injection e355)
               replace p355 := eq_true p355
               replace q355 := eq_true q355
               go_wp2
               repeat (go_quiet (fail); try go_wp2)
               go_roundg k3
               case measure => have := HK1.out; have := HJ2.out; have := HK3.out; omega
               case rel => exact y21
              ·
               rw [if_neg c14] at H
               have c14b0 : decide (x6_1 < x9_3) = false := decide_eq_false c14
               clear c14
               have H' := am H
               clear H
               have p354 : 0 ≤ ((ji8) : Int) := zo
               have q354 : (ji8) < (l0.length : Int) := zo
               obtain ⟨ad354, e354, hx354_0⟩ := Kd.at_int HR0.out (ji8) p354 q354
               cases e354
               replace p354 := eq_true p354
               replace q354 := eq_true q354
               have p355 : 0 ≤ ((ji10) : Int) := zo
               have q355 : (ji10) < (l0.length : Int) := zo
               obtain ⟨ad355, e355, hx355_0⟩ := Kd.at_int HR0.out (ji10) p355 q355
               obtain rfl : ad354 = ad355 := (by injection e355)
               replace p355 := eq_true p355
               replace q355 := eq_true q355
               go_wp2
               repeat (go_quiet (fail); try go_wp2)
               go_roundg k3
               case measure => have := HK1.out; have := HJ2.out; have := HK3.out; omega
               case rel => exact y22
            ·
             rw [if_neg c12] at H
             exact absurd H (by simp)
           ·
            rw [if_neg c11] at H
            exact absurd H (by simp)
          ·
           rw [if_neg c9] at H
           exact absurd H (by simp)
         ·
          rw [if_neg c7] at H
          have c7b0 := decide_eq_false c7
          clear c7
          by_cases c15 : x9_3 > x6_1
          ·
           rw [if_pos c15] at H
           have c15b0 : decide (x6_1 < x9_3) = true := decide_eq_true c15
           clear c15
           have H' := am H
           clear H
           go_wp2
           repeat (go_quiet (fail); try go_wp2)
           go_roundg k3
           case measure => have := HK1.out; have := HJ2.out; have := HK3.out; omega
           case rel => exact y21
          ·
           rw [if_neg c15] at H
           have c15b0 : decide (x6_1 < x9_3) = false := decide_eq_false c15
           clear c15
           have H' := am H
           clear H
           go_wp2
           repeat (go_quiet (fail); try go_wp2)
           go_roundg k3
           case measure => have := HK1.out; have := HJ2.out; have := HK3.out; omega
           case rel => exact y22
        ·
         rw [if_neg c6] at H
         have c6b0 := decide_eq_false c6
         clear c6
         by_cases c16 : x9_3 > x6_1
         ·
          rw [if_pos c16] at H
          have c16b0 : decide (x6_1 < x9_3) = true := decide_eq_true c16
          clear c16
          have H' := am H
          clear H
          go_wp2
          repeat (go_quiet (fail); try go_wp2)
          go_roundg k3
          case measure => have := HK1.out; have := HJ2.out; have := HK3.out; omega
          case rel => exact y21
         ·
          rw [if_neg c16] at H
          have c16b0 : decide (x6_1 < x9_3) = false := decide_eq_false c16
          clear c16
          have H' := am H
          clear H
          go_wp2
          repeat (go_quiet (fail); try go_wp2)
          go_roundg k3
          case measure => have := HK1.out; have := HJ2.out; have := HK3.out; omega
          case rel => exact y22
     ·
      replace c5 := Bool.eq_false_iff.mpr c5
      subst c5
      have H1 : (if x6_1 < 3 then (some (0, 0)) else (some (x6_1, x7_1))) = some (r1, r2) := by rw [if_neg (show ¬ (false = true) by decide)] at H; exact H
      clear H
      have H := H1
      clear H1
      by_cases c17 : x6_1 < 3
      ·
       rw [if_pos c17] at H
       have c17b0 := decide_eq_true c17
       clear c17
       simp only [Option.some.injEq, Prod.mk.injEq] at H
       obtain ⟨rfl, rfl⟩ := H
       go_wp2
       repeat (go_quiet (fail); try go_wp2)
       go_ret2
       exact y25
      ·
       rw [if_neg c17] at H
       have c17b0 := decide_eq_false c17
       clear c17
       simp only [Option.some.injEq, Prod.mk.injEq] at H
       obtain ⟨rfl, rfl⟩ := H
       go_wp2
       repeat (go_quiet (fail); try go_wp2)
       go_ret2
       exact y25
def j11_literal.f (l0 : List Int) (l1 : List Int) : Option (List Int) := if (l1.length : Int) = 0 then (some l0) else (if l0.length < 140737488355328 then ((some (l0 ++ [(wrap64 ((l1.length : Int) - 1)) % 256] : List Int)).bind fun y356 => (if y356.length + l1.length < 140737488355328 then (some (y356 ++ l1)) else (none))) else (none))
set_option maxHeartbeats 8000000 in
set_option maxRecDepth 100000 in
theorem j11_literal.calls (P0_ : Nat → Prop) (u9000_ : Value) (l0 : List Int) (A1 : Option Addr) (c1 : Nat) (l1 : List Int) (r : List Int) (w0 w : World) (hB : Below w0.heap.size w0 w) (ho0 : Kd.R (Kd.int .u8) 5 w w0.heap.size P0_ u9000_ l0) (hr1 : ∀ W_, Kept w W_ (fun k_ => P0_ k_) → Kd.C (Kd.int .u8) W_ A1 l1.length l1) (hc1 : l1.length ≤ c1) (h : j11_literal.f l0 l1 = some r) :
  Calls Try.prog 80 #[u9000_, .slice A1 l1.length c1] w fun e w' => ∃ v0_ : Value, e = .returned (v0_) ∧ Kd.R (Kd.int .u8) 5 w' w0.heap.size (fun k_ => (P0_ k_ ∨ w.heap.size ≤ k_)) v0_ r ∧ Below w0.heap.size w0 w' ∧ Kept w w' (fun k_ => P0_ k_) := by
 have HO0 := am (show Kd.R (Kd.int .u8) 5 w w0.heap.size (fun k_ => (P0_ k_ ∨ w.heap.size ≤ k_)) u9000_ l0 from Kd.R_mono ho0 (fun k_ hk => (.inl hk)))
 have HR1 := am hr1
 have HC1 := am hc1
 clear hr1 hc1
 have HK := am (Kept.refl w (fun k_ => P0_ k_))
 have HW0 := am hB.size
 have HB := am hB
 clear hB
 have H : (if (l1.length : Int) = 0 then (some l0) else (if l0.length < 140737488355328 then ((some (l0 ++ [(wrap64 ((l1.length : Int) - 1)) % 256] : List Int)).bind fun y356 => (if y356.length + l1.length < 140737488355328 then (some (y356 ++ l1)) else (none))) else (none))) = some r := h
 clear h
 by_cases c3 : (l1.length : Int) = 0
 ·
  rw [if_pos c3] at H
  obtain ⟨c3b0, c3b1⟩ := zt c3
  clear c3
  obtain rfl := Option.some.inj H
  go_enter Try.func80, Try.ntmps80
  go_wp2
  go_ret
  exact ⟨_, ze, by (with_reducible repeat (first | apply Kd.R_alloc | apply Kd.R_drewN | apply Kd.R_drew)); exact HO0.out, zb HB, by repeat (first | (with_reducible first | exact HK.out | apply Kept.alloc | apply Kept.drewN | apply Kept.drew) | exact HK.out)⟩
 ·
  rw [if_neg c3] at H
  obtain ⟨c3b0, c3b1⟩ := zs c3
  have c3b2 : ¬ (l1 = []) := fun h_ => c3 (by rw [h_]; rfl)
  by_cases c4 : l0.length < 140737488355328
  ·
   rw [if_pos c4] at H
   have LMc4 := am c4
   clear c4
   obtain ⟨y356, hy356⟩ : ∃ y_ : List Int, y_ = (l0 ++ [(wrap64 ((l1.length : Int) - 1)) % 256]) := ⟨_, rfl⟩
   replace H : (if y356.length + l1.length < 140737488355328 then (some (y356 ++ l1)) else (none)) = some r := by first | (rw [hy356]; with_reducible exact H) | (have H2_ := (Option.bind_some _ _).symm.trans H; rw [hy356]; with_reducible exact H2_) | (have H2_ := (Option.bind_some _ _).symm.trans H; with_reducible exact H2_) | with_reducible exact H | (rw [hy356]; exact H) | exact H
   have Ny356 := am hy356
   clear hy356
   by_cases c5 : y356.length + l1.length < 140737488355328
   ·
    rw [if_pos c5] at H
    have LMc5 := am c5
    clear c5
    obtain ⟨y359, hy359⟩ : ∃ y_ : List Int, y_ = (y356 ++ l1) := ⟨_, rfl⟩
    replace H : (some y359) = some r := by first | (rw [hy359]; with_reducible exact H) | (have H2_ := (Option.bind_some _ _).symm.trans H; rw [hy359]; with_reducible exact H2_) | (have H2_ := (Option.bind_some _ _).symm.trans H; with_reducible exact H2_) | with_reducible exact H | (rw [hy359]; exact H) | exact H
    have Ny359 := am hy359
    clear hy359
    obtain rfl := Option.some.inj H
    go_enter Try.func80, Try.ntmps80
    go_wp2_with (first | ((with_reducible refine gate_builtin (b := .append) (xs := #[.tmp 9, .tmp 14]) rfl ?_); at_builtin; refine Kd.R_append (Kd.int .u8) (w0 := w0) w0.heap.size rfl (.tmp 9) (.tmp 14) 27 5 (.int .u8 0) 1 rfl Try.underlying27 info5 rfl (by decide) (by omega) u9000_ l0 ((wrap64 ((l1.length : Int) - 1)) % 256) [.int .u8 ((wrap64 ((l1.length : Int) - 1)) % 256)] (fun k_ => (P0_ k_ ∨ w.heap.size ≤ k_)) (fun _ => False) rfl rfl ?aP (fun _ hk => hk.elim) ?aF ?aO ?aB ?aS ?aL ?_; (case aP => exact rfl); (case aB => exact (zb HB)); (case aF => exact y10); (case aO => exact (zR HO0.out)); (case aS => exact y28); (case aL => have := LMc4.out; omega); intro v357 w6 ho hb hg hat; rw [← Ny356.out] at ho; have n0_ := am (hb); have n1_ := am (Kept.of_grown (S := (fun k_ => P0_ k_)) hg y14 (fun k_ e_ => (HO0.out.1 k_ e_))); have n2_ := am (ho); clear HB; clear HK; clear HO0; have HB := n0_; have HK := n1_; have HO358 := n2_; clear n0_ n1_ n2_; clear ho hb hg hat) | ((with_reducible refine gate_builtin (b := .append) (xs := #[.tmp 16, .tmp 17]) rfl ?_); at_builtin; refine Kd.R_append_rows (Kd.int .u8) (w0 := w0) w0.heap.size rfl (.tmp 16) (.tmp 17) 27 5 (.int .u8 0) 1 rfl Try.underlying27 info5 rfl (by decide) (by omega) v357 y356 l1 _ _ _ (fun k_ => (P0_ k_ ∨ w.heap.size ≤ k_)) (fun _ => False) rfl rfl ?aO ?aR (fun _ _ h => h) (fun _ h => h.elim) ?aF ?aB ?aS ?aL ?_; (case aR => exact Kd.C_kept_now HR1.out y14); (case aB => exact (zb HB)); (case aF => exact y10); (case aO => exact (zR HO358.out)); (case aS => exact y28); (case aL => have := LMc5.out; omega); intro v360 w7 ho hb hg hat; rw [← Ny359.out] at ho; have n0_ := am (hb); have n1_ := am (Kept.of_grown (S := (fun k_ => P0_ k_)) hg y14 (fun k_ e_ => (HO358.out.1 k_ e_))); have n2_ := am (ho); clear HB; clear HK; clear HO358; have HB := n0_; have HK := n1_; have HO361 := n2_; clear n0_ n1_ n2_; clear ho hb hg hat))
    go_ret
    exact ⟨_, ze, by (with_reducible repeat (first | apply Kd.R_alloc | apply Kd.R_drewN | apply Kd.R_drew)); exact HO361.out, zb HB, by repeat (first | (with_reducible first | exact HK.out | apply Kept.alloc | apply Kept.drewN | apply Kept.drew) | exact HK.out)⟩
   ·
    rw [if_neg c5] at H
    exact absurd H (by simp)
  ·
   rw [if_neg c4] at H
   exact absurd H (by simp)
def j11_Pack.l0 : Nat → List Int → List Int → List Int → Int → Option (List Int)
 | 0, _, _, _, _ => none
 | k + 1, x0, x3, x4, x5 => if x5 < (x0.length : Int) then ((j11_Match.f k x0 x5).bind fun bt365 => (if bt365.1 > 0 then ((j11_literal.f x3 x4).bind fun t367 => ((some (([(wrap64 (bt365.1 + 125)) % 256, (bt365.2) % 256] : List Int) : List Int)).bind fun y370 => (if t367.length + y370.length < 140737488355328 then (j11_Pack.l0 k x0 (t367 ++ y370) ([] : List Int) (wrap64 (x5 + bt365.1))) else (none)))) else (if 0 ≤ x5 then (if x4.length < 140737488355328 then ((some (x4 ++ [rd x0 x5] : List Int)).bind fun y377 => (if (y377.length : Int) = 128 then ((j11_literal.f x3 y377).bind fun t380 => (j11_Pack.l0 k x0 t380 ([] : List Int) (wrap64 (x5 + 1)))) else (j11_Pack.l0 k x0 x3 y377 (wrap64 (x5 + 1))))) else (none)) else (none)))) else ((j11_literal.f x3 x4).bind fun t362 => (some t362))
def j11_Pack.f (k : Nat) (l0 : List Int) : Option (List Int) := j11_Pack.l0 k l0 ([] : List Int) ([] : List Int) 0
theorem j11_Pack.mono_l : ∀ k, (∀ y0 y1 y2 y3, LeO (j11_Pack.l0 k y0 y1 y2 y3) (j11_Pack.l0 (k + 1) y0 y1 y2 y3))
 | 0 => fun _ _ _ _ r h => by simp [j11_Pack.l0] at h
 | k + 1 => by
  have ih0 := j11_Pack.mono_l k
  ·
   intro y0 y1 y2 y3
   unfold j11_Pack.l0
   exact zM
theorem j11_Pack.mono : ∀ a0 k, LeO (j11_Pack.f k a0) (j11_Pack.f (k + 1) a0) := by
 intro a0 k
 have ih0 := j11_Pack.mono_l k
 unfold j11_Pack.f
 exact zM
set_option maxHeartbeats 8000000 in
set_option maxRecDepth 100000 in
theorem j11_Pack.calls (k : Nat) (A0 : Option Addr) (c0 : Nat) (l0 : List Int) (r : List Int) (w : World) (hr0 : Kd.C (Kd.int .u8) w A0 l0.length l0) (hc0 : l0.length ≤ c0) (h : j11_Pack.f k l0 = some r) :
  Calls Try.prog 55 #[.slice A0 l0.length c0] w fun e w' => ∃ v0_ : Value, e = .returned (v0_) ∧ Kd.R (Kd.int .u8) 5 w' w.heap.size (fun _ => True) v0_ r ∧ Below w.heap.size w w' := by
 have HR0 := am hr0
 have HC0 := am hc0
 clear hr0 hc0
 have HB := am (Below.refl w.heap.size w)
 have H : (j11_Pack.l0 k l0 ([] : List Int) ([] : List Int) 0) = some r := h
 clear h
 have H' := am H
 clear H
 go_enter Try.func55, Try.ntmps55
 go_wp2
 go_loopg [3, 4, 5] k (fun kq v3 v4 v5 w' => ∃ (x3_1 : List Int) (x4_1 : List Int) (x5_1 : Int), v5 = .int .i64 x5_1 ∧ Aside0 (j11_Pack.l0 kq l0 x3_1 x4_1 x5_1 = some r) ∧ Aside0 (kq ≤ k) ∧ Aside0 (Kd.R (Kd.int .u8) 5 w' w.heap.size (fun k_ => some k_ ≠ (v4 : Value).ownBlock) v3 x3_1) ∧ Aside0 (Kd.R (Kd.int .u8) 5 w' w.heap.size (fun k_ => some k_ ≠ (v3 : Value).ownBlock) v4 x4_1) ∧ Aside0 (Below w.heap.size w w'))
 case atStart => exact ⟨(([] : List Int)), (([] : List Int)), (0), zr, H', ⟨Nat.le_refl _⟩, ⟨by first | exact Kd.R_nil _ _ _ _ _ | exact Kd.N_nil _ _ _ _ _ | exact Kd.V_nil _ _ _ _ _ | exact Kd.Q_nil _ _ _ _ _ | exact Kd.S_nil _ _ _ _ _⟩, ⟨by first | exact Kd.R_nil _ _ _ _ _ | exact Kd.N_nil _ _ _ _ _ | exact Kd.V_nil _ _ _ _ _ | exact Kd.Q_nil _ _ _ _ _ | exact Kd.S_nil _ _ _ _ _⟩, ⟨zb HB⟩⟩
 case round =>
  clear H'
  obtain ⟨x3_1, x4_1, x5_1, rfl, HA, HK1, HO_3, HO_4, HB⟩ := hrel
  cases gk with
  | zero => exact absurd HA.out (by simp [j11_Pack.l0])
  | succ k1 =>
   have H := HA.out
   clear HA
   simp only [j11_Pack.l0] at H
   by_cases c2 : x5_1 < (l0.length : Int)
   ·
    rw [if_pos c2] at H
    have c2b0 := decide_eq_true c2
    clear c2
    replace H := Option.bind_eq_some_iff.mp H
    obtain ⟨⟨t365, t366⟩, A30, H⟩ := H
    (try dsimp only at H)
    have A3 := am A30
    clear A30
    by_cases c4 : t365 > 0
    ·
     rw [if_pos c4] at H
     have c4b0 : decide (0 < t365) = true := decide_eq_true c4
     clear c4
     replace H := Option.bind_eq_some_iff.mp H
     obtain ⟨t367, A50, H⟩ := H
     (try dsimp only at H)
     have A5 := am A50
     clear A50
     obtain ⟨y370, hy370⟩ : ∃ y_ : List Int, y_ = (([(wrap64 (t365 + 125)) % 256, (t366) % 256] : List Int)) := ⟨_, rfl⟩
     replace H : (if t367.length + y370.length < 140737488355328 then (j11_Pack.l0 k1 l0 (t367 ++ y370) ([] : List Int) (wrap64 (x5_1 + t365))) else (none)) = some r := by first | (rw [hy370]; with_reducible exact H) | (have H2_ := (Option.bind_some _ _).symm.trans H; rw [hy370]; with_reducible exact H2_) | (have H2_ := (Option.bind_some _ _).symm.trans H; with_reducible exact H2_) | with_reducible exact H | (rw [hy370]; exact H) | exact H
     have Ny370 := am hy370
     clear hy370
     by_cases c6 : t367.length + y370.length < 140737488355328
     ·
      rw [if_pos c6] at H
      have LMc6 := am c6
      clear c6
      obtain ⟨y373, hy373⟩ : ∃ y_ : List Int, y_ = (t367 ++ y370) := ⟨_, rfl⟩
      replace H : (j11_Pack.l0 k1 l0 y373 ([] : List Int) (wrap64 (x5_1 + t365))) = some r := by first | (rw [hy373]; with_reducible exact H) | (have H2_ := (Option.bind_some _ _).symm.trans H; rw [hy373]; with_reducible exact H2_) | (have H2_ := (Option.bind_some _ _).symm.trans H; with_reducible exact H2_) | with_reducible exact H | (rw [hy373]; exact H) | exact H
      have Ny373 := am hy373
      clear hy373
      have H' := am H
      clear H
      go_wp2_with (first | ((with_reducible refine gate_callee (f := 79) rfl ?_); refine goesL_ (some 15) rfl rfl Try.func79 (by kernel_rfl) rfl #[.slice A0 l0.length c0, .int .i64 x5_1] rfl zg ?_; (with_reducible refine (j11_Match.calls k1 _ _ l0 x5_1 t365 t366 _ ?side1 ?side2 A3.out).mono ?_); (case side1 => exact y43); (case side2 => exact HC0.out); rintro e w' ⟨rfl, ⟨nd, rfl⟩⟩; refine ⟨_, rfl, ?_⟩; obtain ⟨Ao7, co7, eo7⟩ := Kd.R_slice HO_3.out; subst eo7; obtain ⟨Ao8, co8, eo8⟩ := Kd.R_slice HO_4.out; subst eo8) | ((with_reducible refine gate_callee (f := 80) rfl ?_); refine goesL_ (some 22) rfl rfl Try.func80 (by kernel_rfl) rfl #[.slice Ao7 x3_1.length co7, .slice Ao8 x4_1.length co8] rfl zg ?_; (with_reducible refine (j11_literal.calls (fun k_ => some k_ = (.slice Ao7 x3_1.length co7 : Value).ownBlock) (.slice Ao7 x3_1.length co7) x3_1 _ _ x4_1 t367 w _ ?side1 ?side2 ?side3 ?side4 A5.out).mono ?_); (case side1 => exact y16); (case side2 => exact Kd.R_tight rfl HO_3.out); (case side3 => exact Kd.C_kept_own (HO_4.out) (fun k_ hk_ hs_ => (hk_) hs_)); (case side4 => exact (Kd.R_reads' HO_4.out).2.1); rintro e w9 ⟨v368, rfl, ho0, hb, hkp⟩; refine ⟨_, rfl, ?_⟩; have n0_ := am (Kd.R_mono (ok' := fun k_ => some k_ ≠ (v368 : Value).ownBlock) (Kd.R_keptB (HO_4.out) hkp (fun k_ hk_ hs_ => (hk_) hs_)) (fun k_ hk_ => fun e_ => Or.elim (ho0.1 k_ e_.symm) (fun hs_ => hk_.2.1 hs_) (fun hn_ => Nat.not_le.2 hk_.2.2 hn_))); have n1_ := am (Kd.R_mono (ok' := fun k_ => some k_ ≠ (.slice Ao8 x4_1.length co8 : Value).ownBlock) ho0 (fun k_ hk_ => Or.elim hk_ (fun hs_ => fun e_ => (((HO_4.out).1 k_ e_.symm)) hs_) (fun hn_ => (Kd.fresh' (Kd.R_lt (zR HO_4.out)) k_ hn_)))); have n2_ := am (hb); clear HO_4; clear HB; clear HO_3; have HO_4 := n0_; have HO369 := n1_; have HB := n2_; clear n0_ n1_ n2_; clear hb hkp ho0) | ((with_reducible refine gate_dst (N := 29) rfl ?_); refine Kd.R_lit (Kd.int .u8) _ 5 ?hg (N := 29) ?hd (xs := ([(wrap64 (t365 + 125)) % 256, (t366) % 256] : List Int)) (inner := [.int .u8 ((wrap64 (t365 + 125)) % 256), .int .u8 ((t366) % 256)]) (ok := fun _ => True) (okp := fun _ => True) ?hr ?hp (fun _ hk => hk) trivial (Below.refl _ _) (Nat.le_refl _) (by simp) ?_; (case hd => rfl); (case hg => rfl); (case hr => exact y6); (case hp => exact (Reps.one (show Kd.M (Kd.int .u8) _ _ _ ((wrap64 (t365 + 125)) % 256) [.int .u8 ((wrap64 (t365 + 125)) % 256)] from rfl) (Reps.one (show Kd.M (Kd.int .u8) _ _ _ ((t366) % 256) [.int .u8 ((t366) % 256)] from rfl) (Reps.none _ _)))); intro v371 w10 ho11 hb hg_ hnew_; clear hg_ hnew_; (first | rw [← Ny370.out] at ho11 | (simp only [Int.reduceToNat] at ho11; rw [← Ny370.out] at ho11)); have HO372 := am (Kd.R_lower (Kd.R_new' (Kd.R_new' ho11 (Kd.R_lt (zR HO_4.out))) (Kd.R_lt (zR HO369.out))) (below_size (zb HB))); replace HO_4 := am (Kd.R_elder' (zR HO_4.out) (Kd.R_base ho11) hb); replace HO369 := am (Kd.R_elder' (zR HO369.out) (Kd.R_base ho11) hb); replace HB := am (below_step (zb HB) hb); clear hb ho11; obtain ⟨Ao13, co13, eo13⟩ := Kd.R_slice HO372.out; subst eo13) | ((with_reducible refine gate_builtin (b := .append) (xs := #[.tmp 23, .tmp 29]) rfl ?_); at_builtin; refine Kd.R_append_rows (Kd.int .u8) (w0 := w) w.heap.size rfl (.tmp 23) (.tmp 29) 27 5 (.int .u8 0) 1 rfl Try.underlying27 info5 rfl (by decide) (by omega) v368 t367 y370 _ _ _ (fun k_ => some k_ ≠ (.slice Ao8 x4_1.length co8 : Value).ownBlock ∧ some k_ ≠ (.slice Ao13 y370.length co13 : Value).ownBlock) (fun _ => False) rfl rfl ?aO ?aR (fun _ _ h => h) (fun _ h => h.elim) ?aF ?aB ?aS ?aL ?_; (case aR => repeat (first | exact (Kd.R_reads' HO372.out).2.2 | (with_reducible refine Kd.C_alloc ?_ _) | (with_reducible refine Kd.C_drewN ?_ _) | (with_reducible refine Kd.C_drew ?_))); (case aB => exact (zb HB)); (case aF => exact (fun k_ hk => ⟨Kd.fresh' (Kd.R_lt (zR HO_4.out)) k_ hk, Kd.fresh' (Kd.R_lt (zR HO372.out)) k_ hk⟩)); (case aO => exact (zR HO369.out)); (case aS => exact y28); (case aL => have := LMc6.out; omega); intro v374 w12 ho hb hg hat; rw [← Ny373.out] at ho; have n0_ := am (Kd.R_after (ok := (fun k_ => some k_ ≠ (.slice Ao13 y370.length co13 : Value).ownBlock)) (by (with_reducible repeat (first | apply Kd.R_alloc | apply Kd.R_drewN | apply Kd.R_drew)); exact Kd.R_mono HO_4.out (fun _ hk => ⟨hk.2, hk.1⟩)) hg hat); have n1_ := am (Kd.R_after (ok := (fun k_ => some k_ ≠ (.slice Ao8 x4_1.length co8 : Value).ownBlock)) (by (with_reducible repeat (first | apply Kd.R_alloc | apply Kd.R_drewN | apply Kd.R_drew)); exact Kd.R_mono HO372.out (fun _ hk => ⟨hk.1.2, hk.2⟩)) hg hat); have n2_ := am (hb); have n3_ := am (ho); clear HO_4; clear HO372; clear HB; clear HO369; have HO_4 := n0_; have HO372 := n1_; have HB := n2_; have HO375 := n3_; clear n0_ n1_ n2_ n3_; clear ho hb hg hat))
      go_roundg k1
      case measure => have := HK1.out; omega
      case rel => exact ⟨(y373), (([] : List Int)), (wrap64 (x5_1 + t365)), zr, H', ⟨by have := HK1.out; omega⟩, ⟨by (with_reducible repeat (first | apply Kd.R_alloc | apply Kd.R_drewN | apply Kd.R_drew)); exact Kd.R_mono HO375.out (fun _ hk => (by simp [Value.ownBlock]))⟩, ⟨by first | exact Kd.R_nil _ _ _ _ _ | exact Kd.N_nil _ _ _ _ _ | exact Kd.V_nil _ _ _ _ _ | exact Kd.Q_nil _ _ _ _ _ | exact Kd.S_nil _ _ _ _ _⟩, ⟨zb HB⟩⟩
     ·
      rw [if_neg c6] at H
      exact absurd H (by simp)
    ·
     rw [if_neg c4] at H
     have c4b0 : decide (0 < t365) = false := decide_eq_false c4
     clear c4
     by_cases c14 : 0 ≤ x5_1
     ·
      rw [if_pos c14] at H
      have c14b0 := decide_eq_true c14
      clear c14
      by_cases c15 : x4_1.length < 140737488355328
      ·
       rw [if_pos c15] at H
       have LMc15 := am c15
       clear c15
       obtain ⟨y377, hy377⟩ : ∃ y_ : List Int, y_ = (x4_1 ++ [rd l0 x5_1]) := ⟨_, rfl⟩
       replace H : (if (y377.length : Int) = 128 then ((j11_literal.f x3_1 y377).bind fun t380 => (j11_Pack.l0 k1 l0 t380 ([] : List Int) (wrap64 (x5_1 + 1)))) else (j11_Pack.l0 k1 l0 x3_1 y377 (wrap64 (x5_1 + 1)))) = some r := by first | (rw [hy377]; with_reducible exact H) | (have H2_ := (Option.bind_some _ _).symm.trans H; rw [hy377]; with_reducible exact H2_) | (have H2_ := (Option.bind_some _ _).symm.trans H; with_reducible exact H2_) | with_reducible exact H | (rw [hy377]; exact H) | exact H
       have Ny377 := am hy377
       clear hy377
       by_cases c16 : (y377.length : Int) = 128
       ·
        rw [if_pos c16] at H
        obtain ⟨c16b0, c16b1⟩ := zt c16
        clear c16
        replace H := Option.bind_eq_some_iff.mp H
        obtain ⟨t380, A170, H⟩ := H
        (try dsimp only at H)
        have A17 := am A170
        clear A170
        have H' := am H
        clear H
        go_wp2_with (first | ((with_reducible refine gate_callee (f := 79) rfl ?_); refine goesL_ (some 15) rfl rfl Try.func79 (by kernel_rfl) rfl #[.slice A0 l0.length c0, .int .i64 x5_1] rfl zg ?_; (with_reducible refine (j11_Match.calls k1 _ _ l0 x5_1 t365 t366 _ ?side1 ?side2 A3.out).mono ?_); (case side1 => exact y43); (case side2 => exact HC0.out); rintro e w' ⟨rfl, ⟨nd, rfl⟩⟩; refine ⟨_, rfl, ?_⟩; have p376 : 0 ≤ (x5_1 : Int) := zo; have q376 : x5_1 < (l0.length : Int) := zo; obtain ⟨ad376, e376, hx376_0⟩ := Kd.at_int HR0.out x5_1 p376 q376; cases e376; replace hx376_0 := zx HB hx376_0; replace p376 := eq_true p376; replace q376 := eq_true q376) | ((with_reducible refine gate_builtin (b := .append) (xs := #[.tmp 34, .tmp 39]) rfl ?_); at_builtin; refine Kd.R_append (Kd.int .u8) (w0 := w) w.heap.size rfl (.tmp 34) (.tmp 39) 27 5 (.int .u8 0) 1 rfl Try.underlying27 info5 rfl (by decide) (by omega) u4 x4_1 (rd l0 x5_1) [.int .u8 (rd l0 x5_1)] (fun k_ => some k_ ≠ (u3 : Value).ownBlock) (fun _ => False) rfl rfl ?aP (fun _ hk => hk.elim) ?aF ?aO ?aB ?aS ?aL ?_; (case aP => exact rfl); (case aB => exact (zb HB)); (case aF => exact (fun k_ hk => Kd.fresh' (Kd.R_lt (zR HO_3.out)) k_ hk)); (case aO => exact (zR HO_4.out)); (case aS => exact y28); (case aL => have := LMc15.out; omega); intro v378 w18 ho hb hg hat; rw [← Ny377.out] at ho; have n0_ := am (Kd.R_after (ok := (fun _ => True)) y35 hg hat); have n1_ := am (hb); have n2_ := am (ho); clear HO_3; clear HB; clear HO_4; have HO_3 := n0_; have HB := n1_; have HO379 := n2_; clear n0_ n1_ n2_; clear ho hb hg hat; obtain ⟨Ao19, co19, eo19⟩ := Kd.R_slice HO379.out; subst eo19; obtain ⟨Ao20, co20, eo20⟩ := Kd.R_slice HO_3.out; subst eo20) | ((with_reducible refine gate_callee (f := 80) rfl ?_); refine goesL_ (some 48) rfl rfl Try.func80 (by kernel_rfl) rfl #[.slice Ao20 x3_1.length co20, .slice Ao19 y377.length co19] rfl zg ?_; (with_reducible refine (j11_literal.calls (fun k_ => some k_ = (.slice Ao20 x3_1.length co20 : Value).ownBlock) (.slice Ao20 x3_1.length co20) x3_1 _ _ y377 t380 w _ ?side1 ?side2 ?side3 ?side4 A17.out).mono ?_); (case side1 => exact y16); (case side2 => exact Kd.R_tight rfl HO_3.out); (case side3 => exact Kd.C_kept_own (HO379.out) (fun k_ hk_ hs_ => (hk_) hs_)); (case side4 => exact (Kd.R_reads' HO379.out).2.1); rintro e w21 ⟨v381, rfl, ho0, hb, hkp⟩; refine ⟨_, rfl, ?_⟩; have n0_ := am (Kd.R_mono (ok' := fun k_ => some k_ ≠ (v381 : Value).ownBlock) (Kd.R_keptB (HO379.out) hkp (fun k_ hk_ hs_ => (hk_) hs_)) (fun k_ hk_ => fun e_ => Or.elim (ho0.1 k_ e_.symm) (fun hs_ => hk_.2.1 hs_) (fun hn_ => Nat.not_le.2 hk_.2.2 hn_))); have n1_ := am (Kd.R_mono (ok' := fun k_ => some k_ ≠ (.slice Ao19 y377.length co19 : Value).ownBlock) ho0 (fun k_ hk_ => Or.elim hk_ (fun hs_ => fun e_ => (((HO379.out).1 k_ e_.symm)) hs_) (fun hn_ => (Kd.fresh' (Kd.R_lt (zR HO379.out)) k_ hn_)))); have n2_ := am (hb); clear HO379; clear HB; clear HO_3; have HO379 := n0_; have HO382 := n1_; have HB := n2_; clear n0_ n1_ n2_; clear hb hkp ho0))
        go_roundg k1
        case measure => have := HK1.out; omega
        case rel => exact ⟨(t380), (([] : List Int)), (wrap64 (x5_1 + 1)), zr, H', ⟨by have := HK1.out; omega⟩, ⟨by (with_reducible repeat (first | apply Kd.R_alloc | apply Kd.R_drewN | apply Kd.R_drew)); exact Kd.R_mono HO382.out (fun _ hk => (by simp [Value.ownBlock]))⟩, ⟨by first | exact Kd.R_nil _ _ _ _ _ | exact Kd.N_nil _ _ _ _ _ | exact Kd.V_nil _ _ _ _ _ | exact Kd.Q_nil _ _ _ _ _ | exact Kd.S_nil _ _ _ _ _⟩, ⟨zb HB⟩⟩
       ·
        rw [if_neg c16] at H
        obtain ⟨c16b0, c16b1⟩ := zs c16
        have H' := am H
        clear H
        go_wp2_with (first | ((with_reducible refine gate_callee (f := 79) rfl ?_); refine goesL_ (some 15) rfl rfl Try.func79 (by kernel_rfl) rfl #[.slice A0 l0.length c0, .int .i64 x5_1] rfl zg ?_; (with_reducible refine (j11_Match.calls k1 _ _ l0 x5_1 t365 t366 _ ?side1 ?side2 A3.out).mono ?_); (case side1 => exact y43); (case side2 => exact HC0.out); rintro e w' ⟨rfl, ⟨nd, rfl⟩⟩; refine ⟨_, rfl, ?_⟩; have p376 : 0 ≤ (x5_1 : Int) := zo; have q376 : x5_1 < (l0.length : Int) := zo; obtain ⟨ad376, e376, hx376_0⟩ := Kd.at_int HR0.out x5_1 p376 q376; cases e376; replace hx376_0 := zx HB hx376_0; replace p376 := eq_true p376; replace q376 := eq_true q376) | ((with_reducible refine gate_builtin (b := .append) (xs := #[.tmp 34, .tmp 39]) rfl ?_); at_builtin; refine Kd.R_append (Kd.int .u8) (w0 := w) w.heap.size rfl (.tmp 34) (.tmp 39) 27 5 (.int .u8 0) 1 rfl Try.underlying27 info5 rfl (by decide) (by omega) u4 x4_1 (rd l0 x5_1) [.int .u8 (rd l0 x5_1)] (fun k_ => some k_ ≠ (u3 : Value).ownBlock) (fun _ => False) rfl rfl ?aP (fun _ hk => hk.elim) ?aF ?aO ?aB ?aS ?aL ?_; (case aP => exact rfl); (case aB => exact (zb HB)); (case aF => exact (fun k_ hk => Kd.fresh' (Kd.R_lt (zR HO_3.out)) k_ hk)); (case aO => exact (zR HO_4.out)); (case aS => exact y28); (case aL => have := LMc15.out; omega); intro v378 w22 ho hb hg hat; rw [← Ny377.out] at ho; have n0_ := am (Kd.R_after (ok := (fun _ => True)) y35 hg hat); have n1_ := am (hb); have n2_ := am (ho); clear HO_3; clear HB; clear HO_4; have HO_3 := n0_; have HB := n1_; have HO379 := n2_; clear n0_ n1_ n2_; clear ho hb hg hat; obtain ⟨Ao23, co23, eo23⟩ := Kd.R_slice HO379.out; subst eo23))
        go_roundg k1
        case measure => have := HK1.out; omega
        case rel => exact ⟨(x3_1), (y377), (wrap64 (x5_1 + 1)), zr, H', ⟨by have := HK1.out; omega⟩, ⟨by (with_reducible repeat (first | apply Kd.R_alloc | apply Kd.R_drewN | apply Kd.R_drew)); exact Kd.R_mono HO_3.out (fun _ hk => hk.2)⟩, ⟨by (with_reducible repeat (first | apply Kd.R_alloc | apply Kd.R_drewN | apply Kd.R_drew)); exact HO379.out⟩, ⟨zb HB⟩⟩
      ·
       rw [if_neg c15] at H
       exact absurd H (by simp)
     ·
      rw [if_neg c14] at H
      exact absurd H (by simp)
   ·
    rw [if_neg c2] at H
    have c2b0 := decide_eq_false c2
    clear c2
    replace H := Option.bind_eq_some_iff.mp H
    obtain ⟨t362, A240, H⟩ := H
    (try dsimp only at H)
    have A24 := am A240
    clear A240
    obtain rfl := Option.some.inj H
    obtain ⟨Ao25, co25, eo25⟩ := Kd.R_slice HO_3.out
    subst eo25
    obtain ⟨Ao26, co26, eo26⟩ := Kd.R_slice HO_4.out
    subst eo26
    go_wp2_with (first | ((with_reducible refine gate_callee (f := 80) rfl ?_); refine goesL_ (some 51) rfl rfl Try.func80 (by kernel_rfl) rfl #[.slice Ao25 x3_1.length co25, .slice Ao26 x4_1.length co26] rfl zg ?_; (with_reducible refine (j11_literal.calls (fun k_ => some k_ = (.slice Ao25 x3_1.length co25 : Value).ownBlock) (.slice Ao25 x3_1.length co25) x3_1 _ _ x4_1 t362 w _ ?side1 ?side2 ?side3 ?side4 A24.out).mono ?_); (case side1 => exact y16); (case side2 => exact Kd.R_tight rfl HO_3.out); (case side3 => exact Kd.C_kept_own (HO_4.out) (fun k_ hk_ hs_ => (hk_) hs_)); (case side4 => exact (Kd.R_reads' HO_4.out).2.1); rintro e w27 ⟨v363, rfl, ho0, hb, hkp⟩; refine ⟨_, rfl, ?_⟩; have n0_ := am (Kd.R_mono (ok' := fun k_ => some k_ ≠ (v363 : Value).ownBlock) (Kd.R_keptB (HO_4.out) hkp (fun k_ hk_ hs_ => (hk_) hs_)) (fun k_ hk_ => fun e_ => Or.elim (ho0.1 k_ e_.symm) (fun hs_ => hk_.2.1 hs_) (fun hn_ => Nat.not_le.2 hk_.2.2 hn_))); have n1_ := am (Kd.R_mono (ok' := fun k_ => some k_ ≠ (.slice Ao26 x4_1.length co26 : Value).ownBlock) ho0 (fun k_ hk_ => Or.elim hk_ (fun hs_ => fun e_ => (((HO_4.out).1 k_ e_.symm)) hs_) (fun hn_ => (Kd.fresh' (Kd.R_lt (zR HO_4.out)) k_ hn_)))); have n2_ := am (hb); clear HO_4; clear HB; clear HO_3; have HO_4 := n0_; have HO364 := n1_; have HB := n2_; clear n0_ n1_ n2_; clear hb hkp ho0))
    go_ret
    exact ⟨_, ze, by (with_reducible repeat (first | apply Kd.R_alloc | apply Kd.R_drewN | apply Kd.R_drew)); exact Kd.R_mono HO364.out (fun _ hk => trivial), zb HB⟩
mutual
def j11_Sum.l0 : Nat → List Int → Int → Int → Option (Int)
 | 0, _, _, _ => none
 | k + 1, x0, x3, x4 => if x4 < (x0.length : Int) then (if 0 ≤ x4 then (j11_Sum.l1 k x0 (Go.bits .xor .u32 x3 ((rd x0 x4) % 4294967296)) x4 0) else (none)) else (some (Go.bits .xor .u32 x3 4294967295))
def j11_Sum.l1 : Nat → List Int → Int → Int → Int → Option (Int)
 | 0, _, _, _, _ => none
 | k + 1, x0, x3, x4, x5 => if x5 < 8 then (if (Go.bits .and .u32 x3 1) = 1 then (j11_Sum.l1 k x0 (Go.bits .xor .u32 (x3 / 2) 3988292384) x4 (wrap64 (x5 + 1))) else (j11_Sum.l1 k x0 (x3 / 2) x4 (wrap64 (x5 + 1)))) else (j11_Sum.l0 k x0 x3 (wrap64 (x4 + 1)))
end
def j11_Sum.f (k : Nat) (l0 : List Int) : Option (Int) := j11_Sum.l0 k l0 4294967295 0
theorem j11_Sum.mono_l : ∀ k, (∀ y0 y1 y2, LeO (j11_Sum.l0 k y0 y1 y2) (j11_Sum.l0 (k + 1) y0 y1 y2)) ∧ (∀ y0 y1 y2 y3, LeO (j11_Sum.l1 k y0 y1 y2 y3) (j11_Sum.l1 (k + 1) y0 y1 y2 y3))
 | 0 => ⟨fun _ _ _ r h => by simp [j11_Sum.l0] at h, fun _ _ _ _ r h => by simp [j11_Sum.l1] at h⟩
 | k + 1 => by
  obtain ⟨ih0, ih1⟩ := j11_Sum.mono_l k
  refine ⟨?_, ?_⟩
  ·
   intro y0 y1 y2
   unfold j11_Sum.l0
   exact zM
  ·
   intro y0 y1 y2 y3
   unfold j11_Sum.l1
   exact zM
theorem j11_Sum.mono : ∀ a0 k, LeO (j11_Sum.f k a0) (j11_Sum.f (k + 1) a0) := by
 intro a0 k
 obtain ⟨ih0, ih1⟩ := j11_Sum.mono_l k
 unfold j11_Sum.f
 exact zM
set_option maxHeartbeats 8000000 in
set_option maxRecDepth 100000 in
theorem j11_Sum.calls (k : Nat) (A0 : Option Addr) (c0 : Nat) (l0 : List Int) (r : Int) (w : World) (hr0 : Kd.C (Kd.int .u8) w A0 l0.length l0) (hc0 : l0.length ≤ c0) (h : j11_Sum.f k l0 = some r) :
  Calls Try.prog 56 #[.slice A0 l0.length c0] w fun e w' => e = .returned (.int .u32 r) ∧ Drawn0 w w' := by
 have HR0 := am hr0
 have HC0 := am hc0
 clear hr0 hc0
 have H : (j11_Sum.l0 k l0 4294967295 0) = some r := h
 clear h
 have H' := am H
 clear H
 go_enter Try.func56, Try.ntmps56
 go_wp2
 go_loopg [3, 4] k (fun kq v3 v4 w' => ∃ (x3_1 : Int) (x4_1 : Int), v3 = .int .u32 x3_1 ∧ v4 = .int .i64 x4_1 ∧ Aside0 (j11_Sum.l0 kq l0 x3_1 x4_1 = some r) ∧ Aside0 (kq ≤ k) ∧ Drawn0 w w')
 case atStart => exact ⟨(4294967295), (0), zr, zr, H', ⟨Nat.le_refl _⟩, by repeat (first | exact Drawn0.refl _ | apply Drawn0.step)⟩
 case round =>
  clear H'
  obtain ⟨x3_1, x4_1, rfl, rfl, HA, HK1, ⟨m1, rfl⟩⟩ := hrel
  cases gk with
  | zero => exact absurd HA.out (by simp [j11_Sum.l0])
  | succ k1 =>
   have H := HA.out
   clear HA
   simp only [j11_Sum.l0] at H
   by_cases c2 : x4_1 < (l0.length : Int)
   ·
    rw [if_pos c2] at H
    have c2b0 := decide_eq_true c2
    clear c2
    by_cases c3 : 0 ≤ x4_1
    ·
     rw [if_pos c3] at H
     have c3b0 := decide_eq_true c3
     clear c3
     have H' := am H
     clear H
     have p383 : 0 ≤ (x4_1 : Int) := zo
     have q383 : x4_1 < (l0.length : Int) := zo
     obtain ⟨ad383, e383, hx383_0⟩ := Kd.at_int HR0.out x4_1 p383 q383
     cases e383
     replace p383 := eq_true p383
     replace q383 := eq_true q383
     go_wp2
     go_loopg [3, 5] k1 (fun kq v3 v5 w' => ∃ (x3_2 : Int) (x5_2 : Int), v3 = .int .u32 x3_2 ∧ v5 = .int .i64 x5_2 ∧ Aside0 (j11_Sum.l1 kq l0 x3_2 x4_1 x5_2 = some r) ∧ Aside0 (kq ≤ k1) ∧ Drawn0 w w')
     case atStart => exact ⟨(Go.bits .xor .u32 x3_1 ((rd l0 x4_1) % 4294967296)), (0), zr, zr, H', ⟨Nat.le_refl _⟩, by repeat (first | exact Drawn0.refl _ | apply Drawn0.step)⟩
     case round =>
      clear H'
      obtain ⟨x3_2, x5_2, rfl, rfl, HA, HK2, ⟨m2, rfl⟩⟩ := hrel
      cases gk with
      | zero => exact absurd HA.out (by simp [j11_Sum.l1])
      | succ k2 =>
       have H := HA.out
       clear HA
       simp only [j11_Sum.l1] at H
       by_cases c4 : x5_2 < 8
       ·
        rw [if_pos c4] at H
        have c4b0 := decide_eq_true c4
        clear c4
        by_cases c5 : (Go.bits .and .u32 x3_2 1) = 1
        ·
         rw [if_pos c5] at H
         obtain ⟨c5b0, c5b1⟩ := zt c5
         clear c5
         have H' := am H
         clear H
         go_wp2
         go_roundg k2
         case measure => have := HK1.out; have := HK2.out; omega
         case rel => exact ⟨(Go.bits .xor .u32 (x3_2 / 2) 3988292384), (wrap64 (x5_2 + 1)), zr, zr, H', ⟨by have := HK1.out; have := HK2.out; omega⟩, by repeat (first | exact Drawn0.refl _ | apply Drawn0.step)⟩
        ·
         rw [if_neg c5] at H
         obtain ⟨c5b0, c5b1⟩ := zs c5
         have H' := am H
         clear H
         go_wp2
         go_roundg k2
         case measure => have := HK1.out; have := HK2.out; omega
         case rel => exact ⟨(x3_2 / 2), (wrap64 (x5_2 + 1)), zr, zr, H', ⟨by have := HK1.out; have := HK2.out; omega⟩, by repeat (first | exact Drawn0.refl _ | apply Drawn0.step)⟩
       ·
        rw [if_neg c4] at H
        have c4b0 := decide_eq_false c4
        clear c4
        have H' := am H
        clear H
        go_wp2
        go_roundg k2
        case measure => have := HK1.out; have := HK2.out; omega
        case rel => exact ⟨(x3_2), (wrap64 (x4_1 + 1)), zr, zr, H', ⟨by have := HK1.out; have := HK2.out; omega⟩, by repeat (first | exact Drawn0.refl _ | apply Drawn0.step)⟩
    ·
     rw [if_neg c3] at H
     exact absurd H (by simp)
   ·
    rw [if_neg c2] at H
    have c2b0 := decide_eq_false c2
    clear c2
    obtain rfl := Option.some.inj H
    go_wp2
    go_ret
    exact y25
def j11_Encode.f (k : Nat) (a0_0 : Int) (a0_1 : Int) (l0_2 : List (S26)) : Option (List Int × Int) := (j11_Fits.f k a0_0 a0_1 l0_2).bind fun t385 => (if t385 = 0 then ((j11_Payload.f k a0_0 a0_1 l0_2).bind fun t386 => ((j11_Pack.f k t386).bind fun t389 => ((j11_PutInt.f k (([84, (a0_0) % 256] : List Int)) a0_1).bind fun t395 => ((j11_PutInt.f k t395 (l0_2.length : Int)).bind fun t398 => ((j11_PutInt.f k t398 (t386.length : Int)).bind fun t401 => ((j11_PutInt.f k t401 (t389.length : Int)).bind fun t404 => (if t404.length + t389.length < 140737488355328 then ((some (t404 ++ t389 : List Int)).bind fun y407 => ((j11_Sum.f k y407).bind fun t410 => ((some (([(t410 / 16777216) % 256, (t410 / 65536) % 256, (t410 / 256) % 256, (t410) % 256] : List Int) : List Int)).bind fun y411 => (if y407.length + y411.length < 140737488355328 then (some ((y407 ++ y411), 0)) else (none))))) else (none)))))))) else (some (([] : List Int), t385)))
theorem j11_Encode.mono : ∀ a0 a1 a2 k, LeO (j11_Encode.f k a0 a1 a2) (j11_Encode.f (k + 1) a0 a1 a2) := by
 intro a0 a1 a2 k
 unfold j11_Encode.f
 exact zM
set_option maxHeartbeats 8000000 in
set_option maxRecDepth 100000 in
theorem j11_Encode.calls (k : Nat) (a0_0 : Int) (a0_1 : Int) (A0_2 : Option Addr) (c0_2 : Nat) (l0_2 : List (S26)) (r1 : List Int) (r2 : Int) (w : World) (hr0_2 : Kd.C k26 w A0_2 l0_2.length l0_2) (hc0_2 : l0_2.length ≤ c0_2) (h : j11_Encode.f k a0_0 a0_1 l0_2 = some (r1, r2)) :
  Calls Try.prog 22 #[.agg #[.int .i64 a0_0, .int .i64 a0_1, .slice A0_2 l0_2.length c0_2]] w fun e w' => ∃ v0_ : Value, e = .returned (.tuple #[v0_, .int .i64 r2]) ∧ Kd.R (Kd.int .u8) 5 w' w.heap.size (fun _ => True) v0_ r1 ∧ Below w.heap.size w w' := by
 have hu42 := Try.underlying42
 have HR0_2 := am hr0_2
 have HC0_2 := am hc0_2
 clear hr0_2 hc0_2
 have HB := am (Below.refl w.heap.size w)
 have H : ((j11_Fits.f k a0_0 a0_1 l0_2).bind fun t385 => (if t385 = 0 then ((j11_Payload.f k a0_0 a0_1 l0_2).bind fun t386 => ((j11_Pack.f k t386).bind fun t389 => ((j11_PutInt.f k (([84, (a0_0) % 256] : List Int)) a0_1).bind fun t395 => ((j11_PutInt.f k t395 (l0_2.length : Int)).bind fun t398 => ((j11_PutInt.f k t398 (t386.length : Int)).bind fun t401 => ((j11_PutInt.f k t401 (t389.length : Int)).bind fun t404 => (if t404.length + t389.length < 140737488355328 then ((some (t404 ++ t389 : List Int)).bind fun y407 => ((j11_Sum.f k y407).bind fun t410 => ((some (([(t410 / 16777216) % 256, (t410 / 65536) % 256, (t410 / 256) % 256, (t410) % 256] : List Int) : List Int)).bind fun y411 => (if y407.length + y411.length < 140737488355328 then (some ((y407 ++ y411), 0)) else (none))))) else (none)))))))) else (some (([] : List Int), t385)))) = some (r1, r2) := h
 clear h
 replace H := Option.bind_eq_some_iff.mp H
 obtain ⟨t385, A20, H⟩ := H
 (try dsimp only at H)
 have A2 := am A20
 clear A20
 by_cases c3 : t385 = 0
 ·
  rw [if_pos c3] at H
  obtain ⟨c3b0, c3b1⟩ := zt c3
  clear c3
  replace H := Option.bind_eq_some_iff.mp H
  obtain ⟨t386, A40, H⟩ := H
  (try dsimp only at H)
  have A4 := am A40
  clear A40
  replace H := Option.bind_eq_some_iff.mp H
  obtain ⟨t389, A50, H⟩ := H
  (try dsimp only at H)
  have A5 := am A50
  clear A50
  obtain ⟨y392, hy392⟩ : ∃ y_ : List Int, y_ = (([84, (a0_0) % 256] : List Int)) := ⟨_, rfl⟩
  replace H : ((j11_PutInt.f k y392 a0_1).bind fun t395 => ((j11_PutInt.f k t395 (l0_2.length : Int)).bind fun t398 => ((j11_PutInt.f k t398 (t386.length : Int)).bind fun t401 => ((j11_PutInt.f k t401 (t389.length : Int)).bind fun t404 => (if t404.length + t389.length < 140737488355328 then ((some (t404 ++ t389 : List Int)).bind fun y407 => ((j11_Sum.f k y407).bind fun t410 => ((some (([(t410 / 16777216) % 256, (t410 / 65536) % 256, (t410 / 256) % 256, (t410) % 256] : List Int) : List Int)).bind fun y411 => (if y407.length + y411.length < 140737488355328 then (some ((y407 ++ y411), 0)) else (none))))) else (none)))))) = some (r1, r2) := by first | (rw [hy392]; with_reducible exact H) | (have H2_ := (Option.bind_some _ _).symm.trans H; rw [hy392]; with_reducible exact H2_) | (have H2_ := (Option.bind_some _ _).symm.trans H; with_reducible exact H2_) | with_reducible exact H | (rw [hy392]; exact H) | exact H
  have Ny392 := am hy392
  clear hy392
  replace H := Option.bind_eq_some_iff.mp H
  obtain ⟨t395, A60, H⟩ := H
  (try dsimp only at H)
  have A6 := am A60
  clear A60
  replace H := Option.bind_eq_some_iff.mp H
  obtain ⟨t398, A70, H⟩ := H
  (try dsimp only at H)
  have A7 := am A70
  clear A70
  replace H := Option.bind_eq_some_iff.mp H
  obtain ⟨t401, A80, H⟩ := H
  (try dsimp only at H)
  have A8 := am A80
  clear A80
  replace H := Option.bind_eq_some_iff.mp H
  obtain ⟨t404, A90, H⟩ := H
  (try dsimp only at H)
  have A9 := am A90
  clear A90
  by_cases c10 : t404.length + t389.length < 140737488355328
  ·
   rw [if_pos c10] at H
   have LMc10 := am c10
   clear c10
   obtain ⟨y407, hy407⟩ : ∃ y_ : List Int, y_ = (t404 ++ t389) := ⟨_, rfl⟩
   replace H : ((j11_Sum.f k y407).bind fun t410 => ((some (([(t410 / 16777216) % 256, (t410 / 65536) % 256, (t410 / 256) % 256, (t410) % 256] : List Int) : List Int)).bind fun y411 => (if y407.length + y411.length < 140737488355328 then (some ((y407 ++ y411), 0)) else (none)))) = some (r1, r2) := by first | (rw [hy407]; with_reducible exact H) | (have H2_ := (Option.bind_some _ _).symm.trans H; rw [hy407]; with_reducible exact H2_) | (have H2_ := (Option.bind_some _ _).symm.trans H; with_reducible exact H2_) | with_reducible exact H | (rw [hy407]; exact H) | exact H
   have Ny407 := am hy407
   clear hy407
   replace H := Option.bind_eq_some_iff.mp H
   obtain ⟨t410, A110, H⟩ := H
   (try dsimp only at H)
   have A11 := am A110
   clear A110
   obtain ⟨y411, hy411⟩ : ∃ y_ : List Int, y_ = (([(t410 / 16777216) % 256, (t410 / 65536) % 256, (t410 / 256) % 256, (t410) % 256] : List Int)) := ⟨_, rfl⟩
   replace H : (if y407.length + y411.length < 140737488355328 then (some ((y407 ++ y411), 0)) else (none)) = some (r1, r2) := by first | (rw [hy411]; with_reducible exact H) | (have H2_ := (Option.bind_some _ _).symm.trans H; rw [hy411]; with_reducible exact H2_) | (have H2_ := (Option.bind_some _ _).symm.trans H; with_reducible exact H2_) | with_reducible exact H | (rw [hy411]; exact H) | exact H
   have Ny411 := am hy411
   clear hy411
   by_cases c12 : y407.length + y411.length < 140737488355328
   ·
    rw [if_pos c12] at H
    have LMc12 := am c12
    clear c12
    obtain ⟨y414, hy414⟩ : ∃ y_ : List Int, y_ = (y407 ++ y411) := ⟨_, rfl⟩
    replace H : (some (y414, 0)) = some (r1, r2) := by first | (rw [hy414]; with_reducible exact H) | (have H2_ := (Option.bind_some _ _).symm.trans H; rw [hy414]; with_reducible exact H2_) | (have H2_ := (Option.bind_some _ _).symm.trans H; with_reducible exact H2_) | with_reducible exact H | (rw [hy414]; exact H) | exact H
    have Ny414 := am hy414
    clear hy414
    simp only [Option.some.injEq, Prod.mk.injEq] at H
    obtain ⟨rfl, rfl⟩ := H
    go_enter Try.func22, Try.ntmps22
    go_wp2_with (first | ((with_reducible refine gate_dst (N := 1) rfl ?_); refine zB 1 #[.int .i64 a0_0, .int .i64 a0_1, .slice A0_2 l0_2.length c0_2] 42 ?_; intro gb384 hg w13 hbox hb; have BK384 := am (hbox); have GE384 := zG hg (zb HB); replace HB := am (below_step (zb HB) hb); clear hb hbox hg; obtain ⟨_, _, _, _, _, _⟩ := zq3 BK384) | ((with_reducible refine gate_callee (f := 53) rfl ?_); refine goesL_ (some 10) rfl rfl Try.func53 (by kernel_rfl) rfl #[.agg #[.int .i64 a0_0, .int .i64 a0_1, .slice A0_2 l0_2.length c0_2]] rfl zg ?_; (with_reducible refine (j11_Fits.calls k a0_0 a0_1 _ _ l0_2 t385 _ ?side1 ?side2 A2.out).mono ?_); (case side1 => exact y42); (case side2 => exact HC0_2.out); rintro e w15 ⟨rfl, hb⟩; refine ⟨_, rfl, ?_⟩; replace BK384 := zk BK384 hb; replace HB := am (below_step (zb HB) hb); clear hb; obtain ⟨_, _, _, _, _, _⟩ := zq3 BK384) | ((with_reducible refine gate_callee (f := 54) rfl ?_); refine goesL_ (some 15) rfl rfl Try.func54 (by kernel_rfl) rfl #[.agg #[.int .i64 a0_0, .int .i64 a0_1, .slice A0_2 l0_2.length c0_2]] rfl zg ?_; (with_reducible refine (j11_Payload.calls k a0_0 a0_1 _ _ l0_2 t386 _ ?side1 ?side2 A4.out).mono ?_); (case side1 => exact y42); (case side2 => exact HC0_2.out); rintro e w17 ⟨v387, rfl, ho0, hb⟩; refine ⟨_, rfl, ?_⟩; have HO388 := am (Kd.R_lower ho0 (below_size (zb HB))); replace BK384 := zk BK384 hb; replace HB := am (below_step (zb HB) hb); clear hb ho0; obtain ⟨Ao18, co18, eo18⟩ := Kd.R_slice HO388.out; subst eo18) | ((with_reducible refine gate_callee (f := 55) rfl ?_); refine goesL_ (some 17) rfl rfl Try.func55 (by kernel_rfl) rfl #[.slice Ao18 t386.length co18] rfl zg ?_; (with_reducible refine (j11_Pack.calls k _ _ t386 t389 _ ?side1 ?side2 A5.out).mono ?_); (case side1 => exact zC ((Kd.R_reads' HO388.out).2.2)); (case side2 => exact (Kd.R_reads' HO388.out).2.1); rintro e w19 ⟨v390, rfl, ho0, hb⟩; refine ⟨_, rfl, ?_⟩; have HO391 := am (Kd.R_lower (Kd.R_new' ho0 (Kd.R_lt (zR HO388.out))) (below_size (zb HB))); replace HO388 := am (Kd.R_elder' (zR HO388.out) (Kd.R_base ho0) hb); replace BK384 := zk BK384 hb; replace HB := am (below_step (zb HB) hb); clear hb ho0; obtain ⟨_, _, _, _, _, _⟩ := zq3 BK384) | ((with_reducible refine gate_dst (N := 21) rfl ?_); refine Kd.R_lit (Kd.int .u8) _ 5 ?hg (N := 21) ?hd (xs := ([84, (a0_0) % 256] : List Int)) (inner := [.int .u8 84, .int .u8 ((a0_0) % 256)]) (ok := fun _ => True) (okp := fun _ => True) ?hr ?hp (fun _ hk => hk) trivial (Below.refl _ _) (Nat.le_refl _) (by simp) ?_; (case hd => rfl); (case hg => rfl); (case hr => exact y6); (case hp => exact y30); intro v393 w21 ho22 hb hg_ hnew_; clear hg_ hnew_; (first | rw [← Ny392.out] at ho22 | (simp only [Int.reduceToNat] at ho22; rw [← Ny392.out] at ho22)); have HO394 := am (Kd.R_lower (Kd.R_new' (Kd.R_new' ho22 (Kd.R_lt (zR HO388.out))) (Kd.R_lt (zR HO391.out))) (below_size (zb HB))); replace HO388 := am (Kd.R_elder' (zR HO388.out) (Kd.R_base ho22) hb); replace HO391 := am (Kd.R_elder' (zR HO391.out) (Kd.R_base ho22) hb); replace BK384 := zk BK384 hb; replace HB := am (below_step (zb HB) hb); clear hb ho22; obtain ⟨_, _, _, _, _, _⟩ := zq3 BK384; obtain ⟨Ao24, co24, eo24⟩ := Kd.R_slice HO394.out; subst eo24) | ((with_reducible refine gate_callee (f := 45) rfl ?_); refine goesL_ (some 25) rfl rfl Try.func45 (by kernel_rfl) rfl #[.slice Ao24 y392.length co24, .int .i64 a0_1] rfl zg ?_; (with_reducible refine (j11_PutInt.calls k _ _ y392 a0_1 t395 _ ?side1 ?side2 A6.out).mono ?_); (case side1 => exact zC ((Kd.R_reads' HO394.out).2.2)); (case side2 => exact (Kd.R_reads' HO394.out).2.1); rintro e w25 ⟨v396, rfl, ho0, hb⟩; refine ⟨_, rfl, ?_⟩; have HO397 := am (Kd.R_lower (Kd.R_new' (Kd.R_new' (Kd.R_new' ho0 (Kd.R_lt (zR HO388.out))) (Kd.R_lt (zR HO391.out))) (Kd.R_lt (zR HO394.out))) (below_size (zb HB))); replace HO388 := am (Kd.R_elder' (zR HO388.out) (Kd.R_base ho0) hb); replace HO391 := am (Kd.R_elder' (zR HO391.out) (Kd.R_base ho0) hb); replace HO394 := am (Kd.R_elder' (zR HO394.out) (Kd.R_base ho0) hb); replace BK384 := zk BK384 hb; replace HB := am (below_step (zb HB) hb); clear hb ho0; obtain ⟨_, _, _, _, _, _⟩ := zq3 BK384; obtain ⟨Ao27, co27, eo27⟩ := Kd.R_slice HO397.out; subst eo27) | ((with_reducible refine gate_callee (f := 45) rfl ?_); refine goesL_ (some 30) rfl rfl Try.func45 (by kernel_rfl) rfl #[.slice Ao27 t395.length co27, .int .i64 (l0_2.length : Int)] rfl zg ?_; (with_reducible refine (j11_PutInt.calls k _ _ t395 (l0_2.length : Int) t398 _ ?side1 ?side2 A7.out).mono ?_); (case side1 => exact zC ((Kd.R_reads' HO397.out).2.2)); (case side2 => exact (Kd.R_reads' HO397.out).2.1); rintro e w28 ⟨v399, rfl, ho0, hb⟩; refine ⟨_, rfl, ?_⟩; have HO400 := am (Kd.R_lower (Kd.R_new' (Kd.R_new' (Kd.R_new' (Kd.R_new' ho0 (Kd.R_lt (zR HO388.out))) (Kd.R_lt (zR HO391.out))) (Kd.R_lt (zR HO394.out))) (Kd.R_lt (zR HO397.out))) (below_size (zb HB))); replace HO388 := am (Kd.R_elder' (zR HO388.out) (Kd.R_base ho0) hb); replace HO391 := am (Kd.R_elder' (zR HO391.out) (Kd.R_base ho0) hb); replace HO394 := am (Kd.R_elder' (zR HO394.out) (Kd.R_base ho0) hb); replace HO397 := am (Kd.R_elder' (zR HO397.out) (Kd.R_base ho0) hb); replace BK384 := zk BK384 hb; replace HB := am (below_step (zb HB) hb); clear hb ho0; obtain ⟨Ao29, co29, eo29⟩ := Kd.R_slice HO400.out; subst eo29) | ((with_reducible refine gate_callee (f := 45) rfl ?_); refine goesL_ (some 34) rfl rfl Try.func45 (by kernel_rfl) rfl #[.slice Ao29 t398.length co29, .int .i64 (t386.length : Int)] rfl zg ?_; (with_reducible refine (j11_PutInt.calls k _ _ t398 (t386.length : Int) t401 _ ?side1 ?side2 A8.out).mono ?_); (case side1 => exact zC ((Kd.R_reads' HO400.out).2.2)); (case side2 => exact (Kd.R_reads' HO400.out).2.1); rintro e w30 ⟨v402, rfl, ho0, hb⟩; refine ⟨_, rfl, ?_⟩; have HO403 := am (Kd.R_lower (Kd.R_new' (Kd.R_new' (Kd.R_new' (Kd.R_new' (Kd.R_new' ho0 (Kd.R_lt (zR HO388.out))) (Kd.R_lt (zR HO391.out))) (Kd.R_lt (zR HO394.out))) (Kd.R_lt (zR HO397.out))) (Kd.R_lt (zR HO400.out))) (below_size (zb HB))); replace HO388 := am (Kd.R_elder' (zR HO388.out) (Kd.R_base ho0) hb); replace HO391 := am (Kd.R_elder' (zR HO391.out) (Kd.R_base ho0) hb); replace HO394 := am (Kd.R_elder' (zR HO394.out) (Kd.R_base ho0) hb); replace HO397 := am (Kd.R_elder' (zR HO397.out) (Kd.R_base ho0) hb); replace HO400 := am (Kd.R_elder' (zR HO400.out) (Kd.R_base ho0) hb); replace BK384 := zk BK384 hb; replace HB := am (below_step (zb HB) hb); clear hb ho0; obtain ⟨Ao31, co31, eo31⟩ := Kd.R_slice HO391.out; subst eo31; obtain ⟨Ao32, co32, eo32⟩ := Kd.R_slice HO403.out; subst eo32) | ((with_reducible refine gate_callee (f := 45) rfl ?_); refine goesL_ (some 38) rfl rfl Try.func45 (by kernel_rfl) rfl #[.slice Ao32 t401.length co32, .int .i64 (t389.length : Int)] rfl zg ?_; (with_reducible refine (j11_PutInt.calls k _ _ t401 (t389.length : Int) t404 _ ?side1 ?side2 A9.out).mono ?_); (case side1 => exact zC ((Kd.R_reads' HO403.out).2.2)); (case side2 => exact (Kd.R_reads' HO403.out).2.1); rintro e w33 ⟨v405, rfl, ho0, hb⟩; refine ⟨_, rfl, ?_⟩; have HO406 := am (Kd.R_lower (Kd.R_new' (Kd.R_new' (Kd.R_new' (Kd.R_new' (Kd.R_new' (Kd.R_new' ho0 (Kd.R_lt (zR HO388.out))) (Kd.R_lt (zR HO391.out))) (Kd.R_lt (zR HO394.out))) (Kd.R_lt (zR HO397.out))) (Kd.R_lt (zR HO400.out))) (Kd.R_lt (zR HO403.out))) (below_size (zb HB))); replace HO388 := am (Kd.R_elder' (zR HO388.out) (Kd.R_base ho0) hb); replace HO391 := am (Kd.R_elder' (zR HO391.out) (Kd.R_base ho0) hb); replace HO394 := am (Kd.R_elder' (zR HO394.out) (Kd.R_base ho0) hb); replace HO397 := am (Kd.R_elder' (zR HO397.out) (Kd.R_base ho0) hb); replace HO400 := am (Kd.R_elder' (zR HO400.out) (Kd.R_base ho0) hb); replace HO403 := am (Kd.R_elder' (zR HO403.out) (Kd.R_base ho0) hb); replace BK384 := zk BK384 hb; replace HB := am (below_step (zb HB) hb); clear hb ho0) | ((with_reducible refine gate_builtin (b := .append) (xs := #[.tmp 39, .tmp 40]) rfl ?_); at_builtin; refine Kd.R_append_rows (Kd.int .u8) (w0 := w) w.heap.size rfl (.tmp 39) (.tmp 40) 27 5 (.int .u8 0) 1 rfl Try.underlying27 info5 rfl (by decide) (by omega) v405 t404 t389 _ _ _ (fun k_ => some k_ ≠ (.slice Ao18 t386.length co18 : Value).ownBlock ∧ some k_ ≠ (.slice Ao31 t389.length co31 : Value).ownBlock ∧ some k_ ≠ (.slice Ao24 y392.length co24 : Value).ownBlock ∧ some k_ ≠ (.slice Ao27 t395.length co27 : Value).ownBlock ∧ some k_ ≠ (.slice Ao29 t398.length co29 : Value).ownBlock ∧ some k_ ≠ (.slice Ao32 t401.length co32 : Value).ownBlock) (fun _ => False) rfl rfl ?aO ?aR (fun _ _ h => h) (fun _ h => h.elim) ?aF ?aB ?aS ?aL ?_; (case aR => repeat (first | exact (Kd.R_reads' HO391.out).2.2 | (with_reducible refine Kd.C_alloc ?_ _) | (with_reducible refine Kd.C_drewN ?_ _) | (with_reducible refine Kd.C_drew ?_))); (case aB => exact (zb HB)); (case aF => exact (fun k_ hk => ⟨Kd.fresh' (Kd.R_lt (zR HO388.out)) k_ hk, Kd.fresh' (Kd.R_lt (zR HO391.out)) k_ hk, Kd.fresh' (Kd.R_lt (zR HO394.out)) k_ hk, Kd.fresh' (Kd.R_lt (zR HO397.out)) k_ hk, Kd.fresh' (Kd.R_lt (zR HO400.out)) k_ hk, Kd.fresh' (Kd.R_lt (zR HO403.out)) k_ hk⟩)); (case aO => exact (by (with_reducible repeat (first | apply Kd.R_alloc | apply Kd.R_drewN | apply Kd.R_drew)); exact Kd.R_mono HO406.out (fun _ hk => ⟨hk.1.1.1.1.1.2, ⟨hk.1.1.1.1.2, ⟨hk.1.1.1.2, ⟨hk.1.1.2, ⟨hk.1.2, hk.2⟩⟩⟩⟩⟩))); (case aS => exact y28); (case aL => have := LMc10.out; omega); intro v408 w34 ho hb hg hat; rw [← Ny407.out] at ho; have n0_ := am (blk_grown (g := gb384) (o := .cells #[.int .i64 a0_0, .int .i64 a0_1, .slice A0_2 l0_2.length c0_2] 42 (0, 0)) (zu BK384.out) hg (Kd.R_ne HO406.out BK384.out (by decide))); have n1_ := am (Kd.R_after (ok := (fun k_ => some k_ ≠ (.slice Ao31 t389.length co31 : Value).ownBlock ∧ some k_ ≠ (.slice Ao24 y392.length co24 : Value).ownBlock ∧ some k_ ≠ (.slice Ao27 t395.length co27 : Value).ownBlock ∧ some k_ ≠ (.slice Ao29 t398.length co29 : Value).ownBlock ∧ some k_ ≠ (.slice Ao32 t401.length co32 : Value).ownBlock)) (by (with_reducible repeat (first | apply Kd.R_alloc | apply Kd.R_drewN | apply Kd.R_drew)); exact Kd.R_mono HO388.out (fun _ hk => ⟨⟨hk.1.1.1.1.1.2, ⟨hk.1.1.1.1.2, ⟨hk.1.1.1.2, ⟨hk.1.1.2, hk.1.2⟩⟩⟩⟩, hk.2⟩)) hg hat); have n2_ := am (Kd.R_after (ok := (fun k_ => some k_ ≠ (.slice Ao18 t386.length co18 : Value).ownBlock ∧ some k_ ≠ (.slice Ao24 y392.length co24 : Value).ownBlock ∧ some k_ ≠ (.slice Ao27 t395.length co27 : Value).ownBlock ∧ some k_ ≠ (.slice Ao29 t398.length co29 : Value).ownBlock ∧ some k_ ≠ (.slice Ao32 t401.length co32 : Value).ownBlock)) (by (with_reducible repeat (first | apply Kd.R_alloc | apply Kd.R_drewN | apply Kd.R_drew)); exact Kd.R_mono HO391.out (fun _ hk => ⟨⟨hk.1.1.1.1.1.2, ⟨hk.1.1.1.1.2, ⟨hk.1.1.1.2, ⟨hk.1.1.2, hk.1.2⟩⟩⟩⟩, hk.2⟩)) hg hat); have n3_ := am (Kd.R_after (ok := (fun k_ => some k_ ≠ (.slice Ao18 t386.length co18 : Value).ownBlock ∧ some k_ ≠ (.slice Ao31 t389.length co31 : Value).ownBlock ∧ some k_ ≠ (.slice Ao27 t395.length co27 : Value).ownBlock ∧ some k_ ≠ (.slice Ao29 t398.length co29 : Value).ownBlock ∧ some k_ ≠ (.slice Ao32 t401.length co32 : Value).ownBlock)) (by (with_reducible repeat (first | apply Kd.R_alloc | apply Kd.R_drewN | apply Kd.R_drew)); exact Kd.R_mono HO394.out (fun _ hk => ⟨⟨hk.1.1.1.1.1.2, ⟨hk.1.1.1.1.2, ⟨hk.1.1.1.2, ⟨hk.1.1.2, hk.1.2⟩⟩⟩⟩, hk.2⟩)) hg hat); have n4_ := am (Kd.R_after (ok := (fun k_ => some k_ ≠ (.slice Ao18 t386.length co18 : Value).ownBlock ∧ some k_ ≠ (.slice Ao31 t389.length co31 : Value).ownBlock ∧ some k_ ≠ (.slice Ao24 y392.length co24 : Value).ownBlock ∧ some k_ ≠ (.slice Ao29 t398.length co29 : Value).ownBlock ∧ some k_ ≠ (.slice Ao32 t401.length co32 : Value).ownBlock)) (by (with_reducible repeat (first | apply Kd.R_alloc | apply Kd.R_drewN | apply Kd.R_drew)); exact Kd.R_mono HO397.out (fun _ hk => ⟨⟨hk.1.1.1.1.1.2, ⟨hk.1.1.1.1.2, ⟨hk.1.1.1.2, ⟨hk.1.1.2, hk.1.2⟩⟩⟩⟩, hk.2⟩)) hg hat); have n5_ := am (Kd.R_after (ok := (fun k_ => some k_ ≠ (.slice Ao18 t386.length co18 : Value).ownBlock ∧ some k_ ≠ (.slice Ao31 t389.length co31 : Value).ownBlock ∧ some k_ ≠ (.slice Ao24 y392.length co24 : Value).ownBlock ∧ some k_ ≠ (.slice Ao27 t395.length co27 : Value).ownBlock ∧ some k_ ≠ (.slice Ao32 t401.length co32 : Value).ownBlock)) (by (with_reducible repeat (first | apply Kd.R_alloc | apply Kd.R_drewN | apply Kd.R_drew)); exact Kd.R_mono HO400.out (fun _ hk => ⟨⟨hk.1.1.1.1.1.2, ⟨hk.1.1.1.1.2, ⟨hk.1.1.1.2, ⟨hk.1.1.2, hk.1.2⟩⟩⟩⟩, hk.2⟩)) hg hat); have n6_ := am (Kd.R_after (ok := (fun k_ => some k_ ≠ (.slice Ao18 t386.length co18 : Value).ownBlock ∧ some k_ ≠ (.slice Ao31 t389.length co31 : Value).ownBlock ∧ some k_ ≠ (.slice Ao24 y392.length co24 : Value).ownBlock ∧ some k_ ≠ (.slice Ao27 t395.length co27 : Value).ownBlock ∧ some k_ ≠ (.slice Ao29 t398.length co29 : Value).ownBlock)) (by (with_reducible repeat (first | apply Kd.R_alloc | apply Kd.R_drewN | apply Kd.R_drew)); exact Kd.R_mono HO403.out (fun _ hk => ⟨⟨hk.1.1.1.1.1.2, ⟨hk.1.1.1.1.2, ⟨hk.1.1.1.2, ⟨hk.1.1.2, hk.1.2⟩⟩⟩⟩, hk.2⟩)) hg hat); have n7_ := am (hb); have n8_ := am (ho); clear BK384; clear HO388; clear HO391; clear HO394; clear HO397; clear HO400; clear HO403; clear HB; clear HO406; have BK384 := n0_; have HO388 := n1_; have HO391 := n2_; have HO394 := n3_; have HO397 := n4_; have HO400 := n5_; have HO403 := n6_; have HB := n7_; have HO409 := n8_; clear n0_ n1_ n2_ n3_ n4_ n5_ n6_ n7_ n8_; clear ho hb hg hat; obtain ⟨Ao35, co35, eo35⟩ := Kd.R_slice HO409.out; subst eo35) | ((with_reducible refine gate_callee (f := 56) rfl ?_); refine goesL_ (some 43) rfl rfl Try.func56 (by kernel_rfl) rfl #[.slice Ao35 y407.length co35] rfl zg ?_; (with_reducible refine (j11_Sum.calls k _ _ y407 t410 _ ?side1 ?side2 A11.out).mono ?_); (case side1 => exact zC ((Kd.R_reads' HO409.out).2.2)); (case side2 => exact (Kd.R_reads' HO409.out).2.1); rintro e w' ⟨rfl, ⟨nd, rfl⟩⟩; refine ⟨_, rfl, ?_⟩) | ((with_reducible refine gate_dst (N := 56) rfl ?_); refine Kd.R_lit (Kd.int .u8) _ 5 ?hg (N := 56) ?hd (xs := ([(t410 / 16777216) % 256, (t410 / 65536) % 256, (t410 / 256) % 256, (t410) % 256] : List Int)) (inner := [.int .u8 ((t410 / 16777216) % 256), .int .u8 ((t410 / 65536) % 256), .int .u8 ((t410 / 256) % 256), .int .u8 ((t410) % 256)]) (ok := fun _ => True) (okp := fun _ => True) ?hr ?hp (fun _ hk => hk) trivial (Below.refl _ _) (Nat.le_refl _) (by simp) ?_; (case hd => rfl); (case hg => rfl); (case hr => exact y6); (case hp => exact (Reps.one (show Kd.M (Kd.int .u8) _ _ _ ((t410 / 16777216) % 256) [.int .u8 ((t410 / 16777216) % 256)] from rfl) (Reps.one (show Kd.M (Kd.int .u8) _ _ _ ((t410 / 65536) % 256) [.int .u8 ((t410 / 65536) % 256)] from rfl) (Reps.one (show Kd.M (Kd.int .u8) _ _ _ ((t410 / 256) % 256) [.int .u8 ((t410 / 256) % 256)] from rfl) (Reps.one (show Kd.M (Kd.int .u8) _ _ _ ((t410) % 256) [.int .u8 ((t410) % 256)] from rfl) (Reps.none _ _)))))); intro v412 w36 ho37 hb hg_ hnew_; clear hg_ hnew_; (first | rw [← Ny411.out] at ho37 | (simp only [Int.reduceToNat] at ho37; rw [← Ny411.out] at ho37)); have HO413 := am (Kd.R_lower (Kd.R_new' (Kd.R_new' (Kd.R_new' (Kd.R_new' (Kd.R_new' (Kd.R_new' (Kd.R_new' ho37 (Kd.R_lt (zR HO388.out))) (Kd.R_lt (zR HO391.out))) (Kd.R_lt (zR HO394.out))) (Kd.R_lt (zR HO397.out))) (Kd.R_lt (zR HO400.out))) (Kd.R_lt (zR HO403.out))) (Kd.R_lt (zR HO409.out))) (below_size (zb HB))); replace HO388 := am (Kd.R_elder' (zR HO388.out) (Kd.R_base ho37) hb); replace HO391 := am (Kd.R_elder' (zR HO391.out) (Kd.R_base ho37) hb); replace HO394 := am (Kd.R_elder' (zR HO394.out) (Kd.R_base ho37) hb); replace HO397 := am (Kd.R_elder' (zR HO397.out) (Kd.R_base ho37) hb); replace HO400 := am (Kd.R_elder' (zR HO400.out) (Kd.R_base ho37) hb); replace HO403 := am (Kd.R_elder' (zR HO403.out) (Kd.R_base ho37) hb); replace HO409 := am (Kd.R_elder' (zR HO409.out) (Kd.R_base ho37) hb); replace BK384 := zk BK384 hb; replace HB := am (below_step (zb HB) hb); clear hb ho37; obtain ⟨Ao39, co39, eo39⟩ := Kd.R_slice HO413.out; subst eo39) | ((with_reducible refine gate_builtin (b := .append) (xs := #[.tmp 44, .tmp 56]) rfl ?_); at_builtin; refine Kd.R_append_rows (Kd.int .u8) (w0 := w) w.heap.size rfl (.tmp 44) (.tmp 56) 27 5 (.int .u8 0) 1 rfl Try.underlying27 info5 rfl (by decide) (by omega) (.slice Ao35 y407.length co35) y407 y411 _ _ _ (fun k_ => some k_ ≠ (.slice Ao18 t386.length co18 : Value).ownBlock ∧ some k_ ≠ (.slice Ao31 t389.length co31 : Value).ownBlock ∧ some k_ ≠ (.slice Ao24 y392.length co24 : Value).ownBlock ∧ some k_ ≠ (.slice Ao27 t395.length co27 : Value).ownBlock ∧ some k_ ≠ (.slice Ao29 t398.length co29 : Value).ownBlock ∧ some k_ ≠ (.slice Ao32 t401.length co32 : Value).ownBlock ∧ some k_ ≠ (.slice Ao39 y411.length co39 : Value).ownBlock) (fun _ => False) rfl rfl ?aO ?aR (fun _ _ h => h) (fun _ h => h.elim) ?aF ?aB ?aS ?aL ?_; (case aR => repeat (first | exact (Kd.R_reads' HO413.out).2.2 | (with_reducible refine Kd.C_alloc ?_ _) | (with_reducible refine Kd.C_drewN ?_ _) | (with_reducible refine Kd.C_drew ?_))); (case aB => exact (zb HB)); (case aF => exact (fun k_ hk => ⟨Kd.fresh' (Kd.R_lt (zR HO388.out)) k_ hk, Kd.fresh' (Kd.R_lt (zR HO391.out)) k_ hk, Kd.fresh' (Kd.R_lt (zR HO394.out)) k_ hk, Kd.fresh' (Kd.R_lt (zR HO397.out)) k_ hk, Kd.fresh' (Kd.R_lt (zR HO400.out)) k_ hk, Kd.fresh' (Kd.R_lt (zR HO403.out)) k_ hk, Kd.fresh' (Kd.R_lt (zR HO413.out)) k_ hk⟩)); (case aO => exact (by (with_reducible repeat (first | apply Kd.R_alloc | apply Kd.R_drewN | apply Kd.R_drew)); exact Kd.R_mono HO409.out (fun _ hk => ⟨hk.1.1, ⟨hk.1.2.1, ⟨hk.1.2.2.1, ⟨hk.1.2.2.2.1, ⟨hk.1.2.2.2.2.1, ⟨hk.1.2.2.2.2.2, hk.2⟩⟩⟩⟩⟩⟩))); (case aS => exact y28); (case aL => have := LMc12.out; omega); intro v415 w38 ho hb hg hat; rw [← Ny414.out] at ho; have n0_ := am (blk_grown (g := gb384) (o := .cells #[.int .i64 a0_0, .int .i64 a0_1, .slice A0_2 l0_2.length c0_2] 42 (0, 0)) (zu BK384.out) hg (Kd.R_ne HO409.out BK384.out (by decide))); have n1_ := am (Kd.R_after (ok := (fun k_ => some k_ ≠ (.slice Ao31 t389.length co31 : Value).ownBlock ∧ some k_ ≠ (.slice Ao24 y392.length co24 : Value).ownBlock ∧ some k_ ≠ (.slice Ao27 t395.length co27 : Value).ownBlock ∧ some k_ ≠ (.slice Ao29 t398.length co29 : Value).ownBlock ∧ some k_ ≠ (.slice Ao32 t401.length co32 : Value).ownBlock ∧ some k_ ≠ (.slice Ao39 y411.length co39 : Value).ownBlock)) (by (with_reducible repeat (first | apply Kd.R_alloc | apply Kd.R_drewN | apply Kd.R_drew)); exact Kd.R_mono HO388.out (fun _ hk => ⟨⟨hk.1.1.1, ⟨hk.1.1.2.1, ⟨hk.1.1.2.2.1, ⟨hk.1.1.2.2.2.1, ⟨hk.1.1.2.2.2.2, hk.2⟩⟩⟩⟩⟩, hk.1.2⟩)) hg hat); have n2_ := am (Kd.R_after (ok := (fun k_ => some k_ ≠ (.slice Ao18 t386.length co18 : Value).ownBlock ∧ some k_ ≠ (.slice Ao24 y392.length co24 : Value).ownBlock ∧ some k_ ≠ (.slice Ao27 t395.length co27 : Value).ownBlock ∧ some k_ ≠ (.slice Ao29 t398.length co29 : Value).ownBlock ∧ some k_ ≠ (.slice Ao32 t401.length co32 : Value).ownBlock ∧ some k_ ≠ (.slice Ao39 y411.length co39 : Value).ownBlock)) (by (with_reducible repeat (first | apply Kd.R_alloc | apply Kd.R_drewN | apply Kd.R_drew)); exact Kd.R_mono HO391.out (fun _ hk => ⟨⟨hk.1.1.1, ⟨hk.1.1.2.1, ⟨hk.1.1.2.2.1, ⟨hk.1.1.2.2.2.1, ⟨hk.1.1.2.2.2.2, hk.2⟩⟩⟩⟩⟩, hk.1.2⟩)) hg hat); have n3_ := am (Kd.R_after (ok := (fun k_ => some k_ ≠ (.slice Ao18 t386.length co18 : Value).ownBlock ∧ some k_ ≠ (.slice Ao31 t389.length co31 : Value).ownBlock ∧ some k_ ≠ (.slice Ao27 t395.length co27 : Value).ownBlock ∧ some k_ ≠ (.slice Ao29 t398.length co29 : Value).ownBlock ∧ some k_ ≠ (.slice Ao32 t401.length co32 : Value).ownBlock ∧ some k_ ≠ (.slice Ao39 y411.length co39 : Value).ownBlock)) (by (with_reducible repeat (first | apply Kd.R_alloc | apply Kd.R_drewN | apply Kd.R_drew)); exact Kd.R_mono HO394.out (fun _ hk => ⟨⟨hk.1.1.1, ⟨hk.1.1.2.1, ⟨hk.1.1.2.2.1, ⟨hk.1.1.2.2.2.1, ⟨hk.1.1.2.2.2.2, hk.2⟩⟩⟩⟩⟩, hk.1.2⟩)) hg hat); have n4_ := am (Kd.R_after (ok := (fun k_ => some k_ ≠ (.slice Ao18 t386.length co18 : Value).ownBlock ∧ some k_ ≠ (.slice Ao31 t389.length co31 : Value).ownBlock ∧ some k_ ≠ (.slice Ao24 y392.length co24 : Value).ownBlock ∧ some k_ ≠ (.slice Ao29 t398.length co29 : Value).ownBlock ∧ some k_ ≠ (.slice Ao32 t401.length co32 : Value).ownBlock ∧ some k_ ≠ (.slice Ao39 y411.length co39 : Value).ownBlock)) (by (with_reducible repeat (first | apply Kd.R_alloc | apply Kd.R_drewN | apply Kd.R_drew)); exact Kd.R_mono HO397.out (fun _ hk => ⟨⟨hk.1.1.1, ⟨hk.1.1.2.1, ⟨hk.1.1.2.2.1, ⟨hk.1.1.2.2.2.1, ⟨hk.1.1.2.2.2.2, hk.2⟩⟩⟩⟩⟩, hk.1.2⟩)) hg hat); have n5_ := am (Kd.R_after (ok := (fun k_ => some k_ ≠ (.slice Ao18 t386.length co18 : Value).ownBlock ∧ some k_ ≠ (.slice Ao31 t389.length co31 : Value).ownBlock ∧ some k_ ≠ (.slice Ao24 y392.length co24 : Value).ownBlock ∧ some k_ ≠ (.slice Ao27 t395.length co27 : Value).ownBlock ∧ some k_ ≠ (.slice Ao32 t401.length co32 : Value).ownBlock ∧ some k_ ≠ (.slice Ao39 y411.length co39 : Value).ownBlock)) (by (with_reducible repeat (first | apply Kd.R_alloc | apply Kd.R_drewN | apply Kd.R_drew)); exact Kd.R_mono HO400.out (fun _ hk => ⟨⟨hk.1.1.1, ⟨hk.1.1.2.1, ⟨hk.1.1.2.2.1, ⟨hk.1.1.2.2.2.1, ⟨hk.1.1.2.2.2.2, hk.2⟩⟩⟩⟩⟩, hk.1.2⟩)) hg hat); have n6_ := am (Kd.R_after (ok := (fun k_ => some k_ ≠ (.slice Ao18 t386.length co18 : Value).ownBlock ∧ some k_ ≠ (.slice Ao31 t389.length co31 : Value).ownBlock ∧ some k_ ≠ (.slice Ao24 y392.length co24 : Value).ownBlock ∧ some k_ ≠ (.slice Ao27 t395.length co27 : Value).ownBlock ∧ some k_ ≠ (.slice Ao29 t398.length co29 : Value).ownBlock ∧ some k_ ≠ (.slice Ao39 y411.length co39 : Value).ownBlock)) (by (with_reducible repeat (first | apply Kd.R_alloc | apply Kd.R_drewN | apply Kd.R_drew)); exact Kd.R_mono HO403.out (fun _ hk => ⟨⟨hk.1.1.1, ⟨hk.1.1.2.1, ⟨hk.1.1.2.2.1, ⟨hk.1.1.2.2.2.1, ⟨hk.1.1.2.2.2.2, hk.2⟩⟩⟩⟩⟩, hk.1.2⟩)) hg hat); have n7_ := am (Kd.R_after (ok := (fun k_ => some k_ ≠ (.slice Ao18 t386.length co18 : Value).ownBlock ∧ some k_ ≠ (.slice Ao31 t389.length co31 : Value).ownBlock ∧ some k_ ≠ (.slice Ao24 y392.length co24 : Value).ownBlock ∧ some k_ ≠ (.slice Ao27 t395.length co27 : Value).ownBlock ∧ some k_ ≠ (.slice Ao29 t398.length co29 : Value).ownBlock ∧ some k_ ≠ (.slice Ao32 t401.length co32 : Value).ownBlock)) (by (with_reducible repeat (first | apply Kd.R_alloc | apply Kd.R_drewN | apply Kd.R_drew)); exact Kd.R_mono HO413.out (fun _ hk => ⟨⟨hk.1.1.1.1.1.1.2, ⟨hk.1.1.1.1.1.2, ⟨hk.1.1.1.1.2, ⟨hk.1.1.1.2, ⟨hk.1.1.2, hk.1.2⟩⟩⟩⟩⟩, hk.2⟩)) hg hat); have n8_ := am (hb); have n9_ := am (ho); clear BK384; clear HO388; clear HO391; clear HO394; clear HO397; clear HO400; clear HO403; clear HO413; clear HB; clear HO409; have BK384 := n0_; have HO388 := n1_; have HO391 := n2_; have HO394 := n3_; have HO397 := n4_; have HO400 := n5_; have HO403 := n6_; have HO413 := n7_; have HB := n8_; have HO416 := n9_; clear n0_ n1_ n2_ n3_ n4_ n5_ n6_ n7_ n8_ n9_; clear ho hb hg hat))
    go_ret2
    exact ⟨_, ze, by (with_reducible repeat (first | apply Kd.R_alloc | apply Kd.R_drewN | apply Kd.R_drew)); exact Kd.R_mono HO416.out (fun _ hk => trivial), zb HB⟩
   ·
    rw [if_neg c12] at H
    exact absurd H (by simp)
  ·
   rw [if_neg c10] at H
   exact absurd H (by simp)
 ·
  rw [if_neg c3] at H
  obtain ⟨c3b0, c3b1⟩ := zs c3
  simp only [Option.some.injEq, Prod.mk.injEq] at H
  obtain ⟨rfl, rfl⟩ := H
  go_enter Try.func22, Try.ntmps22
  go_wp2_with (first | ((with_reducible refine gate_dst (N := 1) rfl ?_); refine zB 1 #[.int .i64 a0_0, .int .i64 a0_1, .slice A0_2 l0_2.length c0_2] 42 ?_; intro gb384 hg w40 hbox hb; have BK384 := am (hbox); have GE384 := zG hg (zb HB); replace HB := am (below_step (zb HB) hb); clear hb hbox hg; obtain ⟨_, _, _, _, _, _⟩ := zq3 BK384) | ((with_reducible refine gate_callee (f := 53) rfl ?_); refine goesL_ (some 10) rfl rfl Try.func53 (by kernel_rfl) rfl #[.agg #[.int .i64 a0_0, .int .i64 a0_1, .slice A0_2 l0_2.length c0_2]] rfl zg ?_; (with_reducible refine (j11_Fits.calls k a0_0 a0_1 _ _ l0_2 t385 _ ?side1 ?side2 A2.out).mono ?_); (case side1 => exact y42); (case side2 => exact HC0_2.out); rintro e w42 ⟨rfl, hb⟩; refine ⟨_, rfl, ?_⟩; replace BK384 := zk BK384 hb; replace HB := am (below_step (zb HB) hb); clear hb))
  go_ret2
  exact y34
end Go.Proofs.Ytnmmkgagbfniiaa.A
end
