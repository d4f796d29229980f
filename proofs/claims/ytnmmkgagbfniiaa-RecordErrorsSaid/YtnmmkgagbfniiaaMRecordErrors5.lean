/- MRecordErrors5: texts of this session and of the kit's printer on the road to the statement RecordErrors, laid into one and rid of what it doesn't need. No condition beyond what each fact names. -/
import Derived.Test.YtnmmkgagbfniiaaMRecordErrors3
import Derived.Test.YtnmmkgagbfniiaaMRecordErrors2
section
namespace Go.Proofs.Ytnmmkgagbfniiaa.A
open Go.RowKit Go.Proofs.YtnmmkgagbfniiaaW.PrintWords Go.Proofs.YtnmmkgagbfniiaaW.PrintLast Go.Proofs.YtnmmkgagbfniiaaW.PrintMore
attribute [local go_sem] max2_int min2_int max_two min_two max_three min_three max_four min_four
set_option linter.unusedVariables false
set_option linter.unusedSimpArgs false
mutual
def record_check.j0 : Nat → List (S24) → Int → Bool → Int → List (S57) → Int → List Int → Option (Int)
 | 0, _, _, _, _, _, _, _ => none
 | k + 1, x0, x1, x40, x433000, x433001, x433002, x433003 => if x40 = true then (some 1) else (record_check.l0 k x0 x1 x433001 (x433001.length : Int) 0 x433000 x433001 x433002 x433003)
def record_check.l0 : Nat → List (S24) → Int → List (S57) → Int → Int → Int → List (S57) → Int → List Int → Option (Int)
 | 0, _, _, _, _, _, _, _, _, _ => none
 | k + 1, x0, x1, x42, x43, x44, x433000, x433001, x433002, x433003 => if x44 < x43 then (if 0 ≤ x44 then (if x44 < (x42.length : Int) then (if ((rd_T57 x42 x44).f0) < 0 then (some 1) else (if ((rd_T57 x42 x44).f1) < 0 then (some 1) else (if ((rd_T57 x42 x44).f1) ≥ x1 then (some 1) else (record_check.l0 k x0 x1 x42 x43 (wrap64 (x44 + 1)) x433000 x433001 x433002 x433003)))) else (none)) else (none)) else (record_check.l1 k x0 x1 x433003 (x433003.length : Int) 0)
def record_check.l1 : Nat → List (S24) → Int → List Int → Int → Int → Option (Int)
 | 0, _, _, _, _, _ => none
 | k + 1, x0, x1, x64, x65, x66 => if x66 < x65 then (if 0 ≤ x66 then (if x66 < (x64.length : Int) then (if (rd x64 x66) < 0 then (some 1) else (record_check.l1 k x0 x1 x64 x65 (wrap64 (x66 + 1)))) else (none)) else (none)) else (if (x0.length : Int) > 400 then (some 2) else (record_check.l2 k x1 x0 (x0.length : Int) 0))
def record_check.l2 : Nat → Int → List (S24) → Int → Int → Option (Int)
 | 0, _, _, _, _ => none
 | k + 1, x1, x76, x77, x78 => if x78 < x77 then (if 0 ≤ x78 then (if x78 < (x76.length : Int) then (if ((rd_T24 x76 x78).f0) < 0 then (some 1) else (if ((rd_T24 x76 x78).f0) ≥ x1 then (some 1) else (if (((rd_T24 x76 x78).f5).length : Int) > 400 then (some 1) else (if (((rd_T24 x76 x78).f6).length : Int) > 400 then (some 1) else (record_check.l2 k x1 x76 x77 (wrap64 (x78 + 1))))))) else (none)) else (none)) else (some 0)
end
def record_check.f (k : Nat) (l0 : List (S24)) (a1 : Int) (a2_0 : Int) (l2_1 : List (S57)) (a2_2 : Int) (l2_3 : List Int) : Option (Int) := if a1 < 1 then (record_check.j0 k l0 a1 true a2_0 l2_1 a2_2 l2_3) else (if a1 > 4 then (record_check.j0 k l0 a1 true a2_0 l2_1 a2_2 l2_3) else (if a2_0 < 1 then (record_check.j0 k l0 a1 true a2_0 l2_1 a2_2 l2_3) else (if a2_0 > 64 then (record_check.j0 k l0 a1 true a2_0 l2_1 a2_2 l2_3) else (if a2_2 < 0 then (record_check.j0 k l0 a1 true a2_0 l2_1 a2_2 l2_3) else (record_check.j0 k l0 a1 (decide ((l2_3.length : Int) > a1)) a2_0 l2_1 a2_2 l2_3)))))
theorem record_check.mono_l : ∀ k, (∀ y0 y1 y2 y3 y4 y5 y6, LeO (record_check.j0 k y0 y1 y2 y3 y4 y5 y6) (record_check.j0 (k + 1) y0 y1 y2 y3 y4 y5 y6)) ∧ (∀ y0 y1 y2 y3 y4 y5 y6 y7 y8, LeO (record_check.l0 k y0 y1 y2 y3 y4 y5 y6 y7 y8) (record_check.l0 (k + 1) y0 y1 y2 y3 y4 y5 y6 y7 y8)) ∧ (∀ y0 y1 y2 y3 y4, LeO (record_check.l1 k y0 y1 y2 y3 y4) (record_check.l1 (k + 1) y0 y1 y2 y3 y4)) ∧ (∀ y0 y1 y2 y3, LeO (record_check.l2 k y0 y1 y2 y3) (record_check.l2 (k + 1) y0 y1 y2 y3))
 | 0 => ⟨fun _ _ _ _ _ _ _ r h => by simp [record_check.j0] at h, fun _ _ _ _ _ _ _ _ _ r h => by simp [record_check.l0] at h, fun _ _ _ _ _ r h => by simp [record_check.l1] at h, fun _ _ _ _ r h => by simp [record_check.l2] at h⟩
 | k + 1 => by
  obtain ⟨ih0, ih1, ih2, ih3⟩ := record_check.mono_l k
  refine ⟨?_, ?_, ?_, ?_⟩
  ·
   intro y0 y1 y2 y3 y4 y5 y6
   unfold record_check.j0
   exact zM
  ·
   intro y0 y1 y2 y3 y4 y5 y6 y7 y8
   unfold record_check.l0
   exact zM
  ·
   intro y0 y1 y2 y3 y4
   unfold record_check.l1
   exact zM
  ·
   intro y0 y1 y2 y3
   unfold record_check.l2
   exact zM
theorem record_check.mono : ∀ a0 a1 a2 a3 a4 a5 k, LeO (record_check.f k a0 a1 a2 a3 a4 a5) (record_check.f (k + 1) a0 a1 a2 a3 a4 a5) := by
 intro a0 a1 a2 a3 a4 a5 k
 obtain ⟨ih0, ih1, ih2, ih3⟩ := record_check.mono_l k
 unfold record_check.f
 exact zM
set_option maxHeartbeats 8000000 in
set_option maxRecDepth 100000 in
theorem record_check.calls (k : Nat) (A0 : Option Addr) (c0 : Nat) (l0 : List (S24)) (a1 : Int) (a2_0 : Int) (A2_1 : Option Addr) (c2_1 : Nat) (l2_1 : List (S57)) (a2_2 : Int) (A2_3 : Option Addr) (c2_3 : Nat) (l2_3 : List Int) (r : Int) (w : World) (hr0 : Kd.C k24 w A0 l0.length l0) (hc0 : l0.length ≤ c0) (hr2_1 : Kd.C k57 w A2_1 l2_1.length l2_1) (hc2_1 : l2_1.length ≤ c2_1) (hr2_3 : Kd.C (Kd.int .i64) w A2_3 l2_3.length l2_3) (hc2_3 : l2_3.length ≤ c2_3) (h : record_check.f k l0 a1 a2_0 l2_1 a2_2 l2_3 = some r) :
  Calls Try.prog 58 #[.slice A0 l0.length c0, .int .i64 a1, .agg #[.int .i64 a2_0, .slice A2_1 l2_1.length c2_1, .int .i64 a2_2, .slice A2_3 l2_3.length c2_3]] w fun e w' => e = .returned (.int .i64 r) ∧ Below w.heap.size w w' := by
 have hu49 := Try.underlying49
 have hu57 := Try.underlying57
 have hu24 := Try.underlying24
 have HR0 := am hr0
 have HC0 := am hc0
 clear hr0 hc0
 have HR2_1 := am hr2_1
 have HC2_1 := am hc2_1
 clear hr2_1 hc2_1
 have HR2_3 := am hr2_3
 have HC2_3 := am hc2_3
 clear hr2_3 hc2_3
 have HB := am (Below.refl w.heap.size w)
 have H : (if a1 < 1 then (record_check.j0 k l0 a1 true a2_0 l2_1 a2_2 l2_3) else (if a1 > 4 then (record_check.j0 k l0 a1 true a2_0 l2_1 a2_2 l2_3) else (if a2_0 < 1 then (record_check.j0 k l0 a1 true a2_0 l2_1 a2_2 l2_3) else (if a2_0 > 64 then (record_check.j0 k l0 a1 true a2_0 l2_1 a2_2 l2_3) else (if a2_2 < 0 then (record_check.j0 k l0 a1 true a2_0 l2_1 a2_2 l2_3) else (record_check.j0 k l0 a1 (decide ((l2_3.length : Int) > a1)) a2_0 l2_1 a2_2 l2_3)))))) = some r := h
 clear h
 have HC4 := am H
 clear H
 go_enter Try.func58, Try.ntmps58
 go_upto_region 1 with (first | ((with_reducible refine gate_dst (N := 5) rfl ?_); (try (refine gate_guard (by rfl) ?_; dsimp only)); refine zB 5 #[.int .i64 a2_0, .slice A2_1 l2_1.length c2_1, .int .i64 a2_2, .slice A2_3 l2_3.length c2_3] 49 ?_; intro gb432 hg w5 hbox hb; have BK432 := am (hbox); have GE432 := zG hg (zb HB); replace HB := am (below_step (zb HB) hb); clear hb hbox hg))
 (try simp only [Act.put, List.setIfInBounds_toArray, List.set_cons_zero, List.set_cons_succ])
 go_cut [40] (fun v40 wc => ∃ (kq : Nat) (x40_3 : Bool), v40 = .bool x40_3 ∧ Aside0 (record_check.j0 kq l0 a1 x40_3 a2_0 l2_1 a2_2 l2_3 = some r) ∧ Aside0 (kq ≤ k) ∧ Aside0 (wc.heap[gb432]? = some (.cells #[.int .i64 a2_0, (.slice A2_1 l2_1.length c2_1), .int .i64 a2_2, (.slice A2_3 l2_3.length c2_3)] 49 (0, 0))) ∧ Aside0 (Below w.heap.size w wc))
 case first =>
  have H := HC4.out
  clear HC4
  by_cases c6 : a1 < 1
  ·
   rw [if_pos c6] at H
   have c6b0 := decide_eq_true c6
   clear c6
   (first | rw [c6b0] | (simp only [i64_w, i32_w]; rw [c6b0]) | skip)
   have H' := am H
   clear H
   go_wp2
   go_meet
   case rel => exact y20
  ·
   rw [if_neg c6] at H
   have c6b0 := decide_eq_false c6
   clear c6
   (first | rw [c6b0] | (simp only [i64_w, i32_w]; rw [c6b0]) | skip)
   by_cases c7 : a1 > 4
   ·
    rw [if_pos c7] at H
    have c7b0 : decide (4 < a1) = true := decide_eq_true c7
    clear c7
    have H' := am H
    clear H
    go_wp2
    go_meet
    case rel => exact y20
   ·
    rw [if_neg c7] at H
    have c7b0 : decide (4 < a1) = false := decide_eq_false c7
    clear c7
    by_cases c8 : a2_0 < 1
    ·
     rw [if_pos c8] at H
     have c8b0 := decide_eq_true c8
     clear c8
     have H' := am H
     clear H
     obtain ⟨hcz9_0, hcz9_1, hcz9_2, hcz9_3⟩ := zc4 BK432
     obtain ⟨hfz9_0, hfz9_1, hfz9_2, hfz9_3⟩ := zf4 BK432
     go_wp2
     go_meet
     case rel => exact y20
    ·
     rw [if_neg c8] at H
     have c8b0 := decide_eq_false c8
     clear c8
     by_cases c10 : a2_0 > 64
     ·
      rw [if_pos c10] at H
      have c10b0 : decide (64 < a2_0) = true := decide_eq_true c10
      clear c10
      have H' := am H
      clear H
      obtain ⟨hcz11_0, hcz11_1, hcz11_2, hcz11_3⟩ := zc4 BK432
      obtain ⟨hfz11_0, hfz11_1, hfz11_2, hfz11_3⟩ := zf4 BK432
      go_wp2
      go_meet
      case rel => exact y20
     ·
      rw [if_neg c10] at H
      have c10b0 : decide (64 < a2_0) = false := decide_eq_false c10
      clear c10
      by_cases c12 : a2_2 < 0
      ·
       rw [if_pos c12] at H
       have c12b0 := decide_eq_true c12
       clear c12
       have H' := am H
       clear H
       obtain ⟨hcz13_0, hcz13_1, hcz13_2, hcz13_3⟩ := zc4 BK432
       obtain ⟨hfz13_0, hfz13_1, hfz13_2, hfz13_3⟩ := zf4 BK432
       go_wp2
       go_meet
       case rel => exact y20
      ·
       rw [if_neg c12] at H
       have c12b0 := decide_eq_false c12
       clear c12
       have H' := am H
       clear H
       obtain ⟨hcz14_0, hcz14_1, hcz14_2, hcz14_3⟩ := zc4 BK432
       obtain ⟨hfz14_0, hfz14_1, hfz14_2, hfz14_3⟩ := zf4 BK432
       go_wp2
       go_meet
       case rel => exact ⟨_, (decide ((l2_3.length : Int) > a1)), zr, H', ⟨by first | omega | exact Nat.le_refl _⟩, ⟨by refine zu ?_; exact BK432.out⟩, ⟨zb HB⟩⟩
 case rest =>
  clear HC4
  obtain ⟨kq, x40_3, rfl, HA, HJ3, BK432, HB⟩ := hcut
  cases kq with
  | zero => exact absurd HA.out (by simp [record_check.j0])
  | succ kj3 =>
   have H := HA.out
   clear HA
   simp only [record_check.j0] at H
   by_cases c15 : x40_3 = true
   ·
    subst c15
    have H1 : (some 1) = some r := by rw [if_pos rfl] at H; exact H
    clear H
    have H := H1
    clear H1
    obtain rfl := Option.some.inj H
    go_wp2
    go_ret
    exact ⟨ze, zb HB⟩
   ·
    replace c15 := Bool.eq_false_iff.mpr c15
    subst c15
    have H1 : (record_check.l0 kj3 l0 a1 l2_1 (l2_1.length : Int) 0 a2_0 l2_1 a2_2 l2_3) = some r := by rw [if_neg (show ¬ (false = true) by decide)] at H; exact H
    clear H
    have H := H1
    clear H1
    have H' := am H
    clear H
    obtain ⟨hcz16_0, hcz16_1, hcz16_2, hcz16_3⟩ := zc4 BK432
    obtain ⟨hfz16_0, hfz16_1, hfz16_2, hfz16_3⟩ := zf4 BK432
    go_wp2
    go_loopg [44] kj3 (fun kq v44 w' => ∃ (x44_2 : Int), v44 = .int .i64 x44_2 ∧ Aside0 (record_check.l0 kq l0 a1 l2_1 (l2_1.length : Int) x44_2 a2_0 l2_1 a2_2 l2_3 = some r) ∧ Aside0 (kq ≤ kj3) ∧ Aside0 (w'.heap[gb432]? = some (.cells #[.int .i64 a2_0, (.slice A2_1 l2_1.length c2_1), .int .i64 a2_2, (.slice A2_3 l2_3.length c2_3)] 49 (0, 0))) ∧ Aside0 (Below w.heap.size w w'))
    case atStart => exact ⟨(0), zr, H', ⟨Nat.le_refl _⟩, ⟨by refine zu ?_; exact BK432.out⟩, ⟨zb HB⟩⟩
    case round =>
     clear H'
     obtain ⟨x44_2, rfl, HA, HK2, BK432, HB⟩ := hrel
     cases gk with
     | zero => exact absurd HA.out (by simp [record_check.l0])
     | succ k2 =>
      have H := HA.out
      clear HA
      simp only [record_check.l0] at H
      by_cases c17 : x44_2 < (l2_1.length : Int)
      ·
       rw [if_pos c17] at H
       have c17b0 := decide_eq_true c17
       clear c17
       by_cases c18 : 0 ≤ x44_2
       ·
        rw [if_pos c18] at H
        have c18b0 := decide_eq_true c18
        clear c18
        by_cases c19 : x44_2 < (l2_1.length : Int)
        ·
         rw [if_pos c19] at H
         have c19b0 := decide_eq_true c19
         clear c19
         by_cases c20 : ((rd_T57 l2_1 x44_2).f0) < 0
         ·
          rw [if_pos c20] at H
          have c20b0 := decide_eq_true c20
          clear c20
          obtain rfl := Option.some.inj H
          have p433 : 0 ≤ (x44_2 : Int) := zo
          have q433 : x44_2 < (l2_1.length : Int) := zo
          obtain ⟨ad433, e433, hx433_0, hx433_1⟩ := at_T57 HR2_1.out x44_2 p433 q433
          cases e433
          replace hx433_0 := zx HB hx433_0
          replace hx433_1 := zx HB hx433_1
          replace p433 := eq_true p433
          replace q433 := eq_true q433
          go_wp2_with (first | ((with_reducible refine gate_dst (N := 8) rfl ?_); (try (refine gate_guard (by rfl) ?_; dsimp only)); refine zB 8 #[.int .i64 0, .int .i64 0] 57 ?_; intro gb434 hg w21 hbox hb; have BK434 := am (hbox); have GE434 := zG hg (zb HB); replace HB := am (below_step (zb HB) hb); have NB432_434 := zn hg BK432; have NB434_432 := zm hg BK432; replace BK432 := zk BK432 hb; clear hb hbox hg; have hnb22 := NB434_432.out; have hnc22 := NB432_434.out; obtain ⟨hcz23_0, hcz23_1⟩ := zc2 BK434; obtain ⟨hfz23_0, hfz23_1⟩ := zf2 BK434))
          go_ret
          exact ⟨ze, zb HB⟩
         ·
          rw [if_neg c20] at H
          have c20b0 := decide_eq_false c20
          clear c20
          by_cases c24 : ((rd_T57 l2_1 x44_2).f1) < 0
          ·
           rw [if_pos c24] at H
           have c24b0 := decide_eq_true c24
           clear c24
           obtain rfl := Option.some.inj H
           have p433 : 0 ≤ (x44_2 : Int) := zo
           have q433 : x44_2 < (l2_1.length : Int) := zo
           obtain ⟨ad433, e433, hx433_0, hx433_1⟩ := at_T57 HR2_1.out x44_2 p433 q433
           cases e433
           replace hx433_0 := zx HB hx433_0
           replace hx433_1 := zx HB hx433_1
           replace p433 := eq_true p433
           replace q433 := eq_true q433
           go_wp2_with (first | ((with_reducible refine gate_dst (N := 8) rfl ?_); (try (refine gate_guard (by rfl) ?_; dsimp only)); refine zB 8 #[.int .i64 0, .int .i64 0] 57 ?_; intro gb434 hg w25 hbox hb; have BK434 := am (hbox); have GE434 := zG hg (zb HB); replace HB := am (below_step (zb HB) hb); have NB432_434 := zn hg BK432; have NB434_432 := zm hg BK432; replace BK432 := zk BK432 hb; clear hb hbox hg; have hnb26 := NB434_432.out; have hnc26 := NB432_434.out; obtain ⟨hcz27_0, hcz27_1⟩ := zc2 BK434; obtain ⟨hfz27_0, hfz27_1⟩ := zf2 BK434))
           go_ret
           exact ⟨ze, zb HB⟩
          ·
           rw [if_neg c24] at H
           have c24b0 := decide_eq_false c24
           clear c24
           by_cases c28 : ((rd_T57 l2_1 x44_2).f1) ≥ a1
           ·
            rw [if_pos c28] at H
            have c28b0 : decide (a1 ≤ ((rd_T57 l2_1 x44_2).f1)) = true := decide_eq_true c28
            clear c28
            obtain rfl := Option.some.inj H
            have p433 : 0 ≤ (x44_2 : Int) := zo
            have q433 : x44_2 < (l2_1.length : Int) := zo
            obtain ⟨ad433, e433, hx433_0, hx433_1⟩ := at_T57 HR2_1.out x44_2 p433 q433
            cases e433
            replace hx433_0 := zx HB hx433_0
            replace hx433_1 := zx HB hx433_1
            replace p433 := eq_true p433
            replace q433 := eq_true q433
            go_wp2_with (first | ((with_reducible refine gate_dst (N := 8) rfl ?_); (try (refine gate_guard (by rfl) ?_; dsimp only)); refine zB 8 #[.int .i64 0, .int .i64 0] 57 ?_; intro gb434 hg w29 hbox hb; have BK434 := am (hbox); have GE434 := zG hg (zb HB); replace HB := am (below_step (zb HB) hb); have NB432_434 := zn hg BK432; have NB434_432 := zm hg BK432; replace BK432 := zk BK432 hb; clear hb hbox hg; have hnb30 := NB434_432.out; have hnc30 := NB432_434.out; obtain ⟨hcz31_0, hcz31_1⟩ := zc2 BK434; obtain ⟨hfz31_0, hfz31_1⟩ := zf2 BK434))
            go_ret
            exact ⟨ze, zb HB⟩
           ·
            rw [if_neg c28] at H
            have c28b0 : decide (a1 ≤ ((rd_T57 l2_1 x44_2).f1)) = false := decide_eq_false c28
            clear c28
            have H' := am H
            clear H
            have p433 : 0 ≤ (x44_2 : Int) := zo
            have q433 : x44_2 < (l2_1.length : Int) := zo
            obtain ⟨ad433, e433, hx433_0, hx433_1⟩ := at_T57 HR2_1.out x44_2 p433 q433
            cases e433
            replace hx433_0 := zx HB hx433_0
            replace hx433_1 := zx HB hx433_1
            replace p433 := eq_true p433
            replace q433 := eq_true q433
            go_wp2_with (first | ((with_reducible refine gate_dst (N := 8) rfl ?_); (try (refine gate_guard (by rfl) ?_; dsimp only)); refine zB 8 #[.int .i64 0, .int .i64 0] 57 ?_; intro gb434 hg w32 hbox hb; have BK434 := am (hbox); have GE434 := zG hg (zb HB); replace HB := am (below_step (zb HB) hb); have NB432_434 := zn hg BK432; have NB434_432 := zm hg BK432; replace BK432 := zk BK432 hb; clear hb hbox hg; have hnb33 := NB434_432.out; have hnc33 := NB432_434.out; obtain ⟨hcz34_0, hcz34_1⟩ := zc2 BK434; obtain ⟨hfz34_0, hfz34_1⟩ := zf2 BK434))
            go_roundg k2
            case measure => have := HJ3.out; have := HK2.out; omega
            case rel => exact ⟨(wrap64 (x44_2 + 1)), zr, H', ⟨by have := HJ3.out; have := HK2.out; omega⟩, ⟨by refine zu ?_; refine blk_far ?_ NB432_434.out _; refine zu ?_; refine blk_far ?_ NB432_434.out _; refine zu ?_; exact BK432.out⟩, ⟨zb HB⟩⟩
        ·
         rw [if_neg c19] at H
         exact absurd H (by simp)
       ·
        rw [if_neg c18] at H
        exact absurd H (by simp)
      ·
       rw [if_neg c17] at H
       have c17b0 := decide_eq_false c17
       clear c17
       have H' := am H
       clear H
       obtain ⟨hcz35_0, hcz35_1, hcz35_2, hcz35_3⟩ := zc4 BK432
       obtain ⟨hfz35_0, hfz35_1, hfz35_2, hfz35_3⟩ := zf4 BK432
       go_wp2
       go_loopg [66] k2 (fun kq v66 w' => ∃ (x66_3 : Int), v66 = .int .i64 x66_3 ∧ Aside0 (record_check.l1 kq l0 a1 l2_3 (l2_3.length : Int) x66_3 = some r) ∧ Aside0 (kq ≤ k2) ∧ Aside0 (w'.heap[gb432]? = some (.cells #[.int .i64 a2_0, (.slice A2_1 l2_1.length c2_1), .int .i64 a2_2, (.slice A2_3 l2_3.length c2_3)] 49 (0, 0))) ∧ Aside0 (Below w.heap.size w w'))
       case atStart => exact ⟨(0), zr, H', ⟨Nat.le_refl _⟩, ⟨by refine zu ?_; exact BK432.out⟩, ⟨zb HB⟩⟩
       case round =>
        clear H'
        obtain ⟨x66_3, rfl, HA, HK3, BK432, HB⟩ := hrel
        cases gk with
        | zero => exact absurd HA.out (by simp [record_check.l1])
        | succ k3 =>
         have H := HA.out
         clear HA
         simp only [record_check.l1] at H
         by_cases c36 : x66_3 < (l2_3.length : Int)
         ·
          rw [if_pos c36] at H
          have c36b0 := decide_eq_true c36
          clear c36
          by_cases c37 : 0 ≤ x66_3
          ·
           rw [if_pos c37] at H
           have c37b0 := decide_eq_true c37
           clear c37
           by_cases c38 : x66_3 < (l2_3.length : Int)
           ·
            rw [if_pos c38] at H
            have c38b0 := decide_eq_true c38
            clear c38
            by_cases c39 : (rd l2_3 x66_3) < 0
            ·
             rw [if_pos c39] at H
             have c39b0 := decide_eq_true c39
             clear c39
             obtain rfl := Option.some.inj H
             have p435 : 0 ≤ (x66_3 : Int) := zo
             have q435 : x66_3 < (l2_3.length : Int) := zo
             obtain ⟨ad435, e435, hx435_0⟩ := Kd.at_int HR2_3.out x66_3 p435 q435
             cases e435
             replace hx435_0 := zx HB hx435_0
             replace p435 := eq_true p435
             replace q435 := eq_true q435
             go_wp2
             go_ret
             exact ⟨ze, zb HB⟩
            ·
             rw [if_neg c39] at H
             have c39b0 := decide_eq_false c39
             clear c39
             have H' := am H
             clear H
             have p435 : 0 ≤ (x66_3 : Int) := zo
             have q435 : x66_3 < (l2_3.length : Int) := zo
             obtain ⟨ad435, e435, hx435_0⟩ := Kd.at_int HR2_3.out x66_3 p435 q435
             cases e435
             replace hx435_0 := zx HB hx435_0
             replace p435 := eq_true p435
             replace q435 := eq_true q435
             go_wp2
             go_roundg k3
             case measure => have := HJ3.out; have := HK2.out; have := HK3.out; omega
             case rel => exact ⟨(wrap64 (x66_3 + 1)), zr, H', ⟨by have := HJ3.out; have := HK2.out; have := HK3.out; omega⟩, ⟨by refine zu ?_; exact BK432.out⟩, ⟨zb HB⟩⟩
           ·
            rw [if_neg c38] at H
            exact absurd H (by simp)
          ·
           rw [if_neg c37] at H
           exact absurd H (by simp)
         ·
          rw [if_neg c36] at H
          have c36b0 := decide_eq_false c36
          clear c36
          by_cases c40 : (l0.length : Int) > 400
          ·
           rw [if_pos c40] at H
           have c40b0 : decide (400 < (l0.length : Int)) = true := decide_eq_true c40
           have c40b1 : decide (400 < l0.length) = true := decide_eq_true (by omega)
           clear c40
           obtain rfl := Option.some.inj H
           go_wp2
           go_ret
           exact ⟨ze, zb HB⟩
          ·
           rw [if_neg c40] at H
           have c40b0 : decide (400 < (l0.length : Int)) = false := decide_eq_false c40
           have c40b1 : decide (400 < l0.length) = false := decide_eq_false (by omega)
           clear c40
           have H' := am H
           clear H
           go_wp2
           go_loopg [78] k3 (fun kq v78 w' => ∃ (x78_4 : Int), v78 = .int .i64 x78_4 ∧ Aside0 (record_check.l2 kq a1 l0 (l0.length : Int) x78_4 = some r) ∧ Aside0 (kq ≤ k3) ∧ Aside0 (w'.heap[gb432]? = some (.cells #[.int .i64 a2_0, (.slice A2_1 l2_1.length c2_1), .int .i64 a2_2, (.slice A2_3 l2_3.length c2_3)] 49 (0, 0))) ∧ Aside0 (Below w.heap.size w w'))
           case atStart => exact ⟨(0), zr, H', ⟨Nat.le_refl _⟩, ⟨by refine zu ?_; exact BK432.out⟩, ⟨zb HB⟩⟩
           case round =>
            clear H'
            obtain ⟨x78_4, rfl, HA, HK4, BK432, HB⟩ := hrel
            cases gk with
            | zero => exact absurd HA.out (by simp [record_check.l2])
            | succ k4 =>
             have H := HA.out
             clear HA
             simp only [record_check.l2] at H
             by_cases c41 : x78_4 < (l0.length : Int)
             ·
              rw [if_pos c41] at H
              have c41b0 := decide_eq_true c41
              clear c41
              by_cases c42 : 0 ≤ x78_4
              ·
               rw [if_pos c42] at H
               have c42b0 := decide_eq_true c42
               clear c42
               by_cases c43 : x78_4 < (l0.length : Int)
               ·
                rw [if_pos c43] at H
                have c43b0 := decide_eq_true c43
                clear c43
                by_cases c44 : ((rd_T24 l0 x78_4).f0) < 0
                ·
                 rw [if_pos c44] at H
                 have c44b0 := decide_eq_true c44
                 clear c44
                 obtain rfl := Option.some.inj H
                 have p436 : 0 ≤ (x78_4 : Int) := zo
                 have q436 : x78_4 < (l0.length : Int) := zo
                 obtain ⟨ad436, A436_5, c436_5, A436_6, c436_6, e436, hx436_0, hx436_1, hx436_2, hx436_3, hx436_4, hx436_5, hx436_6, hl436_5, hi436_5, hl436_6, hi436_6⟩ := at_T24 HR0.out x78_4 p436 q436
                 cases e436
                 replace hx436_0 := zx HB hx436_0
                 replace hx436_1 := zx HB hx436_1
                 replace hx436_2 := zx HB hx436_2
                 replace hx436_3 := zx HB hx436_3
                 replace hx436_4 := zx HB hx436_4
                 replace hx436_5 := zx HB hx436_5
                 replace hx436_6 := zx HB hx436_6
                 have HR436_5 := am hi436_5
                 have HC436_5 := am hl436_5
                 clear hi436_5 hl436_5
                 have HR436_6 := am hi436_6
                 have HC436_6 := am hl436_6
                 clear hi436_6 hl436_6
                 replace p436 := eq_true p436
                 replace q436 := eq_true q436
                 go_wp2_with (first | ((with_reducible refine gate_dst (N := 12) rfl ?_); (try (refine gate_guard (by rfl) ?_; dsimp only)); refine zB 12 #[.int .i64 0, .int .i64 0, .int .i64 0, .int .i64 0, .int .i64 0, .slice none 0 0, .slice none 0 0] 24 ?_; intro gb437 hg w45 hbox hb; have BK437 := am (hbox); have GE437 := zG hg (zb HB); replace HB := am (below_step (zb HB) hb); have NB432_437 := zn hg BK432; have NB437_432 := zm hg BK432; replace BK432 := zk BK432 hb; clear hb hbox hg; have hnb46 := NB437_432.out; have hnc46 := NB432_437.out; obtain ⟨_, _, _, _, _, _, _, _, _, _, _, _, _, _⟩ := zq7 BK437))
                 go_ret
                 exact ⟨ze, zb HB⟩
                ·
                 rw [if_neg c44] at H
                 have c44b0 := decide_eq_false c44
                 clear c44
                 by_cases c48 : ((rd_T24 l0 x78_4).f0) ≥ a1
                 ·
                  rw [if_pos c48] at H
                  have c48b0 : decide (a1 ≤ ((rd_T24 l0 x78_4).f0)) = true := decide_eq_true c48
                  clear c48
                  obtain rfl := Option.some.inj H
                  have p436 : 0 ≤ (x78_4 : Int) := zo
                  have q436 : x78_4 < (l0.length : Int) := zo
                  obtain ⟨ad436, A436_5, c436_5, A436_6, c436_6, e436, hx436_0, hx436_1, hx436_2, hx436_3, hx436_4, hx436_5, hx436_6, hl436_5, hi436_5, hl436_6, hi436_6⟩ := at_T24 HR0.out x78_4 p436 q436
                  cases e436
                  replace hx436_0 := zx HB hx436_0
                  replace hx436_1 := zx HB hx436_1
                  replace hx436_2 := zx HB hx436_2
                  replace hx436_3 := zx HB hx436_3
                  replace hx436_4 := zx HB hx436_4
                  replace hx436_5 := zx HB hx436_5
                  replace hx436_6 := zx HB hx436_6
                  have HR436_5 := am hi436_5
                  have HC436_5 := am hl436_5
                  clear hi436_5 hl436_5
                  have HR436_6 := am hi436_6
                  have HC436_6 := am hl436_6
                  clear hi436_6 hl436_6
                  replace p436 := eq_true p436
                  replace q436 := eq_true q436
                  go_wp2_with (first | ((with_reducible refine gate_dst (N := 12) rfl ?_); (try (refine gate_guard (by rfl) ?_; dsimp only)); refine zB 12 #[.int .i64 0, .int .i64 0, .int .i64 0, .int .i64 0, .int .i64 0, .slice none 0 0, .slice none 0 0] 24 ?_; intro gb437 hg w49 hbox hb; have BK437 := am (hbox); have GE437 := zG hg (zb HB); replace HB := am (below_step (zb HB) hb); have NB432_437 := zn hg BK432; have NB437_432 := zm hg BK432; replace BK432 := zk BK432 hb; clear hb hbox hg; have hnb50 := NB437_432.out; have hnc50 := NB432_437.out; obtain ⟨_, _, _, _, _, _, _, _, _, _, _, _, _, _⟩ := zq7 BK437))
                  go_ret
                  exact ⟨ze, zb HB⟩
                 ·
                  rw [if_neg c48] at H
                  have c48b0 : decide (a1 ≤ ((rd_T24 l0 x78_4).f0)) = false := decide_eq_false c48
                  clear c48
                  by_cases c52 : (((rd_T24 l0 x78_4).f5).length : Int) > 400
                  ·
                   rw [if_pos c52] at H
                   have c52b0 : decide (400 < (((rd_T24 l0 x78_4).f5).length : Int)) = true := decide_eq_true c52
                   have c52b1 : decide (400 < ((rd_T24 l0 x78_4).f5).length) = true := decide_eq_true (by omega)
                   clear c52
                   obtain rfl := Option.some.inj H
                   have p436 : 0 ≤ (x78_4 : Int) := zo
                   have q436 : x78_4 < (l0.length : Int) := zo
                   obtain ⟨ad436, A436_5, c436_5, A436_6, c436_6, e436, hx436_0, hx436_1, hx436_2, hx436_3, hx436_4, hx436_5, hx436_6, hl436_5, hi436_5, hl436_6, hi436_6⟩ := at_T24 HR0.out x78_4 p436 q436
                   cases e436
                   replace hx436_0 := zx HB hx436_0
                   replace hx436_1 := zx HB hx436_1
                   replace hx436_2 := zx HB hx436_2
                   replace hx436_3 := zx HB hx436_3
                   replace hx436_4 := zx HB hx436_4
                   replace hx436_5 := zx HB hx436_5
                   replace hx436_6 := zx HB hx436_6
                   have HR436_5 := am hi436_5
                   have HC436_5 := am hl436_5
                   clear hi436_5 hl436_5
                   have HR436_6 := am hi436_6
                   have HC436_6 := am hl436_6
                   clear hi436_6 hl436_6
                   replace p436 := eq_true p436
                   replace q436 := eq_true q436
                   go_wp2_with (first | ((with_reducible refine gate_dst (N := 12) rfl ?_); (try (refine gate_guard (by rfl) ?_; dsimp only)); refine zB 12 #[.int .i64 0, .int .i64 0, .int .i64 0, .int .i64 0, .int .i64 0, .slice none 0 0, .slice none 0 0] 24 ?_; intro gb437 hg w53 hbox hb; have BK437 := am (hbox); have GE437 := zG hg (zb HB); replace HB := am (below_step (zb HB) hb); have NB432_437 := zn hg BK432; have NB437_432 := zm hg BK432; replace BK432 := zk BK432 hb; clear hb hbox hg; have hnb54 := NB437_432.out; have hnc54 := NB432_437.out; obtain ⟨_, _, _, _, _, _, _, _, _, _, _, _, _, _⟩ := zq7 BK437))
                   go_ret
                   exact ⟨ze, zb HB⟩
                  ·
                   rw [if_neg c52] at H
                   have c52b0 : decide (400 < (((rd_T24 l0 x78_4).f5).length : Int)) = false := decide_eq_false c52
                   have c52b1 : decide (400 < ((rd_T24 l0 x78_4).f5).length) = false := decide_eq_false (by omega)
                   clear c52
                   by_cases c56 : (((rd_T24 l0 x78_4).f6).length : Int) > 400
                   ·
                    rw [if_pos c56] at H
                    have c56b0 : decide (400 < (((rd_T24 l0 x78_4).f6).length : Int)) = true := decide_eq_true c56
                    have c56b1 : decide (400 < ((rd_T24 l0 x78_4).f6).length) = true := decide_eq_true (by omega)
                    clear c56
                    obtain rfl := Option.some.inj H
                    have p436 : 0 ≤ (x78_4 : Int) := zo
                    have q436 : x78_4 < (l0.length : Int) := zo
                    obtain ⟨ad436, A436_5, c436_5, A436_6, c436_6, e436, hx436_0, hx436_1, hx436_2, hx436_3, hx436_4, hx436_5, hx436_6, hl436_5, hi436_5, hl436_6, hi436_6⟩ := at_T24 HR0.out x78_4 p436 q436
                    cases e436
                    replace hx436_0 := zx HB hx436_0
                    replace hx436_1 := zx HB hx436_1
                    replace hx436_2 := zx HB hx436_2
                    replace hx436_3 := zx HB hx436_3
                    replace hx436_4 := zx HB hx436_4
                    replace hx436_5 := zx HB hx436_5
                    replace hx436_6 := zx HB hx436_6
                    have HR436_5 := am hi436_5
                    have HC436_5 := am hl436_5
                    clear hi436_5 hl436_5
                    have HR436_6 := am hi436_6
                    have HC436_6 := am hl436_6
                    clear hi436_6 hl436_6
                    replace p436 := eq_true p436
                    replace q436 := eq_true q436
                    go_wp2_with (first | ((with_reducible refine gate_dst (N := 12) rfl ?_); (try (refine gate_guard (by rfl) ?_; dsimp only)); refine zB 12 #[.int .i64 0, .int .i64 0, .int .i64 0, .int .i64 0, .int .i64 0, .slice none 0 0, .slice none 0 0] 24 ?_; intro gb437 hg w57 hbox hb; have BK437 := am (hbox); have GE437 := zG hg (zb HB); replace HB := am (below_step (zb HB) hb); have NB432_437 := zn hg BK432; have NB437_432 := zm hg BK432; replace BK432 := zk BK432 hb; clear hb hbox hg; have hnb58 := NB437_432.out; have hnc58 := NB432_437.out; obtain ⟨_, _, _, _, _, _, _, _, _, _, _, _, _, _⟩ := zq7 BK437))
                    go_ret
                    exact ⟨ze, zb HB⟩
                   ·
                    rw [if_neg c56] at H
                    have c56b0 : decide (400 < (((rd_T24 l0 x78_4).f6).length : Int)) = false := decide_eq_false c56
                    have c56b1 : decide (400 < ((rd_T24 l0 x78_4).f6).length) = false := decide_eq_false (by omega)
                    clear c56
                    have H' := am H
                    clear H
                    have p436 : 0 ≤ (x78_4 : Int) := zo
                    have q436 : x78_4 < (l0.length : Int) := zo
                    obtain ⟨ad436, A436_5, c436_5, A436_6, c436_6, e436, hx436_0, hx436_1, hx436_2, hx436_3, hx436_4, hx436_5, hx436_6, hl436_5, hi436_5, hl436_6, hi436_6⟩ := at_T24 HR0.out x78_4 p436 q436
                    cases e436
                    replace hx436_0 := zx HB hx436_0
                    replace hx436_1 := zx HB hx436_1
                    replace hx436_2 := zx HB hx436_2
                    replace hx436_3 := zx HB hx436_3
                    replace hx436_4 := zx HB hx436_4
                    replace hx436_5 := zx HB hx436_5
                    replace hx436_6 := zx HB hx436_6
                    have HR436_5 := am hi436_5
                    have HC436_5 := am hl436_5
                    clear hi436_5 hl436_5
                    have HR436_6 := am hi436_6
                    have HC436_6 := am hl436_6
                    clear hi436_6 hl436_6
                    replace p436 := eq_true p436
                    replace q436 := eq_true q436
                    go_wp2_with (first | ((with_reducible refine gate_dst (N := 12) rfl ?_); (try (refine gate_guard (by rfl) ?_; dsimp only)); refine zB 12 #[.int .i64 0, .int .i64 0, .int .i64 0, .int .i64 0, .int .i64 0, .slice none 0 0, .slice none 0 0] 24 ?_; intro gb437 hg w60 hbox hb; have BK437 := am (hbox); have GE437 := zG hg (zb HB); replace HB := am (below_step (zb HB) hb); have NB432_437 := zn hg BK432; have NB437_432 := zm hg BK432; replace BK432 := zk BK432 hb; clear hb hbox hg; have hnb61 := NB437_432.out; have hnc61 := NB432_437.out; obtain ⟨_, _, _, _, _, _, _, _, _, _, _, _, _, _⟩ := zq7 BK437))
                    go_roundg k4
                    case measure => have := HJ3.out; have := HK2.out; have := HK3.out; have := HK4.out; omega
                    case rel => exact ⟨(wrap64 (x78_4 + 1)), zr, H', ⟨by have := HJ3.out; have := HK2.out; have := HK3.out; have := HK4.out; omega⟩, ⟨by refine zu ?_; refine blk_far ?_ NB432_437.out _; refine zu ?_; refine blk_far ?_ NB432_437.out _; refine zu ?_; refine blk_far ?_ NB432_437.out _; refine zu ?_; refine blk_far ?_ NB432_437.out _; refine zu ?_; refine blk_far ?_ NB432_437.out _; refine zu ?_; refine blk_far ?_ NB432_437.out _; refine zu ?_; refine blk_far ?_ NB432_437.out _; refine zu ?_; exact BK432.out⟩, ⟨zb HB⟩⟩
               ·
                rw [if_neg c43] at H
                exact absurd H (by simp)
              ·
               rw [if_neg c42] at H
               exact absurd H (by simp)
             ·
              rw [if_neg c41] at H
              have c41b0 := decide_eq_false c41
              clear c41
              obtain rfl := Option.some.inj H
              go_wp2
              go_ret
              exact ⟨ze, zb HB⟩
mutual
def j11_PutInt.j0 : Nat → List Int → Int → Option (List Int)
 | 0, _, _ => none
 | k + 1, x0, x5 => (some (([] : List Int) : List Int)).bind fun y189 => (if y189.length + x0.length < 140737488355328 then (j11_PutInt.l0 k x5 (y189 ++ x0)) else (none))
def j11_PutInt.l0 : Nat → Int → List Int → Option (List Int)
 | 0, _, _ => none
 | k + 1, x5, x6 => if x5 ≥ 128 then (if x6.length < 140737488355328 then (j11_PutInt.l0 k (x5 / 128) (x6 ++ [Go.bits .or .u8 ((x5) % 256) 128])) else (none)) else (if x6.length < 140737488355328 then (some (x6 ++ [(x5) % 256])) else (none))
end
def j11_PutInt.f (k : Nat) (l0 : List Int) (a1 : Int) : Option (List Int) := if a1 < 0 then (j11_PutInt.j0 k l0 (Go.bits .xor .u64 18446744073709551615 (IntKind.u64.wrap ((IntKind.u64.wrap (a1)) * 2)))) else (j11_PutInt.j0 k l0 (IntKind.u64.wrap ((IntKind.u64.wrap (a1)) * 2)))
theorem j11_PutInt.mono_l : ∀ k, (∀ y0 y1, LeO (j11_PutInt.j0 k y0 y1) (j11_PutInt.j0 (k + 1) y0 y1)) ∧ (∀ y0 y1, LeO (j11_PutInt.l0 k y0 y1) (j11_PutInt.l0 (k + 1) y0 y1))
 | 0 => ⟨fun _ _ r h => by simp [j11_PutInt.j0] at h, fun _ _ r h => by simp [j11_PutInt.l0] at h⟩
 | k + 1 => by
  obtain ⟨ih0, ih1⟩ := j11_PutInt.mono_l k
  refine ⟨?_, ?_⟩
  ·
   intro y0 y1
   unfold j11_PutInt.j0
   exact zM
  ·
   intro y0 y1
   unfold j11_PutInt.l0
   exact zM
theorem j11_PutInt.mono : ∀ a0 a1 k, LeO (j11_PutInt.f k a0 a1) (j11_PutInt.f (k + 1) a0 a1) := by
 intro a0 a1 k
 obtain ⟨ih0, ih1⟩ := j11_PutInt.mono_l k
 unfold j11_PutInt.f
 exact zM
set_option maxHeartbeats 8000000 in
set_option maxRecDepth 100000 in
theorem j11_PutInt.calls (k : Nat) (A0 : Option Addr) (c0 : Nat) (l0 : List Int) (a1 : Int) (r : List Int) (w : World) (hr0 : Kd.C (Kd.int .u8) w A0 l0.length l0) (hc0 : l0.length ≤ c0) (h : j11_PutInt.f k l0 a1 = some r) :
  Calls Try.prog 45 #[.slice A0 l0.length c0, .int .i64 a1] w fun e w' => ∃ v0_ : Value, e = .returned (v0_) ∧ Kd.R (Kd.int .u8) 5 w' w.heap.size (fun _ => True) v0_ r ∧ Below w.heap.size w w' := by
 have HR0 := am hr0
 have HC0 := am hc0
 clear hr0 hc0
 have HB := am (Below.refl w.heap.size w)
 have H : (if a1 < 0 then (j11_PutInt.j0 k l0 (Go.bits .xor .u64 18446744073709551615 (IntKind.u64.wrap ((IntKind.u64.wrap (a1)) * 2)))) else (j11_PutInt.j0 k l0 (IntKind.u64.wrap ((IntKind.u64.wrap (a1)) * 2)))) = some r := h
 clear h
 have HC3 := am H
 clear H
 go_enter Try.func45, Try.ntmps45
 go_upto_if 11 with (fail)
 go_cut [5] (fun v5 wc => ∃ (kq : Nat) (x5_2 : Int), v5 = .int .u64 x5_2 ∧ Aside0 (j11_PutInt.j0 kq l0 x5_2 = some r) ∧ Aside0 (kq ≤ k) ∧ Aside0 (Below w.heap.size w wc))
 case first =>
  have H := HC3.out
  clear HC3
  by_cases c4 : a1 < 0
  ·
   rw [if_pos c4] at H
   have c4b0 := decide_eq_true c4
   clear c4
   (first | rw [c4b0] | (simp only [i64_w, i32_w]; rw [c4b0]) | skip)
   have H' := am H
   clear H
   go_wp2
   go_meet
   case rel => exact ⟨_, (Go.bits .xor .u64 18446744073709551615 (IntKind.u64.wrap ((IntKind.u64.wrap (a1)) * 2))), zr, H', ⟨by first | omega | exact Nat.le_refl _⟩, ⟨zb HB⟩⟩
  ·
   rw [if_neg c4] at H
   have c4b0 := decide_eq_false c4
   clear c4
   (first | rw [c4b0] | (simp only [i64_w, i32_w]; rw [c4b0]) | skip)
   have H' := am H
   clear H
   go_wp2
   go_meet
   case rel => exact ⟨_, (IntKind.u64.wrap ((IntKind.u64.wrap (a1)) * 2)), zr, H', ⟨by first | omega | exact Nat.le_refl _⟩, ⟨zb HB⟩⟩
 case rest =>
  clear HC3
  obtain ⟨kq, x5_2, rfl, HA, HJ2, HB⟩ := hcut
  cases kq with
  | zero => exact absurd HA.out (by simp [j11_PutInt.j0])
  | succ kj2 =>
   have H := HA.out
   clear HA
   simp only [j11_PutInt.j0] at H
   obtain ⟨y189, hy189⟩ : ∃ y_ : List Int, y_ = (([] : List Int)) := ⟨_, rfl⟩
   replace H : (if y189.length + l0.length < 140737488355328 then (j11_PutInt.l0 kj2 x5_2 (y189 ++ l0)) else (none)) = some r := by first | (rw [hy189]; with_reducible exact H) | (have H2_ := (Option.bind_some _ _).symm.trans H; rw [hy189]; with_reducible exact H2_) | (have H2_ := (Option.bind_some _ _).symm.trans H; with_reducible exact H2_) | with_reducible exact H | (rw [hy189]; exact H) | exact H
   have Ny189 := am hy189
   clear hy189
   by_cases c5 : y189.length + l0.length < 140737488355328
   ·
    rw [if_pos c5] at H
    have LMc5 := am c5
    clear c5
    obtain ⟨y192, hy192⟩ : ∃ y_ : List Int, y_ = (y189 ++ l0) := ⟨_, rfl⟩
    replace H : (j11_PutInt.l0 kj2 x5_2 y192) = some r := by first | (rw [hy192]; with_reducible exact H) | (have H2_ := (Option.bind_some _ _).symm.trans H; rw [hy192]; with_reducible exact H2_) | (have H2_ := (Option.bind_some _ _).symm.trans H; with_reducible exact H2_) | with_reducible exact H | (rw [hy192]; exact H) | exact H
    have Ny192 := am hy192
    clear hy192
    have H' := am H
    clear H
    go_wp2_with (first | ((with_reducible refine gate_dst (N := 14) rfl ?_); refine Kd.R_lit (Kd.int .u8) _ 5 ?hg (N := 14) ?hd (xs := ([] : List Int)) (inner := []) (ok := fun _ => True) (okp := fun _ => True) ?hr ?hp (fun _ hk => hk) trivial (Below.refl _ _) (Nat.le_refl _) (by simp) ?_; (case hd => rfl); (case hg => rfl); (case hr => exact y6); (case hp => exact (Reps.none _ _)); intro v190 w6 ho7 hb hg_ hnew_; clear hg_ hnew_; (first | rw [← Ny189.out] at ho7 | (simp only [Int.reduceToNat] at ho7; rw [← Ny189.out] at ho7)); have HO191 := am (Kd.R_lower ho7 (below_size (zb HB))); replace HB := am (below_step (zb HB) hb); clear hb ho7) | ((with_reducible refine gate_builtin (b := .append) (xs := #[.tmp 14, .tmp 15]) rfl ?_); at_builtin; refine Kd.R_append_rows (Kd.int .u8) (w0 := w) w.heap.size rfl (.tmp 14) (.tmp 15) 27 5 (.int .u8 0) 1 rfl Try.underlying27 info5 rfl (by decide) (by omega) v190 y189 l0 _ _ _ (fun _ => True) (fun _ => False) rfl rfl ?aO ?aR (fun _ _ h => h) (fun _ h => h.elim) ?aF ?aB ?aS ?aL ?_; (case aR => repeat (first | exact (Kd.C_below HR0.out HB.out) | (with_reducible refine Kd.C_alloc ?_ _) | (with_reducible refine Kd.C_drewN ?_ _) | (with_reducible refine Kd.C_drew ?_))); (case aB => exact (zb HB)); (case aF => exact (fun _ _ => trivial)); (case aO => exact (zR HO191.out)); (case aS => exact y28); (case aL => have := LMc5.out; omega); intro v193 w8 ho hb hg hat; rw [← Ny192.out] at ho; have n0_ := am (hb); have n1_ := am (ho); clear HB; clear HO191; have HB := n0_; have HO194 := n1_; clear n0_ n1_; clear ho hb hg hat))
    go_loopg [5, 6] kj2 (fun kq v5 v6 w' => ∃ (x5_2 : Int) (x6_2 : List Int), v5 = .int .u64 x5_2 ∧ Aside0 (j11_PutInt.l0 kq x5_2 x6_2 = some r) ∧ Aside0 (kq ≤ kj2) ∧ Aside0 (Kd.R (Kd.int .u8) 5 w' w.heap.size (fun _ => True) v6 x6_2) ∧ Aside0 (Below w.heap.size w w'))
    case atStart => exact ⟨(x5_2), (y192), zr, H', ⟨Nat.le_refl _⟩, ⟨by (with_reducible repeat (first | apply Kd.R_alloc | apply Kd.R_drewN | apply Kd.R_drew)); exact HO194.out⟩, ⟨zb HB⟩⟩
    case round =>
     clear H'
     obtain ⟨x5_2, x6_2, rfl, HA, HK2, HO_6, HB⟩ := hrel
     cases gk with
     | zero => exact absurd HA.out (by simp [j11_PutInt.l0])
     | succ k2 =>
      have H := HA.out
      clear HA
      simp only [j11_PutInt.l0] at H
      by_cases c9 : x5_2 ≥ 128
      ·
       rw [if_pos c9] at H
       have c9b0 : decide (128 ≤ x5_2) = true := decide_eq_true c9
       clear c9
       by_cases c10 : x6_2.length < 140737488355328
       ·
        rw [if_pos c10] at H
        have LMc10 := am c10
        clear c10
        obtain ⟨y195, hy195⟩ : ∃ y_ : List Int, y_ = (x6_2 ++ [Go.bits .or .u8 ((x5_2) % 256) 128]) := ⟨_, rfl⟩
        replace H : (j11_PutInt.l0 k2 (x5_2 / 128) y195) = some r := by first | (rw [hy195]; with_reducible exact H) | (have H2_ := (Option.bind_some _ _).symm.trans H; rw [hy195]; with_reducible exact H2_) | (have H2_ := (Option.bind_some _ _).symm.trans H; with_reducible exact H2_) | with_reducible exact H | (rw [hy195]; exact H) | exact H
        have Ny195 := am hy195
        clear hy195
        have H' := am H
        clear H
        go_wp2_with (first | ((with_reducible refine gate_builtin (b := .append) (xs := #[.tmp 19, .tmp 23]) rfl ?_); at_builtin; refine Kd.R_append (Kd.int .u8) (w0 := w) w.heap.size rfl (.tmp 19) (.tmp 23) 27 5 (.int .u8 0) 1 rfl Try.underlying27 info5 rfl (by decide) (by omega) u6 x6_2 (Go.bits .or .u8 ((x5_2) % 256) 128) [.int .u8 (Go.bits .or .u8 ((x5_2) % 256) 128)] (fun _ => True) (fun _ => False) rfl rfl ?aP (fun _ hk => hk.elim) ?aF ?aO ?aB ?aS ?aL ?_; (case aP => exact rfl); (case aB => exact (zb HB)); (case aF => exact (fun _ _ => trivial)); (case aO => exact (zR HO_6.out)); (case aS => exact y28); (case aL => have := LMc10.out; omega); intro v196 w11 ho hb hg hat; rw [← Ny195.out] at ho; have n0_ := am (hb); have n1_ := am (ho); clear HB; clear HO_6; have HB := n0_; have HO197 := n1_; clear n0_ n1_; clear ho hb hg hat))
        go_roundg k2
        case measure => have := HJ2.out; have := HK2.out; omega
        case rel => exact ⟨(x5_2 / 128), (y195), zr, H', ⟨by have := HJ2.out; have := HK2.out; omega⟩, ⟨by (with_reducible repeat (first | apply Kd.R_alloc | apply Kd.R_drewN | apply Kd.R_drew)); exact HO197.out⟩, ⟨zb HB⟩⟩
       ·
        rw [if_neg c10] at H
        exact absurd H (by simp)
      ·
       rw [if_neg c9] at H
       have c9b0 : decide (128 ≤ x5_2) = false := decide_eq_false c9
       clear c9
       by_cases c12 : x6_2.length < 140737488355328
       ·
        rw [if_pos c12] at H
        have LMc12 := am c12
        clear c12
        obtain ⟨y198, hy198⟩ : ∃ y_ : List Int, y_ = (x6_2 ++ [(x5_2) % 256]) := ⟨_, rfl⟩
        replace H : (some y198) = some r := by first | (rw [hy198]; with_reducible exact H) | (have H2_ := (Option.bind_some _ _).symm.trans H; rw [hy198]; with_reducible exact H2_) | (have H2_ := (Option.bind_some _ _).symm.trans H; with_reducible exact H2_) | with_reducible exact H | (rw [hy198]; exact H) | exact H
        have Ny198 := am hy198
        clear hy198
        obtain rfl := Option.some.inj H
        go_wp2_with (first | ((with_reducible refine gate_builtin (b := .append) (xs := #[.tmp 27, .tmp 30]) rfl ?_); at_builtin; refine Kd.R_append (Kd.int .u8) (w0 := w) w.heap.size rfl (.tmp 27) (.tmp 30) 27 5 (.int .u8 0) 1 rfl Try.underlying27 info5 rfl (by decide) (by omega) u6 x6_2 ((x5_2) % 256) [.int .u8 ((x5_2) % 256)] (fun _ => True) (fun _ => False) rfl rfl ?aP (fun _ hk => hk.elim) ?aF ?aO ?aB ?aS ?aL ?_; (case aP => exact rfl); (case aB => exact (zb HB)); (case aF => exact (fun _ _ => trivial)); (case aO => exact (zR HO_6.out)); (case aS => exact y28); (case aL => have := LMc12.out; omega); intro v199 w13 ho hb hg hat; rw [← Ny198.out] at ho; have n0_ := am (hb); have n1_ := am (ho); clear HB; clear HO_6; have HB := n0_; have HO200 := n1_; clear n0_ n1_; clear ho hb hg hat))
        go_ret
        exact ⟨_, ze, by (with_reducible repeat (first | apply Kd.R_alloc | apply Kd.R_drewN | apply Kd.R_drew)); exact HO200.out, zb HB⟩
       ·
        rw [if_neg c12] at H
        exact absurd H (by simp)
   ·
    rw [if_neg c5] at H
    exact absurd H (by simp)
end Go.Proofs.Ytnmmkgagbfniiaa.A
end
