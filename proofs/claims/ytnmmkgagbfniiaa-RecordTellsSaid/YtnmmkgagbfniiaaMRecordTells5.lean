/- MRecordTells5: texts of this session and of the kit's printer on the road to the statement RecordTells, laid into one and rid of what it doesn't need. No condition beyond what each fact names. -/
import Derived.Test.YtnmmkgagbfniiaaMRecordTells4
import Derived.Test.YtnmmkgagbfniiaaMRecordTells3
section
namespace Go.Proofs.Ytnmmkgagbfniiaa.A
open Go.RowKit Go.Proofs.YtnmmkgagbfniiaaW.PrintWords Go.Proofs.YtnmmkgagbfniiaaW.PrintLast Go.Proofs.YtnmmkgagbfniiaaW.PrintMore
attribute [local go_sem] max2_int min2_int max_two min_two max_three min_three max_four min_four
set_option linter.unusedVariables false
set_option linter.unusedSimpArgs false
mutual
def record_check.j0 : Nat → List (S24) → Int → Bool → Int → List (S57) → Int → List Int → Option (Int)
 | 0, _, _, _, _, _, _, _ => none
 | k + 1, x0, x1, x40, x433000, x433001, x433002, x433003 => if x40 = true then (some 1) else (record_check.l0 k x0 x1 x433001 (x433001.length : Int) 0 x433000 x433001 x433002 x433003)
def record_check.l0 : Nat → List (S24) → Int → List (S57) → Int → Int → Int → List (S57) → Int → List Int → Option (Int)
 | 0, _, _, _, _, _, _, _, _, _ => none
 | k + 1, x0, x1, x42, x43, x44, x433000, x433001, x433002, x433003 => if x44 < x43 then (if 0 ≤ x44 then (if x44 < (x42.length : Int) then (if ((rd_T57 x42 x44).f0) < 0 then (some 1) else (if ((rd_T57 x42 x44).f1) < 0 then (some 1) else (if ((rd_T57 x42 x44).f1) ≥ x1 then (some 1) else (record_check.l0 k x0 x1 x42 x43 (wrap64 (x44 + 1)) x433000 x433001 x433002 x433003)))) else (none)) else (none)) else (record_check.l1 k x0 x1 x433003 (x433003.length : Int) 0)
def record_check.l1 : Nat → List (S24) → Int → List Int → Int → Int → Option (Int)
 | 0, _, _, _, _, _ => none
 | k + 1, x0, x1, x64, x65, x66 => if x66 < x65 then (if 0 ≤ x66 then (if x66 < (x64.length : Int) then (if (rd x64 x66) < 0 then (some 1) else (record_check.l1 k x0 x1 x64 x65 (wrap64 (x66 + 1)))) else (none)) else (none)) else (if (x0.length : Int) > 400 then (some 2) else (record_check.l2 k x1 x0 (x0.length : Int) 0))
def record_check.l2 : Nat → Int → List (S24) → Int → Int → Option (Int)
 | 0, _, _, _, _ => none
 | k + 1, x1, x76, x77, x78 => if x78 < x77 then (if 0 ≤ x78 then (if x78 < (x76.length : Int) then (if ((rd_T24 x76 x78).f0) < 0 then (some 1) else (if ((rd_T24 x76 x78).f0) ≥ x1 then (some 1) else (if (((rd_T24 x76 x78).f5).length : Int) > 400 then (some 1) else (if (((rd_T24 x76 x78).f6).length : Int) > 400 then (some 1) else (record_check.l2 k x1 x76 x77 (wrap64 (x78 + 1))))))) else (none)) else (none)) else (some 0)
end
def record_check.f (k : Nat) (l0 : List (S24)) (a1 : Int) (a2_0 : Int) (l2_1 : List (S57)) (a2_2 : Int) (l2_3 : List Int) : Option (Int) := if a1 < 1 then (record_check.j0 k l0 a1 true a2_0 l2_1 a2_2 l2_3) else (if a1 > 4 then (record_check.j0 k l0 a1 true a2_0 l2_1 a2_2 l2_3) else (if a2_0 < 1 then (record_check.j0 k l0 a1 true a2_0 l2_1 a2_2 l2_3) else (if a2_0 > 64 then (record_check.j0 k l0 a1 true a2_0 l2_1 a2_2 l2_3) else (if a2_2 < 0 then (record_check.j0 k l0 a1 true a2_0 l2_1 a2_2 l2_3) else (record_check.j0 k l0 a1 (decide ((l2_3.length : Int) > a1)) a2_0 l2_1 a2_2 l2_3)))))
theorem record_check.mono_l : ∀ k, (∀ y0 y1 y2 y3 y4 y5 y6, LeO (record_check.j0 k y0 y1 y2 y3 y4 y5 y6) (record_check.j0 (k + 1) y0 y1 y2 y3 y4 y5 y6)) ∧ (∀ y0 y1 y2 y3 y4 y5 y6 y7 y8, LeO (record_check.l0 k y0 y1 y2 y3 y4 y5 y6 y7 y8) (record_check.l0 (k + 1) y0 y1 y2 y3 y4 y5 y6 y7 y8)) ∧ (∀ y0 y1 y2 y3 y4, LeO (record_check.l1 k y0 y1 y2 y3 y4) (record_check.l1 (k + 1) y0 y1 y2 y3 y4)) ∧ (∀ y0 y1 y2 y3, LeO (record_check.l2 k y0 y1 y2 y3) (record_check.l2 (k + 1) y0 y1 y2 y3))
 | 0 => ⟨fun _ _ _ _ _ _ _ r h => by simp [record_check.j0] at h, fun _ _ _ _ _ _ _ _ _ r h => by simp [record_check.l0] at h, fun _ _ _ _ _ r h => by simp [record_check.l1] at h, fun _ _ _ _ r h => by simp [record_check.l2] at h⟩
 | k + 1 => by
  obtain ⟨ih0, ih1, ih2, ih3⟩ := record_check.mono_l k
  refine ⟨?_, ?_, ?_, ?_⟩
  ·
   intro y0 y1 y2 y3 y4 y5 y6
   unfold record_check.j0
   exact zM
  ·
   intro y0 y1 y2 y3 y4 y5 y6 y7 y8
   unfold record_check.l0
   exact zM
  ·
   intro y0 y1 y2 y3 y4
   unfold record_check.l1
   exact zM
  ·
   intro y0 y1 y2 y3
   unfold record_check.l2
   exact zM
theorem record_check.mono : ∀ a0 a1 a2 a3 a4 a5 k, LeO (record_check.f k a0 a1 a2 a3 a4 a5) (record_check.f (k + 1) a0 a1 a2 a3 a4 a5) := by
 intro a0 a1 a2 a3 a4 a5 k
 obtain ⟨ih0, ih1, ih2, ih3⟩ := record_check.mono_l k
 unfold record_check.f
 exact zM
set_option maxHeartbeats 8000000 in
set_option maxRecDepth 100000 in
theorem record_check.calls (k : Nat) (A0 : Option Addr) (c0 : Nat) (l0 : List (S24)) (a1 : Int) (a2_0 : Int) (A2_1 : Option Addr) (c2_1 : Nat) (l2_1 : List (S57)) (a2_2 : Int) (A2_3 : Option Addr) (c2_3 : Nat) (l2_3 : List Int) (r : Int) (w : World) (hr0 : Kd.C k24 w A0 l0.length l0) (hc0 : l0.length ≤ c0) (hr2_1 : Kd.C k57 w A2_1 l2_1.length l2_1) (hc2_1 : l2_1.length ≤ c2_1) (hr2_3 : Kd.C (Kd.int .i64) w A2_3 l2_3.length l2_3) (hc2_3 : l2_3.length ≤ c2_3) (h : record_check.f k l0 a1 a2_0 l2_1 a2_2 l2_3 = some r) :
  Calls Try.prog 58 #[.slice A0 l0.length c0, .int .i64 a1, .agg #[.int .i64 a2_0, .slice A2_1 l2_1.length c2_1, .int .i64 a2_2, .slice A2_3 l2_3.length c2_3]] w fun e w' => e = .returned (.int .i64 r) ∧ Below w.heap.size w w' := by
 have hu49 := Try.underlying49
 have hu57 := Try.underlying57
 have hu24 := Try.underlying24
 have HR0 := am hr0
 have HC0 := am hc0
 clear hr0 hc0
 have HR2_1 := am hr2_1
 have HC2_1 := am hc2_1
 clear hr2_1 hc2_1
 have HR2_3 := am hr2_3
 have HC2_3 := am hc2_3
 clear hr2_3 hc2_3
 have HB := am (Below.refl w.heap.size w)
 have H : (if a1 < 1 then (record_check.j0 k l0 a1 true a2_0 l2_1 a2_2 l2_3) else (if a1 > 4 then (record_check.j0 k l0 a1 true a2_0 l2_1 a2_2 l2_3) else (if a2_0 < 1 then (record_check.j0 k l0 a1 true a2_0 l2_1 a2_2 l2_3) else (if a2_0 > 64 then (record_check.j0 k l0 a1 true a2_0 l2_1 a2_2 l2_3) else (if a2_2 < 0 then (record_check.j0 k l0 a1 true a2_0 l2_1 a2_2 l2_3) else (record_check.j0 k l0 a1 (decide ((l2_3.length : Int) > a1)) a2_0 l2_1 a2_2 l2_3)))))) = some r := h
 clear h
 have HC4 := am H
 clear H
 go_enter Try.func58, Try.ntmps58
 go_upto_region 1 with (first | ((with_reducible refine gate_dst (N := 5) rfl ?_); (try (refine gate_guard (by rfl) ?_; dsimp only)); refine zB 5 #[.int .i64 a2_0, .slice A2_1 l2_1.length c2_1, .int .i64 a2_2, .slice A2_3 l2_3.length c2_3] 49 ?_; intro gb432 hg w5 hbox hb; have BK432 := am (hbox); have GE432 := zG hg (zb HB); replace HB := am (below_step (zb HB) hb); clear hb hbox hg))
 (try simp only [Act.put, List.setIfInBounds_toArray, List.set_cons_zero, List.set_cons_succ])
 go_cut [40] (fun v40 wc => ∃ (kq : Nat) (x40_3 : Bool), v40 = .bool x40_3 ∧ Aside0 (record_check.j0 kq l0 a1 x40_3 a2_0 l2_1 a2_2 l2_3 = some r) ∧ Aside0 (kq ≤ k) ∧ Aside0 (wc.heap[gb432]? = some (.cells #[.int .i64 a2_0, (.slice A2_1 l2_1.length c2_1), .int .i64 a2_2, (.slice A2_3 l2_3.length c2_3)] 49 (0, 0))) ∧ Aside0 (Below w.heap.size w wc))
 case first =>
  have H := HC4.out
  clear HC4
  by_cases c6 : a1 < 1
  ·
   rw [if_pos c6] at H
   have c6b0 := decide_eq_true c6
   clear c6
   (first | rw [c6b0] | (simp only [i64_w, i32_w]; rw [c6b0]) | skip)
   have H' := am H
   clear H
   go_wp2
   go_meet
   case rel => exact y13
  ·
   rw [if_neg c6] at H
   have c6b0 := decide_eq_false c6
   clear c6
   (first | rw [c6b0] | (simp only [i64_w, i32_w]; rw [c6b0]) | skip)
   by_cases c7 : a1 > 4
   ·
    rw [if_pos c7] at H
    have c7b0 : decide (4 < a1) = true := decide_eq_true c7
    clear c7
    have H' := am H
    clear H
    go_wp2
    go_meet
    case rel => exact y13
   ·
    rw [if_neg c7] at H
    have c7b0 : decide (4 < a1) = false := decide_eq_false c7
    clear c7
    by_cases c8 : a2_0 < 1
    ·
     rw [if_pos c8] at H
     have c8b0 := decide_eq_true c8
     clear c8
     have H' := am H
     clear H
     obtain ⟨hcz9_0, hcz9_1, hcz9_2, hcz9_3⟩ := zc4 BK432
     obtain ⟨hfz9_0, hfz9_1, hfz9_2, hfz9_3⟩ := zf4 BK432
     go_wp2
     go_meet
     case rel => exact y13
    ·
     rw [if_neg c8] at H
     have c8b0 := decide_eq_false c8
     clear c8
     by_cases c10 : a2_0 > 64
     ·
      rw [if_pos c10] at H
      have c10b0 : decide (64 < a2_0) = true := decide_eq_true c10
      clear c10
      have H' := am H
      clear H
      obtain ⟨hcz11_0, hcz11_1, hcz11_2, hcz11_3⟩ := zc4 BK432
      obtain ⟨hfz11_0, hfz11_1, hfz11_2, hfz11_3⟩ := zf4 BK432
      go_wp2
      go_meet
      case rel => exact y13
     ·
      rw [if_neg c10] at H
      have c10b0 : decide (64 < a2_0) = false := decide_eq_false c10
      clear c10
      by_cases c12 : a2_2 < 0
      ·
       rw [if_pos c12] at H
       have c12b0 := decide_eq_true c12
       clear c12
       have H' := am H
       clear H
       obtain ⟨hcz13_0, hcz13_1, hcz13_2, hcz13_3⟩ := zc4 BK432
       obtain ⟨hfz13_0, hfz13_1, hfz13_2, hfz13_3⟩ := zf4 BK432
       go_wp2
       go_meet
       case rel => exact y13
      ·
       rw [if_neg c12] at H
       have c12b0 := decide_eq_false c12
       clear c12
       have H' := am H
       clear H
       obtain ⟨hcz14_0, hcz14_1, hcz14_2, hcz14_3⟩ := zc4 BK432
       obtain ⟨hfz14_0, hfz14_1, hfz14_2, hfz14_3⟩ := zf4 BK432
       go_wp2
       go_meet
       case rel => exact ⟨_, (decide ((l2_3.length : Int) > a1)), zr, H', ⟨by first | omega | exact Nat.le_refl _⟩, ⟨by refine zu ?_; exact BK432.out⟩, ⟨zb HB⟩⟩
 case rest =>
  clear HC4
  obtain ⟨kq, x40_3, rfl, HA, HJ3, BK432, HB⟩ := hcut
  cases kq with
  | zero => exact absurd HA.out (by simp [record_check.j0])
  | succ kj3 =>
   have H := HA.out
   clear HA
   simp only [record_check.j0] at H
   by_cases c15 : x40_3 = true
   ·
    subst c15
    have H1 : (some 1) = some r := by rw [if_pos rfl] at H; exact H
    clear H
    have H := H1
    clear H1
    obtain rfl := Option.some.inj H
    go_wp2
    go_ret
    exact ⟨ze, zb HB⟩
   ·
    replace c15 := Bool.eq_false_iff.mpr c15
    subst c15
    have H1 : (record_check.l0 kj3 l0 a1 l2_1 (l2_1.length : Int) 0 a2_0 l2_1 a2_2 l2_3) = some r := by rw [if_neg (show ¬ (false = true) by decide)] at H; exact H
    clear H
    have H := H1
    clear H1
    have H' := am H
    clear H
    obtain ⟨hcz16_0, hcz16_1, hcz16_2, hcz16_3⟩ := zc4 BK432
    obtain ⟨hfz16_0, hfz16_1, hfz16_2, hfz16_3⟩ := zf4 BK432
    go_wp2
    go_loopg [44] kj3 (fun kq v44 w' => ∃ (x44_2 : Int), v44 = .int .i64 x44_2 ∧ Aside0 (record_check.l0 kq l0 a1 l2_1 (l2_1.length : Int) x44_2 a2_0 l2_1 a2_2 l2_3 = some r) ∧ Aside0 (kq ≤ kj3) ∧ Aside0 (w'.heap[gb432]? = some (.cells #[.int .i64 a2_0, (.slice A2_1 l2_1.length c2_1), .int .i64 a2_2, (.slice A2_3 l2_3.length c2_3)] 49 (0, 0))) ∧ Aside0 (Below w.heap.size w w'))
    case atStart => exact ⟨(0), zr, H', ⟨Nat.le_refl _⟩, ⟨by refine zu ?_; exact BK432.out⟩, ⟨zb HB⟩⟩
    case round =>
     clear H'
     obtain ⟨x44_2, rfl, HA, HK2, BK432, HB⟩ := hrel
     cases gk with
     | zero => exact absurd HA.out (by simp [record_check.l0])
     | succ k2 =>
      have H := HA.out
      clear HA
      simp only [record_check.l0] at H
      by_cases c17 : x44_2 < (l2_1.length : Int)
      ·
       rw [if_pos c17] at H
       have c17b0 := decide_eq_true c17
       clear c17
       by_cases c18 : 0 ≤ x44_2
       ·
        rw [if_pos c18] at H
        have c18b0 := decide_eq_true c18
        clear c18
        by_cases c19 : x44_2 < (l2_1.length : Int)
        ·
         rw [if_pos c19] at H
         have c19b0 := decide_eq_true c19
         clear c19
         by_cases c20 : ((rd_T57 l2_1 x44_2).f0) < 0
         ·
          rw [if_pos c20] at H
          have c20b0 := decide_eq_true c20
          clear c20
          obtain rfl := Option.some.inj H
          have p433 : 0 ≤ (x44_2 : Int) := zo
          have q433 : x44_2 < (l2_1.length : Int) := zo
          obtain ⟨ad433, e433, hx433_0, hx433_1⟩ := at_T57 HR2_1.out x44_2 p433 q433
          cases e433
          replace hx433_0 := zx HB hx433_0
          replace hx433_1 := zx HB hx433_1
          replace p433 := eq_true p433
          replace q433 := eq_true q433
          go_wp2_with (first | ((with_reducible refine gate_dst (N := 8) rfl ?_); (try (refine gate_guard (by rfl) ?_; dsimp only)); refine zB 8 #[.int .i64 0, .int .i64 0] 57 ?_; intro gb434 hg w21 hbox hb; have BK434 := am (hbox); have GE434 := zG hg (zb HB); replace HB := am (below_step (zb HB) hb); have NB432_434 := zn hg BK432; have NB434_432 := zm hg BK432; replace BK432 := zk BK432 hb; clear hb hbox hg; have hnb22 := NB434_432.out; have hnc22 := NB432_434.out; obtain ⟨hcz23_0, hcz23_1⟩ := zc2 BK434; obtain ⟨hfz23_0, hfz23_1⟩ := zf2 BK434))
          go_ret
          exact ⟨ze, zb HB⟩
         ·
          rw [if_neg c20] at H
          have c20b0 := decide_eq_false c20
          clear c20
          by_cases c24 : ((rd_T57 l2_1 x44_2).f1) < 0
          ·
           rw [if_pos c24] at H
           have c24b0 := decide_eq_true c24
           clear c24
           obtain rfl := Option.some.inj H
           have p433 : 0 ≤ (x44_2 : Int) := zo
           have q433 : x44_2 < (l2_1.length : Int) := zo
           obtain ⟨ad433, e433, hx433_0, hx433_1⟩ := at_T57 HR2_1.out x44_2 p433 q433
           cases e433
           replace hx433_0 := zx HB hx433_0
           replace hx433_1 := zx HB hx433_1
           replace p433 := eq_true p433
           replace q433 := eq_true q433
           go_wp2_with (first | ((with_reducible refine gate_dst (N := 8) rfl ?_); (try (refine gate_guard (by rfl) ?_; dsimp only)); refine zB 8 #[.int .i64 0, .int .i64 0] 57 ?_; intro gb434 hg w25 hbox hb; have BK434 := am (hbox); have GE434 := zG hg (zb HB); replace HB := am (below_step (zb HB) hb); have NB432_434 := zn hg BK432; have NB434_432 := zm hg BK432; replace BK432 := zk BK432 hb; clear hb hbox hg; have hnb26 := NB434_432.out; have hnc26 := NB432_434.out; obtain ⟨hcz27_0, hcz27_1⟩ := zc2 BK434; obtain ⟨hfz27_0, hfz27_1⟩ := zf2 BK434))
           go_ret
           exact ⟨ze, zb HB⟩
          ·
           rw [if_neg c24] at H
           have c24b0 := decide_eq_false c24
           clear c24
           by_cases c28 : ((rd_T57 l2_1 x44_2).f1) ≥ a1
           ·
            rw [if_pos c28] at H
            have c28b0 : decide (a1 ≤ ((rd_T57 l2_1 x44_2).f1)) = true := decide_eq_true c28
            clear c28
            obtain rfl := Option.some.inj H
            have p433 : 0 ≤ (x44_2 : Int) := zo
            have q433 : x44_2 < (l2_1.length : Int) := zo
            obtain ⟨ad433, e433, hx433_0, hx433_1⟩ := at_T57 HR2_1.out x44_2 p433 q433
            cases e433
            replace hx433_0 := zx HB hx433_0
            replace hx433_1 := zx HB hx433_1
            replace p433 := eq_true p433
            replace q433 := eq_true q433
            go_wp2_with (first | ((with_reducible refine gate_dst (N := 8) rfl ?_); (try (refine gate_guard (by rfl) ?_; dsimp only)); refine zB 8 #[.int .i64 0, .int .i64 0] 57 ?_; intro gb434 hg w29 hbox hb; have BK434 := am (hbox); have GE434 := zG hg (zb HB); replace HB := am (below_step (zb HB) hb); have NB432_434 := zn hg BK432; have NB434_432 := zm hg BK432; replace BK432 := zk BK432 hb; clear hb hbox hg; have hnb30 := NB434_432.out; have hnc30 := NB432_434.out; obtain ⟨hcz31_0, hcz31_1⟩ := zc2 BK434; obtain ⟨hfz31_0, hfz31_1⟩ := zf2 BK434))
            go_ret
            exact ⟨ze, zb HB⟩
           ·
            rw [if_neg c28] at H
            have c28b0 : decide (a1 ≤ ((rd_T57 l2_1 x44_2).f1)) = false := decide_eq_false c28
            clear c28
            have H' := am H
            clear H
            have p433 : 0 ≤ (x44_2 : Int) := zo
            have q433 : x44_2 < (l2_1.length : Int) := zo
            obtain ⟨ad433, e433, hx433_0, hx433_1⟩ := at_T57 HR2_1.out x44_2 p433 q433
            cases e433
            replace hx433_0 := zx HB hx433_0
            replace hx433_1 := zx HB hx433_1
            replace p433 := eq_true p433
            replace q433 := eq_true q433
            go_wp2_with (first | ((with_reducible refine gate_dst (N := 8) rfl ?_); (try (refine gate_guard (by rfl) ?_; dsimp only)); refine zB 8 #[.int .i64 0, .int .i64 0] 57 ?_; intro gb434 hg w32 hbox hb; have BK434 := am (hbox); have GE434 := zG hg (zb HB); replace HB := am (below_step (zb HB) hb); have NB432_434 := zn hg BK432; have NB434_432 := zm hg BK432; replace BK432 := zk BK432 hb; clear hb hbox hg; have hnb33 := NB434_432.out; have hnc33 := NB432_434.out; obtain ⟨hcz34_0, hcz34_1⟩ := zc2 BK434; obtain ⟨hfz34_0, hfz34_1⟩ := zf2 BK434))
            go_roundg k2
            case measure => have := HJ3.out; have := HK2.out; omega
            case rel => exact ⟨(wrap64 (x44_2 + 1)), zr, H', ⟨by have := HJ3.out; have := HK2.out; omega⟩, ⟨by refine zu ?_; refine blk_far ?_ NB432_434.out _; refine zu ?_; refine blk_far ?_ NB432_434.out _; refine zu ?_; exact BK432.out⟩, ⟨zb HB⟩⟩
        ·
         rw [if_neg c19] at H
         exact absurd H (by simp)
       ·
        rw [if_neg c18] at H
        exact absurd H (by simp)
      ·
       rw [if_neg c17] at H
       have c17b0 := decide_eq_false c17
       clear c17
       have H' := am H
       clear H
       obtain ⟨hcz35_0, hcz35_1, hcz35_2, hcz35_3⟩ := zc4 BK432
       obtain ⟨hfz35_0, hfz35_1, hfz35_2, hfz35_3⟩ := zf4 BK432
       go_wp2
       go_loopg [66] k2 (fun kq v66 w' => ∃ (x66_3 : Int), v66 = .int .i64 x66_3 ∧ Aside0 (record_check.l1 kq l0 a1 l2_3 (l2_3.length : Int) x66_3 = some r) ∧ Aside0 (kq ≤ k2) ∧ Aside0 (w'.heap[gb432]? = some (.cells #[.int .i64 a2_0, (.slice A2_1 l2_1.length c2_1), .int .i64 a2_2, (.slice A2_3 l2_3.length c2_3)] 49 (0, 0))) ∧ Aside0 (Below w.heap.size w w'))
       case atStart => exact ⟨(0), zr, H', ⟨Nat.le_refl _⟩, ⟨by refine zu ?_; exact BK432.out⟩, ⟨zb HB⟩⟩
       case round =>
        clear H'
        obtain ⟨x66_3, rfl, HA, HK3, BK432, HB⟩ := hrel
        cases gk with
        | zero => exact absurd HA.out (by simp [record_check.l1])
        | succ k3 =>
         have H := HA.out
         clear HA
         simp only [record_check.l1] at H
         by_cases c36 : x66_3 < (l2_3.length : Int)
         ·
          rw [if_pos c36] at H
          have c36b0 := decide_eq_true c36
          clear c36
          by_cases c37 : 0 ≤ x66_3
          ·
           rw [if_pos c37] at H
           have c37b0 := decide_eq_true c37
           clear c37
           by_cases c38 : x66_3 < (l2_3.length : Int)
           ·
            rw [if_pos c38] at H
            have c38b0 := decide_eq_true c38
            clear c38
            by_cases c39 : (rd l2_3 x66_3) < 0
            ·
             rw [if_pos c39] at H
             have c39b0 := decide_eq_true c39
             clear c39
             obtain rfl := Option.some.inj H
             have p435 : 0 ≤ (x66_3 : Int) := zo
             have q435 : x66_3 < (l2_3.length : Int) := zo
             obtain ⟨ad435, e435, hx435_0⟩ := Kd.at_int HR2_3.out x66_3 p435 q435
             cases e435
             replace hx435_0 := zx HB hx435_0
             replace p435 := eq_true p435
             replace q435 := eq_true q435
             go_wp2
             go_ret
             exact ⟨ze, zb HB⟩
            ·
             rw [if_neg c39] at H
             have c39b0 := decide_eq_false c39
             clear c39
             have H' := am H
             clear H
             have p435 : 0 ≤ (x66_3 : Int) := zo
             have q435 : x66_3 < (l2_3.length : Int) := zo
             obtain ⟨ad435, e435, hx435_0⟩ := Kd.at_int HR2_3.out x66_3 p435 q435
             cases e435
             replace hx435_0 := zx HB hx435_0
             replace p435 := eq_true p435
             replace q435 := eq_true q435
             go_wp2
             go_roundg k3
             case measure => have := HJ3.out; have := HK2.out; have := HK3.out; omega
             case rel => exact ⟨(wrap64 (x66_3 + 1)), zr, H', ⟨by have := HJ3.out; have := HK2.out; have := HK3.out; omega⟩, ⟨by refine zu ?_; exact BK432.out⟩, ⟨zb HB⟩⟩
           ·
            rw [if_neg c38] at H
            exact absurd H (by simp)
          ·
           rw [if_neg c37] at H
           exact absurd H (by simp)
         ·
          rw [if_neg c36] at H
          have c36b0 := decide_eq_false c36
          clear c36
          by_cases c40 : (l0.length : Int) > 400
          ·
           rw [if_pos c40] at H
           have c40b0 : decide (400 < (l0.length : Int)) = true := decide_eq_true c40
           have c40b1 : decide (400 < l0.length) = true := decide_eq_true (by omega)
           clear c40
           obtain rfl := Option.some.inj H
           go_wp2
           go_ret
           exact ⟨ze, zb HB⟩
          ·
           rw [if_neg c40] at H
           have c40b0 : decide (400 < (l0.length : Int)) = false := decide_eq_false c40
           have c40b1 : decide (400 < l0.length) = false := decide_eq_false (by omega)
           clear c40
           have H' := am H
           clear H
           go_wp2
           go_loopg [78] k3 (fun kq v78 w' => ∃ (x78_4 : Int), v78 = .int .i64 x78_4 ∧ Aside0 (record_check.l2 kq a1 l0 (l0.length : Int) x78_4 = some r) ∧ Aside0 (kq ≤ k3) ∧ Aside0 (w'.heap[gb432]? = some (.cells #[.int .i64 a2_0, (.slice A2_1 l2_1.length c2_1), .int .i64 a2_2, (.slice A2_3 l2_3.length c2_3)] 49 (0, 0))) ∧ Aside0 (Below w.heap.size w w'))
           case atStart => exact ⟨(0), zr, H', ⟨Nat.le_refl _⟩, ⟨by refine zu ?_; exact BK432.out⟩, ⟨zb HB⟩⟩
           case round =>
            clear H'
            obtain ⟨x78_4, rfl, HA, HK4, BK432, HB⟩ := hrel
            cases gk with
            | zero => exact absurd HA.out (by simp [record_check.l2])
            | succ k4 =>
             have H := HA.out
             clear HA
             simp only [record_check.l2] at H
             by_cases c41 : x78_4 < (l0.length : Int)
             ·
              rw [if_pos c41] at H
              have c41b0 := decide_eq_true c41
              clear c41
              by_cases c42 : 0 ≤ x78_4
              ·
               rw [if_pos c42] at H
               have c42b0 := decide_eq_true c42
               clear c42
               by_cases c43 : x78_4 < (l0.length : Int)
               ·
                rw [if_pos c43] at H
                have c43b0 := decide_eq_true c43
                clear c43
                by_cases c44 : ((rd_T24 l0 x78_4).f0) < 0
                ·
                 rw [if_pos c44] at H
                 have c44b0 := decide_eq_true c44
                 clear c44
                 obtain rfl := Option.some.inj H
                 have p436 : 0 ≤ (x78_4 : Int) := zo
                 have q436 : x78_4 < (l0.length : Int) := zo
                 obtain ⟨ad436, A436_5, c436_5, A436_6, c436_6, e436, hx436_0, hx436_1, hx436_2, hx436_3, hx436_4, hx436_5, hx436_6, hl436_5, hi436_5, hl436_6, hi436_6⟩ := at_T24 HR0.out x78_4 p436 q436
                 cases e436
                 replace hx436_0 := zx HB hx436_0
                 replace hx436_1 := zx HB hx436_1
                 replace hx436_2 := zx HB hx436_2
                 replace hx436_3 := zx HB hx436_3
                 replace hx436_4 := zx HB hx436_4
                 replace hx436_5 := zx HB hx436_5
                 replace hx436_6 := zx HB hx436_6
                 have HR436_5 := am hi436_5
                 have HC436_5 := am hl436_5
                 clear hi436_5 hl436_5
                 have HR436_6 := am hi436_6
                 have HC436_6 := am hl436_6
                 clear hi436_6 hl436_6
                 replace p436 := eq_true p436
                 replace q436 := eq_true q436
                 go_wp2_with (first | ((with_reducible refine gate_dst (N := 12) rfl ?_); (try (refine gate_guard (by rfl) ?_; dsimp only)); refine zB 12 #[.int .i64 0, .int .i64 0, .int .i64 0, .int .i64 0, .int .i64 0, .slice none 0 0, .slice none 0 0] 24 ?_; intro gb437 hg w45 hbox hb; have BK437 := am (hbox); have GE437 := zG hg (zb HB); replace HB := am (below_step (zb HB) hb); have NB432_437 := zn hg BK432; have NB437_432 := zm hg BK432; replace BK432 := zk BK432 hb; clear hb hbox hg; have hnb46 := NB437_432.out; have hnc46 := NB432_437.out; obtain ⟨_, _, _, _, _, _, _, _, _, _, _, _, _, _⟩ := zq7 BK437))
                 go_ret
                 exact ⟨ze, zb HB⟩
                ·
                 rw [if_neg c44] at H
                 have c44b0 := decide_eq_false c44
                 clear c44
                 by_cases c48 : ((rd_T24 l0 x78_4).f0) ≥ a1
                 ·
                  rw [if_pos c48] at H
                  have c48b0 : decide (a1 ≤ ((rd_T24 l0 x78_4).f0)) = true := decide_eq_true c48
                  clear c48
                  obtain rfl := Option.some.inj H
                  have p436 : 0 ≤ (x78_4 : Int) := zo
                  have q436 : x78_4 < (l0.length : Int) := zo
                  obtain ⟨ad436, A436_5, c436_5, A436_6, c436_6, e436, hx436_0, hx436_1, hx436_2, hx436_3, hx436_4, hx436_5, hx436_6, hl436_5, hi436_5, hl436_6, hi436_6⟩ := at_T24 HR0.out x78_4 p436 q436
                  cases e436
                  replace hx436_0 := zx HB hx436_0
                  replace hx436_1 := zx HB hx436_1
                  replace hx436_2 := zx HB hx436_2
                  replace hx436_3 := zx HB hx436_3
                  replace hx436_4 := zx HB hx436_4
                  replace hx436_5 := zx HB hx436_5
                  replace hx436_6 := zx HB hx436_6
                  have HR436_5 := am hi436_5
                  have HC436_5 := am hl436_5
                  clear hi436_5 hl436_5
                  have HR436_6 := am hi436_6
                  have HC436_6 := am hl436_6
                  clear hi436_6 hl436_6
                  replace p436 := eq_true p436
                  replace q436 := eq_true q436
                  go_wp2_with (first | ((with_reducible refine gate_dst (N := 12) rfl ?_); (try (refine gate_guard (by rfl) ?_; dsimp only)); refine zB 12 #[.int .i64 0, .int .i64 0, .int .i64 0, .int .i64 0, .int .i64 0, .slice none 0 0, .slice none 0 0] 24 ?_; intro gb437 hg w49 hbox hb; have BK437 := am (hbox); have GE437 := zG hg (zb HB); replace HB := am (below_step (zb HB) hb); have NB432_437 := zn hg BK432; have NB437_432 := zm hg BK432; replace BK432 := zk BK432 hb; clear hb hbox hg; have hnb50 := NB437_432.out; have hnc50 := NB432_437.out; obtain ⟨_, _, _, _, _, _, _, _, _, _, _, _, _, _⟩ := zq7 BK437))
                  go_ret
                  exact ⟨ze, zb HB⟩
                 ·
                  rw [if_neg c48] at H
                  have c48b0 : decide (a1 ≤ ((rd_T24 l0 x78_4).f0)) = false := decide_eq_false c48
                  clear c48
                  by_cases c52 : (((rd_T24 l0 x78_4).f5).length : Int) > 400
                  ·
                   rw [if_pos c52] at H
                   have c52b0 : decide (400 < (((rd_T24 l0 x78_4).f5).length : Int)) = true := decide_eq_true c52
                   have c52b1 : decide (400 < ((rd_T24 l0 x78_4).f5).length) = true := decide_eq_true (by omega)
                   clear c52
                   obtain rfl := Option.some.inj H
                   have p436 : 0 ≤ (x78_4 : Int) := zo
                   have q436 : x78_4 < (l0.length : Int) := zo
                   obtain ⟨ad436, A436_5, c436_5, A436_6, c436_6, e436, hx436_0, hx436_1, hx436_2, hx436_3, hx436_4, hx436_5, hx436_6, hl436_5, hi436_5, hl436_6, hi436_6⟩ := at_T24 HR0.out x78_4 p436 q436
                   cases e436
                   replace hx436_0 := zx HB hx436_0
                   replace hx436_1 := zx HB hx436_1
                   replace hx436_2 := zx HB hx436_2
                   replace hx436_3 := zx HB hx436_3
                   replace hx436_4 := zx HB hx436_4
                   replace hx436_5 := zx HB hx436_5
                   replace hx436_6 := zx HB hx436_6
                   have HR436_5 := am hi436_5
                   have HC436_5 := am hl436_5
                   clear hi436_5 hl436_5
                   have HR436_6 := am hi436_6
                   have HC436_6 := am hl436_6
                   clear hi436_6 hl436_6
                   replace p436 := eq_true p436
                   replace q436 := eq_true q436
                   go_wp2_with (first | ((with_reducible refine gate_dst (N := 12) rfl ?_); (try (refine gate_guard (by rfl) ?_; dsimp only)); refine zB 12 #[.int .i64 0, .int .i64 0, .int .i64 0, .int .i64 0, .int .i64 0, .slice none 0 0, .slice none 0 0] 24 ?_; intro gb437 hg w53 hbox hb; have BK437 := am (hbox); have GE437 := zG hg (zb HB); replace HB := am (below_step (zb HB) hb); have NB432_437 := zn hg BK432; have NB437_432 := zm hg BK432; replace BK432 := zk BK432 hb; clear hb hbox hg; have hnb54 := NB437_432.out; have hnc54 := NB432_437.out; obtain ⟨_, _, _, _, _, _, _, _, _, _, _, _, _, _⟩ := zq7 BK437))
                   go_ret
                   exact ⟨ze, zb HB⟩
                  ·
                   rw [if_neg c52] at H
                   have c52b0 : decide (400 < (((rd_T24 l0 x78_4).f5).length : Int)) = false := decide_eq_false c52
                   have c52b1 : decide (400 < ((rd_T24 l0 x78_4).f5).length) = false := decide_eq_false (by omega)
                   clear c52
                   by_cases c56 : (((rd_T24 l0 x78_4).f6).length : Int) > 400
                   ·
                    rw [if_pos c56] at H
                    have c56b0 : decide (400 < (((rd_T24 l0 x78_4).f6).length : Int)) = true := decide_eq_true c56
                    have c56b1 : decide (400 < ((rd_T24 l0 x78_4).f6).length) = true := decide_eq_true (by omega)
                    clear c56
                    obtain rfl := Option.some.inj H
                    have p436 : 0 ≤ (x78_4 : Int) := zo
                    have q436 : x78_4 < (l0.length : Int) := zo
                    obtain ⟨ad436, A436_5, c436_5, A436_6, c436_6, e436, hx436_0, hx436_1, hx436_2, hx436_3, hx436_4, hx436_5, hx436_6, hl436_5, hi436_5, hl436_6, hi436_6⟩ := at_T24 HR0.out x78_4 p436 q436
                    cases e436
                    replace hx436_0 := zx HB hx436_0
                    replace hx436_1 := zx HB hx436_1
                    replace hx436_2 := zx HB hx436_2
                    replace hx436_3 := zx HB hx436_3
                    replace hx436_4 := zx HB hx436_4
                    replace hx436_5 := zx HB hx436_5
                    replace hx436_6 := zx HB hx436_6
                    have HR436_5 := am hi436_5
                    have HC436_5 := am hl436_5
                    clear hi436_5 hl436_5
                    have HR436_6 := am hi436_6
                    have HC436_6 := am hl436_6
                    clear hi436_6 hl436_6
                    replace p436 := eq_true p436
                    replace q436 := eq_true q436
                    go_wp2_with (first | ((with_reducible refine gate_dst (N := 12) rfl ?_); (try (refine gate_guard (by rfl) ?_; dsimp only)); refine zB 12 #[.int .i64 0, .int .i64 0, .int .i64 0, .int .i64 0, .int .i64 0, .slice none 0 0, .slice none 0 0] 24 ?_; intro gb437 hg w57 hbox hb; have BK437 := am (hbox); have GE437 := zG hg (zb HB); replace HB := am (below_step (zb HB) hb); have NB432_437 := zn hg BK432; have NB437_432 := zm hg BK432; replace BK432 := zk BK432 hb; clear hb hbox hg; have hnb58 := NB437_432.out; have hnc58 := NB432_437.out; obtain ⟨_, _, _, _, _, _, _, _, _, _, _, _, _, _⟩ := zq7 BK437))
                    go_ret
                    exact ⟨ze, zb HB⟩
                   ·
                    rw [if_neg c56] at H
                    have c56b0 : decide (400 < (((rd_T24 l0 x78_4).f6).length : Int)) = false := decide_eq_false c56
                    have c56b1 : decide (400 < ((rd_T24 l0 x78_4).f6).length) = false := decide_eq_false (by omega)
                    clear c56
                    have H' := am H
                    clear H
                    have p436 : 0 ≤ (x78_4 : Int) := zo
                    have q436 : x78_4 < (l0.length : Int) := zo
                    obtain ⟨ad436, A436_5, c436_5, A436_6, c436_6, e436, hx436_0, hx436_1, hx436_2, hx436_3, hx436_4, hx436_5, hx436_6, hl436_5, hi436_5, hl436_6, hi436_6⟩ := at_T24 HR0.out x78_4 p436 q436
                    cases e436
                    replace hx436_0 := zx HB hx436_0
                    replace hx436_1 := zx HB hx436_1
                    replace hx436_2 := zx HB hx436_2
                    replace hx436_3 := zx HB hx436_3
                    replace hx436_4 := zx HB hx436_4
                    replace hx436_5 := zx HB hx436_5
                    replace hx436_6 := zx HB hx436_6
                    have HR436_5 := am hi436_5
                    have HC436_5 := am hl436_5
                    clear hi436_5 hl436_5
                    have HR436_6 := am hi436_6
                    have HC436_6 := am hl436_6
                    clear hi436_6 hl436_6
                    replace p436 := eq_true p436
                    replace q436 := eq_true q436
                    go_wp2_with (first | ((with_reducible refine gate_dst (N := 12) rfl ?_); (try (refine gate_guard (by rfl) ?_; dsimp only)); refine zB 12 #[.int .i64 0, .int .i64 0, .int .i64 0, .int .i64 0, .int .i64 0, .slice none 0 0, .slice none 0 0] 24 ?_; intro gb437 hg w60 hbox hb; have BK437 := am (hbox); have GE437 := zG hg (zb HB); replace HB := am (below_step (zb HB) hb); have NB432_437 := zn hg BK432; have NB437_432 := zm hg BK432; replace BK432 := zk BK432 hb; clear hb hbox hg; have hnb61 := NB437_432.out; have hnc61 := NB432_437.out; obtain ⟨_, _, _, _, _, _, _, _, _, _, _, _, _, _⟩ := zq7 BK437))
                    go_roundg k4
                    case measure => have := HJ3.out; have := HK2.out; have := HK3.out; have := HK4.out; omega
                    case rel => exact ⟨(wrap64 (x78_4 + 1)), zr, H', ⟨by have := HJ3.out; have := HK2.out; have := HK3.out; have := HK4.out; omega⟩, ⟨by refine zu ?_; refine blk_far ?_ NB432_437.out _; refine zu ?_; refine blk_far ?_ NB432_437.out _; refine zu ?_; refine blk_far ?_ NB432_437.out _; refine zu ?_; refine blk_far ?_ NB432_437.out _; refine zu ?_; refine blk_far ?_ NB432_437.out _; refine zu ?_; refine blk_far ?_ NB432_437.out _; refine zu ?_; refine blk_far ?_ NB432_437.out _; refine zu ?_; exact BK432.out⟩, ⟨zb HB⟩⟩
               ·
                rw [if_neg c43] at H
                exact absurd H (by simp)
              ·
               rw [if_neg c42] at H
               exact absurd H (by simp)
             ·
              rw [if_neg c41] at H
              have c41b0 := decide_eq_false c41
              clear c41
              obtain rfl := Option.some.inj H
              go_wp2
              go_ret
              exact ⟨ze, zb HB⟩
mutual
def j14_plan.j0 : Nat → List (S24) → Int → Bool → Int → List (S57) → Int → List Int → Option (Int)
 | 0, _, _, _, _, _, _, _ => none
 | k + 1, x0, x1, x37, x451000, x451001, x451002, x451003 => if x37 = true then (some 1) else (j14_plan.l0 k x0 x1 0 x451000 x451001 x451002 x451003)
def j14_plan.l0 : Nat → List (S24) → Int → Int → Int → List (S57) → Int → List Int → Option (Int)
 | 0, _, _, _, _, _, _, _ => none
 | k + 1, x0, x1, x7, x451000, x451001, x451002, x451003 => if x7 < (x451001.length : Int) then (if 0 ≤ x7 then (if ((rd_T57 x451001 x7).f0) < 0 then (some 1) else (if ((rd_T57 x451001 x7).f1) < 0 then (some 1) else (if ((rd_T57 x451001 x7).f1) ≥ x1 then (some 1) else (j14_plan.l0 k x0 x1 (wrap64 (x7 + 1)) x451000 x451001 x451002 x451003)))) else (none)) else (j14_plan.l1 k x0 x1 0 x451000 x451001 x451002 x451003)
def j14_plan.l1 : Nat → List (S24) → Int → Int → Int → List (S57) → Int → List Int → Option (Int)
 | 0, _, _, _, _, _, _, _ => none
 | k + 1, x0, x1, x8, x451000, x451001, x451002, x451003 => if x8 < (x451003.length : Int) then (if 0 ≤ x8 then (if (rd x451003 x8) < 0 then (some 1) else (j14_plan.l1 k x0 x1 (wrap64 (x8 + 1)) x451000 x451001 x451002 x451003)) else (none)) else (if (x0.length : Int) > 400 then (some 2) else (j14_plan.l2 k x0 x1 0))
def j14_plan.l2 : Nat → List (S24) → Int → Int → Option (Int)
 | 0, _, _, _ => none
 | k + 1, x0, x1, x9 => if x9 < (x0.length : Int) then (if 0 ≤ x9 then (if ((rd_T24 x0 x9).f0) < 0 then (some 1) else (if ((rd_T24 x0 x9).f0) ≥ x1 then (some 1) else (if (((rd_T24 x0 x9).f5).length : Int) > 400 then (some 1) else (if (((rd_T24 x0 x9).f6).length : Int) > 400 then (some 1) else (j14_plan.l2 k x0 x1 (wrap64 (x9 + 1))))))) else (none)) else (some 0)
end
def j14_plan.f (k : Nat) (l0 : List (S24)) (a1 : Int) (a2_0 : Int) (l2_1 : List (S57)) (a2_2 : Int) (l2_3 : List Int) : Option (Int) := if a1 < 1 then (j14_plan.j0 k l0 a1 true a2_0 l2_1 a2_2 l2_3) else (if a1 > 4 then (j14_plan.j0 k l0 a1 true a2_0 l2_1 a2_2 l2_3) else (if a2_0 < 1 then (j14_plan.j0 k l0 a1 true a2_0 l2_1 a2_2 l2_3) else (if a2_0 > 64 then (j14_plan.j0 k l0 a1 true a2_0 l2_1 a2_2 l2_3) else (if a2_2 < 0 then (j14_plan.j0 k l0 a1 true a2_0 l2_1 a2_2 l2_3) else (j14_plan.j0 k l0 a1 (decide ((l2_3.length : Int) > a1)) a2_0 l2_1 a2_2 l2_3)))))
theorem j14_plan.mono_l : ∀ k, (∀ y0 y1 y2 y3 y4 y5 y6, LeO (j14_plan.j0 k y0 y1 y2 y3 y4 y5 y6) (j14_plan.j0 (k + 1) y0 y1 y2 y3 y4 y5 y6)) ∧ (∀ y0 y1 y2 y3 y4 y5 y6, LeO (j14_plan.l0 k y0 y1 y2 y3 y4 y5 y6) (j14_plan.l0 (k + 1) y0 y1 y2 y3 y4 y5 y6)) ∧ (∀ y0 y1 y2 y3 y4 y5 y6, LeO (j14_plan.l1 k y0 y1 y2 y3 y4 y5 y6) (j14_plan.l1 (k + 1) y0 y1 y2 y3 y4 y5 y6)) ∧ (∀ y0 y1 y2, LeO (j14_plan.l2 k y0 y1 y2) (j14_plan.l2 (k + 1) y0 y1 y2))
 | 0 => ⟨fun _ _ _ _ _ _ _ r h => by simp [j14_plan.j0] at h, fun _ _ _ _ _ _ _ r h => by simp [j14_plan.l0] at h, fun _ _ _ _ _ _ _ r h => by simp [j14_plan.l1] at h, fun _ _ _ r h => by simp [j14_plan.l2] at h⟩
 | k + 1 => by
  obtain ⟨ih0, ih1, ih2, ih3⟩ := j14_plan.mono_l k
  refine ⟨?_, ?_, ?_, ?_⟩
  ·
   intro y0 y1 y2 y3 y4 y5 y6
   unfold j14_plan.j0
   exact zM
  ·
   intro y0 y1 y2 y3 y4 y5 y6
   unfold j14_plan.l0
   exact zM
  ·
   intro y0 y1 y2 y3 y4 y5 y6
   unfold j14_plan.l1
   exact zM
  ·
   intro y0 y1 y2
   unfold j14_plan.l2
   exact zM
theorem j14_plan.mono : ∀ a0 a1 a2 a3 a4 a5 k, LeO (j14_plan.f k a0 a1 a2 a3 a4 a5) (j14_plan.f (k + 1) a0 a1 a2 a3 a4 a5) := by
 intro a0 a1 a2 a3 a4 a5 k
 obtain ⟨ih0, ih1, ih2, ih3⟩ := j14_plan.mono_l k
 unfold j14_plan.f
 exact zM
set_option maxHeartbeats 8000000 in
set_option maxRecDepth 100000 in
theorem j14_plan.calls (k : Nat) (A0 : Option Addr) (c0 : Nat) (l0 : List (S24)) (a1 : Int) (a2_0 : Int) (A2_1 : Option Addr) (c2_1 : Nat) (l2_1 : List (S57)) (a2_2 : Int) (A2_3 : Option Addr) (c2_3 : Nat) (l2_3 : List Int) (r : Int) (w : World) (hr0 : Kd.C k24 w A0 l0.length l0) (hc0 : l0.length ≤ c0) (hr2_1 : Kd.C k57 w A2_1 l2_1.length l2_1) (hc2_1 : l2_1.length ≤ c2_1) (hr2_3 : Kd.C (Kd.int .i64) w A2_3 l2_3.length l2_3) (hc2_3 : l2_3.length ≤ c2_3) (h : j14_plan.f k l0 a1 a2_0 l2_1 a2_2 l2_3 = some r) :
  Calls Try.prog 61 #[.slice A0 l0.length c0, .int .i64 a1, .agg #[.int .i64 a2_0, .slice A2_1 l2_1.length c2_1, .int .i64 a2_2, .slice A2_3 l2_3.length c2_3]] w fun e w' => e = .returned (.int .i64 r) ∧ Below w.heap.size w w' := by
 have hu49 := Try.underlying49
 have HR0 := am hr0
 have HC0 := am hc0
 clear hr0 hc0
 have HR2_1 := am hr2_1
 have HC2_1 := am hc2_1
 clear hr2_1 hc2_1
 have HR2_3 := am hr2_3
 have HC2_3 := am hc2_3
 clear hr2_3 hc2_3
 have HB := am (Below.refl w.heap.size w)
 have H : (if a1 < 1 then (j14_plan.j0 k l0 a1 true a2_0 l2_1 a2_2 l2_3) else (if a1 > 4 then (j14_plan.j0 k l0 a1 true a2_0 l2_1 a2_2 l2_3) else (if a2_0 < 1 then (j14_plan.j0 k l0 a1 true a2_0 l2_1 a2_2 l2_3) else (if a2_0 > 64 then (j14_plan.j0 k l0 a1 true a2_0 l2_1 a2_2 l2_3) else (if a2_2 < 0 then (j14_plan.j0 k l0 a1 true a2_0 l2_1 a2_2 l2_3) else (j14_plan.j0 k l0 a1 (decide ((l2_3.length : Int) > a1)) a2_0 l2_1 a2_2 l2_3)))))) = some r := h
 clear h
 have HC4 := am H
 clear H
 go_enter Try.func61, Try.ntmps61
 go_upto_region 1 with (first | ((with_reducible refine gate_dst (N := 5) rfl ?_); (try (refine gate_guard (by rfl) ?_; dsimp only)); refine zB 5 #[.int .i64 a2_0, .slice A2_1 l2_1.length c2_1, .int .i64 a2_2, .slice A2_3 l2_3.length c2_3] 49 ?_; intro gb450 hg w5 hbox hb; have BK450 := am (hbox); have GE450 := zG hg (zb HB); replace HB := am (below_step (zb HB) hb); clear hb hbox hg))
 (try simp only [Act.put, List.setIfInBounds_toArray, List.set_cons_zero, List.set_cons_succ])
 go_cut [37] (fun v37 wc => ∃ (kq : Nat) (x37_3 : Bool), v37 = .bool x37_3 ∧ Aside0 (j14_plan.j0 kq l0 a1 x37_3 a2_0 l2_1 a2_2 l2_3 = some r) ∧ Aside0 (kq ≤ k) ∧ Aside0 (wc.heap[gb450]? = some (.cells #[.int .i64 a2_0, (.slice A2_1 l2_1.length c2_1), .int .i64 a2_2, (.slice A2_3 l2_3.length c2_3)] 49 (0, 0))) ∧ Aside0 (Below w.heap.size w wc))
 case first =>
  have H := HC4.out
  clear HC4
  by_cases c6 : a1 < 1
  ·
   rw [if_pos c6] at H
   have c6b0 := decide_eq_true c6
   clear c6
   (first | rw [c6b0] | (simp only [i64_w, i32_w]; rw [c6b0]) | skip)
   have H' := am H
   clear H
   go_wp2
   go_meet
   case rel => exact y14
  ·
   rw [if_neg c6] at H
   have c6b0 := decide_eq_false c6
   clear c6
   (first | rw [c6b0] | (simp only [i64_w, i32_w]; rw [c6b0]) | skip)
   by_cases c7 : a1 > 4
   ·
    rw [if_pos c7] at H
    have c7b0 : decide (4 < a1) = true := decide_eq_true c7
    clear c7
    have H' := am H
    clear H
    go_wp2
    go_meet
    case rel => exact y14
   ·
    rw [if_neg c7] at H
    have c7b0 : decide (4 < a1) = false := decide_eq_false c7
    clear c7
    by_cases c8 : a2_0 < 1
    ·
     rw [if_pos c8] at H
     have c8b0 := decide_eq_true c8
     clear c8
     have H' := am H
     clear H
     obtain ⟨hcz9_0, hcz9_1, hcz9_2, hcz9_3⟩ := zc4 BK450
     obtain ⟨hfz9_0, hfz9_1, hfz9_2, hfz9_3⟩ := zf4 BK450
     go_wp2
     go_meet
     case rel => exact y14
    ·
     rw [if_neg c8] at H
     have c8b0 := decide_eq_false c8
     clear c8
     by_cases c10 : a2_0 > 64
     ·
      rw [if_pos c10] at H
      have c10b0 : decide (64 < a2_0) = true := decide_eq_true c10
      clear c10
      have H' := am H
      clear H
      obtain ⟨hcz11_0, hcz11_1, hcz11_2, hcz11_3⟩ := zc4 BK450
      obtain ⟨hfz11_0, hfz11_1, hfz11_2, hfz11_3⟩ := zf4 BK450
      go_wp2
      go_meet
      case rel => exact y14
     ·
      rw [if_neg c10] at H
      have c10b0 : decide (64 < a2_0) = false := decide_eq_false c10
      clear c10
      by_cases c12 : a2_2 < 0
      ·
       rw [if_pos c12] at H
       have c12b0 := decide_eq_true c12
       clear c12
       have H' := am H
       clear H
       obtain ⟨hcz13_0, hcz13_1, hcz13_2, hcz13_3⟩ := zc4 BK450
       obtain ⟨hfz13_0, hfz13_1, hfz13_2, hfz13_3⟩ := zf4 BK450
       go_wp2
       go_meet
       case rel => exact y14
      ·
       rw [if_neg c12] at H
       have c12b0 := decide_eq_false c12
       clear c12
       have H' := am H
       clear H
       obtain ⟨hcz14_0, hcz14_1, hcz14_2, hcz14_3⟩ := zc4 BK450
       obtain ⟨hfz14_0, hfz14_1, hfz14_2, hfz14_3⟩ := zf4 BK450
       go_wp2
       go_meet
       case rel => exact ⟨_, (decide ((l2_3.length : Int) > a1)), zr, H', ⟨by first | omega | exact Nat.le_refl _⟩, ⟨by refine zu ?_; exact BK450.out⟩, ⟨zb HB⟩⟩
 case rest =>
  clear HC4
  obtain ⟨kq, x37_3, rfl, HA, HJ3, BK450, HB⟩ := hcut
  cases kq with
  | zero => exact absurd HA.out (by simp [j14_plan.j0])
  | succ kj3 =>
   have H := HA.out
   clear HA
   simp only [j14_plan.j0] at H
   by_cases c15 : x37_3 = true
   ·
    subst c15
    have H1 : (some 1) = some r := by rw [if_pos rfl] at H; exact H
    clear H
    have H := H1
    clear H1
    obtain rfl := Option.some.inj H
    go_wp2
    go_ret
    exact ⟨ze, zb HB⟩
   ·
    replace c15 := Bool.eq_false_iff.mpr c15
    subst c15
    have H1 : (j14_plan.l0 kj3 l0 a1 0 a2_0 l2_1 a2_2 l2_3) = some r := by rw [if_neg (show ¬ (false = true) by decide)] at H; exact H
    clear H
    have H := H1
    clear H1
    have H' := am H
    clear H
    go_wp2
    go_loopg [7] kj3 (fun kq v7 w' => ∃ (x7_2 : Int), v7 = .int .i64 x7_2 ∧ Aside0 (j14_plan.l0 kq l0 a1 x7_2 a2_0 l2_1 a2_2 l2_3 = some r) ∧ Aside0 (kq ≤ kj3) ∧ Aside0 (w'.heap[gb450]? = some (.cells #[.int .i64 a2_0, (.slice A2_1 l2_1.length c2_1), .int .i64 a2_2, (.slice A2_3 l2_3.length c2_3)] 49 (0, 0))) ∧ Aside0 (Below w.heap.size w w'))
    case atStart => exact ⟨(0), zr, H', ⟨Nat.le_refl _⟩, ⟨by refine zu ?_; exact BK450.out⟩, ⟨zb HB⟩⟩
    case round =>
     clear H'
     obtain ⟨x7_2, rfl, HA, HK2, BK450, HB⟩ := hrel
     cases gk with
     | zero => exact absurd HA.out (by simp [j14_plan.l0])
     | succ k2 =>
      have H := HA.out
      clear HA
      simp only [j14_plan.l0] at H
      by_cases c16 : x7_2 < (l2_1.length : Int)
      ·
       rw [if_pos c16] at H
       have c16b0 := decide_eq_true c16
       clear c16
       by_cases c17 : 0 ≤ x7_2
       ·
        rw [if_pos c17] at H
        have c17b0 := decide_eq_true c17
        clear c17
        by_cases c18 : ((rd_T57 l2_1 x7_2).f0) < 0
        ·
         rw [if_pos c18] at H
         have c18b0 := decide_eq_true c18
         clear c18
         obtain rfl := Option.some.inj H
         obtain ⟨hcz19_0, hcz19_1, hcz19_2, hcz19_3⟩ := zc4 BK450
         obtain ⟨hfz19_0, hfz19_1, hfz19_2, hfz19_3⟩ := zf4 BK450
         have p451 : 0 ≤ (x7_2 : Int) := zo
         have q451 : x7_2 < (l2_1.length : Int) := zo
         obtain ⟨ad451, e451, hx451_0, hx451_1⟩ := at_T57 HR2_1.out x7_2 p451 q451
         cases e451
         replace hx451_0 := zx HB hx451_0
         replace hx451_1 := zx HB hx451_1
         replace p451 := eq_true p451
         replace q451 := eq_true q451
         go_wp2
         go_ret
         exact ⟨ze, zb HB⟩
        ·
         rw [if_neg c18] at H
         have c18b0 := decide_eq_false c18
         clear c18
         by_cases c20 : ((rd_T57 l2_1 x7_2).f1) < 0
         ·
          rw [if_pos c20] at H
          have c20b0 := decide_eq_true c20
          clear c20
          obtain rfl := Option.some.inj H
          obtain ⟨hcz21_0, hcz21_1, hcz21_2, hcz21_3⟩ := zc4 BK450
          obtain ⟨hfz21_0, hfz21_1, hfz21_2, hfz21_3⟩ := zf4 BK450
          have p451 : 0 ≤ (x7_2 : Int) := zo
          have q451 : x7_2 < (l2_1.length : Int) := zo
          obtain ⟨ad451, e451, hx451_0, hx451_1⟩ := at_T57 HR2_1.out x7_2 p451 q451
          cases e451
          replace hx451_0 := zx HB hx451_0
          replace hx451_1 := zx HB hx451_1
          replace p451 := eq_true p451
          replace q451 := eq_true q451
          have p452 : 0 ≤ (x7_2 : Int) := zo
          have q452 : x7_2 < (l2_1.length : Int) := zo
          obtain ⟨ad452, e452, hx452_0, hx452_1⟩ := at_T57 HR2_1.out x7_2 p452 q452
          obtain rfl : ad451 = ad452 := (by injection e452)
          replace hx452_0 := zx HB hx452_0
          replace hx452_1 := zx HB hx452_1
          replace p452 := eq_true p452
          replace q452 := eq_true q452
          go_wp2
          go_ret
          exact ⟨ze, zb HB⟩
         ·
          rw [if_neg c20] at H
          have c20b0 := decide_eq_false c20
          clear c20
          by_cases c22 : ((rd_T57 l2_1 x7_2).f1) ≥ a1
          ·
           rw [if_pos c22] at H
           have c22b0 : decide (a1 ≤ ((rd_T57 l2_1 x7_2).f1)) = true := decide_eq_true c22
           clear c22
           obtain rfl := Option.some.inj H
           obtain ⟨hcz23_0, hcz23_1, hcz23_2, hcz23_3⟩ := zc4 BK450
           obtain ⟨hfz23_0, hfz23_1, hfz23_2, hfz23_3⟩ := zf4 BK450
           have p451 : 0 ≤ (x7_2 : Int) := zo
           have q451 : x7_2 < (l2_1.length : Int) := zo
           obtain ⟨ad451, e451, hx451_0, hx451_1⟩ := at_T57 HR2_1.out x7_2 p451 q451
           cases e451
           replace hx451_0 := zx HB hx451_0
           replace hx451_1 := zx HB hx451_1
           replace p451 := eq_true p451
           replace q451 := eq_true q451
           have p452 : 0 ≤ (x7_2 : Int) := zo
           have q452 : x7_2 < (l2_1.length : Int) := zo
           obtain ⟨ad452, e452, hx452_0, hx452_1⟩ := at_T57 HR2_1.out x7_2 p452 q452
           obtain rfl : ad451 = ad452 := (by injection e452)
           replace hx452_0 := zx HB hx452_0
           replace hx452_1 := zx HB hx452_1
           replace p452 := eq_true p452
           replace q452 := eq_true q452
           have p453 : 0 ≤ (x7_2 : Int) := zo
           have q453 : x7_2 < (l2_1.length : Int) := zo
           obtain ⟨ad453, e453, hx453_0, hx453_1⟩ := at_T57 HR2_1.out x7_2 p453 q453
           obtain rfl : ad451 = ad453 := (by injection e453)
           replace hx453_0 := zx HB hx453_0
           replace hx453_1 := zx HB hx453_1
           replace p453 := eq_true p453
           replace q453 := eq_true q453
           go_wp2
           go_ret
           exact ⟨ze, zb HB⟩
          ·
           rw [if_neg c22] at H
           have c22b0 : decide (a1 ≤ ((rd_T57 l2_1 x7_2).f1)) = false := decide_eq_false c22
           clear c22
           have H' := am H
           clear H
           obtain ⟨hcz24_0, hcz24_1, hcz24_2, hcz24_3⟩ := zc4 BK450
           obtain ⟨hfz24_0, hfz24_1, hfz24_2, hfz24_3⟩ := zf4 BK450
           have p451 : 0 ≤ (x7_2 : Int) := zo
           have q451 : x7_2 < (l2_1.length : Int) := zo
           obtain ⟨ad451, e451, hx451_0, hx451_1⟩ := at_T57 HR2_1.out x7_2 p451 q451
           cases e451
           replace hx451_0 := zx HB hx451_0
           replace hx451_1 := zx HB hx451_1
           replace p451 := eq_true p451
           replace q451 := eq_true q451
           have p452 : 0 ≤ (x7_2 : Int) := zo
           have q452 : x7_2 < (l2_1.length : Int) := zo
           obtain ⟨ad452, e452, hx452_0, hx452_1⟩ := at_T57 HR2_1.out x7_2 p452 q452
           obtain rfl : ad451 = ad452 := (by injection e452)
           replace hx452_0 := zx HB hx452_0
           replace hx452_1 := zx HB hx452_1
           replace p452 := eq_true p452
           replace q452 := eq_true q452
           have p453 : 0 ≤ (x7_2 : Int) := zo
           have q453 : x7_2 < (l2_1.length : Int) := zo
           obtain ⟨ad453, e453, hx453_0, hx453_1⟩ := at_T57 HR2_1.out x7_2 p453 q453
           obtain rfl : ad451 = ad453 := (by injection e453)
           replace hx453_0 := zx HB hx453_0
           replace hx453_1 := zx HB hx453_1
           replace p453 := eq_true p453
           replace q453 := eq_true q453
           go_wp2
           go_roundg k2
           case measure => have := HJ3.out; have := HK2.out; omega
           case rel => exact ⟨(wrap64 (x7_2 + 1)), zr, H', ⟨by have := HJ3.out; have := HK2.out; omega⟩, ⟨by refine zu ?_; exact BK450.out⟩, ⟨zb HB⟩⟩
       ·
        rw [if_neg c17] at H
        exact absurd H (by simp)
      ·
       rw [if_neg c16] at H
       have c16b0 := decide_eq_false c16
       clear c16
       have H' := am H
       clear H
       obtain ⟨hcz25_0, hcz25_1, hcz25_2, hcz25_3⟩ := zc4 BK450
       obtain ⟨hfz25_0, hfz25_1, hfz25_2, hfz25_3⟩ := zf4 BK450
       go_wp2
       go_loopg [8] k2 (fun kq v8 w' => ∃ (x8_3 : Int), v8 = .int .i64 x8_3 ∧ Aside0 (j14_plan.l1 kq l0 a1 x8_3 a2_0 l2_1 a2_2 l2_3 = some r) ∧ Aside0 (kq ≤ k2) ∧ Aside0 (w'.heap[gb450]? = some (.cells #[.int .i64 a2_0, (.slice A2_1 l2_1.length c2_1), .int .i64 a2_2, (.slice A2_3 l2_3.length c2_3)] 49 (0, 0))) ∧ Aside0 (Below w.heap.size w w'))
       case atStart => exact ⟨(0), zr, H', ⟨Nat.le_refl _⟩, ⟨by refine zu ?_; exact BK450.out⟩, ⟨zb HB⟩⟩
       case round =>
        clear H'
        obtain ⟨x8_3, rfl, HA, HK3, BK450, HB⟩ := hrel
        cases gk with
        | zero => exact absurd HA.out (by simp [j14_plan.l1])
        | succ k3 =>
         have H := HA.out
         clear HA
         simp only [j14_plan.l1] at H
         by_cases c26 : x8_3 < (l2_3.length : Int)
         ·
          rw [if_pos c26] at H
          have c26b0 := decide_eq_true c26
          clear c26
          by_cases c27 : 0 ≤ x8_3
          ·
           rw [if_pos c27] at H
           have c27b0 := decide_eq_true c27
           clear c27
           by_cases c28 : (rd l2_3 x8_3) < 0
           ·
            rw [if_pos c28] at H
            have c28b0 := decide_eq_true c28
            clear c28
            obtain rfl := Option.some.inj H
            obtain ⟨hcz29_0, hcz29_1, hcz29_2, hcz29_3⟩ := zc4 BK450
            obtain ⟨hfz29_0, hfz29_1, hfz29_2, hfz29_3⟩ := zf4 BK450
            have p454 : 0 ≤ (x8_3 : Int) := zo
            have q454 : x8_3 < (l2_3.length : Int) := zo
            obtain ⟨ad454, e454, hx454_0⟩ := Kd.at_int HR2_3.out x8_3 p454 q454
            cases e454
            replace hx454_0 := zx HB hx454_0
            replace p454 := eq_true p454
            replace q454 := eq_true q454
            go_wp2
            go_ret
            exact ⟨ze, zb HB⟩
           ·
            rw [if_neg c28] at H
            have c28b0 := decide_eq_false c28
            clear c28
            have H' := am H
            clear H
            obtain ⟨hcz30_0, hcz30_1, hcz30_2, hcz30_3⟩ := zc4 BK450
            obtain ⟨hfz30_0, hfz30_1, hfz30_2, hfz30_3⟩ := zf4 BK450
            have p454 : 0 ≤ (x8_3 : Int) := zo
            have q454 : x8_3 < (l2_3.length : Int) := zo
            obtain ⟨ad454, e454, hx454_0⟩ := Kd.at_int HR2_3.out x8_3 p454 q454
            cases e454
            replace hx454_0 := zx HB hx454_0
            replace p454 := eq_true p454
            replace q454 := eq_true q454
            go_wp2
            go_roundg k3
            case measure => have := HJ3.out; have := HK2.out; have := HK3.out; omega
            case rel => exact ⟨(wrap64 (x8_3 + 1)), zr, H', ⟨by have := HJ3.out; have := HK2.out; have := HK3.out; omega⟩, ⟨by refine zu ?_; exact BK450.out⟩, ⟨zb HB⟩⟩
          ·
           rw [if_neg c27] at H
           exact absurd H (by simp)
         ·
          rw [if_neg c26] at H
          have c26b0 := decide_eq_false c26
          clear c26
          by_cases c31 : (l0.length : Int) > 400
          ·
           rw [if_pos c31] at H
           have c31b0 : decide (400 < (l0.length : Int)) = true := decide_eq_true c31
           have c31b1 : decide (400 < l0.length) = true := decide_eq_true (by omega)
           clear c31
           obtain rfl := Option.some.inj H
           obtain ⟨hcz32_0, hcz32_1, hcz32_2, hcz32_3⟩ := zc4 BK450
           obtain ⟨hfz32_0, hfz32_1, hfz32_2, hfz32_3⟩ := zf4 BK450
           go_wp2
           go_ret
           exact ⟨ze, zb HB⟩
          ·
           rw [if_neg c31] at H
           have c31b0 : decide (400 < (l0.length : Int)) = false := decide_eq_false c31
           have c31b1 : decide (400 < l0.length) = false := decide_eq_false (by omega)
           clear c31
           have H' := am H
           clear H
           obtain ⟨hcz33_0, hcz33_1, hcz33_2, hcz33_3⟩ := zc4 BK450
           obtain ⟨hfz33_0, hfz33_1, hfz33_2, hfz33_3⟩ := zf4 BK450
           go_wp2
           go_loopg [9] k3 (fun kq v9 w' => ∃ (x9_4 : Int), v9 = .int .i64 x9_4 ∧ Aside0 (j14_plan.l2 kq l0 a1 x9_4 = some r) ∧ Aside0 (kq ≤ k3) ∧ Aside0 (w'.heap[gb450]? = some (.cells #[.int .i64 a2_0, (.slice A2_1 l2_1.length c2_1), .int .i64 a2_2, (.slice A2_3 l2_3.length c2_3)] 49 (0, 0))) ∧ Aside0 (Below w.heap.size w w'))
           case atStart => exact ⟨(0), zr, H', ⟨Nat.le_refl _⟩, ⟨by refine zu ?_; exact BK450.out⟩, ⟨zb HB⟩⟩
           case round =>
            clear H'
            obtain ⟨x9_4, rfl, HA, HK4, BK450, HB⟩ := hrel
            cases gk with
            | zero => exact absurd HA.out (by simp [j14_plan.l2])
            | succ k4 =>
             have H := HA.out
             clear HA
             simp only [j14_plan.l2] at H
             by_cases c34 : x9_4 < (l0.length : Int)
             ·
              rw [if_pos c34] at H
              have c34b0 := decide_eq_true c34
              clear c34
              by_cases c35 : 0 ≤ x9_4
              ·
               rw [if_pos c35] at H
               have c35b0 := decide_eq_true c35
               clear c35
               by_cases c36 : ((rd_T24 l0 x9_4).f0) < 0
               ·
                rw [if_pos c36] at H
                have c36b0 := decide_eq_true c36
                clear c36
                obtain rfl := Option.some.inj H
                have p455 : 0 ≤ (x9_4 : Int) := zo
                have q455 : x9_4 < (l0.length : Int) := zo
                obtain ⟨ad455, A455_5, c455_5, A455_6, c455_6, e455, hx455_0, hx455_1, hx455_2, hx455_3, hx455_4, hx455_5, hx455_6, hl455_5, hi455_5, hl455_6, hi455_6⟩ := at_T24 HR0.out x9_4 p455 q455
                cases e455
                replace hx455_0 := zx HB hx455_0
                replace hx455_1 := zx HB hx455_1
                replace hx455_2 := zx HB hx455_2
                replace hx455_3 := zx HB hx455_3
                replace hx455_4 := zx HB hx455_4
                replace hx455_5 := zx HB hx455_5
                replace hx455_6 := zx HB hx455_6
                have HR455_5 := am hi455_5
                have HC455_5 := am hl455_5
                clear hi455_5 hl455_5
                have HR455_6 := am hi455_6
                have HC455_6 := am hl455_6
                clear hi455_6 hl455_6
                replace p455 := eq_true p455
                replace q455 := eq_true q455
                go_wp2
                go_ret
                exact ⟨ze, zb HB⟩
               ·
                rw [if_neg c36] at H
                have c36b0 := decide_eq_false c36
                clear c36
                by_cases c37 : ((rd_T24 l0 x9_4).f0) ≥ a1
                ·
                 rw [if_pos c37] at H
                 have c37b0 : decide (a1 ≤ ((rd_T24 l0 x9_4).f0)) = true := decide_eq_true c37
                 clear c37
                 obtain rfl := Option.some.inj H
                 have p455 : 0 ≤ (x9_4 : Int) := zo
                 have q455 : x9_4 < (l0.length : Int) := zo
                 obtain ⟨ad455, A455_5, c455_5, A455_6, c455_6, e455, hx455_0, hx455_1, hx455_2, hx455_3, hx455_4, hx455_5, hx455_6, hl455_5, hi455_5, hl455_6, hi455_6⟩ := at_T24 HR0.out x9_4 p455 q455
                 cases e455
                 replace hx455_0 := zx HB hx455_0
                 replace hx455_1 := zx HB hx455_1
                 replace hx455_2 := zx HB hx455_2
                 replace hx455_3 := zx HB hx455_3
                 replace hx455_4 := zx HB hx455_4
                 replace hx455_5 := zx HB hx455_5
                 replace hx455_6 := zx HB hx455_6
                 have HR455_5 := am hi455_5
                 have HC455_5 := am hl455_5
                 clear hi455_5 hl455_5
                 have HR455_6 := am hi455_6
                 have HC455_6 := am hl455_6
                 clear hi455_6 hl455_6
                 replace p455 := eq_true p455
                 replace q455 := eq_true q455
                 have p456 : 0 ≤ (x9_4 : Int) := zo
                 have q456 : x9_4 < (l0.length : Int) := zo
                 obtain ⟨ad456, A456_5, c456_5, A456_6, c456_6, e456, hx456_0, hx456_1, hx456_2, hx456_3, hx456_4, hx456_5, hx456_6, hl456_5, hi456_5, hl456_6, hi456_6⟩ := at_T24 HR0.out x9_4 p456 q456
                 obtain rfl : ad455 = ad456 := (by injection e456)
                 replace hx456_0 := zx HB hx456_0
                 replace hx456_1 := zx HB hx456_1
                 replace hx456_2 := zx HB hx456_2
                 replace hx456_3 := zx HB hx456_3
                 replace hx456_4 := zx HB hx456_4
                 replace hx456_5 := zx HB hx456_5
                 replace hx456_6 := zx HB hx456_6
                 have HR456_5 := am hi456_5
                 have HC456_5 := am hl456_5
                 clear hi456_5 hl456_5
                 have HR456_6 := am hi456_6
                 have HC456_6 := am hl456_6
                 clear hi456_6 hl456_6
                 replace p456 := eq_true p456
                 replace q456 := eq_true q456
                 have ea_ := Option.some.inj (hx455_5.symm.trans hx456_5)
                 injection ea_ with ea_ en_ ec_
                 subst ea_
                 subst ec_
                 clear en_
                 have ea_ := Option.some.inj (hx455_6.symm.trans hx456_6)
                 injection ea_ with ea_ en_ ec_
                 subst ea_
                 subst ec_
                 clear en_
                 go_wp2
                 go_ret
                 exact ⟨ze, zb HB⟩
                ·
                 rw [if_neg c37] at H
                 have c37b0 : decide (a1 ≤ ((rd_T24 l0 x9_4).f0)) = false := decide_eq_false c37
                 clear c37
                 by_cases c38 : (((rd_T24 l0 x9_4).f5).length : Int) > 400
                 ·
                  rw [if_pos c38] at H
                  have c38b0 : decide (400 < (((rd_T24 l0 x9_4).f5).length : Int)) = true := decide_eq_true c38
                  have c38b1 : decide (400 < ((rd_T24 l0 x9_4).f5).length) = true := decide_eq_true (by omega)
                  clear c38
                  obtain rfl := Option.some.inj H
                  have p455 : 0 ≤ (x9_4 : Int) := zo
                  have q455 : x9_4 < (l0.length : Int) := zo
                  obtain ⟨ad455, A455_5, c455_5, A455_6, c455_6, e455, hx455_0, hx455_1, hx455_2, hx455_3, hx455_4, hx455_5, hx455_6, hl455_5, hi455_5, hl455_6, hi455_6⟩ := at_T24 HR0.out x9_4 p455 q455
                  cases e455
                  replace hx455_0 := zx HB hx455_0
                  replace hx455_1 := zx HB hx455_1
                  replace hx455_2 := zx HB hx455_2
                  replace hx455_3 := zx HB hx455_3
                  replace hx455_4 := zx HB hx455_4
                  replace hx455_5 := zx HB hx455_5
                  replace hx455_6 := zx HB hx455_6
                  have HR455_5 := am hi455_5
                  have HC455_5 := am hl455_5
                  clear hi455_5 hl455_5
                  have HR455_6 := am hi455_6
                  have HC455_6 := am hl455_6
                  clear hi455_6 hl455_6
                  replace p455 := eq_true p455
                  replace q455 := eq_true q455
                  have p456 : 0 ≤ (x9_4 : Int) := zo
                  have q456 : x9_4 < (l0.length : Int) := zo
                  obtain ⟨ad456, A456_5, c456_5, A456_6, c456_6, e456, hx456_0, hx456_1, hx456_2, hx456_3, hx456_4, hx456_5, hx456_6, hl456_5, hi456_5, hl456_6, hi456_6⟩ := at_T24 HR0.out x9_4 p456 q456
                  obtain rfl : ad455 = ad456 := (by injection e456)
                  replace hx456_0 := zx HB hx456_0
                  replace hx456_1 := zx HB hx456_1
                  replace hx456_2 := zx HB hx456_2
                  replace hx456_3 := zx HB hx456_3
                  replace hx456_4 := zx HB hx456_4
                  replace hx456_5 := zx HB hx456_5
                  replace hx456_6 := zx HB hx456_6
                  have HR456_5 := am hi456_5
                  have HC456_5 := am hl456_5
                  clear hi456_5 hl456_5
                  have HR456_6 := am hi456_6
                  have HC456_6 := am hl456_6
                  clear hi456_6 hl456_6
                  replace p456 := eq_true p456
                  replace q456 := eq_true q456
                  have ea_ := Option.some.inj (hx455_5.symm.trans hx456_5)
                  injection ea_ with ea_ en_ ec_
                  subst ea_
                  subst ec_
                  clear en_
                  have ea_ := Option.some.inj (hx455_6.symm.trans hx456_6)
                  injection ea_ with ea_ en_ ec_
                  subst ea_
                  subst ec_
                  clear en_
                  have p457 : 0 ≤ (x9_4 : Int) := zo
                  have q457 : x9_4 < (l0.length : Int) := zo
                  obtain ⟨ad457, A457_5, c457_5, A457_6, c457_6, e457, hx457_0, hx457_1, hx457_2, hx457_3, hx457_4, hx457_5, hx457_6, hl457_5, hi457_5, hl457_6, hi457_6⟩ := at_T24 HR0.out x9_4 p457 q457
                  obtain rfl : ad455 = ad457 := (by injection e457)
                  replace hx457_0 := zx HB hx457_0
                  replace hx457_1 := zx HB hx457_1
                  replace hx457_2 := zx HB hx457_2
                  replace hx457_3 := zx HB hx457_3
                  replace hx457_4 := zx HB hx457_4
                  replace hx457_5 := zx HB hx457_5
                  replace hx457_6 := zx HB hx457_6
                  have HR457_5 := am hi457_5
                  have HC457_5 := am hl457_5
                  clear hi457_5 hl457_5
                  have HR457_6 := am hi457_6
                  have HC457_6 := am hl457_6
                  clear hi457_6 hl457_6
                  replace p457 := eq_true p457
                  replace q457 := eq_true q457
                  have ea_ := Option.some.inj (hx455_5.symm.trans hx457_5)
                  injection ea_ with ea_ en_ ec_
                  subst ea_
                  subst ec_
                  clear en_
                  have ea_ := Option.some.inj (hx455_6.symm.trans hx457_6)
                  injection ea_ with ea_ en_ ec_
                  subst ea_
                  subst ec_
                  clear en_
                  go_wp2
                  go_ret
                  exact ⟨ze, zb HB⟩
                 ·
                  rw [if_neg c38] at H
                  have c38b0 : decide (400 < (((rd_T24 l0 x9_4).f5).length : Int)) = false := decide_eq_false c38
                  have c38b1 : decide (400 < ((rd_T24 l0 x9_4).f5).length) = false := decide_eq_false (by omega)
                  clear c38
                  by_cases c39 : (((rd_T24 l0 x9_4).f6).length : Int) > 400
                  ·
                   rw [if_pos c39] at H
                   have c39b0 : decide (400 < (((rd_T24 l0 x9_4).f6).length : Int)) = true := decide_eq_true c39
                   have c39b1 : decide (400 < ((rd_T24 l0 x9_4).f6).length) = true := decide_eq_true (by omega)
                   clear c39
                   obtain rfl := Option.some.inj H
                   have p455 : 0 ≤ (x9_4 : Int) := zo
                   have q455 : x9_4 < (l0.length : Int) := zo
                   obtain ⟨ad455, A455_5, c455_5, A455_6, c455_6, e455, hx455_0, hx455_1, hx455_2, hx455_3, hx455_4, hx455_5, hx455_6, hl455_5, hi455_5, hl455_6, hi455_6⟩ := at_T24 HR0.out x9_4 p455 q455
                   cases e455
                   replace hx455_0 := zx HB hx455_0
                   replace hx455_1 := zx HB hx455_1
                   replace hx455_2 := zx HB hx455_2
                   replace hx455_3 := zx HB hx455_3
                   replace hx455_4 := zx HB hx455_4
                   replace hx455_5 := zx HB hx455_5
                   replace hx455_6 := zx HB hx455_6
                   have HR455_5 := am hi455_5
                   have HC455_5 := am hl455_5
                   clear hi455_5 hl455_5
                   have HR455_6 := am hi455_6
                   have HC455_6 := am hl455_6
                   clear hi455_6 hl455_6
                   replace p455 := eq_true p455
                   replace q455 := eq_true q455
                   have p456 : 0 ≤ (x9_4 : Int) := zo
                   have q456 : x9_4 < (l0.length : Int) := zo
                   obtain ⟨ad456, A456_5, c456_5, A456_6, c456_6, e456, hx456_0, hx456_1, hx456_2, hx456_3, hx456_4, hx456_5, hx456_6, hl456_5, hi456_5, hl456_6, hi456_6⟩ := at_T24 HR0.out x9_4 p456 q456
                   obtain rfl : ad455 = ad456 := (by injection e456)
                   replace hx456_0 := zx HB hx456_0
                   replace hx456_1 := zx HB hx456_1
                   replace hx456_2 := zx HB hx456_2
                   replace hx456_3 := zx HB hx456_3
                   replace hx456_4 := zx HB hx456_4
                   replace hx456_5 := zx HB hx456_5
                   replace hx456_6 := zx HB hx456_6
                   have HR456_5 := am hi456_5
                   have HC456_5 := am hl456_5
                   clear hi456_5 hl456_5
                   have HR456_6 := am hi456_6
                   have HC456_6 := am hl456_6
                   clear hi456_6 hl456_6
                   replace p456 := eq_true p456
                   replace q456 := eq_true q456
                   have ea_ := Option.some.inj (hx455_5.symm.trans hx456_5)
                   injection ea_ with ea_ en_ ec_
                   subst ea_
                   subst ec_
                   clear en_
                   have ea_ := Option.some.inj (hx455_6.symm.trans hx456_6)
                   injection ea_ with ea_ en_ ec_
                   subst ea_
                   subst ec_
                   clear en_
                   have p457 : 0 ≤ (x9_4 : Int) := zo
                   have q457 : x9_4 < (l0.length : Int) := zo
                   obtain ⟨ad457, A457_5, c457_5, A457_6, c457_6, e457, hx457_0, hx457_1, hx457_2, hx457_3, hx457_4, hx457_5, hx457_6, hl457_5, hi457_5, hl457_6, hi457_6⟩ := at_T24 HR0.out x9_4 p457 q457
                   obtain rfl : ad455 = ad457 := (by injection e457)
                   replace hx457_0 := zx HB hx457_0
                   replace hx457_1 := zx HB hx457_1
                   replace hx457_2 := zx HB hx457_2
                   replace hx457_3 := zx HB hx457_3
                   replace hx457_4 := zx HB hx457_4
                   replace hx457_5 := zx HB hx457_5
                   replace hx457_6 := zx HB hx457_6
                   have HR457_5 := am hi457_5
                   have HC457_5 := am hl457_5
                   clear hi457_5 hl457_5
                   have HR457_6 := am hi457_6
                   have HC457_6 := am hl457_6
                   clear hi457_6 hl457_6
                   replace p457 := eq_true p457
                   replace q457 := eq_true q457
                   have ea_ := Option.some.inj (hx455_5.symm.trans hx457_5)
                   injection ea_ with ea_ en_ ec_
                   subst ea_
                   subst ec_
                   clear en_
                   have ea_ := Option.some.inj (hx455_6.symm.trans hx457_6)
                   injection ea_ with ea_ en_ ec_
                   subst ea_
                   subst ec_
                   clear en_
                   have p458 : 0 ≤ (x9_4 : Int) := zo
                   have q458 : x9_4 < (l0.length : Int) := zo
                   obtain ⟨ad458, A458_5, c458_5, A458_6, c458_6, e458, hx458_0, hx458_1, hx458_2, hx458_3, hx458_4, hx458_5, hx458_6, hl458_5, hi458_5, hl458_6, hi458_6⟩ := at_T24 HR0.out x9_4 p458 q458
                   obtain rfl : ad455 = ad458 := (by injection e458)
                   replace hx458_0 := zx HB hx458_0
                   replace hx458_1 := zx HB hx458_1
                   replace hx458_2 := zx HB hx458_2
                   replace hx458_3 := zx HB hx458_3
                   replace hx458_4 := zx HB hx458_4
                   replace hx458_5 := zx HB hx458_5
                   replace hx458_6 := zx HB hx458_6
                   have HR458_5 := am hi458_5
                   have HC458_5 := am hl458_5
                   clear hi458_5 hl458_5
                   have HR458_6 := am hi458_6
                   have HC458_6 := am hl458_6
                   clear hi458_6 hl458_6
                   replace p458 := eq_true p458
                   replace q458 := eq_true q458
                   have ea_ := Option.some.inj (hx455_5.symm.trans hx458_5)
                   injection ea_ with ea_ en_ ec_
                   subst ea_
                   subst ec_
                   clear en_
                   have ea_ := Option.some.inj (hx455_6.symm.trans hx458_6)
                   injection ea_ with ea_ en_ ec_
                   subst ea_
                   subst ec_
                   clear en_
                   go_wp2
                   go_ret
                   exact ⟨ze, zb HB⟩
                  ·
                   rw [if_neg c39] at H
                   have c39b0 : decide (400 < (((rd_T24 l0 x9_4).f6).length : Int)) = false := decide_eq_false c39
                   have c39b1 : decide (400 < ((rd_T24 l0 x9_4).f6).length) = false := decide_eq_false (by omega)
                   clear c39
                   have H' := am H
                   clear H
                   have p455 : 0 ≤ (x9_4 : Int) := zo
                   have q455 : x9_4 < (l0.length : Int) := zo
                   obtain ⟨ad455, A455_5, c455_5, A455_6, c455_6, e455, hx455_0, hx455_1, hx455_2, hx455_3, hx455_4, hx455_5, hx455_6, hl455_5, hi455_5, hl455_6, hi455_6⟩ := at_T24 HR0.out x9_4 p455 q455
                   cases e455
                   replace hx455_0 := zx HB hx455_0
                   replace hx455_1 := zx HB hx455_1
                   replace hx455_2 := zx HB hx455_2
                   replace hx455_3 := zx HB hx455_3
                   replace hx455_4 := zx HB hx455_4
                   replace hx455_5 := zx HB hx455_5
                   replace hx455_6 := zx HB hx455_6
                   have HR455_5 := am hi455_5
                   have HC455_5 := am hl455_5
                   clear hi455_5 hl455_5
                   have HR455_6 := am hi455_6
                   have HC455_6 := am hl455_6
                   clear hi455_6 hl455_6
                   replace p455 := eq_true p455
                   replace q455 := eq_true q455
                   have p456 : 0 ≤ (x9_4 : Int) := zo
                   have q456 : x9_4 < (l0.length : Int) := zo
                   obtain ⟨ad456, A456_5, c456_5, A456_6, c456_6, e456, hx456_0, hx456_1, hx456_2, hx456_3, hx456_4, hx456_5, hx456_6, hl456_5, hi456_5, hl456_6, hi456_6⟩ := at_T24 HR0.out x9_4 p456 q456
                   obtain rfl : ad455 = ad456 := (by injection e456)
                   replace hx456_0 := zx HB hx456_0
                   replace hx456_1 := zx HB hx456_1
                   replace hx456_2 := zx HB hx456_2
                   replace hx456_3 := zx HB hx456_3
                   replace hx456_4 := zx HB hx456_4
                   replace hx456_5 := zx HB hx456_5
                   replace hx456_6 := zx HB hx456_6
                   have HR456_5 := am hi456_5
                   have HC456_5 := am hl456_5
                   clear hi456_5 hl456_5
                   have HR456_6 := am hi456_6
                   have HC456_6 := am hl456_6
                   clear hi456_6 hl456_6
                   replace p456 := eq_true p456
                   replace q456 := eq_true q456
                   have ea_ := Option.some.inj (hx455_5.symm.trans hx456_5)
                   injection ea_ with ea_ en_ ec_
                   subst ea_
                   subst ec_
                   clear en_
                   have ea_ := Option.some.inj (hx455_6.symm.trans hx456_6)
                   injection ea_ with ea_ en_ ec_
                   subst ea_
                   subst ec_
                   clear en_
                   have p457 : 0 ≤ (x9_4 : Int) := zo
                   have q457 : x9_4 < (l0.length : Int) := zo
                   obtain ⟨ad457, A457_5, c457_5, A457_6, c457_6, e457, hx457_0, hx457_1, hx457_2, hx457_3, hx457_4, hx457_5, hx457_6, hl457_5, hi457_5, hl457_6, hi457_6⟩ := at_T24 HR0.out x9_4 p457 q457
                   obtain rfl : ad455 = ad457 := (by injection e457)
                   replace hx457_0 := zx HB hx457_0
                   replace hx457_1 := zx HB hx457_1
                   replace hx457_2 := zx HB hx457_2
                   replace hx457_3 := zx HB hx457_3
                   replace hx457_4 := zx HB hx457_4
                   replace hx457_5 := zx HB hx457_5
                   replace hx457_6 := zx HB hx457_6
                   have HR457_5 := am hi457_5
                   have HC457_5 := am hl457_5
                   clear hi457_5 hl457_5
                   have HR457_6 := am hi457_6
                   have HC457_6 := am hl457_6
                   clear hi457_6 hl457_6
                   replace p457 := eq_true p457
                   replace q457 := eq_true q457
                   have ea_ := Option.some.inj (hx455_5.symm.trans hx457_5)
                   injection ea_ with ea_ en_ ec_
                   subst ea_
                   subst ec_
                   clear en_
                   have ea_ := Option.some.inj (hx455_6.symm.trans hx457_6)
                   injection ea_ with ea_ en_ ec_
                   subst ea_
                   subst ec_
                   clear en_
                   have p458 : 0 ≤ (x9_4 : Int) := zo
                   have q458 : x9_4 < (l0.length : Int) := zo
                   obtain ⟨ad458, A458_5, c458_5, A458_6, c458_6, e458, hx458_0, hx458_1, hx458_2, hx458_3, hx458_4, hx458_5, hx458_6, hl458_5, hi458_5, hl458_6, hi458_6⟩ := at_T24 HR0.out x9_4 p458 q458
                   obtain rfl : ad455 = ad458 := (by injection e458)
                   replace hx458_0 := zx HB hx458_0
                   replace hx458_1 := zx HB hx458_1
                   replace hx458_2 := zx HB hx458_2
                   replace hx458_3 := zx HB hx458_3
                   replace hx458_4 := zx HB hx458_4
                   replace hx458_5 := zx HB hx458_5
                   replace hx458_6 := zx HB hx458_6
                   have HR458_5 := am hi458_5
                   have HC458_5 := am hl458_5
                   clear hi458_5 hl458_5
                   have HR458_6 := am hi458_6
                   have HC458_6 := am hl458_6
                   clear hi458_6 hl458_6
                   replace p458 := eq_true p458
                   replace q458 := eq_true q458
                   have ea_ := Option.some.inj (hx455_5.symm.trans hx458_5)
                   injection ea_ with ea_ en_ ec_
                   subst ea_
                   subst ec_
                   clear en_
                   have ea_ := Option.some.inj (hx455_6.symm.trans hx458_6)
                   injection ea_ with ea_ en_ ec_
                   subst ea_
                   subst ec_
                   clear en_
                   go_wp2
                   go_roundg k4
                   case measure => have := HJ3.out; have := HK2.out; have := HK3.out; have := HK4.out; omega
                   case rel => exact ⟨(wrap64 (x9_4 + 1)), zr, H', ⟨by have := HJ3.out; have := HK2.out; have := HK3.out; have := HK4.out; omega⟩, ⟨by refine zu ?_; exact BK450.out⟩, ⟨zb HB⟩⟩
              ·
               rw [if_neg c35] at H
               exact absurd H (by simp)
             ·
              rw [if_neg c34] at H
              have c34b0 := decide_eq_false c34
              clear c34
              obtain rfl := Option.some.inj H
              go_wp2
              go_ret
              exact ⟨ze, zb HB⟩
end Go.Proofs.Ytnmmkgagbfniiaa.A
end
