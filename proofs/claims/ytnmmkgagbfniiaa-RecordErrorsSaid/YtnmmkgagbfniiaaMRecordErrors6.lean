/- MRecordErrors6: texts of this session and of the kit's printer on the road to the statement RecordErrors, laid into one and rid of what it doesn't need. No condition beyond what each fact names. -/
import Derived.Test.YtnmmkgagbfniiaaMRecordErrors3
import Derived.Test.YtnmmkgagbfniiaaMRecordErrors2
import Derived.Test.YtnmmkgagbfniiaaMRecordErrors5
section
namespace Go.Proofs.Ytnmmkgagbfniiaa.A
open Go.RowKit Go.Proofs.YtnmmkgagbfniiaaW.PrintWords Go.Proofs.YtnmmkgagbfniiaaW.PrintLast Go.Proofs.YtnmmkgagbfniiaaW.PrintMore
attribute [local go_sem] max2_int min2_int max_two min_two max_three min_three max_four min_four
set_option linter.unusedVariables false
set_option linter.unusedSimpArgs false
mutual
def j11_Fits.j0 : Nat → Bool → Int → Int → List (S26) → Option (Int)
 | 0, _, _, _, _ => none
 | k + 1, x32, x345000, x345001, x345002 => if x32 = true then (some 1) else (j11_Fits.l0 k 0 x345000 x345001 x345002)
def j11_Fits.l0 : Nat → Int → Int → Int → List (S26) → Option (Int)
 | 0, _, _, _, _ => none
 | k + 1, x3, x345000, x345001, x345002 => if x3 < (x345002.length : Int) then (if 0 ≤ x3 then (if ((rd_T26 x345002 x3).f1.f0) = x345000 then (if ((rd_T26 x345002 x3).f0) < 0 then (some 1) else (if x3 > 0 then (if 0 ≤ (wrap64 (x3 - 1)) then (if (wrap64 (x3 - 1)) < (x345002.length : Int) then (if ((rd_T26 x345002 x3).f0) ≤ ((rd_T26 x345002 (wrap64 (x3 - 1))).f0) then (some 1) else (if (((rd_T26 x345002 x3).f1.f5).length : Int) > 400 then (some 1) else (if (((rd_T26 x345002 x3).f1.f6).length : Int) > 400 then (some 1) else (j11_Fits.l0 k (wrap64 (x3 + 1)) x345000 x345001 x345002)))) else (none)) else (none)) else (if (((rd_T26 x345002 x3).f1.f5).length : Int) > 400 then (some 1) else (if (((rd_T26 x345002 x3).f1.f6).length : Int) > 400 then (some 1) else (j11_Fits.l0 k (wrap64 (x3 + 1)) x345000 x345001 x345002))))) else (some 1)) else (none)) else (some 0)
end
def j11_Fits.f (k : Nat) (a0_0 : Int) (a0_1 : Int) (l0_2 : List (S26)) : Option (Int) := if (l0_2.length : Int) > 64 then (some 2) else (if (l0_2.length : Int) = 0 then (j11_Fits.j0 k true a0_0 a0_1 l0_2) else (if a0_0 < 0 then (j11_Fits.j0 k true a0_0 a0_1 l0_2) else (if a0_0 ≥ 4 then (j11_Fits.j0 k true a0_0 a0_1 l0_2) else (if a0_1 < 0 then (j11_Fits.j0 k true a0_0 a0_1 l0_2) else (j11_Fits.j0 k (decide (a0_1 > 400)) a0_0 a0_1 l0_2)))))
theorem j11_Fits.mono_l : ∀ k, (∀ y0 y1 y2 y3, LeO (j11_Fits.j0 k y0 y1 y2 y3) (j11_Fits.j0 (k + 1) y0 y1 y2 y3)) ∧ (∀ y0 y1 y2 y3, LeO (j11_Fits.l0 k y0 y1 y2 y3) (j11_Fits.l0 (k + 1) y0 y1 y2 y3))
 | 0 => ⟨fun _ _ _ _ r h => by simp [j11_Fits.j0] at h, fun _ _ _ _ r h => by simp [j11_Fits.l0] at h⟩
 | k + 1 => by
  obtain ⟨ih0, ih1⟩ := j11_Fits.mono_l k
  refine ⟨?_, ?_⟩
  ·
   intro y0 y1 y2 y3
   unfold j11_Fits.j0
   exact zM
  ·
   intro y0 y1 y2 y3
   unfold j11_Fits.l0
   exact zM
theorem j11_Fits.mono : ∀ a0 a1 a2 k, LeO (j11_Fits.f k a0 a1 a2) (j11_Fits.f (k + 1) a0 a1 a2) := by
 intro a0 a1 a2 k
 obtain ⟨ih0, ih1⟩ := j11_Fits.mono_l k
 unfold j11_Fits.f
 exact zM
set_option maxHeartbeats 8000000 in
set_option maxRecDepth 100000 in
theorem j11_Fits.calls (k : Nat) (a0_0 : Int) (a0_1 : Int) (A0_2 : Option Addr) (c0_2 : Nat) (l0_2 : List (S26)) (r : Int) (w : World) (hr0_2 : Kd.C k26 w A0_2 l0_2.length l0_2) (hc0_2 : l0_2.length ≤ c0_2) (h : j11_Fits.f k a0_0 a0_1 l0_2 = some r) :
  Calls Try.prog 53 #[.agg #[.int .i64 a0_0, .int .i64 a0_1, .slice A0_2 l0_2.length c0_2]] w fun e w' => e = .returned (.int .i64 r) ∧ Below w.heap.size w w' := by
 have hu42 := Try.underlying42
 have hu26 := Try.underlying26
 have HR0_2 := am hr0_2
 have HC0_2 := am hc0_2
 clear hr0_2 hc0_2
 have HB := am (Below.refl w.heap.size w)
 have H : (if (l0_2.length : Int) > 64 then (some 2) else (if (l0_2.length : Int) = 0 then (j11_Fits.j0 k true a0_0 a0_1 l0_2) else (if a0_0 < 0 then (j11_Fits.j0 k true a0_0 a0_1 l0_2) else (if a0_0 ≥ 4 then (j11_Fits.j0 k true a0_0 a0_1 l0_2) else (if a0_1 < 0 then (j11_Fits.j0 k true a0_0 a0_1 l0_2) else (j11_Fits.j0 k (decide (a0_1 > 400)) a0_0 a0_1 l0_2)))))) = some r := h
 clear h
 by_cases c2 : (l0_2.length : Int) > 64
 ·
  rw [if_pos c2] at H
  have c2b0 : decide (64 < (l0_2.length : Int)) = true := decide_eq_true c2
  have c2b1 : decide (64 < l0_2.length) = true := decide_eq_true (by omega)
  clear c2
  obtain rfl := Option.some.inj H
  go_enter Try.func53, Try.ntmps53
  go_wp2_with (first | ((with_reducible refine gate_dst (N := 1) rfl ?_); (try (refine gate_guard (by rfl) ?_; dsimp only)); refine zB 1 #[.int .i64 a0_0, .int .i64 a0_1, .slice A0_2 l0_2.length c0_2] 42 ?_; intro gb344 hg w3 hbox hb; have BK344 := am (hbox); have GE344 := zG hg (zb HB); replace HB := am (below_step (zb HB) hb); clear hb hbox hg; obtain ⟨hcz4_0, hcz4_1, hcz4_2⟩ := zc3 BK344; obtain ⟨hfz4_0, hfz4_1, hfz4_2⟩ := zf3 BK344))
  repeat (go_quiet (first | ((with_reducible refine gate_dst (N := 1) rfl ?_); (try (refine gate_guard (by rfl) ?_; dsimp only)); refine zB 1 #[.int .i64 a0_0, .int .i64 a0_1, .slice A0_2 l0_2.length c0_2] 42 ?_; intro gb344 hg w3 hbox hb; have BK344 := am (hbox); have GE344 := zG hg (zb HB); replace HB := am (below_step (zb HB) hb); clear hb hbox hg; obtain ⟨hcz4_0, hcz4_1, hcz4_2⟩ := zc3 BK344; obtain ⟨hfz4_0, hfz4_1, hfz4_2⟩ := zf3 BK344)); try go_wp2_with (first | ((with_reducible refine gate_dst (N := 1) rfl ?_); (try (refine gate_guard (by rfl) ?_; dsimp only)); refine zB 1 #[.int .i64 a0_0, .int .i64 a0_1, .slice A0_2 l0_2.length c0_2] 42 ?_; intro gb344 hg w3 hbox hb; have BK344 := am (hbox); have GE344 := zG hg (zb HB); replace HB := am (below_step (zb HB) hb); clear hb hbox hg; obtain ⟨hcz4_0, hcz4_1, hcz4_2⟩ := zc3 BK344; obtain ⟨hfz4_0, hfz4_1, hfz4_2⟩ := zf3 BK344)))
  go_ret
  exact ⟨ze, zb HB⟩
 ·
  rw [if_neg c2] at H
  have c2b0 : decide (64 < (l0_2.length : Int)) = false := decide_eq_false c2
  have c2b1 : decide (64 < l0_2.length) = false := decide_eq_false (by omega)
  clear c2
  have HC5 := am H
  clear H
  go_enter Try.func53, Try.ntmps53
  go_upto_region 3 with (first | ((with_reducible refine gate_dst (N := 1) rfl ?_); (try (refine gate_guard (by rfl) ?_; dsimp only)); refine zB 1 #[.int .i64 a0_0, .int .i64 a0_1, .slice A0_2 l0_2.length c0_2] 42 ?_; intro gb344 hg w6 hbox hb; have BK344 := am (hbox); have GE344 := zG hg (zb HB); replace HB := am (below_step (zb HB) hb); clear hb hbox hg; obtain ⟨hcz7_0, hcz7_1, hcz7_2⟩ := zc3 BK344; obtain ⟨hfz7_0, hfz7_1, hfz7_2⟩ := zf3 BK344))
  repeat (go_quiet (first | ((with_reducible refine gate_dst (N := 1) rfl ?_); (try (refine gate_guard (by rfl) ?_; dsimp only)); refine zB 1 #[.int .i64 a0_0, .int .i64 a0_1, .slice A0_2 l0_2.length c0_2] 42 ?_; intro gb344 hg w6 hbox hb; have BK344 := am (hbox); have GE344 := zG hg (zb HB); replace HB := am (below_step (zb HB) hb); clear hb hbox hg; obtain ⟨hcz7_0, hcz7_1, hcz7_2⟩ := zc3 BK344; obtain ⟨hfz7_0, hfz7_1, hfz7_2⟩ := zf3 BK344)); go_upto_region 3 with (first | ((with_reducible refine gate_dst (N := 1) rfl ?_); (try (refine gate_guard (by rfl) ?_; dsimp only)); refine zB 1 #[.int .i64 a0_0, .int .i64 a0_1, .slice A0_2 l0_2.length c0_2] 42 ?_; intro gb344 hg w6 hbox hb; have BK344 := am (hbox); have GE344 := zG hg (zb HB); replace HB := am (below_step (zb HB) hb); clear hb hbox hg; obtain ⟨hcz7_0, hcz7_1, hcz7_2⟩ := zc3 BK344; obtain ⟨hfz7_0, hfz7_1, hfz7_2⟩ := zf3 BK344)))
  (try simp only [Act.put, List.setIfInBounds_toArray, List.set_cons_zero, List.set_cons_succ])
  go_cut [32] (fun v32 wc => ∃ (kq : Nat) (x32_4 : Bool), v32 = .bool x32_4 ∧ Aside0 (j11_Fits.j0 kq x32_4 a0_0 a0_1 l0_2 = some r) ∧ Aside0 (kq ≤ k) ∧ Aside0 (wc.heap[gb344]? = some (.cells #[.int .i64 a0_0, .int .i64 a0_1, (.slice A0_2 l0_2.length c0_2)] 42 (0, 0))) ∧ Aside0 (Below w.heap.size w wc))
  case first =>
   have H := HC5.out
   clear HC5
   by_cases c8 : (l0_2.length : Int) = 0
   ·
    rw [if_pos c8] at H
    obtain ⟨c8b0, c8b1⟩ := zt c8
    clear c8
    (first | rw [c8b0] | (simp only [i64_w, i32_w]; rw [c8b0]) | skip)
    have H' := am H
    clear H
    obtain ⟨hcz9_0, hcz9_1, hcz9_2⟩ := zc3 BK344
    obtain ⟨hfz9_0, hfz9_1, hfz9_2⟩ := zf3 BK344
    go_wp2
    repeat (go_quiet (fail); try go_wp2)
    go_meet
    case rel => exact y27
   ·
    rw [if_neg c8] at H
    obtain ⟨c8b0, c8b1⟩ := zs c8
    have c8b2 : ¬ (l0_2 = []) := fun h_ => c8 (by rw [h_]; rfl)
    (first | rw [c8b0] | (simp only [i64_w, i32_w]; rw [c8b0]) | skip)
    by_cases c10 : a0_0 < 0
    ·
     rw [if_pos c10] at H
     have c10b0 := decide_eq_true c10
     clear c10
     have H' := am H
     clear H
     obtain ⟨hcz11_0, hcz11_1, hcz11_2⟩ := zc3 BK344
     obtain ⟨hfz11_0, hfz11_1, hfz11_2⟩ := zf3 BK344
     go_wp2
     repeat (go_quiet (fail); try go_wp2)
     go_meet
     case rel => exact y27
    ·
     rw [if_neg c10] at H
     have c10b0 := decide_eq_false c10
     clear c10
     by_cases c12 : a0_0 ≥ 4
     ·
      rw [if_pos c12] at H
      have c12b0 : decide (4 ≤ a0_0) = true := decide_eq_true c12
      clear c12
      have H' := am H
      clear H
      obtain ⟨hcz13_0, hcz13_1, hcz13_2⟩ := zc3 BK344
      obtain ⟨hfz13_0, hfz13_1, hfz13_2⟩ := zf3 BK344
      go_wp2
      repeat (go_quiet (fail); try go_wp2)
      go_meet
      case rel => exact y27
     ·
      rw [if_neg c12] at H
      have c12b0 : decide (4 ≤ a0_0) = false := decide_eq_false c12
      clear c12
      by_cases c14 : a0_1 < 0
      ·
       rw [if_pos c14] at H
       have c14b0 := decide_eq_true c14
       clear c14
       have H' := am H
       clear H
       obtain ⟨hcz15_0, hcz15_1, hcz15_2⟩ := zc3 BK344
       obtain ⟨hfz15_0, hfz15_1, hfz15_2⟩ := zf3 BK344
       go_wp2
       repeat (go_quiet (fail); try go_wp2)
       go_meet
       case rel => exact y27
      ·
       rw [if_neg c14] at H
       have c14b0 := decide_eq_false c14
       clear c14
       have H' := am H
       clear H
       obtain ⟨hcz16_0, hcz16_1, hcz16_2⟩ := zc3 BK344
       obtain ⟨hfz16_0, hfz16_1, hfz16_2⟩ := zf3 BK344
       go_wp2
       repeat (go_quiet (fail); try go_wp2)
       go_meet
       case rel => exact ⟨_, (decide (a0_1 > 400)), zr, H', ⟨by first | omega | exact Nat.le_refl _⟩, ⟨by refine zu ?_; exact BK344.out⟩, ⟨zb HB⟩⟩
  case rest =>
   clear HC5
   obtain ⟨kq, x32_4, rfl, HA, HJ4, BK344, HB⟩ := hcut
   cases kq with
   | zero => exact absurd HA.out (by simp [j11_Fits.j0])
   | succ kj4 =>
    have H := HA.out
    clear HA
    simp only [j11_Fits.j0] at H
    by_cases c17 : x32_4 = true
    ·
     subst c17
     have H1 : (some 1) = some r := by rw [if_pos rfl] at H; exact H
     clear H
     have H := H1
     clear H1
     obtain rfl := Option.some.inj H
     go_wp2
     repeat (go_quiet (fail); try go_wp2)
     go_ret
     exact ⟨ze, zb HB⟩
    ·
     replace c17 := Bool.eq_false_iff.mpr c17
     subst c17
     have H1 : (j11_Fits.l0 kj4 0 a0_0 a0_1 l0_2) = some r := by rw [if_neg (show ¬ (false = true) by decide)] at H; exact H
     clear H
     have H := H1
     clear H1
     have H' := am H
     clear H
     go_wp2
     repeat (go_quiet (fail); try go_wp2)
     go_loopg [3] kj4 (fun kq v3 w' => ∃ (x3_2 : Int), v3 = .int .i64 x3_2 ∧ Aside0 (j11_Fits.l0 kq x3_2 a0_0 a0_1 l0_2 = some r) ∧ Aside0 (kq ≤ kj4) ∧ Aside0 (w'.heap[gb344]? = some (.cells #[.int .i64 a0_0, .int .i64 a0_1, (.slice A0_2 l0_2.length c0_2)] 42 (0, 0))) ∧ Aside0 (Below w.heap.size w w'))
     case atStart => exact ⟨(0), zr, H', ⟨Nat.le_refl _⟩, ⟨by refine zu ?_; exact BK344.out⟩, ⟨zb HB⟩⟩
     case round =>
      clear H'
      obtain ⟨x3_2, rfl, HA, HK2, BK344, HB⟩ := hrel
      cases gk with
      | zero => exact absurd HA.out (by simp [j11_Fits.l0])
      | succ k2 =>
       have H := HA.out
       clear HA
       simp only [j11_Fits.l0] at H
       by_cases c18 : x3_2 < (l0_2.length : Int)
       ·
        rw [if_pos c18] at H
        have c18b0 := decide_eq_true c18
        clear c18
        by_cases c19 : 0 ≤ x3_2
        ·
         rw [if_pos c19] at H
         have c19b0 := decide_eq_true c19
         clear c19
         by_cases c20 : ((rd_T26 l0_2 x3_2).f1.f0) = a0_0
         ·
          rw [if_pos c20] at H
          obtain ⟨c20b0, c20b1⟩ := zt c20
          clear c20
          by_cases c21 : ((rd_T26 l0_2 x3_2).f0) < 0
          ·
           rw [if_pos c21] at H
           have c21b0 := decide_eq_true c21
           clear c21
           obtain rfl := Option.some.inj H
           obtain ⟨_, _, _, _, _, _⟩ := zq3 BK344
           have p345 : 0 ≤ (x3_2 : Int) := zo
           have q345 : x3_2 < (l0_2.length : Int) := zo
           obtain ⟨ad345, A345_6, c345_6, A345_7, c345_7, e345, hx345_0, hx345_1, hx345_2, hx345_3, hx345_4, hx345_5, hx345_6, hx345_7, hl345_6, hi345_6, hl345_7, hi345_7⟩ := at_T26 HR0_2.out x3_2 p345 q345
           cases e345
           replace hx345_0 := zx HB hx345_0
           replace hx345_1 := zx HB hx345_1
           replace hx345_2 := zx HB hx345_2
           replace hx345_3 := zx HB hx345_3
           replace hx345_4 := zx HB hx345_4
           replace hx345_5 := zx HB hx345_5
           replace hx345_6 := zx HB hx345_6
           replace hx345_7 := zx HB hx345_7
           have HR345_6 := am hi345_6
           have HC345_6 := am hl345_6
           clear hi345_6 hl345_6
           have HR345_7 := am hi345_7
           have HC345_7 := am hl345_7
           clear hi345_7 hl345_7
           replace p345 := eq_true p345
           replace q345 := eq_true q345
           go_wp2_with (first | ((with_reducible refine gate_dst (N := 4) rfl ?_); (try (refine gate_guard (by rfl) ?_; dsimp only)); refine zB 4 #[.int .i64 0, .int .i64 0, .int .i64 0, .int .i64 0, .int .i64 0, .int .i64 0, .slice none 0 0, .slice none 0 0] 26 ?_; intro gb346 hg w23 hbox hb; have BK346 := am (hbox); have GE346 := zG hg (zb HB); replace HB := am (below_step (zb HB) hb); have NB344_346 := zn hg BK344; have NB346_344 := zm hg BK344; replace BK344 := zk BK344 hb; clear hb hbox hg; have hnb24 := NB346_344.out; have hnc24 := NB344_346.out; obtain ⟨_, _, _, _, _, _, _, _, _, _, _, _, _, _, _, _⟩ := zq8 BK346; obtain ⟨_, _, _, _, _, _⟩ := zq3 BK344))
           obtain ⟨W2_, hW2_⟩ : ∃ W_ : World, W_ = ((((((((w23.setCell ⟨gb346, 0, none⟩ (.int .i64 ((rd_T26 l0_2 x3_2).f0))).setCell ⟨gb346, 1, none⟩ (.int .i64 ((rd_T26 l0_2 x3_2).f1.f0))).setCell ⟨gb346, 2, none⟩ (.int .i64 ((rd_T26 l0_2 x3_2).f1.f1))).setCell ⟨gb346, 3, none⟩ (.int .i64 ((rd_T26 l0_2 x3_2).f1.f2))).setCell ⟨gb346, 4, none⟩ (.int .i64 ((rd_T26 l0_2 x3_2).f1.f3))).setCell ⟨gb346, 5, none⟩ (.int .i64 ((rd_T26 l0_2 x3_2).f1.f4))).setCell ⟨gb346, 6, none⟩ (.slice A345_6 ((rd_T26 l0_2 x3_2).f1.f5).length c345_6)).setCell ⟨gb346, 7, none⟩ (.slice A345_7 ((rd_T26 l0_2 x3_2).f1.f6).length c345_7)) := ⟨_, rfl⟩
           (first | rw [← hW2_] | skip)
           have B4_ := am (show W2_.heap[gb346]? = some (.cells #[.int .i64 ((rd_T26 l0_2 x3_2).f0), .int .i64 ((rd_T26 l0_2 x3_2).f1.f0), .int .i64 ((rd_T26 l0_2 x3_2).f1.f1), .int .i64 ((rd_T26 l0_2 x3_2).f1.f2), .int .i64 ((rd_T26 l0_2 x3_2).f1.f3), .int .i64 ((rd_T26 l0_2 x3_2).f1.f4), .slice A345_6 ((rd_T26 l0_2 x3_2).f1.f5).length c345_6, .slice A345_7 ((rd_T26 l0_2 x3_2).f1.f6).length c345_7] 26 (0, 0)) by rw [hW2_]; exact ow_put8 BK346.out)
           have B2_ := am (show W2_.heap[gb344]? = some (.cells #[.int .i64 a0_0, .int .i64 a0_1, .slice (some ad345) l0_2.length c0_2] 42 (0, 0)) by rw [hW2_]; exact ow_far8 BK344.out NB344_346.out)
           have BB_ := am (show Below w.heap.size w W2_ by rw [hW2_]; exact ow_below8 HB.out GE346.out)
           clear hW2_ HB
           have HB := BB_
           obtain ⟨hs4_0, hs4_1, hs4_2, hs4_3, hs4_4, hs4_5, hs4_6, hs4_7⟩ := zc8 B4_
           have hs2_0 : W2_.cell? ⟨gb344, 0, none⟩ = some (.int .i64 a0_0) := (blk_cell B2_.out 0).trans rfl
           have hs2_1 : W2_.cell? ⟨gb344, 1, none⟩ = some (.int .i64 a0_1) := (blk_cell B2_.out 1).trans rfl
           have hs2_2 : W2_.cell? ⟨gb344, 2, none⟩ = some (.slice (some ad345) l0_2.length c0_2) := (blk_cell B2_.out 2).trans rfl
           repeat (go_quiet (fail); try go_wp2)
           go_ret
           exact ⟨ze, zb HB⟩
          ·
           rw [if_neg c21] at H
           have c21b0 := decide_eq_false c21
           clear c21
           by_cases c27 : x3_2 > 0
           ·
            rw [if_pos c27] at H
            have c27b0 : decide (0 < x3_2) = true := decide_eq_true c27
            clear c27
            obtain ⟨ji28, hji28⟩ : ∃ j_ : Int, (wrap64 (x3_2 - 1)) = j_ := ⟨_, rfl⟩
            (first | rw [hji28] at H | simp only [hji28] at H)
            have hji28w : (IntKind.i64.wrap (x3_2 - 1)) = ji28 := (i64_w _).trans hji28
            by_cases c29 : 0 ≤ (ji28)
            ·
             rw [if_pos c29] at H
             have c29b0 := decide_eq_true c29
             clear c29
             by_cases c30 : (ji28) < (l0_2.length : Int)
             ·
              rw [if_pos c30] at H
              have c30b0 := decide_eq_true c30
              clear c30
              by_cases c31 : ((rd_T26 l0_2 x3_2).f0) ≤ ((rd_T26 l0_2 (ji28)).f0)
              ·
               rw [if_pos c31] at H
               have c31b0 := decide_eq_true c31
               clear c31
               obtain rfl := Option.some.inj H
               obtain ⟨_, _, _, _, _, _⟩ := zq3 BK344
               have p345 : 0 ≤ (x3_2 : Int) := zo
               have q345 : x3_2 < (l0_2.length : Int) := zo
               obtain ⟨ad345, A345_6, c345_6, A345_7, c345_7, e345, hx345_0, hx345_1, hx345_2, hx345_3, hx345_4, hx345_5, hx345_6, hx345_7, hl345_6, hi345_6, hl345_7, hi345_7⟩ := at_T26 HR0_2.out x3_2 p345 q345
               cases e345
               replace hx345_0 := zx HB hx345_0
               replace hx345_1 := zx HB hx345_1
               replace hx345_2 := zx HB hx345_2
               replace hx345_3 := zx HB hx345_3
               replace hx345_4 := zx HB hx345_4
               replace hx345_5 := zx HB hx345_5
               replace hx345_6 := zx HB hx345_6
               replace hx345_7 := zx HB hx345_7
               have HR345_6 := am hi345_6
               have HC345_6 := am hl345_6
               clear hi345_6 hl345_6
               have HR345_7 := am hi345_7
               have HC345_7 := am hl345_7
               clear hi345_7 hl345_7
               replace p345 := eq_true p345
               replace q345 := eq_true q345
               go_wp2_with (first | ((with_reducible refine gate_dst (N := 4) rfl ?_); (try (refine gate_guard (by rfl) ?_; dsimp only)); refine zB 4 #[.int .i64 0, .int .i64 0, .int .i64 0, .int .i64 0, .int .i64 0, .int .i64 0, .slice none 0 0, .slice none 0 0] 26 ?_; intro gb346 hg w33 hbox hb; have BK346 := am (hbox); have GE346 := zG hg (zb HB); replace HB := am (below_step (zb HB) hb); have NB344_346 := zn hg BK344; have NB346_344 := zm hg BK344; replace BK344 := zk BK344 hb; clear hb hbox hg; have hnb34 := NB346_344.out; have hnc34 := NB344_346.out; obtain ⟨_, _, _, _, _, _, _, _, _, _, _, _, _, _, _, _⟩ := zq8 BK346; obtain ⟨_, _, _, _, _, _⟩ := zq3 BK344))
               obtain ⟨W2_, hW2_⟩ : ∃ W_ : World, W_ = ((((((((w33.setCell ⟨gb346, 0, none⟩ (.int .i64 ((rd_T26 l0_2 x3_2).f0))).setCell ⟨gb346, 1, none⟩ (.int .i64 ((rd_T26 l0_2 x3_2).f1.f0))).setCell ⟨gb346, 2, none⟩ (.int .i64 ((rd_T26 l0_2 x3_2).f1.f1))).setCell ⟨gb346, 3, none⟩ (.int .i64 ((rd_T26 l0_2 x3_2).f1.f2))).setCell ⟨gb346, 4, none⟩ (.int .i64 ((rd_T26 l0_2 x3_2).f1.f3))).setCell ⟨gb346, 5, none⟩ (.int .i64 ((rd_T26 l0_2 x3_2).f1.f4))).setCell ⟨gb346, 6, none⟩ (.slice A345_6 ((rd_T26 l0_2 x3_2).f1.f5).length c345_6)).setCell ⟨gb346, 7, none⟩ (.slice A345_7 ((rd_T26 l0_2 x3_2).f1.f6).length c345_7)) := ⟨_, rfl⟩
               (first | rw [← hW2_] | skip)
               have B4_ := am (show W2_.heap[gb346]? = some (.cells #[.int .i64 ((rd_T26 l0_2 x3_2).f0), .int .i64 ((rd_T26 l0_2 x3_2).f1.f0), .int .i64 ((rd_T26 l0_2 x3_2).f1.f1), .int .i64 ((rd_T26 l0_2 x3_2).f1.f2), .int .i64 ((rd_T26 l0_2 x3_2).f1.f3), .int .i64 ((rd_T26 l0_2 x3_2).f1.f4), .slice A345_6 ((rd_T26 l0_2 x3_2).f1.f5).length c345_6, .slice A345_7 ((rd_T26 l0_2 x3_2).f1.f6).length c345_7] 26 (0, 0)) by rw [hW2_]; exact ow_put8 BK346.out)
               have B2_ := am (show W2_.heap[gb344]? = some (.cells #[.int .i64 a0_0, .int .i64 a0_1, .slice (some ad345) l0_2.length c0_2] 42 (0, 0)) by rw [hW2_]; exact ow_far8 BK344.out NB344_346.out)
               have BB_ := am (show Below w.heap.size w W2_ by rw [hW2_]; exact ow_below8 HB.out GE346.out)
               clear hW2_ HB
               have HB := BB_
               obtain ⟨hs4_0, hs4_1, hs4_2, hs4_3, hs4_4, hs4_5, hs4_6, hs4_7⟩ := zc8 B4_
               have hs2_0 : W2_.cell? ⟨gb344, 0, none⟩ = some (.int .i64 a0_0) := (blk_cell B2_.out 0).trans rfl
               have hs2_1 : W2_.cell? ⟨gb344, 1, none⟩ = some (.int .i64 a0_1) := (blk_cell B2_.out 1).trans rfl
               have hs2_2 : W2_.cell? ⟨gb344, 2, none⟩ = some (.slice (some ad345) l0_2.length c0_2) := (blk_cell B2_.out 2).trans rfl
               have p305 : 0 ≤ ((ji28) : Int) := zo
               have q305 : (ji28) < (l0_2.length : Int) := zo
               obtain ⟨ad305, A305_6, c305_6, A305_7, c305_7, e305, hx305_0, hx305_1, hx305_2, hx305_3, hx305_4, hx305_5, hx305_6, hx305_7, hl305_6, hi305_6, hl305_7, hi305_7⟩ := at_T26 HR0_2.out (ji28) p305 q305
               obtain rfl : ad345 = ad305 := (by injection e305)
               clear hx305_1 hx305_2 hx305_3 hx305_4 hx305_5 hx305_6 hx305_7 hl305_6 hi305_6 hl305_7 hi305_7
               replace hx305_0 := zx HB hx305_0
               replace p305 := eq_true p305
               replace q305 := eq_true q305
               repeat (go_quiet (fail); try go_wp2)
               go_ret
               exact y19
              ·
               rw [if_neg c31] at H
               have c31b0 := decide_eq_false c31
               clear c31
               by_cases c37 : (((rd_T26 l0_2 x3_2).f1.f5).length : Int) > 400
               ·
                rw [if_pos c37] at H
                have c37b0 : decide (400 < (((rd_T26 l0_2 x3_2).f1.f5).length : Int)) = true := decide_eq_true c37
                have c37b1 : decide (400 < ((rd_T26 l0_2 x3_2).f1.f5).length) = true := decide_eq_true (by omega)
                clear c37
                obtain rfl := Option.some.inj H
                obtain ⟨_, _, _, _, _, _⟩ := zq3 BK344
                have p345 : 0 ≤ (x3_2 : Int) := zo
                have q345 : x3_2 < (l0_2.length : Int) := zo
                obtain ⟨ad345, A345_6, c345_6, A345_7, c345_7, e345, hx345_0, hx345_1, hx345_2, hx345_3, hx345_4, hx345_5, hx345_6, hx345_7, hl345_6, hi345_6, hl345_7, hi345_7⟩ := at_T26 HR0_2.out x3_2 p345 q345
                cases e345
                replace hx345_0 := zx HB hx345_0
                replace hx345_1 := zx HB hx345_1
                replace hx345_2 := zx HB hx345_2
                replace hx345_3 := zx HB hx345_3
                replace hx345_4 := zx HB hx345_4
                replace hx345_5 := zx HB hx345_5
                replace hx345_6 := zx HB hx345_6
                replace hx345_7 := zx HB hx345_7
                have HR345_6 := am hi345_6
                have HC345_6 := am hl345_6
                clear hi345_6 hl345_6
                have HR345_7 := am hi345_7
                have HC345_7 := am hl345_7
                clear hi345_7 hl345_7
                replace p345 := eq_true p345
                replace q345 := eq_true q345
                go_wp2_with (first | ((with_reducible refine gate_dst (N := 4) rfl ?_); (try (refine gate_guard (by rfl) ?_; dsimp only)); refine zB 4 #[.int .i64 0, .int .i64 0, .int .i64 0, .int .i64 0, .int .i64 0, .int .i64 0, .slice none 0 0, .slice none 0 0] 26 ?_; intro gb346 hg w39 hbox hb; have BK346 := am (hbox); have GE346 := zG hg (zb HB); replace HB := am (below_step (zb HB) hb); have NB344_346 := zn hg BK344; have NB346_344 := zm hg BK344; replace BK344 := zk BK344 hb; clear hb hbox hg; have hnb40 := NB346_344.out; have hnc40 := NB344_346.out; obtain ⟨_, _, _, _, _, _, _, _, _, _, _, _, _, _, _, _⟩ := zq8 BK346; obtain ⟨_, _, _, _, _, _⟩ := zq3 BK344))
                obtain ⟨W2_, hW2_⟩ : ∃ W_ : World, W_ = ((((((((w39.setCell ⟨gb346, 0, none⟩ (.int .i64 ((rd_T26 l0_2 x3_2).f0))).setCell ⟨gb346, 1, none⟩ (.int .i64 ((rd_T26 l0_2 x3_2).f1.f0))).setCell ⟨gb346, 2, none⟩ (.int .i64 ((rd_T26 l0_2 x3_2).f1.f1))).setCell ⟨gb346, 3, none⟩ (.int .i64 ((rd_T26 l0_2 x3_2).f1.f2))).setCell ⟨gb346, 4, none⟩ (.int .i64 ((rd_T26 l0_2 x3_2).f1.f3))).setCell ⟨gb346, 5, none⟩ (.int .i64 ((rd_T26 l0_2 x3_2).f1.f4))).setCell ⟨gb346, 6, none⟩ (.slice A345_6 ((rd_T26 l0_2 x3_2).f1.f5).length c345_6)).setCell ⟨gb346, 7, none⟩ (.slice A345_7 ((rd_T26 l0_2 x3_2).f1.f6).length c345_7)) := ⟨_, rfl⟩
                (first | rw [← hW2_] | skip)
                have B4_ := am (show W2_.heap[gb346]? = some (.cells #[.int .i64 ((rd_T26 l0_2 x3_2).f0), .int .i64 ((rd_T26 l0_2 x3_2).f1.f0), .int .i64 ((rd_T26 l0_2 x3_2).f1.f1), .int .i64 ((rd_T26 l0_2 x3_2).f1.f2), .int .i64 ((rd_T26 l0_2 x3_2).f1.f3), .int .i64 ((rd_T26 l0_2 x3_2).f1.f4), .slice A345_6 ((rd_T26 l0_2 x3_2).f1.f5).length c345_6, .slice A345_7 ((rd_T26 l0_2 x3_2).f1.f6).length c345_7] 26 (0, 0)) by rw [hW2_]; exact ow_put8 BK346.out)
                have B2_ := am (show W2_.heap[gb344]? = some (.cells #[.int .i64 a0_0, .int .i64 a0_1, .slice (some ad345) l0_2.length c0_2] 42 (0, 0)) by rw [hW2_]; exact ow_far8 BK344.out NB344_346.out)
                have BB_ := am (show Below w.heap.size w W2_ by rw [hW2_]; exact ow_below8 HB.out GE346.out)
                clear hW2_ HB
                have HB := BB_
                obtain ⟨hs4_0, hs4_1, hs4_2, hs4_3, hs4_4, hs4_5, hs4_6, hs4_7⟩ := zc8 B4_
                have hs2_0 : W2_.cell? ⟨gb344, 0, none⟩ = some (.int .i64 a0_0) := (blk_cell B2_.out 0).trans rfl
                have hs2_1 : W2_.cell? ⟨gb344, 1, none⟩ = some (.int .i64 a0_1) := (blk_cell B2_.out 1).trans rfl
                have hs2_2 : W2_.cell? ⟨gb344, 2, none⟩ = some (.slice (some ad345) l0_2.length c0_2) := (blk_cell B2_.out 2).trans rfl
                have p305 : 0 ≤ ((ji28) : Int) := zo
                have q305 : (ji28) < (l0_2.length : Int) := zo
                obtain ⟨ad305, A305_6, c305_6, A305_7, c305_7, e305, hx305_0, hx305_1, hx305_2, hx305_3, hx305_4, hx305_5, hx305_6, hx305_7, hl305_6, hi305_6, hl305_7, hi305_7⟩ := at_T26 HR0_2.out (ji28) p305 q305
                obtain rfl : ad345 = ad305 := (by injection e305)
                clear hx305_1 hx305_2 hx305_3 hx305_4 hx305_5 hx305_6 hx305_7 hl305_6 hi305_6 hl305_7 hi305_7
                replace hx305_0 := zx HB hx305_0
                replace p305 := eq_true p305
                replace q305 := eq_true q305
                repeat (go_quiet (fail); try go_wp2)
                go_ret
                exact y19
               ·
                rw [if_neg c37] at H
                have c37b0 : decide (400 < (((rd_T26 l0_2 x3_2).f1.f5).length : Int)) = false := decide_eq_false c37
                have c37b1 : decide (400 < ((rd_T26 l0_2 x3_2).f1.f5).length) = false := decide_eq_false (by omega)
                clear c37
                by_cases c43 : (((rd_T26 l0_2 x3_2).f1.f6).length : Int) > 400
                ·
                 rw [if_pos c43] at H
                 have c43b0 : decide (400 < (((rd_T26 l0_2 x3_2).f1.f6).length : Int)) = true := decide_eq_true c43
                 have c43b1 : decide (400 < ((rd_T26 l0_2 x3_2).f1.f6).length) = true := decide_eq_true (by omega)
                 clear c43
                 obtain rfl := Option.some.inj H
                 obtain ⟨_, _, _, _, _, _⟩ := zq3 BK344
                 have p345 : 0 ≤ (x3_2 : Int) := zo
                 have q345 : x3_2 < (l0_2.length : Int) := zo
                 obtain ⟨ad345, A345_6, c345_6, A345_7, c345_7, e345, hx345_0, hx345_1, hx345_2, hx345_3, hx345_4, hx345_5, hx345_6, hx345_7, hl345_6, hi345_6, hl345_7, hi345_7⟩ := at_T26 HR0_2.out x3_2 p345 q345
                 cases e345
                 replace hx345_0 := zx HB hx345_0
                 replace hx345_1 := zx HB hx345_1
                 replace hx345_2 := zx HB hx345_2
                 replace hx345_3 := zx HB hx345_3
                 replace hx345_4 := zx HB hx345_4
                 replace hx345_5 := zx HB hx345_5
                 replace hx345_6 := zx HB hx345_6
                 replace hx345_7 := zx HB hx345_7
                 have HR345_6 := am hi345_6
                 have HC345_6 := am hl345_6
                 clear hi345_6 hl345_6
                 have HR345_7 := am hi345_7
                 have HC345_7 := am hl345_7
                 clear hi345_7 hl345_7
                 replace p345 := eq_true p345
                 replace q345 := eq_true q345
                 go_wp2_with (first | ((with_reducible refine gate_dst (N := 4) rfl ?_); (try (refine gate_guard (by rfl) ?_; dsimp only)); refine zB 4 #[.int .i64 0, .int .i64 0, .int .i64 0, .int .i64 0, .int .i64 0, .int .i64 0, .slice none 0 0, .slice none 0 0] 26 ?_; intro gb346 hg w45 hbox hb; have BK346 := am (hbox); have GE346 := zG hg (zb HB); replace HB := am (below_step (zb HB) hb); have NB344_346 := zn hg BK344; have NB346_344 := zm hg BK344; replace BK344 := zk BK344 hb; clear hb hbox hg; have hnb46 := NB346_344.out; have hnc46 := NB344_346.out; obtain ⟨_, _, _, _, _, _, _, _, _, _, _, _, _, _, _, _⟩ := zq8 BK346; obtain ⟨_, _, _, _, _, _⟩ := zq3 BK344))
                 obtain ⟨W2_, hW2_⟩ : ∃ W_ : World, W_ = ((((((((w45.setCell ⟨gb346, 0, none⟩ (.int .i64 ((rd_T26 l0_2 x3_2).f0))).setCell ⟨gb346, 1, none⟩ (.int .i64 ((rd_T26 l0_2 x3_2).f1.f0))).setCell ⟨gb346, 2, none⟩ (.int .i64 ((rd_T26 l0_2 x3_2).f1.f1))).setCell ⟨gb346, 3, none⟩ (.int .i64 ((rd_T26 l0_2 x3_2).f1.f2))).setCell ⟨gb346, 4, none⟩ (.int .i64 ((rd_T26 l0_2 x3_2).f1.f3))).setCell ⟨gb346, 5, none⟩ (.int .i64 ((rd_T26 l0_2 x3_2).f1.f4))).setCell ⟨gb346, 6, none⟩ (.slice A345_6 ((rd_T26 l0_2 x3_2).f1.f5).length c345_6)).setCell ⟨gb346, 7, none⟩ (.slice A345_7 ((rd_T26 l0_2 x3_2).f1.f6).length c345_7)) := ⟨_, rfl⟩
                 (first | rw [← hW2_] | skip)
                 have B4_ := am (show W2_.heap[gb346]? = some (.cells #[.int .i64 ((rd_T26 l0_2 x3_2).f0), .int .i64 ((rd_T26 l0_2 x3_2).f1.f0), .int .i64 ((rd_T26 l0_2 x3_2).f1.f1), .int .i64 ((rd_T26 l0_2 x3_2).f1.f2), .int .i64 ((rd_T26 l0_2 x3_2).f1.f3), .int .i64 ((rd_T26 l0_2 x3_2).f1.f4), .slice A345_6 ((rd_T26 l0_2 x3_2).f1.f5).length c345_6, .slice A345_7 ((rd_T26 l0_2 x3_2).f1.f6).length c345_7] 26 (0, 0)) by rw [hW2_]; exact ow_put8 BK346.out)
                 have B2_ := am (show W2_.heap[gb344]? = some (.cells #[.int .i64 a0_0, .int .i64 a0_1, .slice (some ad345) l0_2.length c0_2] 42 (0, 0)) by rw [hW2_]; exact ow_far8 BK344.out NB344_346.out)
                 have BB_ := am (show Below w.heap.size w W2_ by rw [hW2_]; exact ow_below8 HB.out GE346.out)
                 clear hW2_ HB
                 have HB := BB_
                 obtain ⟨hs4_0, hs4_1, hs4_2, hs4_3, hs4_4, hs4_5, hs4_6, hs4_7⟩ := zc8 B4_
                 have hs2_0 : W2_.cell? ⟨gb344, 0, none⟩ = some (.int .i64 a0_0) := (blk_cell B2_.out 0).trans rfl
                 have hs2_1 : W2_.cell? ⟨gb344, 1, none⟩ = some (.int .i64 a0_1) := (blk_cell B2_.out 1).trans rfl
                 have hs2_2 : W2_.cell? ⟨gb344, 2, none⟩ = some (.slice (some ad345) l0_2.length c0_2) := (blk_cell B2_.out 2).trans rfl
                 have p305 : 0 ≤ ((ji28) : Int) := zo
                 have q305 : (ji28) < (l0_2.length : Int) := zo
                 obtain ⟨ad305, A305_6, c305_6, A305_7, c305_7, e305, hx305_0, hx305_1, hx305_2, hx305_3, hx305_4, hx305_5, hx305_6, hx305_7, hl305_6, hi305_6, hl305_7, hi305_7⟩ := at_T26 HR0_2.out (ji28) p305 q305
                 obtain rfl : ad345 = ad305 := (by injection e305)
                 clear hx305_1 hx305_2 hx305_3 hx305_4 hx305_5 hx305_6 hx305_7 hl305_6 hi305_6 hl305_7 hi305_7
                 replace hx305_0 := zx HB hx305_0
                 replace p305 := eq_true p305
                 replace q305 := eq_true q305
                 repeat (go_quiet (fail); try go_wp2)
                 go_ret
                 exact y19
                ·
                 rw [if_neg c43] at H
                 have c43b0 : decide (400 < (((rd_T26 l0_2 x3_2).f1.f6).length : Int)) = false := decide_eq_false c43
                 have c43b1 : decide (400 < ((rd_T26 l0_2 x3_2).f1.f6).length) = false := decide_eq_false (by omega)
                 clear c43
                 have H' := am H
                 clear H
                 obtain ⟨_, _, _, _, _, _⟩ := zq3 BK344
                 have p345 : 0 ≤ (x3_2 : Int) := zo
                 have q345 : x3_2 < (l0_2.length : Int) := zo
                 obtain ⟨ad345, A345_6, c345_6, A345_7, c345_7, e345, hx345_0, hx345_1, hx345_2, hx345_3, hx345_4, hx345_5, hx345_6, hx345_7, hl345_6, hi345_6, hl345_7, hi345_7⟩ := at_T26 HR0_2.out x3_2 p345 q345
                 cases e345
                 replace hx345_0 := zx HB hx345_0
                 replace hx345_1 := zx HB hx345_1
                 replace hx345_2 := zx HB hx345_2
                 replace hx345_3 := zx HB hx345_3
                 replace hx345_4 := zx HB hx345_4
                 replace hx345_5 := zx HB hx345_5
                 replace hx345_6 := zx HB hx345_6
                 replace hx345_7 := zx HB hx345_7
                 have HR345_6 := am hi345_6
                 have HC345_6 := am hl345_6
                 clear hi345_6 hl345_6
                 have HR345_7 := am hi345_7
                 have HC345_7 := am hl345_7
                 clear hi345_7 hl345_7
                 replace p345 := eq_true p345
                 replace q345 := eq_true q345
                 go_wp2_with (first | ((with_reducible refine gate_dst (N := 4) rfl ?_); (try (refine gate_guard (by rfl) ?_; dsimp only)); refine zB 4 #[.int .i64 0, .int .i64 0, .int .i64 0, .int .i64 0, .int .i64 0, .int .i64 0, .slice none 0 0, .slice none 0 0] 26 ?_; intro gb346 hg w50 hbox hb; have BK346 := am (hbox); have GE346 := zG hg (zb HB); replace HB := am (below_step (zb HB) hb); have NB344_346 := zn hg BK344; have NB346_344 := zm hg BK344; replace BK344 := zk BK344 hb; clear hb hbox hg; have hnb51 := NB346_344.out; have hnc51 := NB344_346.out; obtain ⟨_, _, _, _, _, _, _, _, _, _, _, _, _, _, _, _⟩ := zq8 BK346; obtain ⟨_, _, _, _, _, _⟩ := zq3 BK344))
                 obtain ⟨W2_, hW2_⟩ : ∃ W_ : World, W_ = ((((((((w50.setCell ⟨gb346, 0, none⟩ (.int .i64 ((rd_T26 l0_2 x3_2).f0))).setCell ⟨gb346, 1, none⟩ (.int .i64 ((rd_T26 l0_2 x3_2).f1.f0))).setCell ⟨gb346, 2, none⟩ (.int .i64 ((rd_T26 l0_2 x3_2).f1.f1))).setCell ⟨gb346, 3, none⟩ (.int .i64 ((rd_T26 l0_2 x3_2).f1.f2))).setCell ⟨gb346, 4, none⟩ (.int .i64 ((rd_T26 l0_2 x3_2).f1.f3))).setCell ⟨gb346, 5, none⟩ (.int .i64 ((rd_T26 l0_2 x3_2).f1.f4))).setCell ⟨gb346, 6, none⟩ (.slice A345_6 ((rd_T26 l0_2 x3_2).f1.f5).length c345_6)).setCell ⟨gb346, 7, none⟩ (.slice A345_7 ((rd_T26 l0_2 x3_2).f1.f6).length c345_7)) := ⟨_, rfl⟩
                 (first | rw [← hW2_] | skip)
                 have B4_ := am (show W2_.heap[gb346]? = some (.cells #[.int .i64 ((rd_T26 l0_2 x3_2).f0), .int .i64 ((rd_T26 l0_2 x3_2).f1.f0), .int .i64 ((rd_T26 l0_2 x3_2).f1.f1), .int .i64 ((rd_T26 l0_2 x3_2).f1.f2), .int .i64 ((rd_T26 l0_2 x3_2).f1.f3), .int .i64 ((rd_T26 l0_2 x3_2).f1.f4), .slice A345_6 ((rd_T26 l0_2 x3_2).f1.f5).length c345_6, .slice A345_7 ((rd_T26 l0_2 x3_2).f1.f6).length c345_7] 26 (0, 0)) by rw [hW2_]; exact ow_put8 BK346.out)
                 have B2_ := am (show W2_.heap[gb344]? = some (.cells #[.int .i64 a0_0, .int .i64 a0_1, .slice (some ad345) l0_2.length c0_2] 42 (0, 0)) by rw [hW2_]; exact ow_far8 BK344.out NB344_346.out)
                 have BB_ := am (show Below w.heap.size w W2_ by rw [hW2_]; exact ow_below8 HB.out GE346.out)
                 clear hW2_ HB
                 have HB := BB_
                 obtain ⟨hs4_0, hs4_1, hs4_2, hs4_3, hs4_4, hs4_5, hs4_6, hs4_7⟩ := zc8 B4_
                 have hs2_0 : W2_.cell? ⟨gb344, 0, none⟩ = some (.int .i64 a0_0) := (blk_cell B2_.out 0).trans rfl
                 have hs2_1 : W2_.cell? ⟨gb344, 1, none⟩ = some (.int .i64 a0_1) := (blk_cell B2_.out 1).trans rfl
                 have hs2_2 : W2_.cell? ⟨gb344, 2, none⟩ = some (.slice (some ad345) l0_2.length c0_2) := (blk_cell B2_.out 2).trans rfl
                 have p305 : 0 ≤ ((ji28) : Int) := zo
                 have q305 : (ji28) < (l0_2.length : Int) := zo
                 obtain ⟨ad305, A305_6, c305_6, A305_7, c305_7, e305, hx305_0, hx305_1, hx305_2, hx305_3, hx305_4, hx305_5, hx305_6, hx305_7, hl305_6, hi305_6, hl305_7, hi305_7⟩ := at_T26 HR0_2.out (ji28) p305 q305
                 obtain rfl : ad345 = ad305 := (by injection e305)
                 clear hx305_1 hx305_2 hx305_3 hx305_4 hx305_5 hx305_6 hx305_7 hl305_6 hi305_6 hl305_7 hi305_7
                 replace hx305_0 := zx HB hx305_0
                 replace p305 := eq_true p305
                 replace q305 := eq_true q305
                 repeat (go_quiet (fail); try go_wp2)
                 go_roundg k2
                 case measure => have := HJ4.out; have := HK2.out; omega
                 case rel => exact y31
             ·
              rw [if_neg c30] at H
              exact absurd H (by simp)
            ·
             rw [if_neg c29] at H
             exact absurd H (by simp)
           ·
            rw [if_neg c27] at H
            have c27b0 : decide (0 < x3_2) = false := decide_eq_false c27
            clear c27
            by_cases c54 : (((rd_T26 l0_2 x3_2).f1.f5).length : Int) > 400
            ·
             rw [if_pos c54] at H
             have c54b0 : decide (400 < (((rd_T26 l0_2 x3_2).f1.f5).length : Int)) = true := decide_eq_true c54
             have c54b1 : decide (400 < ((rd_T26 l0_2 x3_2).f1.f5).length) = true := decide_eq_true (by omega)
             clear c54
             obtain rfl := Option.some.inj H
             obtain ⟨_, _, _, _, _, _⟩ := zq3 BK344
             have p345 : 0 ≤ (x3_2 : Int) := zo
             have q345 : x3_2 < (l0_2.length : Int) := zo
             obtain ⟨ad345, A345_6, c345_6, A345_7, c345_7, e345, hx345_0, hx345_1, hx345_2, hx345_3, hx345_4, hx345_5, hx345_6, hx345_7, hl345_6, hi345_6, hl345_7, hi345_7⟩ := at_T26 HR0_2.out x3_2 p345 q345
             cases e345
             replace hx345_0 := zx HB hx345_0
             replace hx345_1 := zx HB hx345_1
             replace hx345_2 := zx HB hx345_2
             replace hx345_3 := zx HB hx345_3
             replace hx345_4 := zx HB hx345_4
             replace hx345_5 := zx HB hx345_5
             replace hx345_6 := zx HB hx345_6
             replace hx345_7 := zx HB hx345_7
             have HR345_6 := am hi345_6
             have HC345_6 := am hl345_6
             clear hi345_6 hl345_6
             have HR345_7 := am hi345_7
             have HC345_7 := am hl345_7
             clear hi345_7 hl345_7
             replace p345 := eq_true p345
             replace q345 := eq_true q345
             go_wp2_with (first | ((with_reducible refine gate_dst (N := 4) rfl ?_); (try (refine gate_guard (by rfl) ?_; dsimp only)); refine zB 4 #[.int .i64 0, .int .i64 0, .int .i64 0, .int .i64 0, .int .i64 0, .int .i64 0, .slice none 0 0, .slice none 0 0] 26 ?_; intro gb346 hg w56 hbox hb; have BK346 := am (hbox); have GE346 := zG hg (zb HB); replace HB := am (below_step (zb HB) hb); have NB344_346 := zn hg BK344; have NB346_344 := zm hg BK344; replace BK344 := zk BK344 hb; clear hb hbox hg; have hnb57 := NB346_344.out; have hnc57 := NB344_346.out; obtain ⟨_, _, _, _, _, _, _, _, _, _, _, _, _, _, _, _⟩ := zq8 BK346; obtain ⟨_, _, _, _, _, _⟩ := zq3 BK344))
             obtain ⟨W2_, hW2_⟩ : ∃ W_ : World, W_ = ((((((((w56.setCell ⟨gb346, 0, none⟩ (.int .i64 ((rd_T26 l0_2 x3_2).f0))).setCell ⟨gb346, 1, none⟩ (.int .i64 ((rd_T26 l0_2 x3_2).f1.f0))).setCell ⟨gb346, 2, none⟩ (.int .i64 ((rd_T26 l0_2 x3_2).f1.f1))).setCell ⟨gb346, 3, none⟩ (.int .i64 ((rd_T26 l0_2 x3_2).f1.f2))).setCell ⟨gb346, 4, none⟩ (.int .i64 ((rd_T26 l0_2 x3_2).f1.f3))).setCell ⟨gb346, 5, none⟩ (.int .i64 ((rd_T26 l0_2 x3_2).f1.f4))).setCell ⟨gb346, 6, none⟩ (.slice A345_6 ((rd_T26 l0_2 x3_2).f1.f5).length c345_6)).setCell ⟨gb346, 7, none⟩ (.slice A345_7 ((rd_T26 l0_2 x3_2).f1.f6).length c345_7)) := ⟨_, rfl⟩
             (first | rw [← hW2_] | skip)
             have B4_ := am (show W2_.heap[gb346]? = some (.cells #[.int .i64 ((rd_T26 l0_2 x3_2).f0), .int .i64 ((rd_T26 l0_2 x3_2).f1.f0), .int .i64 ((rd_T26 l0_2 x3_2).f1.f1), .int .i64 ((rd_T26 l0_2 x3_2).f1.f2), .int .i64 ((rd_T26 l0_2 x3_2).f1.f3), .int .i64 ((rd_T26 l0_2 x3_2).f1.f4), .slice A345_6 ((rd_T26 l0_2 x3_2).f1.f5).length c345_6, .slice A345_7 ((rd_T26 l0_2 x3_2).f1.f6).length c345_7] 26 (0, 0)) by rw [hW2_]; exact ow_put8 BK346.out)
             have B2_ := am (show W2_.heap[gb344]? = some (.cells #[.int .i64 a0_0, .int .i64 a0_1, .slice (some ad345) l0_2.length c0_2] 42 (0, 0)) by rw [hW2_]; exact ow_far8 BK344.out NB344_346.out)
             have BB_ := am (show Below w.heap.size w W2_ by rw [hW2_]; exact ow_below8 HB.out GE346.out)
             clear hW2_ HB
             have HB := BB_
             obtain ⟨hs4_0, hs4_1, hs4_2, hs4_3, hs4_4, hs4_5, hs4_6, hs4_7⟩ := zc8 B4_
             have hs2_0 : W2_.cell? ⟨gb344, 0, none⟩ = some (.int .i64 a0_0) := (blk_cell B2_.out 0).trans rfl
             have hs2_1 : W2_.cell? ⟨gb344, 1, none⟩ = some (.int .i64 a0_1) := (blk_cell B2_.out 1).trans rfl
             have hs2_2 : W2_.cell? ⟨gb344, 2, none⟩ = some (.slice (some ad345) l0_2.length c0_2) := (blk_cell B2_.out 2).trans rfl
             repeat (go_quiet (fail); try go_wp2)
             go_ret
             exact ⟨ze, zb HB⟩
            ·
             rw [if_neg c54] at H
             have c54b0 : decide (400 < (((rd_T26 l0_2 x3_2).f1.f5).length : Int)) = false := decide_eq_false c54
             have c54b1 : decide (400 < ((rd_T26 l0_2 x3_2).f1.f5).length) = false := decide_eq_false (by omega)
             clear c54
             by_cases c60 : (((rd_T26 l0_2 x3_2).f1.f6).length : Int) > 400
             ·
              rw [if_pos c60] at H
              have c60b0 : decide (400 < (((rd_T26 l0_2 x3_2).f1.f6).length : Int)) = true := decide_eq_true c60
              have c60b1 : decide (400 < ((rd_T26 l0_2 x3_2).f1.f6).length) = true := decide_eq_true (by omega)
              clear c60
              obtain rfl := Option.some.inj H
              obtain ⟨_, _, _, _, _, _⟩ := zq3 BK344
              have p345 : 0 ≤ (x3_2 : Int) := zo
              have q345 : x3_2 < (l0_2.length : Int) := zo
              obtain ⟨ad345, A345_6, c345_6, A345_7, c345_7, e345, hx345_0, hx345_1, hx345_2, hx345_3, hx345_4, hx345_5, hx345_6, hx345_7, hl345_6, hi345_6, hl345_7, hi345_7⟩ := at_T26 HR0_2.out x3_2 p345 q345
              cases e345
              replace hx345_0 := zx HB hx345_0
              replace hx345_1 := zx HB hx345_1
              replace hx345_2 := zx HB hx345_2
              replace hx345_3 := zx HB hx345_3
              replace hx345_4 := zx HB hx345_4
              replace hx345_5 := zx HB hx345_5
              replace hx345_6 := zx HB hx345_6
              replace hx345_7 := zx HB hx345_7
              have HR345_6 := am hi345_6
              have HC345_6 := am hl345_6
              clear hi345_6 hl345_6
              have HR345_7 := am hi345_7
              have HC345_7 := am hl345_7
              clear hi345_7 hl345_7
              replace p345 := eq_true p345
              replace q345 := eq_true q345
              go_wp2_with (first | ((with_reducible refine gate_dst (N := 4) rfl ?_); (try (refine gate_guard (by rfl) ?_; dsimp only)); refine zB 4 #[.int .i64 0, .int .i64 0, .int .i64 0, .int .i64 0, .int .i64 0, .int .i64 0, .slice none 0 0, .slice none 0 0] 26 ?_; intro gb346 hg w62 hbox hb; have BK346 := am (hbox); have GE346 := zG hg (zb HB); replace HB := am (below_step (zb HB) hb); have NB344_346 := zn hg BK344; have NB346_344 := zm hg BK344; replace BK344 := zk BK344 hb; clear hb hbox hg; have hnb63 := NB346_344.out; have hnc63 := NB344_346.out; obtain ⟨_, _, _, _, _, _, _, _, _, _, _, _, _, _, _, _⟩ := zq8 BK346; obtain ⟨_, _, _, _, _, _⟩ := zq3 BK344))
              obtain ⟨W2_, hW2_⟩ : ∃ W_ : World, W_ = ((((((((w62.setCell ⟨gb346, 0, none⟩ (.int .i64 ((rd_T26 l0_2 x3_2).f0))).setCell ⟨gb346, 1, none⟩ (.int .i64 ((rd_T26 l0_2 x3_2).f1.f0))).setCell ⟨gb346, 2, none⟩ (.int .i64 ((rd_T26 l0_2 x3_2).f1.f1))).setCell ⟨gb346, 3, none⟩ (.int .i64 ((rd_T26 l0_2 x3_2).f1.f2))).setCell ⟨gb346, 4, none⟩ (.int .i64 ((rd_T26 l0_2 x3_2).f1.f3))).setCell ⟨gb346, 5, none⟩ (.int .i64 ((rd_T26 l0_2 x3_2).f1.f4))).setCell ⟨gb346, 6, none⟩ (.slice A345_6 ((rd_T26 l0_2 x3_2).f1.f5).length c345_6)).setCell ⟨gb346, 7, none⟩ (.slice A345_7 ((rd_T26 l0_2 x3_2).f1.f6).length c345_7)) := ⟨_, rfl⟩
              (first | rw [← hW2_] | skip)
              have B4_ := am (show W2_.heap[gb346]? = some (.cells #[.int .i64 ((rd_T26 l0_2 x3_2).f0), .int .i64 ((rd_T26 l0_2 x3_2).f1.f0), .int .i64 ((rd_T26 l0_2 x3_2).f1.f1), .int .i64 ((rd_T26 l0_2 x3_2).f1.f2), .int .i64 ((rd_T26 l0_2 x3_2).f1.f3), .int .i64 ((rd_T26 l0_2 x3_2).f1.f4), .slice A345_6 ((rd_T26 l0_2 x3_2).f1.f5).length c345_6, .slice A345_7 ((rd_T26 l0_2 x3_2).f1.f6).length c345_7] 26 (0, 0)) by rw [hW2_]; exact ow_put8 BK346.out)
              have B2_ := am (show W2_.heap[gb344]? = some (.cells #[.int .i64 a0_0, .int .i64 a0_1, .slice (some ad345) l0_2.length c0_2] 42 (0, 0)) by rw [hW2_]; exact ow_far8 BK344.out NB344_346.out)
              have BB_ := am (show Below w.heap.size w W2_ by rw [hW2_]; exact ow_below8 HB.out GE346.out)
              clear hW2_ HB
              have HB := BB_
              obtain ⟨hs4_0, hs4_1, hs4_2, hs4_3, hs4_4, hs4_5, hs4_6, hs4_7⟩ := zc8 B4_
              have hs2_0 : W2_.cell? ⟨gb344, 0, none⟩ = some (.int .i64 a0_0) := (blk_cell B2_.out 0).trans rfl
              have hs2_1 : W2_.cell? ⟨gb344, 1, none⟩ = some (.int .i64 a0_1) := (blk_cell B2_.out 1).trans rfl
              have hs2_2 : W2_.cell? ⟨gb344, 2, none⟩ = some (.slice (some ad345) l0_2.length c0_2) := (blk_cell B2_.out 2).trans rfl
              repeat (go_quiet (fail); try go_wp2)
              go_ret
              exact ⟨ze, zb HB⟩
             ·
              rw [if_neg c60] at H
              have c60b0 : decide (400 < (((rd_T26 l0_2 x3_2).f1.f6).length : Int)) = false := decide_eq_false c60
              have c60b1 : decide (400 < ((rd_T26 l0_2 x3_2).f1.f6).length) = false := decide_eq_false (by omega)
              clear c60
              have H' := am H
              clear H
              obtain ⟨_, _, _, _, _, _⟩ := zq3 BK344
              have p345 : 0 ≤ (x3_2 : Int) := zo
              have q345 : x3_2 < (l0_2.length : Int) := zo
              obtain ⟨ad345, A345_6, c345_6, A345_7, c345_7, e345, hx345_0, hx345_1, hx345_2, hx345_3, hx345_4, hx345_5, hx345_6, hx345_7, hl345_6, hi345_6, hl345_7, hi345_7⟩ := at_T26 HR0_2.out x3_2 p345 q345
              cases e345
              replace hx345_0 := zx HB hx345_0
              replace hx345_1 := zx HB hx345_1
              replace hx345_2 := zx HB hx345_2
              replace hx345_3 := zx HB hx345_3
              replace hx345_4 := zx HB hx345_4
              replace hx345_5 := zx HB hx345_5
              replace hx345_6 := zx HB hx345_6
              replace hx345_7 := zx HB hx345_7
              have HR345_6 := am hi345_6
              have HC345_6 := am hl345_6
              clear hi345_6 hl345_6
              have HR345_7 := am hi345_7
              have HC345_7 := am hl345_7
              clear hi345_7 hl345_7
              replace p345 := eq_true p345
              replace q345 := eq_true q345
              go_wp2_with (first | ((with_reducible refine gate_dst (N := 4) rfl ?_); (try (refine gate_guard (by rfl) ?_; dsimp only)); refine zB 4 #[.int .i64 0, .int .i64 0, .int .i64 0, .int .i64 0, .int .i64 0, .int .i64 0, .slice none 0 0, .slice none 0 0] 26 ?_; intro gb346 hg w67 hbox hb; have BK346 := am (hbox); have GE346 := zG hg (zb HB); replace HB := am (below_step (zb HB) hb); have NB344_346 := zn hg BK344; have NB346_344 := zm hg BK344; replace BK344 := zk BK344 hb; clear hb hbox hg; have hnb68 := NB346_344.out; have hnc68 := NB344_346.out; obtain ⟨_, _, _, _, _, _, _, _, _, _, _, _, _, _, _, _⟩ := zq8 BK346; obtain ⟨_, _, _, _, _, _⟩ := zq3 BK344))
              obtain ⟨W2_, hW2_⟩ : ∃ W_ : World, W_ = ((((((((w67.setCell ⟨gb346, 0, none⟩ (.int .i64 ((rd_T26 l0_2 x3_2).f0))).setCell ⟨gb346, 1, none⟩ (.int .i64 ((rd_T26 l0_2 x3_2).f1.f0))).setCell ⟨gb346, 2, none⟩ (.int .i64 ((rd_T26 l0_2 x3_2).f1.f1))).setCell ⟨gb346, 3, none⟩ (.int .i64 ((rd_T26 l0_2 x3_2).f1.f2))).setCell ⟨gb346, 4, none⟩ (.int .i64 ((rd_T26 l0_2 x3_2).f1.f3))).setCell ⟨gb346, 5, none⟩ (.int .i64 ((rd_T26 l0_2 x3_2).f1.f4))).setCell ⟨gb346, 6, none⟩ (.slice A345_6 ((rd_T26 l0_2 x3_2).f1.f5).length c345_6)).setCell ⟨gb346, 7, none⟩ (.slice A345_7 ((rd_T26 l0_2 x3_2).f1.f6).length c345_7)) := ⟨_, rfl⟩
              (first | rw [← hW2_] | skip)
              have B4_ := am (show W2_.heap[gb346]? = some (.cells #[.int .i64 ((rd_T26 l0_2 x3_2).f0), .int .i64 ((rd_T26 l0_2 x3_2).f1.f0), .int .i64 ((rd_T26 l0_2 x3_2).f1.f1), .int .i64 ((rd_T26 l0_2 x3_2).f1.f2), .int .i64 ((rd_T26 l0_2 x3_2).f1.f3), .int .i64 ((rd_T26 l0_2 x3_2).f1.f4), .slice A345_6 ((rd_T26 l0_2 x3_2).f1.f5).length c345_6, .slice A345_7 ((rd_T26 l0_2 x3_2).f1.f6).length c345_7] 26 (0, 0)) by rw [hW2_]; exact ow_put8 BK346.out)
              have B2_ := am (show W2_.heap[gb344]? = some (.cells #[.int .i64 a0_0, .int .i64 a0_1, .slice (some ad345) l0_2.length c0_2] 42 (0, 0)) by rw [hW2_]; exact ow_far8 BK344.out NB344_346.out)
              have BB_ := am (show Below w.heap.size w W2_ by rw [hW2_]; exact ow_below8 HB.out GE346.out)
              clear hW2_ HB
              have HB := BB_
              obtain ⟨hs4_0, hs4_1, hs4_2, hs4_3, hs4_4, hs4_5, hs4_6, hs4_7⟩ := zc8 B4_
              have hs2_0 : W2_.cell? ⟨gb344, 0, none⟩ = some (.int .i64 a0_0) := (blk_cell B2_.out 0).trans rfl
              have hs2_1 : W2_.cell? ⟨gb344, 1, none⟩ = some (.int .i64 a0_1) := (blk_cell B2_.out 1).trans rfl
              have hs2_2 : W2_.cell? ⟨gb344, 2, none⟩ = some (.slice (some ad345) l0_2.length c0_2) := (blk_cell B2_.out 2).trans rfl
              repeat (go_quiet (fail); try go_wp2)
              go_roundg k2
              case measure => have := HJ4.out; have := HK2.out; omega
              case rel => exact y31
         ·
          rw [if_neg c20] at H
          obtain ⟨c20b0, c20b1⟩ := zs c20
          obtain rfl := Option.some.inj H
          obtain ⟨_, _, _, _, _, _⟩ := zq3 BK344
          have p345 : 0 ≤ (x3_2 : Int) := zo
          have q345 : x3_2 < (l0_2.length : Int) := zo
          obtain ⟨ad345, A345_6, c345_6, A345_7, c345_7, e345, hx345_0, hx345_1, hx345_2, hx345_3, hx345_4, hx345_5, hx345_6, hx345_7, hl345_6, hi345_6, hl345_7, hi345_7⟩ := at_T26 HR0_2.out x3_2 p345 q345
          cases e345
          replace hx345_0 := zx HB hx345_0
          replace hx345_1 := zx HB hx345_1
          replace hx345_2 := zx HB hx345_2
          replace hx345_3 := zx HB hx345_3
          replace hx345_4 := zx HB hx345_4
          replace hx345_5 := zx HB hx345_5
          replace hx345_6 := zx HB hx345_6
          replace hx345_7 := zx HB hx345_7
          have HR345_6 := am hi345_6
          have HC345_6 := am hl345_6
          clear hi345_6 hl345_6
          have HR345_7 := am hi345_7
          have HC345_7 := am hl345_7
          clear hi345_7 hl345_7
          replace p345 := eq_true p345
          replace q345 := eq_true q345
          go_wp2_with (first | ((with_reducible refine gate_dst (N := 4) rfl ?_); (try (refine gate_guard (by rfl) ?_; dsimp only)); refine zB 4 #[.int .i64 0, .int .i64 0, .int .i64 0, .int .i64 0, .int .i64 0, .int .i64 0, .slice none 0 0, .slice none 0 0] 26 ?_; intro gb346 hg w72 hbox hb; have BK346 := am (hbox); have GE346 := zG hg (zb HB); replace HB := am (below_step (zb HB) hb); have NB344_346 := zn hg BK344; have NB346_344 := zm hg BK344; replace BK344 := zk BK344 hb; clear hb hbox hg; have hnb73 := NB346_344.out; have hnc73 := NB344_346.out; obtain ⟨_, _, _, _, _, _, _, _, _, _, _, _, _, _, _, _⟩ := zq8 BK346; obtain ⟨_, _, _, _, _, _⟩ := zq3 BK344))
          obtain ⟨W2_, hW2_⟩ : ∃ W_ : World, W_ = ((((((((w72.setCell ⟨gb346, 0, none⟩ (.int .i64 ((rd_T26 l0_2 x3_2).f0))).setCell ⟨gb346, 1, none⟩ (.int .i64 ((rd_T26 l0_2 x3_2).f1.f0))).setCell ⟨gb346, 2, none⟩ (.int .i64 ((rd_T26 l0_2 x3_2).f1.f1))).setCell ⟨gb346, 3, none⟩ (.int .i64 ((rd_T26 l0_2 x3_2).f1.f2))).setCell ⟨gb346, 4, none⟩ (.int .i64 ((rd_T26 l0_2 x3_2).f1.f3))).setCell ⟨gb346, 5, none⟩ (.int .i64 ((rd_T26 l0_2 x3_2).f1.f4))).setCell ⟨gb346, 6, none⟩ (.slice A345_6 ((rd_T26 l0_2 x3_2).f1.f5).length c345_6)).setCell ⟨gb346, 7, none⟩ (.slice A345_7 ((rd_T26 l0_2 x3_2).f1.f6).length c345_7)) := ⟨_, rfl⟩
          (first | rw [← hW2_] | skip)
          have B4_ := am (show W2_.heap[gb346]? = some (.cells #[.int .i64 ((rd_T26 l0_2 x3_2).f0), .int .i64 ((rd_T26 l0_2 x3_2).f1.f0), .int .i64 ((rd_T26 l0_2 x3_2).f1.f1), .int .i64 ((rd_T26 l0_2 x3_2).f1.f2), .int .i64 ((rd_T26 l0_2 x3_2).f1.f3), .int .i64 ((rd_T26 l0_2 x3_2).f1.f4), .slice A345_6 ((rd_T26 l0_2 x3_2).f1.f5).length c345_6, .slice A345_7 ((rd_T26 l0_2 x3_2).f1.f6).length c345_7] 26 (0, 0)) by rw [hW2_]; exact ow_put8 BK346.out)
          have B2_ := am (show W2_.heap[gb344]? = some (.cells #[.int .i64 a0_0, .int .i64 a0_1, .slice (some ad345) l0_2.length c0_2] 42 (0, 0)) by rw [hW2_]; exact ow_far8 BK344.out NB344_346.out)
          have BB_ := am (show Below w.heap.size w W2_ by rw [hW2_]; exact ow_below8 HB.out GE346.out)
          clear hW2_ HB
          have HB := BB_
          obtain ⟨hs4_0, hs4_1, hs4_2, hs4_3, hs4_4, hs4_5, hs4_6, hs4_7⟩ := zc8 B4_
          have hs2_0 : W2_.cell? ⟨gb344, 0, none⟩ = some (.int .i64 a0_0) := (blk_cell B2_.out 0).trans rfl
          have hs2_1 : W2_.cell? ⟨gb344, 1, none⟩ = some (.int .i64 a0_1) := (blk_cell B2_.out 1).trans rfl
          have hs2_2 : W2_.cell? ⟨gb344, 2, none⟩ = some (.slice (some ad345) l0_2.length c0_2) := (blk_cell B2_.out 2).trans rfl
          repeat (go_quiet (fail); try go_wp2)
          go_ret
          exact ⟨ze, zb HB⟩
        ·
         rw [if_neg c19] at H
         exact absurd H (by simp)
       ·
        rw [if_neg c18] at H
        have c18b0 := decide_eq_false c18
        clear c18
        obtain rfl := Option.some.inj H
        obtain ⟨_, _, _, _, _, _⟩ := zq3 BK344
        go_wp2
        repeat (go_quiet (fail); try go_wp2)
        go_ret
        exact ⟨ze, zb HB⟩
def j11_putList.l0 : Nat → List Int → List Int → Int → Int → Option (List Int)
 | 0, _, _, _, _ => none
 | k + 1, x0, x1, x5, x6 => if x6 < (x1.length : Int) then (if 0 ≤ x6 then ((j11_PutInt.f k x0 (wrap64 ((rd x1 x6) - x5))).bind fun t205 => (j11_putList.l0 k t205 x1 (rd x1 x6) (wrap64 (x6 + 1)))) else (none)) else (some x0)
def j11_putList.f (k : Nat) (l0 : List Int) (l1 : List Int) : Option (List Int) := (j11_PutInt.f k l0 (l1.length : Int)).bind fun t201 => (j11_putList.l0 k t201 l1 0 0)
theorem j11_putList.mono_l : ∀ k, (∀ y0 y1 y2 y3, LeO (j11_putList.l0 k y0 y1 y2 y3) (j11_putList.l0 (k + 1) y0 y1 y2 y3))
 | 0 => fun _ _ _ _ r h => by simp [j11_putList.l0] at h
 | k + 1 => by
  have ih0 := j11_putList.mono_l k
  ·
   intro y0 y1 y2 y3
   unfold j11_putList.l0
   exact zM
theorem j11_putList.mono : ∀ a0 a1 k, LeO (j11_putList.f k a0 a1) (j11_putList.f (k + 1) a0 a1) := by
 intro a0 a1 k
 have ih0 := j11_putList.mono_l k
 unfold j11_putList.f
 exact zM
set_option maxHeartbeats 8000000 in
set_option maxRecDepth 100000 in
theorem j11_putList.calls (k : Nat) (A0 : Option Addr) (c0 : Nat) (l0 : List Int) (A1 : Option Addr) (c1 : Nat) (l1 : List Int) (r : List Int) (w : World) (hr0 : Kd.C (Kd.int .u8) w A0 l0.length l0) (hc0 : l0.length ≤ c0) (hr1 : Kd.C (Kd.int .i64) w A1 l1.length l1) (hc1 : l1.length ≤ c1) (h : j11_putList.f k l0 l1 = some r) :
  Calls Try.prog 46 #[.slice A0 l0.length c0, .slice A1 l1.length c1] w fun e w' => ∃ v0_ : Value, e = .returned (v0_) ∧ Kd.R (Kd.int .u8) 5 w' w.heap.size (fun _ => True) v0_ r ∧ Below w.heap.size w w' := by
 have HR0 := am hr0
 have HC0 := am hc0
 clear hr0 hc0
 have HR1 := am hr1
 have HC1 := am hc1
 clear hr1 hc1
 have HB := am (Below.refl w.heap.size w)
 have H : ((j11_PutInt.f k l0 (l1.length : Int)).bind fun t201 => (j11_putList.l0 k t201 l1 0 0)) = some r := h
 clear h
 replace H := Option.bind_eq_some_iff.mp H
 obtain ⟨t201, A30, H⟩ := H
 (try dsimp only at H)
 have A3 := am A30
 clear A30
 have H' := am H
 clear H
 go_enter Try.func46, Try.ntmps46
 go_wp2_with (first | ((with_reducible refine gate_callee (f := 45) rfl ?_); refine goesL_ (some 10) rfl rfl Try.func45 (by kernel_rfl) rfl #[.slice A0 l0.length c0, .int .i64 (l1.length : Int)] rfl zg ?_; (with_reducible refine (j11_PutInt.calls k _ _ l0 (l1.length : Int) t201 _ ?side1 ?side2 A3.out).mono ?_); (case side1 => exact zC (HR0.out)); (case side2 => exact HC0.out); rintro e w4 ⟨v202, rfl, ho0, hb⟩; refine ⟨_, rfl, ?_⟩; have HO203 := am (Kd.R_lower ho0 (below_size (zb HB))); replace HB := am (below_step (zb HB) hb); clear hb ho0))
 go_loopg [0, 5, 6] k (fun kq v0 v5 v6 w' => ∃ (x0_1 : List Int) (x5_1 : Int) (x6_1 : Int), v5 = .int .i64 x5_1 ∧ v6 = .int .i64 x6_1 ∧ Aside0 (j11_putList.l0 kq x0_1 l1 x5_1 x6_1 = some r) ∧ Aside0 (kq ≤ k) ∧ Aside0 (Kd.R (Kd.int .u8) 5 w' w.heap.size (fun _ => True) v0 x0_1) ∧ Aside0 (Below w.heap.size w w'))
 case atStart => exact ⟨(t201), (0), (0), zr, zr, H', ⟨Nat.le_refl _⟩, ⟨by (with_reducible repeat (first | apply Kd.R_alloc | apply Kd.R_drewN | apply Kd.R_drew)); exact HO203.out⟩, ⟨zb HB⟩⟩
 case round =>
  clear H'
  obtain ⟨x0_1, x5_1, x6_1, rfl, rfl, HA, HK1, HO_0, HB⟩ := hrel
  cases gk with
  | zero => exact absurd HA.out (by simp [j11_putList.l0])
  | succ k1 =>
   have H := HA.out
   clear HA
   simp only [j11_putList.l0] at H
   by_cases c5 : x6_1 < (l1.length : Int)
   ·
    rw [if_pos c5] at H
    have c5b0 := decide_eq_true c5
    clear c5
    by_cases c6 : 0 ≤ x6_1
    ·
     rw [if_pos c6] at H
     have c6b0 := decide_eq_true c6
     clear c6
     replace H := Option.bind_eq_some_iff.mp H
     obtain ⟨t205, A70, H⟩ := H
     (try dsimp only at H)
     have A7 := am A70
     clear A70
     have H' := am H
     clear H
     have p204 : 0 ≤ (x6_1 : Int) := zo
     have q204 : x6_1 < (l1.length : Int) := zo
     obtain ⟨ad204, e204, hx204_0⟩ := Kd.at_int HR1.out x6_1 p204 q204
     cases e204
     replace hx204_0 := zx HB hx204_0
     replace p204 := eq_true p204
     replace q204 := eq_true q204
     obtain ⟨Ao8, co8, eo8⟩ := Kd.R_slice HO_0.out
     subst eo8
     go_wp2_with (first | ((with_reducible refine gate_callee (f := 45) rfl ?_); refine goesL_ (some 24) rfl rfl Try.func45 (by kernel_rfl) rfl #[.slice Ao8 x0_1.length co8, .int .i64 (wrap64 ((rd l1 x6_1) - x5_1))] rfl zg ?_; (with_reducible refine (j11_PutInt.calls k1 _ _ x0_1 (wrap64 ((rd l1 x6_1) - x5_1)) t205 _ ?side1 ?side2 A7.out).mono ?_); (case side1 => exact zC ((Kd.R_reads' HO_0.out).2.2)); (case side2 => exact (Kd.R_reads' HO_0.out).2.1); rintro e w9 ⟨v206, rfl, ho0, hb⟩; refine ⟨_, rfl, ?_⟩; have HO207 := am (Kd.R_lower (Kd.R_new' ho0 (Kd.R_lt (zR HO_0.out))) (below_size (zb HB))); replace HO_0 := am (Kd.R_elder' (zR HO_0.out) (Kd.R_base ho0) hb); replace HB := am (below_step (zb HB) hb); clear hb ho0; have p208 : 0 ≤ (x6_1 : Int) := zo; have q208 : x6_1 < (l1.length : Int) := zo; obtain ⟨ad208, e208, hx208_0⟩ := Kd.at_int HR1.out x6_1 p208 q208; obtain rfl : ad204 = ad208 := (by injection e208); replace hx208_0 := zx HB hx208_0; replace p208 := eq_true p208; replace q208 := eq_true q208))
     go_roundg k1
     case measure => have := HK1.out; omega
     case rel => exact ⟨(t205), (rd l1 x6_1), (wrap64 (x6_1 + 1)), zr, zr, H', ⟨by have := HK1.out; omega⟩, ⟨by (with_reducible repeat (first | apply Kd.R_alloc | apply Kd.R_drewN | apply Kd.R_drew)); exact Kd.R_mono HO207.out (fun _ hk => trivial)⟩, ⟨zb HB⟩⟩
    ·
     rw [if_neg c6] at H
     exact absurd H (by simp)
   ·
    rw [if_neg c5] at H
    have c5b0 := decide_eq_false c5
    clear c5
    obtain rfl := Option.some.inj H
    go_wp2
    go_ret
    exact ⟨_, ze, by (with_reducible repeat (first | apply Kd.R_alloc | apply Kd.R_drewN | apply Kd.R_drew)); exact HO_0.out, zb HB⟩
def j11_Append.f (k : Nat) (l0 : List Int) (a1_0 : Int) (a1_1 : Int) (a1_2 : Int) (a1_3 : Int) (a1_4 : Int) (a1_5 : Int) (l1_6 : List Int) (l1_7 : List Int) (a2 : Int) : Option (List Int) := (j11_PutInt.f k l0 (wrap64 (a1_0 - a2))).bind fun t210 => ((j11_PutInt.f k t210 a1_2).bind fun t213 => ((j11_PutInt.f k t213 a1_3).bind fun t216 => ((j11_PutInt.f k t216 a1_4).bind fun t219 => ((j11_PutInt.f k t219 a1_5).bind fun t222 => ((j11_putList.f k t222 l1_6).bind fun t225 => ((j11_putList.f k t225 l1_7).bind fun t228 => (some t228)))))))
theorem j11_Append.mono : ∀ a0 a1 a2 a3 a4 a5 a6 a7 a8 a9 k, LeO (j11_Append.f k a0 a1 a2 a3 a4 a5 a6 a7 a8 a9) (j11_Append.f (k + 1) a0 a1 a2 a3 a4 a5 a6 a7 a8 a9) := by
 intro a0 a1 a2 a3 a4 a5 a6 a7 a8 a9 k
 unfold j11_Append.f
 exact zM
set_option maxHeartbeats 8000000 in
set_option maxRecDepth 100000 in
theorem j11_Append.calls (k : Nat) (A0 : Option Addr) (c0 : Nat) (l0 : List Int) (a1_0 : Int) (a1_1 : Int) (a1_2 : Int) (a1_3 : Int) (a1_4 : Int) (a1_5 : Int) (A1_6 : Option Addr) (c1_6 : Nat) (l1_6 : List Int) (A1_7 : Option Addr) (c1_7 : Nat) (l1_7 : List Int) (a2 : Int) (r : List Int) (w : World) (hr0 : Kd.C (Kd.int .u8) w A0 l0.length l0) (hc0 : l0.length ≤ c0) (hr1_6 : Kd.C (Kd.int .i64) w A1_6 l1_6.length l1_6) (hc1_6 : l1_6.length ≤ c1_6) (hr1_7 : Kd.C (Kd.int .i64) w A1_7 l1_7.length l1_7) (hc1_7 : l1_7.length ≤ c1_7) (h : j11_Append.f k l0 a1_0 a1_1 a1_2 a1_3 a1_4 a1_5 l1_6 l1_7 a2 = some r) :
  Calls Try.prog 16 #[.slice A0 l0.length c0, .agg #[.int .i64 a1_0, .int .i64 a1_1, .int .i64 a1_2, .int .i64 a1_3, .int .i64 a1_4, .int .i64 a1_5, .slice A1_6 l1_6.length c1_6, .slice A1_7 l1_7.length c1_7], .int .i64 a2] w fun e w' => ∃ v0_ : Value, e = .returned (v0_) ∧ Kd.R (Kd.int .u8) 5 w' w.heap.size (fun _ => True) v0_ r ∧ Below w.heap.size w w' := by
 have hu26 := Try.underlying26
 have HR0 := am hr0
 have HC0 := am hc0
 clear hr0 hc0
 have HR1_6 := am hr1_6
 have HC1_6 := am hc1_6
 clear hr1_6 hc1_6
 have HR1_7 := am hr1_7
 have HC1_7 := am hc1_7
 clear hr1_7 hc1_7
 have HB := am (Below.refl w.heap.size w)
 have H : ((j11_PutInt.f k l0 (wrap64 (a1_0 - a2))).bind fun t210 => ((j11_PutInt.f k t210 a1_2).bind fun t213 => ((j11_PutInt.f k t213 a1_3).bind fun t216 => ((j11_PutInt.f k t216 a1_4).bind fun t219 => ((j11_PutInt.f k t219 a1_5).bind fun t222 => ((j11_putList.f k t222 l1_6).bind fun t225 => ((j11_putList.f k t225 l1_7).bind fun t228 => (some t228)))))))) = some r := h
 clear h
 replace H := Option.bind_eq_some_iff.mp H
 obtain ⟨t210, A40, H⟩ := H
 (try dsimp only at H)
 have A4 := am A40
 clear A40
 replace H := Option.bind_eq_some_iff.mp H
 obtain ⟨t213, A50, H⟩ := H
 (try dsimp only at H)
 have A5 := am A50
 clear A50
 replace H := Option.bind_eq_some_iff.mp H
 obtain ⟨t216, A60, H⟩ := H
 (try dsimp only at H)
 have A6 := am A60
 clear A60
 replace H := Option.bind_eq_some_iff.mp H
 obtain ⟨t219, A70, H⟩ := H
 (try dsimp only at H)
 have A7 := am A70
 clear A70
 replace H := Option.bind_eq_some_iff.mp H
 obtain ⟨t222, A80, H⟩ := H
 (try dsimp only at H)
 have A8 := am A80
 clear A80
 replace H := Option.bind_eq_some_iff.mp H
 obtain ⟨t225, A90, H⟩ := H
 (try dsimp only at H)
 have A9 := am A90
 clear A90
 replace H := Option.bind_eq_some_iff.mp H
 obtain ⟨t228, A100, H⟩ := H
 (try dsimp only at H)
 have A10 := am A100
 clear A100
 obtain rfl := Option.some.inj H
 go_enter Try.func16, Try.ntmps16
 go_wp2_with (first | ((with_reducible refine gate_dst (N := 4) rfl ?_); refine zB 4 #[.int .i64 a1_0, .int .i64 a1_1, .int .i64 a1_2, .int .i64 a1_3, .int .i64 a1_4, .int .i64 a1_5, .slice A1_6 l1_6.length c1_6, .slice A1_7 l1_7.length c1_7] 26 ?_; intro gb209 hg w11 hbox hb; have BK209 := am (hbox); have GE209 := zG hg (zb HB); replace HB := am (below_step (zb HB) hb); clear hb hbox hg; obtain ⟨_, _, _, _, _, _, _, _, _, _, _, _, _, _, _, _⟩ := zq8 BK209) | ((with_reducible refine gate_callee (f := 45) rfl ?_); refine goesL_ (some 12) rfl rfl Try.func45 (by kernel_rfl) rfl #[.slice A0 l0.length c0, .int .i64 (wrap64 (a1_0 - a2))] rfl zg ?_; (with_reducible refine (j11_PutInt.calls k _ _ l0 (wrap64 (a1_0 - a2)) t210 _ ?side1 ?side2 A4.out).mono ?_); (case side1 => exact y43); (case side2 => exact HC0.out); rintro e w13 ⟨v211, rfl, ho0, hb⟩; refine ⟨_, rfl, ?_⟩; have HO212 := am (Kd.R_lower ho0 (below_size (zb HB))); replace BK209 := zk BK209 hb; replace HB := am (below_step (zb HB) hb); clear hb ho0; obtain ⟨_, _, _, _, _, _, _, _, _, _, _, _, _, _, _, _⟩ := zq8 BK209; obtain ⟨Ao15, co15, eo15⟩ := Kd.R_slice HO212.out; subst eo15) | ((with_reducible refine gate_callee (f := 45) rfl ?_); refine goesL_ (some 17) rfl rfl Try.func45 (by kernel_rfl) rfl #[.slice Ao15 t210.length co15, .int .i64 a1_2] rfl zg ?_; (with_reducible refine (j11_PutInt.calls k _ _ t210 a1_2 t213 _ ?side1 ?side2 A5.out).mono ?_); (case side1 => exact zC ((Kd.R_reads' HO212.out).2.2)); (case side2 => exact (Kd.R_reads' HO212.out).2.1); rintro e w16 ⟨v214, rfl, ho0, hb⟩; refine ⟨_, rfl, ?_⟩; have HO215 := am (Kd.R_lower (Kd.R_new' ho0 (Kd.R_lt (zR HO212.out))) (below_size (zb HB))); replace HO212 := am (Kd.R_elder' (zR HO212.out) (Kd.R_base ho0) hb); replace BK209 := zk BK209 hb; replace HB := am (below_step (zb HB) hb); clear hb ho0; obtain ⟨_, _, _, _, _, _, _, _, _, _, _, _, _, _, _, _⟩ := zq8 BK209; obtain ⟨Ao18, co18, eo18⟩ := Kd.R_slice HO215.out; subst eo18) | ((with_reducible refine gate_callee (f := 45) rfl ?_); refine goesL_ (some 22) rfl rfl Try.func45 (by kernel_rfl) rfl #[.slice Ao18 t213.length co18, .int .i64 a1_3] rfl zg ?_; (with_reducible refine (j11_PutInt.calls k _ _ t213 a1_3 t216 _ ?side1 ?side2 A6.out).mono ?_); (case side1 => exact zC ((Kd.R_reads' HO215.out).2.2)); (case side2 => exact (Kd.R_reads' HO215.out).2.1); rintro e w19 ⟨v217, rfl, ho0, hb⟩; refine ⟨_, rfl, ?_⟩; have HO218 := am (Kd.R_lower (Kd.R_new' (Kd.R_new' ho0 (Kd.R_lt (zR HO212.out))) (Kd.R_lt (zR HO215.out))) (below_size (zb HB))); replace HO212 := am (Kd.R_elder' (zR HO212.out) (Kd.R_base ho0) hb); replace HO215 := am (Kd.R_elder' (zR HO215.out) (Kd.R_base ho0) hb); replace BK209 := zk BK209 hb; replace HB := am (below_step (zb HB) hb); clear hb ho0; obtain ⟨_, _, _, _, _, _, _, _, _, _, _, _, _, _, _, _⟩ := zq8 BK209; obtain ⟨Ao21, co21, eo21⟩ := Kd.R_slice HO218.out; subst eo21) | ((with_reducible refine gate_callee (f := 45) rfl ?_); refine goesL_ (some 27) rfl rfl Try.func45 (by kernel_rfl) rfl #[.slice Ao21 t216.length co21, .int .i64 a1_4] rfl zg ?_; (with_reducible refine (j11_PutInt.calls k _ _ t216 a1_4 t219 _ ?side1 ?side2 A7.out).mono ?_); (case side1 => exact zC ((Kd.R_reads' HO218.out).2.2)); (case side2 => exact (Kd.R_reads' HO218.out).2.1); rintro e w22 ⟨v220, rfl, ho0, hb⟩; refine ⟨_, rfl, ?_⟩; have HO221 := am (Kd.R_lower (Kd.R_new' (Kd.R_new' (Kd.R_new' ho0 (Kd.R_lt (zR HO212.out))) (Kd.R_lt (zR HO215.out))) (Kd.R_lt (zR HO218.out))) (below_size (zb HB))); replace HO212 := am (Kd.R_elder' (zR HO212.out) (Kd.R_base ho0) hb); replace HO215 := am (Kd.R_elder' (zR HO215.out) (Kd.R_base ho0) hb); replace HO218 := am (Kd.R_elder' (zR HO218.out) (Kd.R_base ho0) hb); replace BK209 := zk BK209 hb; replace HB := am (below_step (zb HB) hb); clear hb ho0; obtain ⟨_, _, _, _, _, _, _, _, _, _, _, _, _, _, _, _⟩ := zq8 BK209; obtain ⟨Ao24, co24, eo24⟩ := Kd.R_slice HO221.out; subst eo24) | ((with_reducible refine gate_callee (f := 45) rfl ?_); refine goesL_ (some 32) rfl rfl Try.func45 (by kernel_rfl) rfl #[.slice Ao24 t219.length co24, .int .i64 a1_5] rfl zg ?_; (with_reducible refine (j11_PutInt.calls k _ _ t219 a1_5 t222 _ ?side1 ?side2 A8.out).mono ?_); (case side1 => exact zC ((Kd.R_reads' HO221.out).2.2)); (case side2 => exact (Kd.R_reads' HO221.out).2.1); rintro e w25 ⟨v223, rfl, ho0, hb⟩; refine ⟨_, rfl, ?_⟩; have HO224 := am (Kd.R_lower (Kd.R_new' (Kd.R_new' (Kd.R_new' (Kd.R_new' ho0 (Kd.R_lt (zR HO212.out))) (Kd.R_lt (zR HO215.out))) (Kd.R_lt (zR HO218.out))) (Kd.R_lt (zR HO221.out))) (below_size (zb HB))); replace HO212 := am (Kd.R_elder' (zR HO212.out) (Kd.R_base ho0) hb); replace HO215 := am (Kd.R_elder' (zR HO215.out) (Kd.R_base ho0) hb); replace HO218 := am (Kd.R_elder' (zR HO218.out) (Kd.R_base ho0) hb); replace HO221 := am (Kd.R_elder' (zR HO221.out) (Kd.R_base ho0) hb); replace BK209 := zk BK209 hb; replace HB := am (below_step (zb HB) hb); clear hb ho0; obtain ⟨_, _, _, _, _, _, _, _, _, _, _, _, _, _, _, _⟩ := zq8 BK209; obtain ⟨Ao27, co27, eo27⟩ := Kd.R_slice HO224.out; subst eo27) | ((with_reducible refine gate_callee (f := 46) rfl ?_); refine goesL_ (some 37) rfl rfl Try.func46 (by kernel_rfl) rfl #[.slice Ao27 t222.length co27, .slice A1_6 l1_6.length c1_6] rfl zg ?_; (with_reducible refine (j11_putList.calls k _ _ t222 _ _ l1_6 t225 _ ?side1 ?side2 ?side3 ?side4 A9.out).mono ?_); (case side1 => exact zC ((Kd.R_reads' HO224.out).2.2)); (case side2 => exact (Kd.R_reads' HO224.out).2.1); (case side3 => exact zC ((Kd.C_below HR1_6.out HB.out))); (case side4 => exact HC1_6.out); rintro e w28 ⟨v226, rfl, ho0, hb⟩; refine ⟨_, rfl, ?_⟩; have HO227 := am (Kd.R_lower (Kd.R_new' (Kd.R_new' (Kd.R_new' (Kd.R_new' (Kd.R_new' ho0 (Kd.R_lt (zR HO212.out))) (Kd.R_lt (zR HO215.out))) (Kd.R_lt (zR HO218.out))) (Kd.R_lt (zR HO221.out))) (Kd.R_lt (zR HO224.out))) (below_size (zb HB))); replace HO212 := am (Kd.R_elder' (zR HO212.out) (Kd.R_base ho0) hb); replace HO215 := am (Kd.R_elder' (zR HO215.out) (Kd.R_base ho0) hb); replace HO218 := am (Kd.R_elder' (zR HO218.out) (Kd.R_base ho0) hb); replace HO221 := am (Kd.R_elder' (zR HO221.out) (Kd.R_base ho0) hb); replace HO224 := am (Kd.R_elder' (zR HO224.out) (Kd.R_base ho0) hb); replace BK209 := zk BK209 hb; replace HB := am (below_step (zb HB) hb); clear hb ho0; obtain ⟨_, _, _, _, _, _, _, _, _, _, _, _, _, _, _, _⟩ := zq8 BK209; obtain ⟨Ao30, co30, eo30⟩ := Kd.R_slice HO227.out; subst eo30) | ((with_reducible refine gate_callee (f := 46) rfl ?_); refine goesL_ (some 42) rfl rfl Try.func46 (by kernel_rfl) rfl #[.slice Ao30 t225.length co30, .slice A1_7 l1_7.length c1_7] rfl zg ?_; (with_reducible refine (j11_putList.calls k _ _ t225 _ _ l1_7 t228 _ ?side1 ?side2 ?side3 ?side4 A10.out).mono ?_); (case side1 => exact zC ((Kd.R_reads' HO227.out).2.2)); (case side2 => exact (Kd.R_reads' HO227.out).2.1); (case side3 => exact zC ((Kd.C_below HR1_7.out HB.out))); (case side4 => exact HC1_7.out); rintro e w31 ⟨v229, rfl, ho0, hb⟩; refine ⟨_, rfl, ?_⟩; have HO230 := am (Kd.R_lower (Kd.R_new' (Kd.R_new' (Kd.R_new' (Kd.R_new' (Kd.R_new' (Kd.R_new' ho0 (Kd.R_lt (zR HO212.out))) (Kd.R_lt (zR HO215.out))) (Kd.R_lt (zR HO218.out))) (Kd.R_lt (zR HO221.out))) (Kd.R_lt (zR HO224.out))) (Kd.R_lt (zR HO227.out))) (below_size (zb HB))); replace HO212 := am (Kd.R_elder' (zR HO212.out) (Kd.R_base ho0) hb); replace HO215 := am (Kd.R_elder' (zR HO215.out) (Kd.R_base ho0) hb); replace HO218 := am (Kd.R_elder' (zR HO218.out) (Kd.R_base ho0) hb); replace HO221 := am (Kd.R_elder' (zR HO221.out) (Kd.R_base ho0) hb); replace HO224 := am (Kd.R_elder' (zR HO224.out) (Kd.R_base ho0) hb); replace HO227 := am (Kd.R_elder' (zR HO227.out) (Kd.R_base ho0) hb); replace BK209 := zk BK209 hb; replace HB := am (below_step (zb HB) hb); clear hb ho0))
 go_ret
 exact ⟨_, ze, by (with_reducible repeat (first | apply Kd.R_alloc | apply Kd.R_drewN | apply Kd.R_drew)); exact Kd.R_mono HO230.out (fun _ hk => trivial), zb HB⟩
def j11_Payload.l0 : Nat → List Int → Int → Int → Int → Int → List (S26) → Option (List Int)
 | 0, _, _, _, _, _, _ => none
 | k + 1, x3, x4, x5, x349000, x349001, x349002 => if x5 < (x349002.length : Int) then (if 0 ≤ x5 then ((j11_Append.f k x3 ((rd_T26 x349002 x5).f0) ((rd_T26 x349002 x5).f1.f0) ((rd_T26 x349002 x5).f1.f1) ((rd_T26 x349002 x5).f1.f2) ((rd_T26 x349002 x5).f1.f3) ((rd_T26 x349002 x5).f1.f4) ((rd_T26 x349002 x5).f1.f5) ((rd_T26 x349002 x5).f1.f6) x4).bind fun t350 => (j11_Payload.l0 k t350 ((rd_T26 x349002 x5).f0) (wrap64 (x5 + 1)) x349000 x349001 x349002)) else (none)) else (some x3)
def j11_Payload.f (k : Nat) (a0_0 : Int) (a0_1 : Int) (l0_2 : List (S26)) : Option (List Int) := j11_Payload.l0 k ([] : List Int) (-1) 0 a0_0 a0_1 l0_2
theorem j11_Payload.mono_l : ∀ k, (∀ y0 y1 y2 y3 y4 y5, LeO (j11_Payload.l0 k y0 y1 y2 y3 y4 y5) (j11_Payload.l0 (k + 1) y0 y1 y2 y3 y4 y5))
 | 0 => fun _ _ _ _ _ _ r h => by simp [j11_Payload.l0] at h
 | k + 1 => by
  have ih0 := j11_Payload.mono_l k
  ·
   intro y0 y1 y2 y3 y4 y5
   unfold j11_Payload.l0
   exact zM
theorem j11_Payload.mono : ∀ a0 a1 a2 k, LeO (j11_Payload.f k a0 a1 a2) (j11_Payload.f (k + 1) a0 a1 a2) := by
 intro a0 a1 a2 k
 have ih0 := j11_Payload.mono_l k
 unfold j11_Payload.f
 exact zM
set_option maxHeartbeats 8000000 in
set_option maxRecDepth 100000 in
theorem j11_Payload.calls (k : Nat) (a0_0 : Int) (a0_1 : Int) (A0_2 : Option Addr) (c0_2 : Nat) (l0_2 : List (S26)) (r : List Int) (w : World) (hr0_2 : Kd.C k26 w A0_2 l0_2.length l0_2) (hc0_2 : l0_2.length ≤ c0_2) (h : j11_Payload.f k a0_0 a0_1 l0_2 = some r) :
  Calls Try.prog 54 #[.agg #[.int .i64 a0_0, .int .i64 a0_1, .slice A0_2 l0_2.length c0_2]] w fun e w' => ∃ v0_ : Value, e = .returned (v0_) ∧ Kd.R (Kd.int .u8) 5 w' w.heap.size (fun _ => True) v0_ r ∧ Below w.heap.size w w' := by
 have hu42 := Try.underlying42
 have hu26 := Try.underlying26
 have HR0_2 := am hr0_2
 have HC0_2 := am hc0_2
 clear hr0_2 hc0_2
 have HB := am (Below.refl w.heap.size w)
 have H : (j11_Payload.l0 k ([] : List Int) (-1) 0 a0_0 a0_1 l0_2) = some r := h
 clear h
 have H' := am H
 clear H
 go_enter Try.func54, Try.ntmps54
 go_wp2_with (first | ((with_reducible refine gate_dst (N := 1) rfl ?_); refine zB 1 #[.int .i64 a0_0, .int .i64 a0_1, .slice A0_2 l0_2.length c0_2] 42 ?_; intro gb348 hg w2 hbox hb; have BK348 := am (hbox); have GE348 := zG hg (zb HB); replace HB := am (below_step (zb HB) hb); clear hb hbox hg))
 go_loopg [3, 4, 5] k (fun kq v3 v4 v5 w' => ∃ (x3_1 : List Int) (x4_1 : Int) (x5_1 : Int), v4 = .int .i64 x4_1 ∧ v5 = .int .i64 x5_1 ∧ Aside0 (j11_Payload.l0 kq x3_1 x4_1 x5_1 a0_0 a0_1 l0_2 = some r) ∧ Aside0 (kq ≤ k) ∧ Aside0 (Kd.R (Kd.int .u8) 5 w' w.heap.size (fun _ => True) v3 x3_1) ∧ Aside0 (w'.heap[gb348]? = some (.cells #[.int .i64 a0_0, .int .i64 a0_1, (.slice A0_2 l0_2.length c0_2)] 42 (0, 0))) ∧ Aside0 (Below w.heap.size w w'))
 case atStart => exact ⟨(([] : List Int)), ((-1)), (0), zr, zr, H', ⟨Nat.le_refl _⟩, ⟨by first | exact Kd.R_nil _ _ _ _ _ | exact Kd.N_nil _ _ _ _ _ | exact Kd.V_nil _ _ _ _ _ | exact Kd.Q_nil _ _ _ _ _ | exact Kd.S_nil _ _ _ _ _⟩, ⟨by refine zu ?_; exact BK348.out⟩, ⟨zb HB⟩⟩
 case round =>
  clear H'
  try clear p2
  obtain ⟨x3_1, x4_1, x5_1, rfl, rfl, HA, HK1, HO_3, BK348, HB⟩ := hrel
  cases gk with
  | zero => exact absurd HA.out (by simp [j11_Payload.l0])
  | succ k1 =>
   have H := HA.out
   clear HA
   simp only [j11_Payload.l0] at H
   by_cases c3 : x5_1 < (l0_2.length : Int)
   ·
    rw [if_pos c3] at H
    have c3b0 := decide_eq_true c3
    clear c3
    by_cases c4 : 0 ≤ x5_1
    ·
     rw [if_pos c4] at H
     have c4b0 := decide_eq_true c4
     clear c4
     replace H := Option.bind_eq_some_iff.mp H
     obtain ⟨t350, A50, H⟩ := H
     (try dsimp only at H)
     have A5 := am A50
     clear A50
     have H' := am H
     clear H
     obtain ⟨_, _, _, _, _, _⟩ := zq3 BK348
     have p349 : 0 ≤ (x5_1 : Int) := zo
     have q349 : x5_1 < (l0_2.length : Int) := zo
     obtain ⟨ad349, A349_6, c349_6, A349_7, c349_7, e349, hx349_0, hx349_1, hx349_2, hx349_3, hx349_4, hx349_5, hx349_6, hx349_7, hl349_6, hi349_6, hl349_7, hi349_7⟩ := at_T26 HR0_2.out x5_1 p349 q349
     cases e349
     replace hx349_0 := zx HB hx349_0
     replace hx349_1 := zx HB hx349_1
     replace hx349_2 := zx HB hx349_2
     replace hx349_3 := zx HB hx349_3
     replace hx349_4 := zx HB hx349_4
     replace hx349_5 := zx HB hx349_5
     replace hx349_6 := zx HB hx349_6
     replace hx349_7 := zx HB hx349_7
     have HR349_6 := am hi349_6
     have HC349_6 := am hl349_6
     clear hi349_6 hl349_6
     have HR349_7 := am hi349_7
     have HC349_7 := am hl349_7
     clear hi349_7 hl349_7
     replace p349 := eq_true p349
     replace q349 := eq_true q349
     obtain ⟨Ao7, co7, eo7⟩ := Kd.R_slice HO_3.out
     subst eo7
     go_wp2_with (first | ((with_reducible refine gate_callee (f := 16) rfl ?_); refine goesL_ (some 20) rfl rfl Try.func16 (by kernel_rfl) rfl #[.slice Ao7 x3_1.length co7, .agg #[.int .i64 ((rd_T26 l0_2 x5_1).f0), .int .i64 ((rd_T26 l0_2 x5_1).f1.f0), .int .i64 ((rd_T26 l0_2 x5_1).f1.f1), .int .i64 ((rd_T26 l0_2 x5_1).f1.f2), .int .i64 ((rd_T26 l0_2 x5_1).f1.f3), .int .i64 ((rd_T26 l0_2 x5_1).f1.f4), .slice A349_6 ((rd_T26 l0_2 x5_1).f1.f5).length c349_6, .slice A349_7 ((rd_T26 l0_2 x5_1).f1.f6).length c349_7], .int .i64 x4_1] rfl zg ?_; (with_reducible refine (j11_Append.calls k1 _ _ x3_1 ((rd_T26 l0_2 x5_1).f0) ((rd_T26 l0_2 x5_1).f1.f0) ((rd_T26 l0_2 x5_1).f1.f1) ((rd_T26 l0_2 x5_1).f1.f2) ((rd_T26 l0_2 x5_1).f1.f3) ((rd_T26 l0_2 x5_1).f1.f4) _ _ ((rd_T26 l0_2 x5_1).f1.f5) _ _ ((rd_T26 l0_2 x5_1).f1.f6) x4_1 t350 _ ?side1 ?side2 ?side3 ?side4 ?side5 ?side6 A5.out).mono ?_); (case side1 => exact zC ((Kd.R_reads' HO_3.out).2.2)); (case side2 => exact (Kd.R_reads' HO_3.out).2.1); (case side3 => exact zC ((Kd.C_below HR349_6.out HB.out))); (case side4 => exact HC349_6.out); (case side5 => exact zC ((Kd.C_below HR349_7.out HB.out))); (case side6 => exact HC349_7.out); rintro e w8 ⟨v351, rfl, ho0, hb⟩; refine ⟨_, rfl, ?_⟩; have HO352 := am (Kd.R_lower (Kd.R_new' ho0 (Kd.R_lt (zR HO_3.out))) (below_size (zb HB))); replace HO_3 := am (Kd.R_elder' (zR HO_3.out) (Kd.R_base ho0) hb); replace BK348 := zk BK348 hb; replace HB := am (below_step (zb HB) hb); clear hb ho0; obtain ⟨_, _, _, _, _, _⟩ := zq3 BK348; have p353 : 0 ≤ (x5_1 : Int) := zo; have q353 : x5_1 < (l0_2.length : Int) := zo; obtain ⟨ad353, A353_6, c353_6, A353_7, c353_7, e353, hx353_0, hx353_1, hx353_2, hx353_3, hx353_4, hx353_5, hx353_6, hx353_7, hl353_6, hi353_6, hl353_7, hi353_7⟩ := at_T26 HR0_2.out x5_1 p353 q353; obtain rfl : ad349 = ad353 := (by injection e353); replace hx353_0 := zx HB hx353_0; replace hx353_1 := zx HB hx353_1; replace hx353_2 := zx HB hx353_2; replace hx353_3 := zx HB hx353_3; replace hx353_4 := zx HB hx353_4; replace hx353_5 := zx HB hx353_5; replace hx353_6 := zx HB hx353_6; replace hx353_7 := zx HB hx353_7; have HR353_6 := am hi353_6; have HC353_6 := am hl353_6; clear hi353_6 hl353_6; have HR353_7 := am hi353_7; have HC353_7 := am hl353_7; clear hi353_7 hl353_7; replace p353 := eq_true p353; replace q353 := eq_true q353))
     go_roundg k1
     case measure => have := HK1.out; omega
     case rel => exact ⟨(t350), ((rd_T26 l0_2 x5_1).f0), (wrap64 (x5_1 + 1)), zr, zr, H', ⟨by have := HK1.out; omega⟩, ⟨by (with_reducible repeat (first | apply Kd.R_alloc | apply Kd.R_drewN | apply Kd.R_drew)); exact Kd.R_mono HO352.out (fun _ hk => trivial)⟩, ⟨by refine zu ?_; exact BK348.out⟩, ⟨zb HB⟩⟩
    ·
     rw [if_neg c4] at H
     exact absurd H (by simp)
   ·
    rw [if_neg c3] at H
    have c3b0 := decide_eq_false c3
    clear c3
    obtain rfl := Option.some.inj H
    obtain ⟨_, _, _, _, _, _⟩ := zq3 BK348
    go_wp2
    go_ret
    exact ⟨_, ze, by (with_reducible repeat (first | apply Kd.R_alloc | apply Kd.R_drewN | apply Kd.R_drew)); exact HO_3.out, zb HB⟩
end Go.Proofs.Ytnmmkgagbfniiaa.A
end
