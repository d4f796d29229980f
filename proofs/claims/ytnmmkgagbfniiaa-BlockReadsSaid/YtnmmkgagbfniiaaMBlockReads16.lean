/- MBlockReads16: texts of this session and of the kit's printer on the road to the statement BlockReads, laid into one and rid of what it doesn't need. No condition beyond what each fact names. -/
import Derived.Test.YtnmmkgagbfniiaaMBlockReads3
import Derived.Test.YtnmmkgagbfniiaaMBlockReads2
import Derived.Test.YtnmmkgagbfniiaaMBlockReads9
import Derived.Test.YtnmmkgagbfniiaaMBlockReads15
import Derived.Laws.BitsAllLaws
import Derived.Test.YtnmmkgagbfniiaaMBlockReads1
section
namespace Go.Proofs.Ytnmmkgagbfniiaa.A
open Go.RowKit Go.Proofs.YtnmmkgagbfniiaaW.PrintWords Go.Proofs.YtnmmkgagbfniiaaW.PrintLast Go.Proofs.YtnmmkgagbfniiaaW.PrintMore
attribute [local go_sem] max2_int min2_int max_two min_two max_three min_three max_four min_four
set_option linter.unusedVariables false
set_option linter.unusedSimpArgs false
def j07_SameInts.l0 : Nat → List Int → List Int → Int → Option (Bool)
 | 0, _, _, _ => none
 | k + 1, x0, x1, x5 => if x5 < (x0.length : Int) then (if 0 ≤ x5 then (if x5 < (x1.length : Int) then (if (rd x0 x5) = (rd x1 x5) then (j07_SameInts.l0 k x0 x1 (wrap64 (x5 + 1))) else (none)) else (none)) else (none)) else (some true)
def j07_SameInts.f (k : Nat) (l0 : List Int) (l1 : List Int) : Option (Bool) := if (l0.length : Int) = (l1.length : Int) then (j07_SameInts.l0 k l0 l1 0) else (none)
theorem j07_SameInts.mono_l : ∀ k, (∀ y0 y1 y2, LeO (j07_SameInts.l0 k y0 y1 y2) (j07_SameInts.l0 (k + 1) y0 y1 y2))
 | 0 => fun _ _ _ r h => by simp [j07_SameInts.l0] at h
 | k + 1 => by
  have ih0 := j07_SameInts.mono_l k
  ·
   intro y0 y1 y2
   unfold j07_SameInts.l0
   repeat' first
   | (with_reducible exact ih0 _ _ _)
   | (with_reducible exact LeO.refl _)
   | (with_reducible exact LeO.none _)
   | (with_reducible refine LeO.ite ?_ ?_)
   | (with_reducible refine LeO.bind ?_ (fun _ => ?_))
   | exact ih0 _ _ _
   | exact LeO.none _
   | refine LeO.ite ?_ ?_
   | refine LeO.bind ?_ (fun _ => ?_)
theorem j07_SameInts.mono : ∀ a0 a1 k, LeO (j07_SameInts.f k a0 a1) (j07_SameInts.f (k + 1) a0 a1) := by
 intro a0 a1 k
 have ih0 := j07_SameInts.mono_l k
 unfold j07_SameInts.f
 repeat' first
   | (with_reducible exact ih0 _ _ _)
   | (with_reducible exact LeO.refl _)
   | (with_reducible exact LeO.none _)
   | (with_reducible refine LeO.ite ?_ ?_)
   | (with_reducible refine LeO.bind ?_ (fun _ => ?_))
   | exact ih0 _ _ _
   | exact LeO.none _
   | refine LeO.ite ?_ ?_
   | refine LeO.bind ?_ (fun _ => ?_)
set_option maxHeartbeats 8000000 in
set_option maxRecDepth 100000 in
theorem j07_SameInts.calls (k : Nat) (A0 : Option Addr) (c0 : Nat) (l0 : List Int) (A1 : Option Addr) (c1 : Nat) (l1 : List Int) (r : Bool) (w : World) (hr0 : Kd.C (Kd.int .i64) w A0 l0.length l0) (hc0 : l0.length ≤ c0) (hr1 : Kd.C (Kd.int .i64) w A1 l1.length l1) (hc1 : l1.length ≤ c1) (h : j07_SameInts.f k l0 l1 = some r) :
  Calls Try.prog 44 #[.slice A0 l0.length c0, .slice A1 l1.length c1] w fun e w' => e = .returned (.bool r) ∧ Drawn0 w w' := by
 have HR0 := am hr0
 have HC0 := am hc0
 clear hr0 hc0
 have HR1 := am hr1
 have HC1 := am hc1
 clear hr1 hc1
 have H : (if (l0.length : Int) = (l1.length : Int) then (j07_SameInts.l0 k l0 l1 0) else (none)) = some r := h
 clear h
 by_cases c3 : (l0.length : Int) = (l1.length : Int)
 ·
  rw [if_pos c3] at H
  have c3b0 : ((l0.length : Int) == (l1.length : Int)) = true := beq_iff_eq.mpr c3
  have c3b1 : ((l0.length : Int) != (l1.length : Int)) = false := bne_eq_false_iff_eq.mpr c3
  have c3b2 : (l0.length == l1.length) = true := by first | simpa using c3 | (simp at c3 ⊢; omega)
  clear c3
  have H' := am H
  clear H
  go_enter Try.func44, Try.ntmps44
  go_wp2
  repeat (go_quiet (fail); try go_wp2)
  go_loopg [5] k (fun kq v5 w' => ∃ (x5_1 : Int), v5 = .int .i64 x5_1 ∧ Aside0 (j07_SameInts.l0 kq l0 l1 x5_1 = some r) ∧ Aside0 (kq ≤ k) ∧ Drawn0 w w')
  case atStart => exact ⟨(0), zr, H', ⟨Nat.le_refl _⟩, by repeat (first | exact Drawn0.refl _ | apply Drawn0.step)⟩
  case round =>
   clear H'
   obtain ⟨x5_1, rfl, HA, HK1, ⟨m1, rfl⟩⟩ := hrel
   cases gk with
   | zero => exact absurd HA.out (by simp [j07_SameInts.l0])
   | succ k1 =>
    have H := HA.out
    clear HA
    simp only [j07_SameInts.l0] at H
    by_cases c4 : x5_1 < (l0.length : Int)
    ·
     rw [if_pos c4] at H
     have c4b0 : decide (x5_1 < (l0.length : Int)) = true := decide_eq_true c4
     clear c4
     by_cases c5 : 0 ≤ x5_1
     ·
      rw [if_pos c5] at H
      have c5b0 : decide (0 ≤ x5_1) = true := decide_eq_true c5
      clear c5
      by_cases c6 : x5_1 < (l1.length : Int)
      ·
       rw [if_pos c6] at H
       have c6b0 : decide (x5_1 < (l1.length : Int)) = true := decide_eq_true c6
       clear c6
       by_cases c7 : (rd l0 x5_1) = (rd l1 x5_1)
       ·
        rw [if_pos c7] at H
        have c7b0 : ((rd l0 x5_1) == (rd l1 x5_1)) = true := beq_iff_eq.mpr c7
        have c7b1 : ((rd l0 x5_1) != (rd l1 x5_1)) = false := bne_eq_false_iff_eq.mpr c7
        clear c7
        have H' := am H
        clear H
        have p125 : 0 ≤ (x5_1 : Int) := zo
        have q125 : x5_1 < (l0.length : Int) := zo
        obtain ⟨ad125, e125, hx125_0⟩ := Kd.at_int HR0.out x5_1 p125 q125
        cases e125
        replace p125 := eq_true p125
        replace q125 := eq_true q125
        have p126 : 0 ≤ (x5_1 : Int) := zo
        have q126 : x5_1 < (l1.length : Int) := zo
        obtain ⟨ad126, e126, hx126_0⟩ := Kd.at_int HR1.out x5_1 p126 q126
        cases e126
        replace p126 := eq_true p126
        replace q126 := eq_true q126
        go_wp2
        repeat (go_quiet (fail); try go_wp2)
        go_roundg k1
        case measure => have := HK1.out; omega
        case rel => exact ⟨(wrap64 (x5_1 + 1)), zr, H', ⟨by have := HK1.out; omega⟩, by repeat (first | exact Drawn0.refl _ | apply Drawn0.step)⟩
       ·
        rw [if_neg c7] at H
        exact absurd H (by simp)
      ·
       rw [if_neg c6] at H
       exact absurd H (by simp)
     ·
      rw [if_neg c5] at H
      exact absurd H (by simp)
    ·
     rw [if_neg c4] at H
     have c4b0 : decide (x5_1 < (l0.length : Int)) = false := decide_eq_false c4
     clear c4
     obtain rfl := Option.some.inj H
     go_wp2
     repeat (go_quiet (fail); try go_wp2)
     go_ret
     exact ⟨by first | rfl | (simp; done) | (simp [*]; done), by repeat (first | exact Drawn0.refl _ | apply Drawn0.step)⟩
 ·
  rw [if_neg c3] at H
  exact absurd H (by simp)
def j09_SameEvent.f (k : Nat) (a0_0 : Int) (a0_1 : Int) (a0_2 : Int) (a0_3 : Int) (a0_4 : Int) (l0_5 : List Int) (l0_6 : List Int) (a1_0 : Int) (a1_1 : Int) (a1_2 : Int) (a1_3 : Int) (a1_4 : Int) (l1_5 : List Int) (l1_6 : List Int) : Option (Bool) := if a0_0 = a1_0 then (if a0_1 = a1_1 then (if a0_2 = a1_2 then (if a0_3 = a1_3 then (if a0_4 = a1_4 then ((j07_SameInts.f k l0_5 l1_5).bind fun t129 => (if t129 = true then ((j07_SameInts.f k l0_6 l1_6).bind fun t130 => (some t130)) else (none))) else (none)) else (none)) else (none)) else (none)) else (none)
theorem j09_SameEvent.mono : ∀ a0 a1 a2 a3 a4 a5 a6 a7 a8 a9 a10 a11 a12 a13 k, LeO (j09_SameEvent.f k a0 a1 a2 a3 a4 a5 a6 a7 a8 a9 a10 a11 a12 a13) (j09_SameEvent.f (k + 1) a0 a1 a2 a3 a4 a5 a6 a7 a8 a9 a10 a11 a12 a13) := by
 intro a0 a1 a2 a3 a4 a5 a6 a7 a8 a9 a10 a11 a12 a13 k
 unfold j09_SameEvent.f
 repeat' first
   | (with_reducible exact j07_SameInts.mono _ _ _)
   | (with_reducible exact LeO.refl _)
   | (with_reducible exact LeO.none _)
   | (with_reducible refine LeO.ite ?_ ?_)
   | (with_reducible refine LeO.bind ?_ (fun _ => ?_))
   | exact j07_SameInts.mono _ _ _
   | exact LeO.none _
   | refine LeO.ite ?_ ?_
   | refine LeO.bind ?_ (fun _ => ?_)
set_option maxHeartbeats 8000000 in
set_option maxRecDepth 100000 in
theorem j09_SameEvent.calls (k : Nat) (a0_0 : Int) (a0_1 : Int) (a0_2 : Int) (a0_3 : Int) (a0_4 : Int) (A0_5 : Option Addr) (c0_5 : Nat) (l0_5 : List Int) (A0_6 : Option Addr) (c0_6 : Nat) (l0_6 : List Int) (a1_0 : Int) (a1_1 : Int) (a1_2 : Int) (a1_3 : Int) (a1_4 : Int) (A1_5 : Option Addr) (c1_5 : Nat) (l1_5 : List Int) (A1_6 : Option Addr) (c1_6 : Nat) (l1_6 : List Int) (r : Bool) (w : World) (hr0_5 : Kd.C (Kd.int .i64) w A0_5 l0_5.length l0_5) (hc0_5 : l0_5.length ≤ c0_5) (hr0_6 : Kd.C (Kd.int .i64) w A0_6 l0_6.length l0_6) (hc0_6 : l0_6.length ≤ c0_6) (hr1_5 : Kd.C (Kd.int .i64) w A1_5 l1_5.length l1_5) (hc1_5 : l1_5.length ≤ c1_5) (hr1_6 : Kd.C (Kd.int .i64) w A1_6 l1_6.length l1_6) (hc1_6 : l1_6.length ≤ c1_6) (h : j09_SameEvent.f k a0_0 a0_1 a0_2 a0_3 a0_4 l0_5 l0_6 a1_0 a1_1 a1_2 a1_3 a1_4 l1_5 l1_6 = some r) :
  Calls Try.prog 14 #[.agg #[.int .i64 a0_0, .int .i64 a0_1, .int .i64 a0_2, .int .i64 a0_3, .int .i64 a0_4, .slice A0_5 l0_5.length c0_5, .slice A0_6 l0_6.length c0_6], .agg #[.int .i64 a1_0, .int .i64 a1_1, .int .i64 a1_2, .int .i64 a1_3, .int .i64 a1_4, .slice A1_5 l1_5.length c1_5, .slice A1_6 l1_6.length c1_6]] w fun e w' => e = .returned (.bool r) ∧ Below w.heap.size w w' := by
 have hu24 := Try.underlying24
 have HR0_5 := am hr0_5
 have HC0_5 := am hc0_5
 clear hr0_5 hc0_5
 have HR0_6 := am hr0_6
 have HC0_6 := am hc0_6
 clear hr0_6 hc0_6
 have HR1_5 := am hr1_5
 have HC1_5 := am hc1_5
 clear hr1_5 hc1_5
 have HR1_6 := am hr1_6
 have HC1_6 := am hc1_6
 clear hr1_6 hc1_6
 have HB := am (Below.refl w.heap.size w)
 have H : (if a0_0 = a1_0 then (if a0_1 = a1_1 then (if a0_2 = a1_2 then (if a0_3 = a1_3 then (if a0_4 = a1_4 then ((j07_SameInts.f k l0_5 l1_5).bind fun t129 => (if t129 = true then ((j07_SameInts.f k l0_6 l1_6).bind fun t130 => (some t130)) else (none))) else (none)) else (none)) else (none)) else (none)) else (none)) = some r := h
 clear h
 by_cases c3 : a0_0 = a1_0
 ·
  rw [if_pos c3] at H
  have c3b0 : (a0_0 == a1_0) = true := beq_iff_eq.mpr c3
  have c3b1 : (a0_0 != a1_0) = false := bne_eq_false_iff_eq.mpr c3
  clear c3
  by_cases c4 : a0_1 = a1_1
  ·
   rw [if_pos c4] at H
   have c4b0 : (a0_1 == a1_1) = true := beq_iff_eq.mpr c4
   have c4b1 : (a0_1 != a1_1) = false := bne_eq_false_iff_eq.mpr c4
   clear c4
   by_cases c5 : a0_2 = a1_2
   ·
    rw [if_pos c5] at H
    have c5b0 : (a0_2 == a1_2) = true := beq_iff_eq.mpr c5
    have c5b1 : (a0_2 != a1_2) = false := bne_eq_false_iff_eq.mpr c5
    clear c5
    by_cases c6 : a0_3 = a1_3
    ·
     rw [if_pos c6] at H
     have c6b0 : (a0_3 == a1_3) = true := beq_iff_eq.mpr c6
     have c6b1 : (a0_3 != a1_3) = false := bne_eq_false_iff_eq.mpr c6
     clear c6
     by_cases c7 : a0_4 = a1_4
     ·
      rw [if_pos c7] at H
      have c7b0 : (a0_4 == a1_4) = true := beq_iff_eq.mpr c7
      have c7b1 : (a0_4 != a1_4) = false := bne_eq_false_iff_eq.mpr c7
      clear c7
      replace H := Option.bind_eq_some_iff.mp H
      obtain ⟨t129, A80, H⟩ := H
      (try dsimp only at H)
      have A8 := am A80
      clear A80
      by_cases c9 : t129 = true
      ·
       subst c9
       have H1 : ((j07_SameInts.f k l0_6 l1_6).bind fun t130 => (some t130)) = some r := by rw [if_pos rfl] at H; exact H
       clear H
       have H := H1
       clear H1
       replace H := Option.bind_eq_some_iff.mp H
       obtain ⟨t130, A100, H⟩ := H
       (try dsimp only at H)
       have A10 := am A100
       clear A100
       obtain rfl := Option.some.inj H
       go_enter Try.func14, Try.ntmps14
       go_wp2_with (first | ((with_reducible refine gate_dst (N := 2) rfl ?_); refine box_event ?hg (N := 2) ?hd (cs := #[.int .i64 a0_0, .int .i64 a0_1, .int .i64 a0_2, .int .i64 a0_3, .int .i64 a0_4, .slice A0_5 l0_5.length c0_5, .slice A0_6 l0_6.length c0_6]) (t := 24) ?hr ?_; (case hd => rfl); (case hg => rfl); (case hr => first | (go_simp; done) | (go_simp; rfl)); intro gb127 hg w11 hbox hb; have BK127 := am (hbox); have GW127 := am ((by rw [hg]; exact (below_size (zb HB)) : w.heap.size ≤ gb127)); have GE127 := am ((by rw [hg]; exact (below_size (zb HB)) : w.heap.size ≤ gb127)); replace HB := am (below_step (zb HB) hb); clear hb hbox hg) | ((with_reducible refine gate_dst (N := 3) rfl ?_); refine box_event ?hg (N := 3) ?hd (cs := #[.int .i64 a1_0, .int .i64 a1_1, .int .i64 a1_2, .int .i64 a1_3, .int .i64 a1_4, .slice A1_5 l1_5.length c1_5, .slice A1_6 l1_6.length c1_6]) (t := 24) ?hr ?_; (case hd => rfl); (case hg => rfl); (case hr => first | (go_simp; done) | (go_simp; rfl)); intro gb128 hg w12 hbox hb; have BK128 := am (hbox); have GW128 := am ((by rw [hg]; exact (below_size (zb HB)) : w.heap.size ≤ gb128)); have GE128 := am ((by rw [hg]; exact (below_size (zb HB)) : w.heap.size ≤ gb128)); replace HB := am (below_step (zb HB) hb); have NB127_128 := am ((by rw [hg]; exact Nat.ne_of_lt (blk_lt (g := gb127) (o := .cells #[.int .i64 a0_0, .int .i64 a0_1, .int .i64 a0_2, .int .i64 a0_3, .int .i64 a0_4, .slice A0_5 l0_5.length c0_5, .slice A0_6 l0_6.length c0_6] 24 (0, 0)) (zu BK127.out)) : gb127 ≠ gb128)); have NB128_127 := am ((by rw [hg]; exact Nat.ne_of_gt (blk_lt (g := gb127) (o := .cells #[.int .i64 a0_0, .int .i64 a0_1, .int .i64 a0_2, .int .i64 a0_3, .int .i64 a0_4, .slice A0_5 l0_5.length c0_5, .slice A0_6 l0_6.length c0_6] 24 (0, 0)) (zu BK127.out)) : gb128 ≠ gb127)); replace BK127 := am (blk_below (g := gb127) (o := .cells #[.int .i64 a0_0, .int .i64 a0_1, .int .i64 a0_2, .int .i64 a0_3, .int .i64 a0_4, .slice A0_5 l0_5.length c0_5, .slice A0_6 l0_6.length c0_6] 24 (0, 0)) (zu BK127.out) hb); clear hb hbox hg; have hnb13 := NB127_128.out; have hnc13 := NB128_127.out; obtain ⟨hcz14_0, hcz14_1, hcz14_2, hcz14_3, hcz14_4, hcz14_5, hcz14_6⟩ := zc7 BK127; obtain ⟨hfz14_0, hfz14_1, hfz14_2, hfz14_3, hfz14_4, hfz14_5, hfz14_6⟩ := zf7 BK127; obtain ⟨hcz15_0, hcz15_1, hcz15_2, hcz15_3, hcz15_4, hcz15_5, hcz15_6⟩ := zc7 BK128; obtain ⟨hfz15_0, hfz15_1, hfz15_2, hfz15_3, hfz15_4, hfz15_5, hfz15_6⟩ := zf7 BK128) | (go_at_call 44; (with_reducible refine (j07_SameInts.calls k _ _ l0_5 _ _ l1_5 true _ ?side1 ?side2 ?side3 ?side4 A8.out).mono ?_); (case side1 => exact zC ((Kd.C_below HR0_5.out HB.out))); (case side2 => exact HC0_5.out); (case side3 => exact zC ((Kd.C_below HR1_5.out HB.out))); (case side4 => exact HC1_5.out); rintro e w' ⟨rfl, ⟨nd, rfl⟩⟩) | (go_at_call 44; (with_reducible refine (j07_SameInts.calls k _ _ l0_6 _ _ l1_6 t130 _ ?side1 ?side2 ?side3 ?side4 A10.out).mono ?_); (case side1 => exact zC ((Kd.C_below HR0_6.out (zb HB)))); (case side2 => exact HC0_6.out); (case side3 => exact zC ((Kd.C_below HR1_6.out (zb HB)))); (case side4 => exact HC1_6.out); rintro e w' ⟨rfl, ⟨nd, rfl⟩⟩))
       go_ret
       exact ⟨ze, zb HB⟩
      ·
       replace c9 := Bool.eq_false_iff.mpr c9
       subst c9
       have H1 : (none) = some r := by rw [if_neg (show ¬ (false = true) by decide)] at H; exact H
       clear H
       have H := H1
       clear H1
       exact absurd H (by simp)
     ·
      rw [if_neg c7] at H
      exact absurd H (by simp)
    ·
     rw [if_neg c6] at H
     exact absurd H (by simp)
   ·
    rw [if_neg c5] at H
    exact absurd H (by simp)
  ·
   rw [if_neg c4] at H
   exact absurd H (by simp)
 ·
  rw [if_neg c3] at H
  exact absurd H (by simp)
mutual
def l13_same.j0 : Nat → Bool → Int → Int → List (S26) → Int → Int → List (S26) → Option (Bool)
 | 0, _, _, _, _, _, _, _ => none
 | k + 1, x26, x662000, x662001, x662002, x663000, x663001, x663002 => if x26 = true then (none) else (l13_same.l0 k 0 x662000 x662001 x662002 x663000 x663001 x663002)
def l13_same.l0 : Nat → Int → Int → Int → List (S26) → Int → Int → List (S26) → Option (Bool)
 | 0, _, _, _, _, _, _, _ => none
 | k + 1, x5, x662000, x662001, x662002, x663000, x663001, x663002 => if x5 < (x662002.length : Int) then (if 0 ≤ x5 then (if x5 < (x663002.length : Int) then (if ((rd_T26 x662002 x5).f0) = ((rd_T26 x663002 x5).f0) then ((j09_SameEvent.f k ((rd_T26 x662002 x5).f1.f0) ((rd_T26 x662002 x5).f1.f1) ((rd_T26 x662002 x5).f1.f2) ((rd_T26 x662002 x5).f1.f3) ((rd_T26 x662002 x5).f1.f4) ((rd_T26 x662002 x5).f1.f5) ((rd_T26 x662002 x5).f1.f6) ((rd_T26 x663002 x5).f1.f0) ((rd_T26 x663002 x5).f1.f1) ((rd_T26 x663002 x5).f1.f2) ((rd_T26 x663002 x5).f1.f3) ((rd_T26 x663002 x5).f1.f4) ((rd_T26 x663002 x5).f1.f5) ((rd_T26 x663002 x5).f1.f6)).bind fun t667 => (if t667 = true then (l13_same.l0 k (wrap64 (x5 + 1)) x662000 x662001 x662002 x663000 x663001 x663002) else (none))) else (none)) else (none)) else (none)) else (some true)
end
def l13_same.f (k : Nat) (a0_0 : Int) (a0_1 : Int) (l0_2 : List (S26)) (a1_0 : Int) (a1_1 : Int) (l1_2 : List (S26)) : Option (Bool) := if a0_0 = a1_0 then (if a0_1 = a1_1 then (l13_same.j0 k ((l0_2.length : Int) != (l1_2.length : Int)) a0_0 a0_1 l0_2 a1_0 a1_1 l1_2) else (l13_same.j0 k true a0_0 a0_1 l0_2 a1_0 a1_1 l1_2)) else (l13_same.j0 k true a0_0 a0_1 l0_2 a1_0 a1_1 l1_2)
theorem l13_same.mono_l : ∀ k, (∀ y0 y1 y2 y3 y4 y5 y6, LeO (l13_same.j0 k y0 y1 y2 y3 y4 y5 y6) (l13_same.j0 (k + 1) y0 y1 y2 y3 y4 y5 y6)) ∧ (∀ y0 y1 y2 y3 y4 y5 y6, LeO (l13_same.l0 k y0 y1 y2 y3 y4 y5 y6) (l13_same.l0 (k + 1) y0 y1 y2 y3 y4 y5 y6))
 | 0 => ⟨fun _ _ _ _ _ _ _ r h => by simp [l13_same.j0] at h, fun _ _ _ _ _ _ _ r h => by simp [l13_same.l0] at h⟩
 | k + 1 => by
  obtain ⟨ih0, ih1⟩ := l13_same.mono_l k
  refine ⟨?_, ?_⟩
  ·
   intro y0 y1 y2 y3 y4 y5 y6
   unfold l13_same.j0
   repeat' first
   | (with_reducible exact ih0 _ _ _ _ _ _ _)
   | (with_reducible exact ih1 _ _ _ _ _ _ _)
   | (with_reducible exact j09_SameEvent.mono _ _ _ _ _ _ _ _ _ _ _ _ _ _ _)
   | (with_reducible exact LeO.refl _)
   | (with_reducible exact LeO.none _)
   | (with_reducible refine LeO.ite ?_ ?_)
   | (with_reducible refine LeO.bind ?_ (fun _ => ?_))
   | exact ih0 _ _ _ _ _ _ _
   | exact ih1 _ _ _ _ _ _ _
   | exact j09_SameEvent.mono _ _ _ _ _ _ _ _ _ _ _ _ _ _ _
   | exact LeO.none _
   | refine LeO.ite ?_ ?_
   | refine LeO.bind ?_ (fun _ => ?_)
  ·
   intro y0 y1 y2 y3 y4 y5 y6
   unfold l13_same.l0
   repeat' first
   | (with_reducible exact ih0 _ _ _ _ _ _ _)
   | (with_reducible exact ih1 _ _ _ _ _ _ _)
   | (with_reducible exact j09_SameEvent.mono _ _ _ _ _ _ _ _ _ _ _ _ _ _ _)
   | (with_reducible exact LeO.refl _)
   | (with_reducible exact LeO.none _)
   | (with_reducible refine LeO.ite ?_ ?_)
   | (with_reducible refine LeO.bind ?_ (fun _ => ?_))
   | exact ih0 _ _ _ _ _ _ _
   | exact ih1 _ _ _ _ _ _ _
   | exact j09_SameEvent.mono _ _ _ _ _ _ _ _ _ _ _ _ _ _ _
   | exact LeO.none _
   | refine LeO.ite ?_ ?_
   | refine LeO.bind ?_ (fun _ => ?_)
theorem l13_same.mono : ∀ a0 a1 a2 a3 a4 a5 k, LeO (l13_same.f k a0 a1 a2 a3 a4 a5) (l13_same.f (k + 1) a0 a1 a2 a3 a4 a5) := by
 intro a0 a1 a2 a3 a4 a5 k
 obtain ⟨ih0, ih1⟩ := l13_same.mono_l k
 unfold l13_same.f
 repeat' first
   | (with_reducible exact ih0 _ _ _ _ _ _ _)
   | (with_reducible exact ih1 _ _ _ _ _ _ _)
   | (with_reducible exact j09_SameEvent.mono _ _ _ _ _ _ _ _ _ _ _ _ _ _ _)
   | (with_reducible exact LeO.refl _)
   | (with_reducible exact LeO.none _)
   | (with_reducible refine LeO.ite ?_ ?_)
   | (with_reducible refine LeO.bind ?_ (fun _ => ?_))
   | exact ih0 _ _ _ _ _ _ _
   | exact ih1 _ _ _ _ _ _ _
   | exact j09_SameEvent.mono _ _ _ _ _ _ _ _ _ _ _ _ _ _ _
   | exact LeO.none _
   | refine LeO.ite ?_ ?_
   | refine LeO.bind ?_ (fun _ => ?_)
def l13_same.T6 : Bool × List (List Nat × List Nat) := (true, [([], []), ([0], [0]), ([], []), ([1, 2], [1, 2]), ([3], [3]), ([4], [4]), ([], []), ([6], [6]), ([], []), ([7, 8], [7, 8]), ([9], [9]), ([10], [10]), ([5, 11], [5, 11]), ([12], [12]), ([13], [13]), ([14, 13], [13, 14]), ([13], [13]), ([15, 16, 13], [13, 15, 16]), ([17, 13], [13, 17]), ([18, 13], [13, 18]), ([13], [13]), ([20, 13], [13, 20]), ([13], [13]), ([21, 22, 13], [13, 21, 22]), ([23, 13], [13, 23]), ([24, 13], [13, 24]), ([19, 25, 13, 13], [13, 19, 25]), ([26, 13], [13, 26]), ([13, 27], [13, 27])])
def l13_same.B6 : List Nat := [0, 1, 0, 7, 15, 31, 0, 64, 0, 448, 960, 1984, 4095, 8191, 16383, 32767, 16383, 131071, 262143, 524287, 16383, 1064959, 16383, 7356415, 15745023, 32522239, 67108863, 134217727, 268435455]
theorem l13_same.tab6 : rtab .any (opsOf Try.f31 6) = l13_same.T6 := by kernel_rfl
theorem l13_same.bits6 : waitsOk l13_same.T6.2 l13_same.B6 = true := by kernel_rfl
set_option maxHeartbeats 8000000 in
set_option maxRecDepth 100000 in
theorem l13_same.calls (k : Nat) (a0_0 : Int) (a0_1 : Int) (A0_2 : Option Addr) (c0_2 : Nat) (l0_2 : List (S26)) (a1_0 : Int) (a1_1 : Int) (A1_2 : Option Addr) (c1_2 : Nat) (l1_2 : List (S26)) (r : Bool) (w : World) (hr0_2 : Kd.C k26 w A0_2 l0_2.length l0_2) (hc0_2 : l0_2.length ≤ c0_2) (hr1_2 : Kd.C k26 w A1_2 l1_2.length l1_2) (hc1_2 : l1_2.length ≤ c1_2) (h : l13_same.f k a0_0 a0_1 l0_2 a1_0 a1_1 l1_2 = some r) :
  Calls Try.prog 31 #[.agg #[.int .i64 a0_0, .int .i64 a0_1, .slice A0_2 l0_2.length c0_2], .agg #[.int .i64 a1_0, .int .i64 a1_1, .slice A1_2 l1_2.length c1_2]] w fun e w' => e = .returned (.bool r) ∧ Below w.heap.size w w' := by
 have hu42 := Try.underlying42
 have hu24 := Try.underlying24
 have HR0_2 := am hr0_2
 have HC0_2 := am hc0_2
 clear hr0_2 hc0_2
 have HR1_2 := am hr1_2
 have HC1_2 := am hc1_2
 clear hr1_2 hc1_2
 have HB := am (Below.refl w.heap.size w)
 have H : (if a0_0 = a1_0 then (if a0_1 = a1_1 then (l13_same.j0 k ((l0_2.length : Int) != (l1_2.length : Int)) a0_0 a0_1 l0_2 a1_0 a1_1 l1_2) else (l13_same.j0 k true a0_0 a0_1 l0_2 a1_0 a1_1 l1_2)) else (l13_same.j0 k true a0_0 a0_1 l0_2 a1_0 a1_1 l1_2)) = some r := h
 clear h
 have HC3 := am H
 clear H
 go_enter Try.func31, Try.ntmps31
 go_upto_region 1 with (first | ((with_reducible refine gate_dst (N := 2) rfl ?_); (try (refine gate_guard (by rfl) ?_; dsimp only)); refine box_event ?hg (N := 2) ?hd (cs := #[.int .i64 a0_0, .int .i64 a0_1, .slice A0_2 l0_2.length c0_2]) (t := 42) ?hr ?_; (case hd => rfl); (case hg => rfl); (case hr => first | (go_simp; done) | (go_simp; rfl)); intro gb661 hg w4 hbox hb; have BK661 := am (hbox); have GW661 := am ((by rw [hg]; exact (below_size (zb HB)) : w.heap.size ≤ gb661)); have GE661 := am ((by rw [hg]; exact (below_size (zb HB)) : w.heap.size ≤ gb661)); replace HB := am (below_step (zb HB) hb); clear hb hbox hg) | ((with_reducible refine gate_dst (N := 3) rfl ?_); (try (refine gate_guard (by rfl) ?_; dsimp only)); refine box_event ?hg (N := 3) ?hd (cs := #[.int .i64 a1_0, .int .i64 a1_1, .slice A1_2 l1_2.length c1_2]) (t := 42) ?hr ?_; (case hd => rfl); (case hg => rfl); (case hr => first | (go_simp; done) | (go_simp; rfl)); intro gb662 hg w5 hbox hb; have BK662 := am (hbox); have GW662 := am ((by rw [hg]; exact (below_size (zb HB)) : w.heap.size ≤ gb662)); have GE662 := am ((by rw [hg]; exact (below_size (zb HB)) : w.heap.size ≤ gb662)); replace HB := am (below_step (zb HB) hb); have NB661_662 := am ((by rw [hg]; exact Nat.ne_of_lt (blk_lt (g := gb661) (o := .cells #[.int .i64 a0_0, .int .i64 a0_1, .slice A0_2 l0_2.length c0_2] 42 (0, 0)) (zu BK661.out)) : gb661 ≠ gb662)); have NB662_661 := am ((by rw [hg]; exact Nat.ne_of_gt (blk_lt (g := gb661) (o := .cells #[.int .i64 a0_0, .int .i64 a0_1, .slice A0_2 l0_2.length c0_2] 42 (0, 0)) (zu BK661.out)) : gb662 ≠ gb661)); replace BK661 := am (blk_below (g := gb661) (o := .cells #[.int .i64 a0_0, .int .i64 a0_1, .slice A0_2 l0_2.length c0_2] 42 (0, 0)) (zu BK661.out) hb); clear hb hbox hg))
 (try simp only [Act.put, List.setIfInBounds_toArray, List.set_cons_zero, List.set_cons_succ])
 go_cut [26] (fun v26 wc => ∃ (kq : Nat) (x26_2 : Bool), v26 = .bool x26_2 ∧ Aside0 (l13_same.j0 kq x26_2 a0_0 a0_1 l0_2 a1_0 a1_1 l1_2 = some r) ∧ Aside0 (kq ≤ k) ∧ Aside0 (wc.heap[gb661]? = some (.cells #[.int .i64 a0_0, .int .i64 a0_1, (.slice A0_2 l0_2.length c0_2)] 42 (0, 0))) ∧ Aside0 (wc.heap[gb662]? = some (.cells #[.int .i64 a1_0, .int .i64 a1_1, (.slice A1_2 l1_2.length c1_2)] 42 (0, 0))) ∧ Aside0 (Below w.heap.size w wc))
 case first =>
  have H := HC3.out
  clear HC3
  by_cases c6 : a0_0 = a1_0
  ·
   rw [if_pos c6] at H
   have c6b0 : (a0_0 == a1_0) = true := beq_iff_eq.mpr c6
   have c6b1 : (a0_0 != a1_0) = false := bne_eq_false_iff_eq.mpr c6
   clear c6
   (first | rw [c6b0] | (simp only [i64_w, i32_w]; rw [c6b0]) | skip)
   by_cases c7 : a0_1 = a1_1
   ·
    rw [if_pos c7] at H
    have c7b0 : (a0_1 == a1_1) = true := beq_iff_eq.mpr c7
    have c7b1 : (a0_1 != a1_1) = false := bne_eq_false_iff_eq.mpr c7
    clear c7
    have H' := am H
    clear H
    have hnb8 := NB661_662.out
    have hnc8 := NB662_661.out
    obtain ⟨hcz9_0, hcz9_1, hcz9_2⟩ := zc3 BK661
    obtain ⟨hfz9_0, hfz9_1, hfz9_2⟩ := zf3 BK661
    obtain ⟨hcz10_0, hcz10_1, hcz10_2⟩ := zc3 BK662
    obtain ⟨hfz10_0, hfz10_1, hfz10_2⟩ := zf3 BK662
    go_wp2
    go_meet
    case rel => exact ⟨_, (((l0_2.length : Int) != (l1_2.length : Int))), zr, H', ⟨by first | omega | exact Nat.le_refl _⟩, ⟨by refine zu ?_; exact BK661.out⟩, ⟨by refine zu ?_; exact BK662.out⟩, ⟨zb HB⟩⟩
   ·
    rw [if_neg c7] at H
    have c7b0 : (a0_1 == a1_1) = false := beq_eq_false_iff_ne.mpr c7
    have c7b1 : (a0_1 != a1_1) = true := bne_iff_ne.mpr c7
    have H' := am H
    clear H
    have hnb11 := NB661_662.out
    have hnc11 := NB662_661.out
    obtain ⟨hcz12_0, hcz12_1, hcz12_2⟩ := zc3 BK661
    obtain ⟨hfz12_0, hfz12_1, hfz12_2⟩ := zf3 BK661
    obtain ⟨hcz13_0, hcz13_1, hcz13_2⟩ := zc3 BK662
    obtain ⟨hfz13_0, hfz13_1, hfz13_2⟩ := zf3 BK662
    go_wp2
    go_meet
    case rel => exact ⟨_, (true), zr, H', ⟨by first | omega | exact Nat.le_refl _⟩, ⟨by refine zu ?_; exact BK661.out⟩, ⟨by refine zu ?_; exact BK662.out⟩, ⟨zb HB⟩⟩
  ·
   rw [if_neg c6] at H
   have c6b0 : (a0_0 == a1_0) = false := beq_eq_false_iff_ne.mpr c6
   have c6b1 : (a0_0 != a1_0) = true := bne_iff_ne.mpr c6
   (first | rw [c6b0] | (simp only [i64_w, i32_w]; rw [c6b0]) | skip)
   have H' := am H
   clear H
   have hnb14 := NB661_662.out
   have hnc14 := NB662_661.out
   obtain ⟨hcz15_0, hcz15_1, hcz15_2⟩ := zc3 BK661
   obtain ⟨hfz15_0, hfz15_1, hfz15_2⟩ := zf3 BK661
   obtain ⟨hcz16_0, hcz16_1, hcz16_2⟩ := zc3 BK662
   obtain ⟨hfz16_0, hfz16_1, hfz16_2⟩ := zf3 BK662
   go_wp2
   go_meet
   case rel => exact ⟨_, (true), zr, H', ⟨by first | omega | exact Nat.le_refl _⟩, ⟨by refine zu ?_; exact BK661.out⟩, ⟨by refine zu ?_; exact BK662.out⟩, ⟨zb HB⟩⟩
 case rest =>
  clear HC3
  obtain ⟨kq, x26_2, rfl, HA, HJ2, BK661, BK662, HB⟩ := hcut
  cases kq with
  | zero => exact absurd HA.out (by simp [l13_same.j0])
  | succ kj2 =>
   have H := HA.out
   clear HA
   simp only [l13_same.j0] at H
   by_cases c17 : x26_2 = true
   ·
    subst c17
    have H1 : (none) = some r := by rw [if_pos rfl] at H; exact H
    clear H
    have H := H1
    clear H1
    exact absurd H (by simp)
   ·
    replace c17 := Bool.eq_false_iff.mpr c17
    subst c17
    have H1 : (l13_same.l0 kj2 0 a0_0 a0_1 l0_2 a1_0 a1_1 l1_2) = some r := by rw [if_neg (show ¬ (false = true) by decide)] at H; exact H
    clear H
    have H := H1
    clear H1
    have H' := am H
    clear H
    go_wp2
    go_loopg [5] kj2 (fun kq v5 w' => ∃ (x5_2 : Int), v5 = .int .i64 x5_2 ∧ Aside0 (l13_same.l0 kq x5_2 a0_0 a0_1 l0_2 a1_0 a1_1 l1_2 = some r) ∧ Aside0 (kq ≤ kj2) ∧ Aside0 (w'.heap[gb661]? = some (.cells #[.int .i64 a0_0, .int .i64 a0_1, (.slice A0_2 l0_2.length c0_2)] 42 (0, 0))) ∧ Aside0 (w'.heap[gb662]? = some (.cells #[.int .i64 a1_0, .int .i64 a1_1, (.slice A1_2 l1_2.length c1_2)] 42 (0, 0))) ∧ Aside0 (Below w.heap.size w w'))
    case atStart => exact ⟨(0), zr, H', ⟨Nat.le_refl _⟩, ⟨by refine zu ?_; exact BK661.out⟩, ⟨by refine zu ?_; exact BK662.out⟩, ⟨zb HB⟩⟩
    case round =>
     clear H'
     obtain ⟨x5_2, rfl, HA, HK2, BK661, BK662, HB⟩ := hrel
     cases gk with
     | zero => exact absurd HA.out (by simp [l13_same.l0])
     | succ k2 =>
      have H := HA.out
      clear HA
      simp only [l13_same.l0] at H
      by_cases c18 : x5_2 < (l0_2.length : Int)
      ·
       rw [if_pos c18] at H
       have c18b0 : decide (x5_2 < (l0_2.length : Int)) = true := decide_eq_true c18
       clear c18
       by_cases c19 : 0 ≤ x5_2
       ·
        rw [if_pos c19] at H
        have c19b0 : decide (0 ≤ x5_2) = true := decide_eq_true c19
        clear c19
        by_cases c20 : x5_2 < (l1_2.length : Int)
        ·
         rw [if_pos c20] at H
         have c20b0 : decide (x5_2 < (l1_2.length : Int)) = true := decide_eq_true c20
         clear c20
         by_cases c21 : ((rd_T26 l0_2 x5_2).f0) = ((rd_T26 l1_2 x5_2).f0)
         ·
          rw [if_pos c21] at H
          have c21b0 : (((rd_T26 l0_2 x5_2).f0) == ((rd_T26 l1_2 x5_2).f0)) = true := beq_iff_eq.mpr c21
          have c21b1 : (((rd_T26 l0_2 x5_2).f0) != ((rd_T26 l1_2 x5_2).f0)) = false := bne_eq_false_iff_eq.mpr c21
          clear c21
          replace H := Option.bind_eq_some_iff.mp H
          obtain ⟨t667, A220, H⟩ := H
          (try dsimp only at H)
          have A22 := am A220
          clear A220
          by_cases c23 : t667 = true
          ·
           subst c23
           have H1 : (l13_same.l0 k2 (wrap64 (x5_2 + 1)) a0_0 a0_1 l0_2 a1_0 a1_1 l1_2) = some r := by rw [if_pos rfl] at H; exact H
           clear H
           have H := H1
           clear H1
           have H' := am H
           clear H
           have hnb24 := NB661_662.out
           have hnc24 := NB662_661.out
           obtain ⟨hcz25_0, hcz25_1, hcz25_2⟩ := zc3 BK661
           obtain ⟨hfz25_0, hfz25_1, hfz25_2⟩ := zf3 BK661
           try go_wp2
           replace BK661 := am (blk_drew BK661.out)
           replace BK662 := am (blk_drew BK662.out)
           replace HB := am (below_drew1 HB.out)
           have p663 : 0 ≤ (x5_2 : Int) := zo
           have q663 : x5_2 < (l0_2.length : Int) := zo
           obtain ⟨ad663, A663_6, c663_6, A663_7, c663_7, e663, hx663_0, hx663_1, hx663_2, hx663_3, hx663_4, hx663_5, hx663_6, hx663_7, hl663_6, hi663_6, hl663_7, hi663_7⟩ := at_T26 HR0_2.out x5_2 p663 q663
           have hw663_7 := hx663_7
           have hw663_6 := hx663_6
           have hw663_5 := hx663_5
           have hw663_4 := hx663_4
           have hw663_3 := hx663_3
           have hw663_2 := hx663_2
           have hw663_1 := hx663_1
           have hw663_0 := hx663_0
           cases e663
           replace hx663_0 := zx HB hx663_0
           replace hx663_1 := zx HB hx663_1
           replace hx663_2 := zx HB hx663_2
           replace hx663_3 := zx HB hx663_3
           replace hx663_4 := zx HB hx663_4
           replace hx663_5 := zx HB hx663_5
           replace hx663_6 := zx HB hx663_6
           replace hx663_7 := zx HB hx663_7
           have HR663_6 := am hi663_6
           have HC663_6 := am hl663_6
           clear hi663_6 hl663_6
           have HR663_7 := am hi663_7
           have HC663_7 := am hl663_7
           clear hi663_7 hl663_7
           replace p663 := eq_true p663
           replace q663 := eq_true q663
           have p664 : 0 ≤ (x5_2 : Int) := zo
           have q664 : x5_2 < (l1_2.length : Int) := zo
           obtain ⟨ad664, A664_6, c664_6, A664_7, c664_7, e664, hx664_0, hx664_1, hx664_2, hx664_3, hx664_4, hx664_5, hx664_6, hx664_7, hl664_6, hi664_6, hl664_7, hi664_7⟩ := at_T26 HR1_2.out x5_2 p664 q664
           have hw664_7 := hx664_7
           have hw664_6 := hx664_6
           have hw664_5 := hx664_5
           have hw664_4 := hx664_4
           have hw664_3 := hx664_3
           have hw664_2 := hx664_2
           have hw664_1 := hx664_1
           have hw664_0 := hx664_0
           cases e664
           replace hx664_0 := zx HB hx664_0
           replace hx664_1 := zx HB hx664_1
           replace hx664_2 := zx HB hx664_2
           replace hx664_3 := zx HB hx664_3
           replace hx664_4 := zx HB hx664_4
           replace hx664_5 := zx HB hx664_5
           replace hx664_6 := zx HB hx664_6
           replace hx664_7 := zx HB hx664_7
           have HR664_6 := am hi664_6
           have HC664_6 := am hl664_6
           clear hi664_6 hl664_6
           have HR664_7 := am hi664_7
           have HC664_7 := am hl664_7
           clear hi664_7 hl664_7
           replace p664 := eq_true p664
           replace q664 := eq_true q664
           have p665 : 0 ≤ (x5_2 : Int) := zo
           have q665 : x5_2 < (l0_2.length : Int) := zo
           obtain ⟨ad665, A665_6, c665_6, A665_7, c665_7, e665, hx665_0, hx665_1, hx665_2, hx665_3, hx665_4, hx665_5, hx665_6, hx665_7, hl665_6, hi665_6, hl665_7, hi665_7⟩ := at_T26 HR0_2.out x5_2 p665 q665
           have hw665_7 := hx665_7
           have hw665_6 := hx665_6
           have hw665_5 := hx665_5
           have hw665_4 := hx665_4
           have hw665_3 := hx665_3
           have hw665_2 := hx665_2
           have hw665_1 := hx665_1
           have hw665_0 := hx665_0
           obtain rfl : ad663 = ad665 := (by injection e665)
           replace hx665_0 := zx HB hx665_0
           replace hx665_1 := zx HB hx665_1
           replace hx665_2 := zx HB hx665_2
           replace hx665_3 := zx HB hx665_3
           replace hx665_4 := zx HB hx665_4
           replace hx665_5 := zx HB hx665_5
           replace hx665_6 := zx HB hx665_6
           replace hx665_7 := zx HB hx665_7
           have HR665_6 := am hi665_6
           have HC665_6 := am hl665_6
           clear hi665_6 hl665_6
           have HR665_7 := am hi665_7
           have HC665_7 := am hl665_7
           clear hi665_7 hl665_7
           replace p665 := eq_true p665
           replace q665 := eq_true q665
           have ea_ := Option.some.inj (hx663_6.symm.trans hx665_6)
           injection ea_ with ea_ en_ ec_
           subst ea_
           subst ec_
           clear en_
           have ea_ := Option.some.inj (hx663_7.symm.trans hx665_7)
           injection ea_ with ea_ en_ ec_
           subst ea_
           subst ec_
           clear en_
           have p666 : 0 ≤ (x5_2 : Int) := zo
           have q666 : x5_2 < (l1_2.length : Int) := zo
           obtain ⟨ad666, A666_6, c666_6, A666_7, c666_7, e666, hx666_0, hx666_1, hx666_2, hx666_3, hx666_4, hx666_5, hx666_6, hx666_7, hl666_6, hi666_6, hl666_7, hi666_7⟩ := at_T26 HR1_2.out x5_2 p666 q666
           have hw666_7 := hx666_7
           have hw666_6 := hx666_6
           have hw666_5 := hx666_5
           have hw666_4 := hx666_4
           have hw666_3 := hx666_3
           have hw666_2 := hx666_2
           have hw666_1 := hx666_1
           have hw666_0 := hx666_0
           obtain rfl : ad664 = ad666 := (by injection e666)
           replace hx666_0 := zx HB hx666_0
           replace hx666_1 := zx HB hx666_1
           replace hx666_2 := zx HB hx666_2
           replace hx666_3 := zx HB hx666_3
           replace hx666_4 := zx HB hx666_4
           replace hx666_5 := zx HB hx666_5
           replace hx666_6 := zx HB hx666_6
           replace hx666_7 := zx HB hx666_7
           have HR666_6 := am hi666_6
           have HC666_6 := am hl666_6
           clear hi666_6 hl666_6
           have HR666_7 := am hi666_7
           have HC666_7 := am hl666_7
           clear hi666_7 hl666_7
           replace p666 := eq_true p666
           replace q666 := eq_true q666
           have ea_ := Option.some.inj (hx664_6.symm.trans hx666_6)
           injection ea_ with ea_ en_ ec_
           subst ea_
           subst ec_
           clear en_
           have ea_ := Option.some.inj (hx664_7.symm.trans hx666_7)
           injection ea_ with ea_ en_ ec_
           subst ea_
           subst ec_
           clear en_
           refine start_ (n := 29) (S := fun w' => w'.cell? ⟨gb661, 0, none⟩ = some (.int .i64 a0_0) ∧ w'.cell? ⟨gb661, 1, none⟩ = some (.int .i64 a0_1) ∧ w'.cell? ⟨gb661, 2, none⟩ = some (.slice (some ad663) l0_2.length c0_2) ∧ w'.cell? ⟨gb662, 0, none⟩ = some (.int .i64 a1_0) ∧ w'.cell? ⟨gb662, 1, none⟩ = some (.int .i64 a1_1) ∧ w'.cell? ⟨gb662, 2, none⟩ = some (.slice (some ad664) l1_2.length c1_2) ∧ w'.cell? (ad663.add ((x5_2).toNat * 8)) = some (.int .i64 ((rd_T26 l0_2 x5_2).f0)) ∧ w'.cell? ⟨(ad663.add ((x5_2).toNat * 8)).block, (ad663.add ((x5_2).toNat * 8)).off + 1, none⟩ = some (.int .i64 ((rd_T26 l0_2 x5_2).f1.f0)) ∧ w'.cell? ⟨(ad663.add ((x5_2).toNat * 8)).block, (ad663.add ((x5_2).toNat * 8)).off + 2, none⟩ = some (.int .i64 ((rd_T26 l0_2 x5_2).f1.f1)) ∧ w'.cell? ⟨(ad663.add ((x5_2).toNat * 8)).block, (ad663.add ((x5_2).toNat * 8)).off + 3, none⟩ = some (.int .i64 ((rd_T26 l0_2 x5_2).f1.f2)) ∧ w'.cell? ⟨(ad663.add ((x5_2).toNat * 8)).block, (ad663.add ((x5_2).toNat * 8)).off + 4, none⟩ = some (.int .i64 ((rd_T26 l0_2 x5_2).f1.f3)) ∧ w'.cell? ⟨(ad663.add ((x5_2).toNat * 8)).block, (ad663.add ((x5_2).toNat * 8)).off + 5, none⟩ = some (.int .i64 ((rd_T26 l0_2 x5_2).f1.f4)) ∧ w'.cell? ⟨(ad663.add ((x5_2).toNat * 8)).block, (ad663.add ((x5_2).toNat * 8)).off + 6, none⟩ = some (.slice A663_6 ((rd_T26 l0_2 x5_2).f1.f5).length c663_6) ∧ w'.cell? ⟨(ad663.add ((x5_2).toNat * 8)).block, (ad663.add ((x5_2).toNat * 8)).off + 7, none⟩ = some (.slice A663_7 ((rd_T26 l0_2 x5_2).f1.f6).length c663_7) ∧ w'.cell? (ad664.add ((x5_2).toNat * 8)) = some (.int .i64 ((rd_T26 l1_2 x5_2).f0)) ∧ w'.cell? ⟨(ad664.add ((x5_2).toNat * 8)).block, (ad664.add ((x5_2).toNat * 8)).off + 1, none⟩ = some (.int .i64 ((rd_T26 l1_2 x5_2).f1.f0)) ∧ w'.cell? ⟨(ad664.add ((x5_2).toNat * 8)).block, (ad664.add ((x5_2).toNat * 8)).off + 2, none⟩ = some (.int .i64 ((rd_T26 l1_2 x5_2).f1.f1)) ∧ w'.cell? ⟨(ad664.add ((x5_2).toNat * 8)).block, (ad664.add ((x5_2).toNat * 8)).off + 3, none⟩ = some (.int .i64 ((rd_T26 l1_2 x5_2).f1.f2)) ∧ w'.cell? ⟨(ad664.add ((x5_2).toNat * 8)).block, (ad664.add ((x5_2).toNat * 8)).off + 4, none⟩ = some (.int .i64 ((rd_T26 l1_2 x5_2).f1.f3)) ∧ w'.cell? ⟨(ad664.add ((x5_2).toNat * 8)).block, (ad664.add ((x5_2).toNat * 8)).off + 5, none⟩ = some (.int .i64 ((rd_T26 l1_2 x5_2).f1.f4)) ∧ w'.cell? ⟨(ad664.add ((x5_2).toNat * 8)).block, (ad664.add ((x5_2).toNat * 8)).off + 6, none⟩ = some (.slice A664_6 ((rd_T26 l1_2 x5_2).f1.f5).length c664_6) ∧ w'.cell? ⟨(ad664.add ((x5_2).toNat * 8)).block, (ad664.add ((x5_2).toNat * 8)).off + 7, none⟩ = some (.slice A664_7 ((rd_T26 l1_2 x5_2).f1.f6).length c664_7) ∧ w'.cell? (ad663.add ((x5_2).toNat * 8)) = some (.int .i64 ((rd_T26 l0_2 x5_2).f0)) ∧ w'.cell? ⟨(ad663.add ((x5_2).toNat * 8)).block, (ad663.add ((x5_2).toNat * 8)).off + 1, none⟩ = some (.int .i64 ((rd_T26 l0_2 x5_2).f1.f0)) ∧ w'.cell? ⟨(ad663.add ((x5_2).toNat * 8)).block, (ad663.add ((x5_2).toNat * 8)).off + 2, none⟩ = some (.int .i64 ((rd_T26 l0_2 x5_2).f1.f1)) ∧ w'.cell? ⟨(ad663.add ((x5_2).toNat * 8)).block, (ad663.add ((x5_2).toNat * 8)).off + 3, none⟩ = some (.int .i64 ((rd_T26 l0_2 x5_2).f1.f2)) ∧ w'.cell? ⟨(ad663.add ((x5_2).toNat * 8)).block, (ad663.add ((x5_2).toNat * 8)).off + 4, none⟩ = some (.int .i64 ((rd_T26 l0_2 x5_2).f1.f3)) ∧ w'.cell? ⟨(ad663.add ((x5_2).toNat * 8)).block, (ad663.add ((x5_2).toNat * 8)).off + 5, none⟩ = some (.int .i64 ((rd_T26 l0_2 x5_2).f1.f4)) ∧ w'.cell? ⟨(ad663.add ((x5_2).toNat * 8)).block, (ad663.add ((x5_2).toNat * 8)).off + 6, none⟩ = some (.slice A663_6 ((rd_T26 l0_2 x5_2).f1.f5).length c663_6) ∧ w'.cell? ⟨(ad663.add ((x5_2).toNat * 8)).block, (ad663.add ((x5_2).toNat * 8)).off + 7, none⟩ = some (.slice A663_7 ((rd_T26 l0_2 x5_2).f1.f6).length c663_7) ∧ w'.cell? (ad664.add ((x5_2).toNat * 8)) = some (.int .i64 ((rd_T26 l1_2 x5_2).f0)) ∧ w'.cell? ⟨(ad664.add ((x5_2).toNat * 8)).block, (ad664.add ((x5_2).toNat * 8)).off + 1, none⟩ = some (.int .i64 ((rd_T26 l1_2 x5_2).f1.f0)) ∧ w'.cell? ⟨(ad664.add ((x5_2).toNat * 8)).block, (ad664.add ((x5_2).toNat * 8)).off + 2, none⟩ = some (.int .i64 ((rd_T26 l1_2 x5_2).f1.f1)) ∧ w'.cell? ⟨(ad664.add ((x5_2).toNat * 8)).block, (ad664.add ((x5_2).toNat * 8)).off + 3, none⟩ = some (.int .i64 ((rd_T26 l1_2 x5_2).f1.f2)) ∧ w'.cell? ⟨(ad664.add ((x5_2).toNat * 8)).block, (ad664.add ((x5_2).toNat * 8)).off + 4, none⟩ = some (.int .i64 ((rd_T26 l1_2 x5_2).f1.f3)) ∧ w'.cell? ⟨(ad664.add ((x5_2).toNat * 8)).block, (ad664.add ((x5_2).toNat * 8)).off + 5, none⟩ = some (.int .i64 ((rd_T26 l1_2 x5_2).f1.f4)) ∧ w'.cell? ⟨(ad664.add ((x5_2).toNat * 8)).block, (ad664.add ((x5_2).toNat * 8)).off + 6, none⟩ = some (.slice A664_6 ((rd_T26 l1_2 x5_2).f1.f5).length c664_6) ∧ w'.cell? ⟨(ad664.add ((x5_2).toNat * 8)).block, (ad664.add ((x5_2).toNat * 8)).off + 7, none⟩ = some (.slice A664_7 ((rd_T26 l1_2 x5_2).f1.f6).length c664_7)) (ds := []) #[false, false, false, false, false, false, false, false, false, false, false, false, false, false, false, false, false, false, false, false, false, false, false, false, false, false, false, false, false] (by kernel_rfl) rfl rfl ⟨(blk_cell BK661.out 0).trans rfl, (blk_cell BK661.out 1).trans rfl, (blk_cell BK661.out 2).trans rfl, (blk_cell BK662.out 0).trans rfl, (blk_cell BK662.out 1).trans rfl, (blk_cell BK662.out 2).trans rfl, (zx HB hw663_0), (zx HB hw663_1), (zx HB hw663_2), (zx HB hw663_3), (zx HB hw663_4), (zx HB hw663_5), (zx HB hw663_6), (zx HB hw663_7), (zx HB hw664_0), (zx HB hw664_1), (zx HB hw664_2), (zx HB hw664_3), (zx HB hw664_4), (zx HB hw664_5), (zx HB hw664_6), (zx HB hw664_7), (zx HB hw665_0), (zx HB hw665_1), (zx HB hw665_2), (zx HB hw665_3), (zx HB hw665_4), (zx HB hw665_5), (zx HB hw665_6), (zx HB hw665_7), (zx HB hw666_0), (zx HB hw666_1), (zx HB hw666_2), (zx HB hw666_3), (zx HB hw666_4), (zx HB hw666_5), (zx HB hw666_6), (zx HB hw666_7)⟩ (fun hHeld => ?_); refine with_tabW l13_same.tab6 l13_same.bits6 (fun HT_ HW_ => ?_)
           generalize wr.drew = w26 at BK661 BK662 HB HR663_6 HR663_7 HR664_6 HR664_7 HR665_6 HR665_7 HR666_6 HR666_7 hx663_0 hx663_1 hx663_2 hx663_3 hx663_4 hx663_5 hx663_6 hx663_7 hx664_0 hx664_1 hx664_2 hx664_3 hx664_4 hx664_5 hx664_6 hx664_7 hx665_0 hx665_1 hx665_2 hx665_3 hx665_4 hx665_5 hx665_6 hx665_7 hx666_0 hx666_1 hx666_2 hx666_3 hx666_4 hx666_5 hx666_6 hx666_7 hHeld ⊢
           refine zp (i := 0) (N := some 34) #[true, false, false, false, false, false, false, false, false, false, false, false, false, false, false, false, false, false, false, false, false, false, false, false, false, false, false, false, false] (any_of HT_.out (by kernel_rfl)) ?_
           refine zp (i := 2) (N := some 36) #[true, false, true, false, false, false, false, false, false, false, false, false, false, false, false, false, false, false, false, false, false, false, false, false, false, false, false, false, false] (any_of HT_.out (by kernel_rfl)) ?_
           refine zp (i := 6) (N := some 40) #[true, false, true, false, false, false, true, false, false, false, false, false, false, false, false, false, false, false, false, false, false, false, false, false, false, false, false, false, false] (any_of HT_.out (by kernel_rfl)) ?_
           refine zp (i := 8) (N := some 42) #[true, false, true, false, false, false, true, false, true, false, false, false, false, false, false, false, false, false, false, false, false, false, false, false, false, false, false, false, false] (any_of HT_.out (by kernel_rfl)) ?_
           refine take_ (i := 1) (N := some 35) (v := ?_) (a' := ?_) #[true, true, true, false, false, false, true, false, true, false, false, false, false, false, false, false, false, false, false, false, false, false, false, false, false, false, false, false, false] rfl rfl (take_ofW HT_.out HW_.out (by kernel_rfl)) (fun _ _ _ h => h) (Or.inl ⟨by rfl, ?_⟩) hHeld ?_ ?_
           rotate_left
           ·
            rintro w' ⟨s0, s1, s2, s3, s4, s5, s6, s7, s8, s9, s10, s11, s12, s13, s14, s15, s16, s17, s18, s19, s20, s21, s22, s23, s24, s25, s26, s27, s28, s29, s30, s31, s32, s33, s34, s35, s36, s37⟩
            go_simp
            with_reducible rfl
           rotate_left
           ·
            simp only [Act.put, List.setIfInBounds_toArray, List.set_cons_zero, List.set_cons_succ, i64_w, i32_w]
            rfl
           refine zp (i := 3) (N := some 37) #[true, true, true, true, false, false, true, false, true, false, false, false, false, false, false, false, false, false, false, false, false, false, false, false, false, false, false, false, false] (any_of HT_.out (by kernel_rfl)) ?_
           refine zp (i := 4) (N := some 38) #[true, true, true, true, true, false, true, false, true, false, false, false, false, false, false, false, false, false, false, false, false, false, false, false, false, false, false, false, false] (any_of HT_.out (by kernel_rfl)) ?_
           refine take_ (i := 5) (N := some 39) (v := ?_) (a' := ?_) #[true, true, true, true, true, true, true, false, true, false, false, false, false, false, false, false, false, false, false, false, false, false, false, false, false, false, false, false, false] rfl rfl (take_ofW HT_.out HW_.out (by kernel_rfl)) (fun _ _ _ h => h) (Or.inl ⟨by rfl, ?_⟩) hHeld ?_ ?_
           rotate_left
           ·
            rintro w' ⟨s0, s1, s2, s3, s4, s5, s6, s7, s8, s9, s10, s11, s12, s13, s14, s15, s16, s17, s18, s19, s20, s21, s22, s23, s24, s25, s26, s27, s28, s29, s30, s31, s32, s33, s34, s35, s36, s37⟩
            go_simp
            with_reducible rfl
           rotate_left
           ·
            simp only [Act.put, List.setIfInBounds_toArray, List.set_cons_zero, List.set_cons_succ, i64_w, i32_w]
            rfl
           refine take_ (i := 7) (N := some 41) (v := ?_) (a' := ?_) #[true, true, true, true, true, true, true, true, true, false, false, false, false, false, false, false, false, false, false, false, false, false, false, false, false, false, false, false, false] rfl rfl (take_ofW HT_.out HW_.out (by kernel_rfl)) (fun _ _ _ h => h) (Or.inl ⟨by rfl, ?_⟩) hHeld ?_ ?_
           rotate_left
           ·
            rintro w' ⟨s0, s1, s2, s3, s4, s5, s6, s7, s8, s9, s10, s11, s12, s13, s14, s15, s16, s17, s18, s19, s20, s21, s22, s23, s24, s25, s26, s27, s28, s29, s30, s31, s32, s33, s34, s35, s36, s37⟩
            go_simp
            with_reducible rfl
           rotate_left
           ·
            simp only [Act.put, List.setIfInBounds_toArray, List.set_cons_zero, List.set_cons_succ, i64_w, i32_w]
            rfl
           refine zp (i := 9) (N := some 43) #[true, true, true, true, true, true, true, true, true, true, false, false, false, false, false, false, false, false, false, false, false, false, false, false, false, false, false, false, false] (any_of HT_.out (by kernel_rfl)) ?_
           refine zp (i := 10) (N := some 44) #[true, true, true, true, true, true, true, true, true, true, true, false, false, false, false, false, false, false, false, false, false, false, false, false, false, false, false, false, false] (any_of HT_.out (by kernel_rfl)) ?_
           refine take_ (i := 11) (N := some 45) (v := ?_) (a' := ?_) #[true, true, true, true, true, true, true, true, true, true, true, true, false, false, false, false, false, false, false, false, false, false, false, false, false, false, false, false, false] rfl rfl (take_ofW HT_.out HW_.out (by kernel_rfl)) (fun _ _ _ h => h) (Or.inl ⟨by rfl, ?_⟩) hHeld ?_ ?_
           rotate_left
           ·
            rintro w' ⟨s0, s1, s2, s3, s4, s5, s6, s7, s8, s9, s10, s11, s12, s13, s14, s15, s16, s17, s18, s19, s20, s21, s22, s23, s24, s25, s26, s27, s28, s29, s30, s31, s32, s33, s34, s35, s36, s37⟩
            go_simp
            with_reducible rfl
           rotate_left
           ·
            simp only [Act.put, List.setIfInBounds_toArray, List.set_cons_zero, List.set_cons_succ, i64_w, i32_w]
            rfl
           refine zp (i := 12) (N := some 46) #[true, true, true, true, true, true, true, true, true, true, true, true, true, false, false, false, false, false, false, false, false, false, false, false, false, false, false, false, false] (any_of HT_.out (by kernel_rfl)) ?_
           refine zp (i := 13) (N := some 47) #[true, true, true, true, true, true, true, true, true, true, true, true, true, true, false, false, false, false, false, false, false, false, false, false, false, false, false, false, false] (any_of HT_.out (by kernel_rfl)) ?_
           refine zp (i := 14) (N := some 48) #[true, true, true, true, true, true, true, true, true, true, true, true, true, true, true, false, false, false, false, false, false, false, false, false, false, false, false, false, false] (any_of HT_.out (by kernel_rfl)) ?_
           refine zp (i := 16) (N := some 50) #[true, true, true, true, true, true, true, true, true, true, true, true, true, true, true, false, true, false, false, false, false, false, false, false, false, false, false, false, false] (any_of HT_.out (by kernel_rfl)) ?_
           refine zp (i := 20) (N := some 54) #[true, true, true, true, true, true, true, true, true, true, true, true, true, true, true, false, true, false, false, false, true, false, false, false, false, false, false, false, false] (any_of HT_.out (by kernel_rfl)) ?_
           refine zp (i := 22) (N := some 56) #[true, true, true, true, true, true, true, true, true, true, true, true, true, true, true, false, true, false, false, false, true, false, true, false, false, false, false, false, false] (any_of HT_.out (by kernel_rfl)) ?_
           refine take_ (i := 15) (N := some 49) (v := ?_) (a' := ?_) #[true, true, true, true, true, true, true, true, true, true, true, true, true, true, true, true, true, false, false, false, true, false, true, false, false, false, false, false, false] rfl rfl (take_ofW HT_.out HW_.out (by kernel_rfl)) (fun _ _ _ h => h) (Or.inl ⟨by rfl, ?_⟩) hHeld ?_ ?_
           rotate_left
           ·
            rintro w' ⟨s0, s1, s2, s3, s4, s5, s6, s7, s8, s9, s10, s11, s12, s13, s14, s15, s16, s17, s18, s19, s20, s21, s22, s23, s24, s25, s26, s27, s28, s29, s30, s31, s32, s33, s34, s35, s36, s37⟩
            go_simp
            with_reducible rfl
           rotate_left
           ·
            simp only [Act.put, List.setIfInBounds_toArray, List.set_cons_zero, List.set_cons_succ, i64_w, i32_w]
            rfl
           refine zp (i := 17) (N := some 51) #[true, true, true, true, true, true, true, true, true, true, true, true, true, true, true, true, true, true, false, false, true, false, true, false, false, false, false, false, false] (any_of HT_.out (by kernel_rfl)) ?_
           refine zp (i := 18) (N := some 52) #[true, true, true, true, true, true, true, true, true, true, true, true, true, true, true, true, true, true, true, false, true, false, true, false, false, false, false, false, false] (any_of HT_.out (by kernel_rfl)) ?_
           refine take_ (i := 19) (N := some 53) (v := ?_) (a' := ?_) #[true, true, true, true, true, true, true, true, true, true, true, true, true, true, true, true, true, true, true, true, true, false, true, false, false, false, false, false, false] rfl rfl (take_ofW HT_.out HW_.out (by kernel_rfl)) (fun _ _ _ h => h) (Or.inl ⟨by rfl, ?_⟩) hHeld ?_ ?_
           rotate_left
           ·
            rintro w' ⟨s0, s1, s2, s3, s4, s5, s6, s7, s8, s9, s10, s11, s12, s13, s14, s15, s16, s17, s18, s19, s20, s21, s22, s23, s24, s25, s26, s27, s28, s29, s30, s31, s32, s33, s34, s35, s36, s37⟩
            go_simp
            with_reducible rfl
           rotate_left
           ·
            simp only [Act.put, List.setIfInBounds_toArray, List.set_cons_zero, List.set_cons_succ, i64_w, i32_w]
            rfl
           refine take_ (i := 21) (N := some 55) (v := ?_) (a' := ?_) #[true, true, true, true, true, true, true, true, true, true, true, true, true, true, true, true, true, true, true, true, true, true, true, false, false, false, false, false, false] rfl rfl (take_ofW HT_.out HW_.out (by kernel_rfl)) (fun _ _ _ h => h) (Or.inl ⟨by rfl, ?_⟩) hHeld ?_ ?_
           rotate_left
           ·
            rintro w' ⟨s0, s1, s2, s3, s4, s5, s6, s7, s8, s9, s10, s11, s12, s13, s14, s15, s16, s17, s18, s19, s20, s21, s22, s23, s24, s25, s26, s27, s28, s29, s30, s31, s32, s33, s34, s35, s36, s37⟩
            go_simp
            with_reducible rfl
           rotate_left
           ·
            simp only [Act.put, List.setIfInBounds_toArray, List.set_cons_zero, List.set_cons_succ, i64_w, i32_w]
            rfl
           refine zp (i := 23) (N := some 57) #[true, true, true, true, true, true, true, true, true, true, true, true, true, true, true, true, true, true, true, true, true, true, true, true, false, false, false, false, false] (any_of HT_.out (by kernel_rfl)) ?_
           refine zp (i := 24) (N := some 58) #[true, true, true, true, true, true, true, true, true, true, true, true, true, true, true, true, true, true, true, true, true, true, true, true, true, false, false, false, false] (any_of HT_.out (by kernel_rfl)) ?_
           refine take_ (i := 25) (N := some 59) (v := ?_) (a' := ?_) #[true, true, true, true, true, true, true, true, true, true, true, true, true, true, true, true, true, true, true, true, true, true, true, true, true, true, false, false, false] rfl rfl (take_ofW HT_.out HW_.out (by kernel_rfl)) (fun _ _ _ h => h) (Or.inl ⟨by rfl, ?_⟩) hHeld ?_ ?_
           rotate_left
           ·
            rintro w' ⟨s0, s1, s2, s3, s4, s5, s6, s7, s8, s9, s10, s11, s12, s13, s14, s15, s16, s17, s18, s19, s20, s21, s22, s23, s24, s25, s26, s27, s28, s29, s30, s31, s32, s33, s34, s35, s36, s37⟩
            go_simp
            with_reducible rfl
           rotate_left
           ·
            simp only [Act.put, List.setIfInBounds_toArray, List.set_cons_zero, List.set_cons_succ, i64_w, i32_w]
            rfl
           refine one_ (i := 26) (N := some 60) #[true, true, true, true, true, true, true, true, true, true, true, true, true, true, true, true, true, true, true, true, true, true, true, true, true, true, true, false, false] rfl rfl (one_of HT_.out (by kernel_rfl)) (by decide) (fun K hK => ?_)
           refine goes_ Try.func14 (by kernel_rfl) rfl #[.agg #[.int .i64 ((rd_T26 l0_2 x5_2).f1.f0), .int .i64 ((rd_T26 l0_2 x5_2).f1.f1), .int .i64 ((rd_T26 l0_2 x5_2).f1.f2), .int .i64 ((rd_T26 l0_2 x5_2).f1.f3), .int .i64 ((rd_T26 l0_2 x5_2).f1.f4), .slice A663_6 ((rd_T26 l0_2 x5_2).f1.f5).length c663_6, .slice A663_7 ((rd_T26 l0_2 x5_2).f1.f6).length c663_7], .agg #[.int .i64 ((rd_T26 l1_2 x5_2).f1.f0), .int .i64 ((rd_T26 l1_2 x5_2).f1.f1), .int .i64 ((rd_T26 l1_2 x5_2).f1.f2), .int .i64 ((rd_T26 l1_2 x5_2).f1.f3), .int .i64 ((rd_T26 l1_2 x5_2).f1.f4), .slice A664_6 ((rd_T26 l1_2 x5_2).f1.f5).length c664_6, .slice A664_7 ((rd_T26 l1_2 x5_2).f1.f6).length c664_7]] (by rfl) rfl rfl zg ?_
           with_reducible refine (j09_SameEvent.calls k2 ((rd_T26 l0_2 x5_2).f1.f0) ((rd_T26 l0_2 x5_2).f1.f1) ((rd_T26 l0_2 x5_2).f1.f2) ((rd_T26 l0_2 x5_2).f1.f3) ((rd_T26 l0_2 x5_2).f1.f4) _ _ ((rd_T26 l0_2 x5_2).f1.f5) _ _ ((rd_T26 l0_2 x5_2).f1.f6) ((rd_T26 l1_2 x5_2).f1.f0) ((rd_T26 l1_2 x5_2).f1.f1) ((rd_T26 l1_2 x5_2).f1.f2) ((rd_T26 l1_2 x5_2).f1.f3) ((rd_T26 l1_2 x5_2).f1.f4) _ _ ((rd_T26 l1_2 x5_2).f1.f5) _ _ ((rd_T26 l1_2 x5_2).f1.f6) true _ ?side1 ?side2 ?side3 ?side4 ?side5 ?side6 ?side7 ?side8 A22.out).mono ?_
           (case side1 => exact zC ((Kd.C_below HR665_6.out HB.out)))
           (case side2 => exact HC665_6.out)
           (case side3 => exact zC ((Kd.C_below HR665_7.out HB.out)))
           (case side4 => exact HC665_7.out)
           (case side5 => exact zC ((Kd.C_below HR666_6.out HB.out)))
           (case side6 => exact HC666_6.out)
           (case side7 => exact zC ((Kd.C_below HR666_7.out HB.out)))
           (case side8 => exact HC666_7.out)
           rintro e w27 ⟨rfl, hb⟩
           refine ⟨_, rfl, ?_⟩
           replace BK661 := am (blk_below (g := gb661) (o := .cells #[.int .i64 a0_0, .int .i64 a0_1, .slice (some ad663) l0_2.length c0_2] 42 (0, 0)) (zu BK661.out) hb)
           replace BK662 := am (blk_below (g := gb662) (o := .cells #[.int .i64 a1_0, .int .i64 a1_1, .slice (some ad664) l1_2.length c1_2] 42 (0, 0)) (zu BK662.out) hb)
           replace HB := am (below_step (zb HB) hb)
           (try clear hb)
           (try clear hb2)
           (try clear hk)
           (try clear hi)
           refine hK.out _ _ ⟨(blk_cell BK661.out 0).trans rfl, (blk_cell BK661.out 1).trans rfl, (blk_cell BK661.out 2).trans rfl, (blk_cell BK662.out 0).trans rfl, (blk_cell BK662.out 1).trans rfl, (blk_cell BK662.out 2).trans rfl, (zx HB hw663_0), (zx HB hw663_1), (zx HB hw663_2), (zx HB hw663_3), (zx HB hw663_4), (zx HB hw663_5), (zx HB hw663_6), (zx HB hw663_7), (zx HB hw664_0), (zx HB hw664_1), (zx HB hw664_2), (zx HB hw664_3), (zx HB hw664_4), (zx HB hw664_5), (zx HB hw664_6), (zx HB hw664_7), (zx HB hw665_0), (zx HB hw665_1), (zx HB hw665_2), (zx HB hw665_3), (zx HB hw665_4), (zx HB hw665_5), (zx HB hw665_6), (zx HB hw665_7), (zx HB hw666_0), (zx HB hw666_1), (zx HB hw666_2), (zx HB hw666_3), (zx HB hw666_4), (zx HB hw666_5), (zx HB hw666_6), (zx HB hw666_7)⟩ (fun hHeld => ?_)
           clear hK K
           refine norm_ (a' := ?_) ?_ ?_
           rotate_left
           ·
            show Act.put _ (some 60) _ = _
            simp only [Act.put, List.setIfInBounds_toArray, List.set_cons_zero, List.set_cons_succ, i64_w, i32_w]
            rfl
           refine zp (i := 27) (N := some 61) #[true, true, true, true, true, true, true, true, true, true, true, true, true, true, true, true, true, true, true, true, true, true, true, true, true, true, true, true, false] (any_of HT_.out (by kernel_rfl)) ?_
           refine zp (i := 28) (N := some 62) #[true, true, true, true, true, true, true, true, true, true, true, true, true, true, true, true, true, true, true, true, true, true, true, true, true, true, true, true, true] (any_of HT_.out (by kernel_rfl)) ?_
           refine done_ (done_of HT_.out (by kernel_rfl)) ?_
           try go_wp2
           go_roundg k2
           case measure => have := HJ2.out; have := HK2.out; omega
           case rel => exact ⟨(wrap64 (x5_2 + 1)), zr, H', ⟨by have := HJ2.out; have := HK2.out; omega⟩, ⟨by refine zu ?_; exact BK661.out⟩, ⟨by refine zu ?_; exact BK662.out⟩, ⟨zb HB⟩⟩
          ·
           replace c23 := Bool.eq_false_iff.mpr c23
           subst c23
           have H1 : (none) = some r := by rw [if_neg (show ¬ (false = true) by decide)] at H; exact H
           clear H
           have H := H1
           clear H1
           exact absurd H (by simp)
         ·
          rw [if_neg c21] at H
          have c21b0 : (((rd_T26 l0_2 x5_2).f0) == ((rd_T26 l1_2 x5_2).f0)) = false := beq_eq_false_iff_ne.mpr c21
          have c21b1 : (((rd_T26 l0_2 x5_2).f0) != ((rd_T26 l1_2 x5_2).f0)) = true := bne_iff_ne.mpr c21
          exact absurd H (by simp)
        ·
         rw [if_neg c20] at H
         exact absurd H (by simp)
       ·
        rw [if_neg c19] at H
        exact absurd H (by simp)
      ·
       rw [if_neg c18] at H
       have c18b0 : decide (x5_2 < (l0_2.length : Int)) = false := decide_eq_false c18
       clear c18
       obtain rfl := Option.some.inj H
       have hnb28 := NB661_662.out
       have hnc28 := NB662_661.out
       obtain ⟨hcz29_0, hcz29_1, hcz29_2⟩ := zc3 BK661
       obtain ⟨hfz29_0, hfz29_1, hfz29_2⟩ := zf3 BK661
       go_wp2
       go_ret
       exact ⟨ze, zb HB⟩
def l13_BlockReads.f (k : Nat) (l0 : List Int) : Option (Bool) := if (l0.length : Int) > 3000 then (some true) else ((block_Decode.f k l0).bind fun bt668 => ((j11_Decode.f k l0).bind fun bt676 => ((l13_same.f k bt668.1 bt668.2.1 bt668.2.2.1 bt676.1 bt676.2.1 bt676.2.2.1).bind fun t684 => (if t684 = true then (if bt668.2.2.2.1 = bt676.2.2.2.1 then (if bt668.2.2.2.2 = bt676.2.2.2.2 then ((l13_awake.f k).bind fun t685 => (some t685)) else (none)) else (none)) else (none)))))
theorem l13_BlockReads.mono : ∀ a0 k, LeO (l13_BlockReads.f k a0) (l13_BlockReads.f (k + 1) a0) := by
 intro a0 k
 unfold l13_BlockReads.f
 repeat' first
   | (with_reducible exact block_Decode.mono _ _)
   | (with_reducible exact l13_awake.mono _)
   | (with_reducible exact l13_same.mono _ _ _ _ _ _ _)
   | (with_reducible exact j11_Decode.mono _ _)
   | (with_reducible exact LeO.refl _)
   | (with_reducible exact LeO.none _)
   | (with_reducible refine LeO.ite ?_ ?_)
   | (with_reducible refine LeO.bind ?_ (fun _ => ?_))
   | exact block_Decode.mono _ _
   | exact l13_awake.mono _
   | exact l13_same.mono _ _ _ _ _ _ _
   | exact j11_Decode.mono _ _
   | exact LeO.none _
   | refine LeO.ite ?_ ?_
   | refine LeO.bind ?_ (fun _ => ?_)
set_option maxHeartbeats 8000000 in
set_option maxRecDepth 100000 in
theorem l13_BlockReads.calls (k : Nat) (A0 : Option Addr) (c0 : Nat) (l0 : List Int) (r : Bool) (w : World) (hr0 : Kd.C (Kd.int .u8) w A0 l0.length l0) (hc0 : l0.length ≤ c0) (h : l13_BlockReads.f k l0 = some r) :
  Calls Try.prog 8 #[.slice A0 l0.length c0] w fun e w' => e = .returned (.bool r) ∧ Below w.heap.size w w' := by
 have hu42 := Try.underlying42
 have HR0 := am hr0
 have HC0 := am hc0
 clear hr0 hc0
 have HB := am (Below.refl w.heap.size w)
 have H : (if (l0.length : Int) > 3000 then (some true) else ((block_Decode.f k l0).bind fun bt668 => ((j11_Decode.f k l0).bind fun bt676 => ((l13_same.f k bt668.1 bt668.2.1 bt668.2.2.1 bt676.1 bt676.2.1 bt676.2.2.1).bind fun t684 => (if t684 = true then (if bt668.2.2.2.1 = bt676.2.2.2.1 then (if bt668.2.2.2.2 = bt676.2.2.2.2 then ((l13_awake.f k).bind fun t685 => (some t685)) else (none)) else (none)) else (none)))))) = some r := h
 clear h
 by_cases c2 : (l0.length : Int) > 3000
 ·
  rw [if_pos c2] at H
  have c2b0 : decide (3000 < (l0.length : Int)) = true := decide_eq_true c2
  have c2b1 : decide (3000 < l0.length) = true := decide_eq_true (by omega)
  clear c2
  obtain rfl := Option.some.inj H
  go_enter Try.func8, Try.ntmps8
  go_wp2
  go_ret
  exact ⟨ze, zb HB⟩
 ·
  rw [if_neg c2] at H
  have c2b0 : decide (3000 < (l0.length : Int)) = false := decide_eq_false c2
  have c2b1 : decide (3000 < l0.length) = false := decide_eq_false (by omega)
  clear c2
  replace H := Option.bind_eq_some_iff.mp H
  obtain ⟨⟨t668, t669, t670, t673, t674⟩, A30, H⟩ := H
  (try dsimp only at H)
  have A3 := am A30
  clear A30
  replace H := Option.bind_eq_some_iff.mp H
  obtain ⟨⟨t676, t677, t678, t681, t682⟩, A40, H⟩ := H
  (try dsimp only at H)
  have A4 := am A40
  clear A40
  replace H := Option.bind_eq_some_iff.mp H
  obtain ⟨t684, A50, H⟩ := H
  (try dsimp only at H)
  have A5 := am A50
  clear A50
  by_cases c6 : t684 = true
  ·
   subst c6
   have H1 : (if t673 = t681 then (if t674 = t682 then ((l13_awake.f k).bind fun t685 => (some t685)) else (none)) else (none)) = some r := by rw [if_pos rfl] at H; exact H
   clear H
   have H := H1
   clear H1
   by_cases c7 : t673 = t681
   ·
    rw [if_pos c7] at H
    have c7b0 : (t673 == t681) = true := beq_iff_eq.mpr c7
    have c7b1 : (t673 != t681) = false := bne_eq_false_iff_eq.mpr c7
    clear c7
    by_cases c8 : t674 = t682
    ·
     rw [if_pos c8] at H
     have c8b0 : (t674 == t682) = true := beq_iff_eq.mpr c8
     have c8b1 : (t674 != t682) = false := bne_eq_false_iff_eq.mpr c8
     clear c8
     replace H := Option.bind_eq_some_iff.mp H
     obtain ⟨t685, A90, H⟩ := H
     (try dsimp only at H)
     have A9 := am A90
     clear A90
     obtain rfl := Option.some.inj H
     go_enter Try.func8, Try.ntmps8
     go_wp2_with (first | ((with_reducible refine gate_callee (f := 29) rfl ?_); refine goesL_ (some 14) rfl rfl Try.func29 (by kernel_rfl) rfl #[.slice A0 l0.length c0] rfl zg ?_; (with_reducible refine (block_Decode.calls k _ _ l0 t668 t669 t670 t673 t674 _ ?side1 ?side2 A3.out).mono ?_); (case side1 => exact zC (HR0.out)); (case side2 => exact HC0.out); rintro e w10 ⟨v671, rfl, ho0, hb⟩; refine ⟨_, rfl, ?_⟩; have HO672 := am (Kd.S_lower ho0 (below_size (zb HB))); replace HB := am (below_step (zb HB) hb); (try clear hb); (try clear hb2); (try clear hk); (try clear hi); (try clear ho0)) | ((with_reducible refine gate_dst (N := 3) rfl ?_); refine box_event ?hg (N := 3) ?hd (cs := #[.int .i64 0, .int .i64 0, .slice none 0 0]) (t := 42) ?hr ?_; (case hd => rfl); (case hg => rfl); (case hr => first | (go_simp; done) | (go_simp; rfl)); intro gb675 hg w11 hbox hb; replace HO672 := am (Kd.S_below (zS HO672.out) hb); have BK675 := am (hbox); have GW675 := am ((by rw [hg]; exact (below_size (zb HB)) : w.heap.size ≤ gb675)); have GE675 := am ((by rw [hg]; exact (below_size (zb HB)) : w.heap.size ≤ gb675)); replace HB := am (below_step (zb HB) hb); clear hb hbox hg; obtain ⟨hcz12_0, hcz12_1, hcz12_2⟩ := zc3 BK675; obtain ⟨hfz12_0, hfz12_1, hfz12_2⟩ := zf3 BK675; obtain ⟨Ao13, co13, eo13⟩ := Kd.S_slice HO672.out; subst eo13) | ((with_reducible refine gate_callee (f := 30) rfl ?_); refine goesL_ (some 20) rfl rfl Try.func30 (by kernel_rfl) rfl #[.slice A0 l0.length c0] rfl zg ?_; (with_reducible refine (j11_Decode.calls k _ _ l0 t676 t677 t678 t681 t682 _ ?side1 ?side2 A4.out).mono ?_); (case side1 => exact Kd.C_below HR0.out (zb HB)); (case side2 => exact HC0.out); rintro e w14 ⟨v679, rfl, ho0, hb⟩; refine ⟨_, rfl, ?_⟩; have HO680 := am (Kd.S_lower (Kd.S_new' ho0 (Kd.S_lt (by (with_reducible repeat (first | apply Kd.S_alloc | apply Kd.S_drewN | apply Kd.S_drew)); exact (Kd.S_mono (Kd.S_far (p := ⟨gb675, 2, none⟩) (Kd.S_far (p := ⟨gb675, 1, none⟩) (Kd.S_far (p := ⟨gb675, 0, none⟩) (Kd.S_types HO672.out BK675.out (by decide)) (fun _ hk => hk.2) (.int .i64 t668)) (fun _ hk => hk.2) (.int .i64 t669)) (fun _ hk => hk.2) (.slice Ao13 t670.length co13)) (fun _ h_ => h_.1))))) (below_size (zb HB))); replace HO672 := am (Kd.S_elder' (by (with_reducible repeat (first | apply Kd.S_alloc | apply Kd.S_drewN | apply Kd.S_drew)); exact (Kd.S_mono (Kd.S_far (p := ⟨gb675, 2, none⟩) (Kd.S_far (p := ⟨gb675, 1, none⟩) (Kd.S_far (p := ⟨gb675, 0, none⟩) (Kd.S_types HO672.out BK675.out (by decide)) (fun _ hk => hk.2) (.int .i64 t668)) (fun _ hk => hk.2) (.int .i64 t669)) (fun _ hk => hk.2) (.slice Ao13 t670.length co13)) (fun _ h_ => h_.1))) (Kd.S_base ho0) hb); replace BK675 := am (blk_below (g := gb675) (o := .cells #[.int .i64 t668, .int .i64 t669, .slice Ao13 t670.length co13] 42 (0, 0)) (by refine zu ?_; refine blk_put (cs := #[.int .i64 t668, .int .i64 t669, .slice none 0 0]) ?_ 2 _ rfl; refine zu ?_; refine blk_put (cs := #[.int .i64 t668, .int .i64 0, .slice none 0 0]) ?_ 1 _ rfl; refine zu ?_; refine blk_put (cs := #[.int .i64 0, .int .i64 0, .slice none 0 0]) ?_ 0 _ rfl; refine zu ?_; exact BK675.out) hb); replace HB := am (below_step (zb HB) hb); (try clear hb); (try clear hb2); (try clear hk); (try clear hi); (try clear ho0)) | ((with_reducible refine gate_dst (N := 6) rfl ?_); refine box_event ?hg (N := 6) ?hd (cs := #[.int .i64 0, .int .i64 0, .slice none 0 0]) (t := 42) ?hr ?_; (case hd => rfl); (case hg => rfl); (case hr => first | (go_simp; done) | (go_simp; rfl)); intro gb683 hg w15 hbox hb; replace HO672 := am (Kd.S_below (zS HO672.out) hb); replace HO680 := am (Kd.S_below (zS HO680.out) hb); have BK683 := am (hbox); have GW683 := am ((by rw [hg]; exact (below_size (zb HB)) : w.heap.size ≤ gb683)); have GE683 := am ((by rw [hg]; exact (below_size (zb HB)) : w.heap.size ≤ gb683)); replace HB := am (below_step (zb HB) hb); have NB675_683 := am ((by rw [hg]; exact Nat.ne_of_lt (blk_lt (g := gb675) (o := .cells #[.int .i64 t668, .int .i64 t669, .slice Ao13 t670.length co13] 42 (0, 0)) (zu BK675.out)) : gb675 ≠ gb683)); have NB683_675 := am ((by rw [hg]; exact Nat.ne_of_gt (blk_lt (g := gb675) (o := .cells #[.int .i64 t668, .int .i64 t669, .slice Ao13 t670.length co13] 42 (0, 0)) (zu BK675.out)) : gb683 ≠ gb675)); replace BK675 := am (blk_below (g := gb675) (o := .cells #[.int .i64 t668, .int .i64 t669, .slice Ao13 t670.length co13] 42 (0, 0)) (zu BK675.out) hb); clear hb hbox hg; have hnb16 := NB683_675.out; have hnc16 := NB675_683.out; obtain ⟨hcz17_0, hcz17_1, hcz17_2⟩ := zc3 BK683; obtain ⟨hfz17_0, hfz17_1, hfz17_2⟩ := zf3 BK683; obtain ⟨Ao18, co18, eo18⟩ := Kd.S_slice HO680.out; subst eo18; obtain ⟨hcz19_0, hcz19_1, hcz19_2⟩ := zc3 BK675; obtain ⟨hfz19_0, hfz19_1, hfz19_2⟩ := zf3 BK675) | ((with_reducible refine gate_callee (f := 31) rfl ?_); refine goesL_ (some 26) rfl rfl Try.func31 (by kernel_rfl) rfl #[.agg #[.int .i64 t668, .int .i64 t669, .slice Ao13 t670.length co13], .agg #[.int .i64 t676, .int .i64 t677, .slice Ao18 t678.length co18]] rfl zg ?_; (with_reducible refine (l13_same.calls k t668 t669 _ _ t670 t676 t677 _ _ t678 true _ ?side1 ?side2 ?side3 ?side4 A5.out).mono ?_); (case side1 => refine (Kd.S_reads' (e := 26) (base := w.heap.size) (ok := fun k_ => (True ∧ some k_ ≠ (.slice Ao18 t678.length co18 : Value).ownBlock)) (n := t670.length) (c := co13) ?_).2.2; exact (by (with_reducible repeat (first | apply Kd.S_alloc | apply Kd.S_drewN | apply Kd.S_drew)); exact (Kd.S_mono (Kd.S_far (p := ⟨gb683, 2, none⟩) (Kd.S_far (p := ⟨gb683, 1, none⟩) (Kd.S_far (p := ⟨gb683, 0, none⟩) (Kd.S_types HO672.out BK683.out (by decide)) (fun _ hk => hk.2) (.int .i64 t676)) (fun _ hk => hk.2) (.int .i64 t677)) (fun _ hk => hk.2) (.slice Ao18 t678.length co18)) (fun _ h_ => h_.1)))); (case side2 => exact (Kd.S_reads' HO672.out).2.1); (case side3 => refine (Kd.S_reads' (e := 26) (base := w.heap.size) (ok := fun k_ => (True ∧ some k_ ≠ (.slice Ao13 t670.length co13 : Value).ownBlock)) (n := t678.length) (c := co18) ?_).2.2; exact (by (with_reducible repeat (first | apply Kd.S_alloc | apply Kd.S_drewN | apply Kd.S_drew)); exact (Kd.S_mono (Kd.S_far (p := ⟨gb683, 2, none⟩) (Kd.S_far (p := ⟨gb683, 1, none⟩) (Kd.S_far (p := ⟨gb683, 0, none⟩) (Kd.S_types HO680.out BK683.out (by decide)) (fun _ hk => hk.2) (.int .i64 t676)) (fun _ hk => hk.2) (.int .i64 t677)) (fun _ hk => hk.2) (.slice Ao18 t678.length co18)) (fun _ h_ => h_.1)))); (case side4 => exact (Kd.S_reads' HO680.out).2.1); rintro e w20 ⟨rfl, hb⟩; refine ⟨_, rfl, ?_⟩; replace HO672 := am (Kd.S_below (by (with_reducible repeat (first | apply Kd.S_alloc | apply Kd.S_drewN | apply Kd.S_drew)); exact (Kd.S_mono (Kd.S_far (p := ⟨gb683, 2, none⟩) (Kd.S_far (p := ⟨gb683, 1, none⟩) (Kd.S_far (p := ⟨gb683, 0, none⟩) (Kd.S_types HO672.out BK683.out (by decide)) (fun _ hk => hk.2) (.int .i64 t676)) (fun _ hk => hk.2) (.int .i64 t677)) (fun _ hk => hk.2) (.slice Ao18 t678.length co18)) (fun _ h_ => h_.1))) hb); replace HO680 := am (Kd.S_below (by (with_reducible repeat (first | apply Kd.S_alloc | apply Kd.S_drewN | apply Kd.S_drew)); exact (Kd.S_mono (Kd.S_far (p := ⟨gb683, 2, none⟩) (Kd.S_far (p := ⟨gb683, 1, none⟩) (Kd.S_far (p := ⟨gb683, 0, none⟩) (Kd.S_types HO680.out BK683.out (by decide)) (fun _ hk => hk.2) (.int .i64 t676)) (fun _ hk => hk.2) (.int .i64 t677)) (fun _ hk => hk.2) (.slice Ao18 t678.length co18)) (fun _ h_ => h_.1))) hb); replace BK675 := am (blk_below (g := gb675) (o := .cells #[.int .i64 t668, .int .i64 t669, .slice Ao13 t670.length co13] 42 (0, 0)) (by refine zu ?_; refine blk_far ?_ NB675_683.out _; refine zu ?_; refine blk_far ?_ NB675_683.out _; refine zu ?_; refine blk_far ?_ NB675_683.out _; refine zu ?_; exact BK675.out) hb); replace BK683 := am (blk_below (g := gb683) (o := .cells #[.int .i64 t676, .int .i64 t677, .slice Ao18 t678.length co18] 42 (0, 0)) (by refine zu ?_; refine blk_put (cs := #[.int .i64 t676, .int .i64 t677, .slice none 0 0]) ?_ 2 _ rfl; refine zu ?_; refine blk_put (cs := #[.int .i64 t676, .int .i64 0, .slice none 0 0]) ?_ 1 _ rfl; refine zu ?_; refine blk_put (cs := #[.int .i64 0, .int .i64 0, .slice none 0 0]) ?_ 0 _ rfl; refine zu ?_; exact BK683.out) hb); replace HB := am (below_step (zb HB) hb); (try clear hb); (try clear hb2); (try clear hk); (try clear hi)) | (go_at_call 23; (with_reducible refine (l13_awake.calls k  t685 _ A9.out).mono ?_); rintro e w21 ⟨rfl, hb⟩; replace HO672 := am (Kd.S_below (zS HO672.out) hb); replace HO680 := am (Kd.S_below (zS HO680.out) hb); replace BK675 := am (blk_below (g := gb675) (o := .cells #[.int .i64 t668, .int .i64 t669, .slice Ao13 t670.length co13] 42 (0, 0)) (zu BK675.out) hb); replace BK683 := am (blk_below (g := gb683) (o := .cells #[.int .i64 t676, .int .i64 t677, .slice Ao18 t678.length co18] 42 (0, 0)) (zu BK683.out) hb); replace HB := am (below_step (zb HB) hb); (try clear hb); (try clear hb2); (try clear hk); (try clear hi)))
     go_ret
     exact ⟨ze, zb HB⟩
    ·
     rw [if_neg c8] at H
     exact absurd H (by simp)
   ·
    rw [if_neg c7] at H
    exact absurd H (by simp)
  ·
   replace c6 := Bool.eq_false_iff.mpr c6
   subst c6
   have H1 : (none) = some r := by rw [if_neg (show ¬ (false = true) by decide)] at H; exact H
   clear H
   have H := H1
   clear H1
   exact absurd H (by simp)
def l13_BlockReads.Pure : Prop := ∀ (l0 : List Int), l0.length ≤ maxLen → l0.length * 1 ≤ 140737488351232 → (∀ x ∈ l0, (Lit.int .u8 x).wf = true) → ∃ k, l13_BlockReads.f k l0 = some true
theorem l13_BlockReads.walk (P : l13_BlockReads.Pure) (a0 : Option Addr) (len0 cap0 : Nat) (z0 : List Int) (w : World) (w0 : (a0 = none ∧ len0 = 0 ∧ cap0 = 0 ∧ z0 = []) ∨ ∃ x, a0 = some x ∧ len0 ≤ cap0 ∧ cap0 ≤ maxLen ∧ z0.length = cap0 ∧ (∀ i, i < z0.length → w.cell? (x.add i) = some (.int .u8 (z0.getD i 0))) ∧ ∀ n ∈ z0, (Lit.int .u8 n).wf = true) (y0 : len0 * 1 ≤ 140737488351232) :
  Calls Try.prog 8 #[.slice a0 len0 cap0] w fun e w' => e = .returned (.bool true) ∧ Below w.heap.size w w' := by
 obtain ⟨l0, rfl, hr0, hm0, hw0, hc0⟩ := ReadsInt.ofRowC w0
 obtain ⟨k, h⟩ := P l0 hm0 y0 hw0
 refine (l13_BlockReads.calls k _ _ l0 true w (Kd.C_of_reads (d := (0 : Int)) (h1 := fun _ => rfl) hr0) hc0 h).mono ?_
 rintro e w' ⟨rfl, hd⟩
 exact ⟨rfl, hd⟩
end Go.Proofs.Ytnmmkgagbfniiaa.A
end
section
namespace Go.Proofs.Ytnmmkgagbfniiaa.Pl
open Go.RowKit Go.Proofs.YtnmmkgagbfniiaaW.PrintWords Go.Proofs.YtnmmkgagbfniiaaW.PrintMore
theorem wrap64_id {x : Int} (h0 : -9223372036854775808 ≤ x) (h1 : x < 9223372036854775808) : wrap64 x = x := by unfold wrap64; omega
theorem u64_wrap (x : Int) : IntKind.u64.wrap x = x % 18446744073709551616 := IntKind.wrap_u64 x
theorem u8_bounds {a : Int} (h : (Lit.int .u8 a).wf = true) : 0 ≤ a ∧ a < 256 := by
 simp [Lit.wf, IntKind.min, IntKind.max, IntKind.signed, IntKind.bits] at h
 omega
theorem nat_xor_ones (x : Nat) (h : x < 18446744073709551616) : x ^^^ 18446744073709551615 = 18446744073709551615 - x := by
 have h1 := congrArg BitVec.toNat (BitVec.xor_allOnes (x := BitVec.ofNat 64 x))
 rw [BitVec.toNat_xor, BitVec.toNat_not, BitVec.toNat_allOnes, BitVec.toNat_ofNat, Nat.mod_eq_of_lt (by omega)] at h1
 simpa using h1
theorem u64_not (x : Int) (h0 : 0 ≤ x) (h1 : x < 18446744073709551616) : bits .xor .u64 18446744073709551615 x = 18446744073709551615 - x := by
 rw [u64_xor _ _ (by omega) (by omega) h0 h1, Nat.xor_comm]
 have := nat_xor_ones x.toNat (by omega)
 simp only [Int.reduceToNat]
 omega
theorem u64_xor_zero (x : Int) (h0 : 0 ≤ x) (h1 : x < 18446744073709551616) : bits .xor .u64 x 0 = x := by
 rw [u64_xor _ _ h0 h1 (by omega) (by omega)]
 simp
 omega
def zz (a : Int) : Int := if 0 ≤ a then 2 * a else -2 * a - 1
theorem zz_range {a : Int} (h0 : -9223372036854775808 ≤ a) (h1 : a < 9223372036854775808) : 0 ≤ zz a ∧ zz a < 18446744073709551616 := by unfold zz; split <;> omega
theorem zz_impl {a : Int} (h0 : -9223372036854775808 ≤ a) (h1 : a < 9223372036854775808) :
  bits .xor .u64 (IntKind.u64.wrap ((IntKind.u64.wrap a) * 2)) (IntKind.u64.wrap (a / 9223372036854775808)) = zz a := by
 simp only [u64_wrap]
 by_cases h : 0 ≤ a
 ·
  rw [show a / 9223372036854775808 = 0 by omega, show (0 : Int) % 18446744073709551616 = 0 by omega, u64_xor_zero _ (by omega) (by omega)]
  unfold zz
  rw [if_pos h]
  omega
 ·
  rw [show a / 9223372036854775808 = -1 by omega, show (-1 : Int) % 18446744073709551616 = 18446744073709551615 by omega]
  rw [u64_xor _ _ (by omega) (by omega) (by omega) (by omega)]
  have := nat_xor_ones (a % 18446744073709551616 * 2 % 18446744073709551616).toNat (by omega)
  simp only [Int.reduceToNat]
  rw [this]
  unfold zz
  rw [if_neg h]
  omega
theorem zz_ref_neg {a : Int} (h0 : -9223372036854775808 ≤ a) (h : a < 0) : bits .xor .u64 18446744073709551615 (IntKind.u64.wrap ((IntKind.u64.wrap a) * 2)) = zz a := by
 simp only [u64_wrap]
 rw [u64_not _ (by omega) (by omega)]
 unfold zz
 rw [if_neg (by omega)]
 omega
theorem zz_ref_pos {a : Int} (h : 0 ≤ a) (h1 : a < 9223372036854775808) : IntKind.u64.wrap ((IntKind.u64.wrap a) * 2) = zz a := by
 simp only [u64_wrap]
 unfold zz
 rw [if_pos h]
 omega
theorem nat_or128 : ∀ n < 256, n ||| 128 = n % 128 + 128 := by decide +kernel
theorem u8_or128' (x : Int) : bits .or .u8 (x % 256) 128 = x % 128 + 128 := by
 rw [u8_or _ _ (by omega) (by omega) (by omega) (by omega)]
 have := nat_or128 (x % 256).toNat (by omega)
 simp only [Int.reduceToNat]
 rw [this]
 omega
theorem u8_and127 (x : Int) (h : 0 ≤ x) (h1 : x < 256) : bits .and .u8 x 127 = x % 128 := by
 rw [u8_and _ _ h h1 (by omega) (by omega)]
 have := nat_mask7 x.toNat
 simp only [Int.reduceToNat]
 rw [this]
 omega
theorem u64_and1 (x : Int) (h : 0 ≤ x) (h1 : x < 18446744073709551616) : bits .and .u64 x 1 = x % 2 := by
 rw [u64_and _ _ h h1 (by omega) (by omega)]
 have := nat_mask1 x.toNat
 simp only [Int.reduceToNat]
 rw [this]
 omega
theorem u64_join (u x : Int) (i : Nat) (h0 : 0 ≤ u) (h1 : u < 2 ^ i) (h2 : 0 ≤ x) (h3 : x * 2 ^ i < 18446744073709551616) (hi : i < 64) : bits .or .u64 u (x * 2 ^ i) = u + x * 2 ^ i := by
 obtain ⟨a, rfl⟩ := Int.eq_ofNat_of_zero_le h0
 obtain ⟨b, rfl⟩ := Int.eq_ofNat_of_zero_le h2
 have e : ((b : Int) * 2 ^ i) = ((b * 2 ^ i : Nat) : Int) := by simp
 have ha : a < 2 ^ i := by exact_mod_cast h1
 have hp : 2 ^ i ≤ 2 ^ 63 := Nat.pow_le_pow_right (by decide) (by omega)
 rw [e] at h3 ⊢
 rw [u64_or_nat _ _ (by omega) (by omega), Nat.or_comm, nat_join i _ _ (by simp) ha]
 omega
theorem ofInt_neg1 : BitVec.ofInt 64 (-1) = BitVec.allOnes 64 := by decide +kernel
theorem i64_xor_ones (x : Int) (h0 : 0 ≤ x) (h1 : x < 9223372036854775808) : bits .xor .i64 (-1) x = -x - 1 ∧ bits .xor .i64 x (-1) = -x - 1 := by
 obtain ⟨a, rfl⟩ := Int.eq_ofNat_of_zero_le h0
 have h2 : (BitVec.ofInt 64 (a : Int)).toNat = a := by rw [BitVec.ofInt_natCast, BitVec.toNat_ofNat]; exact Nat.mod_eq_of_lt (by omega)
 have h3 := nat_xor_ones a (by omega)
 constructor
 ·
  show IntKind.i64.wrap ((BitVec.ofInt 64 (-1) ^^^ BitVec.ofInt 64 (a : Int)).toNat : Int) = _
  rw [BitVec.toNat_xor, h2, ofInt_neg1, BitVec.toNat_allOnes, Nat.xor_comm, show (2 ^ 64 - 1 : Nat) = 18446744073709551615 from rfl, h3, IntKind.wrap_i64]
  omega
 ·
  show IntKind.i64.wrap ((BitVec.ofInt 64 (a : Int) ^^^ BitVec.ofInt 64 (-1)).toNat : Int) = _
  rw [BitVec.toNat_xor, h2, ofInt_neg1, BitVec.toNat_allOnes, show (2 ^ 64 - 1 : Nat) = 18446744073709551615 from rfl, h3, IntKind.wrap_i64]
  omega
theorem i64_xor_zero (x : Int) (h0 : 0 ≤ x) (h1 : x < 9223372036854775808) : bits .xor .i64 x 0 = x := by
 obtain ⟨a, rfl⟩ := Int.eq_ofNat_of_zero_le h0
 have h2 : (BitVec.ofInt 64 (a : Int)).toNat = a := by rw [BitVec.ofInt_natCast, BitVec.toNat_ofNat]; exact Nat.mod_eq_of_lt (by omega)
 show IntKind.i64.wrap ((BitVec.ofInt 64 (a : Int) ^^^ BitVec.ofInt 64 0).toNat : Int) = _
 rw [BitVec.toNat_xor, h2, show (BitVec.ofInt 64 0).toNat = 0 from rfl, Nat.xor_zero, IntKind.wrap_i64]
 omega
def unzz (u : Int) : Int := if u % 2 = 1 then -(u / 2) - 1 else u / 2
theorem unzz_zz (a : Int) : unzz (zz a) = a := by unfold unzz zz; split <;> split <;> omega
theorem zz_unzz {u : Int} (h : 0 ≤ u) : zz (unzz u) = u := by unfold unzz zz; split <;> split <;> omega
theorem unzz_range {u : Int} (h0 : 0 ≤ u) (h1 : u < 18446744073709551616) : -9223372036854775808 ≤ unzz u ∧ unzz u < 9223372036854775808 := by unfold unzz; split <;> omega
theorem unzz_impl {u : Int} (h0 : 0 ≤ u) (h1 : u < 18446744073709551616) : bits .xor .i64 (wrap64 (u / 2)) (wrap64 (-(wrap64 (bits .and .u64 u 1)))) = unzz u := by
 rw [u64_and1 u h0 h1, wrap64_id (x := u / 2) (by omega) (by omega), wrap64_id (x := u % 2) (by omega) (by omega), wrap64_id (x := -(u % 2)) (by omega) (by omega)]
 unfold unzz
 by_cases h : u % 2 = 1
 ·
  rw [if_pos h, h]
  exact (i64_xor_ones _ (by omega) (by omega)).2
 ·
  rw [if_neg h, show u % 2 = 0 by omega]
  exact i64_xor_zero _ (by omega) (by omega)
end Go.Proofs.Ytnmmkgagbfniiaa.Pl
end
