/- MBlockReads4: texts of this session and of the kit's printer on the road to the statement BlockReads, laid into one and rid of what it doesn't need. No condition beyond what each fact names. -/
import Derived.Test.YtnmmkgagbfniiaaMBlockReads3
import Derived.Test.YtnmmkgagbfniiaaMBlockReads2
section
namespace Go.Proofs.Ytnmmkgagbfniiaa.A
open Go.RowKit Go.Proofs.YtnmmkgagbfniiaaW.PrintWords Go.Proofs.YtnmmkgagbfniiaaW.PrintLast Go.Proofs.YtnmmkgagbfniiaaW.PrintMore
attribute [local go_sem] max2_int min2_int max_two min_two max_three min_three max_four min_four
set_option linter.unusedVariables false
set_option linter.unusedSimpArgs false
mutual
def block_check.j0 : Nat → Bool → Int → Int → List (S26) → Option (Int)
 | 0, _, _, _, _ => none
 | k + 1, x33, x303000, x303001, x303002 => if x33 = true then (some 1) else (block_check.l0 k (-1) x303002 (x303002.length : Int) 0 x303000 x303001 x303002)
def block_check.l0 : Nat → Int → List (S26) → Int → Int → Int → Int → List (S26) → Option (Int)
 | 0, _, _, _, _, _, _, _ => none
 | k + 1, x3, x35, x36, x37, x303000, x303001, x303002 => if x37 < x36 then (if 0 ≤ x37 then (if x37 < (x35.length : Int) then (if ((rd_T26 x35 x37).f1.f0) = x303000 then (if ((rd_T26 x35 x37).f0) ≤ x3 then (some 1) else (if (((rd_T26 x35 x37).f1.f5).length : Int) > 400 then (some 1) else (if (((rd_T26 x35 x37).f1.f6).length : Int) > 400 then (some 1) else (block_check.l0 k ((rd_T26 x35 x37).f0) x35 x36 (wrap64 (x37 + 1)) x303000 x303001 x303002)))) else (some 1)) else (none)) else (none)) else (some 0)
end
def block_check.f (k : Nat) (a0_0 : Int) (a0_1 : Int) (l0_2 : List (S26)) : Option (Int) := if (l0_2.length : Int) > 64 then (some 2) else (if (l0_2.length : Int) = 0 then (block_check.j0 k true a0_0 a0_1 l0_2) else (if a0_0 < 0 then (block_check.j0 k true a0_0 a0_1 l0_2) else (if a0_0 ≥ 4 then (block_check.j0 k true a0_0 a0_1 l0_2) else (if a0_1 < 0 then (block_check.j0 k true a0_0 a0_1 l0_2) else (block_check.j0 k (decide (a0_1 > 400)) a0_0 a0_1 l0_2)))))
theorem block_check.mono_l : ∀ k, (∀ y0 y1 y2 y3, LeO (block_check.j0 k y0 y1 y2 y3) (block_check.j0 (k + 1) y0 y1 y2 y3)) ∧ (∀ y0 y1 y2 y3 y4 y5 y6, LeO (block_check.l0 k y0 y1 y2 y3 y4 y5 y6) (block_check.l0 (k + 1) y0 y1 y2 y3 y4 y5 y6))
 | 0 => ⟨fun _ _ _ _ r h => by simp [block_check.j0] at h, fun _ _ _ _ _ _ _ r h => by simp [block_check.l0] at h⟩
 | k + 1 => by
  obtain ⟨ih0, ih1⟩ := block_check.mono_l k
  refine ⟨?_, ?_⟩
  ·
   intro y0 y1 y2 y3
   unfold block_check.j0
   repeat' first
   | (with_reducible exact ih0 _ _ _ _)
   | (with_reducible exact ih1 _ _ _ _ _ _ _)
   | (with_reducible exact LeO.refl _)
   | (with_reducible exact LeO.none _)
   | (with_reducible refine LeO.ite ?_ ?_)
   | (with_reducible refine LeO.bind ?_ (fun _ => ?_))
   | exact ih0 _ _ _ _
   | exact ih1 _ _ _ _ _ _ _
   | exact LeO.none _
   | refine LeO.ite ?_ ?_
   | refine LeO.bind ?_ (fun _ => ?_)
  ·
   intro y0 y1 y2 y3 y4 y5 y6
   unfold block_check.l0
   repeat' first
   | (with_reducible exact ih0 _ _ _ _)
   | (with_reducible exact ih1 _ _ _ _ _ _ _)
   | (with_reducible exact LeO.refl _)
   | (with_reducible exact LeO.none _)
   | (with_reducible refine LeO.ite ?_ ?_)
   | (with_reducible refine LeO.bind ?_ (fun _ => ?_))
   | exact ih0 _ _ _ _
   | exact ih1 _ _ _ _ _ _ _
   | exact LeO.none _
   | refine LeO.ite ?_ ?_
   | refine LeO.bind ?_ (fun _ => ?_)
theorem block_check.mono : ∀ a0 a1 a2 k, LeO (block_check.f k a0 a1 a2) (block_check.f (k + 1) a0 a1 a2) := by
 intro a0 a1 a2 k
 obtain ⟨ih0, ih1⟩ := block_check.mono_l k
 unfold block_check.f
 repeat' first
   | (with_reducible exact ih0 _ _ _ _)
   | (with_reducible exact ih1 _ _ _ _ _ _ _)
   | (with_reducible exact LeO.refl _)
   | (with_reducible exact LeO.none _)
   | (with_reducible refine LeO.ite ?_ ?_)
   | (with_reducible refine LeO.bind ?_ (fun _ => ?_))
   | exact ih0 _ _ _ _
   | exact ih1 _ _ _ _ _ _ _
   | exact LeO.none _
   | refine LeO.ite ?_ ?_
   | refine LeO.bind ?_ (fun _ => ?_)
set_option maxHeartbeats 8000000 in
set_option maxRecDepth 100000 in
theorem block_check.calls (k : Nat) (a0_0 : Int) (a0_1 : Int) (A0_2 : Option Addr) (c0_2 : Nat) (l0_2 : List (S26)) (r : Int) (w : World) (hr0_2 : Kd.C k26 w A0_2 l0_2.length l0_2) (hc0_2 : l0_2.length ≤ c0_2) (h : block_check.f k a0_0 a0_1 l0_2 = some r) :
  Calls Try.prog 50 #[.agg #[.int .i64 a0_0, .int .i64 a0_1, .slice A0_2 l0_2.length c0_2]] w fun e w' => e = .returned (.int .i64 r) ∧ Below w.heap.size w w' := by
 have hu42 := Try.underlying42
 have hu26 := Try.underlying26
 have HR0_2 := am hr0_2
 have HC0_2 := am hc0_2
 clear hr0_2 hc0_2
 have HB := am (Below.refl w.heap.size w)
 have H : (if (l0_2.length : Int) > 64 then (some 2) else (if (l0_2.length : Int) = 0 then (block_check.j0 k true a0_0 a0_1 l0_2) else (if a0_0 < 0 then (block_check.j0 k true a0_0 a0_1 l0_2) else (if a0_0 ≥ 4 then (block_check.j0 k true a0_0 a0_1 l0_2) else (if a0_1 < 0 then (block_check.j0 k true a0_0 a0_1 l0_2) else (block_check.j0 k (decide (a0_1 > 400)) a0_0 a0_1 l0_2)))))) = some r := h
 clear h
 by_cases c2 : (l0_2.length : Int) > 64
 ·
  rw [if_pos c2] at H
  have c2b0 : decide (64 < (l0_2.length : Int)) = true := decide_eq_true c2
  have c2b1 : decide (64 < l0_2.length) = true := decide_eq_true (by omega)
  clear c2
  obtain rfl := Option.some.inj H
  go_enter Try.func50, Try.ntmps50
  go_wp2_with (first | ((with_reducible refine gate_dst (N := 1) rfl ?_); (try (refine gate_guard (by rfl) ?_; dsimp only)); refine box_event ?hg (N := 1) ?hd (cs := #[.int .i64 a0_0, .int .i64 a0_1, .slice A0_2 l0_2.length c0_2]) (t := 42) ?hr ?_; (case hd => rfl); (case hg => rfl); (case hr => first | (go_simp; done) | (go_simp; rfl)); intro gb302 hg w3 hbox hb; have BK302 := am (hbox); have GW302 := am ((by rw [hg]; exact (below_size (zb HB)) : w.heap.size ≤ gb302)); have GE302 := am ((by rw [hg]; exact (below_size (zb HB)) : w.heap.size ≤ gb302)); replace HB := am (below_step (zb HB) hb); clear hb hbox hg; obtain ⟨hcz4_0, hcz4_1, hcz4_2⟩ := zc3 BK302; obtain ⟨hfz4_0, hfz4_1, hfz4_2⟩ := zf3 BK302))
  go_ret
  exact ⟨ze, zb HB⟩
 ·
  rw [if_neg c2] at H
  have c2b0 : decide (64 < (l0_2.length : Int)) = false := decide_eq_false c2
  have c2b1 : decide (64 < l0_2.length) = false := decide_eq_false (by omega)
  clear c2
  have HC5 := am H
  clear H
  go_enter Try.func50, Try.ntmps50
  go_upto_region 3 with (first | ((with_reducible refine gate_dst (N := 1) rfl ?_); (try (refine gate_guard (by rfl) ?_; dsimp only)); refine box_event ?hg (N := 1) ?hd (cs := #[.int .i64 a0_0, .int .i64 a0_1, .slice A0_2 l0_2.length c0_2]) (t := 42) ?hr ?_; (case hd => rfl); (case hg => rfl); (case hr => first | (go_simp; done) | (go_simp; rfl)); intro gb302 hg w6 hbox hb; have BK302 := am (hbox); have GW302 := am ((by rw [hg]; exact (below_size (zb HB)) : w.heap.size ≤ gb302)); have GE302 := am ((by rw [hg]; exact (below_size (zb HB)) : w.heap.size ≤ gb302)); replace HB := am (below_step (zb HB) hb); clear hb hbox hg; obtain ⟨hcz7_0, hcz7_1, hcz7_2⟩ := zc3 BK302; obtain ⟨hfz7_0, hfz7_1, hfz7_2⟩ := zf3 BK302))
  (try simp only [Act.put, List.setIfInBounds_toArray, List.set_cons_zero, List.set_cons_succ])
  go_cut [33] (fun v33 wc => ∃ (kq : Nat) (x33_4 : Bool), v33 = .bool x33_4 ∧ Aside0 (block_check.j0 kq x33_4 a0_0 a0_1 l0_2 = some r) ∧ Aside0 (kq ≤ k) ∧ Aside0 (wc.heap[gb302]? = some (.cells #[.int .i64 a0_0, .int .i64 a0_1, (.slice A0_2 l0_2.length c0_2)] 42 (0, 0))) ∧ Aside0 (Below w.heap.size w wc))
  case first =>
   have H := HC5.out
   clear HC5
   by_cases c8 : (l0_2.length : Int) = 0
   ·
    rw [if_pos c8] at H
    have c8b0 : ((l0_2.length : Int) == 0) = true := beq_iff_eq.mpr c8
    have c8b1 : ((l0_2.length : Int) != 0) = false := bne_eq_false_iff_eq.mpr c8
    clear c8
    (first | rw [c8b0] | (simp only [i64_w, i32_w]; rw [c8b0]) | skip)
    have H' := am H
    clear H
    obtain ⟨hcz9_0, hcz9_1, hcz9_2⟩ := zc3 BK302
    obtain ⟨hfz9_0, hfz9_1, hfz9_2⟩ := zf3 BK302
    go_wp2
    go_meet
    case rel => exact ⟨_, (true), zr, H', ⟨by first | omega | exact Nat.le_refl _⟩, ⟨by refine zu ?_; exact BK302.out⟩, ⟨zb HB⟩⟩
   ·
    rw [if_neg c8] at H
    have c8b0 : ((l0_2.length : Int) == 0) = false := beq_eq_false_iff_ne.mpr c8
    have c8b1 : ((l0_2.length : Int) != 0) = true := bne_iff_ne.mpr c8
    have c8b2 : ¬ (l0_2 = []) := fun h_ => c8 (by rw [h_]; rfl)
    (first | rw [c8b0] | (simp only [i64_w, i32_w]; rw [c8b0]) | skip)
    by_cases c10 : a0_0 < 0
    ·
     rw [if_pos c10] at H
     have c10b0 : decide (a0_0 < 0) = true := decide_eq_true c10
     clear c10
     have H' := am H
     clear H
     obtain ⟨hcz11_0, hcz11_1, hcz11_2⟩ := zc3 BK302
     obtain ⟨hfz11_0, hfz11_1, hfz11_2⟩ := zf3 BK302
     go_wp2
     go_meet
     case rel => exact ⟨_, (true), zr, H', ⟨by first | omega | exact Nat.le_refl _⟩, ⟨by refine zu ?_; exact BK302.out⟩, ⟨zb HB⟩⟩
    ·
     rw [if_neg c10] at H
     have c10b0 : decide (a0_0 < 0) = false := decide_eq_false c10
     clear c10
     by_cases c12 : a0_0 ≥ 4
     ·
      rw [if_pos c12] at H
      have c12b0 : decide (4 ≤ a0_0) = true := decide_eq_true c12
      clear c12
      have H' := am H
      clear H
      obtain ⟨hcz13_0, hcz13_1, hcz13_2⟩ := zc3 BK302
      obtain ⟨hfz13_0, hfz13_1, hfz13_2⟩ := zf3 BK302
      go_wp2
      go_meet
      case rel => exact ⟨_, (true), zr, H', ⟨by first | omega | exact Nat.le_refl _⟩, ⟨by refine zu ?_; exact BK302.out⟩, ⟨zb HB⟩⟩
     ·
      rw [if_neg c12] at H
      have c12b0 : decide (4 ≤ a0_0) = false := decide_eq_false c12
      clear c12
      by_cases c14 : a0_1 < 0
      ·
       rw [if_pos c14] at H
       have c14b0 : decide (a0_1 < 0) = true := decide_eq_true c14
       clear c14
       have H' := am H
       clear H
       obtain ⟨hcz15_0, hcz15_1, hcz15_2⟩ := zc3 BK302
       obtain ⟨hfz15_0, hfz15_1, hfz15_2⟩ := zf3 BK302
       go_wp2
       go_meet
       case rel => exact ⟨_, (true), zr, H', ⟨by first | omega | exact Nat.le_refl _⟩, ⟨by refine zu ?_; exact BK302.out⟩, ⟨zb HB⟩⟩
      ·
       rw [if_neg c14] at H
       have c14b0 : decide (a0_1 < 0) = false := decide_eq_false c14
       clear c14
       have H' := am H
       clear H
       obtain ⟨hcz16_0, hcz16_1, hcz16_2⟩ := zc3 BK302
       obtain ⟨hfz16_0, hfz16_1, hfz16_2⟩ := zf3 BK302
       go_wp2
       go_meet
       case rel => exact ⟨_, (decide (a0_1 > 400)), zr, H', ⟨by first | omega | exact Nat.le_refl _⟩, ⟨by refine zu ?_; exact BK302.out⟩, ⟨zb HB⟩⟩
  case rest =>
   clear HC5
   obtain ⟨kq, x33_4, rfl, HA, HJ4, BK302, HB⟩ := hcut
   cases kq with
   | zero => exact absurd HA.out (by simp [block_check.j0])
   | succ kj4 =>
    have H := HA.out
    clear HA
    simp only [block_check.j0] at H
    by_cases c17 : x33_4 = true
    ·
     subst c17
     have H1 : (some 1) = some r := by rw [if_pos rfl] at H; exact H
     clear H
     have H := H1
     clear H1
     obtain rfl := Option.some.inj H
     go_wp2
     go_ret
     exact ⟨ze, zb HB⟩
    ·
     replace c17 := Bool.eq_false_iff.mpr c17
     subst c17
     have H1 : (block_check.l0 kj4 (-1) l0_2 (l0_2.length : Int) 0 a0_0 a0_1 l0_2) = some r := by rw [if_neg (show ¬ (false = true) by decide)] at H; exact H
     clear H
     have H := H1
     clear H1
     have H' := am H
     clear H
     obtain ⟨hcz18_0, hcz18_1, hcz18_2⟩ := zc3 BK302
     obtain ⟨hfz18_0, hfz18_1, hfz18_2⟩ := zf3 BK302
     go_wp2
     go_loopg [3, 37] kj4 (fun kq v3 v37 w' => ∃ (x3_2 : Int) (x37_2 : Int), v3 = .int .i64 x3_2 ∧ v37 = .int .i64 x37_2 ∧ Aside0 (block_check.l0 kq x3_2 l0_2 (l0_2.length : Int) x37_2 a0_0 a0_1 l0_2 = some r) ∧ Aside0 (kq ≤ kj4) ∧ Aside0 (w'.heap[gb302]? = some (.cells #[.int .i64 a0_0, .int .i64 a0_1, (.slice A0_2 l0_2.length c0_2)] 42 (0, 0))) ∧ Aside0 (Below w.heap.size w w'))
     case atStart => exact ⟨((-1)), (0), zr, zr, H', ⟨Nat.le_refl _⟩, ⟨by refine zu ?_; exact BK302.out⟩, ⟨zb HB⟩⟩
     case round =>
      clear H'
      obtain ⟨x3_2, x37_2, rfl, rfl, HA, HK2, BK302, HB⟩ := hrel
      cases gk with
      | zero => exact absurd HA.out (by simp [block_check.l0])
      | succ k2 =>
       have H := HA.out
       clear HA
       simp only [block_check.l0] at H
       by_cases c19 : x37_2 < (l0_2.length : Int)
       ·
        rw [if_pos c19] at H
        have c19b0 : decide (x37_2 < (l0_2.length : Int)) = true := decide_eq_true c19
        clear c19
        by_cases c20 : 0 ≤ x37_2
        ·
         rw [if_pos c20] at H
         have c20b0 : decide (0 ≤ x37_2) = true := decide_eq_true c20
         clear c20
         by_cases c21 : x37_2 < (l0_2.length : Int)
         ·
          rw [if_pos c21] at H
          have c21b0 : decide (x37_2 < (l0_2.length : Int)) = true := decide_eq_true c21
          clear c21
          by_cases c22 : ((rd_T26 l0_2 x37_2).f1.f0) = a0_0
          ·
           rw [if_pos c22] at H
           have c22b0 : (((rd_T26 l0_2 x37_2).f1.f0) == a0_0) = true := beq_iff_eq.mpr c22
           have c22b1 : (((rd_T26 l0_2 x37_2).f1.f0) != a0_0) = false := bne_eq_false_iff_eq.mpr c22
           clear c22
           by_cases c23 : ((rd_T26 l0_2 x37_2).f0) ≤ x3_2
           ·
            rw [if_pos c23] at H
            have c23b0 : decide (((rd_T26 l0_2 x37_2).f0) ≤ x3_2) = true := decide_eq_true c23
            clear c23
            obtain rfl := Option.some.inj H
            have p303 : 0 ≤ (x37_2 : Int) := zo
            have q303 : x37_2 < (l0_2.length : Int) := zo
            obtain ⟨ad303, A303_6, c303_6, A303_7, c303_7, e303, hx303_0, hx303_1, hx303_2, hx303_3, hx303_4, hx303_5, hx303_6, hx303_7, hl303_6, hi303_6, hl303_7, hi303_7⟩ := at_T26 HR0_2.out x37_2 p303 q303
            cases e303
            replace hx303_0 := zx HB hx303_0
            replace hx303_1 := zx HB hx303_1
            replace hx303_2 := zx HB hx303_2
            replace hx303_3 := zx HB hx303_3
            replace hx303_4 := zx HB hx303_4
            replace hx303_5 := zx HB hx303_5
            replace hx303_6 := zx HB hx303_6
            replace hx303_7 := zx HB hx303_7
            have HR303_6 := am hi303_6
            have HC303_6 := am hl303_6
            clear hi303_6 hl303_6
            have HR303_7 := am hi303_7
            have HC303_7 := am hl303_7
            clear hi303_7 hl303_7
            replace p303 := eq_true p303
            replace q303 := eq_true q303
            go_wp2_with (first | ((with_reducible refine gate_dst (N := 5) rfl ?_); (try (refine gate_guard (by rfl) ?_; dsimp only)); refine box_event ?hg (N := 5) ?hd (cs := #[.int .i64 0, .int .i64 0, .int .i64 0, .int .i64 0, .int .i64 0, .int .i64 0, .slice none 0 0, .slice none 0 0]) (t := 26) ?hr ?_; (case hd => rfl); (case hg => rfl); (case hr => first | (go_simp; done) | (go_simp; rfl)); intro gb304 hg w24 hbox hb; have BK304 := am (hbox); have GW304 := am ((by rw [hg]; exact (below_size (zb HB)) : w.heap.size ≤ gb304)); have GE304 := am ((by rw [hg]; exact (below_size (zb HB)) : w.heap.size ≤ gb304)); replace HB := am (below_step (zb HB) hb); have NB302_304 := am ((by rw [hg]; exact Nat.ne_of_lt (blk_lt (g := gb302) (o := .cells #[.int .i64 a0_0, .int .i64 a0_1, .slice (some ad303) l0_2.length c0_2] 42 (0, 0)) (zu BK302.out)) : gb302 ≠ gb304)); have NB304_302 := am ((by rw [hg]; exact Nat.ne_of_gt (blk_lt (g := gb302) (o := .cells #[.int .i64 a0_0, .int .i64 a0_1, .slice (some ad303) l0_2.length c0_2] 42 (0, 0)) (zu BK302.out)) : gb304 ≠ gb302)); replace BK302 := am (blk_below (g := gb302) (o := .cells #[.int .i64 a0_0, .int .i64 a0_1, .slice (some ad303) l0_2.length c0_2] 42 (0, 0)) (zu BK302.out) hb); clear hb hbox hg; have hnb25 := NB304_302.out; have hnc25 := NB302_304.out; obtain ⟨hcz26_0, hcz26_1, hcz26_2, hcz26_3, hcz26_4, hcz26_5, hcz26_6, hcz26_7⟩ := zc8 BK304; obtain ⟨hfz26_0, hfz26_1, hfz26_2, hfz26_3, hfz26_4, hfz26_5, hfz26_6, hfz26_7⟩ := zf8 BK304; obtain ⟨hcz27_0, hcz27_1, hcz27_2⟩ := zc3 BK302; obtain ⟨hfz27_0, hfz27_1, hfz27_2⟩ := zf3 BK302))
            go_ret
            exact ⟨ze, zb HB⟩
           ·
            rw [if_neg c23] at H
            have c23b0 : decide (((rd_T26 l0_2 x37_2).f0) ≤ x3_2) = false := decide_eq_false c23
            clear c23
            by_cases c28 : (((rd_T26 l0_2 x37_2).f1.f5).length : Int) > 400
            ·
             rw [if_pos c28] at H
             have c28b0 : decide (400 < (((rd_T26 l0_2 x37_2).f1.f5).length : Int)) = true := decide_eq_true c28
             have c28b1 : decide (400 < ((rd_T26 l0_2 x37_2).f1.f5).length) = true := decide_eq_true (by omega)
             clear c28
             obtain rfl := Option.some.inj H
             have p303 : 0 ≤ (x37_2 : Int) := zo
             have q303 : x37_2 < (l0_2.length : Int) := zo
             obtain ⟨ad303, A303_6, c303_6, A303_7, c303_7, e303, hx303_0, hx303_1, hx303_2, hx303_3, hx303_4, hx303_5, hx303_6, hx303_7, hl303_6, hi303_6, hl303_7, hi303_7⟩ := at_T26 HR0_2.out x37_2 p303 q303
             cases e303
             replace hx303_0 := zx HB hx303_0
             replace hx303_1 := zx HB hx303_1
             replace hx303_2 := zx HB hx303_2
             replace hx303_3 := zx HB hx303_3
             replace hx303_4 := zx HB hx303_4
             replace hx303_5 := zx HB hx303_5
             replace hx303_6 := zx HB hx303_6
             replace hx303_7 := zx HB hx303_7
             have HR303_6 := am hi303_6
             have HC303_6 := am hl303_6
             clear hi303_6 hl303_6
             have HR303_7 := am hi303_7
             have HC303_7 := am hl303_7
             clear hi303_7 hl303_7
             replace p303 := eq_true p303
             replace q303 := eq_true q303
             go_wp2_with (first | ((with_reducible refine gate_dst (N := 5) rfl ?_); (try (refine gate_guard (by rfl) ?_; dsimp only)); refine box_event ?hg (N := 5) ?hd (cs := #[.int .i64 0, .int .i64 0, .int .i64 0, .int .i64 0, .int .i64 0, .int .i64 0, .slice none 0 0, .slice none 0 0]) (t := 26) ?hr ?_; (case hd => rfl); (case hg => rfl); (case hr => first | (go_simp; done) | (go_simp; rfl)); intro gb304 hg w29 hbox hb; have BK304 := am (hbox); have GW304 := am ((by rw [hg]; exact (below_size (zb HB)) : w.heap.size ≤ gb304)); have GE304 := am ((by rw [hg]; exact (below_size (zb HB)) : w.heap.size ≤ gb304)); replace HB := am (below_step (zb HB) hb); have NB302_304 := am ((by rw [hg]; exact Nat.ne_of_lt (blk_lt (g := gb302) (o := .cells #[.int .i64 a0_0, .int .i64 a0_1, .slice (some ad303) l0_2.length c0_2] 42 (0, 0)) (zu BK302.out)) : gb302 ≠ gb304)); have NB304_302 := am ((by rw [hg]; exact Nat.ne_of_gt (blk_lt (g := gb302) (o := .cells #[.int .i64 a0_0, .int .i64 a0_1, .slice (some ad303) l0_2.length c0_2] 42 (0, 0)) (zu BK302.out)) : gb304 ≠ gb302)); replace BK302 := am (blk_below (g := gb302) (o := .cells #[.int .i64 a0_0, .int .i64 a0_1, .slice (some ad303) l0_2.length c0_2] 42 (0, 0)) (zu BK302.out) hb); clear hb hbox hg; have hnb30 := NB304_302.out; have hnc30 := NB302_304.out; obtain ⟨hcz31_0, hcz31_1, hcz31_2, hcz31_3, hcz31_4, hcz31_5, hcz31_6, hcz31_7⟩ := zc8 BK304; obtain ⟨hfz31_0, hfz31_1, hfz31_2, hfz31_3, hfz31_4, hfz31_5, hfz31_6, hfz31_7⟩ := zf8 BK304; obtain ⟨hcz32_0, hcz32_1, hcz32_2⟩ := zc3 BK302; obtain ⟨hfz32_0, hfz32_1, hfz32_2⟩ := zf3 BK302))
             go_ret
             exact ⟨ze, zb HB⟩
            ·
             rw [if_neg c28] at H
             have c28b0 : decide (400 < (((rd_T26 l0_2 x37_2).f1.f5).length : Int)) = false := decide_eq_false c28
             have c28b1 : decide (400 < ((rd_T26 l0_2 x37_2).f1.f5).length) = false := decide_eq_false (by omega)
             clear c28
             by_cases c33 : (((rd_T26 l0_2 x37_2).f1.f6).length : Int) > 400
             ·
              rw [if_pos c33] at H
              have c33b0 : decide (400 < (((rd_T26 l0_2 x37_2).f1.f6).length : Int)) = true := decide_eq_true c33
              have c33b1 : decide (400 < ((rd_T26 l0_2 x37_2).f1.f6).length) = true := decide_eq_true (by omega)
              clear c33
              obtain rfl := Option.some.inj H
              have p303 : 0 ≤ (x37_2 : Int) := zo
              have q303 : x37_2 < (l0_2.length : Int) := zo
              obtain ⟨ad303, A303_6, c303_6, A303_7, c303_7, e303, hx303_0, hx303_1, hx303_2, hx303_3, hx303_4, hx303_5, hx303_6, hx303_7, hl303_6, hi303_6, hl303_7, hi303_7⟩ := at_T26 HR0_2.out x37_2 p303 q303
              cases e303
              replace hx303_0 := zx HB hx303_0
              replace hx303_1 := zx HB hx303_1
              replace hx303_2 := zx HB hx303_2
              replace hx303_3 := zx HB hx303_3
              replace hx303_4 := zx HB hx303_4
              replace hx303_5 := zx HB hx303_5
              replace hx303_6 := zx HB hx303_6
              replace hx303_7 := zx HB hx303_7
              have HR303_6 := am hi303_6
              have HC303_6 := am hl303_6
              clear hi303_6 hl303_6
              have HR303_7 := am hi303_7
              have HC303_7 := am hl303_7
              clear hi303_7 hl303_7
              replace p303 := eq_true p303
              replace q303 := eq_true q303
              go_wp2_with (first | ((with_reducible refine gate_dst (N := 5) rfl ?_); (try (refine gate_guard (by rfl) ?_; dsimp only)); refine box_event ?hg (N := 5) ?hd (cs := #[.int .i64 0, .int .i64 0, .int .i64 0, .int .i64 0, .int .i64 0, .int .i64 0, .slice none 0 0, .slice none 0 0]) (t := 26) ?hr ?_; (case hd => rfl); (case hg => rfl); (case hr => first | (go_simp; done) | (go_simp; rfl)); intro gb304 hg w34 hbox hb; have BK304 := am (hbox); have GW304 := am ((by rw [hg]; exact (below_size (zb HB)) : w.heap.size ≤ gb304)); have GE304 := am ((by rw [hg]; exact (below_size (zb HB)) : w.heap.size ≤ gb304)); replace HB := am (below_step (zb HB) hb); have NB302_304 := am ((by rw [hg]; exact Nat.ne_of_lt (blk_lt (g := gb302) (o := .cells #[.int .i64 a0_0, .int .i64 a0_1, .slice (some ad303) l0_2.length c0_2] 42 (0, 0)) (zu BK302.out)) : gb302 ≠ gb304)); have NB304_302 := am ((by rw [hg]; exact Nat.ne_of_gt (blk_lt (g := gb302) (o := .cells #[.int .i64 a0_0, .int .i64 a0_1, .slice (some ad303) l0_2.length c0_2] 42 (0, 0)) (zu BK302.out)) : gb304 ≠ gb302)); replace BK302 := am (blk_below (g := gb302) (o := .cells #[.int .i64 a0_0, .int .i64 a0_1, .slice (some ad303) l0_2.length c0_2] 42 (0, 0)) (zu BK302.out) hb); clear hb hbox hg; have hnb35 := NB304_302.out; have hnc35 := NB302_304.out; obtain ⟨hcz36_0, hcz36_1, hcz36_2, hcz36_3, hcz36_4, hcz36_5, hcz36_6, hcz36_7⟩ := zc8 BK304; obtain ⟨hfz36_0, hfz36_1, hfz36_2, hfz36_3, hfz36_4, hfz36_5, hfz36_6, hfz36_7⟩ := zf8 BK304; obtain ⟨hcz37_0, hcz37_1, hcz37_2⟩ := zc3 BK302; obtain ⟨hfz37_0, hfz37_1, hfz37_2⟩ := zf3 BK302))
              go_ret
              exact ⟨ze, zb HB⟩
             ·
              rw [if_neg c33] at H
              have c33b0 : decide (400 < (((rd_T26 l0_2 x37_2).f1.f6).length : Int)) = false := decide_eq_false c33
              have c33b1 : decide (400 < ((rd_T26 l0_2 x37_2).f1.f6).length) = false := decide_eq_false (by omega)
              clear c33
              have H' := am H
              clear H
              have p303 : 0 ≤ (x37_2 : Int) := zo
              have q303 : x37_2 < (l0_2.length : Int) := zo
              obtain ⟨ad303, A303_6, c303_6, A303_7, c303_7, e303, hx303_0, hx303_1, hx303_2, hx303_3, hx303_4, hx303_5, hx303_6, hx303_7, hl303_6, hi303_6, hl303_7, hi303_7⟩ := at_T26 HR0_2.out x37_2 p303 q303
              cases e303
              replace hx303_0 := zx HB hx303_0
              replace hx303_1 := zx HB hx303_1
              replace hx303_2 := zx HB hx303_2
              replace hx303_3 := zx HB hx303_3
              replace hx303_4 := zx HB hx303_4
              replace hx303_5 := zx HB hx303_5
              replace hx303_6 := zx HB hx303_6
              replace hx303_7 := zx HB hx303_7
              have HR303_6 := am hi303_6
              have HC303_6 := am hl303_6
              clear hi303_6 hl303_6
              have HR303_7 := am hi303_7
              have HC303_7 := am hl303_7
              clear hi303_7 hl303_7
              replace p303 := eq_true p303
              replace q303 := eq_true q303
              go_wp2_with (first | ((with_reducible refine gate_dst (N := 5) rfl ?_); (try (refine gate_guard (by rfl) ?_; dsimp only)); refine box_event ?hg (N := 5) ?hd (cs := #[.int .i64 0, .int .i64 0, .int .i64 0, .int .i64 0, .int .i64 0, .int .i64 0, .slice none 0 0, .slice none 0 0]) (t := 26) ?hr ?_; (case hd => rfl); (case hg => rfl); (case hr => first | (go_simp; done) | (go_simp; rfl)); intro gb304 hg w38 hbox hb; have BK304 := am (hbox); have GW304 := am ((by rw [hg]; exact (below_size (zb HB)) : w.heap.size ≤ gb304)); have GE304 := am ((by rw [hg]; exact (below_size (zb HB)) : w.heap.size ≤ gb304)); replace HB := am (below_step (zb HB) hb); have NB302_304 := am ((by rw [hg]; exact Nat.ne_of_lt (blk_lt (g := gb302) (o := .cells #[.int .i64 a0_0, .int .i64 a0_1, .slice (some ad303) l0_2.length c0_2] 42 (0, 0)) (zu BK302.out)) : gb302 ≠ gb304)); have NB304_302 := am ((by rw [hg]; exact Nat.ne_of_gt (blk_lt (g := gb302) (o := .cells #[.int .i64 a0_0, .int .i64 a0_1, .slice (some ad303) l0_2.length c0_2] 42 (0, 0)) (zu BK302.out)) : gb304 ≠ gb302)); replace BK302 := am (blk_below (g := gb302) (o := .cells #[.int .i64 a0_0, .int .i64 a0_1, .slice (some ad303) l0_2.length c0_2] 42 (0, 0)) (zu BK302.out) hb); clear hb hbox hg; have hnb39 := NB304_302.out; have hnc39 := NB302_304.out; obtain ⟨hcz40_0, hcz40_1, hcz40_2, hcz40_3, hcz40_4, hcz40_5, hcz40_6, hcz40_7⟩ := zc8 BK304; obtain ⟨hfz40_0, hfz40_1, hfz40_2, hfz40_3, hfz40_4, hfz40_5, hfz40_6, hfz40_7⟩ := zf8 BK304; obtain ⟨hcz41_0, hcz41_1, hcz41_2⟩ := zc3 BK302; obtain ⟨hfz41_0, hfz41_1, hfz41_2⟩ := zf3 BK302))
              go_roundg k2
              case measure => have := HJ4.out; have := HK2.out; omega
              case rel => exact ⟨((rd_T26 l0_2 x37_2).f0), (wrap64 (x37_2 + 1)), zr, zr, H', ⟨by have := HJ4.out; have := HK2.out; omega⟩, ⟨by refine zu ?_; refine blk_far ?_ NB302_304.out _; refine zu ?_; refine blk_far ?_ NB302_304.out _; refine zu ?_; refine blk_far ?_ NB302_304.out _; refine zu ?_; refine blk_far ?_ NB302_304.out _; refine zu ?_; refine blk_far ?_ NB302_304.out _; refine zu ?_; refine blk_far ?_ NB302_304.out _; refine zu ?_; refine blk_far ?_ NB302_304.out _; refine zu ?_; refine blk_far ?_ NB302_304.out _; refine zu ?_; exact BK302.out⟩, ⟨zb HB⟩⟩
          ·
           rw [if_neg c22] at H
           have c22b0 : (((rd_T26 l0_2 x37_2).f1.f0) == a0_0) = false := beq_eq_false_iff_ne.mpr c22
           have c22b1 : (((rd_T26 l0_2 x37_2).f1.f0) != a0_0) = true := bne_iff_ne.mpr c22
           obtain rfl := Option.some.inj H
           have p303 : 0 ≤ (x37_2 : Int) := zo
           have q303 : x37_2 < (l0_2.length : Int) := zo
           obtain ⟨ad303, A303_6, c303_6, A303_7, c303_7, e303, hx303_0, hx303_1, hx303_2, hx303_3, hx303_4, hx303_5, hx303_6, hx303_7, hl303_6, hi303_6, hl303_7, hi303_7⟩ := at_T26 HR0_2.out x37_2 p303 q303
           cases e303
           replace hx303_0 := zx HB hx303_0
           replace hx303_1 := zx HB hx303_1
           replace hx303_2 := zx HB hx303_2
           replace hx303_3 := zx HB hx303_3
           replace hx303_4 := zx HB hx303_4
           replace hx303_5 := zx HB hx303_5
           replace hx303_6 := zx HB hx303_6
           replace hx303_7 := zx HB hx303_7
           have HR303_6 := am hi303_6
           have HC303_6 := am hl303_6
           clear hi303_6 hl303_6
           have HR303_7 := am hi303_7
           have HC303_7 := am hl303_7
           clear hi303_7 hl303_7
           replace p303 := eq_true p303
           replace q303 := eq_true q303
           go_wp2_with (first | ((with_reducible refine gate_dst (N := 5) rfl ?_); (try (refine gate_guard (by rfl) ?_; dsimp only)); refine box_event ?hg (N := 5) ?hd (cs := #[.int .i64 0, .int .i64 0, .int .i64 0, .int .i64 0, .int .i64 0, .int .i64 0, .slice none 0 0, .slice none 0 0]) (t := 26) ?hr ?_; (case hd => rfl); (case hg => rfl); (case hr => first | (go_simp; done) | (go_simp; rfl)); intro gb304 hg w42 hbox hb; have BK304 := am (hbox); have GW304 := am ((by rw [hg]; exact (below_size (zb HB)) : w.heap.size ≤ gb304)); have GE304 := am ((by rw [hg]; exact (below_size (zb HB)) : w.heap.size ≤ gb304)); replace HB := am (below_step (zb HB) hb); have NB302_304 := am ((by rw [hg]; exact Nat.ne_of_lt (blk_lt (g := gb302) (o := .cells #[.int .i64 a0_0, .int .i64 a0_1, .slice (some ad303) l0_2.length c0_2] 42 (0, 0)) (zu BK302.out)) : gb302 ≠ gb304)); have NB304_302 := am ((by rw [hg]; exact Nat.ne_of_gt (blk_lt (g := gb302) (o := .cells #[.int .i64 a0_0, .int .i64 a0_1, .slice (some ad303) l0_2.length c0_2] 42 (0, 0)) (zu BK302.out)) : gb304 ≠ gb302)); replace BK302 := am (blk_below (g := gb302) (o := .cells #[.int .i64 a0_0, .int .i64 a0_1, .slice (some ad303) l0_2.length c0_2] 42 (0, 0)) (zu BK302.out) hb); clear hb hbox hg; have hnb43 := NB304_302.out; have hnc43 := NB302_304.out; obtain ⟨hcz44_0, hcz44_1, hcz44_2, hcz44_3, hcz44_4, hcz44_5, hcz44_6, hcz44_7⟩ := zc8 BK304; obtain ⟨hfz44_0, hfz44_1, hfz44_2, hfz44_3, hfz44_4, hfz44_5, hfz44_6, hfz44_7⟩ := zf8 BK304; obtain ⟨hcz45_0, hcz45_1, hcz45_2⟩ := zc3 BK302; obtain ⟨hfz45_0, hfz45_1, hfz45_2⟩ := zf3 BK302))
           go_ret
           exact ⟨ze, zb HB⟩
         ·
          rw [if_neg c21] at H
          exact absurd H (by simp)
        ·
         rw [if_neg c20] at H
         exact absurd H (by simp)
       ·
        rw [if_neg c19] at H
        have c19b0 : decide (x37_2 < (l0_2.length : Int)) = false := decide_eq_false c19
        clear c19
        obtain rfl := Option.some.inj H
        go_wp2
        go_ret
        exact ⟨ze, zb HB⟩
mutual
def pack_longest.l0 : Nat → List Int → Int → Int → Int → Int → Option (Int × Int)
 | 0, _, _, _, _, _ => none
 | k + 1, x0, x1, x6, x7, x8 => if x8 ≤ (mn x1 255) then (pack_longest.l1 k x0 x1 x6 x7 x8 0) else (some (x6, x7))
def pack_longest.l1 : Nat → List Int → Int → Int → Int → Int → Int → Option (Int × Int)
 | 0, _, _, _, _, _, _ => none
 | k + 1, x0, x1, x6, x7, x8, x9 => if x9 < 130 then (if (wrap64 (x1 + x9)) < (x0.length : Int) then (if 0 ≤ (wrap64 (x1 + x9)) then (if 0 ≤ (wrap64 ((wrap64 (x1 + x9)) - x8)) then (if (wrap64 ((wrap64 (x1 + x9)) - x8)) < (x0.length : Int) then (if (rd x0 (wrap64 (x1 + x9))) = (rd x0 (wrap64 ((wrap64 (x1 + x9)) - x8))) then (pack_longest.l1 k x0 x1 x6 x7 x8 (wrap64 (x9 + 1))) else (if x9 > x6 then (pack_longest.l0 k x0 x1 x9 x8 (wrap64 (x8 + 1))) else (pack_longest.l0 k x0 x1 x6 x7 (wrap64 (x8 + 1))))) else (none)) else (none)) else (none)) else (if x9 > x6 then (pack_longest.l0 k x0 x1 x9 x8 (wrap64 (x8 + 1))) else (pack_longest.l0 k x0 x1 x6 x7 (wrap64 (x8 + 1))))) else (if x9 > x6 then (pack_longest.l0 k x0 x1 x9 x8 (wrap64 (x8 + 1))) else (pack_longest.l0 k x0 x1 x6 x7 (wrap64 (x8 + 1))))
end
def pack_longest.f (k : Nat) (l0 : List Int) (a1 : Int) : Option (Int × Int) := pack_longest.l0 k l0 a1 0 0 1
theorem pack_longest.mono_l : ∀ k, (∀ y0 y1 y2 y3 y4, LeO (pack_longest.l0 k y0 y1 y2 y3 y4) (pack_longest.l0 (k + 1) y0 y1 y2 y3 y4)) ∧ (∀ y0 y1 y2 y3 y4 y5, LeO (pack_longest.l1 k y0 y1 y2 y3 y4 y5) (pack_longest.l1 (k + 1) y0 y1 y2 y3 y4 y5))
 | 0 => ⟨fun _ _ _ _ _ r h => by simp [pack_longest.l0] at h, fun _ _ _ _ _ _ r h => by simp [pack_longest.l1] at h⟩
 | k + 1 => by
  obtain ⟨ih0, ih1⟩ := pack_longest.mono_l k
  refine ⟨?_, ?_⟩
  ·
   intro y0 y1 y2 y3 y4
   unfold pack_longest.l0
   repeat' first
   | (with_reducible exact ih0 _ _ _ _ _)
   | (with_reducible exact ih1 _ _ _ _ _ _)
   | (with_reducible exact LeO.refl _)
   | (with_reducible exact LeO.none _)
   | (with_reducible refine LeO.ite ?_ ?_)
   | (with_reducible refine LeO.bind ?_ (fun _ => ?_))
   | exact ih0 _ _ _ _ _
   | exact ih1 _ _ _ _ _ _
   | exact LeO.none _
   | refine LeO.ite ?_ ?_
   | refine LeO.bind ?_ (fun _ => ?_)
  ·
   intro y0 y1 y2 y3 y4 y5
   unfold pack_longest.l1
   repeat' first
   | (with_reducible exact ih0 _ _ _ _ _)
   | (with_reducible exact ih1 _ _ _ _ _ _)
   | (with_reducible exact LeO.refl _)
   | (with_reducible exact LeO.none _)
   | (with_reducible refine LeO.ite ?_ ?_)
   | (with_reducible refine LeO.bind ?_ (fun _ => ?_))
   | exact ih0 _ _ _ _ _
   | exact ih1 _ _ _ _ _ _
   | exact LeO.none _
   | refine LeO.ite ?_ ?_
   | refine LeO.bind ?_ (fun _ => ?_)
theorem pack_longest.mono : ∀ a0 a1 k, LeO (pack_longest.f k a0 a1) (pack_longest.f (k + 1) a0 a1) := by
 intro a0 a1 k
 obtain ⟨ih0, ih1⟩ := pack_longest.mono_l k
 unfold pack_longest.f
 repeat' first
   | (with_reducible exact ih0 _ _ _ _ _)
   | (with_reducible exact ih1 _ _ _ _ _ _)
   | (with_reducible exact LeO.refl _)
   | (with_reducible exact LeO.none _)
   | (with_reducible refine LeO.ite ?_ ?_)
   | (with_reducible refine LeO.bind ?_ (fun _ => ?_))
   | exact ih0 _ _ _ _ _
   | exact ih1 _ _ _ _ _ _
   | exact LeO.none _
   | refine LeO.ite ?_ ?_
   | refine LeO.bind ?_ (fun _ => ?_)
set_option maxHeartbeats 8000000 in
set_option maxRecDepth 100000 in
theorem pack_longest.calls (k : Nat) (A0 : Option Addr) (c0 : Nat) (l0 : List Int) (a1 : Int) (r1 : Int) (r2 : Int) (w : World) (hr0 : Kd.C (Kd.int .u8) w A0 l0.length l0) (hc0 : l0.length ≤ c0) (h : pack_longest.f k l0 a1 = some (r1, r2)) :
  Calls Try.prog 78 #[.slice A0 l0.length c0, .int .i64 a1] w fun e w' => e = .returned (.tuple #[.int .i64 r1, .int .i64 r2]) ∧ Below w.heap.size w w' := by
 have HR0 := am hr0
 have HC0 := am hc0
 clear hr0 hc0
 have HB := am (Below.refl w.heap.size w)
 have H : (pack_longest.l0 k l0 a1 0 0 1) = some (r1, r2) := h
 clear h
 have H' := am H
 clear H
 go_enter Try.func78, Try.ntmps78
 go_wp2
 repeat (go_quiet (fail); try go_wp2)
 go_loopg [6, 7, 8] k (fun kq v6 v7 v8 w' => ∃ (x6_1 : Int) (x7_1 : Int) (x8_1 : Int), v6 = .int .i64 x6_1 ∧ v7 = .int .i64 x7_1 ∧ v8 = .int .i64 x8_1 ∧ Aside0 (pack_longest.l0 kq l0 a1 x6_1 x7_1 x8_1 = some (r1, r2)) ∧ Aside0 (kq ≤ k) ∧ Aside0 (Below w.heap.size w w'))
 case atStart => exact ⟨(0), (0), (1), zr, zr, zr, H', ⟨Nat.le_refl _⟩, ⟨zb HB⟩⟩
 case round =>
  clear H'
  try clear p2
  obtain ⟨x6_1, x7_1, x8_1, rfl, rfl, rfl, HA, HK1, HB⟩ := hrel
  cases gk with
  | zero => exact absurd HA.out (by simp [pack_longest.l0])
  | succ k1 =>
   have H := HA.out
   clear HA
   simp only [pack_longest.l0] at H
   obtain ⟨ji3, hji3⟩ : ∃ j_ : Int, (mn a1 255) = j_ := ⟨_, rfl⟩
   (first | rw [hji3] at H | simp only [hji3] at H)
   have hji3_ : (if 255 < a1 then 255 else a1) = ji3 := hji3
   by_cases c4 : x8_1 ≤ (ji3)
   ·
    rw [if_pos c4] at H
    have c4b0 : decide (x8_1 ≤ (ji3)) = true := decide_eq_true c4
    clear c4
    have H' := am H
    clear H
    go_wp2
    repeat (go_quiet (fail); try go_wp2)
    go_loopg [9] k1 (fun kq v9 w' => ∃ (x9_2 : Int), v9 = .int .i64 x9_2 ∧ Aside0 (pack_longest.l1 kq l0 a1 x6_1 x7_1 x8_1 x9_2 = some (r1, r2)) ∧ Aside0 (kq ≤ k1) ∧ Aside0 (Below w.heap.size w w'))
    case atStart => exact ⟨(0), zr, H', ⟨Nat.le_refl _⟩, ⟨zb HB⟩⟩
    case round =>
     clear H'
     obtain ⟨x9_2, rfl, HA, HK2, HB⟩ := hrel
     cases gk with
     | zero => exact absurd HA.out (by simp [pack_longest.l1])
     | succ k2 =>
      have H := HA.out
      clear HA
      simp only [pack_longest.l1] at H
      by_cases c5 : x9_2 < 130
      ·
       rw [if_pos c5] at H
       have c5b0 : decide (x9_2 < 130) = true := decide_eq_true c5
       clear c5
       by_cases c6 : (wrap64 (a1 + x9_2)) < (l0.length : Int)
       ·
        rw [if_pos c6] at H
        have c6b0 : decide ((wrap64 (a1 + x9_2)) < (l0.length : Int)) = true := decide_eq_true c6
        clear c6
        obtain ⟨ji7, hji7⟩ : ∃ j_ : Int, (wrap64 (a1 + x9_2)) = j_ := ⟨_, rfl⟩
        (first | rw [hji7] at H | simp only [hji7] at H)
        (try rw [hji7] at c6b0)
        have hji7w : (IntKind.i64.wrap (a1 + x9_2)) = ji7 := (i64_w _).trans hji7
        by_cases c8 : 0 ≤ (ji7)
        ·
         rw [if_pos c8] at H
         have c8b0 : decide (0 ≤ (ji7)) = true := decide_eq_true c8
         clear c8
         obtain ⟨ji9, hji9⟩ : ∃ j_ : Int, (wrap64 ((ji7) - x8_1)) = j_ := ⟨_, rfl⟩
         (first | rw [hji9] at H | simp only [hji9] at H)
         have hji9w : (IntKind.i64.wrap ((ji7) - x8_1)) = ji9 := (i64_w _).trans hji9
         by_cases c10 : 0 ≤ (ji9)
         ·
          rw [if_pos c10] at H
          have c10b0 : decide (0 ≤ (ji9)) = true := decide_eq_true c10
          clear c10
          by_cases c11 : (ji9) < (l0.length : Int)
          ·
           rw [if_pos c11] at H
           have c11b0 : decide ((ji9) < (l0.length : Int)) = true := decide_eq_true c11
           clear c11
           by_cases c12 : (rd l0 (ji7)) = (rd l0 (ji9))
           ·
            rw [if_pos c12] at H
            have c12b0 : ((rd l0 (ji7)) == (rd l0 (ji9))) = true := beq_iff_eq.mpr c12
            have c12b1 : ((rd l0 (ji7)) != (rd l0 (ji9))) = false := bne_eq_false_iff_eq.mpr c12
            clear c12
            have H' := am H
            clear H
            have p305 : 0 ≤ ((ji7) : Int) := zo
            have q305 : (ji7) < (l0.length : Int) := zo
            obtain ⟨ad305, e305, hx305_0⟩ := Kd.at_int HR0.out (ji7) p305 q305
            cases e305
            replace hx305_0 := zx HB hx305_0
            replace p305 := eq_true p305
            replace q305 := eq_true q305
            have p306 : 0 ≤ ((ji9) : Int) := zo
            have q306 : (ji9) < (l0.length : Int) := zo
            obtain ⟨ad306, e306, hx306_0⟩ := Kd.at_int HR0.out (ji9) p306 q306
            obtain rfl : ad305 = ad306 := (by injection e306)
            replace hx306_0 := zx HB hx306_0
            replace p306 := eq_true p306
            replace q306 := eq_true q306
            go_wp2
            repeat (go_quiet (fail); try go_wp2)
            go_roundg k2
            case measure => have := HK1.out; have := HK2.out; omega
            case rel => exact ⟨(wrap64 (x9_2 + 1)), zr, H', ⟨by have := HK1.out; have := HK2.out; omega⟩, ⟨zb HB⟩⟩
           ·
            rw [if_neg c12] at H
            have c12b0 : ((rd l0 (ji7)) == (rd l0 (ji9))) = false := beq_eq_false_iff_ne.mpr c12
            have c12b1 : ((rd l0 (ji7)) != (rd l0 (ji9))) = true := bne_iff_ne.mpr c12
            by_cases c13 : x9_2 > x6_1
            ·
             rw [if_pos c13] at H
             have c13b0 : decide (x6_1 < x9_2) = true := decide_eq_true c13
             clear c13
             have H' := am H
             clear H
             have p305 : 0 ≤ ((ji7) : Int) := zo
             have q305 : (ji7) < (l0.length : Int) := zo
             obtain ⟨ad305, e305, hx305_0⟩ := Kd.at_int HR0.out (ji7) p305 q305
             cases e305
             replace hx305_0 := zx HB hx305_0
             replace p305 := eq_true p305
             replace q305 := eq_true q305
             have p306 : 0 ≤ ((ji9) : Int) := zo
             have q306 : (ji9) < (l0.length : Int) := zo
             obtain ⟨ad306, e306, hx306_0⟩ := Kd.at_int HR0.out (ji9) p306 q306
             obtain rfl : ad305 = ad306 := (by injection e306)
             replace hx306_0 := zx HB hx306_0
             replace p306 := eq_true p306
             replace q306 := eq_true q306
             go_wp2
             repeat (go_quiet (fail); try go_wp2)
             go_roundg k2
             case measure => have := HK1.out; have := HK2.out; omega
             case rel => exact ⟨(x9_2), (x8_1), (wrap64 (x8_1 + 1)), zr, zr, zr, H', ⟨by have := HK1.out; have := HK2.out; omega⟩, ⟨zb HB⟩⟩
            ·
             rw [if_neg c13] at H
             have c13b0 : decide (x6_1 < x9_2) = false := decide_eq_false c13
             clear c13
             have H' := am H
             clear H
             have p305 : 0 ≤ ((ji7) : Int) := zo
             have q305 : (ji7) < (l0.length : Int) := zo
             obtain ⟨ad305, e305, hx305_0⟩ := Kd.at_int HR0.out (ji7) p305 q305
             cases e305
             replace hx305_0 := zx HB hx305_0
             replace p305 := eq_true p305
             replace q305 := eq_true q305
             have p306 : 0 ≤ ((ji9) : Int) := zo
             have q306 : (ji9) < (l0.length : Int) := zo
             obtain ⟨ad306, e306, hx306_0⟩ := Kd.at_int HR0.out (ji9) p306 q306
             obtain rfl : ad305 = ad306 := (by injection e306)
             replace hx306_0 := zx HB hx306_0
             replace p306 := eq_true p306
             replace q306 := eq_true q306
             go_wp2
             repeat (go_quiet (fail); try go_wp2)
             go_roundg k2
             case measure => have := HK1.out; have := HK2.out; omega
             case rel => exact ⟨(x6_1), (x7_1), (wrap64 (x8_1 + 1)), zr, zr, zr, H', ⟨by have := HK1.out; have := HK2.out; omega⟩, ⟨zb HB⟩⟩
          ·
           rw [if_neg c11] at H
           exact absurd H (by simp)
         ·
          rw [if_neg c10] at H
          exact absurd H (by simp)
        ·
         rw [if_neg c8] at H
         exact absurd H (by simp)
       ·
        rw [if_neg c6] at H
        have c6b0 : decide ((wrap64 (a1 + x9_2)) < (l0.length : Int)) = false := decide_eq_false c6
        clear c6
        by_cases c14 : x9_2 > x6_1
        ·
         rw [if_pos c14] at H
         have c14b0 : decide (x6_1 < x9_2) = true := decide_eq_true c14
         clear c14
         have H' := am H
         clear H
         go_wp2
         repeat (go_quiet (fail); try go_wp2)
         go_roundg k2
         case measure => have := HK1.out; have := HK2.out; omega
         case rel => exact ⟨(x9_2), (x8_1), (wrap64 (x8_1 + 1)), zr, zr, zr, H', ⟨by have := HK1.out; have := HK2.out; omega⟩, ⟨zb HB⟩⟩
        ·
         rw [if_neg c14] at H
         have c14b0 : decide (x6_1 < x9_2) = false := decide_eq_false c14
         clear c14
         have H' := am H
         clear H
         go_wp2
         repeat (go_quiet (fail); try go_wp2)
         go_roundg k2
         case measure => have := HK1.out; have := HK2.out; omega
         case rel => exact ⟨(x6_1), (x7_1), (wrap64 (x8_1 + 1)), zr, zr, zr, H', ⟨by have := HK1.out; have := HK2.out; omega⟩, ⟨zb HB⟩⟩
      ·
       rw [if_neg c5] at H
       have c5b0 : decide (x9_2 < 130) = false := decide_eq_false c5
       clear c5
       by_cases c15 : x9_2 > x6_1
       ·
        rw [if_pos c15] at H
        have c15b0 : decide (x6_1 < x9_2) = true := decide_eq_true c15
        clear c15
        have H' := am H
        clear H
        go_wp2
        repeat (go_quiet (fail); try go_wp2)
        go_roundg k2
        case measure => have := HK1.out; have := HK2.out; omega
        case rel => exact ⟨(x9_2), (x8_1), (wrap64 (x8_1 + 1)), zr, zr, zr, H', ⟨by have := HK1.out; have := HK2.out; omega⟩, ⟨zb HB⟩⟩
       ·
        rw [if_neg c15] at H
        have c15b0 : decide (x6_1 < x9_2) = false := decide_eq_false c15
        clear c15
        have H' := am H
        clear H
        go_wp2
        repeat (go_quiet (fail); try go_wp2)
        go_roundg k2
        case measure => have := HK1.out; have := HK2.out; omega
        case rel => exact ⟨(x6_1), (x7_1), (wrap64 (x8_1 + 1)), zr, zr, zr, H', ⟨by have := HK1.out; have := HK2.out; omega⟩, ⟨zb HB⟩⟩
   ·
    rw [if_neg c4] at H
    have c4b0 : decide (x8_1 ≤ (ji3)) = false := decide_eq_false c4
    clear c4
    simp only [Option.some.injEq, Prod.mk.injEq] at H
    obtain ⟨rfl, rfl⟩ := H
    go_wp2
    repeat (go_quiet (fail); try go_wp2)
    go_ret2
    exact ⟨by first | rfl | (simp [errW_none, errW_some] <;> rfl) | (simp only [← hji3]; first | rfl | (simp [errW_none, errW_some] <;> rfl)) | (simp [*, errW_none, errW_some] <;> rfl), zb HB⟩
def pack_Pack.flush (l0 out : List Int) (beg fin : Int) : Option (List Int) :=
 if beg < fin then (if out.length + (fin - beg).toNat + 1 < 140737488355328 then some ((out ++ [(fin - beg - 1) % 256]) ++ ((l0.take fin.toNat).drop beg.toNat)) else none) else some out
structure pack_Pack.St (w0 w : World) (g : Nat) (v : Value) (A0 : Option Addr) (c0 : Nat) (l0 out : List Int) (beg : Int) : Prop where
 b : w.heap[g]? = some (.cells #[.slice A0 l0.length c0] 27 (0, 0))
 o : w.heap[g + 1]? = some (.cells #[v] 27 (0, 0))
 r : Kd.R (Kd.int .u8) 5 w w0.heap.size (fun k_ => g + 3 ≤ k_) v out
 n : w.heap[g + 2]? = some (.cells #[.int .i64 beg] 3 (0, 0))
 B : Below w0.heap.size w0 w
 g0 : w0.heap.size ≤ g
section
variable {w0 w w1 : World} {g : Nat} {v v1 : Value} {A0 : Option Addr} {c0 : Nat} {l0 out out1 : List Int} {beg : Int}
theorem pack_Pack.St.drewN (S : pack_Pack.St w0 w g v A0 c0 l0 out beg) (m : Nat) : pack_Pack.St w0 (w.drewN m) g v A0 c0 l0 out beg := ⟨S.b, S.o, Kd.R_drewN S.r m, S.n, pw_below_drewN S.B m, S.g0⟩
theorem pack_Pack.St.drew (S : pack_Pack.St w0 w g v A0 c0 l0 out beg) : pack_Pack.St w0 w.drew g v A0 c0 l0 out beg := ⟨S.b, S.o, Kd.R_drew S.r, S.n, S.B.drew, S.g0⟩
theorem pack_Pack.St.below (S : pack_Pack.St w0 w g v A0 c0 l0 out beg) (h : Below w.heap.size w w1) : pack_Pack.St w0 w1 g v A0 c0 l0 out beg := by
 have lb := lt_of_block S.b
 have lo := lt_of_block S.o
 have ln := lt_of_block S.n
 exact ⟨(h.block _ lb).trans S.b, (h.block _ lo).trans S.o, Kd.R_below S.r h, (h.block _ ln).trans S.n, below_then S.B S.B.size h, S.g0⟩
theorem pack_Pack.St.grown (S : pack_Pack.St w0 w g v A0 c0 l0 out beg) (hg : w.grownBy w1 v.ownBlock) (hb : Below w0.heap.size w0 w1) (hr : Kd.R (Kd.int .u8) 5 w1 w0.heap.size (fun k_ => g + 3 ≤ k_) v1 out1) : pack_Pack.St w0 (w1.setCell ⟨g + 1, 0, none⟩ v1) g v1 A0 c0 l0 out1 beg := by
 have lb := lt_of_block S.b
 have lo := lt_of_block S.o
 have ln := lt_of_block S.n
 have hne : ∀ k, k < g + 3 → some k ≠ v.ownBlock := fun k hk he => by have := S.r.1 k he.symm; omega
 refine ⟨?_, ?_, ?_, ?_, ?_, S.g0⟩
 ·
  rw [Below.heap_setCell _ _ _ _ (by show g ≠ g + 1; omega)]; exact (hg.block _ lb (hne _ (by omega))).trans S.b
 ·
  exact one_setCell ((hg.block _ lo (hne _ (by omega))).trans S.o)
 ·
  exact Kd.R_far hr (fun k hk => by show k ≠ g + 1; omega) _
 ·
  rw [Below.heap_setCell _ _ _ _ (by show g + 2 ≠ g + 1; omega)]; exact (hg.block _ ln (hne _ (by omega))).trans S.n
 ·
  exact below_set hb (by have := S.g0; omega)
theorem pack_Pack.St.grown_o (S : pack_Pack.St w0 w g v A0 c0 l0 out beg) (hg : w.grownBy w1 v.ownBlock) : w1.cell? ⟨g + 1, 0, none⟩ = some v ∧ w1.frozen? ⟨g + 1, 0, none⟩ = false := by
 have lo := lt_of_block S.o
 have hb := (hg.block _ lo (fun he => by have := S.r.1 _ he.symm; omega)).trans S.o
 exact ⟨cell_of_one hb, free_of_one hb⟩
theorem pack_Pack.St.setBeg (S : pack_Pack.St w0 w g v A0 c0 l0 out beg) (z : Int) : pack_Pack.St w0 (w.setCell ⟨g + 2, 0, none⟩ (.int .i64 z)) g v A0 c0 l0 out z :=
 ⟨by rw [Below.heap_setCell _ _ _ _ (by show g ≠ g + 2; omega)]; exact S.b, by rw [Below.heap_setCell _ _ _ _ (by show g + 1 ≠ g + 2; omega)]; exact S.o, Kd.R_far S.r (fun k hk => by show k ≠ g + 2; omega) _, one_setCell S.n, below_set S.B (by have := S.g0; omega), S.g0⟩
end
set_option maxHeartbeats 4000000 in
set_option maxRecDepth 100000 in
theorem pack_Pack.flush_calls (w0 w : World) (g : Nat) (v : Value) (A0 : Option Addr) (c0 : Nat) (l0 out r : List Int) (beg fin : Int) (S : pack_Pack.St w0 w g v A0 c0 l0 out beg) (hb0 : 0 ≤ beg) (hf : fin ≤ l0.length) (hr0 : Kd.C (Kd.int .u8) w0 A0 l0.length l0) (hc0 : l0.length ≤ c0) (h : pack_Pack.flush l0 out beg fin = some r) :
  Calls Try.prog 77 #[.int .i64 fin, .pointer (some ⟨g + 2, 0, none⟩), .pointer (some ⟨g + 1, 0, none⟩), .pointer (some ⟨g, 0, none⟩)] w fun e w' => e = .returned (.tuple #[]) ∧ ∃ v', pack_Pack.St w0 w' g v' A0 c0 l0 r fin := by
 have HS := am S
 have HR0 := am hr0
 have HC0 := am hc0
 have q1 := cell_of_one S.b
 have q2 := cell_of_one S.o
 have q3 := cell_of_one S.n
 have f2 := free_of_one S.o
 have f3 := free_of_one S.n
 clear S hr0 hc0
 unfold pack_Pack.flush at h
 obtain ⟨Ao, co, eo⟩ := Kd.R_slice HS.out.r
 subst eo
 by_cases c : beg < fin
 ·
  rw [if_pos c] at h
  by_cases c1 : out.length + (fin - beg).toNat + 1 < 140737488355328
  ·
   rw [if_pos c1] at h
   obtain rfl := Option.some.inj h
   obtain ⟨y, hy⟩ : ∃ y : List Int, y = out ++ [(fin - beg - 1) % 256] := ⟨_, rfl⟩
   have HYL := am (show y.length = out.length + 1 by rw [hy]; simp)
   have HYE := am hy
   obtain ⟨i0, hi0, _, hsz, _⟩ := info_parts info5
   obtain ⟨A1, hcut, hA, hC⟩ := print_mid_of (P := Try.prog) (Value.int .u8) 0 27 5 .i64 .i64 Try.underlying27 hi0 hsz A0 c0 l0 beg fin hb0 (by omega) hf HC0.out
   have HR1 : Aside0 (Kd.C (Kd.int .u8) w0 A1 ((l0.take fin.toNat).drop beg.toNat).length ((l0.take fin.toNat).drop beg.toNat)) := am (Kd.C_of_reads (h1 := fun _ => rfl) (hA _ (Kd.reads_of_C HR0.out)))
   obtain ⟨zs, hz⟩ : ∃ zs : List Int, zs = (l0.take fin.toNat).drop beg.toNat := ⟨_, rfl⟩
   have HZL := am (show zs.length = (fin - beg).toNat by rw [hz, List.length_drop, List.length_take]; omega)
   rw [← hz] at hcut HR1
   rw [← hy, ← hz]
   obtain ⟨yz, hyz⟩ : ∃ yz : List Int, yz = y ++ zs := ⟨_, rfl⟩
   have HYZ := am hyz
   rw [← hyz]
   clear hyz
   clear hA hC hy hz
   go_enter Try.func77, Try.ntmps77
   go_wp2_with (first | ((with_reducible refine gate_builtin (b := .append) (xs := #[.tmp 8, .tmp 14]) rfl ?_); at_builtin; refine Kd.R_append (Kd.int .u8) (w0 := w0) w0.heap.size rfl (.tmp 8) (.tmp 14) 27 5 (.int .u8 0) 1 rfl Try.underlying27 info5 rfl (by decide) (by omega) (.slice Ao out.length co) out ((fin - beg - 1) % 256) [.int .u8 ((fin - beg - 1) % 256)] (fun k_ => g + 3 ≤ k_) (fun _ => False) rfl rfl ?aP (fun _ hk => hk.elim) ?aF ?aO ?aB ?aS ?aL ?_; (case aP => exact rfl); (case aB => exact HS.out.B); (case aF => exact (fun k_ hk => by have := lt_of_block HS.out.n; omega)); (case aO => exact HS.out.r); (case aS => exact HS.out.B.size); (case aL => omega); intro v1 w1 ho hb hg hat; rw [← HYE.out] at ho; have HX := am (HS.out.grown hg hb ho); obtain ⟨z1, z2⟩ := HS.out.grown_o hg; clear ho hb hg hat; obtain ⟨A2, c2, e2⟩ := Kd.R_slice HX.out.r; subst e2; have q4 := cell_of_one HX.out.b; have q5 := cell_of_one HX.out.o; have q6 := cell_of_one HX.out.n))
   refine start_ (n := 7) (S := fun w' => w'.cell? ⟨g, 0, none⟩ = some (.slice A0 l0.length c0) ∧ w'.cell? ⟨g + 1, 0, none⟩ = some (.slice A2 y.length c2) ∧ w'.cell? ⟨g + 2, 0, none⟩ = some (.int .i64 beg)) (ds := [5, 6]) #[false, false, false, false, false, false, false] (by kernel_rfl) rfl rfl ⟨q4, q5, q6⟩ (fun hHeld => ?_)
   have HX2 := am HX.out.drew
   generalize (w1.setCell ⟨g + 1, 0, none⟩ (.slice A2 y.length c2)).drew = w3 at HX2 hHeld ⊢
   have HR2 := am (Kd.C_below HR1.out HX2.out.B)
   refine pure_ (i := 3) (N := some 19) (v := ?_) (a' := ?_) #[false, false, false, true, false, false, false] rfl rfl (by kernel_rfl) (fun _ _ _ h => h) (Or.inl ⟨by rfl, ?_⟩) ?_ ?_
   rotate_left
   ·
    intro w'
    go_simp
    with_reducible rfl
   rotate_left
   ·
    simp only [Act.put, List.setIfInBounds_toArray, List.set_cons_zero, List.set_cons_succ, i64_w, i32_w]
    rfl
   refine take_ (i := 0) (N := some 16) (v := ?_) (a' := ?_) #[true, false, false, true, false, false, false] rfl rfl (by kernel_rfl) (fun _ _ _ h => h) (Or.inl ⟨by rfl, ?_⟩) hHeld ?_ ?_
   rotate_left
   ·
    rintro w' ⟨s0, s1, s2⟩
    go_simp
    with_reducible rfl
   rotate_left
   ·
    simp only [Act.put, List.setIfInBounds_toArray, List.set_cons_zero, List.set_cons_succ, i64_w, i32_w]
    rfl
   refine take_ (i := 1) (N := some 17) (v := ?_) (a' := ?_) #[true, true, false, true, false, false, false] rfl rfl (by kernel_rfl) (fun _ _ _ h => h) (Or.inl ⟨by rfl, ?_⟩) hHeld ?_ ?_
   rotate_left
   ·
    rintro w' ⟨s0, s1, s2⟩
    go_simp
    with_reducible rfl
   rotate_left
   ·
    simp only [Act.put, List.setIfInBounds_toArray, List.set_cons_zero, List.set_cons_succ, i64_w, i32_w]
    rfl
   refine take_ (i := 2) (N := some 18) (v := ?_) (a' := ?_) #[true, true, true, true, false, false, false] rfl rfl (by kernel_rfl) (fun _ _ _ h => h) (Or.inl ⟨by rfl, ?_⟩) hHeld ?_ ?_
   rotate_left
   ·
    rintro w' ⟨s0, s1, s2⟩
    go_simp
    with_reducible rfl
   rotate_left
   ·
    simp only [Act.put, List.setIfInBounds_toArray, List.set_cons_zero, List.set_cons_succ, i64_w, i32_w]
    rfl
   refine pure_ (i := 4) (N := some 20) (v := ?_) (a' := ?_) #[true, true, true, true, true, false, false] rfl rfl (by kernel_rfl) (fun _ _ _ h => h) (Or.inl ⟨by rfl, ?_⟩) ?_ ?_
   rotate_left
   ·
    intro w'
    go_simp
    with_reducible rfl
   rotate_left
   ·
    simp only [Act.put, List.setIfInBounds_toArray, List.set_cons_zero, List.set_cons_succ, i64_w, i32_w]
    rfl
   refine last_ (i := 5) (N := some 21) #[true, true, true, true, true, true, false] rfl rfl (by kernel_rfl) (by decide) (fun K hK => ?_)
   refine Kd.R_append_rows_step (Kd.int .u8) (w0 := w0) w0.heap.size (by rfl) (.tmp 16) (.tmp 20) 27 5 (.int .u8 0) 1 rfl Try.underlying27 info5 rfl (by decide) (by omega) _ y zs _ _ _ (fun k_ => g + 3 ≤ k_) (fun _ => False) rfl rfl ?bO ?bR (fun _ _ h => h) (fun _ h => h.elim) ?bF ?bB ?bS ?bL ?_
   case bR => exact HR2.out
   case bB => exact HX2.out.B
   case bF => exact (fun k_ hk => by have := lt_of_block HX2.out.n; omega)
   case bO => exact HX2.out.r
   case bS => exact HX2.out.B.size
   case bL => have := HYL.out; have := HZL.out; omega
   intro v2 w2 ho hb hg hat
   rw [← HYZ.out] at ho
   have HY := am (HX2.out.grown hg hb ho)
   obtain ⟨y1, y2⟩ := HX2.out.grown_o hg
   clear ho hb hg hat
   obtain ⟨A3, c3, e3⟩ := Kd.R_slice HY.out.r
   subst e3
   refine hK.out _ _ ?_
   clear hK K
   refine norm_ (a' := ?_) ?_ ?_
   rotate_left
   ·
    show Act.put _ (some 21) _ = _
    simp only [Act.put, List.setIfInBounds_toArray, List.set_cons_zero, List.set_cons_succ, i64_w, i32_w]
    rfl
   refine last_ (i := 6) (N := none) #[true, true, true, true, true, true, true] rfl rfl (by kernel_rfl) (by decide) (fun K hK => ?_)
   refine skip_ (w1 := ?_) (by rfl) rfl ?_ ?_
   rotate_left
   ·
    go_simp
    rfl
   refine hK.out _ _ ?_
   clear hK K
   refine done_ (by kernel_rfl) ?_
   have q7 := cell_of_one HY.out.b
   have q8 := cell_of_one HY.out.n
   have y3 := free_of_one HY.out.n
   go_wp2
   go_end0
   exact ⟨rfl, _, HY.out.setBeg fin⟩
  ·
   rw [if_neg c1] at h
   exact absurd h (by simp)
 ·
  rw [if_neg c] at h
  obtain rfl := Option.some.inj h
  go_enter Try.func77, Try.ntmps77
  go_wp2
  go_end0
  exact ⟨rfl, _, HS.out.setBeg fin⟩
def pack_Pack.go (k : Nat) (l0 : List Int) : Nat → Int → Int → List Int → Option (List Int)
 | 0, _, _, _ => none
 | n + 1, i, beg, out =>
  if i < (l0.length : Int) then
   (pack_longest.f k l0 i).bind fun p =>
    if p.1 < 3 then
     (if i + 1 - beg = 128 then (pack_Pack.flush l0 out beg (i + 1)).bind fun o => pack_Pack.go k l0 n (i + 1) (i + 1) o else pack_Pack.go k l0 n (i + 1) beg out)
    else
     (if p.1 ≤ 130 ∧ i + p.1 ≤ (l0.length : Int) then
      (pack_Pack.flush l0 out beg i).bind fun o => if o.length + 2 < 140737488355328 then pack_Pack.go k l0 n (i + p.1) (i + p.1) (o ++ [p.1 - 3 + 128, p.2 % 256]) else none
     else none)
  else pack_Pack.flush l0 out beg (l0.length : Int)
def pack_Pack.f (k : Nat) (l0 : List Int) : Option (List Int) := pack_Pack.go k l0 k 0 0 []
theorem pack_Pack.mono_go (l0 : List Int) : ∀ n k i beg out, LeO (pack_Pack.go k l0 n i beg out) (pack_Pack.go (k + 1) l0 (n + 1) i beg out) := by
 intro n
 induction n with
 | zero => intro k i beg out; exact fun r h => by simp [pack_Pack.go] at h
 | succ n ih =>
  intro k i beg out
  rw [pack_Pack.go, pack_Pack.go]
  by_cases c : i < (l0.length : Int)
  ·
   rw [if_pos c, if_pos c]
   refine LeO.bind (pack_longest.mono _ _ _) fun p => ?_
   by_cases c1 : p.1 < 3
   ·
    rw [if_pos c1, if_pos c1]
    by_cases c2 : i + 1 - beg = 128
    ·
     rw [if_pos c2, if_pos c2]
     exact LeO.bind (LeO.refl _) fun o => ih _ _ _ _
    ·
     rw [if_neg c2, if_neg c2]
     exact ih _ _ _ _
   ·
    rw [if_neg c1, if_neg c1]
    by_cases c2 : p.1 ≤ 130 ∧ i + p.1 ≤ (l0.length : Int)
    ·
     rw [if_pos c2, if_pos c2]
     refine LeO.bind (LeO.refl _) fun o => ?_
     by_cases c3 : o.length + 2 < 140737488355328
     ·
      rw [if_pos c3, if_pos c3]
      exact ih _ _ _ _
     ·
      rw [if_neg c3, if_neg c3]
      exact LeO.refl _
    ·
     rw [if_neg c2, if_neg c2]
     exact LeO.refl _
  ·
   rw [if_neg c, if_neg c]
   exact LeO.refl _
theorem pack_Pack.mono : ∀ a0 k, LeO (pack_Pack.f k a0) (pack_Pack.f (k + 1) a0) := fun a0 k => pack_Pack.mono_go a0 k k 0 0 []
set_option maxHeartbeats 4000000 in
set_option maxRecDepth 100000 in
theorem pack_Pack.calls (k : Nat) (A0 : Option Addr) (c0 : Nat) (l0 : List Int) (r : List Int) (w : World) (hr0 : Kd.C (Kd.int .u8) w A0 l0.length l0) (hc0 : l0.length ≤ c0) (h : pack_Pack.f k l0 = some r) :
  Calls Try.prog 51 #[.slice A0 l0.length c0] w fun e w' => ∃ v0_ : Value, e = .returned (v0_) ∧ Kd.R (Kd.int .u8) 5 w' w.heap.size (fun _ => True) v0_ r ∧ Below w.heap.size w w' := by
 have HR0 := am hr0
 have hc0' := hc0
 have HC0 := am hc0
 have hmax : l0.length ≤ 9223372036854775807 := hr0.2.1
 have H' := am h
 obtain ⟨W3, hW3⟩ : ∃ W3 : World, W3 = ((w.alloc (.cells #[.slice A0 l0.length c0] 27)).alloc (.cells #[.slice none 0 0] 27)).alloc (.cells #[.int .i64 0] 3) := ⟨_, rfl⟩
 have HS := am (show pack_Pack.St w W3 w.heap.size (.slice none 0 0) A0 c0 l0 [] 0 by
  subst hW3
  refine ⟨?_, ?_, Kd.R_nil _ _ _ _ _, ?_, below_alloc (below_alloc (below_alloc (Below.refl _ _) _) _) _, Nat.le_refl _⟩
  ·
   rw [heap_alloc_old _ _ (by simp; omega), heap_alloc_old _ _ (by simp), heap_alloc_new]
  ·
   rw [heap_alloc_old _ _ (by simp), show w.heap.size + 1 = (w.alloc (.cells #[.slice A0 l0.length c0] 27)).heap.size by simp, heap_alloc_new]
  ·
   rw [show w.heap.size + 2 = ((w.alloc (.cells #[.slice A0 l0.length c0] 27)).alloc (.cells #[.slice none 0 0] 27)).heap.size by simp, heap_alloc_new])
 clear hr0 hc0 h
 have hmf : ∀ (fn : Fn) (first cap : Array Value) (w : World), (Instr.makeFunc fn first cap).run Try.prog w = .ok (.func fn first cap) w := fun _ _ _ _ => rfl
 go_enter Try.func51, Try.ntmps51
 go_wp2
 rw [← hW3]
 clear hW3
 go_loopg [6] k (fun kq v6 w' => ∃ (i beg : Int) (v : Value) (out : List Int), v6 = .int .i64 i ∧ 0 ≤ beg ∧ beg ≤ i ∧ i ≤ (l0.length : Int) ∧ Aside0 (pack_Pack.go k l0 kq i beg out = some r) ∧ Aside0 (pack_Pack.St w w' w.heap.size v A0 c0 l0 out beg))
 case atStart => exact ⟨0, 0, _, [], rfl, by omega, by omega, by omega, H', HS⟩
 case round =>
  clear H' HS
  obtain ⟨i, beg, v, out, rfl, hb0, hbi, hil, HA, HS⟩ := hrel
  have q1 := cell_of_one HS.out.b
  have q3 : wr.cell? ⟨w.heap.size + 1 + 1, 0, none⟩ = some (.int .i64 beg) := cell_of_one HS.out.n
  cases gk with
  | zero => exact absurd HA.out (by simp [pack_Pack.go])
  | succ k1 =>
   have H := HA.out
   clear HA
   rw [pack_Pack.go] at H
   by_cases c : i < (l0.length : Int)
   ·
    rw [if_pos c] at H
    obtain ⟨p, hp, H⟩ := Option.bind_eq_some_iff.mp H
    obtain ⟨l, d⟩ := p
    have HP := am hp
    clear hp
    by_cases c1 : l < 3
    ·
     rw [if_pos c1] at H
     by_cases c2 : i + 1 - beg = 128
     ·
      rw [if_pos c2] at H
      obtain ⟨o, ho, H⟩ := Option.bind_eq_some_iff.mp H
      have HF := am ho
      have H' := am H
      clear ho H
      go_wp2_with (first | (go_at_call 78; refine (pack_longest.calls k A0 c0 l0 i l d _ (Kd.C_below HR0.out HS.out.B) HC0.out HP.out).mono ?_; rintro e w5 ⟨rfl, hb⟩; have HS1 := am (HS.out.below hb); clear hb; have q4 := cell_of_one HS1.out.b; have q5 := cell_of_one HS1.out.n) | (go_at_call 77; refine (pack_Pack.flush_calls w _ w.heap.size v A0 c0 l0 out o beg (i + 1) HS1.out hb0 (by omega) HR0.out HC0.out HF.out).mono ?_; rintro e w6 ⟨rfl, v', hs⟩; have HS2 := am hs; clear hs))
      go_roundg k1
      case measure => omega
      case rel => exact ⟨i + 1, i + 1, v', o, rfl, by omega, by omega, by omega, H', HS2⟩
     ·
      rw [if_neg c2] at H
      have H' := am H
      clear H
      go_wp2_with (go_at_call 78; refine (pack_longest.calls k A0 c0 l0 i l d _ (Kd.C_below HR0.out HS.out.B) HC0.out HP.out).mono ?_; rintro e w5 ⟨rfl, hb⟩; have HS1 := am (HS.out.below hb); clear hb; have q4 := cell_of_one HS1.out.b; have q5 := cell_of_one HS1.out.n)
      go_roundg k1
      case measure => omega
      case rel => exact ⟨i + 1, beg, v, out, rfl, by omega, by omega, by omega, H', HS1⟩
    ·
     rw [if_neg c1] at H
     by_cases c2 : l ≤ 130 ∧ i + l ≤ (l0.length : Int)
     ·
      rw [if_pos c2] at H
      obtain ⟨o, ho, H⟩ := Option.bind_eq_some_iff.mp H
      have HF := am ho
      clear ho
      obtain ⟨c3, c4⟩ := c2
      by_cases c5 : o.length + 2 < 140737488355328
      ·
       rw [if_pos c5] at H
       have HL := am c5
       obtain ⟨oz, hoz⟩ : ∃ oz : List Int, oz = o ++ [l - 3 + 128, d % 256] := ⟨_, rfl⟩
       rw [← hoz] at H
       have HOZ := am hoz
       clear hoz
       have H' := am H
       clear H c5
       go_wp2_with (first | (go_at_call 78; refine (pack_longest.calls k A0 c0 l0 i l d _ (Kd.C_below HR0.out HS.out.B) HC0.out HP.out).mono ?_; rintro e w5 ⟨rfl, hb⟩; have HS1 := am (HS.out.below hb); clear hb; have q4 := cell_of_one HS1.out.b; have q5 := cell_of_one HS1.out.n) | (go_at_call 77; refine (pack_Pack.flush_calls w _ w.heap.size v A0 c0 l0 out o beg i HS1.out hb0 (by omega) HR0.out HC0.out HF.out).mono ?_; rintro e w6 ⟨rfl, v', hs⟩; have HS2 := am hs; clear hs; obtain ⟨A2, c2, e2⟩ := Kd.R_slice HS2.out.r; subst e2; have q6 := cell_of_one HS2.out.b; have q7 := cell_of_one HS2.out.o; have q8 : World.cell? w6 ⟨w.heap.size + 1 + 1, 0, none⟩ = some (.int .i64 i) := cell_of_one HS2.out.n; have f7 := free_of_one HS2.out.o; have f8 : World.frozen? w6 ⟨w.heap.size + 1 + 1, 0, none⟩ = false := free_of_one HS2.out.n) | ((with_reducible refine gate_builtin (b := .append) (xs := #[.tmp 34, .tmp 41]) rfl ?_); at_builtin; refine Kd.R_append_rows (Kd.int .u8) (w0 := w) w.heap.size rfl (.tmp 34) (.tmp 41) 27 5 (.int .u8 0) 1 rfl Try.underlying27 info5 rfl (by decide) (by omega) _ o [l - 3 + 128, d % 256] (some ⟨w6.heap.size, 0, none⟩) 2 2 (fun k_ => w.heap.size + 3 ≤ k_) (fun _ => False) rfl rfl ?aO ?aR (fun _ _ h => h) (fun _ h => h.elim) ?aF ?aB ?aS ?aL ?_; (case aR => exact ow_reads_new w6 .u8 [l - 3 + 128, d % 256] 5 (0, 0) (by simp)); (case aB => exact below_alloc HS2.out.B _); (case aF => exact (fun k_ hk => by have := lt_of_block HS2.out.n; simp at hk; omega)); (case aO => exact Kd.R_alloc HS2.out.r _); (case aS => exact (below_alloc HS2.out.B _).size); (case aL => have := HL.out; omega); intro v3 w7 ho hb hg hat; rw [← HOZ.out] at ho; obtain ⟨A3, c3_, e3⟩ := Kd.R_slice ho; subst e3; have HS3 := am ((HS2.out.below (below_alloc (Below.refl _ _) _)).grown hg hb ho); obtain ⟨z1, z2⟩ := (HS2.out.below (below_alloc (Below.refl _ _) _)).grown_o hg; clear ho hb hg hat; have q9 : World.cell? _ ⟨w.heap.size + 1 + 1, 0, none⟩ = _ := cell_of_one HS3.out.n; have f9 : World.frozen? _ ⟨w.heap.size + 1 + 1, 0, none⟩ = false := free_of_one HS3.out.n))
       go_roundg k1
       case measure => omega
       case rel => exact ⟨i + l, i + l, _, _, rfl, by omega, by omega, by omega, H', ⟨HS3.out.setBeg (i + l)⟩⟩
      ·
       rw [if_neg c5] at H
       exact absurd H (by simp)
     ·
      rw [if_neg c2] at H
      exact absurd H (by simp)
   ·
    rw [if_neg c] at H
    obtain rfl : i = (l0.length : Int) := by omega
    have HF := am H
    clear H
    go_wp2_with (go_at_call 77; refine (pack_Pack.flush_calls w _ w.heap.size v A0 c0 l0 out r beg (l0.length : Int) HS.out hb0 (by omega) HR0.out HC0.out HF.out).mono ?_; rintro e w6 ⟨rfl, v', hs⟩; have HS2 := am hs; clear hs; obtain ⟨A2, c2, e2⟩ := Kd.R_slice HS2.out.r; subst e2; have q7 := cell_of_one HS2.out.o)
    go_ret
    exact ⟨_, rfl, Kd.R_mono HS2.out.r (fun _ _ => trivial), HS2.out.B⟩
end Go.Proofs.Ytnmmkgagbfniiaa.A
end
