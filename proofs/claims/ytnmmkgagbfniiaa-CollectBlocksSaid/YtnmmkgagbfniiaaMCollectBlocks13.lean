/- MCollectBlocks13: texts of this session and of the kit's printer on the road to the statement CollectBlocks, laid into one and rid of what it doesn't need. No condition beyond what each fact names. -/
import Derived.Test.YtnmmkgagbfniiaaMCollectBlocks3
import Derived.Test.YtnmmkgagbfniiaaMCollectBlocks2
import Derived.Test.YtnmmkgagbfniiaaMCollectBlocks12
section
namespace Go.Proofs.Ytnmmkgagbfniiaa.A
open Go.RowKit Go.Proofs.YtnmmkgagbfniiaaW.PrintWords Go.Proofs.YtnmmkgagbfniiaaW.PrintLast Go.Proofs.YtnmmkgagbfniiaaW.PrintMore
attribute [local go_sem] max2_int min2_int max_two min_two max_three min_three max_four min_four
set_option linter.unusedVariables false
set_option linter.unusedSimpArgs false
mutual
def j11_Unpack.l0 : Nat → List Int → Int → List Int → Int → Option (List Int × Int)
 | 0, _, _, _, _ => none
 | k + 1, x0, x1, x6, x7 => if x7 < (x0.length : Int) then (if 0 ≤ x7 then (if (wrap64 (rd x0 x7)) < 128 then (if (wrap64 ((wrap64 (rd x0 x7)) + 1)) > (wrap64 ((wrap64 ((x0.length : Int) - x7)) - 1)) then (some (([] : List Int), 9)) else (if (wrap64 ((wrap64 (rd x0 x7)) + 1)) > (wrap64 (x1 - (x6.length : Int))) then (some (([] : List Int), 2)) else (if 0 ≤ (wrap64 (x7 + 1)) then (if (wrap64 (x7 + 1)) ≤ (wrap64 ((wrap64 (x7 + (wrap64 (rd x0 x7)))) + 2)) then (if (wrap64 ((wrap64 (x7 + (wrap64 (rd x0 x7)))) + 2)) ≤ (x0.length : Int) then (if x6.length + ((x0.take ((wrap64 ((wrap64 (x7 + (wrap64 (rd x0 x7)))) + 2)) : Int).toNat).drop ((wrap64 (x7 + 1)) : Int).toNat).length < 140737488355328 then (j11_Unpack.l0 k x0 x1 (x6 ++ ((x0.take ((wrap64 ((wrap64 (x7 + (wrap64 (rd x0 x7)))) + 2)) : Int).toNat).drop ((wrap64 (x7 + 1)) : Int).toNat)) (wrap64 ((wrap64 (x7 + (wrap64 (rd x0 x7)))) + 2))) else (none)) else (none)) else (none)) else (none)))) else (if (wrap64 (x7 + 1)) ≥ (x0.length : Int) then (some (([] : List Int), 9)) else (if 0 ≤ (wrap64 (x7 + 1)) then (if (wrap64 (x7 + 1)) < (x0.length : Int) then (if (wrap64 (rd x0 (wrap64 (x7 + 1)))) = 0 then (j11_Unpack.j1 k x0 x1 x6 x7 (wrap64 (rd x0 x7)) (wrap64 (rd x0 (wrap64 (x7 + 1)))) true) else (j11_Unpack.j1 k x0 x1 x6 x7 (wrap64 (rd x0 x7)) (wrap64 (rd x0 (wrap64 (x7 + 1)))) (decide ((wrap64 (rd x0 (wrap64 (x7 + 1)))) > (x6.length : Int))))) else (none)) else (none)))) else (none)) else (some (x6, 0))
def j11_Unpack.j1 : Nat → List Int → Int → List Int → Int → Int → Int → Bool → Option (List Int × Int)
 | 0, _, _, _, _, _, _, _ => none
 | k + 1, x0, x1, x6, x7, x8, x9, x69 => if x69 = true then (some (([] : List Int), 11)) else (if (wrap64 (x8 - 125)) > (wrap64 (x1 - (x6.length : Int))) then (some (([] : List Int), 2)) else (j11_Unpack.l1 k x0 x1 x6 x7 x8 x9 0))
def j11_Unpack.l1 : Nat → List Int → Int → List Int → Int → Int → Int → Int → Option (List Int × Int)
 | 0, _, _, _, _, _, _, _ => none
 | k + 1, x0, x1, x6, x7, x8, x9, x10 => if x10 < (wrap64 (x8 - 125)) then (if 0 ≤ (wrap64 ((x6.length : Int) - x9)) then (if (wrap64 ((x6.length : Int) - x9)) < (x6.length : Int) then (if x6.length < 140737488355328 then (j11_Unpack.l1 k x0 x1 (x6 ++ [rd x6 (wrap64 ((x6.length : Int) - x9))]) x7 x8 x9 (wrap64 (x10 + 1))) else (none)) else (none)) else (none)) else (j11_Unpack.l0 k x0 x1 x6 (wrap64 (x7 + 2)))
end
def j11_Unpack.f (k : Nat) (l0 : List Int) (a1 : Int) : Option (List Int × Int) := j11_Unpack.l0 k l0 a1 ([] : List Int) 0
theorem j11_Unpack.mono_l : ∀ k, (∀ y0 y1 y2 y3, LeO (j11_Unpack.l0 k y0 y1 y2 y3) (j11_Unpack.l0 (k + 1) y0 y1 y2 y3)) ∧ (∀ y0 y1 y2 y3 y4 y5 y6, LeO (j11_Unpack.j1 k y0 y1 y2 y3 y4 y5 y6) (j11_Unpack.j1 (k + 1) y0 y1 y2 y3 y4 y5 y6)) ∧ (∀ y0 y1 y2 y3 y4 y5 y6, LeO (j11_Unpack.l1 k y0 y1 y2 y3 y4 y5 y6) (j11_Unpack.l1 (k + 1) y0 y1 y2 y3 y4 y5 y6))
 | 0 => ⟨fun _ _ _ _ r h => by simp [j11_Unpack.l0] at h, fun _ _ _ _ _ _ _ r h => by simp [j11_Unpack.j1] at h, fun _ _ _ _ _ _ _ r h => by simp [j11_Unpack.l1] at h⟩
 | k + 1 => by
  obtain ⟨ih0, ih1, ih2⟩ := j11_Unpack.mono_l k
  refine ⟨?_, ?_, ?_⟩
  ·
   intro y0 y1 y2 y3
   unfold j11_Unpack.l0
   exact zM
  ·
   intro y0 y1 y2 y3 y4 y5 y6
   unfold j11_Unpack.j1
   exact zM
  ·
   intro y0 y1 y2 y3 y4 y5 y6
   unfold j11_Unpack.l1
   exact zM
theorem j11_Unpack.mono : ∀ a0 a1 k, LeO (j11_Unpack.f k a0 a1) (j11_Unpack.f (k + 1) a0 a1) := by
 intro a0 a1 k
 obtain ⟨ih0, ih1, ih2⟩ := j11_Unpack.mono_l k
 unfold j11_Unpack.f
 exact zM
set_option maxHeartbeats 8000000 in
set_option maxRecDepth 100000 in
theorem j11_Unpack.calls (k : Nat) (A0 : Option Addr) (c0 : Nat) (l0 : List Int) (a1 : Int) (r1 : List Int) (r2 : Int) (w : World) (hr0 : Kd.C (Kd.int .u8) w A0 l0.length l0) (hc0 : l0.length ≤ c0) (h : j11_Unpack.f k l0 a1 = some (r1, r2)) :
  Calls Try.prog 66 #[.slice A0 l0.length c0, .int .i64 a1] w fun e w' => ∃ v0_ : Value, e = .returned (.tuple #[v0_, .int .i64 r2]) ∧ Kd.R (Kd.int .u8) 5 w' w.heap.size (fun _ => True) v0_ r1 ∧ Below w.heap.size w w' := by
 have HR0 := am hr0
 have HC0 := am hc0
 clear hr0 hc0
 have HB := am (Below.refl w.heap.size w)
 have H : (j11_Unpack.l0 k l0 a1 ([] : List Int) 0) = some (r1, r2) := h
 clear h
 have H' := am H
 clear H
 go_enter Try.func66, Try.ntmps66
 go_wp2
 go_loopg [6, 7] k (fun kq v6 v7 w' => ∃ (x6_1 : List Int) (x7_1 : Int), v7 = .int .i64 x7_1 ∧ Aside0 (j11_Unpack.l0 kq l0 a1 x6_1 x7_1 = some (r1, r2)) ∧ Aside0 (kq ≤ k) ∧ Aside0 (Kd.R (Kd.int .u8) 5 w' w.heap.size (fun _ => True) v6 x6_1) ∧ Aside0 (Below w.heap.size w w'))
 case atStart => exact ⟨(([] : List Int)), (0), zr, H', ⟨Nat.le_refl _⟩, ⟨by first | exact Kd.R_nil _ _ _ _ _ | exact Kd.N_nil _ _ _ _ _ | exact Kd.V_nil _ _ _ _ _ | exact Kd.Q_nil _ _ _ _ _ | exact Kd.S_nil _ _ _ _ _⟩, ⟨zb HB⟩⟩
 case round =>
  clear H'
  try clear p2
  obtain ⟨x6_1, x7_1, rfl, HA, HK1, HO_6, HB⟩ := hrel
  cases gk with
  | zero => exact absurd HA.out (by simp [j11_Unpack.l0])
  | succ k1 =>
   have H := HA.out
   clear HA
   simp only [j11_Unpack.l0] at H
   by_cases c3 : x7_1 < (l0.length : Int)
   ·
    rw [if_pos c3] at H
    have c3b0 := decide_eq_true c3
    clear c3
    by_cases c4 : 0 ≤ x7_1
    ·
     rw [if_pos c4] at H
     have c4b0 := decide_eq_true c4
     clear c4
     by_cases c5 : (wrap64 (rd l0 x7_1)) < 128
     ·
      rw [if_pos c5] at H
      have c5b0 := decide_eq_true c5
      clear c5
      by_cases c6 : (wrap64 ((wrap64 (rd l0 x7_1)) + 1)) > (wrap64 ((wrap64 ((l0.length : Int) - x7_1)) - 1))
      ·
       rw [if_pos c6] at H
       have c6b0 : decide ((wrap64 ((wrap64 ((l0.length : Int) - x7_1)) - 1)) < (wrap64 ((wrap64 (rd l0 x7_1)) + 1))) = true := decide_eq_true c6
       clear c6
       simp only [Option.some.injEq, Prod.mk.injEq] at H
       obtain ⟨rfl, rfl⟩ := H
       have p588 : 0 ≤ (x7_1 : Int) := zo
       have q588 : x7_1 < (l0.length : Int) := zo
       obtain ⟨ad588, e588, hx588_0⟩ := Kd.at_int HR0.out x7_1 p588 q588
       cases e588
       replace hx588_0 := zx HB hx588_0
       replace p588 := eq_true p588
       replace q588 := eq_true q588
       go_wp2
       go_ret2
       exact y24
      ·
       rw [if_neg c6] at H
       have c6b0 : decide ((wrap64 ((wrap64 ((l0.length : Int) - x7_1)) - 1)) < (wrap64 ((wrap64 (rd l0 x7_1)) + 1))) = false := decide_eq_false c6
       clear c6
       by_cases c7 : (wrap64 ((wrap64 (rd l0 x7_1)) + 1)) > (wrap64 (a1 - (x6_1.length : Int)))
       ·
        rw [if_pos c7] at H
        have c7b0 : decide ((wrap64 (a1 - (x6_1.length : Int))) < (wrap64 ((wrap64 (rd l0 x7_1)) + 1))) = true := decide_eq_true c7
        clear c7
        simp only [Option.some.injEq, Prod.mk.injEq] at H
        obtain ⟨rfl, rfl⟩ := H
        have p588 : 0 ≤ (x7_1 : Int) := zo
        have q588 : x7_1 < (l0.length : Int) := zo
        obtain ⟨ad588, e588, hx588_0⟩ := Kd.at_int HR0.out x7_1 p588 q588
        cases e588
        replace hx588_0 := zx HB hx588_0
        replace p588 := eq_true p588
        replace q588 := eq_true q588
        obtain ⟨Ao8, co8, eo8⟩ := Kd.R_slice HO_6.out
        subst eo8
        go_wp2
        go_ret2
        exact y24
       ·
        rw [if_neg c7] at H
        have c7b0 : decide ((wrap64 (a1 - (x6_1.length : Int))) < (wrap64 ((wrap64 (rd l0 x7_1)) + 1))) = false := decide_eq_false c7
        clear c7
        obtain ⟨ji9, hji9⟩ : ∃ j_ : Int, (wrap64 (x7_1 + 1)) = j_ := ⟨_, rfl⟩
        (first | rw [hji9] at H | simp only [hji9] at H)
        have hji9w : (IntKind.i64.wrap (x7_1 + 1)) = ji9 := (i64_w _).trans hji9
        by_cases c10 : 0 ≤ (ji9)
        ·
         rw [if_pos c10] at H
         have c10b0 := eq_true c10
         have c10b1 : decide (0 ≤ (ji9)) = true := decide_eq_true c10
         clear c10
         by_cases c11 : (ji9) ≤ (wrap64 ((wrap64 (x7_1 + (wrap64 (rd l0 x7_1)))) + 2))
         ·
          rw [if_pos c11] at H
          have c11b0 := eq_true c11
          have c11b1 : decide ((ji9) ≤ (wrap64 ((wrap64 (x7_1 + (wrap64 (rd l0 x7_1)))) + 2))) = true := decide_eq_true c11
          by_cases c12 : (wrap64 ((wrap64 (x7_1 + (wrap64 (rd l0 x7_1)))) + 2)) ≤ (l0.length : Int)
          ·
           rw [if_pos c12] at H
           have c12b0 := eq_true c12
           have c12b1 : decide ((wrap64 ((wrap64 (x7_1 + (wrap64 (rd l0 x7_1)))) + 2)) ≤ (l0.length : Int)) = true := decide_eq_true c12
           by_cases c13 : x6_1.length + ((l0.take ((wrap64 ((wrap64 (x7_1 + (wrap64 (rd l0 x7_1)))) + 2)) : Int).toNat).drop ((ji9) : Int).toNat).length < 140737488355328
           ·
            rw [if_pos c13] at H
            have LMc13 := am c13
            clear c13
            obtain ⟨y590, hy590⟩ : ∃ y_ : List Int, y_ = (x6_1 ++ ((l0.take ((wrap64 ((wrap64 (x7_1 + (wrap64 (rd l0 x7_1)))) + 2)) : Int).toNat).drop ((ji9) : Int).toNat)) := ⟨_, rfl⟩
            replace H : (j11_Unpack.l0 k1 l0 a1 y590 (wrap64 ((wrap64 (x7_1 + (wrap64 (rd l0 x7_1)))) + 2))) = some (r1, r2) := by first | (rw [hy590]; with_reducible exact H) | (have H2_ := (Option.bind_some _ _).symm.trans H; rw [hy590]; with_reducible exact H2_) | (have H2_ := (Option.bind_some _ _).symm.trans H; with_reducible exact H2_) | with_reducible exact H | (rw [hy590]; exact H) | exact H
            have Ny590 := am hy590
            clear hy590
            have H' := am H
            clear H
            have p588 : 0 ≤ (x7_1 : Int) := zo
            have q588 : x7_1 < (l0.length : Int) := zo
            obtain ⟨ad588, e588, hx588_0⟩ := Kd.at_int HR0.out x7_1 p588 q588
            cases e588
            replace hx588_0 := zx HB hx588_0
            replace p588 := eq_true p588
            replace q588 := eq_true q588
            obtain ⟨Ao14, co14, eo14⟩ := Kd.R_slice HO_6.out
            subst eo14
            obtain ⟨i015, hi015, _, hsz15, _⟩ := info_parts info5
            obtain ⟨A15, hcut15, hA15, hC15⟩ := print_mid_of (P := Try.prog) (Value.int .u8) 0 27 5 .i64 .i64 Try.underlying27 hi015 hsz15 (some ad588) c0 l0 (ji9) (wrap64 ((wrap64 (x7_1 + (wrap64 (rd l0 x7_1)))) + 2)) zo (by first | omega | exact zo) zo HC0.out
            have HR589 := am (Kd.C_of_reads (h1 := fun _ => rfl) (hA15 _ (Kd.reads_of_C HR0.out)))
            have HC589 := am hC15
            clear hA15 hC15 hi015 hsz15
            go_wp2_with (first | ((with_reducible refine gate_builtin (b := .append) (xs := #[.tmp 37, .tmp 45]) rfl ?_); (try (refine gate_guard (by rfl) ?_; dsimp only)); at_builtin; refine Kd.R_append_rows (Kd.int .u8) (w0 := w) w.heap.size rfl (.tmp 37) (.tmp 45) 27 5 (.int .u8 0) 1 rfl Try.underlying27 info5 rfl (by decide) (by omega) (.slice Ao14 x6_1.length co14) x6_1 ((l0.take ((wrap64 ((wrap64 (x7_1 + (wrap64 (rd l0 x7_1)))) + 2)) : Int).toNat).drop ((ji9) : Int).toNat) _ _ _ (fun _ => True) (fun _ => False) rfl rfl ?aO ?aR (fun _ _ h => h) (fun _ h => h.elim) ?aF ?aB ?aS ?aL ?_; (case aR => first | (rw [← show ((l0.take ((wrap64 ((wrap64 (x7_1 + (wrap64 (rd l0 x7_1)))) + 2)) : Int).toNat).drop ((ji9) : Int).toNat).length = ((wrap64 ((wrap64 (x7_1 + (wrap64 (rd l0 x7_1)))) + 2)).toNat - (ji9).toNat) from y30]; repeat (first | exact (Kd.C_below HR589.out HB.out) | (with_reducible refine Kd.C_alloc ?_ _) | (with_reducible refine Kd.C_drewN ?_ _) | (with_reducible refine Kd.C_drew ?_))) | (repeat (first | exact (Kd.C_below HR589.out HB.out) | (with_reducible refine Kd.C_alloc ?_ _) | (with_reducible refine Kd.C_drewN ?_ _) | (with_reducible refine Kd.C_drew ?_)))); (case aB => exact (zb HB)); (case aF => exact y69); (case aO => exact (zR HO_6.out)); (case aS => exact y44); (case aL => have := LMc13.out; have hlx_ := (show ((l0.take ((wrap64 ((wrap64 (x7_1 + (wrap64 (rd l0 x7_1)))) + 2)) : Int).toNat).drop ((ji9) : Int).toNat).length = ((wrap64 ((wrap64 (x7_1 + (wrap64 (rd l0 x7_1)))) + 2)).toNat - (ji9).toNat) from y30); omega); intro v591 w16 ho hb hg hat; rw [← Ny590.out] at ho; have n0_ := am (hb); have n1_ := am (ho); clear HB; clear HO_6; have HB := n0_; have HO592 := n1_; clear n0_ n1_; clear ho hb hg hat))
            go_roundg k1
            case measure => have := HK1.out; omega
            case rel => exact ⟨(y590), (wrap64 ((wrap64 (x7_1 + (wrap64 (rd l0 x7_1)))) + 2)), zr, H', ⟨by have := HK1.out; omega⟩, ⟨by (with_reducible repeat (first | apply Kd.R_alloc | apply Kd.R_drewN | apply Kd.R_drew)); exact HO592.out⟩, ⟨zb HB⟩⟩
           ·
            rw [if_neg c13] at H
            exact absurd H (by simp)
          ·
           rw [if_neg c12] at H
           exact absurd H (by simp)
         ·
          rw [if_neg c11] at H
          exact absurd H (by simp)
        ·
         rw [if_neg c10] at H
         exact absurd H (by simp)
     ·
      rw [if_neg c5] at H
      have c5b0 := decide_eq_false c5
      clear c5
      by_cases c17 : (wrap64 (x7_1 + 1)) ≥ (l0.length : Int)
      ·
       rw [if_pos c17] at H
       have c17b0 : decide ((l0.length : Int) ≤ (wrap64 (x7_1 + 1))) = true := decide_eq_true c17
       clear c17
       simp only [Option.some.injEq, Prod.mk.injEq] at H
       obtain ⟨rfl, rfl⟩ := H
       have p588 : 0 ≤ (x7_1 : Int) := zo
       have q588 : x7_1 < (l0.length : Int) := zo
       obtain ⟨ad588, e588, hx588_0⟩ := Kd.at_int HR0.out x7_1 p588 q588
       cases e588
       replace hx588_0 := zx HB hx588_0
       replace p588 := eq_true p588
       replace q588 := eq_true q588
       go_wp2
       go_ret2
       exact y24
      ·
       rw [if_neg c17] at H
       have c17b0 : decide ((l0.length : Int) ≤ (wrap64 (x7_1 + 1))) = false := decide_eq_false c17
       clear c17
       obtain ⟨ji18, hji18⟩ : ∃ j_ : Int, (wrap64 (x7_1 + 1)) = j_ := ⟨_, rfl⟩
       (first | rw [hji18] at H | simp only [hji18] at H)
       (try rw [hji18] at c17b0)
       have hji18w : (IntKind.i64.wrap (x7_1 + 1)) = ji18 := (i64_w _).trans hji18
       by_cases c19 : 0 ≤ (ji18)
       ·
        rw [if_pos c19] at H
        have c19b0 := decide_eq_true c19
        clear c19
        by_cases c20 : (ji18) < (l0.length : Int)
        ·
         rw [if_pos c20] at H
         have c20b0 := decide_eq_true c20
         clear c20
         have HC21 := am H
         clear H
         have p588 : 0 ≤ (x7_1 : Int) := zo
         have q588 : x7_1 < (l0.length : Int) := zo
         obtain ⟨ad588, e588, hx588_0⟩ := Kd.at_int HR0.out x7_1 p588 q588
         cases e588
         replace hx588_0 := zx HB hx588_0
         replace p588 := eq_true p588
         replace q588 := eq_true q588
         have p593 : 0 ≤ ((ji18) : Int) := zo
         have q593 : (ji18) < (l0.length : Int) := zo
         obtain ⟨ad593, e593, hx593_0⟩ := Kd.at_int HR0.out (ji18) p593 q593
         obtain rfl : ad588 = ad593 := (by injection e593)
         replace hx593_0 := zx HB hx593_0
         replace p593 := eq_true p593
         replace q593 := eq_true q593
         go_upto_region 15 with (fail)
         go_cut [69] (fun v69 wc => ∃ (kq : Nat) (x69_20 : Bool), v69 = .bool x69_20 ∧ Aside0 (j11_Unpack.j1 kq l0 a1 x6_1 x7_1 (wrap64 (rd l0 x7_1)) (wrap64 (rd l0 (ji18))) x69_20 = some (r1, r2)) ∧ Aside0 (kq ≤ k1) ∧ Aside0 (Kd.R (Kd.int .u8) 5 wc w.heap.size (fun _ => True) u6 x6_1) ∧ Aside0 (Below w.heap.size w wc))
         case first =>
          have H := HC21.out
          clear HC21
          by_cases c22 : (wrap64 (rd l0 (ji18))) = 0
          ·
           rw [if_pos c22] at H
           obtain ⟨c22b0, c22b1⟩ := zt c22
           clear c22
           (first | rw [c22b0] | (simp only [i64_w, i32_w]; rw [c22b0]) | skip)
           have H' := am H
           clear H
           go_wp2
           go_meet
           case rel => exact y61
          ·
           rw [if_neg c22] at H
           obtain ⟨c22b0, c22b1⟩ := zs c22
           (first | rw [c22b0] | (simp only [i64_w, i32_w]; rw [c22b0]) | skip)
           have H' := am H
           clear H
           obtain ⟨Ao23, co23, eo23⟩ := Kd.R_slice HO_6.out
           subst eo23
           go_wp2
           go_meet
           case rel => exact ⟨_, (decide ((wrap64 (rd l0 (ji18))) > (x6_1.length : Int))), (by first | rfl | (simp; done) | (simp only [← hji18] <;> (first | rfl | simp)) | (simp [*]; done)), H', ⟨by have := HK1.out; first | omega | exact Nat.le_refl _⟩, ⟨by (with_reducible repeat (first | apply Kd.R_alloc | apply Kd.R_drewN | apply Kd.R_drew)); exact HO_6.out⟩, ⟨zb HB⟩⟩
         case rest =>
          clear HC21
          obtain ⟨kq, x69_20, rfl, HA, HJ20, HO_6, HB⟩ := hcut
          cases kq with
          | zero => exact absurd HA.out (by simp [j11_Unpack.j1])
          | succ kj20 =>
           have H := HA.out
           clear HA
           simp only [j11_Unpack.j1] at H
           by_cases c24 : x69_20 = true
           ·
            subst c24
            have H1 : (some (([] : List Int), 11)) = some (r1, r2) := by rw [if_pos rfl] at H; exact H
            clear H
            have H := H1
            clear H1
            simp only [Option.some.injEq, Prod.mk.injEq] at H
            obtain ⟨rfl, rfl⟩ := H
            go_wp2
            go_ret2
            exact y41
           ·
            replace c24 := Bool.eq_false_iff.mpr c24
            subst c24
            have H1 : (if (wrap64 ((wrap64 (rd l0 x7_1)) - 125)) > (wrap64 (a1 - (x6_1.length : Int))) then (some (([] : List Int), 2)) else (j11_Unpack.l1 kj20 l0 a1 x6_1 x7_1 (wrap64 (rd l0 x7_1)) (wrap64 (rd l0 (ji18))) 0)) = some (r1, r2) := by rw [if_neg (show ¬ (false = true) by decide)] at H; exact H
            clear H
            have H := H1
            clear H1
            by_cases c25 : (wrap64 ((wrap64 (rd l0 x7_1)) - 125)) > (wrap64 (a1 - (x6_1.length : Int)))
            ·
             rw [if_pos c25] at H
             have c25b0 : decide ((wrap64 (a1 - (x6_1.length : Int))) < (wrap64 ((wrap64 (rd l0 x7_1)) - 125))) = true := decide_eq_true c25
             clear c25
             simp only [Option.some.injEq, Prod.mk.injEq] at H
             obtain ⟨rfl, rfl⟩ := H
             obtain ⟨Ao26, co26, eo26⟩ := Kd.R_slice HO_6.out
             subst eo26
             go_wp2
             go_ret2
             exact y41
            ·
             rw [if_neg c25] at H
             have c25b0 : decide ((wrap64 (a1 - (x6_1.length : Int))) < (wrap64 ((wrap64 (rd l0 x7_1)) - 125))) = false := decide_eq_false c25
             clear c25
             have H' := am H
             clear H
             obtain ⟨Ao27, co27, eo27⟩ := Kd.R_slice HO_6.out
             subst eo27
             go_wp2
             go_loopg [6, 10] kj20 (fun kq v6 v10 w' => ∃ (x6_3 : List Int) (x10_3 : Int), v10 = .int .i64 x10_3 ∧ Aside0 (j11_Unpack.l1 kq l0 a1 x6_3 x7_1 (wrap64 (rd l0 x7_1)) (wrap64 (rd l0 (ji18))) x10_3 = some (r1, r2)) ∧ Aside0 (kq ≤ kj20) ∧ Aside0 (Kd.R (Kd.int .u8) 5 w' w.heap.size (fun _ => True) v6 x6_3) ∧ Aside0 (Below w.heap.size w w'))
             case atStart => exact ⟨(x6_1), (0), zr, H', ⟨Nat.le_refl _⟩, ⟨by (with_reducible repeat (first | apply Kd.R_alloc | apply Kd.R_drewN | apply Kd.R_drew)); exact HO_6.out⟩, ⟨zb HB⟩⟩
             case round =>
              clear H'
              obtain ⟨x6_3, x10_3, rfl, HA, HK3, HO_6, HB⟩ := hrel
              cases gk with
              | zero => exact absurd HA.out (by simp [j11_Unpack.l1])
              | succ k3 =>
               have H := HA.out
               clear HA
               simp only [j11_Unpack.l1] at H
               by_cases c28 : x10_3 < (wrap64 ((wrap64 (rd l0 x7_1)) - 125))
               ·
                rw [if_pos c28] at H
                have c28b0 := decide_eq_true c28
                clear c28
                obtain ⟨ji29, hji29⟩ : ∃ j_ : Int, (wrap64 ((x6_3.length : Int) - (wrap64 (rd l0 (ji18))))) = j_ := ⟨_, rfl⟩
                (first | rw [hji29] at H | simp only [hji29] at H)
                have hji29w : (IntKind.i64.wrap ((x6_3.length : Int) - (wrap64 (rd l0 (ji18))))) = ji29 := (i64_w _).trans hji29
                by_cases c30 : 0 ≤ (ji29)
                ·
                 rw [if_pos c30] at H
                 have c30b0 := decide_eq_true c30
                 clear c30
                 by_cases c31 : (ji29) < (x6_3.length : Int)
                 ·
                  rw [if_pos c31] at H
                  have c31b0 := decide_eq_true c31
                  clear c31
                  by_cases c32 : x6_3.length < 140737488355328
                  ·
                   rw [if_pos c32] at H
                   have LMc32 := am c32
                   clear c32
                   obtain ⟨y595, hy595⟩ : ∃ y_ : List Int, y_ = (x6_3 ++ [rd x6_3 (ji29)]) := ⟨_, rfl⟩
                   replace H : (j11_Unpack.l1 k3 l0 a1 y595 x7_1 (wrap64 (rd l0 x7_1)) (wrap64 (rd l0 (ji18))) (wrap64 (x10_3 + 1))) = some (r1, r2) := by first | (rw [hy595]; with_reducible exact H) | (have H2_ := (Option.bind_some _ _).symm.trans H; rw [hy595]; with_reducible exact H2_) | (have H2_ := (Option.bind_some _ _).symm.trans H; with_reducible exact H2_) | with_reducible exact H | (rw [hy595]; exact H) | exact H
                   have Ny595 := am hy595
                   clear hy595
                   have H' := am H
                   clear H
                   obtain ⟨Ao33, co33, eo33⟩ := Kd.R_slice HO_6.out
                   subst eo33
                   have p594 : 0 ≤ ((ji29) : Int) := zo
                   have q594 : (ji29) < (x6_3.length : Int) := zo
                   obtain ⟨ad594, e594, hx594_0⟩ := Kd.at_int (Kd.R_reads' HO_6.out).2.2 (ji29) p594 q594
                   cases e594
                   replace p594 := eq_true p594
                   replace q594 := eq_true q594
                   go_wp2_with (first | ((with_reducible refine gate_builtin (b := .append) (xs := #[.tmp 83, .tmp 91]) rfl ?_); (try (refine gate_guard (by rfl) ?_; dsimp only)); at_builtin; refine Kd.R_append (Kd.int .u8) (w0 := w) w.heap.size rfl (.tmp 83) (.tmp 91) 27 5 (.int .u8 0) 1 rfl Try.underlying27 info5 rfl (by decide) (by omega) (.slice (some ad594) x6_3.length co33) x6_3 (rd x6_3 (ji29)) [.int .u8 (rd x6_3 (ji29))] (fun _ => True) (fun _ => False) rfl rfl ?aP (fun _ hk => hk.elim) ?aF ?aO ?aB ?aS ?aL ?_; (case aP => exact rfl); (case aB => exact (zb HB)); (case aF => exact y69); (case aO => exact (zR HO_6.out)); (case aS => exact y44); (case aL => have := LMc32.out; omega); intro v596 w34 ho hb hg hat; rw [← Ny595.out] at ho; have n0_ := am (hb); have n1_ := am (ho); clear HB; clear HO_6; have HB := n0_; have HO597 := n1_; clear n0_ n1_; clear ho hb hg hat))
                   go_roundg k3
                   case measure => have := HK1.out; have := HJ20.out; have := HK3.out; omega
                   case rel => exact ⟨(y595), (wrap64 (x10_3 + 1)), zr, H', ⟨by have := HK1.out; have := HJ20.out; have := HK3.out; omega⟩, ⟨by (with_reducible repeat (first | apply Kd.R_alloc | apply Kd.R_drewN | apply Kd.R_drew)); exact HO597.out⟩, ⟨zb HB⟩⟩
                  ·
                   rw [if_neg c32] at H
                   exact absurd H (by simp)
                 ·
                  rw [if_neg c31] at H
                  exact absurd H (by simp)
                ·
                 rw [if_neg c30] at H
                 exact absurd H (by simp)
               ·
                rw [if_neg c28] at H
                have c28b0 := decide_eq_false c28
                clear c28
                have H' := am H
                clear H
                go_wp2
                go_roundg k3
                case measure => have := HK1.out; have := HJ20.out; have := HK3.out; omega
                case rel => exact ⟨(x6_3), (wrap64 (x7_1 + 2)), zr, H', ⟨by have := HK1.out; have := HJ20.out; have := HK3.out; omega⟩, ⟨by (with_reducible repeat (first | apply Kd.R_alloc | apply Kd.R_drewN | apply Kd.R_drew)); exact HO_6.out⟩, ⟨zb HB⟩⟩
        ·
         rw [if_neg c20] at H
         exact absurd H (by simp)
       ·
        rw [if_neg c19] at H
        exact absurd H (by simp)
    ·
     rw [if_neg c4] at H
     exact absurd H (by simp)
   ·
    rw [if_neg c3] at H
    have c3b0 := decide_eq_false c3
    clear c3
    simp only [Option.some.injEq, Prod.mk.injEq] at H
    obtain ⟨rfl, rfl⟩ := H
    go_wp2
    go_ret2
    exact y73
mutual
def j11_reader_list.j0 : Nat → Int → Bool → List Int → Int → Int → Option (List Int × Int × Int)
 | 0, _, _, _, _, _ => none
 | k + 1, x3, x21, x1000, x1001, x1002 => if x21 = true then (j11_reader_list.j1 k x3 x1000 x1001 11) else (j11_reader_list.j1 k x3 x1000 x1001 x1002)
def j11_reader_list.j1 : Nat → Int → List Int → Int → Int → Option (List Int × Int × Int)
 | 0, _, _, _, _ => none
 | k + 1, x3, x1000, x1001, x1002 => j11_reader_list.l0 k x3 ([] : List Int) 0 0 x1000 x1001 x1002
def j11_reader_list.l0 : Nat → Int → List Int → Int → Int → List Int → Int → Int → Option (List Int × Int × Int)
 | 0, _, _, _, _, _, _, _ => none
 | k + 1, x3, x4, x5, x6, x1000, x1001, x1002 => if x6 < x3 then (if x1002 = 0 then ((j11_reader_num.f k x1000 x1001 x1002).bind fun bt238 => (if x4.length < 17592186044416 then (j11_reader_list.l0 k x3 (x4 ++ [wrap64 (x5 + bt238.1)]) (wrap64 (x5 + bt238.1)) (wrap64 (x6 + 1)) x1000 bt238.2.1 bt238.2.2) else (none))) else (some (x4, x1001, x1002))) else (some (x4, x1001, x1002))
end
def j11_reader_list.f (k : Nat) (s0_0 : List Int) (s0_1 : Int) (s0_2 : Int) : Option (List Int × Int × Int) := (j11_reader_num.f k s0_0 s0_1 s0_2).bind fun bt235 => (if bt235.2.2 = 0 then (if bt235.1 < 0 then (j11_reader_list.j0 k bt235.1 true s0_0 bt235.2.1 bt235.2.2) else (j11_reader_list.j0 k bt235.1 (decide (bt235.1 > 400)) s0_0 bt235.2.1 bt235.2.2)) else (j11_reader_list.j0 k bt235.1 false s0_0 bt235.2.1 bt235.2.2))
theorem j11_reader_list.mono_l : ∀ k, (∀ y0 y1 y2 y3 y4, LeO (j11_reader_list.j0 k y0 y1 y2 y3 y4) (j11_reader_list.j0 (k + 1) y0 y1 y2 y3 y4)) ∧ (∀ y0 y1 y2 y3, LeO (j11_reader_list.j1 k y0 y1 y2 y3) (j11_reader_list.j1 (k + 1) y0 y1 y2 y3)) ∧ (∀ y0 y1 y2 y3 y4 y5 y6, LeO (j11_reader_list.l0 k y0 y1 y2 y3 y4 y5 y6) (j11_reader_list.l0 (k + 1) y0 y1 y2 y3 y4 y5 y6))
 | 0 => ⟨fun _ _ _ _ _ r h => by simp [j11_reader_list.j0] at h, fun _ _ _ _ r h => by simp [j11_reader_list.j1] at h, fun _ _ _ _ _ _ _ r h => by simp [j11_reader_list.l0] at h⟩
 | k + 1 => by
  obtain ⟨ih0, ih1, ih2⟩ := j11_reader_list.mono_l k
  refine ⟨?_, ?_, ?_⟩
  ·
   intro y0 y1 y2 y3 y4
   unfold j11_reader_list.j0
   exact zM
  ·
   intro y0 y1 y2 y3
   unfold j11_reader_list.j1
   exact zM
  ·
   intro y0 y1 y2 y3 y4 y5 y6
   unfold j11_reader_list.l0
   exact zM
theorem j11_reader_list.mono : ∀ a0 a1 a2 k, LeO (j11_reader_list.f k a0 a1 a2) (j11_reader_list.f (k + 1) a0 a1 a2) := by
 intro a0 a1 a2 k
 obtain ⟨ih0, ih1, ih2⟩ := j11_reader_list.mono_l k
 unfold j11_reader_list.f
 exact zM
set_option maxHeartbeats 8000000 in
set_option maxRecDepth 100000 in
theorem j11_reader_list.calls (k : Nat) (g : Nat) (s0_0 : List Int) (s0_1 : Int) (s0_2 : Int) (r1 : List Int) (r2 : Int) (r3 : Int) (w0 w : World) (hI : IsS94 w0 w g s0_0 s0_1 s0_2) (hB : Below w0.heap.size w0 w) (h : j11_reader_list.f k s0_0 s0_1 s0_2 = some (r1, r2, r3)) :
  Calls Try.prog 48 #[.pointer (some ⟨g, 0, none⟩)] w fun e w' => ∃ v0_ : Value, e = .returned (v0_) ∧ Kd.R (Kd.int .i64) 3 w' w.heap.size (fun _ => True) v0_ r1 ∧ IsS94 w0 w' g s0_0 r2 r3 ∧ Below w0.heap.size w0 w' ∧ KeepBut w w' g none := by
 have HI0 := am hI
 have HK := am (KeepBut.refl w g none)
 have HL := am hB.size
 clear hI
 have HW0 := am hB.size
 have HB := am hB
 clear hB
 have H : ((j11_reader_num.f k s0_0 s0_1 s0_2).bind fun bt235 => (if bt235.2.2 = 0 then (if bt235.1 < 0 then (j11_reader_list.j0 k bt235.1 true s0_0 bt235.2.1 bt235.2.2) else (j11_reader_list.j0 k bt235.1 (decide (bt235.1 > 400)) s0_0 bt235.2.1 bt235.2.2)) else (j11_reader_list.j0 k bt235.1 false s0_0 bt235.2.1 bt235.2.2))) = some (r1, r2, r3) := h
 clear h
 replace H := Option.bind_eq_some_iff.mp H
 obtain ⟨⟨t235, t236, t237⟩, A20, H⟩ := H
 (try dsimp only at H)
 have A2 := am A20
 clear A20
 have HC3 := am H
 clear H
 go_enter Try.func48, Try.ntmps48
 go_upto_region 2 with (first | ((with_reducible refine gate_callee (f := 47) rfl ?_); refine goesL_ (some 8) rfl rfl Try.func47 (by kernel_rfl) rfl #[.pointer (some ⟨g, 0, none⟩)] rfl zg ?_; (with_reducible refine (j11_reader_num.calls k g s0_0 s0_1 s0_2 t235 t236 t237 w0 _ ?side1 ?side2 A2.out).mono ?_); (case side1 => exact y55); (case side2 => exact y52); rintro e w4 ⟨rfl, hi, hb, hk⟩; refine ⟨_, rfl, ?_⟩; replace HK := am (KeepBut.trans y21 hk (.inl rfl)); replace HB := am (hb); replace HI0 := am (hi); clear hb hk hi))
 (try simp only [Act.put, List.setIfInBounds_toArray, List.set_cons_zero, List.set_cons_succ])
 go_cut [21] (fun v21 wc => ∃ (kq : Nat) (x21_2 : Bool), v21 = .bool x21_2 ∧ Aside0 (j11_reader_list.j0 kq t235 x21_2 s0_0 t236 t237 = some (r1, r2, r3)) ∧ Aside0 (kq ≤ k) ∧ Aside0 (IsS94 w0 wc g s0_0 t236 t237) ∧ Aside0 (KeepBut w wc g none) ∧ Aside0 (Below w0.heap.size w0 wc))
 case first =>
  have H := HC3.out
  clear HC3
  by_cases c5 : t237 = 0
  ·
   rw [if_pos c5] at H
   obtain ⟨c5b0, c5b1⟩ := zt c5
   clear c5
   (first | rw [c5b0] | (simp only [i64_w, i32_w]; rw [c5b0]) | skip)
   by_cases c6 : t235 < 0
   ·
    rw [if_pos c6] at H
    have c6b0 := decide_eq_true c6
    clear c6
    have H' := am H
    clear H
    obtain ⟨ASz7_0, cSz7_0, HGz7, hgz7, ⟨HSz7_0, _⟩⟩ := HI0.out
    have hcz7_0 := cellS94_0 HGz7
    have hcz7_1 := cellS94_1 HGz7
    have hcz7_2 := cellS94_2 HGz7
    have hfz7_1 := blk_frozen HGz7 1
    have hfz7_2 := blk_frozen HGz7 2
    clear HGz7 hgz7
    go_wp2
    go_meet
    case rel => exact ⟨_, (true), zr, H', ⟨by first | omega | exact Nat.le_refl _⟩, ⟨by repeat (first | (with_reducible first | exact HI0.out | apply IsS94.alloc | apply IsS94.drewN | apply IsS94.drew | apply IsS94.set_1 | apply IsS94.set_2) | exact HI0.out)⟩, ⟨by repeat (first | (with_reducible first | exact HK.out | apply KeepBut.set_ | apply keep_drewN | apply keep_drew | apply keep_alloc) | exact HK.out)⟩, ⟨by repeat (first | (with_reducible first | exact HB.out | apply below_alloc | apply pw_below_drewN | apply below_drew1 | refine below_set ?_ (IsS94.ge HI0.out)) | exact HB.out)⟩⟩
   ·
    rw [if_neg c6] at H
    have c6b0 := decide_eq_false c6
    clear c6
    have H' := am H
    clear H
    obtain ⟨ASz8_0, cSz8_0, HGz8, hgz8, ⟨HSz8_0, _⟩⟩ := HI0.out
    have hcz8_0 := cellS94_0 HGz8
    have hcz8_1 := cellS94_1 HGz8
    have hcz8_2 := cellS94_2 HGz8
    have hfz8_1 := blk_frozen HGz8 1
    have hfz8_2 := blk_frozen HGz8 2
    clear HGz8 hgz8
    go_wp2
    go_meet
    case rel => exact ⟨_, (decide (t235 > 400)), zr, H', ⟨by first | omega | exact Nat.le_refl _⟩, ⟨by repeat (first | (with_reducible first | exact HI0.out | apply IsS94.alloc | apply IsS94.drewN | apply IsS94.drew | apply IsS94.set_1 | apply IsS94.set_2) | exact HI0.out)⟩, ⟨by repeat (first | (with_reducible first | exact HK.out | apply KeepBut.set_ | apply keep_drewN | apply keep_drew | apply keep_alloc) | exact HK.out)⟩, ⟨by repeat (first | (with_reducible first | exact HB.out | apply below_alloc | apply pw_below_drewN | apply below_drew1 | refine below_set ?_ (IsS94.ge HI0.out)) | exact HB.out)⟩⟩
  ·
   rw [if_neg c5] at H
   obtain ⟨c5b0, c5b1⟩ := zs c5
   (first | rw [c5b0] | (simp only [i64_w, i32_w]; rw [c5b0]) | skip)
   have H' := am H
   clear H
   obtain ⟨ASz9_0, cSz9_0, HGz9, hgz9, ⟨HSz9_0, _⟩⟩ := HI0.out
   have hcz9_0 := cellS94_0 HGz9
   have hcz9_1 := cellS94_1 HGz9
   have hcz9_2 := cellS94_2 HGz9
   have hfz9_1 := blk_frozen HGz9 1
   have hfz9_2 := blk_frozen HGz9 2
   clear HGz9 hgz9
   go_wp2
   go_meet
   case rel => exact ⟨_, (false), zr, H', ⟨by first | omega | exact Nat.le_refl _⟩, ⟨by repeat (first | (with_reducible first | exact HI0.out | apply IsS94.alloc | apply IsS94.drewN | apply IsS94.drew | apply IsS94.set_1 | apply IsS94.set_2) | exact HI0.out)⟩, ⟨by repeat (first | (with_reducible first | exact HK.out | apply KeepBut.set_ | apply keep_drewN | apply keep_drew | apply keep_alloc) | exact HK.out)⟩, ⟨by repeat (first | (with_reducible first | exact HB.out | apply below_alloc | apply pw_below_drewN | apply below_drew1 | refine below_set ?_ (IsS94.ge HI0.out)) | exact HB.out)⟩⟩
 case rest =>
  clear HC3
  obtain ⟨kq, x21_2, rfl, HA, HJ2, HI0, HK, HB⟩ := hcut
  cases kq with
  | zero => exact absurd HA.out (by simp [j11_reader_list.j0])
  | succ kj2 =>
   have H := HA.out
   clear HA
   simp only [j11_reader_list.j0] at H
   have HC10 := am H
   clear H
   go_upto_if 21 with (fail)
   go_cut [] (fun wc => ∃ (kq : Nat) (x1002_9 : Int), Aside0 (j11_reader_list.j1 kq t235 s0_0 t236 x1002_9 = some (r1, r2, r3)) ∧ Aside0 (kq ≤ kj2) ∧ Aside0 (IsS94 w0 wc g s0_0 t236 x1002_9) ∧ Aside0 (KeepBut w wc g none) ∧ Aside0 (Below w0.heap.size w0 wc))
   case first =>
    have H := HC10.out
    clear HC10
    by_cases c11 : x21_2 = true
    ·
     subst c11
     have H1 : (j11_reader_list.j1 kj2 t235 s0_0 t236 11) = some (r1, r2, r3) := by rw [if_pos rfl] at H; exact H
     clear H
     have H := H1
     clear H1
     have H' := am H
     clear H
     obtain ⟨ASz12_0, cSz12_0, HGz12, hgz12, ⟨HSz12_0, _⟩⟩ := HI0.out
     have hcz12_0 := cellS94_0 HGz12
     have hcz12_1 := cellS94_1 HGz12
     have hcz12_2 := cellS94_2 HGz12
     have hfz12_1 := blk_frozen HGz12 1
     have hfz12_2 := blk_frozen HGz12 2
     clear HGz12 hgz12
     go_wp2
     go_meet
     case rel => exact ⟨_, (11), H', ⟨by have := HJ2.out; first | omega | exact Nat.le_refl _⟩, ⟨by repeat (first | (with_reducible first | exact HI0.out | apply IsS94.alloc | apply IsS94.drewN | apply IsS94.drew | apply IsS94.set_1 | apply IsS94.set_2) | exact HI0.out)⟩, ⟨by repeat (first | (with_reducible first | exact HK.out | apply KeepBut.set_ | apply keep_drewN | apply keep_drew | apply keep_alloc) | exact HK.out)⟩, ⟨by repeat (first | (with_reducible first | exact HB.out | apply below_alloc | apply pw_below_drewN | apply below_drew1 | refine below_set ?_ (IsS94.ge HI0.out)) | exact HB.out)⟩⟩
    ·
     replace c11 := Bool.eq_false_iff.mpr c11
     subst c11
     have H1 : (j11_reader_list.j1 kj2 t235 s0_0 t236 t237) = some (r1, r2, r3) := by rw [if_neg (show ¬ (false = true) by decide)] at H; exact H
     clear H
     have H := H1
     clear H1
     have H' := am H
     clear H
     go_wp2
     go_meet
     case rel => exact ⟨_, (t237), H', ⟨by have := HJ2.out; first | omega | exact Nat.le_refl _⟩, ⟨by repeat (first | (with_reducible first | exact HI0.out | apply IsS94.alloc | apply IsS94.drewN | apply IsS94.drew | apply IsS94.set_1 | apply IsS94.set_2) | exact HI0.out)⟩, ⟨by repeat (first | (with_reducible first | exact HK.out | apply KeepBut.set_ | apply keep_drewN | apply keep_drew | apply keep_alloc) | exact HK.out)⟩, ⟨by repeat (first | (with_reducible first | exact HB.out | apply below_alloc | apply pw_below_drewN | apply below_drew1 | refine below_set ?_ (IsS94.ge HI0.out)) | exact HB.out)⟩⟩
   case rest =>
    clear HC10
    obtain ⟨kq, x1002_9, HA, HJ9, HI0, HK, HB⟩ := hcut
    cases kq with
    | zero => exact absurd HA.out (by simp [j11_reader_list.j1])
    | succ kj9 =>
     have H := HA.out
     clear HA
     simp only [j11_reader_list.j1] at H
     have H' := am H
     clear H
     go_wp2
     go_loopg [4, 5, 6] kj9 (fun kq v4 v5 v6 w' => ∃ (x4_3 : List Int) (x5_3 : Int) (x6_3 : Int) (x1001_3 : Int) (x1002_3 : Int), v5 = .int .i64 x5_3 ∧ v6 = .int .i64 x6_3 ∧ Aside0 (j11_reader_list.l0 kq t235 x4_3 x5_3 x6_3 s0_0 x1001_3 x1002_3 = some (r1, r2, r3)) ∧ Aside0 (kq ≤ kj9) ∧ Aside0 (Kd.R (Kd.int .i64) 3 w' w.heap.size (fun _ => True) v4 x4_3) ∧ Aside0 (IsS94 w0 w' g s0_0 x1001_3 x1002_3) ∧ Aside0 (KeepBut w w' g none) ∧ Aside0 (Below w0.heap.size w0 w'))
     case atStart => exact ⟨(([] : List Int)), (0), (0), (t236), (x1002_9), zr, zr, H', ⟨Nat.le_refl _⟩, ⟨by first | exact Kd.R_nil _ _ _ _ _ | exact Kd.N_nil _ _ _ _ _ | exact Kd.V_nil _ _ _ _ _ | exact Kd.Q_nil _ _ _ _ _ | exact Kd.S_nil _ _ _ _ _⟩, ⟨by repeat (first | (with_reducible first | exact HI0.out | apply IsS94.alloc | apply IsS94.drewN | apply IsS94.drew | apply IsS94.set_1 | apply IsS94.set_2) | exact HI0.out)⟩, ⟨by repeat (first | (with_reducible first | exact HK.out | apply KeepBut.set_ | apply keep_drewN | apply keep_drew | apply keep_alloc) | exact HK.out)⟩, ⟨by repeat (first | (with_reducible first | exact HB.out | apply below_alloc | apply pw_below_drewN | apply below_drew1 | refine below_set ?_ (IsS94.ge HI0.out)) | exact HB.out)⟩⟩
     case round =>
      clear H'
      obtain ⟨x4_3, x5_3, x6_3, x1001_3, x1002_3, rfl, rfl, HA, HK3, HO_4, HI0, HK, HB⟩ := hrel
      cases gk with
      | zero => exact absurd HA.out (by simp [j11_reader_list.l0])
      | succ k3 =>
       have H := HA.out
       clear HA
       simp only [j11_reader_list.l0] at H
       by_cases c13 : x6_3 < t235
       ·
        rw [if_pos c13] at H
        have c13b0 := decide_eq_true c13
        clear c13
        by_cases c14 : x1002_3 = 0
        ·
         rw [if_pos c14] at H
         obtain ⟨c14b0, c14b1⟩ := zt c14
         clear c14
         replace H := Option.bind_eq_some_iff.mp H
         obtain ⟨⟨t238, t239, t240⟩, A150, H⟩ := H
         (try dsimp only at H)
         have A15 := am A150
         clear A150
         by_cases c16 : x4_3.length < 17592186044416
         ·
          rw [if_pos c16] at H
          have LMc16 := am c16
          clear c16
          obtain ⟨y241, hy241⟩ : ∃ y_ : List Int, y_ = (x4_3 ++ [wrap64 (x5_3 + t238)]) := ⟨_, rfl⟩
          replace H : (j11_reader_list.l0 k3 t235 y241 (wrap64 (x5_3 + t238)) (wrap64 (x6_3 + 1)) s0_0 t239 t240) = some (r1, r2, r3) := by first | (rw [hy241]; with_reducible exact H) | (have H2_ := (Option.bind_some _ _).symm.trans H; rw [hy241]; with_reducible exact H2_) | (have H2_ := (Option.bind_some _ _).symm.trans H; with_reducible exact H2_) | with_reducible exact H | (rw [hy241]; exact H) | exact H
          have Ny241 := am hy241
          clear hy241
          have H' := am H
          clear H
          obtain ⟨ASz17_0, cSz17_0, HGz17, hgz17, ⟨HSz17_0, _⟩⟩ := HI0.out
          have hcz17_0 := cellS94_0 HGz17
          have hcz17_1 := cellS94_1 HGz17
          have hcz17_2 := cellS94_2 HGz17
          have hfz17_1 := blk_frozen HGz17 1
          have hfz17_2 := blk_frozen HGz17 2
          clear HGz17 hgz17
          go_wp2_with (first | ((with_reducible refine gate_callee (f := 47) rfl ?_); refine goesL_ (some 39) rfl rfl Try.func47 (by kernel_rfl) rfl #[.pointer (some ⟨g, 0, none⟩)] rfl zg ?_; (with_reducible refine (j11_reader_num.calls k3 g s0_0 x1001_3 x1002_3 t238 t239 t240 w0 _ ?side1 ?side2 A15.out).mono ?_); (case side1 => exact y55); (case side2 => exact y52); rintro e w18 ⟨rfl, hi, hb, hk⟩; refine ⟨_, rfl, ?_⟩; replace HO_4 := am (Kd.R_mono (Kd.R_keep (IsS94.apart (show IsS94 w0 _ g s0_0 x1001_3 x1002_3 from by repeat (first | (with_reducible first | exact HI0.out | apply IsS94.alloc | apply IsS94.drewN | apply IsS94.drew | apply IsS94.set_1 | apply IsS94.set_2) | exact HI0.out)) (zR HO_4.out) (by decide)) hk (fun _ h => h.2)) (fun _ h => h.1)); replace HK := am (KeepBut.trans y21 hk (.inl rfl)); replace HB := am (hb); replace HI0 := am (hi); clear hb hk hi) | ((with_reducible refine gate_builtin (b := .append) (xs := #[.tmp 41, .tmp 43]) rfl ?_); at_builtin; refine Kd.R_append (Kd.int .i64) w.heap.size rfl (.tmp 41) (.tmp 43) 22 3 (.int .i64 0) 8 rfl Try.underlying22 info3 rfl (by decide) (by omega) u4 x4_3 (wrap64 (x5_3 + t238)) [.int .i64 (wrap64 (x5_3 + t238))] (fun _ => True) (fun _ => False) rfl rfl ?aP (fun _ hk => hk.elim) ?aF ?aO (Below.refl _ _) ?aS ?aL ?_; (case aP => exact rfl); (case aF => exact y69); (case aO => exact (zR HO_4.out)); (case aS => exact y62); (case aL => have := LMc16.out; omega); intro v242 w19 ho hb hg hat; rw [← Ny241.out] at ho; have n0_ := am (IsS94.grown y55 hg (IsS94.own_ne HI0.out HO_4.out (by decide))); have n1_ := am (below_weaken y52 HL.out hb); have n2_ := am (KeepBut.trans y21 (KeepBut.of_grown hg g) (Kd.R_base2 HO_4.out)); have n3_ := am (ho); clear HI0; clear HB; clear HK; clear HO_4; have HI0 := n0_; have HB := n1_; have HK := n2_; have HO243 := n3_; clear n0_ n1_ n2_ n3_; clear ho hb hg hat))
          go_roundg k3
          case measure => have := HJ2.out; have := HJ9.out; have := HK3.out; omega
          case rel => exact ⟨(y241), (wrap64 (x5_3 + t238)), (wrap64 (x6_3 + 1)), (t239), (t240), zr, zr, H', ⟨by have := HJ2.out; have := HJ9.out; have := HK3.out; omega⟩, ⟨by (with_reducible repeat (first | apply Kd.R_alloc | apply Kd.R_drewN | apply Kd.R_drew)); exact HO243.out⟩, ⟨by repeat (first | (with_reducible first | exact HI0.out | apply IsS94.alloc | apply IsS94.drewN | apply IsS94.drew | apply IsS94.set_1 | apply IsS94.set_2) | exact HI0.out)⟩, ⟨by repeat (first | (with_reducible first | exact HK.out | apply KeepBut.set_ | apply keep_drewN | apply keep_drew | apply keep_alloc) | exact HK.out)⟩, ⟨by repeat (first | (with_reducible first | exact HB.out | apply below_alloc | apply pw_below_drewN | apply below_drew1 | refine below_set ?_ (IsS94.ge HI0.out)) | exact HB.out)⟩⟩
         ·
          rw [if_neg c16] at H
          exact absurd H (by simp)
        ·
         rw [if_neg c14] at H
         obtain ⟨c14b0, c14b1⟩ := zs c14
         simp only [Option.some.injEq, Prod.mk.injEq] at H
         obtain ⟨rfl, rfl, rfl⟩ := H
         obtain ⟨ASz20_0, cSz20_0, HGz20, hgz20, ⟨HSz20_0, _⟩⟩ := HI0.out
         have hcz20_0 := cellS94_0 HGz20
         have hcz20_1 := cellS94_1 HGz20
         have hcz20_2 := cellS94_2 HGz20
         have hfz20_1 := blk_frozen HGz20 1
         have hfz20_2 := blk_frozen HGz20 2
         clear HGz20 hgz20
         go_wp2
         go_ret
         exact y17
       ·
        rw [if_neg c13] at H
        have c13b0 := decide_eq_false c13
        clear c13
        simp only [Option.some.injEq, Prod.mk.injEq] at H
        obtain ⟨rfl, rfl, rfl⟩ := H
        go_wp2
        go_ret
        exact y17
def j11_Read.f (k : Nat) (l0 : List Int) (a1 a2 : Int) : Option (Int × Int × Int × Int × Int × Int × List Int × List Int × Int × Int) :=
 (j11_reader_num.f k l0 0 0).bind fun p0 => (j11_reader_num.f k l0 p0.2.1 p0.2.2).bind fun p1 => (j11_reader_num.f k l0 p1.2.1 p1.2.2).bind fun p2 => (j11_reader_num.f k l0 p2.2.1 p2.2.2).bind fun p3 => (j11_reader_num.f k l0 p3.2.1 p3.2.2).bind fun p4 => (j11_reader_list.f k l0 p4.2.1 p4.2.2).bind fun q5 => (j11_reader_list.f k l0 q5.2.1 q5.2.2).bind fun q6 => if q6.2.2 = 0 then some (wrap64 (a2 + p0.1), a1, p1.1, p2.1, p3.1, p4.1, q5.1, q6.1, q6.2.1, 0) else some (0, 0, 0, 0, 0, 0, [], [], 0, q6.2.2)
theorem j11_Read.mono : ∀ a0 a1 a2 k, LeO (j11_Read.f k a0 a1 a2) (j11_Read.f (k + 1) a0 a1 a2) := by
 intro a0 a1 a2 k
 unfold j11_Read.f
 exact LeO.bind (j11_reader_num.mono _ _ _ _) fun _ => LeO.bind (j11_reader_num.mono _ _ _ _) fun _ => LeO.bind (j11_reader_num.mono _ _ _ _) fun _ => LeO.bind (j11_reader_num.mono _ _ _ _) fun _ => LeO.bind (j11_reader_num.mono _ _ _ _) fun _ => LeO.bind (j11_reader_list.mono _ _ _ _) fun _ => LeO.bind (j11_reader_list.mono _ _ _ _) fun _ => LeO.refl _
structure j11_Read.St (w W : World) (g x r : Nat) (cs cr : Array Value) (l0 : List Int) (a e : Int) : Prop where
 fi : IsS94 w W g l0 a e
 fB : Below w.heap.size w W
 fx : W.heap[x]? = some (.cells cs 26 (0, 0))
 fr : W.heap[r]? = some (.cells cr 26 (0, 0))
 gx : x ≠ g
 gr : r ≠ g
 xr : x ≠ r
 hx : w.heap.size ≤ x
theorem j11_Read.St.call {w W W1 : World} {g x r : Nat} {cs cr : Array Value} {l0 : List Int} {a e a' e' : Int} (S : j11_Read.St w W g x r cs cr l0 a e) (hi : IsS94 w W1 g l0 a' e') (hb : Below w.heap.size w W1) (hk : KeepBut W W1 g none) : j11_Read.St w W1 g x r cs cr l0 a' e' :=
 ⟨hi, hb, (hk.2 _ (blk_lt S.fx) S.gx (by simp)).trans S.fx, (hk.2 _ (blk_lt S.fr) S.gr (by simp)).trans S.fr, S.gx, S.gr, S.xr, S.hx⟩
theorem j11_Read.St.set {w W : World} {g x r : Nat} {cs cr : Array Value} {l0 : List Int} {a e : Int} (S : j11_Read.St w W g x r cs cr l0 a e) (j : Nat) (v : Value) : j11_Read.St w (W.setCell ⟨x, j, none⟩ v) g x r (cs.setIfInBounds j v) cr l0 a e :=
 ⟨S.fi.far (by exact fun h => S.gx h.symm) v, below_set S.fB S.hx, by simpa using blk_set S.fx j v, by rw [Below.heap_setCell _ _ _ _ (fun h => S.xr h.symm)]; exact S.fr, S.gx, S.gr, S.xr, S.hx⟩
theorem j11_Read.put8 {W : World} {r : Nat} {v0 v1 v2 v3 v4 v5 v6 v7 u0 u1 u2 u3 u4 u5 u6 u7 : Value} (h : W.heap[r]? = some (.cells #[u0, u1, u2, u3, u4, u5, u6, u7] 26 (0, 0))) : ((((((((W.setCell ⟨r, 0, none⟩ v0).setCell ⟨r, 1, none⟩ v1).setCell ⟨r, 2, none⟩ v2).setCell ⟨r, 3, none⟩ v3).setCell ⟨r, 4, none⟩ v4).setCell ⟨r, 5, none⟩ v5).setCell ⟨r, 6, none⟩ v6).setCell ⟨r, 7, none⟩ v7).heap[r]? = some (.cells #[v0, v1, v2, v3, v4, v5, v6, v7] 26 (0, 0)) := by
 have h0 : (W.setCell ⟨r, 0, none⟩ v0).heap[r]? = some (.cells #[v0, u1, u2, u3, u4, u5, u6, u7] 26 (0, 0)) := by simpa using blk_set h 0 v0
 have h1 : ((W.setCell ⟨r, 0, none⟩ v0).setCell ⟨r, 1, none⟩ v1).heap[r]? = some (.cells #[v0, v1, u2, u3, u4, u5, u6, u7] 26 (0, 0)) := by simpa using blk_set h0 1 v1
 generalize (W.setCell ⟨r, 0, none⟩ v0).setCell ⟨r, 1, none⟩ v1 = W1 at h1 ⊢
 have h2 : (W1.setCell ⟨r, 2, none⟩ v2).heap[r]? = some (.cells #[v0, v1, v2, u3, u4, u5, u6, u7] 26 (0, 0)) := by simpa using blk_set h1 2 v2
 have h3 : ((W1.setCell ⟨r, 2, none⟩ v2).setCell ⟨r, 3, none⟩ v3).heap[r]? = some (.cells #[v0, v1, v2, v3, u4, u5, u6, u7] 26 (0, 0)) := by simpa using blk_set h2 3 v3
 generalize (W1.setCell ⟨r, 2, none⟩ v2).setCell ⟨r, 3, none⟩ v3 = W2 at h3 ⊢
 have h4 : (W2.setCell ⟨r, 4, none⟩ v4).heap[r]? = some (.cells #[v0, v1, v2, v3, v4, u5, u6, u7] 26 (0, 0)) := by simpa using blk_set h3 4 v4
 have h5 : ((W2.setCell ⟨r, 4, none⟩ v4).setCell ⟨r, 5, none⟩ v5).heap[r]? = some (.cells #[v0, v1, v2, v3, v4, v5, u6, u7] 26 (0, 0)) := by simpa using blk_set h4 5 v5
 generalize (W2.setCell ⟨r, 4, none⟩ v4).setCell ⟨r, 5, none⟩ v5 = W3 at h5 ⊢
 have h6 : (W3.setCell ⟨r, 6, none⟩ v6).heap[r]? = some (.cells #[v0, v1, v2, v3, v4, v5, v6, u7] 26 (0, 0)) := by simpa using blk_set h5 6 v6
 simpa using blk_set h6 7 v7
theorem j11_Read.far8 {α : Type} {d : Kd α} {e base : Nat} {W : World} {ok : Nat → Prop} {v : Value} {xs : List α} {r : Nat} {v0 v1 v2 v3 v4 v5 v6 v7 : Value} (h : d.R e W base ok v xs) (hr : ∀ k, ok k → k ≠ r) : d.R e ((((((((W.setCell ⟨r, 0, none⟩ v0).setCell ⟨r, 1, none⟩ v1).setCell ⟨r, 2, none⟩ v2).setCell ⟨r, 3, none⟩ v3).setCell ⟨r, 4, none⟩ v4).setCell ⟨r, 5, none⟩ v5).setCell ⟨r, 6, none⟩ v6).setCell ⟨r, 7, none⟩ v7) base ok v xs :=
 Kd.R_far (Kd.R_far (Kd.R_far (Kd.R_far (Kd.R_far (Kd.R_far (Kd.R_far (Kd.R_far h (p := ⟨r, 0, none⟩) hr _) (p := ⟨r, 1, none⟩) hr _) (p := ⟨r, 2, none⟩) hr _) (p := ⟨r, 3, none⟩) hr _) (p := ⟨r, 4, none⟩) hr _) (p := ⟨r, 5, none⟩) hr _) (p := ⟨r, 6, none⟩) hr _) (p := ⟨r, 7, none⟩) hr _
theorem j11_Read.below8 {w W : World} {r : Nat} {v0 v1 v2 v3 v4 v5 v6 v7 : Value} (h : Below w.heap.size w W) (hr : w.heap.size ≤ r) : Below w.heap.size w ((((((((W.setCell ⟨r, 0, none⟩ v0).setCell ⟨r, 1, none⟩ v1).setCell ⟨r, 2, none⟩ v2).setCell ⟨r, 3, none⟩ v3).setCell ⟨r, 4, none⟩ v4).setCell ⟨r, 5, none⟩ v5).setCell ⟨r, 6, none⟩ v6).setCell ⟨r, 7, none⟩ v7) :=
 below_set (below_set (below_set (below_set (below_set (below_set (below_set (below_set h hr) hr) hr) hr) hr) hr) hr) hr
set_option maxHeartbeats 4000000 in
set_option maxRecDepth 100000 in
theorem j11_Read.calls (k : Nat) (A0 : Option Addr) (c0 : Nat) (l0 : List Int) (a1 : Int) (a2 : Int) (r1 r2 r3 r4 r5 r6 : Int) (r7 r8 : List Int) (r9 r10 : Int) (w : World) (hr0 : Kd.C (Kd.int .u8) w A0 l0.length l0) (hc0 : l0.length ≤ c0) (h : j11_Read.f k l0 a1 a2 = some (r1, r2, r3, r4, r5, r6, r7, r8, r9, r10)) :
  Calls Try.prog 17 #[.slice A0 l0.length c0, .int .i64 a1, .int .i64 a2] w fun e w' => ∃ v6_ v7_ : Value, e = .returned (.tuple #[.agg #[.int .i64 r1, .int .i64 r2, .int .i64 r3, .int .i64 r4, .int .i64 r5, .int .i64 r6, v6_, v7_], .int .i64 r9, .int .i64 r10]) ∧ Kd.R (Kd.int .i64) 3 w' w.heap.size (fun k_ => some k_ ≠ (v7_ : Value).ownBlock) v6_ r7 ∧ Kd.R (Kd.int .i64) 3 w' w.heap.size (fun k_ => some k_ ≠ (v6_ : Value).ownBlock) v7_ r8 ∧ Below w.heap.size w w' := by
 obtain ⟨⟨n0, b0, e0⟩, h0, h_0⟩ := Option.bind_eq_some_iff.mp h
 clear h
 obtain ⟨⟨n1, b1, e1⟩, h1, h_1⟩ := Option.bind_eq_some_iff.mp h_0
 clear h_0
 obtain ⟨⟨n2, b2, e2⟩, h2, h_2⟩ := Option.bind_eq_some_iff.mp h_1
 clear h_1
 obtain ⟨⟨n3, b3, e3⟩, h3, h_3⟩ := Option.bind_eq_some_iff.mp h_2
 clear h_2
 obtain ⟨⟨n4, b4, e4⟩, h4, h_4⟩ := Option.bind_eq_some_iff.mp h_3
 clear h_3
 obtain ⟨⟨l5, b5, e5⟩, h5, h_5⟩ := Option.bind_eq_some_iff.mp h_4
 clear h_4
 obtain ⟨⟨l6, b6, e6⟩, h6, h_6⟩ := Option.bind_eq_some_iff.mp h_5
 clear h_5
 have h := h_6
 clear h_6
 dsimp only at h h0 h1 h2 h3 h4 h5 h6
 have H0 := am h0
 have H1 := am h1
 have H2 := am h2
 have H3 := am h3
 have H4 := am h4
 have H5 := am h5
 have H6 := am h6
 have HH := am h
 clear h h0 h1 h2 h3 h4 h5 h6
 obtain ⟨W1, hW1⟩ : ∃ W1 : World, W1 = (w.alloc (.cells #[.int .i64 0, .int .i64 0, .int .i64 0, .int .i64 0, .int .i64 0, .int .i64 0, .slice none 0 0, .slice none 0 0] 26)).alloc (.cells #[.slice A0 l0.length c0, .int .i64 0, .int .i64 0] 94) := ⟨_, rfl⟩
 have HI1 : Aside0 (IsS94 w W1 (w.heap.size + 1) l0 0 0) := ⟨by
  have := IsS94.new w (w.alloc (.cells #[.int .i64 0, .int .i64 0, .int .i64 0, .int .i64 0, .int .i64 0, .int .i64 0, .slice none 0 0, .slice none 0 0] 26)) A0 c0 l0 0 0 (below_alloc (Below.refl _ _) _) ⟨hr0, hc0⟩
  rw [hW1]
  simpa using this⟩
 have HB1 : Aside0 (Below w.heap.size w W1) := ⟨by rw [hW1]; exact below_alloc (below_alloc (Below.refl _ _) _) _⟩
 have HR1 : Aside0 (W1.heap[w.heap.size]? = some (.cells #[.int .i64 0, .int .i64 0, .int .i64 0, .int .i64 0, .int .i64 0, .int .i64 0, .slice none 0 0, .slice none 0 0] 26 (0, 0))) := ⟨by rw [hW1, heap_alloc_old _ _ (by simp), heap_alloc_new]⟩
 clear hr0 hc0
 go_enter Try.func17, Try.ntmps17
 by_cases ce : e6 = 0
 ·
  have ce0 : (e6 != 0) = false := by simp [ce]
  have HH1 := am ((if_pos ce).symm.trans HH.out)
  clear HH
  simp only [Option.some.injEq, Prod.mk.injEq] at HH1
  obtain ⟨rfl, rfl, rfl, rfl, rfl, rfl, rfl, rfl, rfl, rfl⟩ := HH1.out
  clear HH1 ce
  go_wp2_with (first | (go_at_call 47; rw [← hW1]; refine (j11_reader_num.calls k (w.heap.size + 1) l0 0 0 n0 b0 e0 w _ HI1.out HB1.out H0.out).mono ?_; rintro e w2 ⟨rfl, hi, hb, hk⟩; have HR2 := (hk.2 _ (blk_lt HR1.out) (by omega) (by simp)).trans HR1.out; have HS0 : Aside0 (j11_Read.St w (w2.alloc (.cells #[.int .i64 (wrap64 (a2 + n0)), .int .i64 a1, .int .i64 0, .int .i64 0, .int .i64 0, .int .i64 0, .slice none 0 0, .slice none 0 0] 26)) (w.heap.size + 1) w2.heap.size w.heap.size #[.int .i64 (wrap64 (a2 + n0)), .int .i64 a1, .int .i64 0, .int .i64 0, .int .i64 0, .int .i64 0, .slice none 0 0, .slice none 0 0] #[.int .i64 0, .int .i64 0, .int .i64 0, .int .i64 0, .int .i64 0, .int .i64 0, .slice none 0 0, .slice none 0 0] l0 b0 e0) := ⟨⟨hi.alloc _, (below_then hb hb.size (below_alloc (Below.refl _ _) _)), heap_alloc_new _ _, (heap_alloc_old _ _ (blk_lt HR2)).trans HR2, (Nat.ne_of_gt hi.lt), by omega, Nat.ne_of_gt (blk_lt HR2), hb.size⟩⟩; have HLT : Aside0 (w.heap.size + 1 < w2.heap.size) := ⟨hi.lt⟩; clear hi hb hk HR2) | (go_at_call 47; refine (j11_reader_num.calls k (w.heap.size + 1) l0 b0 e0 n1 b1 e1 w _ HS0.out.fi HS0.out.fB H1.out).mono ?_; rintro e w3 ⟨rfl, hi, hb, hk⟩; have HT1 := am (HS0.out.call hi hb hk); have HS1 : Aside0 (j11_Read.St w (w3.setCell ⟨w2.heap.size, 2, none⟩ (.int .i64 n1)) (w.heap.size + 1) w2.heap.size w.heap.size #[.int .i64 (wrap64 (a2 + n0)), .int .i64 a1, .int .i64 n1, .int .i64 0, .int .i64 0, .int .i64 0, .slice none 0 0, .slice none 0 0] #[.int .i64 0, .int .i64 0, .int .i64 0, .int .i64 0, .int .i64 0, .int .i64 0, .slice none 0 0, .slice none 0 0] l0 b1 e1) := ⟨HT1.out.set 2 (.int .i64 n1)⟩; have q1 := (blk_cell HT1.out.fx 2).trans rfl; have f1 := blk_frozen HT1.out.fx 2; clear hi hb hk) | (go_at_call 47; refine (j11_reader_num.calls k (w.heap.size + 1) l0 b1 e1 n2 b2 e2 w _ HS1.out.fi HS1.out.fB H2.out).mono ?_; rintro e w4 ⟨rfl, hi, hb, hk⟩; have HT2 := am (HS1.out.call hi hb hk); have HS2 : Aside0 (j11_Read.St w (w4.setCell ⟨w2.heap.size, 3, none⟩ (.int .i64 n2)) (w.heap.size + 1) w2.heap.size w.heap.size #[.int .i64 (wrap64 (a2 + n0)), .int .i64 a1, .int .i64 n1, .int .i64 n2, .int .i64 0, .int .i64 0, .slice none 0 0, .slice none 0 0] #[.int .i64 0, .int .i64 0, .int .i64 0, .int .i64 0, .int .i64 0, .int .i64 0, .slice none 0 0, .slice none 0 0] l0 b2 e2) := ⟨HT2.out.set 3 (.int .i64 n2)⟩; have q2 := (blk_cell HT2.out.fx 3).trans rfl; have f2 := blk_frozen HT2.out.fx 3; clear hi hb hk) | (go_at_call 47; refine (j11_reader_num.calls k (w.heap.size + 1) l0 b2 e2 n3 b3 e3 w _ HS2.out.fi HS2.out.fB H3.out).mono ?_; rintro e w5 ⟨rfl, hi, hb, hk⟩; have HT3 := am (HS2.out.call hi hb hk); have HS3 : Aside0 (j11_Read.St w (w5.setCell ⟨w2.heap.size, 4, none⟩ (.int .i64 n3)) (w.heap.size + 1) w2.heap.size w.heap.size #[.int .i64 (wrap64 (a2 + n0)), .int .i64 a1, .int .i64 n1, .int .i64 n2, .int .i64 n3, .int .i64 0, .slice none 0 0, .slice none 0 0] #[.int .i64 0, .int .i64 0, .int .i64 0, .int .i64 0, .int .i64 0, .int .i64 0, .slice none 0 0, .slice none 0 0] l0 b3 e3) := ⟨HT3.out.set 4 (.int .i64 n3)⟩; have q3 := (blk_cell HT3.out.fx 4).trans rfl; have f3 := blk_frozen HT3.out.fx 4; clear hi hb hk) | (go_at_call 47; refine (j11_reader_num.calls k (w.heap.size + 1) l0 b3 e3 n4 b4 e4 w _ HS3.out.fi HS3.out.fB H4.out).mono ?_; rintro e w6 ⟨rfl, hi, hb, hk⟩; have HT4 := am (HS3.out.call hi hb hk); have HS4 : Aside0 (j11_Read.St w (w6.setCell ⟨w2.heap.size, 5, none⟩ (.int .i64 n4)) (w.heap.size + 1) w2.heap.size w.heap.size #[.int .i64 (wrap64 (a2 + n0)), .int .i64 a1, .int .i64 n1, .int .i64 n2, .int .i64 n3, .int .i64 n4, .slice none 0 0, .slice none 0 0] #[.int .i64 0, .int .i64 0, .int .i64 0, .int .i64 0, .int .i64 0, .int .i64 0, .slice none 0 0, .slice none 0 0] l0 b4 e4) := ⟨HT4.out.set 5 (.int .i64 n4)⟩; have q4 := (blk_cell HT4.out.fx 5).trans rfl; have f4 := blk_frozen HT4.out.fx 5; clear hi hb hk) | (go_at_call 48; refine (j11_reader_list.calls k (w.heap.size + 1) l0 b4 e4 l5 b5 e5 w _ HS4.out.fi HS4.out.fB H5.out).mono ?_; rintro e w7 ⟨v5, rfl, ho, hi, hb, hk⟩; have HL5 := am (Kd.R_lower (Kd.R_mono (ok' := fun k_ => w2.heap.size < k_) (Kd.R_bound ho) (fun k_ hk_ => Nat.lt_of_lt_of_le (blk_lt HS4.out.fx) hk_.2.1)) HS4.out.fB.size); have HT5 := am (HS4.out.call hi hb hk); obtain ⟨A5, c5, ee5⟩ := Kd.R_slice ho; subst ee5; have HS5 : Aside0 (j11_Read.St w (w7.setCell ⟨w2.heap.size, 6, none⟩ (.slice A5 l5.length c5)) (w.heap.size + 1) w2.heap.size w.heap.size #[.int .i64 (wrap64 (a2 + n0)), .int .i64 a1, .int .i64 n1, .int .i64 n2, .int .i64 n3, .int .i64 n4, .slice A5 l5.length c5, .slice none 0 0] #[.int .i64 0, .int .i64 0, .int .i64 0, .int .i64 0, .int .i64 0, .int .i64 0, .slice none 0 0, .slice none 0 0] l0 b5 e5) := ⟨HT5.out.set 6 _⟩; have q5 := (blk_cell HT5.out.fx 6).trans rfl; have f5 := blk_frozen HT5.out.fx 6; clear ho hi hb hk) | (go_at_call 48; refine (j11_reader_list.calls k (w.heap.size + 1) l0 b5 e5 l6 b6 e6 w _ HS5.out.fi HS5.out.fB H6.out).mono ?_; rintro e w8 ⟨v6, rfl, ho, hi, hb, hk⟩; have HL5b := am (Kd.R_keep (Kd.R_far (p := ⟨w2.heap.size, 6, none⟩) HL5.out (fun k_ hk_ => Nat.ne_of_gt hk_) (.slice A5 l5.length c5)) hk (fun k_ hk_ => by have := HS5.out.gx; have := HS5.out.fi.lt; have := HLT.out; omega)); obtain ⟨in5, ow5⟩ := Kd.R_own (Kd.R_far (p := ⟨w2.heap.size, 6, none⟩) HL5.out (fun k_ hk_ => Nat.ne_of_gt hk_) (.slice A5 l5.length c5)); have HL6 := am (Kd.R_lower (Kd.R_mono (ok' := fun k_ => w2.heap.size < k_ ∧ some k_ ≠ (Value.slice A5 l5.length c5).ownBlock) (Kd.R_bound (Kd.R_new ho ow5)) (fun k_ hk_ => ⟨Nat.lt_of_lt_of_le (blk_lt HS5.out.fx) hk_.2.1, hk_.1.2⟩)) HS5.out.fB.size); have HT6 := am (HS5.out.call hi hb hk); obtain ⟨A6, c6, ee6⟩ := Kd.R_slice ho; subst ee6; have HS6 : Aside0 (j11_Read.St w (w8.setCell ⟨w2.heap.size, 7, none⟩ (.slice A6 l6.length c6)) (w.heap.size + 1) w2.heap.size w.heap.size #[.int .i64 (wrap64 (a2 + n0)), .int .i64 a1, .int .i64 n1, .int .i64 n2, .int .i64 n3, .int .i64 n4, .slice A5 l5.length c5, .slice A6 l6.length c6] #[.int .i64 0, .int .i64 0, .int .i64 0, .int .i64 0, .int .i64 0, .int .i64 0, .slice none 0 0, .slice none 0 0] l0 b6 e6) := ⟨HT6.out.set 7 _⟩; have q6 := (blk_cell HT6.out.fx 7).trans rfl; have f6 := blk_frozen HT6.out.fx 7; obtain ⟨Az, cz, hz, _, _⟩ := HS6.out.fi; have q7 := cellS94_2 hz; have q8 := cellS94_1 hz; clear ho hi hb hk ow5 hz))
  have x0 := (blk_cell HS6.out.fx 0).trans rfl
  have y0 := (blk_cell HS6.out.fr 0).trans rfl
  have z0 := blk_frozen HS6.out.fr 0
  have x1 := (blk_cell HS6.out.fx 1).trans rfl
  have y1 := (blk_cell HS6.out.fr 1).trans rfl
  have z1 := blk_frozen HS6.out.fr 1
  have x2 := (blk_cell HS6.out.fx 2).trans rfl
  have y2 := (blk_cell HS6.out.fr 2).trans rfl
  have z2 := blk_frozen HS6.out.fr 2
  have x3 := (blk_cell HS6.out.fx 3).trans rfl
  have y3 := (blk_cell HS6.out.fr 3).trans rfl
  have z3 := blk_frozen HS6.out.fr 3
  have x4 := (blk_cell HS6.out.fx 4).trans rfl
  have y4 := (blk_cell HS6.out.fr 4).trans rfl
  have z4 := blk_frozen HS6.out.fr 4
  have x5 := (blk_cell HS6.out.fx 5).trans rfl
  have y5 := (blk_cell HS6.out.fr 5).trans rfl
  have z5 := blk_frozen HS6.out.fr 5
  have x6 := (blk_cell HS6.out.fx 6).trans rfl
  have y6 := (blk_cell HS6.out.fr 6).trans rfl
  have z6 := blk_frozen HS6.out.fr 6
  have x7 := (blk_cell HS6.out.fx 7).trans rfl
  have y7 := (blk_cell HS6.out.fr 7).trans rfl
  have z7 := blk_frozen HS6.out.fr 7
  clear HR1 hW1
  go_region
  all_goals (try go_wp2)
  all_goals refine bodyPost_ret (results_ctt rfl _ _ w.heap.size 26 #[.int .i64 (wrap64 (a2 + n0)), .int .i64 a1, .int .i64 n1, .int .i64 n2, .int .i64 n3, .int .i64 n4, .slice A5 l5.length c5, .slice A6 l6.length c6] (0, 0) _ rfl (blk_drew (j11_Read.put8 HS6.out.fr)) Try.underlying26 rfl (by kernel_rfl)) rfl ?_
  all_goals exact ⟨_, _, rfl, Kd.R_flat (d := Kd.int .i64) (fun h_ => h_) (ok := fun k_ => w2.heap.size < k_) (by exact Kd.R_drew (j11_Read.far8 (Kd.R_far (p := ⟨w2.heap.size, 7, none⟩) HL5b.out (fun k_ hk_ => Nat.ne_of_gt hk_) _) (fun k_ hk_ => by have := HLT.out; show k_ ≠ w.heap.size; omega))) (fun k_ hk_ _ he_ => (HL6.out.1 k_ he_.symm).2 hk_.symm), Kd.R_mono (ok := fun k_ => w2.heap.size < k_ ∧ some k_ ≠ (Value.slice A5 l5.length c5).ownBlock) (by exact Kd.R_drew (j11_Read.far8 (Kd.R_far (p := ⟨w2.heap.size, 7, none⟩) HL6.out (fun k_ hk_ => Nat.ne_of_gt hk_.1) _) (fun k_ hk_ => by have := HLT.out; show k_ ≠ w.heap.size; have := hk_.1; omega))) (fun _ hk_ => hk_.2), below_drew1 (j11_Read.below8 HS6.out.fB (Nat.le_refl _))⟩
 ·
  have ce0 : (e6 != 0) = true := by simp [ce]
  have HH1 := am ((if_neg ce).symm.trans HH.out)
  clear HH
  simp only [Option.some.injEq, Prod.mk.injEq] at HH1
  obtain ⟨rfl, rfl, rfl, rfl, rfl, rfl, rfl, rfl, rfl, rfl⟩ := HH1.out
  clear HH1 ce
  go_wp2_with (first | (go_at_call 47; rw [← hW1]; refine (j11_reader_num.calls k (w.heap.size + 1) l0 0 0 n0 b0 e0 w _ HI1.out HB1.out H0.out).mono ?_; rintro e w2 ⟨rfl, hi, hb, hk⟩; have HR2 := (hk.2 _ (blk_lt HR1.out) (by omega) (by simp)).trans HR1.out; have HS0 : Aside0 (j11_Read.St w (w2.alloc (.cells #[.int .i64 (wrap64 (a2 + n0)), .int .i64 a1, .int .i64 0, .int .i64 0, .int .i64 0, .int .i64 0, .slice none 0 0, .slice none 0 0] 26)) (w.heap.size + 1) w2.heap.size w.heap.size #[.int .i64 (wrap64 (a2 + n0)), .int .i64 a1, .int .i64 0, .int .i64 0, .int .i64 0, .int .i64 0, .slice none 0 0, .slice none 0 0] #[.int .i64 0, .int .i64 0, .int .i64 0, .int .i64 0, .int .i64 0, .int .i64 0, .slice none 0 0, .slice none 0 0] l0 b0 e0) := ⟨⟨hi.alloc _, (below_then hb hb.size (below_alloc (Below.refl _ _) _)), heap_alloc_new _ _, (heap_alloc_old _ _ (blk_lt HR2)).trans HR2, (Nat.ne_of_gt hi.lt), by omega, Nat.ne_of_gt (blk_lt HR2), hb.size⟩⟩; have HLT : Aside0 (w.heap.size + 1 < w2.heap.size) := ⟨hi.lt⟩; clear hi hb hk HR2) | (go_at_call 47; refine (j11_reader_num.calls k (w.heap.size + 1) l0 b0 e0 n1 b1 e1 w _ HS0.out.fi HS0.out.fB H1.out).mono ?_; rintro e w3 ⟨rfl, hi, hb, hk⟩; have HT1 := am (HS0.out.call hi hb hk); have HS1 : Aside0 (j11_Read.St w (w3.setCell ⟨w2.heap.size, 2, none⟩ (.int .i64 n1)) (w.heap.size + 1) w2.heap.size w.heap.size #[.int .i64 (wrap64 (a2 + n0)), .int .i64 a1, .int .i64 n1, .int .i64 0, .int .i64 0, .int .i64 0, .slice none 0 0, .slice none 0 0] #[.int .i64 0, .int .i64 0, .int .i64 0, .int .i64 0, .int .i64 0, .int .i64 0, .slice none 0 0, .slice none 0 0] l0 b1 e1) := ⟨HT1.out.set 2 (.int .i64 n1)⟩; have q1 := (blk_cell HT1.out.fx 2).trans rfl; have f1 := blk_frozen HT1.out.fx 2; clear hi hb hk) | (go_at_call 47; refine (j11_reader_num.calls k (w.heap.size + 1) l0 b1 e1 n2 b2 e2 w _ HS1.out.fi HS1.out.fB H2.out).mono ?_; rintro e w4 ⟨rfl, hi, hb, hk⟩; have HT2 := am (HS1.out.call hi hb hk); have HS2 : Aside0 (j11_Read.St w (w4.setCell ⟨w2.heap.size, 3, none⟩ (.int .i64 n2)) (w.heap.size + 1) w2.heap.size w.heap.size #[.int .i64 (wrap64 (a2 + n0)), .int .i64 a1, .int .i64 n1, .int .i64 n2, .int .i64 0, .int .i64 0, .slice none 0 0, .slice none 0 0] #[.int .i64 0, .int .i64 0, .int .i64 0, .int .i64 0, .int .i64 0, .int .i64 0, .slice none 0 0, .slice none 0 0] l0 b2 e2) := ⟨HT2.out.set 3 (.int .i64 n2)⟩; have q2 := (blk_cell HT2.out.fx 3).trans rfl; have f2 := blk_frozen HT2.out.fx 3; clear hi hb hk) | (go_at_call 47; refine (j11_reader_num.calls k (w.heap.size + 1) l0 b2 e2 n3 b3 e3 w _ HS2.out.fi HS2.out.fB H3.out).mono ?_; rintro e w5 ⟨rfl, hi, hb, hk⟩; have HT3 := am (HS2.out.call hi hb hk); have HS3 : Aside0 (j11_Read.St w (w5.setCell ⟨w2.heap.size, 4, none⟩ (.int .i64 n3)) (w.heap.size + 1) w2.heap.size w.heap.size #[.int .i64 (wrap64 (a2 + n0)), .int .i64 a1, .int .i64 n1, .int .i64 n2, .int .i64 n3, .int .i64 0, .slice none 0 0, .slice none 0 0] #[.int .i64 0, .int .i64 0, .int .i64 0, .int .i64 0, .int .i64 0, .int .i64 0, .slice none 0 0, .slice none 0 0] l0 b3 e3) := ⟨HT3.out.set 4 (.int .i64 n3)⟩; have q3 := (blk_cell HT3.out.fx 4).trans rfl; have f3 := blk_frozen HT3.out.fx 4; clear hi hb hk) | (go_at_call 47; refine (j11_reader_num.calls k (w.heap.size + 1) l0 b3 e3 n4 b4 e4 w _ HS3.out.fi HS3.out.fB H4.out).mono ?_; rintro e w6 ⟨rfl, hi, hb, hk⟩; have HT4 := am (HS3.out.call hi hb hk); have HS4 : Aside0 (j11_Read.St w (w6.setCell ⟨w2.heap.size, 5, none⟩ (.int .i64 n4)) (w.heap.size + 1) w2.heap.size w.heap.size #[.int .i64 (wrap64 (a2 + n0)), .int .i64 a1, .int .i64 n1, .int .i64 n2, .int .i64 n3, .int .i64 n4, .slice none 0 0, .slice none 0 0] #[.int .i64 0, .int .i64 0, .int .i64 0, .int .i64 0, .int .i64 0, .int .i64 0, .slice none 0 0, .slice none 0 0] l0 b4 e4) := ⟨HT4.out.set 5 (.int .i64 n4)⟩; have q4 := (blk_cell HT4.out.fx 5).trans rfl; have f4 := blk_frozen HT4.out.fx 5; clear hi hb hk) | (go_at_call 48; refine (j11_reader_list.calls k (w.heap.size + 1) l0 b4 e4 l5 b5 e5 w _ HS4.out.fi HS4.out.fB H5.out).mono ?_; rintro e w7 ⟨v5, rfl, ho, hi, hb, hk⟩; have HL5 := am (Kd.R_lower (Kd.R_mono (ok' := fun k_ => w2.heap.size < k_) (Kd.R_bound ho) (fun k_ hk_ => Nat.lt_of_lt_of_le (blk_lt HS4.out.fx) hk_.2.1)) HS4.out.fB.size); have HT5 := am (HS4.out.call hi hb hk); obtain ⟨A5, c5, ee5⟩ := Kd.R_slice ho; subst ee5; have HS5 : Aside0 (j11_Read.St w (w7.setCell ⟨w2.heap.size, 6, none⟩ (.slice A5 l5.length c5)) (w.heap.size + 1) w2.heap.size w.heap.size #[.int .i64 (wrap64 (a2 + n0)), .int .i64 a1, .int .i64 n1, .int .i64 n2, .int .i64 n3, .int .i64 n4, .slice A5 l5.length c5, .slice none 0 0] #[.int .i64 0, .int .i64 0, .int .i64 0, .int .i64 0, .int .i64 0, .int .i64 0, .slice none 0 0, .slice none 0 0] l0 b5 e5) := ⟨HT5.out.set 6 _⟩; have q5 := (blk_cell HT5.out.fx 6).trans rfl; have f5 := blk_frozen HT5.out.fx 6; clear ho hi hb hk) | (go_at_call 48; refine (j11_reader_list.calls k (w.heap.size + 1) l0 b5 e5 l6 b6 e6 w _ HS5.out.fi HS5.out.fB H6.out).mono ?_; rintro e w8 ⟨v6, rfl, ho, hi, hb, hk⟩; have HL5b := am (Kd.R_keep (Kd.R_far (p := ⟨w2.heap.size, 6, none⟩) HL5.out (fun k_ hk_ => Nat.ne_of_gt hk_) (.slice A5 l5.length c5)) hk (fun k_ hk_ => by have := HS5.out.gx; have := HS5.out.fi.lt; have := HLT.out; omega)); obtain ⟨in5, ow5⟩ := Kd.R_own (Kd.R_far (p := ⟨w2.heap.size, 6, none⟩) HL5.out (fun k_ hk_ => Nat.ne_of_gt hk_) (.slice A5 l5.length c5)); have HL6 := am (Kd.R_lower (Kd.R_mono (ok' := fun k_ => w2.heap.size < k_ ∧ some k_ ≠ (Value.slice A5 l5.length c5).ownBlock) (Kd.R_bound (Kd.R_new ho ow5)) (fun k_ hk_ => ⟨Nat.lt_of_lt_of_le (blk_lt HS5.out.fx) hk_.2.1, hk_.1.2⟩)) HS5.out.fB.size); have HT6 := am (HS5.out.call hi hb hk); obtain ⟨A6, c6, ee6⟩ := Kd.R_slice ho; subst ee6; have HS6 : Aside0 (j11_Read.St w (w8.setCell ⟨w2.heap.size, 7, none⟩ (.slice A6 l6.length c6)) (w.heap.size + 1) w2.heap.size w.heap.size #[.int .i64 (wrap64 (a2 + n0)), .int .i64 a1, .int .i64 n1, .int .i64 n2, .int .i64 n3, .int .i64 n4, .slice A5 l5.length c5, .slice A6 l6.length c6] #[.int .i64 0, .int .i64 0, .int .i64 0, .int .i64 0, .int .i64 0, .int .i64 0, .slice none 0 0, .slice none 0 0] l0 b6 e6) := ⟨HT6.out.set 7 _⟩; have q6 := (blk_cell HT6.out.fx 7).trans rfl; have f6 := blk_frozen HT6.out.fx 7; obtain ⟨Az, cz, hz, _, _⟩ := HS6.out.fi; have q7 := cellS94_2 hz; have q8 := cellS94_1 hz; clear ho hi hb hk ow5 hz))
  have x0 := (blk_cell HS6.out.fx 0).trans rfl
  have y0 := (blk_cell HS6.out.fr 0).trans rfl
  have z0 := blk_frozen HS6.out.fr 0
  have x1 := (blk_cell HS6.out.fx 1).trans rfl
  have y1 := (blk_cell HS6.out.fr 1).trans rfl
  have z1 := blk_frozen HS6.out.fr 1
  have x2 := (blk_cell HS6.out.fx 2).trans rfl
  have y2 := (blk_cell HS6.out.fr 2).trans rfl
  have z2 := blk_frozen HS6.out.fr 2
  have x3 := (blk_cell HS6.out.fx 3).trans rfl
  have y3 := (blk_cell HS6.out.fr 3).trans rfl
  have z3 := blk_frozen HS6.out.fr 3
  have x4 := (blk_cell HS6.out.fx 4).trans rfl
  have y4 := (blk_cell HS6.out.fr 4).trans rfl
  have z4 := blk_frozen HS6.out.fr 4
  have x5 := (blk_cell HS6.out.fx 5).trans rfl
  have y5 := (blk_cell HS6.out.fr 5).trans rfl
  have z5 := blk_frozen HS6.out.fr 5
  have x6 := (blk_cell HS6.out.fx 6).trans rfl
  have y6 := (blk_cell HS6.out.fr 6).trans rfl
  have z6 := blk_frozen HS6.out.fr 6
  have x7 := (blk_cell HS6.out.fx 7).trans rfl
  have y7 := (blk_cell HS6.out.fr 7).trans rfl
  have z7 := blk_frozen HS6.out.fr 7
  clear HR1 hW1
  go_region
  all_goals (try go_wp2)
  all_goals refine bodyPost_ret (results_ctt rfl _ _ w.heap.size 26 #[.int .i64 0, .int .i64 0, .int .i64 0, .int .i64 0, .int .i64 0, .int .i64 0, .slice none 0 0, .slice none 0 0] (0, 0) _ rfl (blk_drew (j11_Read.put8 HS6.out.fr)) Try.underlying26 rfl (by kernel_rfl)) rfl ?_
  all_goals exact ⟨_, _, rfl, Kd.R_nil _ _ _ _ _, Kd.R_nil _ _ _ _ _, below_drew1 (j11_Read.below8 HS6.out.fB (Nat.le_refl _))⟩
end Go.Proofs.Ytnmmkgagbfniiaa.A
end
