/- MCollectBlocks16: texts of this session and of the kit's printer on the road to the statement CollectBlocks, laid into one and rid of what it doesn't need. No condition beyond what each fact names. -/
import Derived.Test.YtnmmkgagbfniiaaMCollectBlocks3
import Derived.Test.YtnmmkgagbfniiaaMCollectBlocks2
import Derived.Test.YtnmmkgagbfniiaaMCollectBlocks15
import Derived.Test.YtnmmkgagbfniiaaMCollectBlocks5
import Derived.Test.YtnmmkgagbfniiaaMCollectBlocks12
import Derived.Laws.BitsAllLaws
import Derived.Test.YtnmmkgagbfniiaaMCollectBlocks1
import Derived.Test.YtnmmkgagbfniiaaMCollectBlocks6
section
namespace Go.Proofs.Ytnmmkgagbfniiaa.A
open Go.RowKit Go.Proofs.YtnmmkgagbfniiaaW.PrintWords Go.Proofs.YtnmmkgagbfniiaaW.PrintLast Go.Proofs.YtnmmkgagbfniiaaW.PrintMore
attribute [local go_sem] max2_int min2_int max_two min_two max_three min_three max_four min_four
set_option linter.unusedVariables false
set_option linter.unusedSimpArgs false
def j14_Blocks.l0 : Nat → List Int → Int → List (S42) → Int → Int → Int → Option ((List (S42)) × Int)
 | 0, _, _, _, _, _, _ => none
 | k + 1, x0, x1, x6, x7, x8, x9 => if 0 ≤ x7 then (if x7 ≤ (x0.length : Int) then ((j11_Decode.f k (x0.drop (x7 : Int).toNat)).bind fun bt687 => (if bt687.2.2.2.2 = 0 then (if bt687.1 = x1 then (if bt687.2.1 = x8 then (if 0 < (bt687.2.2.1.length : Int) then (if ((rd_T26 bt687.2.2.1 0).f0) ≤ x9 then (some (x6, x7)) else (if x6.length < 3518437208883 then (if 0 ≤ (wrap64 ((bt687.2.2.1.length : Int) - 1)) then (if (wrap64 ((bt687.2.2.1.length : Int) - 1)) < (bt687.2.2.1.length : Int) then (j14_Blocks.l0 k x0 x1 (x6 ++ [(⟨bt687.1, bt687.2.1, bt687.2.2.1⟩ : S42)]) (wrap64 (x7 + bt687.2.2.2.1)) (wrap64 (x8 + (bt687.2.2.1.length : Int))) ((rd_T26 bt687.2.2.1 (wrap64 ((bt687.2.2.1.length : Int) - 1))).f0)) else (none)) else (none)) else (none))) else (none)) else (some (x6, x7))) else (some (x6, x7))) else (some (x6, x7)))) else (none)) else (none)
def j14_Blocks.f (k : Nat) (l0 : List Int) (a1 : Int) : Option ((List (S42)) × Int) := j14_Blocks.l0 k l0 a1 ([] : List (S42)) 0 0 (-1)
theorem j14_Blocks.mono_l : ∀ k, (∀ y0 y1 y2 y3 y4 y5, LeO (j14_Blocks.l0 k y0 y1 y2 y3 y4 y5) (j14_Blocks.l0 (k + 1) y0 y1 y2 y3 y4 y5))
 | 0 => fun _ _ _ _ _ _ r h => by simp [j14_Blocks.l0] at h
 | k + 1 => by
  have ih0 := j14_Blocks.mono_l k
  ·
   intro y0 y1 y2 y3 y4 y5
   unfold j14_Blocks.l0
   exact zM
theorem j14_Blocks.mono : ∀ a0 a1 k, LeO (j14_Blocks.f k a0 a1) (j14_Blocks.f (k + 1) a0 a1) := by
 intro a0 a1 k
 have ih0 := j14_Blocks.mono_l k
 unfold j14_Blocks.f
 exact zM
set_option maxHeartbeats 8000000 in
set_option maxRecDepth 100000 in
theorem j14_Blocks.calls (k : Nat) (A0 : Option Addr) (c0 : Nat) (l0 : List Int) (a1 : Int) (r1 : List (S42)) (r2 : Int) (w : World) (hr0 : Kd.C (Kd.int .u8) w A0 l0.length l0) (hc0 : l0.length ≤ c0) (h : j14_Blocks.f k l0 a1 = some (r1, r2)) :
  Calls Try.prog 33 #[.slice A0 l0.length c0, .int .i64 a1] w fun e w' => ∃ v0_ : Value, e = .returned (.tuple #[v0_, .int .i64 r2]) ∧ Kd.R k42 42 w' w.heap.size (fun _ => True) v0_ r1 ∧ Below w.heap.size w w' := by
 have hu42 := Try.underlying42
 have HR0 := am hr0
 have HC0 := am hc0
 clear hr0 hc0
 have HB := am (Below.refl w.heap.size w)
 have H : (j14_Blocks.l0 k l0 a1 ([] : List (S42)) 0 0 (-1)) = some (r1, r2) := h
 clear h
 have H' := am H
 clear H
 go_enter Try.func33, Try.ntmps33
 go_wp2
 go_loopg [6, 7, 8, 9] k (fun kq v6 v7 v8 v9 w' => ∃ (x6_1 : List (S42)) (x7_1 : Int) (x8_1 : Int) (x9_1 : Int), v7 = .int .i64 x7_1 ∧ v8 = .int .i64 x8_1 ∧ v9 = .int .i64 x9_1 ∧ Aside0 (j14_Blocks.l0 kq l0 a1 x6_1 x7_1 x8_1 x9_1 = some (r1, r2)) ∧ Aside0 (kq ≤ k) ∧ Aside0 (Kd.R k42 42 w' w.heap.size (fun _ => True) v6 x6_1) ∧ Aside0 (Below w.heap.size w w'))
 case atStart => exact ⟨(([] : List (S42))), (0), (0), ((-1)), zr, zr, zr, H', ⟨Nat.le_refl _⟩, ⟨by first | exact Kd.R_nil _ _ _ _ _ | exact Kd.N_nil _ _ _ _ _ | exact Kd.V_nil _ _ _ _ _ | exact Kd.Q_nil _ _ _ _ _ | exact Kd.S_nil _ _ _ _ _⟩, ⟨zb HB⟩⟩
 case round =>
  clear H'
  try clear p2
  obtain ⟨x6_1, x7_1, x8_1, x9_1, rfl, rfl, rfl, HA, HK1, HO_6, HB⟩ := hrel
  cases gk with
  | zero => exact absurd HA.out (by simp [j14_Blocks.l0])
  | succ k1 =>
   have H := HA.out
   clear HA
   simp only [j14_Blocks.l0] at H
   by_cases c3 : 0 ≤ x7_1
   ·
    rw [if_pos c3] at H
    have c3b0 := eq_true c3
    have c3b1 : decide (0 ≤ x7_1) = true := decide_eq_true c3
    clear c3
    by_cases c4 : x7_1 ≤ (l0.length : Int)
    ·
     rw [if_pos c4] at H
     have c4b0 := eq_true c4
     have c4b1 : decide (x7_1 ≤ (l0.length : Int)) = true := decide_eq_true c4
     clear c4
     replace H := Option.bind_eq_some_iff.mp H
     obtain ⟨⟨t687, t688, t689, t692, t693⟩, A50, H⟩ := H
     (try dsimp only at H)
     have A5 := am A50
     clear A50
     by_cases c6 : t693 = 0
     ·
      rw [if_pos c6] at H
      obtain ⟨c6b0, c6b1⟩ := zt c6
      clear c6
      by_cases c7 : t687 = a1
      ·
       rw [if_pos c7] at H
       obtain ⟨c7b0, c7b1⟩ := zt c7
       clear c7
       by_cases c8 : t688 = x8_1
       ·
        rw [if_pos c8] at H
        obtain ⟨c8b0, c8b1⟩ := zt c8
        clear c8
        by_cases c9 : 0 < (t689.length : Int)
        ·
         rw [if_pos c9] at H
         have c9b0 := decide_eq_true c9
         have c9b1 : decide (0 < t689.length) = true := decide_eq_true (by omega)
         clear c9
         by_cases c10 : ((rd_T26 t689 0).f0) ≤ x9_1
         ·
          rw [if_pos c10] at H
          have c10b0 := decide_eq_true c10
          clear c10
          simp only [Option.some.injEq, Prod.mk.injEq] at H
          obtain ⟨rfl, rfl⟩ := H
          obtain ⟨i011, hi011, _, hsz11, _⟩ := info_parts info5
          obtain ⟨A11, hcut11, hA11, hC11⟩ := print_drop_of (P := Try.prog) (Value.int .u8) 0 27 5 .i64 Try.underlying27 hi011 hsz11 A0 c0 l0 x7_1 zo zo HC0.out
          have HR686 := am (Kd.C_of_reads (h1 := fun _ => rfl) (hA11 _ (Kd.reads_of_C HR0.out)))
          have HC686 := am hC11
          clear hA11 hC11 hi011 hsz11
          go_wp2_with (first | ((with_reducible refine gate_callee (f := 30) rfl ?_); refine goesL_ (some 17) rfl rfl Try.func30 (by kernel_rfl) rfl #[.slice A11 (l0.drop (x7_1 : Int).toNat).length (c0 - x7_1.toNat)] rfl y18 ?_; (with_reducible refine (j11_Decode.calls k1 _ _ (l0.drop (x7_1 : Int).toNat) t687 t688 t689 t692 t693 _ ?side1 ?side2 A5.out).mono ?_); (case side1 => exact y76); (case side2 => exact HC686.out); rintro e w12 ⟨v690, rfl, ho0, hb⟩; refine ⟨_, rfl, ?_⟩; replace HO_6 := am (Kd.R_elder' (zR HO_6.out) (Kd.S_base ho0) hb); have HO691 := am (Kd.S_lower ho0 (below_size (zb HB))); replace HB := am (below_step (zb HB) hb); clear hb ho0) | ((with_reducible refine gate_dst (N := 10) rfl ?_); refine zB 10 #[.int .i64 0, .int .i64 0, .slice none 0 0] 42 ?_; intro gb694 hg w13 hbox hb; replace HO_6 := am (Kd.R_below (Kd.R_elderB (zR HO_6.out) gb694 (Nat.le_of_eq hg.symm)) hb); replace HO691 := am (Kd.S_below (zS HO691.out) hb); have BK694 := am (hbox); have GE694 := zG hg (zb HB); replace HB := am (below_step (zb HB) hb); clear hb hbox hg; obtain ⟨_, _, _, _, _, _⟩ := zq3 BK694; obtain ⟨Ao15, co15, eo15⟩ := Kd.S_slice HO691.out; subst eo15) | ((with_reducible refine gate_store (t := 42) (p := 10) rfl ?_); refine store_event (t := 42) (p := 10) (v := ?vo_w16) (w1 := (((w13.setCell ⟨gb694, 0, none⟩ (.int .i64 t687)).setCell ⟨gb694, 1, none⟩ (.int .i64 t688)).setCell ⟨gb694, 2, none⟩ (.slice Ao15 t689.length co15))) ?hg ?ho ?hn ?hr ?_; (case ho => rfl); (case hg => rfl); (case hn => rfl); (case hr => exact y28); intro w16 hw; have n0_ : Aside0 (Kd.R k42 42 w16 w.heap.size (fun k_ => some k_ ≠ (.slice Ao15 t689.length co15 : Value).ownBlock ∧ k_ ≠ gb694) u6 x6_1) := ⟨(by rw [hw]; exact (by (with_reducible repeat (first | apply Kd.R_alloc | apply Kd.R_drewN | apply Kd.R_drew)); exact Kd.R_mono (Kd.R_far (p := ⟨gb694, 2, none⟩) (Kd.R_far (p := ⟨gb694, 1, none⟩) (Kd.R_far (p := ⟨gb694, 0, none⟩) (Kd.R_mono HO_6.out (fun k_ hk => (⟨hk, hk.2⟩ : _ ∧ k_ ≠ gb694))) (fun _ hk => hk.2) (.int .i64 t687)) (fun _ hk => hk.2) (.int .i64 t688)) (fun _ hk => hk.2) (.slice Ao15 t689.length co15)) (fun _ hk => ⟨hk.1.1.2, hk.1.2⟩)))⟩; have n1_ : Aside0 (Kd.S k26 26 w16 w.heap.size (fun _ => True) (.slice Ao15 t689.length co15) t689) := ⟨(by rw [hw]; exact (by (with_reducible repeat (first | apply Kd.S_alloc | apply Kd.S_drewN | apply Kd.S_drew)); exact Kd.S_mono (Kd.S_far (p := ⟨gb694, 2, none⟩) (Kd.S_far (p := ⟨gb694, 1, none⟩) (Kd.S_far (p := ⟨gb694, 0, none⟩) (Kd.S_types HO691.out BK694.out (by decide)) (fun _ hk => hk.2) (.int .i64 t687)) (fun _ hk => hk.2) (.int .i64 t688)) (fun _ hk => hk.2) (.slice Ao15 t689.length co15)) (fun _ hk => trivial)))⟩; have n2_ : Aside0 (w16.heap[gb694]? = some (.cells #[.int .i64 t687, .int .i64 t688, .slice Ao15 t689.length co15] 42 (0, 0))) := ⟨y39⟩; have n3_ : Aside0 (Below w.heap.size w w16) := ⟨(by rw [hw]; exact (zb HB))⟩; clear hw; clear HO_6; clear HO691; clear BK694; clear HB; have HO_6 := n0_; have HO691 := n1_; have BK694 := n2_; have HB := n3_; clear n0_ n1_ n2_ n3_; obtain ⟨_, _, _, _, _, _⟩ := zq3 BK694; have p695 : 0 ≤ (0 : Int) := (by omega); have q695 : 0 < (t689.length : Int) := zo; obtain ⟨ad695, A695_6, c695_6, A695_7, c695_7, e695, hx695_0, hx695_1, hx695_2, hx695_3, hx695_4, hx695_5, hx695_6, hx695_7, hl695_6, hi695_6, hl695_7, hi695_7⟩ := at_T26 (Kd.S_reads' HO691.out).2.2 0 p695 q695; cases e695; obtain ⟨ce695, hce695, hMe695, hcc695⟩ := Kd.S_get HO691.out z26 0 p695 (by first | exact q695 | exact zo | (have e_ := (Kd.S_reads' HO691.out).1; omega)); obtain ⟨ve695_6, ve695_7, rfl, ge695_6, ge695_7⟩ := k26_openM hMe695; have hv695_6 := hcc695 6 _ rfl; rw [add_field _ _ 6 (by omega)] at hv695_6; replace hv695_6 := Option.some.inj (hv695_6.symm.trans hx695_6); rw [hv695_6] at ge695_6; have HL695_6 := am (show Kd.R (Kd.int .i64) 3 _ _ _ _ ((rd_T26 t689 0).f1.f5) from ge695_6); clear hv695_6 ge695_6; have hv695_7 := hcc695 7 _ rfl; rw [add_field _ _ 7 (by omega)] at hv695_7; replace hv695_7 := Option.some.inj (hv695_7.symm.trans hx695_7); rw [hv695_7] at ge695_7; have HL695_7 := am (show Kd.R (Kd.int .i64) 3 _ _ _ _ ((rd_T26 t689 0).f1.f6) from ge695_7); clear hv695_7 ge695_7; clear hcc695 hce695; have qi695 : (0 < t689.length) = True := eq_true (by omega); (try rw [show ((0 : Int)).toNat = 0 from rfl] at hx695_0); (try rw [show 0 * 8 = 0 from rfl] at hx695_0); (try rw [Addr.add_zero'] at hx695_0); (try rw [show ((0 : Int)).toNat = 0 from rfl] at hx695_1); (try rw [show 0 * 8 = 0 from rfl] at hx695_1); (try rw [Addr.add_zero'] at hx695_1); (try rw [show ((0 : Int)).toNat = 0 from rfl] at hx695_2); (try rw [show 0 * 8 = 0 from rfl] at hx695_2); (try rw [Addr.add_zero'] at hx695_2); (try rw [show ((0 : Int)).toNat = 0 from rfl] at hx695_3); (try rw [show 0 * 8 = 0 from rfl] at hx695_3); (try rw [Addr.add_zero'] at hx695_3); (try rw [show ((0 : Int)).toNat = 0 from rfl] at hx695_4); (try rw [show 0 * 8 = 0 from rfl] at hx695_4); (try rw [Addr.add_zero'] at hx695_4); (try rw [show ((0 : Int)).toNat = 0 from rfl] at hx695_5); (try rw [show 0 * 8 = 0 from rfl] at hx695_5); (try rw [Addr.add_zero'] at hx695_5); (try rw [show ((0 : Int)).toNat = 0 from rfl] at hx695_6); (try rw [show 0 * 8 = 0 from rfl] at hx695_6); (try rw [Addr.add_zero'] at hx695_6); (try rw [show ((0 : Int)).toNat = 0 from rfl] at hx695_7); (try rw [show 0 * 8 = 0 from rfl] at hx695_7); (try rw [Addr.add_zero'] at hx695_7); have HR695_6 := am hi695_6; have HC695_6 := am hl695_6; clear hi695_6 hl695_6; have HR695_7 := am hi695_7; have HC695_7 := am hl695_7; clear hi695_7 hl695_7; replace p695 := eq_true p695; replace q695 := eq_true q695))
          go_ret2
          exact ⟨_, ze, by (with_reducible repeat (first | apply Kd.R_alloc | apply Kd.R_drewN | apply Kd.R_drew)); exact Kd.R_mono HO_6.out (fun _ hk => trivial), zb HB⟩
         ·
          rw [if_neg c10] at H
          have c10b0 := decide_eq_false c10
          clear c10
          by_cases c18 : x6_1.length < 3518437208883
          ·
           rw [if_pos c18] at H
           have LMc18 := am c18
           clear c18
           obtain ⟨y696, hy696⟩ : ∃ y_ : List (S42), y_ = (x6_1 ++ [(⟨t687, t688, t689⟩ : S42)]) := ⟨_, rfl⟩
           replace H : (if 0 ≤ (wrap64 ((t689.length : Int) - 1)) then (if (wrap64 ((t689.length : Int) - 1)) < (t689.length : Int) then (j14_Blocks.l0 k1 l0 a1 y696 (wrap64 (x7_1 + t692)) (wrap64 (x8_1 + (t689.length : Int))) ((rd_T26 t689 (wrap64 ((t689.length : Int) - 1))).f0)) else (none)) else (none)) = some (r1, r2) := by first | (rw [hy696]; with_reducible exact H) | (have H2_ := (Option.bind_some _ _).symm.trans H; rw [hy696]; with_reducible exact H2_) | (have H2_ := (Option.bind_some _ _).symm.trans H; with_reducible exact H2_) | with_reducible exact H | (rw [hy696]; exact H) | exact H
           have Ny696 := am hy696
           clear hy696
           obtain ⟨ji19, hji19⟩ : ∃ j_ : Int, (wrap64 ((t689.length : Int) - 1)) = j_ := ⟨_, rfl⟩
           (first | rw [hji19] at H | simp only [hji19] at H)
           (try rw [hji19] at A5)
           have hji19w : (IntKind.i64.wrap ((t689.length : Int) - 1)) = ji19 := (i64_w _).trans hji19
           by_cases c20 : 0 ≤ (ji19)
           ·
            rw [if_pos c20] at H
            have c20b0 := decide_eq_true c20
            clear c20
            by_cases c21 : (ji19) < (t689.length : Int)
            ·
             rw [if_pos c21] at H
             have c21b0 := decide_eq_true c21
             clear c21
             have H' := am H
             clear H
             obtain ⟨i022, hi022, _, hsz22, _⟩ := info_parts info5
             obtain ⟨A22, hcut22, hA22, hC22⟩ := print_drop_of (P := Try.prog) (Value.int .u8) 0 27 5 .i64 Try.underlying27 hi022 hsz22 A0 c0 l0 x7_1 zo zo HC0.out
             have HR686 := am (Kd.C_of_reads (h1 := fun _ => rfl) (hA22 _ (Kd.reads_of_C HR0.out)))
             have HC686 := am hC22
             clear hA22 hC22 hi022 hsz22
             go_wp2_with (first | ((with_reducible refine gate_callee (f := 30) rfl ?_); refine goesL_ (some 17) rfl rfl Try.func30 (by kernel_rfl) rfl #[.slice A22 (l0.drop (x7_1 : Int).toNat).length (c0 - x7_1.toNat)] rfl y18 ?_; (with_reducible refine (j11_Decode.calls k1 _ _ (l0.drop (x7_1 : Int).toNat) t687 t688 t689 t692 t693 _ ?side1 ?side2 A5.out).mono ?_); (case side1 => exact y76); (case side2 => exact HC686.out); rintro e w23 ⟨v690, rfl, ho0, hb⟩; refine ⟨_, rfl, ?_⟩; replace HO_6 := am (Kd.R_elder' (zR HO_6.out) (Kd.S_base ho0) hb); have HO691 := am (Kd.S_lower ho0 (below_size (zb HB))); replace HB := am (below_step (zb HB) hb); clear hb ho0) | ((with_reducible refine gate_dst (N := 10) rfl ?_); refine zB 10 #[.int .i64 0, .int .i64 0, .slice none 0 0] 42 ?_; intro gb694 hg w24 hbox hb; replace HO_6 := am (Kd.R_below (Kd.R_elderB (zR HO_6.out) gb694 (Nat.le_of_eq hg.symm)) hb); replace HO691 := am (Kd.S_below (zS HO691.out) hb); have BK694 := am (hbox); have GE694 := zG hg (zb HB); replace HB := am (below_step (zb HB) hb); clear hb hbox hg; obtain ⟨_, _, _, _, _, _⟩ := zq3 BK694; obtain ⟨Ao26, co26, eo26⟩ := Kd.S_slice HO691.out; subst eo26) | ((with_reducible refine gate_store (t := 42) (p := 10) rfl ?_); refine store_event (t := 42) (p := 10) (v := ?vo_w27) (w1 := (((w24.setCell ⟨gb694, 0, none⟩ (.int .i64 t687)).setCell ⟨gb694, 1, none⟩ (.int .i64 t688)).setCell ⟨gb694, 2, none⟩ (.slice Ao26 t689.length co26))) ?hg ?ho ?hn ?hr ?_; (case ho => rfl); (case hg => rfl); (case hn => rfl); (case hr => exact y28); intro w27 hw; have n0_ : Aside0 (Kd.R k42 42 w27 w.heap.size (fun k_ => some k_ ≠ (.slice Ao26 t689.length co26 : Value).ownBlock ∧ k_ ≠ gb694) u6 x6_1) := ⟨(by rw [hw]; exact (by (with_reducible repeat (first | apply Kd.R_alloc | apply Kd.R_drewN | apply Kd.R_drew)); exact Kd.R_mono (Kd.R_far (p := ⟨gb694, 2, none⟩) (Kd.R_far (p := ⟨gb694, 1, none⟩) (Kd.R_far (p := ⟨gb694, 0, none⟩) (Kd.R_mono HO_6.out (fun k_ hk => (⟨hk, hk.2⟩ : _ ∧ k_ ≠ gb694))) (fun _ hk => hk.2) (.int .i64 t687)) (fun _ hk => hk.2) (.int .i64 t688)) (fun _ hk => hk.2) (.slice Ao26 t689.length co26)) (fun _ hk => ⟨hk.1.1.2, hk.1.2⟩)))⟩; have n1_ : Aside0 (Kd.S k26 26 w27 w.heap.size (fun _ => True) (.slice Ao26 t689.length co26) t689) := ⟨(by rw [hw]; exact (by (with_reducible repeat (first | apply Kd.S_alloc | apply Kd.S_drewN | apply Kd.S_drew)); exact Kd.S_mono (Kd.S_far (p := ⟨gb694, 2, none⟩) (Kd.S_far (p := ⟨gb694, 1, none⟩) (Kd.S_far (p := ⟨gb694, 0, none⟩) (Kd.S_types HO691.out BK694.out (by decide)) (fun _ hk => hk.2) (.int .i64 t687)) (fun _ hk => hk.2) (.int .i64 t688)) (fun _ hk => hk.2) (.slice Ao26 t689.length co26)) (fun _ hk => trivial)))⟩; have n2_ : Aside0 (w27.heap[gb694]? = some (.cells #[.int .i64 t687, .int .i64 t688, .slice Ao26 t689.length co26] 42 (0, 0))) := ⟨y39⟩; have n3_ : Aside0 (Below w.heap.size w w27) := ⟨(by rw [hw]; exact (zb HB))⟩; clear hw; clear HO_6; clear HO691; clear BK694; clear HB; have HO_6 := n0_; have HO691 := n1_; have BK694 := n2_; have HB := n3_; clear n0_ n1_ n2_ n3_; obtain ⟨_, _, _, _, _, _⟩ := zq3 BK694; have p695 : 0 ≤ (0 : Int) := (by omega); have q695 : 0 < (t689.length : Int) := zo; obtain ⟨ad695, A695_6, c695_6, A695_7, c695_7, e695, hx695_0, hx695_1, hx695_2, hx695_3, hx695_4, hx695_5, hx695_6, hx695_7, hl695_6, hi695_6, hl695_7, hi695_7⟩ := at_T26 (Kd.S_reads' HO691.out).2.2 0 p695 q695; cases e695; obtain ⟨ce695, hce695, hMe695, hcc695⟩ := Kd.S_get HO691.out z26 0 p695 (by first | exact q695 | exact zo | (have e_ := (Kd.S_reads' HO691.out).1; omega)); obtain ⟨ve695_6, ve695_7, rfl, ge695_6, ge695_7⟩ := k26_openM hMe695; have hv695_6 := hcc695 6 _ rfl; rw [add_field _ _ 6 (by omega)] at hv695_6; replace hv695_6 := Option.some.inj (hv695_6.symm.trans hx695_6); rw [hv695_6] at ge695_6; have HL695_6 := am (show Kd.R (Kd.int .i64) 3 _ _ _ _ ((rd_T26 t689 0).f1.f5) from ge695_6); clear hv695_6 ge695_6; have hv695_7 := hcc695 7 _ rfl; rw [add_field _ _ 7 (by omega)] at hv695_7; replace hv695_7 := Option.some.inj (hv695_7.symm.trans hx695_7); rw [hv695_7] at ge695_7; have HL695_7 := am (show Kd.R (Kd.int .i64) 3 _ _ _ _ ((rd_T26 t689 0).f1.f6) from ge695_7); clear hv695_7 ge695_7; clear hcc695 hce695; have qi695 : (0 < t689.length) = True := eq_true (by omega); (try rw [show ((0 : Int)).toNat = 0 from rfl] at hx695_0); (try rw [show 0 * 8 = 0 from rfl] at hx695_0); (try rw [Addr.add_zero'] at hx695_0); (try rw [show ((0 : Int)).toNat = 0 from rfl] at hx695_1); (try rw [show 0 * 8 = 0 from rfl] at hx695_1); (try rw [Addr.add_zero'] at hx695_1); (try rw [show ((0 : Int)).toNat = 0 from rfl] at hx695_2); (try rw [show 0 * 8 = 0 from rfl] at hx695_2); (try rw [Addr.add_zero'] at hx695_2); (try rw [show ((0 : Int)).toNat = 0 from rfl] at hx695_3); (try rw [show 0 * 8 = 0 from rfl] at hx695_3); (try rw [Addr.add_zero'] at hx695_3); (try rw [show ((0 : Int)).toNat = 0 from rfl] at hx695_4); (try rw [show 0 * 8 = 0 from rfl] at hx695_4); (try rw [Addr.add_zero'] at hx695_4); (try rw [show ((0 : Int)).toNat = 0 from rfl] at hx695_5); (try rw [show 0 * 8 = 0 from rfl] at hx695_5); (try rw [Addr.add_zero'] at hx695_5); (try rw [show ((0 : Int)).toNat = 0 from rfl] at hx695_6); (try rw [show 0 * 8 = 0 from rfl] at hx695_6); (try rw [Addr.add_zero'] at hx695_6); (try rw [show ((0 : Int)).toNat = 0 from rfl] at hx695_7); (try rw [show 0 * 8 = 0 from rfl] at hx695_7); (try rw [Addr.add_zero'] at hx695_7); have HR695_6 := am hi695_6; have HC695_6 := am hl695_6; clear hi695_6 hl695_6; have HR695_7 := am hi695_7; have HC695_7 := am hl695_7; clear hi695_7 hl695_7; replace p695 := eq_true p695; replace q695 := eq_true q695) | ((with_reducible refine gate_builtin (b := .append) (xs := #[.tmp 46, .tmp 48]) rfl ?_); at_builtin; refine Kd.R_append k42 (w0 := w) w.heap.size rfl (.tmp 46) (.tmp 48) 62 42 (.agg #[(.int .i64 0), (.int .i64 0), (.slice none 0 0)]) 40 rfl Try.underlying62 info42 rfl (by decide) (by omega) u6 x6_1 (⟨t687, t688, t689⟩ : S42) [.int .i64 t687, .int .i64 t688, .slice (some ad695) t689.length co26] (fun k_ => k_ ≠ gb694) (fun k_ => ((fun k_ => k_ ≠ gb694)) k_ ∧ some k_ ≠ (u6 : Value).ownBlock) rfl rfl ?aP (fun _ hk => hk) ?aF ?aO ?aB ?aS ?aL ?_; (case aP => exact k42_mkM _ _ _ (⟨t687, t688, t689⟩ : S42) (Kd.R_mono (Kd.R_types (Kd.R_apart' ((Kd.S_R HO691.out)) (Kd.R_typed HO_6.out) (by decide)) BK694.out (by decide)) (fun k_ hk => ⟨hk.2, hk.1.2⟩))); (case aB => exact (zb HB)); (case aF => exact (fun k_ hk => Kd.freshB (g := gb694) (o := .cells #[.int .i64 t687, .int .i64 t688, .slice (some ad695) t689.length co26] 42 (0, 0)) (zu BK694.out) k_ hk)); (case aO => exact (by (with_reducible repeat (first | apply Kd.R_alloc | apply Kd.R_drewN | apply Kd.R_drew)); exact Kd.R_mono HO_6.out (fun _ hk => hk.2))); (case aS => exact y44); (case aL => have := LMc18.out; omega); intro v697 w29 ho hb hg hat; rw [← Ny696.out] at ho; have n0_ := am (blk_grown (g := gb694) (o := .cells #[.int .i64 t687, .int .i64 t688, .slice (some ad695) t689.length co26] 42 (0, 0)) (zu BK694.out) hg (Kd.R_away HO_6.out (fun _ hk => hk.2))); have nS_ := am (Kd.S_over' (zS HO691.out) (Kd.R_typed (zR HO_6.out)) (by decide) hg); have n1_ := am (Kd.R_over' (zR HL695_6.out) (Kd.R_typed (zR HO_6.out)) (by decide) hg); have n2_ := am (Kd.R_over' (zR HL695_7.out) (Kd.R_typed (zR HO_6.out)) (by decide) hg); have n3_ := am (hb); have n4_ := am (ho); clear BK694; clear HL695_6; clear HL695_7; clear HB; clear HO_6; clear HO691; have HO691 := nS_; clear nS_; have BK694 := n0_; have HL695_6 := n1_; have HL695_7 := n2_; have HB := n3_; have HO698 := n4_; clear n0_ n1_ n2_ n3_ n4_; clear ho hb hg hat; obtain ⟨_, _, _, _, _, _⟩ := zq3 BK694; have p699 : 0 ≤ ((ji19) : Int) := zo; have q699 : (ji19) < (t689.length : Int) := zo; obtain ⟨ad699, A699_6, c699_6, A699_7, c699_7, e699, hx699_0, hx699_1, hx699_2, hx699_3, hx699_4, hx699_5, hx699_6, hx699_7, hl699_6, hi699_6, hl699_7, hi699_7⟩ := at_T26 (Kd.S_reads' HO691.out).2.2 (ji19) p699 q699; obtain rfl : ad695 = ad699 := (by injection e699); have HR699_6 := am hi699_6; have HC699_6 := am hl699_6; clear hi699_6 hl699_6; have HR699_7 := am hi699_7; have HC699_7 := am hl699_7; clear hi699_7 hl699_7; replace p699 := eq_true p699; replace q699 := eq_true q699))
             go_roundg k1
             case measure => have := HK1.out; omega
             case rel => exact ⟨(y696), (wrap64 (x7_1 + t692)), (wrap64 (x8_1 + (t689.length : Int))), ((rd_T26 t689 (ji19)).f0), zr, zr, (by first | rfl | (simp; done) | (simp only [← hji19] <;> (first | rfl | simp)) | (simp [*]; done)), H', ⟨by have := HK1.out; omega⟩, ⟨by (with_reducible repeat (first | apply Kd.R_alloc | apply Kd.R_drewN | apply Kd.R_drew)); exact Kd.R_mono HO698.out (fun _ hk => trivial)⟩, ⟨zb HB⟩⟩
            ·
             rw [if_neg c21] at H
             exact absurd H (by simp)
           ·
            rw [if_neg c20] at H
            exact absurd H (by simp)
          ·
           rw [if_neg c18] at H
           exact absurd H (by simp)
        ·
         rw [if_neg c9] at H
         exact absurd H (by simp)
       ·
        rw [if_neg c8] at H
        obtain ⟨c8b0, c8b1⟩ := zs c8
        simp only [Option.some.injEq, Prod.mk.injEq] at H
        obtain ⟨rfl, rfl⟩ := H
        obtain ⟨i031, hi031, _, hsz31, _⟩ := info_parts info5
        obtain ⟨A31, hcut31, hA31, hC31⟩ := print_drop_of (P := Try.prog) (Value.int .u8) 0 27 5 .i64 Try.underlying27 hi031 hsz31 A0 c0 l0 x7_1 zo zo HC0.out
        have HR686 := am (Kd.C_of_reads (h1 := fun _ => rfl) (hA31 _ (Kd.reads_of_C HR0.out)))
        have HC686 := am hC31
        clear hA31 hC31 hi031 hsz31
        go_wp2_with (first | ((with_reducible refine gate_callee (f := 30) rfl ?_); refine goesL_ (some 17) rfl rfl Try.func30 (by kernel_rfl) rfl #[.slice A31 (l0.drop (x7_1 : Int).toNat).length (c0 - x7_1.toNat)] rfl y18 ?_; (with_reducible refine (j11_Decode.calls k1 _ _ (l0.drop (x7_1 : Int).toNat) t687 t688 t689 t692 t693 _ ?side1 ?side2 A5.out).mono ?_); (case side1 => exact y76); (case side2 => exact HC686.out); rintro e w32 ⟨v690, rfl, ho0, hb⟩; refine ⟨_, rfl, ?_⟩; replace HO_6 := am (Kd.R_elder' (zR HO_6.out) (Kd.S_base ho0) hb); have HO691 := am (Kd.S_lower ho0 (below_size (zb HB))); replace HB := am (below_step (zb HB) hb); clear hb ho0) | ((with_reducible refine gate_dst (N := 10) rfl ?_); refine zB 10 #[.int .i64 0, .int .i64 0, .slice none 0 0] 42 ?_; intro gb694 hg w33 hbox hb; replace HO_6 := am (Kd.R_below (Kd.R_elderB (zR HO_6.out) gb694 (Nat.le_of_eq hg.symm)) hb); replace HO691 := am (Kd.S_below (zS HO691.out) hb); have BK694 := am (hbox); have GE694 := zG hg (zb HB); replace HB := am (below_step (zb HB) hb); clear hb hbox hg; obtain ⟨_, _, _, _, _, _⟩ := zq3 BK694; obtain ⟨Ao35, co35, eo35⟩ := Kd.S_slice HO691.out; subst eo35))
        go_ret2
        exact ⟨_, ze, by (with_reducible repeat (first | apply Kd.R_alloc | apply Kd.R_drewN | apply Kd.R_drew)); exact Kd.R_mono (Kd.R_far (p := ⟨gb694, 2, none⟩) (Kd.R_far (p := ⟨gb694, 1, none⟩) (Kd.R_far (p := ⟨gb694, 0, none⟩) (Kd.R_mono HO_6.out (fun k_ hk => (⟨hk, hk.2⟩ : _ ∧ k_ ≠ gb694))) (fun _ hk => hk.2) (.int .i64 t687)) (fun _ hk => hk.2) (.int .i64 t688)) (fun _ hk => hk.2) (.slice Ao35 t689.length co35)) (fun _ hk => trivial), zb HB⟩
      ·
       rw [if_neg c7] at H
       obtain ⟨c7b0, c7b1⟩ := zs c7
       simp only [Option.some.injEq, Prod.mk.injEq] at H
       obtain ⟨rfl, rfl⟩ := H
       obtain ⟨i036, hi036, _, hsz36, _⟩ := info_parts info5
       obtain ⟨A36, hcut36, hA36, hC36⟩ := print_drop_of (P := Try.prog) (Value.int .u8) 0 27 5 .i64 Try.underlying27 hi036 hsz36 A0 c0 l0 x7_1 zo zo HC0.out
       have HR686 := am (Kd.C_of_reads (h1 := fun _ => rfl) (hA36 _ (Kd.reads_of_C HR0.out)))
       have HC686 := am hC36
       clear hA36 hC36 hi036 hsz36
       go_wp2_with (first | ((with_reducible refine gate_callee (f := 30) rfl ?_); refine goesL_ (some 17) rfl rfl Try.func30 (by kernel_rfl) rfl #[.slice A36 (l0.drop (x7_1 : Int).toNat).length (c0 - x7_1.toNat)] rfl y18 ?_; (with_reducible refine (j11_Decode.calls k1 _ _ (l0.drop (x7_1 : Int).toNat) t687 t688 t689 t692 t693 _ ?side1 ?side2 A5.out).mono ?_); (case side1 => exact y76); (case side2 => exact HC686.out); rintro e w37 ⟨v690, rfl, ho0, hb⟩; refine ⟨_, rfl, ?_⟩; replace HO_6 := am (Kd.R_elder' (zR HO_6.out) (Kd.S_base ho0) hb); have HO691 := am (Kd.S_lower ho0 (below_size (zb HB))); replace HB := am (below_step (zb HB) hb); clear hb ho0) | ((with_reducible refine gate_dst (N := 10) rfl ?_); refine zB 10 #[.int .i64 0, .int .i64 0, .slice none 0 0] 42 ?_; intro gb694 hg w38 hbox hb; replace HO_6 := am (Kd.R_below (Kd.R_elderB (zR HO_6.out) gb694 (Nat.le_of_eq hg.symm)) hb); replace HO691 := am (Kd.S_below (zS HO691.out) hb); have BK694 := am (hbox); have GE694 := zG hg (zb HB); replace HB := am (below_step (zb HB) hb); clear hb hbox hg; obtain ⟨_, _, _, _, _, _⟩ := zq3 BK694; obtain ⟨Ao40, co40, eo40⟩ := Kd.S_slice HO691.out; subst eo40))
       go_ret2
       exact ⟨_, ze, by (with_reducible repeat (first | apply Kd.R_alloc | apply Kd.R_drewN | apply Kd.R_drew)); exact Kd.R_mono (Kd.R_far (p := ⟨gb694, 2, none⟩) (Kd.R_far (p := ⟨gb694, 1, none⟩) (Kd.R_far (p := ⟨gb694, 0, none⟩) (Kd.R_mono HO_6.out (fun k_ hk => (⟨hk, hk.2⟩ : _ ∧ k_ ≠ gb694))) (fun _ hk => hk.2) (.int .i64 t687)) (fun _ hk => hk.2) (.int .i64 t688)) (fun _ hk => hk.2) (.slice Ao40 t689.length co40)) (fun _ hk => trivial), zb HB⟩
     ·
      rw [if_neg c6] at H
      obtain ⟨c6b0, c6b1⟩ := zs c6
      simp only [Option.some.injEq, Prod.mk.injEq] at H
      obtain ⟨rfl, rfl⟩ := H
      obtain ⟨i041, hi041, _, hsz41, _⟩ := info_parts info5
      obtain ⟨A41, hcut41, hA41, hC41⟩ := print_drop_of (P := Try.prog) (Value.int .u8) 0 27 5 .i64 Try.underlying27 hi041 hsz41 A0 c0 l0 x7_1 zo zo HC0.out
      have HR686 := am (Kd.C_of_reads (h1 := fun _ => rfl) (hA41 _ (Kd.reads_of_C HR0.out)))
      have HC686 := am hC41
      clear hA41 hC41 hi041 hsz41
      go_wp2_with (first | ((with_reducible refine gate_callee (f := 30) rfl ?_); refine goesL_ (some 17) rfl rfl Try.func30 (by kernel_rfl) rfl #[.slice A41 (l0.drop (x7_1 : Int).toNat).length (c0 - x7_1.toNat)] rfl y18 ?_; (with_reducible refine (j11_Decode.calls k1 _ _ (l0.drop (x7_1 : Int).toNat) t687 t688 t689 t692 t693 _ ?side1 ?side2 A5.out).mono ?_); (case side1 => exact y76); (case side2 => exact HC686.out); rintro e w42 ⟨v690, rfl, ho0, hb⟩; refine ⟨_, rfl, ?_⟩; replace HO_6 := am (Kd.R_elder' (zR HO_6.out) (Kd.S_base ho0) hb); have HO691 := am (Kd.S_lower ho0 (below_size (zb HB))); replace HB := am (below_step (zb HB) hb); clear hb ho0) | ((with_reducible refine gate_dst (N := 10) rfl ?_); refine zB 10 #[.int .i64 0, .int .i64 0, .slice none 0 0] 42 ?_; intro gb694 hg w43 hbox hb; replace HO_6 := am (Kd.R_below (Kd.R_elderB (zR HO_6.out) gb694 (Nat.le_of_eq hg.symm)) hb); replace HO691 := am (Kd.S_below (zS HO691.out) hb); have BK694 := am (hbox); have GE694 := zG hg (zb HB); replace HB := am (below_step (zb HB) hb); clear hb hbox hg; obtain ⟨_, _, _, _, _, _⟩ := zq3 BK694; obtain ⟨Ao45, co45, eo45⟩ := Kd.S_slice HO691.out; subst eo45))
      go_ret2
      exact ⟨_, ze, by (with_reducible repeat (first | apply Kd.R_alloc | apply Kd.R_drewN | apply Kd.R_drew)); exact Kd.R_mono (Kd.R_far (p := ⟨gb694, 2, none⟩) (Kd.R_far (p := ⟨gb694, 1, none⟩) (Kd.R_far (p := ⟨gb694, 0, none⟩) (Kd.R_mono HO_6.out (fun k_ hk => (⟨hk, hk.2⟩ : _ ∧ k_ ≠ gb694))) (fun _ hk => hk.2) (.int .i64 t687)) (fun _ hk => hk.2) (.int .i64 t688)) (fun _ hk => hk.2) (.slice Ao45 t689.length co45)) (fun _ hk => trivial), zb HB⟩
    ·
     rw [if_neg c4] at H
     exact absurd H (by simp)
   ·
    rw [if_neg c3] at H
    exact absurd H (by simp)
def l15_awake.f (k : Nat)  : Option (Bool) := (j11_Encode.f k 0 0 (([(⟨0, (⟨0, 1, 0, 0, 0, ([] : List Int), ([] : List Int)⟩ : S24)⟩ : S26)] : List (S26)))).bind fun bt703 => ((collect_Blocks.f k bt703.1 0).bind fun bt707 => (if (bt707.1.length : Int) = 1 then (some (bt707.2 == (bt703.1.length : Int))) else (some false)))
theorem l15_awake.mono : ∀ k, LeO (l15_awake.f k ) (l15_awake.f (k + 1) ) := by
 intro  k
 unfold l15_awake.f
 exact zM
set_option maxHeartbeats 8000000 in
set_option maxRecDepth 100000 in
theorem l15_awake.calls (k : Nat)  (r : Bool) (w : World) (h : l15_awake.f k  = some r) :
  Calls Try.prog 34 #[] w fun e w' => e = .returned (.bool r) ∧ Below w.heap.size w w' := by
 have hu24 := Try.underlying24
 have hu26 := Try.underlying26
 have hu42 := Try.underlying42
 have HB := am (Below.refl w.heap.size w)
 have H : ((j11_Encode.f k 0 0 (([(⟨0, (⟨0, 1, 0, 0, 0, ([] : List Int), ([] : List Int)⟩ : S24)⟩ : S26)] : List (S26)))).bind fun bt703 => ((collect_Blocks.f k bt703.1 0).bind fun bt707 => (if (bt707.1.length : Int) = 1 then (some (bt707.2 == (bt703.1.length : Int))) else (some false)))) = some r := h
 clear h
 obtain ⟨y700, hy700⟩ : ∃ y_ : List (S26), y_ = (([(⟨0, (⟨0, 1, 0, 0, 0, ([] : List Int), ([] : List Int)⟩ : S24)⟩ : S26)] : List (S26))) := ⟨_, rfl⟩
 replace H : ((j11_Encode.f k 0 0 y700).bind fun bt703 => ((collect_Blocks.f k bt703.1 0).bind fun bt707 => (if (bt707.1.length : Int) = 1 then (some (bt707.2 == (bt703.1.length : Int))) else (some false)))) = some r := by first | (rw [hy700]; with_reducible exact H) | (have H2_ := (Option.bind_some _ _).symm.trans H; rw [hy700]; with_reducible exact H2_) | (have H2_ := (Option.bind_some _ _).symm.trans H; with_reducible exact H2_) | with_reducible exact H | (rw [hy700]; exact H) | exact H
 have Ny700 := am hy700
 clear hy700
 replace H := Option.bind_eq_some_iff.mp H
 obtain ⟨⟨t703, t706⟩, A10, H⟩ := H
 (try dsimp only at H)
 have A1 := am A10
 clear A10
 replace H := Option.bind_eq_some_iff.mp H
 obtain ⟨⟨t707, t708⟩, A20, H⟩ := H
 (try dsimp only at H)
 have A2 := am A20
 clear A20
 by_cases c3 : (t707.length : Int) = 1
 ·
  rw [if_pos c3] at H
  obtain ⟨c3b0, c3b1⟩ := zt c3
  clear c3
  obtain rfl := Option.some.inj H
  go_enter Try.func34, Try.ntmps34
  go_wp2_with (first | ((with_reducible refine gate_dst (N := 8) rfl ?_); (try (refine gate_guard (by rfl) ?_; dsimp only)); refine Kd.S_lit k26 _ 26 ?hg (N := 8) ?hd (xs := ([(⟨0, (⟨0, 1, 0, 0, 0, ([] : List Int), ([] : List Int)⟩ : S24)⟩ : S26)] : List (S26))) (inner := [.int .i64 0, .int .i64 0, .int .i64 1, .int .i64 0, .int .i64 0, .int .i64 0, .slice none 0 0, .slice none 0 0]) (ok := fun _ => True) (okp := fun _ => True) ?hr ?hp (fun _ hk => hk) trivial (Below.refl _ _) (Nat.le_refl _) (by simp) ?_; (case hd => rfl); (case hg => rfl); (case hr => exact y28); (case hp => exact y35); intro v701 w4 ho5 hb hg_ hnew_; clear hg_ hnew_; (first | rw [← Ny700.out] at ho5 | (simp only [Int.reduceToNat] at ho5; rw [← Ny700.out] at ho5)); have HO702 := am (Kd.S_lower ho5 (below_size (zb HB))); replace HB := am (below_step (zb HB) hb); clear hb ho5; obtain ⟨Ao6, co6, eo6⟩ := Kd.S_slice HO702.out; subst eo6) | ((with_reducible refine gate_callee (f := 22) rfl ?_); refine goesL_ (some 10) rfl rfl Try.func22 (by kernel_rfl) rfl #[.agg #[.int .i64 0, .int .i64 0, .slice Ao6 y700.length co6]] rfl zg ?_; (with_reducible refine (j11_Encode.calls k 0 0 _ _ y700 t703 t706 _ ?side1 ?side2 A1.out).mono ?_); (case side1 => exact zC ((Kd.S_reads' HO702.out).2.2)); (case side2 => exact (Kd.S_reads' HO702.out).2.1); rintro e w7 ⟨v704, rfl, ho0, hb⟩; refine ⟨_, rfl, ?_⟩; replace HO702 := am (Kd.S_below (zS HO702.out) hb); have HO705 := am (Kd.R_lower ho0 (below_size (zb HB))); replace HB := am (below_step (zb HB) hb); clear hb ho0; obtain ⟨Ao8, co8, eo8⟩ := Kd.R_slice HO705.out; subst eo8) | ((with_reducible refine gate_callee (f := 32) rfl ?_); refine goesL_ (some 15) rfl rfl Try.func32 (by kernel_rfl) rfl #[.slice Ao8 t703.length co8, .int .i64 0] rfl zg ?_; (with_reducible refine (collect_Blocks.calls k _ _ t703 0 t707 t708 _ ?side1 ?side2 A2.out).mono ?_); (case side1 => exact zC ((Kd.R_reads' HO705.out).2.2)); (case side2 => exact (Kd.R_reads' HO705.out).2.1); rintro e w9 ⟨v709, rfl, ho0, hb⟩; refine ⟨_, rfl, ?_⟩; replace HO705 := am (Kd.R_below (zR HO705.out) hb); have HO710 := am (Kd.R_lower (Kd.R_new' ho0 (Kd.S_lt (zS HO702.out))) (below_size (zb HB))); replace HO702 := am (Kd.S_below (zS HO702.out) hb); replace HB := am (below_step (zb HB) hb); clear hb ho0; obtain ⟨Ao10, co10, eo10⟩ := Kd.R_slice HO710.out; subst eo10))
  go_ret
  exact ⟨ze, zb HB⟩
 ·
  rw [if_neg c3] at H
  obtain ⟨c3b0, c3b1⟩ := zs c3
  obtain rfl := Option.some.inj H
  go_enter Try.func34, Try.ntmps34
  go_wp2_with (first | ((with_reducible refine gate_dst (N := 8) rfl ?_); (try (refine gate_guard (by rfl) ?_; dsimp only)); refine Kd.S_lit k26 _ 26 ?hg (N := 8) ?hd (xs := ([(⟨0, (⟨0, 1, 0, 0, 0, ([] : List Int), ([] : List Int)⟩ : S24)⟩ : S26)] : List (S26))) (inner := [.int .i64 0, .int .i64 0, .int .i64 1, .int .i64 0, .int .i64 0, .int .i64 0, .slice none 0 0, .slice none 0 0]) (ok := fun _ => True) (okp := fun _ => True) ?hr ?hp (fun _ hk => hk) trivial (Below.refl _ _) (Nat.le_refl _) (by simp) ?_; (case hd => rfl); (case hg => rfl); (case hr => exact y28); (case hp => exact y35); intro v701 w11 ho12 hb hg_ hnew_; clear hg_ hnew_; (first | rw [← Ny700.out] at ho12 | (simp only [Int.reduceToNat] at ho12; rw [← Ny700.out] at ho12)); have HO702 := am (Kd.S_lower ho12 (below_size (zb HB))); replace HB := am (below_step (zb HB) hb); clear hb ho12; obtain ⟨Ao13, co13, eo13⟩ := Kd.S_slice HO702.out; subst eo13) | ((with_reducible refine gate_callee (f := 22) rfl ?_); refine goesL_ (some 10) rfl rfl Try.func22 (by kernel_rfl) rfl #[.agg #[.int .i64 0, .int .i64 0, .slice Ao13 y700.length co13]] rfl zg ?_; (with_reducible refine (j11_Encode.calls k 0 0 _ _ y700 t703 t706 _ ?side1 ?side2 A1.out).mono ?_); (case side1 => exact zC ((Kd.S_reads' HO702.out).2.2)); (case side2 => exact (Kd.S_reads' HO702.out).2.1); rintro e w14 ⟨v704, rfl, ho0, hb⟩; refine ⟨_, rfl, ?_⟩; replace HO702 := am (Kd.S_below (zS HO702.out) hb); have HO705 := am (Kd.R_lower ho0 (below_size (zb HB))); replace HB := am (below_step (zb HB) hb); clear hb ho0; obtain ⟨Ao15, co15, eo15⟩ := Kd.R_slice HO705.out; subst eo15) | ((with_reducible refine gate_callee (f := 32) rfl ?_); refine goesL_ (some 15) rfl rfl Try.func32 (by kernel_rfl) rfl #[.slice Ao15 t703.length co15, .int .i64 0] rfl zg ?_; (with_reducible refine (collect_Blocks.calls k _ _ t703 0 t707 t708 _ ?side1 ?side2 A2.out).mono ?_); (case side1 => exact zC ((Kd.R_reads' HO705.out).2.2)); (case side2 => exact (Kd.R_reads' HO705.out).2.1); rintro e w16 ⟨v709, rfl, ho0, hb⟩; refine ⟨_, rfl, ?_⟩; replace HO705 := am (Kd.R_below (zR HO705.out) hb); have HO710 := am (Kd.R_lower (Kd.R_new' ho0 (Kd.S_lt (zS HO702.out))) (below_size (zb HB))); replace HO702 := am (Kd.S_below (zS HO702.out) hb); replace HB := am (below_step (zb HB) hb); clear hb ho0; obtain ⟨Ao17, co17, eo17⟩ := Kd.R_slice HO710.out; subst eo17))
  go_ret
  exact ⟨ze, zb HB⟩
mutual
def l15_CollectBlocks.j0 : Nat → List (S42) → List (S42) → Bool → Option (Bool)
 | 0, _, _, _ => none
 | k + 1, x5, x7, x38 => if x38 = true then (some false) else (l15_CollectBlocks.l0 k x5 x7 0)
def l15_CollectBlocks.l0 : Nat → List (S42) → List (S42) → Int → Option (Bool)
 | 0, _, _, _ => none
 | k + 1, x5, x7, x9 => if x9 < (x5.length : Int) then (if 0 ≤ x9 then ((j11_Encode.f k ((rd_T42 x5 x9).f0) ((rd_T42 x5 x9).f1) ((rd_T42 x5 x9).f2)).bind fun bt721 => (if x9 < (x7.length : Int) then ((j11_Encode.f k ((rd_T42 x7 x9).f0) ((rd_T42 x7 x9).f1) ((rd_T42 x7 x9).f2)).bind fun bt726 => ((j11_SameBytes.f k bt721.1 bt726.1).bind fun t730 => (if t730 = true then (l15_CollectBlocks.l0 k x5 x7 (wrap64 (x9 + 1))) else (some false)))) else (none))) else (none)) else ((l15_awake.f k).bind fun t719 => (some t719))
end
def l15_CollectBlocks.f (k : Nat) (l0 : List Int) (a1 : Int) : Option (Bool) := if (l0.length : Int) > 3000 then (some true) else ((collect_Blocks.f k l0 a1).bind fun bt711 => ((j14_Blocks.f k l0 a1).bind fun bt715 => (if (bt711.1.length : Int) = (bt715.1.length : Int) then (l15_CollectBlocks.j0 k bt711.1 bt715.1 (bt711.2 != bt715.2)) else (l15_CollectBlocks.j0 k bt711.1 bt715.1 true))))
theorem l15_CollectBlocks.mono_l : ∀ k, (∀ y0 y1 y2, LeO (l15_CollectBlocks.j0 k y0 y1 y2) (l15_CollectBlocks.j0 (k + 1) y0 y1 y2)) ∧ (∀ y0 y1 y2, LeO (l15_CollectBlocks.l0 k y0 y1 y2) (l15_CollectBlocks.l0 (k + 1) y0 y1 y2))
 | 0 => ⟨fun _ _ _ r h => by simp [l15_CollectBlocks.j0] at h, fun _ _ _ r h => by simp [l15_CollectBlocks.l0] at h⟩
 | k + 1 => by
  obtain ⟨ih0, ih1⟩ := l15_CollectBlocks.mono_l k
  refine ⟨?_, ?_⟩
  ·
   intro y0 y1 y2
   unfold l15_CollectBlocks.j0
   exact zM
  ·
   intro y0 y1 y2
   unfold l15_CollectBlocks.l0
   exact zM
theorem l15_CollectBlocks.mono : ∀ a0 a1 k, LeO (l15_CollectBlocks.f k a0 a1) (l15_CollectBlocks.f (k + 1) a0 a1) := by
 intro a0 a1 k
 obtain ⟨ih0, ih1⟩ := l15_CollectBlocks.mono_l k
 unfold l15_CollectBlocks.f
 exact zM
set_option maxHeartbeats 8000000 in
set_option maxRecDepth 100000 in
theorem l15_CollectBlocks.calls (k : Nat) (A0 : Option Addr) (c0 : Nat) (l0 : List Int) (a1 : Int) (r : Bool) (w : World) (hr0 : Kd.C (Kd.int .u8) w A0 l0.length l0) (hc0 : l0.length ≤ c0) (h : l15_CollectBlocks.f k l0 a1 = some r) :
  Calls Try.prog 9 #[.slice A0 l0.length c0, .int .i64 a1] w fun e w' => e = .returned (.bool r) ∧ Below w.heap.size w w' := by
 have hu42 := Try.underlying42
 have HR0 := am hr0
 have HC0 := am hc0
 clear hr0 hc0
 have HB := am (Below.refl w.heap.size w)
 have H : (if (l0.length : Int) > 3000 then (some true) else ((collect_Blocks.f k l0 a1).bind fun bt711 => ((j14_Blocks.f k l0 a1).bind fun bt715 => (if (bt711.1.length : Int) = (bt715.1.length : Int) then (l15_CollectBlocks.j0 k bt711.1 bt715.1 (bt711.2 != bt715.2)) else (l15_CollectBlocks.j0 k bt711.1 bt715.1 true))))) = some r := h
 clear h
 by_cases c3 : (l0.length : Int) > 3000
 ·
  rw [if_pos c3] at H
  have c3b0 : decide (3000 < (l0.length : Int)) = true := decide_eq_true c3
  have c3b1 : decide (3000 < l0.length) = true := decide_eq_true (by omega)
  clear c3
  obtain rfl := Option.some.inj H
  go_enter Try.func9, Try.ntmps9
  go_wp2
  go_ret
  exact ⟨ze, zb HB⟩
 ·
  rw [if_neg c3] at H
  have c3b0 : decide (3000 < (l0.length : Int)) = false := decide_eq_false c3
  have c3b1 : decide (3000 < l0.length) = false := decide_eq_false (by omega)
  clear c3
  replace H := Option.bind_eq_some_iff.mp H
  obtain ⟨⟨t711, t712⟩, A40, H⟩ := H
  (try dsimp only at H)
  have A4 := am A40
  clear A40
  replace H := Option.bind_eq_some_iff.mp H
  obtain ⟨⟨t715, t716⟩, A50, H⟩ := H
  (try dsimp only at H)
  have A5 := am A50
  clear A50
  have HC6 := am H
  clear H
  go_enter Try.func9, Try.ntmps9
  go_upto_region 5 with (first | ((with_reducible refine gate_callee (f := 32) rfl ?_); refine goesL_ (some 20) rfl rfl Try.func32 (by kernel_rfl) rfl #[.slice A0 l0.length c0, .int .i64 a1] rfl zg ?_; (with_reducible refine (collect_Blocks.calls k _ _ l0 a1 t711 t712 _ ?side1 ?side2 A4.out).mono ?_); (case side1 => exact zC (HR0.out)); (case side2 => exact HC0.out); rintro e w7 ⟨v713, rfl, ho0, hb⟩; refine ⟨_, rfl, ?_⟩; have HO714 := am (Kd.R_lower ho0 (below_size (zb HB))); replace HB := am (below_step (zb HB) hb); clear hb ho0) | ((with_reducible refine gate_callee (f := 33) rfl ?_); refine goesL_ (some 26) rfl rfl Try.func33 (by kernel_rfl) rfl #[.slice A0 l0.length c0, .int .i64 a1] rfl zg ?_; (with_reducible refine (j14_Blocks.calls k _ _ l0 a1 t715 t716 _ ?side1 ?side2 A5.out).mono ?_); (case side1 => exact y66); (case side2 => exact HC0.out); rintro e w8 ⟨v717, rfl, ho0, hb⟩; refine ⟨_, rfl, ?_⟩; have HO718 := am (Kd.R_lower (Kd.R_new' ho0 (Kd.R_lt (zR HO714.out))) (below_size (zb HB))); replace HO714 := am (Kd.R_elder' (zR HO714.out) (Kd.R_base ho0) hb); replace HB := am (below_step (zb HB) hb); clear hb ho0))
  (try simp only [Act.put, List.setIfInBounds_toArray, List.set_cons_zero, List.set_cons_succ])
  go_cut [38] (fun v38 wc => ∃ (kq : Nat) (x38_5 : Bool), v38 = .bool x38_5 ∧ Aside0 (l15_CollectBlocks.j0 kq t711 t715 x38_5 = some r) ∧ Aside0 (kq ≤ k) ∧ Aside0 (Kd.R k42 42 wc w.heap.size (fun k_ => some k_ ≠ (v717 : Value).ownBlock) v713 t711) ∧ Aside0 (Kd.R k42 42 wc w.heap.size (fun k_ => some k_ ≠ (v713 : Value).ownBlock) v717 t715) ∧ Aside0 (Below w.heap.size w wc))
  case first =>
   have H := HC6.out
   clear HC6
   by_cases c9 : (t711.length : Int) = (t715.length : Int)
   ·
    rw [if_pos c9] at H
    obtain ⟨c9b0, c9b1⟩ := zt c9
    have c9b2 : (t711.length == t715.length) = true := by first | simpa using c9 | (simp at c9 ⊢; omega)
    clear c9
    (first | rw [c9b0] | (simp only [i64_w, i32_w]; rw [c9b0]) | skip)
    have H' := am H
    clear H
    obtain ⟨Ao10, co10, eo10⟩ := Kd.R_slice HO714.out
    subst eo10
    obtain ⟨Ao11, co11, eo11⟩ := Kd.R_slice HO718.out
    subst eo11
    go_wp2
    go_meet
    case rel => exact ⟨_, ((t712 != t716)), zr, H', ⟨by first | omega | exact Nat.le_refl _⟩, ⟨by (with_reducible repeat (first | apply Kd.R_alloc | apply Kd.R_drewN | apply Kd.R_drew)); exact Kd.R_mono HO714.out (fun _ hk => hk.2)⟩, ⟨by (with_reducible repeat (first | apply Kd.R_alloc | apply Kd.R_drewN | apply Kd.R_drew)); exact Kd.R_mono HO718.out (fun _ hk => hk.2)⟩, ⟨zb HB⟩⟩
   ·
    rw [if_neg c9] at H
    obtain ⟨c9b0, c9b1⟩ := zs c9
    have c9b2 : (t711.length == t715.length) = false := by first | simpa using c9 | (simp at c9 ⊢; omega)
    (first | rw [c9b0] | (simp only [i64_w, i32_w]; rw [c9b0]) | skip)
    have H' := am H
    clear H
    obtain ⟨Ao12, co12, eo12⟩ := Kd.R_slice HO714.out
    subst eo12
    obtain ⟨Ao13, co13, eo13⟩ := Kd.R_slice HO718.out
    subst eo13
    go_wp2
    go_meet
    case rel => exact ⟨_, (true), zr, H', ⟨by first | omega | exact Nat.le_refl _⟩, ⟨by (with_reducible repeat (first | apply Kd.R_alloc | apply Kd.R_drewN | apply Kd.R_drew)); exact Kd.R_mono HO714.out (fun _ hk => hk.2)⟩, ⟨by (with_reducible repeat (first | apply Kd.R_alloc | apply Kd.R_drewN | apply Kd.R_drew)); exact Kd.R_mono HO718.out (fun _ hk => hk.2)⟩, ⟨zb HB⟩⟩
  case rest =>
   clear HC6
   obtain ⟨kq, x38_5, rfl, HA, HJ5, HO_5, HO_7, HB⟩ := hcut
   cases kq with
   | zero => exact absurd HA.out (by simp [l15_CollectBlocks.j0])
   | succ kj5 =>
    have H := HA.out
    clear HA
    simp only [l15_CollectBlocks.j0] at H
    by_cases c14 : x38_5 = true
    ·
     subst c14
     have H1 : (some false) = some r := by rw [if_pos rfl] at H; exact H
     clear H
     have H := H1
     clear H1
     obtain rfl := Option.some.inj H
     go_wp2
     go_ret
     exact ⟨ze, zb HB⟩
    ·
     replace c14 := Bool.eq_false_iff.mpr c14
     subst c14
     have H1 : (l15_CollectBlocks.l0 kj5 t711 t715 0) = some r := by rw [if_neg (show ¬ (false = true) by decide)] at H; exact H
     clear H
     have H := H1
     clear H1
     have H' := am H
     clear H
     go_wp2
     go_loopg [9] kj5 (fun kq v9 w' => ∃ (x9_2 : Int), v9 = .int .i64 x9_2 ∧ Aside0 (l15_CollectBlocks.l0 kq t711 t715 x9_2 = some r) ∧ Aside0 (kq ≤ kj5) ∧ Aside0 (Kd.R k42 42 w' w.heap.size (fun k_ => some k_ ≠ (v717 : Value).ownBlock) v713 t711) ∧ Aside0 (Kd.R k42 42 w' w.heap.size (fun k_ => some k_ ≠ (v713 : Value).ownBlock) v717 t715) ∧ Aside0 (Below w.heap.size w w'))
     case atStart => exact ⟨(0), zr, H', ⟨Nat.le_refl _⟩, ⟨by (with_reducible repeat (first | apply Kd.R_alloc | apply Kd.R_drewN | apply Kd.R_drew)); exact HO_5.out⟩, ⟨by (with_reducible repeat (first | apply Kd.R_alloc | apply Kd.R_drewN | apply Kd.R_drew)); exact HO_7.out⟩, ⟨zb HB⟩⟩
     case round =>
      clear H'
      obtain ⟨x9_2, rfl, HA, HK2, HO_5, HO_7, HB⟩ := hrel
      cases gk with
      | zero => exact absurd HA.out (by simp [l15_CollectBlocks.l0])
      | succ k2 =>
       have H := HA.out
       clear HA
       simp only [l15_CollectBlocks.l0] at H
       by_cases c15 : x9_2 < (t711.length : Int)
       ·
        rw [if_pos c15] at H
        have c15b0 := decide_eq_true c15
        clear c15
        by_cases c16 : 0 ≤ x9_2
        ·
         rw [if_pos c16] at H
         have c16b0 := decide_eq_true c16
         clear c16
         replace H := Option.bind_eq_some_iff.mp H
         obtain ⟨⟨t721, t724⟩, A170, H⟩ := H
         (try dsimp only at H)
         have A17 := am A170
         clear A170
         by_cases c18 : x9_2 < (t715.length : Int)
         ·
          rw [if_pos c18] at H
          have c18b0 := decide_eq_true c18
          clear c18
          replace H := Option.bind_eq_some_iff.mp H
          obtain ⟨⟨t726, t729⟩, A190, H⟩ := H
          (try dsimp only at H)
          have A19 := am A190
          clear A190
          replace H := Option.bind_eq_some_iff.mp H
          obtain ⟨t730, A200, H⟩ := H
          (try dsimp only at H)
          have A20 := am A200
          clear A200
          by_cases c21 : t730 = true
          ·
           subst c21
           have H1 : (l15_CollectBlocks.l0 k2 t711 t715 (wrap64 (x9_2 + 1))) = some r := by rw [if_pos rfl] at H; exact H
           clear H
           have H := H1
           clear H1
           have H' := am H
           clear H
           obtain ⟨Ao22, co22, eo22⟩ := Kd.R_slice HO_5.out
           subst eo22
           have p720 : 0 ≤ (x9_2 : Int) := zo
           have q720 : x9_2 < (t711.length : Int) := zo
           obtain ⟨ad720, A720_2, c720_2, e720, hx720_0, hx720_1, hx720_2, hl720_2, hi720_2⟩ := at_T42 (Kd.R_reads' HO_5.out).2.2 x9_2 p720 q720
           cases e720
           obtain ⟨ce720, hce720, hMe720, hcc720⟩ := Kd.R_get HO_5.out z42 x9_2 p720 (by first | exact q720 | exact zo | (have e_ := (Kd.R_reads' HO_5.out).1; omega))
           obtain ⟨ve720_2, rfl, ge720_2⟩ := k42_openM hMe720
           have hv720_2 := hcc720 2 _ rfl
           rw [add_field _ _ 2 (by omega)] at hv720_2
           replace hv720_2 := Option.some.inj (hv720_2.symm.trans hx720_2)
           rw [hv720_2] at ge720_2
           have HL720_2 := am (show Kd.R k26 26 _ _ _ _ ((rd_T42 t711 x9_2).f2) from ge720_2)
           clear hv720_2 ge720_2
           clear hcc720 hce720
           have HR720_2 := am hi720_2
           have HC720_2 := am hl720_2
           clear hi720_2 hl720_2
           replace p720 := eq_true p720
           replace q720 := eq_true q720
           go_wp2_with (first | ((with_reducible refine gate_callee (f := 22) rfl ?_); refine goesL_ (some 50) rfl rfl Try.func22 (by kernel_rfl) rfl #[.agg #[.int .i64 ((rd_T42 t711 x9_2).f0), .int .i64 ((rd_T42 t711 x9_2).f1), .slice A720_2 ((rd_T42 t711 x9_2).f2).length c720_2]] rfl zg ?_; (with_reducible refine (j11_Encode.calls k2 ((rd_T42 t711 x9_2).f0) ((rd_T42 t711 x9_2).f1) _ _ ((rd_T42 t711 x9_2).f2) t721 t724 _ ?side1 ?side2 A17.out).mono ?_); (case side1 => exact y37); (case side2 => exact HC720_2.out); rintro e w23 ⟨v722, rfl, ho0, hb⟩; refine ⟨_, rfl, ?_⟩; replace HO_5 := am (Kd.R_below (zR HO_5.out) hb); replace HO_7 := am (Kd.R_below (zR HO_7.out) hb); replace HL720_2 := am (Kd.R_below (zR HL720_2.out) hb); have HO723 := am (Kd.R_lower ho0 (below_size (zb HB))); replace HR720_2 := am (Kd.C_below y22 hb); replace HB := am (below_step (zb HB) hb); clear hb ho0; obtain ⟨Ao24, co24, eo24⟩ := Kd.R_slice HO_7.out; subst eo24; have p725 : 0 ≤ (x9_2 : Int) := zo; have q725 : x9_2 < (t715.length : Int) := zo; obtain ⟨ad725, A725_2, c725_2, e725, hx725_0, hx725_1, hx725_2, hl725_2, hi725_2⟩ := at_T42 (Kd.R_reads' HO_7.out).2.2 x9_2 p725 q725; cases e725; obtain ⟨ce725, hce725, hMe725, hcc725⟩ := Kd.R_get HO_7.out z42 x9_2 p725 (by first | exact q725 | exact zo | (have e_ := (Kd.R_reads' HO_7.out).1; omega)); obtain ⟨ve725_2, rfl, ge725_2⟩ := k42_openM hMe725; have hv725_2 := hcc725 2 _ rfl; rw [add_field _ _ 2 (by omega)] at hv725_2; replace hv725_2 := Option.some.inj (hv725_2.symm.trans hx725_2); rw [hv725_2] at ge725_2; have HL725_2 := am (show Kd.R k26 26 _ _ _ _ ((rd_T42 t715 x9_2).f2) from ge725_2); clear hv725_2 ge725_2; clear hcc725 hce725; have HR725_2 := am hi725_2; have HC725_2 := am hl725_2; clear hi725_2 hl725_2; replace p725 := eq_true p725; replace q725 := eq_true q725) | ((with_reducible refine gate_callee (f := 22) rfl ?_); refine goesL_ (some 58) rfl rfl Try.func22 (by kernel_rfl) rfl #[.agg #[.int .i64 ((rd_T42 t715 x9_2).f0), .int .i64 ((rd_T42 t715 x9_2).f1), .slice A725_2 ((rd_T42 t715 x9_2).f2).length c725_2]] rfl zg ?_; (with_reducible refine (j11_Encode.calls k2 ((rd_T42 t715 x9_2).f0) ((rd_T42 t715 x9_2).f1) _ _ ((rd_T42 t715 x9_2).f2) t726 t729 _ ?side1 ?side2 A19.out).mono ?_); (case side1 => exact y38); (case side2 => exact HC725_2.out); rintro e w25 ⟨v727, rfl, ho0, hb⟩; refine ⟨_, rfl, ?_⟩; replace HO_5 := am (Kd.R_below (zR HO_5.out) hb); replace HO_7 := am (Kd.R_below (zR HO_7.out) hb); replace HL720_2 := am (Kd.R_below (zR HL720_2.out) hb); replace HL725_2 := am (Kd.R_below (zR HL725_2.out) hb); have HO728 := am (Kd.R_lower (Kd.R_new' ho0 (Kd.R_lt (zR HO723.out))) (below_size (zb HB))); replace HO723 := am (Kd.R_elder' (zR HO723.out) (Kd.R_base ho0) hb); replace HR720_2 := am (Kd.C_below y22 hb); replace HR725_2 := am (Kd.C_below y34 hb); replace HB := am (below_step (zb HB) hb); clear hb ho0; obtain ⟨Ao26, co26, eo26⟩ := Kd.R_slice HO723.out; subst eo26; obtain ⟨Ao27, co27, eo27⟩ := Kd.R_slice HO728.out; subst eo27) | ((with_reducible refine gate_callee (f := 18) rfl ?_); refine goesL_ (some 63) rfl rfl Try.func18 (by kernel_rfl) rfl #[.slice Ao26 t721.length co26, .slice Ao27 t726.length co27] rfl zg ?_; (with_reducible refine (j11_SameBytes.calls k2 _ _ t721 _ _ t726 true _ ?side1 ?side2 ?side3 ?side4 A20.out).mono ?_); (case side1 => exact zC ((Kd.R_reads' HO723.out).2.2)); (case side2 => exact (Kd.R_reads' HO723.out).2.1); (case side3 => exact zC ((Kd.R_reads' HO728.out).2.2)); (case side4 => exact (Kd.R_reads' HO728.out).2.1); rintro e w' ⟨rfl, ⟨nd, rfl⟩⟩; refine ⟨_, rfl, ?_⟩))
           go_roundg k2
           case measure => have := HJ5.out; have := HK2.out; omega
           case rel => exact ⟨(wrap64 (x9_2 + 1)), zr, H', ⟨by have := HJ5.out; have := HK2.out; omega⟩, ⟨by (with_reducible repeat (first | apply Kd.R_alloc | apply Kd.R_drewN | apply Kd.R_drew)); exact HO_5.out⟩, ⟨by (with_reducible repeat (first | apply Kd.R_alloc | apply Kd.R_drewN | apply Kd.R_drew)); exact HO_7.out⟩, ⟨zb HB⟩⟩
          ·
           replace c21 := Bool.eq_false_iff.mpr c21
           subst c21
           have H1 : (some false) = some r := by rw [if_neg (show ¬ (false = true) by decide)] at H; exact H
           clear H
           have H := H1
           clear H1
           obtain rfl := Option.some.inj H
           obtain ⟨Ao28, co28, eo28⟩ := Kd.R_slice HO_5.out
           subst eo28
           have p720 : 0 ≤ (x9_2 : Int) := zo
           have q720 : x9_2 < (t711.length : Int) := zo
           obtain ⟨ad720, A720_2, c720_2, e720, hx720_0, hx720_1, hx720_2, hl720_2, hi720_2⟩ := at_T42 (Kd.R_reads' HO_5.out).2.2 x9_2 p720 q720
           cases e720
           obtain ⟨ce720, hce720, hMe720, hcc720⟩ := Kd.R_get HO_5.out z42 x9_2 p720 (by first | exact q720 | exact zo | (have e_ := (Kd.R_reads' HO_5.out).1; omega))
           obtain ⟨ve720_2, rfl, ge720_2⟩ := k42_openM hMe720
           have hv720_2 := hcc720 2 _ rfl
           rw [add_field _ _ 2 (by omega)] at hv720_2
           replace hv720_2 := Option.some.inj (hv720_2.symm.trans hx720_2)
           rw [hv720_2] at ge720_2
           have HL720_2 := am (show Kd.R k26 26 _ _ _ _ ((rd_T42 t711 x9_2).f2) from ge720_2)
           clear hv720_2 ge720_2
           clear hcc720 hce720
           have HR720_2 := am hi720_2
           have HC720_2 := am hl720_2
           clear hi720_2 hl720_2
           replace p720 := eq_true p720
           replace q720 := eq_true q720
           go_wp2_with (first | ((with_reducible refine gate_callee (f := 22) rfl ?_); refine goesL_ (some 50) rfl rfl Try.func22 (by kernel_rfl) rfl #[.agg #[.int .i64 ((rd_T42 t711 x9_2).f0), .int .i64 ((rd_T42 t711 x9_2).f1), .slice A720_2 ((rd_T42 t711 x9_2).f2).length c720_2]] rfl zg ?_; (with_reducible refine (j11_Encode.calls k2 ((rd_T42 t711 x9_2).f0) ((rd_T42 t711 x9_2).f1) _ _ ((rd_T42 t711 x9_2).f2) t721 t724 _ ?side1 ?side2 A17.out).mono ?_); (case side1 => exact y37); (case side2 => exact HC720_2.out); rintro e w29 ⟨v722, rfl, ho0, hb⟩; refine ⟨_, rfl, ?_⟩; replace HO_5 := am (Kd.R_below (zR HO_5.out) hb); replace HO_7 := am (Kd.R_below (zR HO_7.out) hb); replace HL720_2 := am (Kd.R_below (zR HL720_2.out) hb); have HO723 := am (Kd.R_lower ho0 (below_size (zb HB))); replace HR720_2 := am (Kd.C_below y22 hb); replace HB := am (below_step (zb HB) hb); clear hb ho0; obtain ⟨Ao30, co30, eo30⟩ := Kd.R_slice HO_7.out; subst eo30; have p725 : 0 ≤ (x9_2 : Int) := zo; have q725 : x9_2 < (t715.length : Int) := zo; obtain ⟨ad725, A725_2, c725_2, e725, hx725_0, hx725_1, hx725_2, hl725_2, hi725_2⟩ := at_T42 (Kd.R_reads' HO_7.out).2.2 x9_2 p725 q725; cases e725; obtain ⟨ce725, hce725, hMe725, hcc725⟩ := Kd.R_get HO_7.out z42 x9_2 p725 (by first | exact q725 | exact zo | (have e_ := (Kd.R_reads' HO_7.out).1; omega)); obtain ⟨ve725_2, rfl, ge725_2⟩ := k42_openM hMe725; have hv725_2 := hcc725 2 _ rfl; rw [add_field _ _ 2 (by omega)] at hv725_2; replace hv725_2 := Option.some.inj (hv725_2.symm.trans hx725_2); rw [hv725_2] at ge725_2; have HL725_2 := am (show Kd.R k26 26 _ _ _ _ ((rd_T42 t715 x9_2).f2) from ge725_2); clear hv725_2 ge725_2; clear hcc725 hce725; have HR725_2 := am hi725_2; have HC725_2 := am hl725_2; clear hi725_2 hl725_2; replace p725 := eq_true p725; replace q725 := eq_true q725) | ((with_reducible refine gate_callee (f := 22) rfl ?_); refine goesL_ (some 58) rfl rfl Try.func22 (by kernel_rfl) rfl #[.agg #[.int .i64 ((rd_T42 t715 x9_2).f0), .int .i64 ((rd_T42 t715 x9_2).f1), .slice A725_2 ((rd_T42 t715 x9_2).f2).length c725_2]] rfl zg ?_; (with_reducible refine (j11_Encode.calls k2 ((rd_T42 t715 x9_2).f0) ((rd_T42 t715 x9_2).f1) _ _ ((rd_T42 t715 x9_2).f2) t726 t729 _ ?side1 ?side2 A19.out).mono ?_); (case side1 => exact y38); (case side2 => exact HC725_2.out); rintro e w31 ⟨v727, rfl, ho0, hb⟩; refine ⟨_, rfl, ?_⟩; replace HO_5 := am (Kd.R_below (zR HO_5.out) hb); replace HO_7 := am (Kd.R_below (zR HO_7.out) hb); replace HL720_2 := am (Kd.R_below (zR HL720_2.out) hb); replace HL725_2 := am (Kd.R_below (zR HL725_2.out) hb); have HO728 := am (Kd.R_lower (Kd.R_new' ho0 (Kd.R_lt (zR HO723.out))) (below_size (zb HB))); replace HO723 := am (Kd.R_elder' (zR HO723.out) (Kd.R_base ho0) hb); replace HR720_2 := am (Kd.C_below y22 hb); replace HR725_2 := am (Kd.C_below y34 hb); replace HB := am (below_step (zb HB) hb); clear hb ho0; obtain ⟨Ao32, co32, eo32⟩ := Kd.R_slice HO723.out; subst eo32; obtain ⟨Ao33, co33, eo33⟩ := Kd.R_slice HO728.out; subst eo33) | ((with_reducible refine gate_callee (f := 18) rfl ?_); refine goesL_ (some 63) rfl rfl Try.func18 (by kernel_rfl) rfl #[.slice Ao32 t721.length co32, .slice Ao33 t726.length co33] rfl zg ?_; (with_reducible refine (j11_SameBytes.calls k2 _ _ t721 _ _ t726 false _ ?side1 ?side2 ?side3 ?side4 A20.out).mono ?_); (case side1 => exact zC ((Kd.R_reads' HO723.out).2.2)); (case side2 => exact (Kd.R_reads' HO723.out).2.1); (case side3 => exact zC ((Kd.R_reads' HO728.out).2.2)); (case side4 => exact (Kd.R_reads' HO728.out).2.1); rintro e w' ⟨rfl, ⟨nd, rfl⟩⟩; refine ⟨_, rfl, ?_⟩))
           go_ret
           exact ⟨ze, zb HB⟩
         ·
          rw [if_neg c18] at H
          exact absurd H (by simp)
        ·
         rw [if_neg c16] at H
         exact absurd H (by simp)
       ·
        rw [if_neg c15] at H
        have c15b0 := decide_eq_false c15
        clear c15
        replace H := Option.bind_eq_some_iff.mp H
        obtain ⟨t719, A340, H⟩ := H
        (try dsimp only at H)
        have A34 := am A340
        clear A340
        obtain rfl := Option.some.inj H
        obtain ⟨Ao35, co35, eo35⟩ := Kd.R_slice HO_5.out
        subst eo35
        go_wp2_with (first | ((with_reducible refine gate_callee (f := 34) rfl ?_); refine goesL_ (some 65) rfl rfl Try.func34 (by kernel_rfl) rfl #[] rfl zg ?_; (with_reducible refine (l15_awake.calls k2  t719 _ A34.out).mono ?_); rintro e w36 ⟨rfl, hb⟩; refine ⟨_, rfl, ?_⟩; replace HO_5 := am (Kd.R_below (zR HO_5.out) hb); replace HO_7 := am (Kd.R_below (zR HO_7.out) hb); replace HB := am (below_step (zb HB) hb); clear hb))
        go_ret
        exact ⟨ze, zb HB⟩
def l15_CollectBlocks.Pure : Prop := ∀ (l0 : List Int) (a1 : Int), l0.length ≤ maxLen → l0.length * 1 ≤ 140737488351232 → (∀ x ∈ l0, (Lit.int .u8 x).wf = true) → (Lit.int .i64 a1).wf = true → ∃ k, l15_CollectBlocks.f k l0 a1 = some true
theorem l15_CollectBlocks.walk (P : l15_CollectBlocks.Pure) (a0 : Option Addr) (len0 cap0 : Nat) (z0 : List Int) (a1 : Int) (w : World) (w0 : (a0 = none ∧ len0 = 0 ∧ cap0 = 0 ∧ z0 = []) ∨ ∃ x, a0 = some x ∧ len0 ≤ cap0 ∧ cap0 ≤ maxLen ∧ z0.length = cap0 ∧ (∀ i, i < z0.length → w.cell? (x.add i) = some (.int .u8 (z0.getD i 0))) ∧ ∀ n ∈ z0, (Lit.int .u8 n).wf = true) (y0 : len0 * 1 ≤ 140737488351232) (w1 : (Lit.int .i64 a1).wf = true) :
  Calls Try.prog 9 #[.slice a0 len0 cap0, .int .i64 a1] w fun e w' => e = .returned (.bool true) ∧ Below w.heap.size w w' := by
 obtain ⟨l0, rfl, hr0, hm0, hw0, hc0⟩ := ReadsInt.ofRowC w0
 obtain ⟨k, h⟩ := P l0 a1 hm0 y0 hw0 w1
 refine (l15_CollectBlocks.calls k _ _ l0 a1 true w (Kd.C_of_reads (d := (0 : Int)) (h1 := fun _ => rfl) hr0) hc0 h).mono ?_
 rintro e w' ⟨rfl, hd⟩
 exact ⟨rfl, hd⟩
end Go.Proofs.Ytnmmkgagbfniiaa.A
end
section
namespace Go.Proofs.Ytnmmkgagbfniiaa.Pl
open Go.RowKit Go.Proofs.YtnmmkgagbfniiaaW.PrintWords Go.Proofs.YtnmmkgagbfniiaaW.PrintMore
theorem wrap64_id {x : Int} (h0 : -9223372036854775808 ≤ x) (h1 : x < 9223372036854775808) : wrap64 x = x := by unfold wrap64; omega
theorem u64_wrap (x : Int) : IntKind.u64.wrap x = x % 18446744073709551616 := IntKind.wrap_u64 x
theorem u8_bounds {a : Int} (h : (Lit.int .u8 a).wf = true) : 0 ≤ a ∧ a < 256 := by
 simp [Lit.wf, IntKind.min, IntKind.max, IntKind.signed, IntKind.bits] at h
 omega
theorem nat_xor_ones (x : Nat) (h : x < 18446744073709551616) : x ^^^ 18446744073709551615 = 18446744073709551615 - x := by
 have h1 := congrArg BitVec.toNat (BitVec.xor_allOnes (x := BitVec.ofNat 64 x))
 rw [BitVec.toNat_xor, BitVec.toNat_not, BitVec.toNat_allOnes, BitVec.toNat_ofNat, Nat.mod_eq_of_lt (by omega)] at h1
 simpa using h1
theorem u64_not (x : Int) (h0 : 0 ≤ x) (h1 : x < 18446744073709551616) : bits .xor .u64 18446744073709551615 x = 18446744073709551615 - x := by
 rw [u64_xor _ _ (by omega) (by omega) h0 h1, Nat.xor_comm]
 have := nat_xor_ones x.toNat (by omega)
 simp only [Int.reduceToNat]
 omega
theorem u64_xor_zero (x : Int) (h0 : 0 ≤ x) (h1 : x < 18446744073709551616) : bits .xor .u64 x 0 = x := by
 rw [u64_xor _ _ h0 h1 (by omega) (by omega)]
 simp
 omega
def zz (a : Int) : Int := if 0 ≤ a then 2 * a else -2 * a - 1
theorem zz_range {a : Int} (h0 : -9223372036854775808 ≤ a) (h1 : a < 9223372036854775808) : 0 ≤ zz a ∧ zz a < 18446744073709551616 := by unfold zz; split <;> omega
theorem zz_impl {a : Int} (h0 : -9223372036854775808 ≤ a) (h1 : a < 9223372036854775808) :
  bits .xor .u64 (IntKind.u64.wrap ((IntKind.u64.wrap a) * 2)) (IntKind.u64.wrap (a / 9223372036854775808)) = zz a := by
 simp only [u64_wrap]
 by_cases h : 0 ≤ a
 ·
  rw [show a / 9223372036854775808 = 0 by omega, show (0 : Int) % 18446744073709551616 = 0 by omega, u64_xor_zero _ (by omega) (by omega)]
  unfold zz
  rw [if_pos h]
  omega
 ·
  rw [show a / 9223372036854775808 = -1 by omega, show (-1 : Int) % 18446744073709551616 = 18446744073709551615 by omega]
  rw [u64_xor _ _ (by omega) (by omega) (by omega) (by omega)]
  have := nat_xor_ones (a % 18446744073709551616 * 2 % 18446744073709551616).toNat (by omega)
  simp only [Int.reduceToNat]
  rw [this]
  unfold zz
  rw [if_neg h]
  omega
theorem zz_ref_neg {a : Int} (h0 : -9223372036854775808 ≤ a) (h : a < 0) : bits .xor .u64 18446744073709551615 (IntKind.u64.wrap ((IntKind.u64.wrap a) * 2)) = zz a := by
 simp only [u64_wrap]
 rw [u64_not _ (by omega) (by omega)]
 unfold zz
 rw [if_neg (by omega)]
 omega
theorem zz_ref_pos {a : Int} (h : 0 ≤ a) (h1 : a < 9223372036854775808) : IntKind.u64.wrap ((IntKind.u64.wrap a) * 2) = zz a := by
 simp only [u64_wrap]
 unfold zz
 rw [if_pos h]
 omega
theorem nat_or128 : ∀ n < 256, n ||| 128 = n % 128 + 128 := by decide +kernel
theorem u8_or128' (x : Int) : bits .or .u8 (x % 256) 128 = x % 128 + 128 := by
 rw [u8_or _ _ (by omega) (by omega) (by omega) (by omega)]
 have := nat_or128 (x % 256).toNat (by omega)
 simp only [Int.reduceToNat]
 rw [this]
 omega
theorem u8_and127 (x : Int) (h : 0 ≤ x) (h1 : x < 256) : bits .and .u8 x 127 = x % 128 := by
 rw [u8_and _ _ h h1 (by omega) (by omega)]
 have := nat_mask7 x.toNat
 simp only [Int.reduceToNat]
 rw [this]
 omega
theorem u64_and1 (x : Int) (h : 0 ≤ x) (h1 : x < 18446744073709551616) : bits .and .u64 x 1 = x % 2 := by
 rw [u64_and _ _ h h1 (by omega) (by omega)]
 have := nat_mask1 x.toNat
 simp only [Int.reduceToNat]
 rw [this]
 omega
theorem u64_join (u x : Int) (i : Nat) (h0 : 0 ≤ u) (h1 : u < 2 ^ i) (h2 : 0 ≤ x) (h3 : x * 2 ^ i < 18446744073709551616) (hi : i < 64) : bits .or .u64 u (x * 2 ^ i) = u + x * 2 ^ i := by
 obtain ⟨a, rfl⟩ := Int.eq_ofNat_of_zero_le h0
 obtain ⟨b, rfl⟩ := Int.eq_ofNat_of_zero_le h2
 have e : ((b : Int) * 2 ^ i) = ((b * 2 ^ i : Nat) : Int) := by simp
 have ha : a < 2 ^ i := by exact_mod_cast h1
 have hp : 2 ^ i ≤ 2 ^ 63 := Nat.pow_le_pow_right (by decide) (by omega)
 rw [e] at h3 ⊢
 rw [u64_or_nat _ _ (by omega) (by omega), Nat.or_comm, nat_join i _ _ (by simp) ha]
 omega
theorem ofInt_neg1 : BitVec.ofInt 64 (-1) = BitVec.allOnes 64 := by decide +kernel
theorem i64_xor_ones (x : Int) (h0 : 0 ≤ x) (h1 : x < 9223372036854775808) : bits .xor .i64 (-1) x = -x - 1 ∧ bits .xor .i64 x (-1) = -x - 1 := by
 obtain ⟨a, rfl⟩ := Int.eq_ofNat_of_zero_le h0
 have h2 : (BitVec.ofInt 64 (a : Int)).toNat = a := by rw [BitVec.ofInt_natCast, BitVec.toNat_ofNat]; exact Nat.mod_eq_of_lt (by omega)
 have h3 := nat_xor_ones a (by omega)
 constructor
 ·
  show IntKind.i64.wrap ((BitVec.ofInt 64 (-1) ^^^ BitVec.ofInt 64 (a : Int)).toNat : Int) = _
  rw [BitVec.toNat_xor, h2, ofInt_neg1, BitVec.toNat_allOnes, Nat.xor_comm, show (2 ^ 64 - 1 : Nat) = 18446744073709551615 from rfl, h3, IntKind.wrap_i64]
  omega
 ·
  show IntKind.i64.wrap ((BitVec.ofInt 64 (a : Int) ^^^ BitVec.ofInt 64 (-1)).toNat : Int) = _
  rw [BitVec.toNat_xor, h2, ofInt_neg1, BitVec.toNat_allOnes, show (2 ^ 64 - 1 : Nat) = 18446744073709551615 from rfl, h3, IntKind.wrap_i64]
  omega
theorem i64_xor_zero (x : Int) (h0 : 0 ≤ x) (h1 : x < 9223372036854775808) : bits .xor .i64 x 0 = x := by
 obtain ⟨a, rfl⟩ := Int.eq_ofNat_of_zero_le h0
 have h2 : (BitVec.ofInt 64 (a : Int)).toNat = a := by rw [BitVec.ofInt_natCast, BitVec.toNat_ofNat]; exact Nat.mod_eq_of_lt (by omega)
 show IntKind.i64.wrap ((BitVec.ofInt 64 (a : Int) ^^^ BitVec.ofInt 64 0).toNat : Int) = _
 rw [BitVec.toNat_xor, h2, show (BitVec.ofInt 64 0).toNat = 0 from rfl, Nat.xor_zero, IntKind.wrap_i64]
 omega
def unzz (u : Int) : Int := if u % 2 = 1 then -(u / 2) - 1 else u / 2
theorem unzz_zz (a : Int) : unzz (zz a) = a := by unfold unzz zz; split <;> split <;> omega
theorem zz_unzz {u : Int} (h : 0 ≤ u) : zz (unzz u) = u := by unfold unzz zz; split <;> split <;> omega
theorem unzz_range {u : Int} (h0 : 0 ≤ u) (h1 : u < 18446744073709551616) : -9223372036854775808 ≤ unzz u ∧ unzz u < 9223372036854775808 := by unfold unzz; split <;> omega
theorem unzz_impl {u : Int} (h0 : 0 ≤ u) (h1 : u < 18446744073709551616) : bits .xor .i64 (wrap64 (u / 2)) (wrap64 (-(wrap64 (bits .and .u64 u 1)))) = unzz u := by
 rw [u64_and1 u h0 h1, wrap64_id (x := u / 2) (by omega) (by omega), wrap64_id (x := u % 2) (by omega) (by omega), wrap64_id (x := -(u % 2)) (by omega) (by omega)]
 unfold unzz
 by_cases h : u % 2 = 1
 ·
  rw [if_pos h, h]
  exact (i64_xor_ones _ (by omega) (by omega)).2
 ·
  rw [if_neg h, show u % 2 = 0 by omega]
  exact i64_xor_zero _ (by omega) (by omega)
end Go.Proofs.Ytnmmkgagbfniiaa.Pl
end
section
namespace Go.Proofs.Ytnmmkgagbfniiaa.Pl
open Go.RowKit Go.Proofs.YtnmmkgagbfniiaaW.PrintWords Go.Proofs.YtnmmkgagbfniiaaW.PrintMore
set_option linter.unusedVariables false
def encN (u : Nat) : List Int := if u < 128 then [(u : Int)] else ((u % 128 + 128 : Nat) : Int) :: encN (u / 128)
 termination_by u
 decreasing_by omega
def enc (a : Int) : List Int := encN (zz a).toNat
theorem encN_small {u : Nat} (h : u < 128) : encN u = [(u : Int)] := by rw [encN, if_pos h]
theorem encN_big {u : Nat} (h : ¬ u < 128) : encN u = ((u % 128 + 128 : Nat) : Int) :: encN (u / 128) := by rw [encN, if_neg h]
theorem encN_pos (u : Nat) : 0 < (encN u).length := by
 by_cases h : u < 128
 ·
  rw [encN_small h]; simp
 ·
  rw [encN_big h]; simp
theorem encN_le : ∀ (n u : Nat), u < 128 ^ (n + 1) → (encN u).length ≤ n + 1 := by
 intro n
 induction n with
 | zero => intro u h; rw [encN_small (by simpa using h)]; simp
 | succ n ih =>
  intro u h
  by_cases hs : u < 128
  ·
   rw [encN_small hs]; simp
  ·
   rw [encN_big hs, List.length_cons]
   have := ih (u / 128) (by rw [Nat.div_lt_iff_lt_mul (by omega)]; rw [Nat.pow_succ] at h; exact h)
   omega
theorem encN_len10 {u : Nat} (h : u < 18446744073709551616) : (encN u).length ≤ 10 := encN_le 9 u (by omega)
theorem enc_len {a : Int} (h0 : -9223372036854775808 ≤ a) (h1 : a < 9223372036854775808) : 0 < (enc a).length ∧ (enc a).length ≤ 10 := by
 have := zz_range h0 h1
 exact ⟨encN_pos _, encN_len10 (by omega)⟩
theorem encN_bytes : ∀ (u : Nat), ∀ x ∈ encN u, 0 ≤ x ∧ x < 256 := by
 intro u
 induction u using Nat.strongRecOn with
 | _ u ih =>
  by_cases h : u < 128
  ·
   rw [encN_small h]
   intro x hx
   rw [List.mem_singleton] at hx
   omega
  ·
   rw [encN_big h]
   intro x hx
   rcases List.mem_cons.1 hx with rfl | hx
   ·
    omega
   ·
    exact ih _ (by omega) x hx
theorem enc_bytes (a : Int) : ∀ x ∈ enc a, 0 ≤ x ∧ x < 256 := encN_bytes _
def dec : Nat → Int → List Int → Int × Int × Int
 | 0, _, _ => (0, 0, 11)
 | _ + 1, _, [] => (0, 0, 9)
 | d + 1, u, c :: t => if 128 ≤ c then dec d (u + (c % 128) * 2 ^ (7 * (9 - d))) t
  else if d = 0 ∧ 1 < c ∨ d < 9 ∧ c = 0 then (0, 0, 11) else (unzz (u + c * 2 ^ (7 * (9 - d))), 10 - (d : Int), 0)
theorem dec_encN : ∀ (d : Nat) (u v : Nat) (more : List Int), d < 10 → v < 128 ^ (d + 1) → (d = 9 ∨ v ≠ 0) → u + v * 2 ^ (7 * (9 - d)) < 18446744073709551616 →
  dec (d + 1) (u : Int) (encN v ++ more) = (unzz ((u + v * 2 ^ (7 * (9 - d)) : Nat) : Int), 9 - (d : Int) + ((encN v).length : Int), 0) := by
 intro d
 induction d with
 | zero =>
  intro u v more _ hv hz hb
  have hv1 : v < 128 := by simpa using hv
  rw [encN_small hv1]
  have : v ≤ 1 := by
   simp at hb
   omega
  simp only [List.cons_append, List.nil_append, dec]
  rw [if_neg (by omega), if_neg (by omega)]
  simp
 | succ d ih =>
  intro u v more hd hv hz hb
  by_cases hs : v < 128
  ·
   rw [encN_small hs]
   simp only [List.cons_append, List.nil_append, dec]
   rw [if_neg (by omega), if_neg (by omega)]
   simp
   omega
  ·
   rw [encN_big hs]
   simp only [List.cons_append, dec]
   rw [if_pos (by omega)]
   have e1 : 7 * (9 - d) = 7 * (9 - (d + 1)) + 7 := by omega
   have e2 : v % 128 * 2 ^ (7 * (9 - (d + 1))) + v / 128 * 2 ^ (7 * (9 - d)) = v * 2 ^ (7 * (9 - (d + 1))) := by
    rw [e1, Nat.pow_add, ← Nat.mul_assoc, Nat.mul_comm (v / 128) _, Nat.mul_assoc, Nat.mul_comm (2 ^ (7 * (9 - (d + 1)))) , ← Nat.add_mul]
    congr 1
    omega
   have e3 : ((u : Int) + (((v % 128 + 128 : Nat) : Int) % 128) * 2 ^ (7 * (9 - (d + 1)))) = ((u + v % 128 * 2 ^ (7 * (9 - (d + 1))) : Nat) : Int) := by
    rw [show (((v % 128 + 128 : Nat) : Int) % 128) = ((v % 128 : Nat) : Int) by omega]
    simp
   rw [e3, ih _ (v / 128) more (by omega) (by rw [Nat.div_lt_iff_lt_mul (by omega)]; rw [Nat.pow_succ] at hv; exact hv) (.inr (by omega)) (by omega)]
   rw [Nat.add_assoc, e2, List.length_cons]
   simp
   omega
theorem dec_enc {a : Int} (h0 : -9223372036854775808 ≤ a) (h1 : a < 9223372036854775808) (more : List Int) : dec 10 0 (enc a ++ more) = (a, ((enc a).length : Int), 0) := by
 have hz := zz_range h0 h1
 have := dec_encN 9 0 (zz a).toNat more (by omega) (by omega) (.inl rfl) (by simp; omega)
 unfold enc
 rw [show ((0 : Nat) : Int) = (0 : Int) from rfl] at this
 rw [this]
 simp
 rw [show (max (zz a) 0) = zz a by omega, unzz_zz]
theorem dec_sound : ∀ (d : Nat) (u : Nat) (l : List Int) (n s : Int), d < 10 → (∀ x ∈ l, 0 ≤ x ∧ x < 256) → u < 2 ^ (7 * (9 - d)) → dec (d + 1) (u : Int) l = (n, s, 0) →
  ∃ (v : Nat) (rest : List Int), l = encN v ++ rest ∧ (d = 9 ∨ v ≠ 0) ∧ u + v * 2 ^ (7 * (9 - d)) < 18446744073709551616 ∧ n = unzz ((u + v * 2 ^ (7 * (9 - d)) : Nat) : Int) ∧ s = 9 - (d : Int) + ((encN v).length : Int) := by
 intro d
 induction d with
 | zero =>
  intro u l n s _ hl hu h
  cases l with
  | nil => simp [dec] at h
  | cons c t =>
   have hc := hl c List.mem_cons_self
   simp only [dec] at h
   split at h
   ·
    simp at h
   ·
    split at h
    ·
     simp at h
    ·
     rename_i h1 h2
     simp only [Prod.mk.injEq, and_true] at h
     obtain ⟨rfl, rfl⟩ := h
     obtain ⟨b, rfl⟩ := Int.eq_ofNat_of_zero_le hc.1
     refine ⟨b, t, by rw [encN_small (by omega)]; simp, ?_⟩
     rw [encN_small (by omega)]
     simp at hu h2 ⊢
     omega
 | succ d ih =>
  intro u l n s hd hl hu h
  cases l with
  | nil => simp [dec] at h
  | cons c t =>
   have hc := hl c List.mem_cons_self
   obtain ⟨b, rfl⟩ := Int.eq_ofNat_of_zero_le hc.1
   simp only [dec] at h
   have e1 : 7 * (9 - d) = 7 * (9 - (d + 1)) + 7 := by omega
   split at h
   ·
    rename_i h1
    have e3 : ((u : Int) + ((b : Int) % 128) * 2 ^ (7 * (9 - (d + 1)))) = ((u + b % 128 * 2 ^ (7 * (9 - (d + 1))) : Nat) : Int) := by
     simp
    rw [e3] at h
    have hu2 : u + b % 128 * 2 ^ (7 * (9 - (d + 1))) < 2 ^ (7 * (9 - d)) := by
     rw [e1, Nat.pow_add]
     have : b % 128 * 2 ^ (7 * (9 - (d + 1))) ≤ 127 * 2 ^ (7 * (9 - (d + 1))) := Nat.mul_le_mul_right _ (by omega)
     omega
    obtain ⟨v, rest, rfl, hz, hb, rfl, rfl⟩ := ih _ t n s (by omega) (fun x hx => hl x (List.mem_cons_of_mem _ hx)) hu2 h
    have hv0 : v ≠ 0 := by omega
    have e2 : b % 128 * 2 ^ (7 * (9 - (d + 1))) + v * 2 ^ (7 * (9 - d)) = (b % 128 + v * 128) * 2 ^ (7 * (9 - (d + 1))) := by
     rw [e1, Nat.pow_add, Nat.add_mul]
     congr 1
     rw [Nat.mul_assoc, Nat.mul_comm 128]
    refine ⟨b % 128 + v * 128, rest, ?_, .inr (by omega), ?_, ?_, ?_⟩
    ·
     rw [encN_big (u := b % 128 + v * 128) (by omega), show (b % 128 + v * 128) / 128 = v by omega, show (b % 128 + v * 128) % 128 + 128 = b by omega]
     rfl
    ·
     rw [← e2]; omega
    ·
     rw [← e2, Nat.add_assoc]
    ·
     rw [encN_big (u := b % 128 + v * 128) (by omega), show (b % 128 + v * 128) / 128 = v by omega, List.length_cons]
     omega
   ·
    split at h
    ·
     simp at h
    ·
     rename_i h1 h2
     simp only [Prod.mk.injEq, and_true] at h
     obtain ⟨rfl, rfl⟩ := h
     refine ⟨b, t, by rw [encN_small (by omega)]; simp, by omega, ?_, by simp, ?_⟩
     ·
      have hb' : b ≤ 127 := by omega
      have hb : b * 2 ^ (7 * (9 - (d + 1))) ≤ 127 * 2 ^ (7 * (9 - (d + 1))) := Nat.mul_le_mul_right _ hb'
      have hp : 2 ^ (7 * (9 - (d + 1))) ≤ 2 ^ 56 := Nat.pow_le_pow_right (by omega) (by omega)
      generalize 2 ^ (7 * (9 - (d + 1))) = q at hb hp hu ⊢
      generalize b * q = bq at hb ⊢
      omega
     ·
      rw [encN_small (by omega)]
      simp
      omega
theorem dec_once {l : List Int} {n s : Int} (hl : ∀ x ∈ l, 0 ≤ x ∧ x < 256) (h : dec 10 0 l = (n, s, 0)) :
  -9223372036854775808 ≤ n ∧ n < 9223372036854775808 ∧ ∃ rest, l = enc n ++ rest ∧ s = ((enc n).length : Int) := by
 obtain ⟨v, rest, rfl, _, hb, rfl, rfl⟩ := dec_sound 9 0 l n s (by omega) hl (by simp) h
 simp only [Nat.sub_self, Nat.mul_zero, Nat.pow_zero, Nat.mul_one, Nat.zero_add] at hb ⊢
 have hr := unzz_range (u := (v : Int)) (by omega) (by omega)
 refine ⟨hr.1, hr.2, rest, ?_, ?_⟩
 ·
  unfold enc
  rw [zz_unzz (by omega)]
  rfl
 ·
  unfold enc
  rw [zz_unzz (by omega)]
  simp
end Go.Proofs.Ytnmmkgagbfniiaa.Pl
end
section
namespace Go.Proofs.Ytnmmkgagbfniiaa.Pl
open Go.RowKit Go.Proofs.YtnmmkgagbfniiaaW.PrintWords Go.Proofs.YtnmmkgagbfniiaaW.PrintMore Go.Proofs.Ytnmmkgagbfniiaa.A
set_option linter.unusedVariables false
theorem appendInt_ev : ∀ (u : Nat) (x : List Int), x.length + (encN u).length ≤ 140737488355328 → Ev (fun k => event_appendInt.l0 k x (u : Int)) (x ++ encN u) := by
 intro u
 induction u using Nat.strongRecOn with
 | _ u ih =>
  intro x hx
  by_cases h : u < 128
  ·
   rw [encN_small h] at hx ⊢
   refine Ev.step (f := fun _ => some (x ++ [(u : Int)])) (fun k => ?_) (Ev.now _)
   simp only [List.length_singleton] at hx
   simp only [event_appendInt.l0]
   rw [if_neg (by omega), if_pos (by omega), show (u : Int) % 256 = u by omega]
  ·
   rw [encN_big h] at hx ⊢
   simp only [List.length_cons] at hx
   refine Ev.step (f := fun k => event_appendInt.l0 k (x ++ [((u % 128 + 128 : Nat) : Int)]) ((u / 128 : Nat) : Int)) (fun k => ?_) ?_
   ·
    simp only [event_appendInt.l0]
    rw [if_pos (by omega), if_pos (by omega), u8_or128', show (u : Int) % 128 + 128 = ((u % 128 + 128 : Nat) : Int) by omega, show (u : Int) / 128 = ((u / 128 : Nat) : Int) by omega]
   ·
    have := ih (u / 128) (by omega) (x ++ [((u % 128 + 128 : Nat) : Int)]) (by rw [List.length_append, List.length_singleton]; omega)
    simpa using this
theorem appendInt_f {a : Int} (h0 : -9223372036854775808 ≤ a) (h1 : a < 9223372036854775808) (x : List Int) (hx : x.length ≤ 140737488355318) : Ev (fun k => event_appendInt.f k x a) (x ++ enc a) := by
 have hz := zz_range h0 h1
 have hl := enc_len h0 h1
 have := appendInt_ev (zz a).toNat x (by unfold enc at hl; omega)
 refine Ev.congr (fun k => ?_) this
 unfold event_appendInt.f
 rw [zz_impl h0 h1, show ((zz a).toNat : Int) = zz a by omega]
theorem putInt_f {a : Int} (h0 : -9223372036854775808 ≤ a) (h1 : a < 9223372036854775808) (x : List Int) (hx : x.length ≤ 140737488355318) : Ev (fun k => event_PutInt.f k x a) (x ++ enc a) := appendInt_f h0 h1 x hx
theorem refPutInt_ev : ∀ (u : Nat) (x : List Int), x.length + (encN u).length ≤ 140737488355328 → Ev (fun k => j11_PutInt.l0 k (u : Int) x) (x ++ encN u) := by
 intro u
 induction u using Nat.strongRecOn with
 | _ u ih =>
  intro x hx
  by_cases h : u < 128
  ·
   rw [encN_small h] at hx ⊢
   refine Ev.step (f := fun _ => some (x ++ [(u : Int)])) (fun k => ?_) (Ev.now _)
   simp only [List.length_singleton] at hx
   simp only [j11_PutInt.l0]
   rw [if_neg (by omega), if_pos (by omega), show (u : Int) % 256 = u by omega]
  ·
   rw [encN_big h] at hx ⊢
   simp only [List.length_cons] at hx
   refine Ev.step (f := fun k => j11_PutInt.l0 k ((u / 128 : Nat) : Int) (x ++ [((u % 128 + 128 : Nat) : Int)])) (fun k => ?_) ?_
   ·
    simp only [j11_PutInt.l0]
    rw [if_pos (by omega), if_pos (by omega), u8_or128', show (u : Int) % 128 + 128 = ((u % 128 + 128 : Nat) : Int) by omega, show (u : Int) / 128 = ((u / 128 : Nat) : Int) by omega]
   ·
    have := ih (u / 128) (by omega) (x ++ [((u % 128 + 128 : Nat) : Int)]) (by rw [List.length_append, List.length_singleton]; omega)
    simpa using this
theorem refPutInt_f {a : Int} (h0 : -9223372036854775808 ≤ a) (h1 : a < 9223372036854775808) (x : List Int) (hx : x.length ≤ 140737488355318) : Ev (fun k => j11_PutInt.f k x a) (x ++ enc a) := by
 have hz := zz_range h0 h1
 have hl := enc_len h0 h1
 have := refPutInt_ev (zz a).toNat x (by unfold enc at hl; omega)
 rw [show ((zz a).toNat : Int) = zz a by omega] at this
 refine Ev.step (f := fun k => j11_PutInt.l0 k (zz a) x) (fun k => ?_) this
 unfold j11_PutInt.f
 by_cases h : a < 0
 ·
  rw [if_pos h, zz_ref_neg h0 h]
  simp only [j11_PutInt.j0, Option.bind_some, List.nil_append, List.length_nil]
  rw [if_pos (by omega)]
 ·
  rw [if_neg h, zz_ref_pos (by omega) h1]
  simp only [j11_PutInt.j0, Option.bind_some, List.nil_append, List.length_nil]
  rw [if_pos (by omega)]
theorem same_loop (x y : List Int) (hl : x.length = y.length) (hm : x.length ≤ 140737488355328) : ∀ (d i : Nat), i + d = x.length → Ev (fun k => j11_SameBytes.l0 k x y (i : Int)) (decide (x.drop i = y.drop i)) := by
 intro d
 induction d with
 | zero =>
  intro i hi
  refine Ev.step (f := fun _ => some _) (fun k => ?_) (Ev.now _)
  simp only [j11_SameBytes.l0]
  rw [if_neg (by omega), List.drop_of_length_le (by omega), List.drop_of_length_le (by omega)]
  simp
 | succ d ih =>
  intro i hi
  have hx : i < x.length := by omega
  have hy : i < y.length := by omega
  have ex : rd x (i : Int) = x[i] := by simp [rd, List.getD_eq_getElem?_getD, List.getElem?_eq_getElem hx]
  have ey : rd y (i : Int) = y[i] := by simp [rd, List.getD_eq_getElem?_getD, List.getElem?_eq_getElem hy]
  rw [List.drop_eq_getElem_cons hx, List.drop_eq_getElem_cons hy]
  by_cases h : x[i] = y[i]
  ·
   refine Ev.step (f := fun k => j11_SameBytes.l0 k x y ((i + 1 : Nat) : Int)) (fun k => ?_) ?_
   ·
    simp only [j11_SameBytes.l0]
    rw [if_pos (by omega), if_pos (by omega), if_pos (by omega), ex, ey, if_pos h, wrap64_id (by omega) (by omega)]
    rfl
   ·
    have := ih (i + 1) (by omega)
    rwa [show decide (x[i] :: x.drop (i + 1) = y[i] :: y.drop (i + 1)) = decide (x.drop (i + 1) = y.drop (i + 1)) from decide_eq_decide.mpr ⟨fun e => (List.cons.inj e).2, fun e => by rw [h, e]⟩]
  ·
   rw [show decide (x[i] :: x.drop (i + 1) = y[i] :: y.drop (i + 1)) = false from decide_eq_false (fun e => h (List.cons.inj e).1)]
   refine Ev.step (f := fun _ => some _) (fun k => ?_) (Ev.now _)
   simp only [j11_SameBytes.l0]
   rw [if_pos (by omega), if_pos (by omega), if_pos (by omega), ex, ey, if_neg h]
theorem same_f (x y : List Int) (hm : x.length ≤ 140737488355328) : Ev (fun k => j11_SameBytes.f k x y) (decide (x = y)) := by
 by_cases hl : x.length = y.length
 ·
  have := same_loop x y hl hm x.length 0 (by omega)
  simp only [List.drop_zero] at this
  refine Ev.congr (fun k => ?_) this
  unfold j11_SameBytes.f
  rw [if_pos (by omega)]
  rfl
 ·
  refine ⟨0, fun k _ => ?_⟩
  show j11_SameBytes.f k x y = _
  unfold j11_SameBytes.f
  rw [if_neg (by omega)]
  have : x ≠ y := fun e => hl (by rw [e])
  simp [this]
theorem same_yes (x : List Int) (hm : x.length ≤ 140737488355328) : Ev (fun k => j11_SameBytes.f k x x) true := by simpa using same_f x x hm
theorem rd_at {x : List Int} {i : Nat} (h : i < x.length) : rd x (i : Int) = x[i] := by simp [rd, List.getD_eq_getElem?_getD, List.getElem?_eq_getElem h]
end Go.Proofs.Ytnmmkgagbfniiaa.Pl
end
