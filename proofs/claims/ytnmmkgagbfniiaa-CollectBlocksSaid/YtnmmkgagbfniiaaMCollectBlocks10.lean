/- MCollectBlocks10: texts of this session and of the kit's printer on the road to the statement CollectBlocks, laid into one and rid of what it doesn't need. No condition beyond what each fact names. -/
import Derived.Test.YtnmmkgagbfniiaaMCollectBlocks3
import Derived.Test.YtnmmkgagbfniiaaMCollectBlocks2
import Derived.Test.YtnmmkgagbfniiaaMCollectBlocks9
section
namespace Go.Proofs.Ytnmmkgagbfniiaa.A
open Go.RowKit Go.Proofs.YtnmmkgagbfniiaaW.PrintWords Go.Proofs.YtnmmkgagbfniiaaW.PrintLast Go.Proofs.YtnmmkgagbfniiaaW.PrintMore
attribute [local go_sem] max2_int min2_int max_two min_two max_three min_three max_four min_four
set_option linter.unusedVariables false
set_option linter.unusedSimpArgs false
mutual
def block_records.j0 : Nat → List Int → Bool → Int → Int → Int → Int → Int → Int → Int → Int → Option (Int × Int × (List (S26)) × Bool)
 | 0, _, _, _, _, _, _, _, _, _, _ => none
 | k + 1, x7, x34, x526000, x526001, x526002, x526003, x526004, x526005, x528000, x528001 => if x34 = true then (some (0, 0, ([] : List (S26)), false)) else (block_records.l0 k x7 (-1) x526002 0 x528000 x528001 ([] : List (S26)))
def block_records.l0 : Nat → List Int → Int → Int → Int → Int → Int → List (S26) → Option (Int × Int × (List (S26)) × Bool)
 | 0, _, _, _, _, _, _, _ => none
 | k + 1, x7, x9, x37, x38, x528000, x528001, x528002 => if x38 < x37 then ((event_Read.f k x7 x528000 x9).bind fun bt532 => (if bt532.2.2.2.2.2.2.2.2.2 = 0 then (if x528002.length < 1466015503701 then (if 0 ≤ bt532.2.2.2.2.2.2.2.2.1 then (if bt532.2.2.2.2.2.2.2.2.1 ≤ (x7.length : Int) then (block_records.l0 k (x7.drop (bt532.2.2.2.2.2.2.2.2.1 : Int).toNat) bt532.1 x37 (wrap64 (x38 + 1)) x528000 x528001 (x528002 ++ [(⟨bt532.1, (⟨bt532.2.1, bt532.2.2.1, bt532.2.2.2.1, bt532.2.2.2.2.1, bt532.2.2.2.2.2.1, bt532.2.2.2.2.2.2.1, bt532.2.2.2.2.2.2.2.1⟩ : S24)⟩ : S26)])) else (none)) else (none)) else (none)) else (some (0, 0, ([] : List (S26)), false)))) else (some (x528000, x528001, x528002, ((x7.length : Int) == 0)))
end
def block_records.f (k : Nat) (a0_0 : Int) (a0_1 : Int) (a0_2 : Int) (a0_3 : Int) (a0_4 : Int) (a0_5 : Int) (l1 : List Int) : Option (Int × Int × (List (S26)) × Bool) := (pack_Unpack.f k l1 a0_3).bind fun bt528 => (if bt528.2 = 0 then (block_records.j0 k bt528.1 ((bt528.1.length : Int) != a0_3) a0_0 a0_1 a0_2 a0_3 a0_4 a0_5 (wrap64 (a0_0)) a0_1) else (block_records.j0 k bt528.1 true a0_0 a0_1 a0_2 a0_3 a0_4 a0_5 (wrap64 (a0_0)) a0_1))
theorem block_records.mono_l : ∀ k, (∀ y0 y1 y2 y3 y4 y5 y6 y7 y8 y9, LeO (block_records.j0 k y0 y1 y2 y3 y4 y5 y6 y7 y8 y9) (block_records.j0 (k + 1) y0 y1 y2 y3 y4 y5 y6 y7 y8 y9)) ∧ (∀ y0 y1 y2 y3 y4 y5 y6, LeO (block_records.l0 k y0 y1 y2 y3 y4 y5 y6) (block_records.l0 (k + 1) y0 y1 y2 y3 y4 y5 y6))
 | 0 => ⟨fun _ _ _ _ _ _ _ _ _ _ r h => by simp [block_records.j0] at h, fun _ _ _ _ _ _ _ r h => by simp [block_records.l0] at h⟩
 | k + 1 => by
  obtain ⟨ih0, ih1⟩ := block_records.mono_l k
  refine ⟨?_, ?_⟩
  ·
   intro y0 y1 y2 y3 y4 y5 y6 y7 y8 y9
   unfold block_records.j0
   exact zM
  ·
   intro y0 y1 y2 y3 y4 y5 y6
   unfold block_records.l0
   exact zM
theorem block_records.mono : ∀ a0 a1 a2 a3 a4 a5 a6 k, LeO (block_records.f k a0 a1 a2 a3 a4 a5 a6) (block_records.f (k + 1) a0 a1 a2 a3 a4 a5 a6) := by
 intro a0 a1 a2 a3 a4 a5 a6 k
 obtain ⟨ih0, ih1⟩ := block_records.mono_l k
 unfold block_records.f
 exact zM
set_option maxHeartbeats 8000000 in
set_option maxRecDepth 100000 in
theorem block_records.calls (k : Nat) (a0_0 : Int) (a0_1 : Int) (a0_2 : Int) (a0_3 : Int) (a0_4 : Int) (a0_5 : Int) (A1 : Option Addr) (c1 : Nat) (l1 : List Int) (r1 : Int) (r2 : Int) (r3 : List (S26)) (r4 : Bool) (w : World) (hr1 : Kd.C (Kd.int .u8) w A1 l1.length l1) (hc1 : l1.length ≤ c1) (h : block_records.f k a0_0 a0_1 a0_2 a0_3 a0_4 a0_5 l1 = some (r1, r2, r3, r4)) :
  Calls Try.prog 64 #[.agg #[.int .u8 a0_0, .int .i64 a0_1, .int .i64 a0_2, .int .i64 a0_3, .int .i64 a0_4, .int .i64 a0_5], .slice A1 l1.length c1] w fun e w' => ∃ v2_ : Value, e = .returned (.tuple #[.agg #[.int .i64 r1, .int .i64 r2, v2_], .bool r4]) ∧ Kd.S k26 26 w' w.heap.size (fun _ => True) v2_ r3 ∧ Below w.heap.size w w' := by
 have hu114 := Try.underlying114
 have hu42 := Try.underlying42
 have hu26 := Try.underlying26
 have HR1 := am hr1
 have HC1 := am hc1
 clear hr1 hc1
 have HB := am (Below.refl w.heap.size w)
 have H : ((pack_Unpack.f k l1 a0_3).bind fun bt528 => (if bt528.2 = 0 then (block_records.j0 k bt528.1 ((bt528.1.length : Int) != a0_3) a0_0 a0_1 a0_2 a0_3 a0_4 a0_5 (wrap64 (a0_0)) a0_1) else (block_records.j0 k bt528.1 true a0_0 a0_1 a0_2 a0_3 a0_4 a0_5 (wrap64 (a0_0)) a0_1))) = some (r1, r2, r3, r4) := h
 clear h
 replace H := Option.bind_eq_some_iff.mp H
 obtain ⟨⟨t528, t529⟩, A30, H⟩ := H
 (try dsimp only at H)
 have A3 := am A30
 clear A30
 have HC4 := am H
 clear H
 go_enter Try.func64, Try.ntmps64
 go_upto_region 3 with (first | ((with_reducible refine gate_dst (N := 2) rfl ?_); (try (refine gate_guard (by rfl) ?_; dsimp only)); refine zB 2 #[.int .u8 a0_0, .int .i64 a0_1, .int .i64 a0_2, .int .i64 a0_3, .int .i64 a0_4, .int .i64 a0_5] 114 ?_; intro gb525 hg w5 hbox hb; have BK525 := am (hbox); have GE525 := zG hg (zb HB); replace HB := am (below_step (zb HB) hb); clear hb hbox hg) | ((with_reducible refine gate_dst (N := 4) rfl ?_); (try (refine gate_guard (by rfl) ?_; dsimp only)); refine zB 4 #[.int .i64 0, .int .i64 0, .slice none 0 0] 42 ?_; intro gb526 hg w6 hbox hb; have BK526 := am (hbox); have GE526 := zG hg (zb HB); replace HB := am (below_step (zb HB) hb); have NB525_526 := zn hg BK525; have NB526_525 := zm hg BK525; replace BK525 := zk BK525 hb; clear hb hbox hg; have hnb7 := NB525_526.out; have hnc7 := NB526_525.out; obtain ⟨hcz8_0, hcz8_1, hcz8_2, hcz8_3, hcz8_4, hcz8_5⟩ := zc6 BK525; obtain ⟨hfz8_0, hfz8_1, hfz8_2, hfz8_3, hfz8_4, hfz8_5⟩ := zf6 BK525) | ((with_reducible refine gate_dst (N := 6) rfl ?_); (try (refine gate_guard (by rfl) ?_; dsimp only)); refine zB 6 #[.int .i64 0, .int .i64 0, .slice none 0 0] 42 ?_; intro gb527 hg w9 hbox hb; have BK527 := am (hbox); have GE527 := zG hg (zb HB); replace HB := am (below_step (zb HB) hb); have NB525_527 := zn hg BK525; have NB527_525 := zm hg BK525; replace BK525 := zk BK525 hb; have NB526_527 := zn hg BK526; have NB527_526 := zm hg BK526; replace BK526 := zk BK526 hb; clear hb hbox hg; have hnb10 := NB527_525.out; have hnc10 := NB525_527.out; have hnb11 := NB527_526.out; have hnc11 := NB526_527.out; obtain ⟨hcz12_0, hcz12_1, hcz12_2⟩ := zc3 BK527; obtain ⟨hfz12_0, hfz12_1, hfz12_2⟩ := zf3 BK527; obtain ⟨hcz13_0, hcz13_1, hcz13_2, hcz13_3, hcz13_4, hcz13_5⟩ := zc6 BK525; obtain ⟨hfz13_0, hfz13_1, hfz13_2, hfz13_3, hfz13_4, hfz13_5⟩ := zf6 BK525) | ((with_reducible refine gate_callee (f := 83) rfl ?_); refine goesL_ (some 23) rfl rfl Try.func83 (by kernel_rfl) rfl #[.slice A1 l1.length c1, .int .i64 a0_3] rfl zg ?_; (with_reducible refine (pack_Unpack.calls k _ _ l1 a0_3 t528 t529 _ ?side1 ?side2 A3.out).mono ?_); (case side1 => exact Kd.C_below HR1.out (zb HB)); (case side2 => exact HC1.out); rintro e w14 ⟨v530, rfl, ho0, hb⟩; refine ⟨_, rfl, ?_⟩; have HO531 := am (Kd.R_lower ho0 (below_size (zb HB))); replace BK525 := am (blk_below (g := gb525) (o := .cells #[.int .u8 a0_0, .int .i64 a0_1, .int .i64 a0_2, .int .i64 a0_3, .int .i64 a0_4, .int .i64 a0_5] 114 (0, 0)) (by refine zu ?_; refine blk_far ?_ NB525_527.out _; refine zu ?_; refine blk_far ?_ NB525_527.out _; refine zu ?_; refine blk_far ?_ NB525_527.out _; refine zu ?_; exact BK525.out) hb); replace BK526 := am (blk_below (g := gb526) (o := .cells #[.int .i64 0, .int .i64 0, .slice none 0 0] 42 (0, 0)) (by refine zu ?_; refine blk_far ?_ NB526_527.out _; refine zu ?_; refine blk_far ?_ NB526_527.out _; refine zu ?_; refine blk_far ?_ NB526_527.out _; refine zu ?_; exact BK526.out) hb); replace BK527 := am (blk_below (g := gb527) (o := .cells #[.int .i64 (wrap64 (a0_0)), .int .i64 a0_1, .slice none 0 0] 42 (0, 0)) (by refine zu ?_; refine blk_put (cs := #[.int .i64 (wrap64 (a0_0)), .int .i64 a0_1, .slice none 0 0]) ?_ 2 _ rfl; refine zu ?_; refine blk_put (cs := #[.int .i64 (wrap64 (a0_0)), .int .i64 0, .slice none 0 0]) ?_ 1 _ rfl; refine zu ?_; refine blk_put (cs := #[.int .i64 0, .int .i64 0, .slice none 0 0]) ?_ 0 _ rfl; refine zu ?_; exact BK527.out) hb); replace HB := am (below_step (zb HB) hb); clear hb ho0))
 (try simp only [Act.put, List.setIfInBounds_toArray, List.set_cons_zero, List.set_cons_succ])
 go_cut [34] (fun v34 wc => ∃ (kq : Nat) (x34_3 : Bool), v34 = .bool x34_3 ∧ Aside0 (block_records.j0 kq t528 x34_3 a0_0 a0_1 a0_2 a0_3 a0_4 a0_5 (wrap64 (a0_0)) a0_1 = some (r1, r2, r3, r4)) ∧ Aside0 (kq ≤ k) ∧ Aside0 (Kd.Q (Kd.int .u8) 5 wc w.heap.size (fun _ => True) v530 t528) ∧ Aside0 (wc.heap[gb525]? = some (.cells #[.int .u8 a0_0, .int .i64 a0_1, .int .i64 a0_2, .int .i64 a0_3, .int .i64 a0_4, .int .i64 a0_5] 114 (0, 0))) ∧ Aside0 (wc.heap[gb526]? = some (.cells #[.int .i64 0, .int .i64 0, (.slice none 0 0)] 42 (0, 0))) ∧ Aside0 (wc.heap[gb527]? = some (.cells #[.int .i64 (wrap64 (a0_0)), .int .i64 a0_1, (.slice none 0 0)] 42 (0, 0))) ∧ Aside0 (Below w.heap.size w wc))
 case first =>
  have H := HC4.out
  clear HC4
  by_cases c15 : t529 = 0
  ·
   rw [if_pos c15] at H
   obtain ⟨c15b0, c15b1⟩ := zt c15
   clear c15
   (first | rw [c15b0] | (simp only [i64_w, i32_w]; rw [c15b0]) | skip)
   have H' := am H
   clear H
   obtain ⟨Ao16, co16, eo16⟩ := Kd.R_slice HO531.out
   subst eo16
   have hnb17 := NB525_526.out
   have hnc17 := NB526_525.out
   have hnb18 := NB525_527.out
   have hnc18 := NB527_525.out
   obtain ⟨hcz19_0, hcz19_1, hcz19_2, hcz19_3, hcz19_4, hcz19_5⟩ := zc6 BK525
   obtain ⟨hfz19_0, hfz19_1, hfz19_2, hfz19_3, hfz19_4, hfz19_5⟩ := zf6 BK525
   go_wp2
   go_meet
   case rel => exact ⟨_, (((t528.length : Int) != a0_3)), zr, H', ⟨by first | omega | exact Nat.le_refl _⟩, ⟨Kd.Q_of_R (zR HO531.out)⟩, ⟨by refine zu ?_; exact BK525.out⟩, ⟨by refine zu ?_; exact BK526.out⟩, ⟨by refine zu ?_; exact BK527.out⟩, ⟨zb HB⟩⟩
  ·
   rw [if_neg c15] at H
   obtain ⟨c15b0, c15b1⟩ := zs c15
   (first | rw [c15b0] | (simp only [i64_w, i32_w]; rw [c15b0]) | skip)
   have H' := am H
   clear H
   go_wp2
   go_meet
   case rel => exact ⟨_, (true), zr, H', ⟨by first | omega | exact Nat.le_refl _⟩, ⟨Kd.Q_of_R (zR HO531.out)⟩, ⟨by refine zu ?_; exact BK525.out⟩, ⟨by refine zu ?_; exact BK526.out⟩, ⟨by refine zu ?_; exact BK527.out⟩, ⟨zb HB⟩⟩
 case rest =>
  clear HC4
  obtain ⟨kq, x34_3, rfl, HA, HJ3, HO_7, BK525, BK526, BK527, HB⟩ := hcut
  cases kq with
  | zero => exact absurd HA.out (by simp [block_records.j0])
  | succ kj3 =>
   have H := HA.out
   clear HA
   simp only [block_records.j0] at H
   by_cases c20 : x34_3 = true
   ·
    subst c20
    have H1 : (some (0, 0, ([] : List (S26)), false)) = some (r1, r2, r3, r4) := by rw [if_pos rfl] at H; exact H
    clear H
    have H := H1
    clear H1
    simp only [Option.some.injEq, Prod.mk.injEq] at H
    obtain ⟨rfl, rfl, rfl, rfl⟩ := H
    have hnb21 := NB526_525.out
    have hnc21 := NB525_526.out
    have hnb22 := NB526_527.out
    have hnc22 := NB527_526.out
    obtain ⟨hcz23_0, hcz23_1, hcz23_2⟩ := zc3 BK526
    obtain ⟨hfz23_0, hfz23_1, hfz23_2⟩ := zf3 BK526
    go_wp2
    refine bodyPost_ret (results_ct rfl _ _ gb526 42 #[.int .i64 0, .int .i64 0, .slice none 0 0] (0, 0) _ rfl (by refine zu ?_; refine blk_put (cs := #[.int .i64 0, .int .i64 0, .slice none 0 0]) ?_ 2 _ rfl; refine zu ?_; refine blk_put (cs := #[.int .i64 0, .int .i64 0, .slice none 0 0]) ?_ 1 _ rfl; refine zu ?_; refine blk_put (cs := #[.int .i64 0, .int .i64 0, .slice none 0 0]) ?_ 0 _ rfl; refine zu ?_; exact BK526.out) Try.underlying42 rfl (by kernel_rfl)) rfl ?_
    exact ⟨_, ze, by first | exact Kd.S_nil _ _ _ _ _ | exact Kd.N_nil _ _ _ _ _ | exact Kd.V_nil _ _ _ _ _ | exact Kd.Q_nil _ _ _ _ _ | exact Kd.R_nil _ _ _ _ _, zb HB⟩
   ·
    replace c20 := Bool.eq_false_iff.mpr c20
    subst c20
    have H1 : (block_records.l0 kj3 t528 (-1) a0_2 0 (wrap64 (a0_0)) a0_1 ([] : List (S26))) = some (r1, r2, r3, r4) := by rw [if_neg (show ¬ (false = true) by decide)] at H; exact H
    clear H
    have H := H1
    clear H1
    have H' := am H
    clear H
    have hnb24 := NB525_526.out
    have hnc24 := NB526_525.out
    have hnb25 := NB525_527.out
    have hnc25 := NB527_525.out
    obtain ⟨hcz26_0, hcz26_1, hcz26_2, hcz26_3, hcz26_4, hcz26_5⟩ := zc6 BK525
    obtain ⟨hfz26_0, hfz26_1, hfz26_2, hfz26_3, hfz26_4, hfz26_5⟩ := zf6 BK525
    go_wp2
    go_loopg [7, 9, 38] kj3 (fun kq v7 v9 v38 w' => ∃ (x7_2 : List Int) (x9_2 : Int) (x38_2 : Int) (x527000_2 : Int) (x527001_2 : Int) (x528002_2 : List (S26)) (u528002 : Value), v9 = .int .i64 x9_2 ∧ v38 = .int .i64 x38_2 ∧ Aside0 (block_records.l0 kq x7_2 x9_2 a0_2 x38_2 (wrap64 (a0_0)) a0_1 x528002_2 = some (r1, r2, r3, r4)) ∧ Aside0 (kq ≤ kj3) ∧ Aside0 (Kd.Q (Kd.int .u8) 5 w' w.heap.size (fun _ => True) v7 x7_2) ∧ Aside0 (Kd.S k26 26 w' w.heap.size (fun _ => True) u528002 x528002_2) ∧ Aside0 (w'.heap[gb525]? = some (.cells #[.int .u8 a0_0, .int .i64 a0_1, .int .i64 a0_2, .int .i64 a0_3, .int .i64 a0_4, .int .i64 a0_5] 114 (0, 0))) ∧ Aside0 (w'.heap[gb526]? = some (.cells #[.int .i64 x527000_2, .int .i64 x527001_2, (.slice none 0 0)] 42 (0, 0))) ∧ Aside0 (w'.heap[gb527]? = some (.cells #[.int .i64 (wrap64 (a0_0)), .int .i64 a0_1, u528002] 42 (0, 0))) ∧ Aside0 (Below w.heap.size w w'))
    case atStart => exact ⟨(t528), ((-1)), (0), (0), (0), (([] : List (S26))), (.slice none 0 0), zr, zr, H', ⟨Nat.le_refl _⟩, ⟨by (with_reducible repeat (first | apply Kd.Q_alloc | apply Kd.Q_drewN | apply Kd.Q_drew)); exact HO_7.out⟩, ⟨by first | exact Kd.S_nil _ _ _ _ _ | exact Kd.N_nil _ _ _ _ _ | exact Kd.V_nil _ _ _ _ _ | exact Kd.Q_nil _ _ _ _ _ | exact Kd.R_nil _ _ _ _ _⟩, ⟨by refine zu ?_; exact BK525.out⟩, ⟨by refine zu ?_; exact BK526.out⟩, ⟨by refine zu ?_; exact BK527.out⟩, ⟨zb HB⟩⟩
    case round =>
     clear H'
     obtain ⟨x7_2, x9_2, x38_2, x527000_2, x527001_2, x528002_2, u528002, rfl, rfl, HA, HK2, HO_7, HO_528002, BK525, BK526, BK527, HB⟩ := hrel
     cases gk with
     | zero => exact absurd HA.out (by simp [block_records.l0])
     | succ k2 =>
      have H := HA.out
      clear HA
      simp only [block_records.l0] at H
      by_cases c27 : x38_2 < a0_2
      ·
       rw [if_pos c27] at H
       have c27b0 := decide_eq_true c27
       clear c27
       replace H := Option.bind_eq_some_iff.mp H
       obtain ⟨⟨t532, t533, t534, t535, t536, t537, t538, t541, t544, t545⟩, A280, H⟩ := H
       (try dsimp only at H)
       have A28 := am A280
       clear A280
       by_cases c29 : t545 = 0
       ·
        rw [if_pos c29] at H
        obtain ⟨c29b0, c29b1⟩ := zt c29
        clear c29
        by_cases c30 : x528002_2.length < 1466015503701
        ·
         rw [if_pos c30] at H
         have LMc30 := am c30
         clear c30
         obtain ⟨y547, hy547⟩ : ∃ y_ : List (S26), y_ = (x528002_2 ++ [(⟨t532, (⟨t533, t534, t535, t536, t537, t538, t541⟩ : S24)⟩ : S26)]) := ⟨_, rfl⟩
         replace H : (if 0 ≤ t544 then (if t544 ≤ (x7_2.length : Int) then (block_records.l0 k2 (x7_2.drop (t544 : Int).toNat) t532 a0_2 (wrap64 (x38_2 + 1)) (wrap64 (a0_0)) a0_1 y547) else (none)) else (none)) = some (r1, r2, r3, r4) := by first | (rw [hy547]; with_reducible exact H) | (have H2_ := (Option.bind_some _ _).symm.trans H; rw [hy547]; with_reducible exact H2_) | (have H2_ := (Option.bind_some _ _).symm.trans H; with_reducible exact H2_) | with_reducible exact H | (rw [hy547]; exact H) | exact H
         have Ny547 := am hy547
         clear hy547
         by_cases c31 : 0 ≤ t544
         ·
          rw [if_pos c31] at H
          have c31b0 := eq_true c31
          have c31b1 : decide (0 ≤ t544) = true := decide_eq_true c31
          clear c31
          by_cases c32 : t544 ≤ (x7_2.length : Int)
          ·
           rw [if_pos c32] at H
           have c32b0 := eq_true c32
           have c32b1 : decide (t544 ≤ (x7_2.length : Int)) = true := decide_eq_true c32
           clear c32
           obtain ⟨y550, hy550⟩ : ∃ y_ : List Int, y_ = (x7_2.drop (t544 : Int).toNat) := ⟨_, rfl⟩
           replace H : (block_records.l0 k2 y550 t532 a0_2 (wrap64 (x38_2 + 1)) (wrap64 (a0_0)) a0_1 y547) = some (r1, r2, r3, r4) := by first | (rw [hy550]; with_reducible exact H) | (have H2_ := (Option.bind_some _ _).symm.trans H; rw [hy550]; with_reducible exact H2_) | (have H2_ := (Option.bind_some _ _).symm.trans H; with_reducible exact H2_) | with_reducible exact H | (rw [hy550]; exact H) | exact H
           have Ny550 := am hy550
           clear hy550
           have H' := am H
           clear H
           have hnb33 := NB527_525.out
           have hnc33 := NB525_527.out
           have hnb34 := NB527_526.out
           have hnc34 := NB526_527.out
           obtain ⟨_, _, _, _, _, _⟩ := zq3 BK527
           obtain ⟨Ao36, co36, eo36, _⟩ := Kd.Q_slice HO_7.out
           subst eo36
           go_wp2_with (first | ((with_reducible refine gate_callee (f := 13) rfl ?_); refine goesL_ (some 45) rfl rfl Try.func13 (by kernel_rfl) rfl #[.slice Ao36 x7_2.length co36, .int .i64 (wrap64 (a0_0)), .int .i64 x9_2] rfl zg ?_; (with_reducible refine (event_Read.calls k2 _ _ x7_2 (wrap64 (a0_0)) x9_2 t532 t533 t534 t535 t536 t537 t538 t541 t544 t545 _ ?side1 ?side2 A28.out).mono ?_); (case side1 => exact zC ((Kd.Q_reads' HO_7.out).2.2)); (case side2 => exact (Kd.Q_reads' HO_7.out).2.1); rintro e w37 ⟨v539, v542, rfl, ho0, ho1, hb⟩; refine ⟨_, rfl, ?_⟩; replace HO_7 := am (Kd.Q_below y53 hb); replace HO_528002 := am (Kd.S_mono (Kd.S_told (Kd.S_told (Kd.S_old (zS HO_528002.out) hb) (Kd.R_base ho0)) (Kd.R_base ho1)) (fun _ h_ => h_.1)); have HO540 := am (Kd.R_lower ho0 (below_size (zb HB))); have HO543 := am (Kd.R_lower ho1 (below_size (zb HB))); replace BK525 := zk BK525 hb; replace BK526 := zk BK526 hb; replace BK527 := zk BK527 hb; replace HB := am (below_step (zb HB) hb); clear hb ho0 ho1) | ((with_reducible refine gate_dst (N := 10) rfl ?_); (try (refine gate_guard (by rfl) ?_; dsimp only)); refine zB 10 #[.int .i64 0, .int .i64 0, .int .i64 0, .int .i64 0, .int .i64 0, .int .i64 0, .slice none 0 0, .slice none 0 0] 26 ?_; intro gb546 hg w38 hbox hb; replace HO_7 := am (Kd.Q_below y53 hb); replace HO_528002 := am (Kd.S_below (Kd.S_elderB (zS HO_528002.out) gb546 (Nat.le_of_eq hg.symm)) hb); replace HO540 := am (Kd.R_below (zR HO540.out) hb); replace HO543 := am (Kd.R_below (zR HO543.out) hb); have BK546 := am (hbox); have GE546 := zG hg (zb HB); replace HB := am (below_step (zb HB) hb); have NB525_546 := zn hg BK525; have NB546_525 := zm hg BK525; replace BK525 := zk BK525 hb; have NB526_546 := zn hg BK526; have NB546_526 := zm hg BK526; replace BK526 := zk BK526 hb; have NB527_546 := zn hg BK527; have NB546_527 := zm hg BK527; replace BK527 := zk BK527 hb; clear hb hbox hg; have hnb39 := NB546_525.out; have hnc39 := NB525_546.out; have hnb40 := NB546_526.out; have hnc40 := NB526_546.out; have hnb41 := NB546_527.out; have hnc41 := NB527_546.out; obtain ⟨_, _, _, _, _, _, _, _, _, _, _, _, _, _, _, _⟩ := zq8 BK546; obtain ⟨Ao43, co43, eo43⟩ := Kd.R_slice HO540.out; subst eo43; obtain ⟨Ao44, co44, eo44⟩ := Kd.R_slice HO543.out; subst eo44) | ((with_reducible refine gate_store (t := 26) (p := 10) rfl ?_); refine store_event (t := 26) (p := 10) (v := ?vo_w45) (w1 := ((((((((w38.setCell ⟨gb546, 0, none⟩ (.int .i64 t532)).setCell ⟨gb546, 1, none⟩ (.int .i64 t533)).setCell ⟨gb546, 2, none⟩ (.int .i64 t534)).setCell ⟨gb546, 3, none⟩ (.int .i64 t535)).setCell ⟨gb546, 4, none⟩ (.int .i64 t536)).setCell ⟨gb546, 5, none⟩ (.int .i64 t537)).setCell ⟨gb546, 6, none⟩ (.slice Ao43 t538.length co43)).setCell ⟨gb546, 7, none⟩ (.slice Ao44 t541.length co44))) ?hg ?ho ?hn ?hr ?_; (case ho => rfl); (case hg => rfl); (case hn => rfl); (case hr => exact y28); intro w45 hw; have n0_ : Aside0 (Kd.Q (Kd.int .u8) 5 w45 w.heap.size (fun _ => True) (.slice Ao36 x7_2.length co36) x7_2) := ⟨(by rw [hw]; exact (by (with_reducible repeat (first | apply Kd.Q_alloc | apply Kd.Q_drewN | apply Kd.Q_drew)); exact Kd.Q_mono (Kd.Q_far (p := ⟨gb546, 7, none⟩) (Kd.Q_far (p := ⟨gb546, 6, none⟩) (Kd.Q_far (p := ⟨gb546, 5, none⟩) (Kd.Q_far (p := ⟨gb546, 4, none⟩) (Kd.Q_far (p := ⟨gb546, 3, none⟩) (Kd.Q_far (p := ⟨gb546, 2, none⟩) (Kd.Q_far (p := ⟨gb546, 1, none⟩) (Kd.Q_far (p := ⟨gb546, 0, none⟩) (Kd.Q_types HO_7.out BK546.out (by decide)) (fun _ hk => hk.2) (.int .i64 t532)) (fun _ hk => hk.2) (.int .i64 t533)) (fun _ hk => hk.2) (.int .i64 t534)) (fun _ hk => hk.2) (.int .i64 t535)) (fun _ hk => hk.2) (.int .i64 t536)) (fun _ hk => hk.2) (.int .i64 t537)) (fun _ hk => hk.2) (.slice Ao43 t538.length co43)) (fun _ hk => hk.2) (.slice Ao44 t541.length co44)) (fun _ hk => trivial)))⟩; have n1_ : Aside0 (Kd.S k26 26 w45 w.heap.size (fun k_ => some k_ ≠ (.slice Ao43 t538.length co43 : Value).ownBlock ∧ some k_ ≠ (.slice Ao44 t541.length co44 : Value).ownBlock ∧ k_ ≠ gb546) u528002 x528002_2) := ⟨(by rw [hw]; exact (by (with_reducible repeat (first | apply Kd.S_alloc | apply Kd.S_drewN | apply Kd.S_drew)); exact Kd.S_mono (Kd.S_far (p := ⟨gb546, 7, none⟩) (Kd.S_far (p := ⟨gb546, 6, none⟩) (Kd.S_far (p := ⟨gb546, 5, none⟩) (Kd.S_far (p := ⟨gb546, 4, none⟩) (Kd.S_far (p := ⟨gb546, 3, none⟩) (Kd.S_far (p := ⟨gb546, 2, none⟩) (Kd.S_far (p := ⟨gb546, 1, none⟩) (Kd.S_far (p := ⟨gb546, 0, none⟩) (Kd.S_mono HO_528002.out (fun k_ hk => (⟨hk, hk.2⟩ : _ ∧ k_ ≠ gb546))) (fun _ hk => hk.2) (.int .i64 t532)) (fun _ hk => hk.2) (.int .i64 t533)) (fun _ hk => hk.2) (.int .i64 t534)) (fun _ hk => hk.2) (.int .i64 t535)) (fun _ hk => hk.2) (.int .i64 t536)) (fun _ hk => hk.2) (.int .i64 t537)) (fun _ hk => hk.2) (.slice Ao43 t538.length co43)) (fun _ hk => hk.2) (.slice Ao44 t541.length co44)) (fun _ hk => ⟨hk.1.1.1.2, ⟨hk.1.1.2, hk.1.2⟩⟩)))⟩; have n2_ : Aside0 (Kd.R (Kd.int .i64) 3 w45 w.heap.size (fun k_ => some k_ ≠ (.slice Ao44 t541.length co44 : Value).ownBlock) (.slice Ao43 t538.length co43) t538) := ⟨(by rw [hw]; exact (by (with_reducible repeat (first | apply Kd.R_alloc | apply Kd.R_drewN | apply Kd.R_drew)); exact Kd.R_mono (Kd.R_far (p := ⟨gb546, 7, none⟩) (Kd.R_far (p := ⟨gb546, 6, none⟩) (Kd.R_far (p := ⟨gb546, 5, none⟩) (Kd.R_far (p := ⟨gb546, 4, none⟩) (Kd.R_far (p := ⟨gb546, 3, none⟩) (Kd.R_far (p := ⟨gb546, 2, none⟩) (Kd.R_far (p := ⟨gb546, 1, none⟩) (Kd.R_far (p := ⟨gb546, 0, none⟩) (Kd.R_types HO540.out BK546.out (by decide)) (fun _ hk => hk.2) (.int .i64 t532)) (fun _ hk => hk.2) (.int .i64 t533)) (fun _ hk => hk.2) (.int .i64 t534)) (fun _ hk => hk.2) (.int .i64 t535)) (fun _ hk => hk.2) (.int .i64 t536)) (fun _ hk => hk.2) (.int .i64 t537)) (fun _ hk => hk.2) (.slice Ao43 t538.length co43)) (fun _ hk => hk.2) (.slice Ao44 t541.length co44)) (fun _ hk => hk.1)))⟩; have n3_ : Aside0 (Kd.R (Kd.int .i64) 3 w45 w.heap.size (fun k_ => some k_ ≠ (.slice Ao43 t538.length co43 : Value).ownBlock) (.slice Ao44 t541.length co44) t541) := ⟨(by rw [hw]; exact (by (with_reducible repeat (first | apply Kd.R_alloc | apply Kd.R_drewN | apply Kd.R_drew)); exact Kd.R_mono (Kd.R_far (p := ⟨gb546, 7, none⟩) (Kd.R_far (p := ⟨gb546, 6, none⟩) (Kd.R_far (p := ⟨gb546, 5, none⟩) (Kd.R_far (p := ⟨gb546, 4, none⟩) (Kd.R_far (p := ⟨gb546, 3, none⟩) (Kd.R_far (p := ⟨gb546, 2, none⟩) (Kd.R_far (p := ⟨gb546, 1, none⟩) (Kd.R_far (p := ⟨gb546, 0, none⟩) (Kd.R_types HO543.out BK546.out (by decide)) (fun _ hk => hk.2) (.int .i64 t532)) (fun _ hk => hk.2) (.int .i64 t533)) (fun _ hk => hk.2) (.int .i64 t534)) (fun _ hk => hk.2) (.int .i64 t535)) (fun _ hk => hk.2) (.int .i64 t536)) (fun _ hk => hk.2) (.int .i64 t537)) (fun _ hk => hk.2) (.slice Ao43 t538.length co43)) (fun _ hk => hk.2) (.slice Ao44 t541.length co44)) (fun _ hk => hk.1)))⟩; have n4_ : Aside0 (w45.heap[gb525]? = some (.cells #[.int .u8 a0_0, .int .i64 a0_1, .int .i64 a0_2, .int .i64 a0_3, .int .i64 a0_4, .int .i64 a0_5] 114 (0, 0))) := ⟨(by rw [hw]; exact (by refine zu ?_; refine blk_far ?_ NB525_546.out _; refine zu ?_; refine blk_far ?_ NB525_546.out _; refine zu ?_; refine blk_far ?_ NB525_546.out _; refine zu ?_; refine blk_far ?_ NB525_546.out _; refine zu ?_; refine blk_far ?_ NB525_546.out _; refine zu ?_; refine blk_far ?_ NB525_546.out _; refine zu ?_; refine blk_far ?_ NB525_546.out _; refine zu ?_; refine blk_far ?_ NB525_546.out _; refine zu ?_; exact BK525.out))⟩; have n5_ : Aside0 (w45.heap[gb526]? = some (.cells #[.int .i64 x527000_2, .int .i64 x527001_2, .slice none 0 0] 42 (0, 0))) := ⟨(by rw [hw]; exact (by refine zu ?_; refine blk_far ?_ NB526_546.out _; refine zu ?_; refine blk_far ?_ NB526_546.out _; refine zu ?_; refine blk_far ?_ NB526_546.out _; refine zu ?_; refine blk_far ?_ NB526_546.out _; refine zu ?_; refine blk_far ?_ NB526_546.out _; refine zu ?_; refine blk_far ?_ NB526_546.out _; refine zu ?_; refine blk_far ?_ NB526_546.out _; refine zu ?_; refine blk_far ?_ NB526_546.out _; refine zu ?_; exact BK526.out))⟩; have n6_ : Aside0 (w45.heap[gb527]? = some (.cells #[.int .i64 (wrap64 (a0_0)), .int .i64 a0_1, u528002] 42 (0, 0))) := ⟨(by rw [hw]; exact (by refine zu ?_; refine blk_far ?_ NB527_546.out _; refine zu ?_; refine blk_far ?_ NB527_546.out _; refine zu ?_; refine blk_far ?_ NB527_546.out _; refine zu ?_; refine blk_far ?_ NB527_546.out _; refine zu ?_; refine blk_far ?_ NB527_546.out _; refine zu ?_; refine blk_far ?_ NB527_546.out _; refine zu ?_; refine blk_far ?_ NB527_546.out _; refine zu ?_; refine blk_far ?_ NB527_546.out _; refine zu ?_; exact BK527.out))⟩; have n7_ : Aside0 (w45.heap[gb546]? = some (.cells #[.int .i64 t532, .int .i64 t533, .int .i64 t534, .int .i64 t535, .int .i64 t536, .int .i64 t537, .slice Ao43 t538.length co43, .slice Ao44 t541.length co44] 26 (0, 0))) := ⟨(by rw [hw]; exact (by refine zu ?_; refine blk_put (cs := #[.int .i64 t532, .int .i64 t533, .int .i64 t534, .int .i64 t535, .int .i64 t536, .int .i64 t537, .slice Ao43 t538.length co43, .slice none 0 0]) ?_ 7 _ rfl; refine zu ?_; refine blk_put (cs := #[.int .i64 t532, .int .i64 t533, .int .i64 t534, .int .i64 t535, .int .i64 t536, .int .i64 t537, .slice none 0 0, .slice none 0 0]) ?_ 6 _ rfl; refine zu ?_; refine blk_put (cs := #[.int .i64 t532, .int .i64 t533, .int .i64 t534, .int .i64 t535, .int .i64 t536, .int .i64 0, .slice none 0 0, .slice none 0 0]) ?_ 5 _ rfl; refine zu ?_; refine blk_put (cs := #[.int .i64 t532, .int .i64 t533, .int .i64 t534, .int .i64 t535, .int .i64 0, .int .i64 0, .slice none 0 0, .slice none 0 0]) ?_ 4 _ rfl; refine zu ?_; refine blk_put (cs := #[.int .i64 t532, .int .i64 t533, .int .i64 t534, .int .i64 0, .int .i64 0, .int .i64 0, .slice none 0 0, .slice none 0 0]) ?_ 3 _ rfl; refine zu ?_; refine blk_put (cs := #[.int .i64 t532, .int .i64 t533, .int .i64 0, .int .i64 0, .int .i64 0, .int .i64 0, .slice none 0 0, .slice none 0 0]) ?_ 2 _ rfl; refine zu ?_; refine blk_put (cs := #[.int .i64 t532, .int .i64 0, .int .i64 0, .int .i64 0, .int .i64 0, .int .i64 0, .slice none 0 0, .slice none 0 0]) ?_ 1 _ rfl; refine zu ?_; refine blk_put (cs := #[.int .i64 0, .int .i64 0, .int .i64 0, .int .i64 0, .int .i64 0, .int .i64 0, .slice none 0 0, .slice none 0 0]) ?_ 0 _ rfl; refine zu ?_; exact BK546.out))⟩; have n8_ : Aside0 (Below w.heap.size w w45) := ⟨(by rw [hw]; exact (zb HB))⟩; clear hw; clear HO_7; clear HO_528002; clear HO540; clear HO543; clear BK525; clear BK526; clear BK527; clear BK546; clear HB; have HO_7 := n0_; have HO_528002 := n1_; have HO540 := n2_; have HO543 := n3_; have BK525 := n4_; have BK526 := n5_; have BK527 := n6_; have BK546 := n7_; have HB := n8_; clear n0_ n1_ n2_ n3_ n4_ n5_ n6_ n7_ n8_; obtain ⟨_, _, _, _, _, _⟩ := zq3 BK527; obtain ⟨_, _, _, _, _, _, _, _, _, _, _, _, _, _, _, _⟩ := zq8 BK546) | ((with_reducible refine gate_builtin (b := .append) (xs := #[.tmp 53, .tmp 55]) rfl ?_); (try (refine gate_guard (by rfl) ?_; dsimp only)); at_builtin; refine Kd.S_append k26 (w0 := w) w.heap.size rfl (.tmp 53) (.tmp 55) 40 26 (.agg #[(.int .i64 0), (.int .i64 0), (.int .i64 0), (.int .i64 0), (.int .i64 0), (.int .i64 0), (.slice none 0 0), (.slice none 0 0)]) 96 rfl Try.underlying40 info26 rfl (by decide) (by omega) u528002 x528002_2 (⟨t532, (⟨t533, t534, t535, t536, t537, t538, t541⟩ : S24)⟩ : S26) [.int .i64 t532, .int .i64 t533, .int .i64 t534, .int .i64 t535, .int .i64 t536, .int .i64 t537, .slice Ao43 t538.length co43, .slice Ao44 t541.length co44] (fun k_ => k_ ≠ gb546) (fun k_ => some k_ = (.slice Ao43 t538.length co43 : Value).ownBlock ∨ some k_ = (.slice Ao44 t541.length co44 : Value).ownBlock) rfl rfl ?aP (fun k_ hk_ => hk_.elim (fun h_ => ((Kd.R_mono (ok' := fun k_ => ((fun k_ => k_ ≠ gb546)) k_ ∧ some k_ ≠ (u528002 : Value).ownBlock) (Kd.R_types (Kd.R_apart' (HO540.out) (Kd.S_typed HO_528002.out) (by decide)) BK546.out (by decide)) (fun k_ hk => ⟨hk.2, hk.1.2⟩))).1 k_ h_.symm) (fun h_ => ((Kd.R_mono (ok' := fun k_ => ((fun k_ => k_ ≠ gb546)) k_ ∧ some k_ ≠ (u528002 : Value).ownBlock) (Kd.R_types (Kd.R_apart' (HO543.out) (Kd.S_typed HO_528002.out) (by decide)) BK546.out (by decide)) (fun k_ hk => ⟨hk.2, hk.1.2⟩))).1 k_ h_.symm)) ?aF ?aO ?aB ?aS ?aL ?_; (case aP => exact k26_mkM _ _ _ (⟨t532, (⟨t533, t534, t535, t536, t537, t538, t541⟩ : S24)⟩ : S26) (Kd.R_mono (Kd.R_tight rfl (Kd.R_mono (ok' := fun k_ => ((fun k_ => k_ ≠ gb546)) k_ ∧ some k_ ≠ (u528002 : Value).ownBlock) (Kd.R_types (Kd.R_apart' (HO540.out) (Kd.S_typed HO_528002.out) (by decide)) BK546.out (by decide)) (fun k_ hk => ⟨hk.2, hk.1.2⟩))) (fun _ h_ => Or.inl h_)) (Kd.R_mono (Kd.R_tight rfl (Kd.R_mono (ok' := fun k_ => ((fun k_ => k_ ≠ gb546)) k_ ∧ some k_ ≠ (u528002 : Value).ownBlock) (Kd.R_types (Kd.R_apart' (HO543.out) (Kd.S_typed HO_528002.out) (by decide)) BK546.out (by decide)) (fun k_ hk => ⟨hk.2, hk.1.2⟩))) (fun _ h_ => Or.inr (h_)))); (case aB => exact (zb HB)); (case aF => exact (fun k_ hk => Kd.freshB (g := gb546) (o := .cells #[.int .i64 t532, .int .i64 t533, .int .i64 t534, .int .i64 t535, .int .i64 t536, .int .i64 t537, .slice Ao43 t538.length co43, .slice Ao44 t541.length co44] 26 (0, 0)) (zu BK546.out) k_ hk)); (case aO => exact (by (with_reducible repeat (first | apply Kd.S_alloc | apply Kd.S_drewN | apply Kd.S_drew)); exact Kd.S_mono HO_528002.out (fun k_ hk => ⟨hk.2.2, fun e_ => e_.elim (fun h_ => hk.1 h_) (fun h_ => hk.2.1 h_)⟩))); (case aS => exact y44); (case aL => have := LMc30.out; omega); intro v548 w48 ho hb hg hat; rw [← Ny547.out] at ho; have n0_ := am (Kd.Q_over' y53 (Kd.S_typed (zS HO_528002.out)) (by decide) hg); have n1_ := am (blk_grown (g := gb525) (o := .cells #[.int .u8 a0_0, .int .i64 a0_1, .int .i64 a0_2, .int .i64 a0_3, .int .i64 a0_4, .int .i64 a0_5] 114 (0, 0)) (zu BK525.out) hg (Kd.S_ne HO_528002.out BK525.out (by decide))); have n2_ := am (blk_grown (g := gb526) (o := .cells #[.int .i64 x527000_2, .int .i64 x527001_2, .slice none 0 0] 42 (0, 0)) (zu BK526.out) hg (Kd.S_ne HO_528002.out BK526.out (by decide))); have n3_ := am (blk_grown (g := gb527) (o := .cells #[.int .i64 (wrap64 (a0_0)), .int .i64 a0_1, u528002] 42 (0, 0)) (zu BK527.out) hg (Kd.S_ne HO_528002.out BK527.out (by decide))); have n4_ := am (blk_grown (g := gb546) (o := .cells #[.int .i64 t532, .int .i64 t533, .int .i64 t534, .int .i64 t535, .int .i64 t536, .int .i64 t537, .slice Ao43 t538.length co43, .slice Ao44 t541.length co44] 26 (0, 0)) (zu BK546.out) hg (Kd.S_away HO_528002.out (fun _ hk => hk.2.2))); have n5_ := am (hb); have n6_ := am (ho); clear HO_7; clear BK525; clear BK526; clear BK527; clear BK546; clear HB; clear HO_528002; clear HO540; clear HO543; have HO_7 := n0_; have BK525 := n1_; have BK526 := n2_; have BK527 := n3_; have BK546 := n4_; have HB := n5_; have HO549 := n6_; clear n0_ n1_ n2_ n3_ n4_ n5_ n6_; clear ho hb hg hat; obtain ⟨Ao49, co49, eo49⟩ := Kd.S_slice HO549.out; subst eo49; obtain ⟨_, _, _, _, _, _⟩ := zq3 BK527) | ((with_reducible refine gate_store (t := 40) (p := 57) rfl ?_); refine store_event (t := 40) (p := 57) (v := ?vo_w51) (w1 := (w48.setCell ⟨gb527, 2, none⟩ (.slice Ao49 y547.length co49))) ?hg ?ho ?hn ?hr ?_; (case ho => rfl); (case hg => rfl); (case hn => rfl); (case hr => exact y28); intro w51 hw; have n0_ : Aside0 (Kd.Q (Kd.int .u8) 5 w51 w.heap.size (fun _ => True) (.slice Ao36 x7_2.length co36) x7_2) := ⟨(by rw [hw]; exact (by (with_reducible repeat (first | apply Kd.Q_alloc | apply Kd.Q_drewN | apply Kd.Q_drew)); exact Kd.Q_mono (Kd.Q_far (p := ⟨gb527, 2, none⟩) (Kd.Q_types HO_7.out BK527.out (by decide)) (fun _ hk => hk.2) (.slice Ao49 y547.length co49)) (fun _ hk => trivial)))⟩; have n1_ : Aside0 (Kd.S k26 26 w51 w.heap.size (fun k_ => k_ ≠ gb546) (.slice Ao49 y547.length co49) y547) := ⟨(by rw [hw]; exact (by (with_reducible repeat (first | apply Kd.S_alloc | apply Kd.S_drewN | apply Kd.S_drew)); exact Kd.S_mono (Kd.S_far (p := ⟨gb527, 2, none⟩) (Kd.S_types HO549.out BK527.out (by decide)) (fun _ hk => hk.2) (.slice Ao49 y547.length co49)) (fun _ hk => hk.1)))⟩; have n2_ : Aside0 (w51.heap[gb525]? = some (.cells #[.int .u8 a0_0, .int .i64 a0_1, .int .i64 a0_2, .int .i64 a0_3, .int .i64 a0_4, .int .i64 a0_5] 114 (0, 0))) := ⟨(by rw [hw]; exact (by refine zu ?_; refine blk_far ?_ NB525_527.out _; refine zu ?_; exact BK525.out))⟩; have n3_ : Aside0 (w51.heap[gb526]? = some (.cells #[.int .i64 x527000_2, .int .i64 x527001_2, .slice none 0 0] 42 (0, 0))) := ⟨(by rw [hw]; exact (by refine zu ?_; refine blk_far ?_ NB526_527.out _; refine zu ?_; exact BK526.out))⟩; have n4_ : Aside0 (w51.heap[gb527]? = some (.cells #[.int .i64 (wrap64 (a0_0)), .int .i64 a0_1, .slice Ao49 y547.length co49] 42 (0, 0))) := ⟨(by rw [hw]; exact (by refine zu ?_; refine blk_put (cs := #[.int .i64 (wrap64 (a0_0)), .int .i64 a0_1, u528002]) ?_ 2 _ rfl; refine zu ?_; exact BK527.out))⟩; have n5_ : Aside0 (w51.heap[gb546]? = some (.cells #[.int .i64 t532, .int .i64 t533, .int .i64 t534, .int .i64 t535, .int .i64 t536, .int .i64 t537, .slice Ao43 t538.length co43, .slice Ao44 t541.length co44] 26 (0, 0))) := ⟨(by rw [hw]; exact (by refine zu ?_; refine blk_far ?_ NB546_527.out _; refine zu ?_; exact BK546.out))⟩; have n6_ : Aside0 (Below w.heap.size w w51) := ⟨(by rw [hw]; exact (zb HB))⟩; clear hw; clear HO_7; clear HO549; clear BK525; clear BK526; clear BK527; clear BK546; clear HB; have HO_7 := n0_; have HO549 := n1_; have BK525 := n2_; have BK526 := n3_; have BK527 := n4_; have BK546 := n5_; have HB := n6_; clear n0_ n1_ n2_ n3_ n4_ n5_ n6_; have q52 : (t544 : Int) ≤ ((x7_2.length : Int) : Int) := zo; obtain ⟨i052, hi052, _, hsz52, _⟩ := info_parts info5; have hcut52 := cut_from (P := Try.prog) 27 5 .i64 Try.underlying27 hi052 1 hsz52 Ao36 x7_2.length co36 t544 zo q52; have hr52 := Kd.Q_drop (k := (t544 : Int).toNat) HO_7.out (by omega); obtain ⟨A52, hA52⟩ : ∃ A1, A1 = (if co36 = (t544 : Int).toNat then Ao36 else (Ao36 : Option Addr).map (·.add ((t544 : Int).toNat * 1))) := ⟨_, rfl⟩; obtain ⟨c52, hc52⟩ : ∃ c1, c1 = co36 - (t544 : Int).toNat := ⟨_, rfl⟩; have hy52 : y550.length = x7_2.length - (t544 : Int).toNat := (by rw [Ny550.out, List.length_drop]); rw [← Ny550.out] at hr52; rw [← hy52, ← hA52, ← hc52] at hcut52; replace hr52 : Kd.Q (Kd.int .u8) 5 w51 w.heap.size (fun _ => True) (.slice A52 y550.length c52) y550 := (by rw [hA52, hc52, hy52]; exact hr52); have HE52 : Aside0 ((Value.slice A52 y550.length c52).ownBlock = (.slice Ao36 x7_2.length co36 : Value).ownBlock) := ⟨by rw [hA52]; split <;> (cases (Ao36 : Option Addr) <;> first | rfl | simp [Value.ownBlock, add_block])⟩; clear hy52 hi052 hsz52 HO_7 hA52 hc52; have HO552 := am hr52; clear hr52; replace q52 := eq_true q52; obtain ⟨_, _, _, _, _, _, _, _, _, _, _, _, _, _, _, _⟩ := zq8 BK546))
           go_roundg k2
           case measure => have := HJ3.out; have := HK2.out; omega
           case rel => exact ⟨(y550), (t532), (wrap64 (x38_2 + 1)), (x527000_2), (x527001_2), (y547), (.slice Ao49 y547.length co49), zr, zr, H', ⟨by have := HJ3.out; have := HK2.out; omega⟩, ⟨by (with_reducible repeat (first | apply Kd.Q_alloc | apply Kd.Q_drewN | apply Kd.Q_drew)); exact HO552.out⟩, ⟨by (with_reducible repeat (first | apply Kd.S_alloc | apply Kd.S_drewN | apply Kd.S_drew)); exact Kd.S_mono HO549.out (fun _ hk => trivial)⟩, ⟨by refine zu ?_; exact BK525.out⟩, ⟨by refine zu ?_; exact BK526.out⟩, ⟨by refine zu ?_; exact BK527.out⟩, ⟨zb HB⟩⟩
          ·
           rw [if_neg c32] at H
           exact absurd H (by simp)
         ·
          rw [if_neg c31] at H
          exact absurd H (by simp)
        ·
         rw [if_neg c30] at H
         exact absurd H (by simp)
       ·
        rw [if_neg c29] at H
        obtain ⟨c29b0, c29b1⟩ := zs c29
        simp only [Option.some.injEq, Prod.mk.injEq] at H
        obtain ⟨rfl, rfl, rfl, rfl⟩ := H
        have hnb54 := NB527_525.out
        have hnc54 := NB525_527.out
        have hnb55 := NB527_526.out
        have hnc55 := NB526_527.out
        obtain ⟨_, _, _, _, _, _⟩ := zq3 BK527
        obtain ⟨Ao57, co57, eo57, _⟩ := Kd.Q_slice HO_7.out
        subst eo57
        go_wp2_with (first | ((with_reducible refine gate_callee (f := 13) rfl ?_); refine goesL_ (some 45) rfl rfl Try.func13 (by kernel_rfl) rfl #[.slice Ao57 x7_2.length co57, .int .i64 (wrap64 (a0_0)), .int .i64 x9_2] rfl zg ?_; (with_reducible refine (event_Read.calls k2 _ _ x7_2 (wrap64 (a0_0)) x9_2 t532 t533 t534 t535 t536 t537 t538 t541 t544 t545 _ ?side1 ?side2 A28.out).mono ?_); (case side1 => exact zC ((Kd.Q_reads' HO_7.out).2.2)); (case side2 => exact (Kd.Q_reads' HO_7.out).2.1); rintro e w58 ⟨v539, v542, rfl, ho0, ho1, hb⟩; refine ⟨_, rfl, ?_⟩; replace HO_7 := am (Kd.Q_below y53 hb); replace HO_528002 := am (Kd.S_mono (Kd.S_told (Kd.S_told (Kd.S_old (zS HO_528002.out) hb) (Kd.R_base ho0)) (Kd.R_base ho1)) (fun _ h_ => h_.1)); have HO540 := am (Kd.R_lower ho0 (below_size (zb HB))); have HO543 := am (Kd.R_lower ho1 (below_size (zb HB))); replace BK525 := zk BK525 hb; replace BK526 := zk BK526 hb; replace BK527 := zk BK527 hb; replace HB := am (below_step (zb HB) hb); clear hb ho0 ho1) | ((with_reducible refine gate_dst (N := 10) rfl ?_); (try (refine gate_guard (by rfl) ?_; dsimp only)); refine zB 10 #[.int .i64 0, .int .i64 0, .int .i64 0, .int .i64 0, .int .i64 0, .int .i64 0, .slice none 0 0, .slice none 0 0] 26 ?_; intro gb546 hg w59 hbox hb; replace HO_7 := am (Kd.Q_below y53 hb); replace HO_528002 := am (Kd.S_below (Kd.S_elderB (zS HO_528002.out) gb546 (Nat.le_of_eq hg.symm)) hb); replace HO540 := am (Kd.R_below (zR HO540.out) hb); replace HO543 := am (Kd.R_below (zR HO543.out) hb); have BK546 := am (hbox); have GE546 := zG hg (zb HB); replace HB := am (below_step (zb HB) hb); have NB525_546 := zn hg BK525; have NB546_525 := zm hg BK525; replace BK525 := zk BK525 hb; have NB526_546 := zn hg BK526; have NB546_526 := zm hg BK526; replace BK526 := zk BK526 hb; have NB527_546 := zn hg BK527; have NB546_527 := zm hg BK527; replace BK527 := zk BK527 hb; clear hb hbox hg; have hnb60 := NB546_525.out; have hnc60 := NB525_546.out; have hnb61 := NB546_526.out; have hnc61 := NB526_546.out; have hnb62 := NB546_527.out; have hnc62 := NB527_546.out; obtain ⟨_, _, _, _, _, _, _, _, _, _, _, _, _, _, _, _⟩ := zq8 BK546; obtain ⟨Ao64, co64, eo64⟩ := Kd.R_slice HO540.out; subst eo64; obtain ⟨Ao65, co65, eo65⟩ := Kd.R_slice HO543.out; subst eo65; have hnb66 := NB526_525.out; have hnc66 := NB525_526.out; obtain ⟨_, _, _, _, _, _⟩ := zq3 BK526))
        refine bodyPost_ret (results_ct rfl _ _ gb526 42 #[.int .i64 0, .int .i64 0, .slice none 0 0] (0, 0) _ rfl (by refine zu ?_; refine blk_put (cs := #[.int .i64 0, .int .i64 0, .slice none 0 0]) ?_ 2 _ rfl; refine zu ?_; refine blk_put (cs := #[.int .i64 0, .int .i64 x527001_2, .slice none 0 0]) ?_ 1 _ rfl; refine zu ?_; refine blk_put (cs := #[.int .i64 x527000_2, .int .i64 x527001_2, .slice none 0 0]) ?_ 0 _ rfl; refine zu ?_; refine blk_far ?_ NB526_546.out _; refine zu ?_; refine blk_far ?_ NB526_546.out _; refine zu ?_; refine blk_far ?_ NB526_546.out _; refine zu ?_; refine blk_far ?_ NB526_546.out _; refine zu ?_; refine blk_far ?_ NB526_546.out _; refine zu ?_; refine blk_far ?_ NB526_546.out _; refine zu ?_; refine blk_far ?_ NB526_546.out _; refine zu ?_; refine blk_far ?_ NB526_546.out _; refine zu ?_; exact BK526.out) Try.underlying42 rfl (by kernel_rfl)) rfl ?_
        exact ⟨_, ze, by first | exact Kd.S_nil _ _ _ _ _ | exact Kd.N_nil _ _ _ _ _ | exact Kd.V_nil _ _ _ _ _ | exact Kd.Q_nil _ _ _ _ _ | exact Kd.R_nil _ _ _ _ _, zb HB⟩
      ·
       rw [if_neg c27] at H
       have c27b0 := decide_eq_false c27
       clear c27
       simp only [Option.some.injEq, Prod.mk.injEq] at H
       obtain ⟨rfl, rfl, rfl, rfl⟩ := H
       have hnb68 := NB527_525.out
       have hnc68 := NB525_527.out
       have hnb69 := NB527_526.out
       have hnc69 := NB526_527.out
       obtain ⟨_, _, _, _, _, _⟩ := zq3 BK527
       obtain ⟨Ao71, co71, eo71, _⟩ := Kd.Q_slice HO_7.out
       subst eo71
       have hnb72 := NB526_525.out
       have hnc72 := NB525_526.out
       obtain ⟨_, _, _, _, _, _⟩ := zq3 BK526
       obtain ⟨Ao74, co74, eo74⟩ := Kd.S_slice HO_528002.out
       subst eo74
       go_wp2
       refine bodyPost_ret (results_ct rfl _ _ gb526 42 #[.int .i64 (wrap64 (a0_0)), .int .i64 a0_1, .slice Ao74 x528002_2.length co74] (0, 0) _ rfl (by refine zu ?_; refine blk_put (cs := #[.int .i64 (wrap64 (a0_0)), .int .i64 a0_1, .slice none 0 0]) ?_ 2 _ rfl; refine zu ?_; refine blk_put (cs := #[.int .i64 (wrap64 (a0_0)), .int .i64 x527001_2, .slice none 0 0]) ?_ 1 _ rfl; refine zu ?_; refine blk_put (cs := #[.int .i64 x527000_2, .int .i64 x527001_2, .slice none 0 0]) ?_ 0 _ rfl; refine zu ?_; exact BK526.out) Try.underlying42 rfl (by kernel_rfl)) rfl ?_
       exact ⟨_, ze, by (with_reducible repeat (first | apply Kd.S_alloc | apply Kd.S_drewN | apply Kd.S_drew)); exact Kd.S_mono (Kd.S_far (p := ⟨gb526, 2, none⟩) (Kd.S_far (p := ⟨gb526, 1, none⟩) (Kd.S_far (p := ⟨gb526, 0, none⟩) (Kd.S_types HO_528002.out BK526.out (by decide)) (fun _ hk => hk.2) (.int .i64 (wrap64 (a0_0)))) (fun _ hk => hk.2) (.int .i64 a0_1)) (fun _ hk => hk.2) (.slice Ao74 x528002_2.length co74)) (fun _ hk => trivial), zb HB⟩
def slices_Equal_byte_byte.l0 : Nat → List Int → List Int → Int → Int → Option (Bool)
 | 0, _, _, _, _ => none
 | k + 1, x0, x1, x12, x13 => if x13 < x12 then (if 0 ≤ x13 then (if x13 < (x0.length : Int) then (if x13 < (x1.length : Int) then (if (rd x0 x13) = (rd x1 x13) then (slices_Equal_byte_byte.l0 k x0 x1 x12 (wrap64 (x13 + 1))) else (some false)) else (none)) else (none)) else (none)) else (some true)
def slices_Equal_byte_byte.f (k : Nat) (l0 : List Int) (l1 : List Int) : Option (Bool) := if (l0.length : Int) = (l1.length : Int) then (slices_Equal_byte_byte.l0 k l0 l1 (l0.length : Int) 0) else (some false)
theorem slices_Equal_byte_byte.mono_l : ∀ k, (∀ y0 y1 y2 y3, LeO (slices_Equal_byte_byte.l0 k y0 y1 y2 y3) (slices_Equal_byte_byte.l0 (k + 1) y0 y1 y2 y3))
 | 0 => fun _ _ _ _ r h => by simp [slices_Equal_byte_byte.l0] at h
 | k + 1 => by
  have ih0 := slices_Equal_byte_byte.mono_l k
  ·
   intro y0 y1 y2 y3
   unfold slices_Equal_byte_byte.l0
   exact zM
theorem slices_Equal_byte_byte.mono : ∀ a0 a1 k, LeO (slices_Equal_byte_byte.f k a0 a1) (slices_Equal_byte_byte.f (k + 1) a0 a1) := by
 intro a0 a1 k
 have ih0 := slices_Equal_byte_byte.mono_l k
 unfold slices_Equal_byte_byte.f
 exact zM
set_option maxHeartbeats 8000000 in
set_option maxRecDepth 100000 in
theorem slices_Equal_byte_byte.calls (k : Nat) (A0 : Option Addr) (c0 : Nat) (l0 : List Int) (A1 : Option Addr) (c1 : Nat) (l1 : List Int) (r : Bool) (w : World) (hr0 : Kd.C (Kd.int .u8) w A0 l0.length l0) (hc0 : l0.length ≤ c0) (hr1 : Kd.C (Kd.int .u8) w A1 l1.length l1) (hc1 : l1.length ≤ c1) (h : slices_Equal_byte_byte.f k l0 l1 = some r) :
  Calls Try.prog 65 #[.slice A0 l0.length c0, .slice A1 l1.length c1] w fun e w' => e = .returned (.bool r) ∧ Drawn0 w w' := by
 have HR0 := am hr0
 have HC0 := am hc0
 clear hr0 hc0
 have HR1 := am hr1
 have HC1 := am hc1
 clear hr1 hc1
 have H : (if (l0.length : Int) = (l1.length : Int) then (slices_Equal_byte_byte.l0 k l0 l1 (l0.length : Int) 0) else (some false)) = some r := h
 clear h
 by_cases c3 : (l0.length : Int) = (l1.length : Int)
 ·
  rw [if_pos c3] at H
  obtain ⟨c3b0, c3b1⟩ := zt c3
  have c3b2 : (l0.length == l1.length) = true := by first | simpa using c3 | (simp at c3 ⊢; omega)
  clear c3
  have H' := am H
  clear H
  go_enter Try.func65, Try.ntmps65
  go_wp2
  repeat (go_quiet (fail); try go_wp2)
  go_loopg [13] k (fun kq v13 w' => ∃ (x13_1 : Int), v13 = .int .i64 x13_1 ∧ Aside0 (slices_Equal_byte_byte.l0 kq l0 l1 (l0.length : Int) x13_1 = some r) ∧ Aside0 (kq ≤ k) ∧ Drawn0 w w')
  case atStart => exact ⟨(0), zr, H', ⟨Nat.le_refl _⟩, by repeat (first | exact Drawn0.refl _ | apply Drawn0.step)⟩
  case round =>
   clear H'
   obtain ⟨x13_1, rfl, HA, HK1, ⟨m1, rfl⟩⟩ := hrel
   cases gk with
   | zero => exact absurd HA.out (by simp [slices_Equal_byte_byte.l0])
   | succ k1 =>
    have H := HA.out
    clear HA
    simp only [slices_Equal_byte_byte.l0] at H
    by_cases c4 : x13_1 < (l0.length : Int)
    ·
     rw [if_pos c4] at H
     have c4b0 := decide_eq_true c4
     clear c4
     by_cases c5 : 0 ≤ x13_1
     ·
      rw [if_pos c5] at H
      have c5b0 := decide_eq_true c5
      clear c5
      by_cases c6 : x13_1 < (l0.length : Int)
      ·
       rw [if_pos c6] at H
       have c6b0 := decide_eq_true c6
       clear c6
       by_cases c7 : x13_1 < (l1.length : Int)
       ·
        rw [if_pos c7] at H
        have c7b0 := decide_eq_true c7
        clear c7
        by_cases c8 : (rd l0 x13_1) = (rd l1 x13_1)
        ·
         rw [if_pos c8] at H
         obtain ⟨c8b0, c8b1⟩ := zt c8
         clear c8
         have H' := am H
         clear H
         have p553 : 0 ≤ (x13_1 : Int) := zo
         have q553 : x13_1 < (l0.length : Int) := zo
         obtain ⟨ad553, e553, hx553_0⟩ := Kd.at_int HR0.out x13_1 p553 q553
         cases e553
         replace p553 := eq_true p553
         replace q553 := eq_true q553
         have p554 : 0 ≤ (x13_1 : Int) := zo
         have q554 : x13_1 < (l1.length : Int) := zo
         obtain ⟨ad554, e554, hx554_0⟩ := Kd.at_int HR1.out x13_1 p554 q554
         cases e554
         replace p554 := eq_true p554
         replace q554 := eq_true q554
         go_wp2
         repeat (go_quiet (fail); try go_wp2)
         go_roundg k1
         case measure => have := HK1.out; omega
         case rel => exact ⟨(wrap64 (x13_1 + 1)), zr, H', ⟨by have := HK1.out; omega⟩, by repeat (first | exact Drawn0.refl _ | apply Drawn0.step)⟩
        ·
         rw [if_neg c8] at H
         obtain ⟨c8b0, c8b1⟩ := zs c8
         obtain rfl := Option.some.inj H
         have p553 : 0 ≤ (x13_1 : Int) := zo
         have q553 : x13_1 < (l0.length : Int) := zo
         obtain ⟨ad553, e553, hx553_0⟩ := Kd.at_int HR0.out x13_1 p553 q553
         cases e553
         replace p553 := eq_true p553
         replace q553 := eq_true q553
         have p554 : 0 ≤ (x13_1 : Int) := zo
         have q554 : x13_1 < (l1.length : Int) := zo
         obtain ⟨ad554, e554, hx554_0⟩ := Kd.at_int HR1.out x13_1 p554 q554
         cases e554
         replace p554 := eq_true p554
         replace q554 := eq_true q554
         go_wp2
         repeat (go_quiet (fail); try go_wp2)
         go_ret
         exact y13
       ·
        rw [if_neg c7] at H
        exact absurd H (by simp)
      ·
       rw [if_neg c6] at H
       exact absurd H (by simp)
     ·
      rw [if_neg c5] at H
      exact absurd H (by simp)
    ·
     rw [if_neg c4] at H
     have c4b0 := decide_eq_false c4
     clear c4
     obtain rfl := Option.some.inj H
     go_wp2
     repeat (go_quiet (fail); try go_wp2)
     go_ret
     exact y13
 ·
  rw [if_neg c3] at H
  obtain ⟨c3b0, c3b1⟩ := zs c3
  have c3b2 : (l0.length == l1.length) = false := by first | simpa using c3 | (simp at c3 ⊢; omega)
  obtain rfl := Option.some.inj H
  go_enter Try.func65, Try.ntmps65
  go_wp2
  repeat (go_quiet (fail); try go_wp2)
  go_ret
  exact y13
end Go.Proofs.Ytnmmkgagbfniiaa.A
end
