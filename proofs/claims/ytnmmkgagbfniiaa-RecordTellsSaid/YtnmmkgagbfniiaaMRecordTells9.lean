/- MRecordTells9: texts of this session and of the kit's printer on the road to the statement RecordTells, laid into one and rid of what it doesn't need. No condition beyond what each fact names. -/
import Derived.Test.YtnmmkgagbfniiaaMRecordTells4
import Derived.Test.YtnmmkgagbfniiaaMRecordTells3
import Derived.Test.YtnmmkgagbfniiaaMRecordTells7
import Derived.Test.YtnmmkgagbfniiaaMRecordTells8
import Derived.Test.YtnmmkgagbfniiaaMRecordTells6
section
namespace Go.Proofs.Ytnmmkgagbfniiaa.A
open Go.RowKit Go.Proofs.YtnmmkgagbfniiaaW.PrintWords Go.Proofs.YtnmmkgagbfniiaaW.PrintLast Go.Proofs.YtnmmkgagbfniiaaW.PrintMore
attribute [local go_sem] max2_int min2_int max_two min_two max_three min_three max_four min_four
set_option linter.unusedVariables false
set_option linter.unusedSimpArgs false
mutual
def block_Encode.l0 : Nat → List Int → Int → List (S26) → Int → Int → Int → Int → List (S26) → Option (List Int × Int)
 | 0, _, _, _, _, _, _, _, _ => none
 | k + 1, x5, x6, x20, x21, x22, x311000, x311001, x311002 => if x22 < x21 then (if 0 ≤ x22 then (if x22 < (x20.length : Int) then ((event_Append.f k ([] : List Int) ((rd_T26 x20 x22).f0) ((rd_T26 x20 x22).f1.f0) ((rd_T26 x20 x22).f1.f1) ((rd_T26 x20 x22).f1.f2) ((rd_T26 x20 x22).f1.f3) ((rd_T26 x20 x22).f1.f4) ((rd_T26 x20 x22).f1.f5) ((rd_T26 x20 x22).f1.f6) x6).bind fun t314 => (if x5.length + t314.length < 140737488355328 then (block_Encode.l0 k (x5 ++ t314) ((rd_T26 x20 x22).f0) x20 x21 (wrap64 (x22 + 1)) x311000 x311001 x311002) else (none))) else (none)) else (none)) else ((pack_Pack.f k x5).bind fun t320 => ((some (([x311001, (x311002.length : Int), (x5.length : Int), (t320.length : Int)] : List Int) : List Int)).bind fun y326 => (block_Encode.l1 k t320 (([84, (x311000) % 256] : List Int)) y326 (y326.length : Int) 0)))
def block_Encode.l1 : Nat → List Int → List Int → List Int → Int → Int → Option (List Int × Int)
 | 0, _, _, _, _, _ => none
 | k + 1, x9, x10, x49, x50, x51 => if x51 < x50 then (if 0 ≤ x51 then (if x51 < (x49.length : Int) then ((event_PutInt.f k x10 (rd x49 x51)).bind fun t330 => (block_Encode.l1 k x9 t330 x49 x50 (wrap64 (x51 + 1)))) else (none)) else (none)) else (if x10.length + x9.length < 140737488355328 then ((some (x10 ++ x9 : List Int)).bind fun y333 => ((block_seal.f k y333).bind fun bt336 => (if y333.length + [bt336.1, bt336.2.1, bt336.2.2.1, bt336.2.2.2].length < 140737488355328 then (some ((y333 ++ [bt336.1, bt336.2.1, bt336.2.2.1, bt336.2.2.2]), 0)) else (none)))) else (none))
end
def block_Encode.f (k : Nat) (a0_0 : Int) (a0_1 : Int) (l0_2 : List (S26)) : Option (List Int × Int) := (block_check.f k a0_0 a0_1 l0_2).bind fun t311 => (if t311 = 0 then (block_Encode.l0 k ([] : List Int) (-1) l0_2 (l0_2.length : Int) 0 a0_0 a0_1 l0_2) else (some (([] : List Int), t311)))
theorem block_Encode.mono_l : ∀ k, (∀ y0 y1 y2 y3 y4 y5 y6 y7, LeO (block_Encode.l0 k y0 y1 y2 y3 y4 y5 y6 y7) (block_Encode.l0 (k + 1) y0 y1 y2 y3 y4 y5 y6 y7)) ∧ (∀ y0 y1 y2 y3 y4, LeO (block_Encode.l1 k y0 y1 y2 y3 y4) (block_Encode.l1 (k + 1) y0 y1 y2 y3 y4))
 | 0 => ⟨fun _ _ _ _ _ _ _ _ r h => by simp [block_Encode.l0] at h, fun _ _ _ _ _ r h => by simp [block_Encode.l1] at h⟩
 | k + 1 => by
  obtain ⟨ih0, ih1⟩ := block_Encode.mono_l k
  refine ⟨?_, ?_⟩
  ·
   intro y0 y1 y2 y3 y4 y5 y6 y7
   unfold block_Encode.l0
   exact zM
  ·
   intro y0 y1 y2 y3 y4
   unfold block_Encode.l1
   exact zM
theorem block_Encode.mono : ∀ a0 a1 a2 k, LeO (block_Encode.f k a0 a1 a2) (block_Encode.f (k + 1) a0 a1 a2) := by
 intro a0 a1 a2 k
 obtain ⟨ih0, ih1⟩ := block_Encode.mono_l k
 unfold block_Encode.f
 exact zM
set_option maxHeartbeats 8000000 in
set_option maxRecDepth 100000 in
theorem block_Encode.calls (k : Nat) (a0_0 : Int) (a0_1 : Int) (A0_2 : Option Addr) (c0_2 : Nat) (l0_2 : List (S26)) (r1 : List Int) (r2 : Int) (w : World) (hr0_2 : Kd.C k26 w A0_2 l0_2.length l0_2) (hc0_2 : l0_2.length ≤ c0_2) (h : block_Encode.f k a0_0 a0_1 l0_2 = some (r1, r2)) :
  Calls Try.prog 21 #[.agg #[.int .i64 a0_0, .int .i64 a0_1, .slice A0_2 l0_2.length c0_2]] w fun e w' => ∃ v0_ : Value, e = .returned (.tuple #[v0_, .int .i64 r2]) ∧ Kd.R (Kd.int .u8) 5 w' w.heap.size (fun _ => True) v0_ r1 ∧ Below w.heap.size w w' := by
 have hu42 := Try.underlying42
 have hu26 := Try.underlying26
 have hu97 := Try.underlying97
 have HR0_2 := am hr0_2
 have HC0_2 := am hc0_2
 clear hr0_2 hc0_2
 have HB := am (Below.refl w.heap.size w)
 have H : ((block_check.f k a0_0 a0_1 l0_2).bind fun t311 => (if t311 = 0 then (block_Encode.l0 k ([] : List Int) (-1) l0_2 (l0_2.length : Int) 0 a0_0 a0_1 l0_2) else (some (([] : List Int), t311)))) = some (r1, r2) := h
 clear h
 replace H := Option.bind_eq_some_iff.mp H
 obtain ⟨t311, A20, H⟩ := H
 (try dsimp only at H)
 have A2 := am A20
 clear A20
 by_cases c3 : t311 = 0
 ·
  rw [if_pos c3] at H
  obtain ⟨c3b0, c3b1⟩ := zt c3
  clear c3
  have H' := am H
  clear H
  go_enter Try.func21, Try.ntmps21
  go_wp2_with (first | ((with_reducible refine gate_dst (N := 1) rfl ?_); refine zB 1 #[.int .i64 a0_0, .int .i64 a0_1, .slice A0_2 l0_2.length c0_2] 42 ?_; intro gb310 hg w4 hbox hb; have BK310 := am (hbox); have GE310 := zG hg (zb HB); replace HB := am (below_step (zb HB) hb); clear hb hbox hg; obtain ⟨hcz5_0, hcz5_1, hcz5_2⟩ := zc3 BK310; obtain ⟨hfz5_0, hfz5_1, hfz5_2⟩ := zf3 BK310) | ((with_reducible refine gate_callee (f := 50) rfl ?_); refine goesL_ (some 15) rfl rfl Try.func50 (by kernel_rfl) rfl #[.agg #[.int .i64 a0_0, .int .i64 a0_1, .slice A0_2 l0_2.length c0_2]] rfl zg ?_; (with_reducible refine (block_check.calls k a0_0 a0_1 _ _ l0_2 t311 _ ?side1 ?side2 A2.out).mono ?_); (case side1 => exact y37); (case side2 => exact HC0_2.out); rintro e w6 ⟨rfl, hb⟩; refine ⟨_, rfl, ?_⟩; replace BK310 := zk BK310 hb; replace HB := am (below_step (zb HB) hb); clear hb; obtain ⟨hcz7_0, hcz7_1, hcz7_2⟩ := zc3 BK310; obtain ⟨hfz7_0, hfz7_1, hfz7_2⟩ := zf3 BK310))
  go_loopg [5, 6, 22] k (fun kq v5 v6 v22 w' => ∃ (x5_1 : List Int) (x6_1 : Int) (x22_1 : Int), v6 = .int .i64 x6_1 ∧ v22 = .int .i64 x22_1 ∧ Aside0 (block_Encode.l0 kq x5_1 x6_1 l0_2 (l0_2.length : Int) x22_1 a0_0 a0_1 l0_2 = some (r1, r2)) ∧ Aside0 (kq ≤ k) ∧ Aside0 (Kd.R (Kd.int .u8) 5 w' w.heap.size (fun _ => True) v5 x5_1) ∧ Aside0 (w'.heap[gb310]? = some (.cells #[.int .i64 a0_0, .int .i64 a0_1, (.slice A0_2 l0_2.length c0_2)] 42 (0, 0))) ∧ Aside0 (Below w.heap.size w w'))
  case atStart => exact ⟨(([] : List Int)), ((-1)), (0), zr, zr, H', ⟨Nat.le_refl _⟩, ⟨by first | exact Kd.R_nil _ _ _ _ _ | exact Kd.N_nil _ _ _ _ _ | exact Kd.V_nil _ _ _ _ _ | exact Kd.Q_nil _ _ _ _ _ | exact Kd.S_nil _ _ _ _ _⟩, ⟨by refine zu ?_; exact BK310.out⟩, ⟨zb HB⟩⟩
  case round =>
   clear H'
   obtain ⟨x5_1, x6_1, x22_1, rfl, rfl, HA, HK1, HO_5, BK310, HB⟩ := hrel
   cases gk with
   | zero => exact absurd HA.out (by simp [block_Encode.l0])
   | succ k1 =>
    have H := HA.out
    clear HA
    simp only [block_Encode.l0] at H
    by_cases c8 : x22_1 < (l0_2.length : Int)
    ·
     rw [if_pos c8] at H
     have c8b0 := decide_eq_true c8
     clear c8
     by_cases c9 : 0 ≤ x22_1
     ·
      rw [if_pos c9] at H
      have c9b0 := decide_eq_true c9
      clear c9
      by_cases c10 : x22_1 < (l0_2.length : Int)
      ·
       rw [if_pos c10] at H
       have c10b0 := decide_eq_true c10
       clear c10
       replace H := Option.bind_eq_some_iff.mp H
       obtain ⟨t314, A110, H⟩ := H
       (try dsimp only at H)
       have A11 := am A110
       clear A110
       by_cases c12 : x5_1.length + t314.length < 140737488355328
       ·
        rw [if_pos c12] at H
        have LMc12 := am c12
        clear c12
        obtain ⟨y317, hy317⟩ : ∃ y_ : List Int, y_ = (x5_1 ++ t314) := ⟨_, rfl⟩
        replace H : (block_Encode.l0 k1 y317 ((rd_T26 l0_2 x22_1).f0) l0_2 (l0_2.length : Int) (wrap64 (x22_1 + 1)) a0_0 a0_1 l0_2) = some (r1, r2) := by first | (rw [hy317]; with_reducible exact H) | (have H2_ := (Option.bind_some _ _).symm.trans H; rw [hy317]; with_reducible exact H2_) | (have H2_ := (Option.bind_some _ _).symm.trans H; with_reducible exact H2_) | with_reducible exact H | (rw [hy317]; exact H) | exact H
        have Ny317 := am hy317
        clear hy317
        have H' := am H
        clear H
        have p312 : 0 ≤ (x22_1 : Int) := zo
        have q312 : x22_1 < (l0_2.length : Int) := zo
        obtain ⟨ad312, A312_6, c312_6, A312_7, c312_7, e312, hx312_0, hx312_1, hx312_2, hx312_3, hx312_4, hx312_5, hx312_6, hx312_7, hl312_6, hi312_6, hl312_7, hi312_7⟩ := at_T26 HR0_2.out x22_1 p312 q312
        cases e312
        replace hx312_0 := zx HB hx312_0
        replace hx312_1 := zx HB hx312_1
        replace hx312_2 := zx HB hx312_2
        replace hx312_3 := zx HB hx312_3
        replace hx312_4 := zx HB hx312_4
        replace hx312_5 := zx HB hx312_5
        replace hx312_6 := zx HB hx312_6
        replace hx312_7 := zx HB hx312_7
        have HR312_6 := am hi312_6
        have HC312_6 := am hl312_6
        clear hi312_6 hl312_6
        have HR312_7 := am hi312_7
        have HC312_7 := am hl312_7
        clear hi312_7 hl312_7
        replace p312 := eq_true p312
        replace q312 := eq_true q312
        go_wp2_with (first | ((with_reducible refine gate_dst (N := 8) rfl ?_); refine zB 8 #[.int .i64 0, .int .i64 0, .int .i64 0, .int .i64 0, .int .i64 0, .int .i64 0, .slice none 0 0, .slice none 0 0] 26 ?_; intro gb313 hg w13 hbox hb; replace HO_5 := am (Kd.R_below (zR HO_5.out) hb); have BK313 := am (hbox); have GE313 := zG hg (zb HB); replace HB := am (below_step (zb HB) hb); have NB310_313 := zn hg BK310; have NB313_310 := zm hg BK310; replace BK310 := zk BK310 hb; clear hb hbox hg; have hnb14 := NB313_310.out; have hnc14 := NB310_313.out; obtain ⟨hcz15_0, hcz15_1, hcz15_2, hcz15_3, hcz15_4, hcz15_5, hcz15_6, hcz15_7⟩ := zc8 BK313; obtain ⟨hfz15_0, hfz15_1, hfz15_2, hfz15_3, hfz15_4, hfz15_5, hfz15_6, hfz15_7⟩ := zf8 BK313) | ((with_reducible refine gate_callee (f := 12) rfl ?_); refine goesL_ (some 29) rfl rfl Try.func12 (by kernel_rfl) rfl #[.slice none 0 0, .agg #[.int .i64 ((rd_T26 l0_2 x22_1).f0), .int .i64 ((rd_T26 l0_2 x22_1).f1.f0), .int .i64 ((rd_T26 l0_2 x22_1).f1.f1), .int .i64 ((rd_T26 l0_2 x22_1).f1.f2), .int .i64 ((rd_T26 l0_2 x22_1).f1.f3), .int .i64 ((rd_T26 l0_2 x22_1).f1.f4), .slice A312_6 ((rd_T26 l0_2 x22_1).f1.f5).length c312_6, .slice A312_7 ((rd_T26 l0_2 x22_1).f1.f6).length c312_7], .int .i64 x6_1] rfl zg ?_; (refine (event_Append.calls k1 _ _ ([] : List Int) ((rd_T26 l0_2 x22_1).f0) ((rd_T26 l0_2 x22_1).f1.f0) ((rd_T26 l0_2 x22_1).f1.f1) ((rd_T26 l0_2 x22_1).f1.f2) ((rd_T26 l0_2 x22_1).f1.f3) ((rd_T26 l0_2 x22_1).f1.f4) _ _ ((rd_T26 l0_2 x22_1).f1.f5) _ _ ((rd_T26 l0_2 x22_1).f1.f6) x6_1 t314 _ ?side1 ?side2 ?side3 ?side4 ?side5 ?side6 A11.out).mono ?_); (case side1 => exact Kd.C_nil _ _); (case side2 => exact Nat.le_refl _); (case side3 => exact Kd.C_below HR312_6.out (zb HB)); (case side4 => exact HC312_6.out); (case side5 => exact Kd.C_below HR312_7.out (zb HB)); (case side6 => exact HC312_7.out); rintro e w16 ⟨v315, rfl, ho0, hb⟩; refine ⟨_, rfl, ?_⟩; have HO316 := am (Kd.R_lower (Kd.R_new' ho0 (Kd.R_lt y0)) (below_size (zb HB))); replace HO_5 := am (Kd.R_elder' y0 (Kd.R_base ho0) hb); replace BK310 := am (blk_below (g := gb310) (o := .cells #[.int .i64 a0_0, .int .i64 a0_1, .slice (some ad312) l0_2.length c0_2] 42 (0, 0)) (by refine zu ?_; refine blk_far ?_ NB310_313.out _; refine zu ?_; refine blk_far ?_ NB310_313.out _; refine zu ?_; refine blk_far ?_ NB310_313.out _; refine zu ?_; refine blk_far ?_ NB310_313.out _; refine zu ?_; refine blk_far ?_ NB310_313.out _; refine zu ?_; refine blk_far ?_ NB310_313.out _; refine zu ?_; refine blk_far ?_ NB310_313.out _; refine zu ?_; refine blk_far ?_ NB310_313.out _; refine zu ?_; exact BK310.out) hb); replace BK313 := am (blk_below (g := gb313) (o := .cells #[.int .i64 ((rd_T26 l0_2 x22_1).f0), .int .i64 ((rd_T26 l0_2 x22_1).f1.f0), .int .i64 ((rd_T26 l0_2 x22_1).f1.f1), .int .i64 ((rd_T26 l0_2 x22_1).f1.f2), .int .i64 ((rd_T26 l0_2 x22_1).f1.f3), .int .i64 ((rd_T26 l0_2 x22_1).f1.f4), .slice A312_6 ((rd_T26 l0_2 x22_1).f1.f5).length c312_6, .slice A312_7 ((rd_T26 l0_2 x22_1).f1.f6).length c312_7] 26 (0, 0)) (by refine zu ?_; refine blk_put (cs := #[.int .i64 ((rd_T26 l0_2 x22_1).f0), .int .i64 ((rd_T26 l0_2 x22_1).f1.f0), .int .i64 ((rd_T26 l0_2 x22_1).f1.f1), .int .i64 ((rd_T26 l0_2 x22_1).f1.f2), .int .i64 ((rd_T26 l0_2 x22_1).f1.f3), .int .i64 ((rd_T26 l0_2 x22_1).f1.f4), .slice A312_6 ((rd_T26 l0_2 x22_1).f1.f5).length c312_6, .slice none 0 0]) ?_ 7 _ rfl; refine zu ?_; refine blk_put (cs := #[.int .i64 ((rd_T26 l0_2 x22_1).f0), .int .i64 ((rd_T26 l0_2 x22_1).f1.f0), .int .i64 ((rd_T26 l0_2 x22_1).f1.f1), .int .i64 ((rd_T26 l0_2 x22_1).f1.f2), .int .i64 ((rd_T26 l0_2 x22_1).f1.f3), .int .i64 ((rd_T26 l0_2 x22_1).f1.f4), .slice none 0 0, .slice none 0 0]) ?_ 6 _ rfl; refine zu ?_; refine blk_put (cs := #[.int .i64 ((rd_T26 l0_2 x22_1).f0), .int .i64 ((rd_T26 l0_2 x22_1).f1.f0), .int .i64 ((rd_T26 l0_2 x22_1).f1.f1), .int .i64 ((rd_T26 l0_2 x22_1).f1.f2), .int .i64 ((rd_T26 l0_2 x22_1).f1.f3), .int .i64 0, .slice none 0 0, .slice none 0 0]) ?_ 5 _ rfl; refine zu ?_; refine blk_put (cs := #[.int .i64 ((rd_T26 l0_2 x22_1).f0), .int .i64 ((rd_T26 l0_2 x22_1).f1.f0), .int .i64 ((rd_T26 l0_2 x22_1).f1.f1), .int .i64 ((rd_T26 l0_2 x22_1).f1.f2), .int .i64 0, .int .i64 0, .slice none 0 0, .slice none 0 0]) ?_ 4 _ rfl; refine zu ?_; refine blk_put (cs := #[.int .i64 ((rd_T26 l0_2 x22_1).f0), .int .i64 ((rd_T26 l0_2 x22_1).f1.f0), .int .i64 ((rd_T26 l0_2 x22_1).f1.f1), .int .i64 0, .int .i64 0, .int .i64 0, .slice none 0 0, .slice none 0 0]) ?_ 3 _ rfl; refine zu ?_; refine blk_put (cs := #[.int .i64 ((rd_T26 l0_2 x22_1).f0), .int .i64 ((rd_T26 l0_2 x22_1).f1.f0), .int .i64 0, .int .i64 0, .int .i64 0, .int .i64 0, .slice none 0 0, .slice none 0 0]) ?_ 2 _ rfl; refine zu ?_; refine blk_put (cs := #[.int .i64 ((rd_T26 l0_2 x22_1).f0), .int .i64 0, .int .i64 0, .int .i64 0, .int .i64 0, .int .i64 0, .slice none 0 0, .slice none 0 0]) ?_ 1 _ rfl; refine zu ?_; refine blk_put (cs := #[.int .i64 0, .int .i64 0, .int .i64 0, .int .i64 0, .int .i64 0, .int .i64 0, .slice none 0 0, .slice none 0 0]) ?_ 0 _ rfl; refine zu ?_; exact BK313.out) hb); replace HB := am (below_step (zb HB) hb); clear hb ho0; obtain ⟨Ao18, co18, eo18⟩ := Kd.R_slice HO316.out; subst eo18) | ((with_reducible refine gate_builtin (b := .append) (xs := #[.tmp 26, .tmp 29]) rfl ?_); at_builtin; refine Kd.R_append_rows (Kd.int .u8) (w0 := w) w.heap.size rfl (.tmp 26) (.tmp 29) 27 5 (.int .u8 0) 1 rfl Try.underlying27 info5 rfl (by decide) (by omega) u5 x5_1 t314 _ _ _ (fun k_ => some k_ ≠ (.slice Ao18 t314.length co18 : Value).ownBlock) (fun _ => False) rfl rfl ?aO ?aR (fun _ _ h => h) (fun _ h => h.elim) ?aF ?aB ?aS ?aL ?_; (case aR => repeat (first | exact (Kd.R_reads' HO316.out).2.2 | (with_reducible refine Kd.C_alloc ?_ _) | (with_reducible refine Kd.C_drewN ?_ _) | (with_reducible refine Kd.C_drew ?_))); (case aB => exact (zb HB)); (case aF => exact (fun k_ hk => Kd.fresh' (Kd.R_lt (zR HO316.out)) k_ hk)); (case aO => exact (by (with_reducible repeat (first | apply Kd.R_alloc | apply Kd.R_drewN | apply Kd.R_drew)); exact Kd.R_mono HO_5.out (fun _ hk => hk.2))); (case aS => exact y24); (case aL => have := LMc12.out; omega); intro v318 w17 ho hb hg hat; rw [← Ny317.out] at ho; have n0_ := am (blk_grown (g := gb310) (o := .cells #[.int .i64 a0_0, .int .i64 a0_1, .slice (some ad312) l0_2.length c0_2] 42 (0, 0)) (zu BK310.out) hg (Kd.R_ne HO_5.out BK310.out (by decide))); have n1_ := am (blk_grown (g := gb313) (o := .cells #[.int .i64 ((rd_T26 l0_2 x22_1).f0), .int .i64 ((rd_T26 l0_2 x22_1).f1.f0), .int .i64 ((rd_T26 l0_2 x22_1).f1.f1), .int .i64 ((rd_T26 l0_2 x22_1).f1.f2), .int .i64 ((rd_T26 l0_2 x22_1).f1.f3), .int .i64 ((rd_T26 l0_2 x22_1).f1.f4), .slice A312_6 ((rd_T26 l0_2 x22_1).f1.f5).length c312_6, .slice A312_7 ((rd_T26 l0_2 x22_1).f1.f6).length c312_7] 26 (0, 0)) (zu BK313.out) hg (Kd.R_ne HO_5.out BK313.out (by decide))); have n2_ := am (Kd.R_after (ok := (fun _ => True)) (zR HO316.out) hg hat); have n3_ := am (hb); have n4_ := am (ho); clear BK310; clear BK313; clear HO316; clear HB; clear HO_5; have BK310 := n0_; have BK313 := n1_; have HO316 := n2_; have HB := n3_; have HO319 := n4_; clear n0_ n1_ n2_ n3_ n4_; clear ho hb hg hat; obtain ⟨hcz19_0, hcz19_1, hcz19_2, hcz19_3, hcz19_4, hcz19_5, hcz19_6, hcz19_7⟩ := zc8 BK313; obtain ⟨hfz19_0, hfz19_1, hfz19_2, hfz19_3, hfz19_4, hfz19_5, hfz19_6, hfz19_7⟩ := zf8 BK313))
        go_roundg k1
        case measure => have := HK1.out; omega
        case rel => exact ⟨(y317), ((rd_T26 l0_2 x22_1).f0), (wrap64 (x22_1 + 1)), zr, zr, H', ⟨by have := HK1.out; omega⟩, ⟨by (with_reducible repeat (first | apply Kd.R_alloc | apply Kd.R_drewN | apply Kd.R_drew)); exact Kd.R_mono HO319.out (fun _ hk => trivial)⟩, ⟨by refine zu ?_; exact BK310.out⟩, ⟨zb HB⟩⟩
       ·
        rw [if_neg c12] at H
        exact absurd H (by simp)
      ·
       rw [if_neg c10] at H
       exact absurd H (by simp)
     ·
      rw [if_neg c9] at H
      exact absurd H (by simp)
    ·
     rw [if_neg c8] at H
     have c8b0 := decide_eq_false c8
     clear c8
     replace H := Option.bind_eq_some_iff.mp H
     obtain ⟨t320, A200, H⟩ := H
     (try dsimp only at H)
     have A20 := am A200
     clear A200
     obtain ⟨y323, hy323⟩ : ∃ y_ : List Int, y_ = (([84, (a0_0) % 256] : List Int)) := ⟨_, rfl⟩
     replace H : ((some (([a0_1, (l0_2.length : Int), (x5_1.length : Int), (t320.length : Int)] : List Int) : List Int)).bind fun y326 => (block_Encode.l1 k1 t320 y323 y326 (y326.length : Int) 0)) = some (r1, r2) := by first | (rw [hy323]; with_reducible exact H) | (have H2_ := (Option.bind_some _ _).symm.trans H; rw [hy323]; with_reducible exact H2_) | (have H2_ := (Option.bind_some _ _).symm.trans H; with_reducible exact H2_) | with_reducible exact H | (rw [hy323]; exact H) | exact H
     have Ny323 := am hy323
     clear hy323
     obtain ⟨y326, hy326⟩ : ∃ y_ : List Int, y_ = (([a0_1, (l0_2.length : Int), (x5_1.length : Int), (t320.length : Int)] : List Int)) := ⟨_, rfl⟩
     replace H : (block_Encode.l1 k1 t320 y323 y326 (y326.length : Int) 0) = some (r1, r2) := by first | (rw [hy326]; with_reducible exact H) | (have H2_ := (Option.bind_some _ _).symm.trans H; rw [hy326]; with_reducible exact H2_) | (have H2_ := (Option.bind_some _ _).symm.trans H; with_reducible exact H2_) | with_reducible exact H | (rw [hy326]; exact H) | exact H
     have Ny326 := am hy326
     clear hy326
     have H' := am H
     clear H
     obtain ⟨Ao21, co21, eo21⟩ := Kd.R_slice HO_5.out
     subst eo21
     go_wp2_with (first | ((with_reducible refine gate_callee (f := 51) rfl ?_); refine goesL_ (some 35) rfl rfl Try.func51 (by kernel_rfl) rfl #[.slice Ao21 x5_1.length co21] rfl zg ?_; (with_reducible refine (pack_Pack.calls k1 _ _ x5_1 t320 _ ?side1 ?side2 A20.out).mono ?_); (case side1 => exact zC ((Kd.R_reads' HO_5.out).2.2)); (case side2 => exact (Kd.R_reads' HO_5.out).2.1); rintro e w22 ⟨v321, rfl, ho0, hb⟩; refine ⟨_, rfl, ?_⟩; have HO322 := am (Kd.R_lower (Kd.R_new' ho0 (Kd.R_lt (zR HO_5.out))) (below_size (zb HB))); replace HO_5 := am (Kd.R_elder' (zR HO_5.out) (Kd.R_base ho0) hb); replace BK310 := zk BK310 hb; replace HB := am (below_step (zb HB) hb); clear hb ho0; obtain ⟨hcz23_0, hcz23_1, hcz23_2⟩ := zc3 BK310; obtain ⟨hfz23_0, hfz23_1, hfz23_2⟩ := zf3 BK310) | ((with_reducible refine gate_dst (N := 39) rfl ?_); refine Kd.R_lit (Kd.int .u8) _ 5 ?hg (N := 39) ?hd (xs := ([84, (a0_0) % 256] : List Int)) (inner := [.int .u8 84, .int .u8 ((a0_0) % 256)]) (ok := fun _ => True) (okp := fun _ => True) ?hr ?hp (fun _ hk => hk) trivial (Below.refl _ _) (Nat.le_refl _) (by simp) ?_; (case hd => rfl); (case hg => rfl); (case hr => exact y21); (case hp => exact y26); intro v324 w24 ho25 hb hg_ hnew_; clear hg_ hnew_; (first | rw [← Ny323.out] at ho25 | (simp only [Int.reduceToNat] at ho25; rw [← Ny323.out] at ho25)); have HO325 := am (Kd.R_lower (Kd.R_new' (Kd.R_new' ho25 (Kd.R_lt (zR HO_5.out))) (Kd.R_lt (zR HO322.out))) (below_size (zb HB))); replace HO_5 := am (Kd.R_elder' (zR HO_5.out) (Kd.R_base ho25) hb); replace HO322 := am (Kd.R_elder' (zR HO322.out) (Kd.R_base ho25) hb); replace BK310 := zk BK310 hb; replace HB := am (below_step (zb HB) hb); clear hb ho25; obtain ⟨hcz26_0, hcz26_1, hcz26_2⟩ := zc3 BK310; obtain ⟨hfz26_0, hfz26_1, hfz26_2⟩ := zf3 BK310; obtain ⟨Ao27, co27, eo27⟩ := Kd.R_slice HO322.out; subst eo27) | ((with_reducible refine gate_dst (N := 49) rfl ?_); refine Kd.R_lit (Kd.int .i64) _ 3 ?hg (N := 49) ?hd (xs := ([a0_1, (l0_2.length : Int), (x5_1.length : Int), (t320.length : Int)] : List Int)) (inner := [.int .i64 a0_1, .int .i64 (l0_2.length : Int), .int .i64 (x5_1.length : Int), .int .i64 (t320.length : Int)]) (ok := fun _ => True) (okp := fun _ => True) ?hr ?hp (fun _ hk => hk) trivial (Below.refl _ _) (Nat.le_refl _) (by simp) ?_; (case hd => rfl); (case hg => rfl); (case hr => exact y21); (case hp => exact (Reps.one (show Kd.M (Kd.int .i64) _ _ _ a0_1 [.int .i64 a0_1] from rfl) (Reps.one (show Kd.M (Kd.int .i64) _ _ _ (l0_2.length : Int) [.int .i64 (l0_2.length : Int)] from rfl) (Reps.one (show Kd.M (Kd.int .i64) _ _ _ (x5_1.length : Int) [.int .i64 (x5_1.length : Int)] from rfl) (Reps.one (show Kd.M (Kd.int .i64) _ _ _ (t320.length : Int) [.int .i64 (t320.length : Int)] from rfl) (Reps.none _ _)))))); intro v327 w28 ho29 hb hg_ hnew_; clear hg_ hnew_; (first | rw [← Ny326.out] at ho29 | (simp only [Int.reduceToNat] at ho29; rw [← Ny326.out] at ho29)); replace HO_5 := am (Kd.R_below (zR HO_5.out) hb); replace HO322 := am (Kd.R_below (zR HO322.out) hb); replace HO325 := am (Kd.R_below (zR HO325.out) hb); have HO328 := am (Kd.R_lower ho29 (below_size (zb HB))); replace BK310 := zk BK310 hb; replace HB := am (below_step (zb HB) hb); clear hb ho29; obtain ⟨Ao30, co30, eo30⟩ := Kd.R_slice HO328.out; subst eo30))
     go_loopg [10, 51] k1 (fun kq v10 v51 w' => ∃ (x10_2 : List Int) (x51_2 : Int), v51 = .int .i64 x51_2 ∧ Aside0 (block_Encode.l1 kq t320 x10_2 y326 (y326.length : Int) x51_2 = some (r1, r2)) ∧ Aside0 (kq ≤ k1) ∧ Aside0 (Kd.R (Kd.int .u8) 5 w' w.heap.size (fun k_ => some k_ ≠ (v10 : Value).ownBlock) (.slice Ao27 t320.length co27) t320) ∧ Aside0 (Kd.R (Kd.int .u8) 5 w' w.heap.size (fun k_ => some k_ ≠ ((.slice Ao27 t320.length co27) : Value).ownBlock) v10 x10_2) ∧ Aside0 (Kd.R (Kd.int .i64) 3 w' w.heap.size (fun _ => True) (.slice Ao30 y326.length co30) y326) ∧ Aside0 (w'.heap[gb310]? = some (.cells #[.int .i64 a0_0, .int .i64 a0_1, (.slice A0_2 l0_2.length c0_2)] 42 (0, 0))) ∧ Aside0 (Below w.heap.size w w'))
     case atStart => exact ⟨(y323), (0), zr, H', ⟨Nat.le_refl _⟩, ⟨by (with_reducible repeat (first | apply Kd.R_alloc | apply Kd.R_drewN | apply Kd.R_drew)); exact Kd.R_mono HO322.out (fun _ hk => hk.2)⟩, ⟨by (with_reducible repeat (first | apply Kd.R_alloc | apply Kd.R_drewN | apply Kd.R_drew)); exact Kd.R_mono HO325.out (fun _ hk => hk.2)⟩, ⟨by (with_reducible repeat (first | apply Kd.R_alloc | apply Kd.R_drewN | apply Kd.R_drew)); exact HO328.out⟩, ⟨by refine zu ?_; exact BK310.out⟩, ⟨zb HB⟩⟩
     case round =>
      clear H'
      obtain ⟨x10_2, x51_2, rfl, HA, HK2, HO_9, HO_10, HO_49, BK310, HB⟩ := hrel
      cases gk with
      | zero => exact absurd HA.out (by simp [block_Encode.l1])
      | succ k2 =>
       have H := HA.out
       clear HA
       simp only [block_Encode.l1] at H
       by_cases c31 : x51_2 < (y326.length : Int)
       ·
        rw [if_pos c31] at H
        have c31b0 := decide_eq_true c31
        clear c31
        by_cases c32 : 0 ≤ x51_2
        ·
         rw [if_pos c32] at H
         have c32b0 := decide_eq_true c32
         clear c32
         by_cases c33 : x51_2 < (y326.length : Int)
         ·
          rw [if_pos c33] at H
          have c33b0 := decide_eq_true c33
          clear c33
          replace H := Option.bind_eq_some_iff.mp H
          obtain ⟨t330, A340, H⟩ := H
          (try dsimp only at H)
          have A34 := am A340
          clear A340
          have H' := am H
          clear H
          have p329 : 0 ≤ (x51_2 : Int) := zo
          have q329 : x51_2 < (y326.length : Int) := zo
          obtain ⟨ad329, e329, hx329_0⟩ := Kd.at_int (Kd.R_reads' HO_49.out).2.2 x51_2 p329 q329
          cases e329
          replace p329 := eq_true p329
          replace q329 := eq_true q329
          obtain ⟨Ao35, co35, eo35⟩ := Kd.R_slice HO_10.out
          subst eo35
          go_wp2_with (first | ((with_reducible refine gate_callee (f := 49) rfl ?_); refine goesL_ (some 57) rfl rfl Try.func49 (by kernel_rfl) rfl #[.slice Ao35 x10_2.length co35, .int .i64 (rd y326 x51_2)] rfl zg ?_; (with_reducible refine (event_PutInt.calls k2 _ _ x10_2 (rd y326 x51_2) t330 _ ?side1 ?side2 A34.out).mono ?_); (case side1 => exact zC ((Kd.R_reads' HO_10.out).2.2)); (case side2 => exact (Kd.R_reads' HO_10.out).2.1); rintro e w36 ⟨v331, rfl, ho0, hb⟩; refine ⟨_, rfl, ?_⟩; replace HO_49 := am (Kd.R_below (zR HO_49.out) hb); have HO332 := am (Kd.R_lower (Kd.R_new' (Kd.R_new' ho0 (Kd.R_lt (zR HO_9.out))) (Kd.R_lt (zR HO_10.out))) (below_size (zb HB))); replace HO_9 := am (Kd.R_elder' (zR HO_9.out) (Kd.R_base ho0) hb); replace HO_10 := am (Kd.R_elder' (zR HO_10.out) (Kd.R_base ho0) hb); replace BK310 := zk BK310 hb; replace HB := am (below_step (zb HB) hb); clear hb ho0))
          go_roundg k2
          case measure => have := HK1.out; have := HK2.out; omega
          case rel => exact ⟨(t330), (wrap64 (x51_2 + 1)), zr, H', ⟨by have := HK1.out; have := HK2.out; omega⟩, ⟨by (with_reducible repeat (first | apply Kd.R_alloc | apply Kd.R_drewN | apply Kd.R_drew)); exact Kd.R_mono HO_9.out (fun _ hk => hk.2)⟩, ⟨by (with_reducible repeat (first | apply Kd.R_alloc | apply Kd.R_drewN | apply Kd.R_drew)); exact Kd.R_mono HO332.out (fun _ hk => hk.1.2)⟩, ⟨by (with_reducible repeat (first | apply Kd.R_alloc | apply Kd.R_drewN | apply Kd.R_drew)); exact HO_49.out⟩, ⟨by refine zu ?_; exact BK310.out⟩, ⟨zb HB⟩⟩
         ·
          rw [if_neg c33] at H
          exact absurd H (by simp)
        ·
         rw [if_neg c32] at H
         exact absurd H (by simp)
       ·
        rw [if_neg c31] at H
        have c31b0 := decide_eq_false c31
        clear c31
        by_cases c37 : x10_2.length + t320.length < 140737488355328
        ·
         rw [if_pos c37] at H
         have LMc37 := am c37
         clear c37
         obtain ⟨y333, hy333⟩ : ∃ y_ : List Int, y_ = (x10_2 ++ t320) := ⟨_, rfl⟩
         replace H : ((block_seal.f k2 y333).bind fun bt336 => (if y333.length + [bt336.1, bt336.2.1, bt336.2.2.1, bt336.2.2.2].length < 140737488355328 then (some ((y333 ++ [bt336.1, bt336.2.1, bt336.2.2.1, bt336.2.2.2]), 0)) else (none))) = some (r1, r2) := by first | (rw [hy333]; with_reducible exact H) | (have H2_ := (Option.bind_some _ _).symm.trans H; rw [hy333]; with_reducible exact H2_) | (have H2_ := (Option.bind_some _ _).symm.trans H; with_reducible exact H2_) | with_reducible exact H | (rw [hy333]; exact H) | exact H
         have Ny333 := am hy333
         clear hy333
         replace H := Option.bind_eq_some_iff.mp H
         obtain ⟨⟨t336, t337, t338, t339⟩, A380, H⟩ := H
         (try dsimp only at H)
         have A38 := am A380
         clear A380
         by_cases c39 : y333.length + [t336, t337, t338, t339].length < 140737488355328
         ·
          rw [if_pos c39] at H
          have LMc39 := am c39
          clear c39
          obtain ⟨y341, hy341⟩ : ∃ y_ : List Int, y_ = (y333 ++ [t336, t337, t338, t339]) := ⟨_, rfl⟩
          replace H : (some (y341, 0)) = some (r1, r2) := by first | (rw [hy341]; with_reducible exact H) | (have H2_ := (Option.bind_some _ _).symm.trans H; rw [hy341]; with_reducible exact H2_) | (have H2_ := (Option.bind_some _ _).symm.trans H; with_reducible exact H2_) | with_reducible exact H | (rw [hy341]; exact H) | exact H
          have Ny341 := am hy341
          clear hy341
          simp only [Option.some.injEq, Prod.mk.injEq] at H
          obtain ⟨rfl, rfl⟩ := H
          go_wp2_with (first | ((with_reducible refine gate_builtin (b := .append) (xs := #[.tmp 59, .tmp 60]) rfl ?_); at_builtin; refine Kd.R_append_rows (Kd.int .u8) (w0 := w) w.heap.size rfl (.tmp 59) (.tmp 60) 27 5 (.int .u8 0) 1 rfl Try.underlying27 info5 rfl (by decide) (by omega) u10 x10_2 t320 _ _ _ (fun k_ => some k_ ≠ (.slice Ao27 t320.length co27 : Value).ownBlock) (fun _ => False) rfl rfl ?aO ?aR (fun _ _ h => h) (fun _ h => h.elim) ?aF ?aB ?aS ?aL ?_; (case aR => repeat (first | exact (Kd.R_reads' HO_9.out).2.2 | (with_reducible refine Kd.C_alloc ?_ _) | (with_reducible refine Kd.C_drewN ?_ _) | (with_reducible refine Kd.C_drew ?_))); (case aB => exact (zb HB)); (case aF => exact (fun k_ hk => Kd.fresh' (Kd.R_lt (zR HO_9.out)) k_ hk)); (case aO => exact (zR HO_10.out)); (case aS => exact y24); (case aL => have := LMc37.out; omega); intro v334 w40 ho hb hg hat; rw [← Ny333.out] at ho; have n0_ := am (Kd.R_after (ok := (fun _ => True)) (by (with_reducible repeat (first | apply Kd.R_alloc | apply Kd.R_drewN | apply Kd.R_drew)); exact Kd.R_mono HO_9.out (fun _ hk => ⟨trivial, hk⟩)) hg hat); have n1_ := am (Kd.R_over' (zR HO_49.out) (Kd.R_typed (zR HO_10.out)) (by decide) hg); have n2_ := am (blk_grown (g := gb310) (o := .cells #[.int .i64 a0_0, .int .i64 a0_1, .slice A0_2 l0_2.length c0_2] 42 (0, 0)) (zu BK310.out) hg (Kd.R_ne HO_10.out BK310.out (by decide))); have n3_ := am (hb); have n4_ := am (ho); clear HO_9; clear HO_49; clear BK310; clear HB; clear HO_10; have HO_9 := n0_; have HO_49 := n1_; have BK310 := n2_; have HB := n3_; have HO335 := n4_; clear n0_ n1_ n2_ n3_ n4_; clear ho hb hg hat; obtain ⟨Ao41, co41, eo41⟩ := Kd.R_slice HO335.out; subst eo41) | ((with_reducible refine gate_callee (f := 52) rfl ?_); refine goesL_ (some 63) rfl rfl Try.func52 (by kernel_rfl) rfl #[.slice Ao41 y333.length co41] rfl zg ?_; (with_reducible refine (block_seal.calls k2 _ _ y333 t336 t337 t338 t339 _ ?side1 ?side2 A38.out).mono ?_); (case side1 => exact zC ((Kd.R_reads' HO335.out).2.2)); (case side2 => exact (Kd.R_reads' HO335.out).2.1); rintro e w42 ⟨rfl, hb⟩; refine ⟨_, rfl, ?_⟩; replace HO_9 := am (Kd.R_below (zR HO_9.out) hb); replace HO_49 := am (Kd.R_below (zR HO_49.out) hb); replace HO335 := am (Kd.R_below (zR HO335.out) hb); replace BK310 := zk BK310 hb; replace HB := am (below_step (zb HB) hb); clear hb) | ((with_reducible refine gate_dst (N := 13) rfl ?_); refine zB 13 #[.int .u8 0, .int .u8 0, .int .u8 0, .int .u8 0] 97 ?_; intro gb340 hg w43 hbox hb; replace HO_9 := am (Kd.R_below (zR HO_9.out) hb); replace HO_49 := am (Kd.R_below (zR HO_49.out) hb); replace HO335 := am (Kd.R_below (zR HO335.out) hb); have BK340 := am (hbox); have GE340 := zG hg (zb HB); replace HB := am (below_step (zb HB) hb); have NB310_340 := zn hg BK310; have NB340_310 := zm hg BK310; replace BK310 := zk BK310 hb; clear hb hbox hg; have hnb44 := NB340_310.out; have hnc44 := NB310_340.out; obtain ⟨_, _, _, _, _, _, _, _⟩ := zq4 BK340) | ((with_reducible refine gate_builtin (b := .append) (xs := #[.tmp 64, .tmp 65]) rfl ?_); at_builtin; refine Kd.R_append_rows (Kd.int .u8) (w0 := w) w.heap.size rfl (.tmp 64) (.tmp 65) 27 5 (.int .u8 0) 1 rfl Try.underlying27 info5 rfl (by decide) (by omega) (.slice Ao41 y333.length co41) y333 [t336, t337, t338, t339] _ _ _ (fun k_ => some k_ ≠ (.slice Ao27 t320.length co27 : Value).ownBlock) (fun _ => False) rfl rfl ?aO ?aR (fun _ _ h => h) (fun _ h => h.elim) ?aF ?aB ?aS ?aL ?_; (case aR => exact ow_C_box (cs := #[.int .u8 t336, .int .u8 t337, .int .u8 t338, .int .u8 t339]) (t := 97) (fr := (0, 0)) [t336, t337, t338, t339] y7 (by first | rfl | simp [nums]) rfl (by simp)); (case aB => exact (zb HB)); (case aF => exact (fun k_ hk => Kd.fresh' (Kd.R_lt (by (with_reducible repeat (first | apply Kd.R_alloc | apply Kd.R_drewN | apply Kd.R_drew)); exact (Kd.R_mono (Kd.R_far (p := ⟨gb340, 3, none⟩) (Kd.R_far (p := ⟨gb340, 2, none⟩) (Kd.R_far (p := ⟨gb340, 1, none⟩) (Kd.R_far (p := ⟨gb340, 0, none⟩) (Kd.R_types HO_9.out BK340.out (by decide)) (fun _ hk => hk.2) (.int .u8 t336)) (fun _ hk => hk.2) (.int .u8 t337)) (fun _ hk => hk.2) (.int .u8 t338)) (fun _ hk => hk.2) (.int .u8 t339)) (fun _ h_ => h_.1)))) k_ hk)); (case aO => exact (by (with_reducible repeat (first | apply Kd.R_alloc | apply Kd.R_drewN | apply Kd.R_drew)); exact Kd.R_mono (Kd.R_far (p := ⟨gb340, 3, none⟩) (Kd.R_far (p := ⟨gb340, 2, none⟩) (Kd.R_far (p := ⟨gb340, 1, none⟩) (Kd.R_far (p := ⟨gb340, 0, none⟩) (Kd.R_types HO335.out BK340.out (by decide)) (fun _ hk => hk.2) (.int .u8 t336)) (fun _ hk => hk.2) (.int .u8 t337)) (fun _ hk => hk.2) (.int .u8 t338)) (fun _ hk => hk.2) (.int .u8 t339)) (fun _ hk => hk.1))); (case aS => exact y24); (case aL => have := LMc39.out; simp only [List.length_cons, List.length_nil] at this; omega); intro v342 w46 ho hb hg hat; rw [← Ny341.out] at ho; have n0_ := am (Kd.R_after (ok := (fun _ => True)) (by (with_reducible repeat (first | apply Kd.R_alloc | apply Kd.R_drewN | apply Kd.R_drew)); exact Kd.R_mono (Kd.R_far (p := ⟨gb340, 3, none⟩) (Kd.R_far (p := ⟨gb340, 2, none⟩) (Kd.R_far (p := ⟨gb340, 1, none⟩) (Kd.R_far (p := ⟨gb340, 0, none⟩) (Kd.R_types HO_9.out BK340.out (by decide)) (fun _ hk => hk.2) (.int .u8 t336)) (fun _ hk => hk.2) (.int .u8 t337)) (fun _ hk => hk.2) (.int .u8 t338)) (fun _ hk => hk.2) (.int .u8 t339)) (fun _ hk => ⟨trivial, hk.1.2⟩)) hg hat); have n1_ := am (Kd.R_over' (by (with_reducible repeat (first | apply Kd.R_alloc | apply Kd.R_drewN | apply Kd.R_drew)); exact (Kd.R_mono (Kd.R_far (p := ⟨gb340, 3, none⟩) (Kd.R_far (p := ⟨gb340, 2, none⟩) (Kd.R_far (p := ⟨gb340, 1, none⟩) (Kd.R_far (p := ⟨gb340, 0, none⟩) (Kd.R_types HO_49.out BK340.out (by decide)) (fun _ hk => hk.2) (.int .u8 t336)) (fun _ hk => hk.2) (.int .u8 t337)) (fun _ hk => hk.2) (.int .u8 t338)) (fun _ hk => hk.2) (.int .u8 t339)) (fun _ h_ => h_.1))) (Kd.R_typed (by (with_reducible repeat (first | apply Kd.R_alloc | apply Kd.R_drewN | apply Kd.R_drew)); exact (Kd.R_mono (Kd.R_far (p := ⟨gb340, 3, none⟩) (Kd.R_far (p := ⟨gb340, 2, none⟩) (Kd.R_far (p := ⟨gb340, 1, none⟩) (Kd.R_far (p := ⟨gb340, 0, none⟩) (Kd.R_types HO335.out BK340.out (by decide)) (fun _ hk => hk.2) (.int .u8 t336)) (fun _ hk => hk.2) (.int .u8 t337)) (fun _ hk => hk.2) (.int .u8 t338)) (fun _ hk => hk.2) (.int .u8 t339)) (fun _ h_ => h_.1)))) (by decide) hg); have n2_ := am (blk_grown (g := gb310) (o := .cells #[.int .i64 a0_0, .int .i64 a0_1, .slice A0_2 l0_2.length c0_2] 42 (0, 0)) (by refine zu ?_; refine blk_far ?_ NB310_340.out _; refine zu ?_; refine blk_far ?_ NB310_340.out _; refine zu ?_; refine blk_far ?_ NB310_340.out _; refine zu ?_; refine blk_far ?_ NB310_340.out _; refine zu ?_; exact BK310.out) hg (Kd.R_ne HO335.out BK310.out (by decide))); have n3_ := am (blk_grown (g := gb340) (o := .cells #[.int .u8 t336, .int .u8 t337, .int .u8 t338, .int .u8 t339] 97 (0, 0)) y7 hg (Kd.R_ne HO335.out BK340.out (by decide))); have n4_ := am (hb); have n5_ := am (ho); clear HO_9; clear HO_49; clear BK310; clear BK340; clear HB; clear HO335; have HO_9 := n0_; have HO_49 := n1_; have BK310 := n2_; have BK340 := n3_; have HB := n4_; have HO343 := n5_; clear n0_ n1_ n2_ n3_ n4_ n5_; clear ho hb hg hat))
          go_ret2
          exact ⟨_, ze, by (with_reducible repeat (first | apply Kd.R_alloc | apply Kd.R_drewN | apply Kd.R_drew)); exact Kd.R_mono HO343.out (fun _ hk => trivial), zb HB⟩
         ·
          rw [if_neg c39] at H
          exact absurd H (by simp)
        ·
         rw [if_neg c37] at H
         exact absurd H (by simp)
 ·
  rw [if_neg c3] at H
  obtain ⟨c3b0, c3b1⟩ := zs c3
  simp only [Option.some.injEq, Prod.mk.injEq] at H
  obtain ⟨rfl, rfl⟩ := H
  go_enter Try.func21, Try.ntmps21
  go_wp2_with (first | ((with_reducible refine gate_dst (N := 1) rfl ?_); refine zB 1 #[.int .i64 a0_0, .int .i64 a0_1, .slice A0_2 l0_2.length c0_2] 42 ?_; intro gb310 hg w47 hbox hb; have BK310 := am (hbox); have GE310 := zG hg (zb HB); replace HB := am (below_step (zb HB) hb); clear hb hbox hg; obtain ⟨_, _, _, _, _, _⟩ := zq3 BK310) | ((with_reducible refine gate_callee (f := 50) rfl ?_); refine goesL_ (some 15) rfl rfl Try.func50 (by kernel_rfl) rfl #[.agg #[.int .i64 a0_0, .int .i64 a0_1, .slice A0_2 l0_2.length c0_2]] rfl zg ?_; (with_reducible refine (block_check.calls k a0_0 a0_1 _ _ l0_2 t311 _ ?side1 ?side2 A2.out).mono ?_); (case side1 => exact y37); (case side2 => exact HC0_2.out); rintro e w49 ⟨rfl, hb⟩; refine ⟨_, rfl, ?_⟩; replace BK310 := zk BK310 hb; replace HB := am (below_step (zb HB) hb); clear hb))
  go_ret2
  exact y30
end Go.Proofs.Ytnmmkgagbfniiaa.A
end
