/- MCollectBlocks14: texts of this session and of the kit's printer on the road to the statement CollectBlocks, laid into one and rid of what it doesn't need. No condition beyond what each fact names. -/
import Derived.Test.YtnmmkgagbfniiaaMCollectBlocks3
import Derived.Test.YtnmmkgagbfniiaaMCollectBlocks2
import Derived.Test.YtnmmkgagbfniiaaMCollectBlocks13
section
namespace Go.Proofs.Ytnmmkgagbfniiaa.A
open Go.RowKit Go.Proofs.YtnmmkgagbfniiaaW.PrintWords Go.Proofs.YtnmmkgagbfniiaaW.PrintLast Go.Proofs.YtnmmkgagbfniiaaW.PrintMore
attribute [local go_sem] max2_int min2_int max_two min_two max_three min_three max_four min_four
set_option linter.unusedVariables false
set_option linter.unusedSimpArgs false
def j11_records.l0 : Nat → List Int → Int → Int → List (S26) → Int → Int → Option ((List (S26)) × Bool)
 | 0, _, _, _, _, _, _ => none
 | k + 1, x0, x1, x2, x8, x9, x10 => if x10 < x2 then ((j11_Read.f k x0 x1 x9).bind fun bt598 => (if bt598.2.2.2.2.2.2.2.2.2 = 0 then (if x8.length < 1466015503701 then (if 0 ≤ bt598.2.2.2.2.2.2.2.2.1 then (if bt598.2.2.2.2.2.2.2.2.1 ≤ (x0.length : Int) then (j11_records.l0 k (x0.drop (bt598.2.2.2.2.2.2.2.2.1 : Int).toNat) x1 x2 (x8 ++ [(⟨bt598.1, (⟨bt598.2.1, bt598.2.2.1, bt598.2.2.2.1, bt598.2.2.2.2.1, bt598.2.2.2.2.2.1, bt598.2.2.2.2.2.2.1, bt598.2.2.2.2.2.2.2.1⟩ : S24)⟩ : S26)]) bt598.1 (wrap64 (x10 + 1))) else (none)) else (none)) else (none)) else (some (([] : List (S26)), false)))) else (some (x8, ((x0.length : Int) == 0)))
def j11_records.f (k : Nat) (l0 : List Int) (a1 : Int) (a2 : Int) : Option ((List (S26)) × Bool) := j11_records.l0 k l0 a1 a2 ([] : List (S26)) (-1) 0
theorem j11_records.mono_l : ∀ k, (∀ y0 y1 y2 y3 y4 y5, LeO (j11_records.l0 k y0 y1 y2 y3 y4 y5) (j11_records.l0 (k + 1) y0 y1 y2 y3 y4 y5))
 | 0 => fun _ _ _ _ _ _ r h => by simp [j11_records.l0] at h
 | k + 1 => by
  have ih0 := j11_records.mono_l k
  ·
   intro y0 y1 y2 y3 y4 y5
   unfold j11_records.l0
   exact zM
theorem j11_records.mono : ∀ a0 a1 a2 k, LeO (j11_records.f k a0 a1 a2) (j11_records.f (k + 1) a0 a1 a2) := by
 intro a0 a1 a2 k
 have ih0 := j11_records.mono_l k
 unfold j11_records.f
 exact zM
set_option maxHeartbeats 8000000 in
set_option maxRecDepth 100000 in
theorem j11_records.calls (k : Nat) (P0_ : Nat → Prop) (A0 : Option Addr) (c0 : Nat) (l0 : List Int) (a1 : Int) (a2 : Int) (r1 : List (S26)) (r2 : Bool) (w : World) (hs0 : Kd.V (Kd.int .u8) 5 w w.heap.size (fun k_ => P0_ k_) (.slice A0 l0.length c0) l0) (h : j11_records.f k l0 a1 a2 = some (r1, r2)) :
  Calls Try.prog 67 #[.slice A0 l0.length c0, .int .i64 a1, .int .i64 a2] w fun e w' => ∃ v0_ : Value, e = .returned (.tuple #[v0_, .bool r2]) ∧ Kd.S k26 26 w' w.heap.size (fun k_ => (w.heap.size ≤ k_)) v0_ r1 ∧ Below w.heap.size w w' := by
 have hu26 := Try.underlying26
 have HO0 := am (show Kd.V (Kd.int .u8) 5 w w.heap.size (fun k_ => (P0_ k_ ∨ w.heap.size ≤ k_)) (.slice A0 l0.length c0) l0 from Kd.V_mono hs0 (fun k_ hk => .inl hk))
 have HB := am (Below.refl w.heap.size w)
 have H : (j11_records.l0 k l0 a1 a2 ([] : List (S26)) (-1) 0) = some (r1, r2) := h
 clear h
 have H' := am H
 clear H
 go_enter Try.func67, Try.ntmps67
 go_wp2
 go_loopg [0, 8, 9, 10] k (fun kq v0 v8 v9 v10 w' => ∃ (x0_1 : List Int) (x8_1 : List (S26)) (x9_1 : Int) (x10_1 : Int), v9 = .int .i64 x9_1 ∧ v10 = .int .i64 x10_1 ∧ Aside0 (j11_records.l0 kq x0_1 a1 a2 x8_1 x9_1 x10_1 = some (r1, r2)) ∧ Aside0 (kq ≤ k) ∧ Aside0 (Kd.V (Kd.int .u8) 5 w' w.heap.size (fun k_ => (P0_ k_ ∨ w.heap.size ≤ k_) ∧ some k_ ≠ (v8 : Value).ownBlock) v0 x0_1) ∧ Aside0 (Kd.S k26 26 w' w.heap.size (fun k_ => (w.heap.size ≤ k_)) v8 x8_1) ∧ Aside0 (Below w.heap.size w w'))
 case atStart => exact ⟨(l0), (([] : List (S26))), ((-1)), (0), zr, zr, H', ⟨Nat.le_refl _⟩, ⟨by (with_reducible repeat (first | apply Kd.V_alloc | apply Kd.V_drewN | apply Kd.V_drew)); exact Kd.V_mono HO0.out (fun _ hk => ⟨hk, (by simp [Value.ownBlock])⟩)⟩, ⟨by first | exact Kd.S_nil _ _ _ _ _ | exact Kd.N_nil _ _ _ _ _ | exact Kd.V_nil _ _ _ _ _ | exact Kd.Q_nil _ _ _ _ _ | exact Kd.R_nil _ _ _ _ _⟩, ⟨zb HB⟩⟩
 case round =>
  clear H'
  try clear p2
  obtain ⟨x0_1, x8_1, x9_1, x10_1, rfl, rfl, HA, HK1, HO_0, HO_8, HB⟩ := hrel
  cases gk with
  | zero => exact absurd HA.out (by simp [j11_records.l0])
  | succ k1 =>
   have H := HA.out
   clear HA
   simp only [j11_records.l0] at H
   by_cases c4 : x10_1 < a2
   ·
    rw [if_pos c4] at H
    have c4b0 := decide_eq_true c4
    clear c4
    replace H := Option.bind_eq_some_iff.mp H
    obtain ⟨⟨t598, t599, t600, t601, t602, t603, t604, t607, t610, t611⟩, A50, H⟩ := H
    (try dsimp only at H)
    have A5 := am A50
    clear A50
    by_cases c6 : t611 = 0
    ·
     rw [if_pos c6] at H
     obtain ⟨c6b0, c6b1⟩ := zt c6
     clear c6
     by_cases c7 : x8_1.length < 1466015503701
     ·
      rw [if_pos c7] at H
      have LMc7 := am c7
      clear c7
      obtain ⟨y613, hy613⟩ : ∃ y_ : List (S26), y_ = (x8_1 ++ [(⟨t598, (⟨t599, t600, t601, t602, t603, t604, t607⟩ : S24)⟩ : S26)]) := ⟨_, rfl⟩
      replace H : (if 0 ≤ t610 then (if t610 ≤ (x0_1.length : Int) then (j11_records.l0 k1 (x0_1.drop (t610 : Int).toNat) a1 a2 y613 t598 (wrap64 (x10_1 + 1))) else (none)) else (none)) = some (r1, r2) := by first | (rw [hy613]; with_reducible exact H) | (have H2_ := (Option.bind_some _ _).symm.trans H; rw [hy613]; with_reducible exact H2_) | (have H2_ := (Option.bind_some _ _).symm.trans H; with_reducible exact H2_) | with_reducible exact H | (rw [hy613]; exact H) | exact H
      have Ny613 := am hy613
      clear hy613
      by_cases c8 : 0 ≤ t610
      ·
       rw [if_pos c8] at H
       have c8b0 := eq_true c8
       have c8b1 : decide (0 ≤ t610) = true := decide_eq_true c8
       clear c8
       by_cases c9 : t610 ≤ (x0_1.length : Int)
       ·
        rw [if_pos c9] at H
        have c9b0 := eq_true c9
        have c9b1 : decide (t610 ≤ (x0_1.length : Int)) = true := decide_eq_true c9
        clear c9
        obtain ⟨y616, hy616⟩ : ∃ y_ : List Int, y_ = (x0_1.drop (t610 : Int).toNat) := ⟨_, rfl⟩
        replace H : (j11_records.l0 k1 y616 a1 a2 y613 t598 (wrap64 (x10_1 + 1))) = some (r1, r2) := by first | (rw [hy616]; with_reducible exact H) | (have H2_ := (Option.bind_some _ _).symm.trans H; rw [hy616]; with_reducible exact H2_) | (have H2_ := (Option.bind_some _ _).symm.trans H; with_reducible exact H2_) | with_reducible exact H | (rw [hy616]; exact H) | exact H
        have Ny616 := am hy616
        clear hy616
        have H' := am H
        clear H
        obtain ⟨Ao10, co10, eo10⟩ := Kd.V_slice HO_0.out
        subst eo10
        go_wp2_with (first | ((with_reducible refine gate_callee (f := 17) rfl ?_); refine goesL_ (some 23) rfl rfl Try.func17 (by kernel_rfl) rfl #[.slice Ao10 x0_1.length co10, .int .i64 a1, .int .i64 x9_1] rfl zg ?_; (with_reducible refine (j11_Read.calls k1 _ _ x0_1 a1 x9_1 t598 t599 t600 t601 t602 t603 t604 t607 t610 t611 _ ?side1 ?side2 A5.out).mono ?_); (case side1 => exact zC ((Kd.V_reads' HO_0.out).2.2)); (case side2 => exact (Kd.V_reads' HO_0.out).2.1); rintro e w11 ⟨v605, v608, rfl, ho0, ho1, hb⟩; refine ⟨_, rfl, ?_⟩; replace HO_0 := am (Kd.V_mono (Kd.V_told (Kd.V_told (Kd.V_old y59 hb) (Kd.R_base ho0)) (Kd.R_base ho1)) (fun _ h_ => h_.1)); replace HO_8 := am (Kd.S_mono (Kd.S_told (Kd.S_told (Kd.S_old (zS HO_8.out) hb) (Kd.R_base ho0)) (Kd.R_base ho1)) (fun _ h_ => h_.1)); have HO606 := am (Kd.R_lower (Kd.R_newM (M := fun k_ => (w.heap.size ≤ k_)) ho0 (below_size (zb HB)) (fun k_ h_ => h_)) (below_size (zb HB))); have HO609 := am (Kd.R_lower (Kd.R_newM (M := fun k_ => (w.heap.size ≤ k_)) ho1 (below_size (zb HB)) (fun k_ h_ => h_)) (below_size (zb HB))); replace HB := am (below_step (zb HB) hb); clear hb ho0 ho1) | ((with_reducible refine gate_dst (N := 11) rfl ?_); refine zB 11 #[.int .i64 0, .int .i64 0, .int .i64 0, .int .i64 0, .int .i64 0, .int .i64 0, .slice none 0 0, .slice none 0 0] 26 ?_; intro gb612 hg w12 hbox hb; replace HO_0 := am (Kd.V_below (Kd.V_elderB y59 gb612 (Nat.le_of_eq hg.symm)) hb); replace HO_8 := am (Kd.S_below (Kd.S_elderB (zS HO_8.out) gb612 (Nat.le_of_eq hg.symm)) hb); replace HO606 := am (Kd.R_below (zR HO606.out) hb); replace HO609 := am (Kd.R_below (zR HO609.out) hb); have BK612 := am (hbox); have GE612 := zG hg (zb HB); replace HB := am (below_step (zb HB) hb); clear hb hbox hg; obtain ⟨_, _, _, _, _, _, _, _, _, _, _, _, _, _, _, _⟩ := zq8 BK612; obtain ⟨Ao14, co14, eo14⟩ := Kd.R_slice HO606.out; subst eo14; obtain ⟨Ao15, co15, eo15⟩ := Kd.R_slice HO609.out; subst eo15) | ((with_reducible refine gate_store (t := 26) (p := 11) rfl ?_); refine store_event (t := 26) (p := 11) (v := ?vo_w16) (w1 := ((((((((w12.setCell ⟨gb612, 0, none⟩ (.int .i64 t598)).setCell ⟨gb612, 1, none⟩ (.int .i64 t599)).setCell ⟨gb612, 2, none⟩ (.int .i64 t600)).setCell ⟨gb612, 3, none⟩ (.int .i64 t601)).setCell ⟨gb612, 4, none⟩ (.int .i64 t602)).setCell ⟨gb612, 5, none⟩ (.int .i64 t603)).setCell ⟨gb612, 6, none⟩ (.slice Ao14 t604.length co14)).setCell ⟨gb612, 7, none⟩ (.slice Ao15 t607.length co15))) ?hg ?ho ?hn ?hr ?_; (case ho => rfl); (case hg => rfl); (case hn => rfl); (case hr => exact y28); intro w16 hw; have n0_ : Aside0 (Kd.V (Kd.int .u8) 5 w16 w.heap.size (fun k_ => (P0_ k_ ∨ w.heap.size ≤ k_) ∧ some k_ ≠ (u8 : Value).ownBlock ∧ some k_ ≠ (.slice Ao14 t604.length co14 : Value).ownBlock ∧ some k_ ≠ (.slice Ao15 t607.length co15 : Value).ownBlock ∧ k_ ≠ gb612) (.slice Ao10 x0_1.length co10) x0_1) := ⟨(by rw [hw]; exact (by (with_reducible repeat (first | apply Kd.V_alloc | apply Kd.V_drewN | apply Kd.V_drew)); exact Kd.V_mono (Kd.V_far (p := ⟨gb612, 7, none⟩) (Kd.V_far (p := ⟨gb612, 6, none⟩) (Kd.V_far (p := ⟨gb612, 5, none⟩) (Kd.V_far (p := ⟨gb612, 4, none⟩) (Kd.V_far (p := ⟨gb612, 3, none⟩) (Kd.V_far (p := ⟨gb612, 2, none⟩) (Kd.V_far (p := ⟨gb612, 1, none⟩) (Kd.V_far (p := ⟨gb612, 0, none⟩) (Kd.V_mono HO_0.out (fun k_ hk => (⟨hk, hk.2⟩ : _ ∧ k_ ≠ gb612))) (fun _ hk => hk.2) (.int .i64 t598)) (fun _ hk => hk.2) (.int .i64 t599)) (fun _ hk => hk.2) (.int .i64 t600)) (fun _ hk => hk.2) (.int .i64 t601)) (fun _ hk => hk.2) (.int .i64 t602)) (fun _ hk => hk.2) (.int .i64 t603)) (fun _ hk => hk.2) (.slice Ao14 t604.length co14)) (fun _ hk => hk.2) (.slice Ao15 t607.length co15)) (fun _ hk => ⟨hk.1.1.1.1.1, ⟨hk.1.1.1.1.2, ⟨hk.1.1.1.2, ⟨hk.1.1.2, hk.1.2⟩⟩⟩⟩)))⟩; have n1_ : Aside0 (Kd.S k26 26 w16 w.heap.size (fun k_ => (w.heap.size ≤ k_) ∧ some k_ ≠ (.slice Ao14 t604.length co14 : Value).ownBlock ∧ some k_ ≠ (.slice Ao15 t607.length co15 : Value).ownBlock ∧ k_ ≠ gb612) u8 x8_1) := ⟨(by rw [hw]; exact (by (with_reducible repeat (first | apply Kd.S_alloc | apply Kd.S_drewN | apply Kd.S_drew)); exact Kd.S_mono (Kd.S_far (p := ⟨gb612, 7, none⟩) (Kd.S_far (p := ⟨gb612, 6, none⟩) (Kd.S_far (p := ⟨gb612, 5, none⟩) (Kd.S_far (p := ⟨gb612, 4, none⟩) (Kd.S_far (p := ⟨gb612, 3, none⟩) (Kd.S_far (p := ⟨gb612, 2, none⟩) (Kd.S_far (p := ⟨gb612, 1, none⟩) (Kd.S_far (p := ⟨gb612, 0, none⟩) (Kd.S_mono HO_8.out (fun k_ hk => (⟨hk, hk.2⟩ : _ ∧ k_ ≠ gb612))) (fun _ hk => hk.2) (.int .i64 t598)) (fun _ hk => hk.2) (.int .i64 t599)) (fun _ hk => hk.2) (.int .i64 t600)) (fun _ hk => hk.2) (.int .i64 t601)) (fun _ hk => hk.2) (.int .i64 t602)) (fun _ hk => hk.2) (.int .i64 t603)) (fun _ hk => hk.2) (.slice Ao14 t604.length co14)) (fun _ hk => hk.2) (.slice Ao15 t607.length co15)) (fun _ hk => ⟨hk.1.1.1.1, ⟨hk.1.1.1.2, ⟨hk.1.1.2, hk.1.2⟩⟩⟩)))⟩; have n2_ : Aside0 (Kd.R (Kd.int .i64) 3 w16 w.heap.size (fun k_ => (w.heap.size ≤ k_) ∧ some k_ ≠ (.slice Ao15 t607.length co15 : Value).ownBlock) (.slice Ao14 t604.length co14) t604) := ⟨(by rw [hw]; exact (by (with_reducible repeat (first | apply Kd.R_alloc | apply Kd.R_drewN | apply Kd.R_drew)); exact Kd.R_mono (Kd.R_far (p := ⟨gb612, 7, none⟩) (Kd.R_far (p := ⟨gb612, 6, none⟩) (Kd.R_far (p := ⟨gb612, 5, none⟩) (Kd.R_far (p := ⟨gb612, 4, none⟩) (Kd.R_far (p := ⟨gb612, 3, none⟩) (Kd.R_far (p := ⟨gb612, 2, none⟩) (Kd.R_far (p := ⟨gb612, 1, none⟩) (Kd.R_far (p := ⟨gb612, 0, none⟩) (Kd.R_types HO606.out BK612.out (by decide)) (fun _ hk => hk.2) (.int .i64 t598)) (fun _ hk => hk.2) (.int .i64 t599)) (fun _ hk => hk.2) (.int .i64 t600)) (fun _ hk => hk.2) (.int .i64 t601)) (fun _ hk => hk.2) (.int .i64 t602)) (fun _ hk => hk.2) (.int .i64 t603)) (fun _ hk => hk.2) (.slice Ao14 t604.length co14)) (fun _ hk => hk.2) (.slice Ao15 t607.length co15)) (fun _ hk => ⟨hk.1.1, hk.1.2⟩)))⟩; have n3_ : Aside0 (Kd.R (Kd.int .i64) 3 w16 w.heap.size (fun k_ => (w.heap.size ≤ k_) ∧ some k_ ≠ (.slice Ao14 t604.length co14 : Value).ownBlock) (.slice Ao15 t607.length co15) t607) := ⟨(by rw [hw]; exact (by (with_reducible repeat (first | apply Kd.R_alloc | apply Kd.R_drewN | apply Kd.R_drew)); exact Kd.R_mono (Kd.R_far (p := ⟨gb612, 7, none⟩) (Kd.R_far (p := ⟨gb612, 6, none⟩) (Kd.R_far (p := ⟨gb612, 5, none⟩) (Kd.R_far (p := ⟨gb612, 4, none⟩) (Kd.R_far (p := ⟨gb612, 3, none⟩) (Kd.R_far (p := ⟨gb612, 2, none⟩) (Kd.R_far (p := ⟨gb612, 1, none⟩) (Kd.R_far (p := ⟨gb612, 0, none⟩) (Kd.R_types HO609.out BK612.out (by decide)) (fun _ hk => hk.2) (.int .i64 t598)) (fun _ hk => hk.2) (.int .i64 t599)) (fun _ hk => hk.2) (.int .i64 t600)) (fun _ hk => hk.2) (.int .i64 t601)) (fun _ hk => hk.2) (.int .i64 t602)) (fun _ hk => hk.2) (.int .i64 t603)) (fun _ hk => hk.2) (.slice Ao14 t604.length co14)) (fun _ hk => hk.2) (.slice Ao15 t607.length co15)) (fun _ hk => ⟨hk.1.1, hk.1.2⟩)))⟩; have n4_ : Aside0 (w16.heap[gb612]? = some (.cells #[.int .i64 t598, .int .i64 t599, .int .i64 t600, .int .i64 t601, .int .i64 t602, .int .i64 t603, .slice Ao14 t604.length co14, .slice Ao15 t607.length co15] 26 (0, 0))) := ⟨(by rw [hw]; exact (by refine zu ?_; refine blk_put (cs := #[.int .i64 t598, .int .i64 t599, .int .i64 t600, .int .i64 t601, .int .i64 t602, .int .i64 t603, .slice Ao14 t604.length co14, .slice none 0 0]) ?_ 7 _ rfl; refine zu ?_; refine blk_put (cs := #[.int .i64 t598, .int .i64 t599, .int .i64 t600, .int .i64 t601, .int .i64 t602, .int .i64 t603, .slice none 0 0, .slice none 0 0]) ?_ 6 _ rfl; refine zu ?_; refine blk_put (cs := #[.int .i64 t598, .int .i64 t599, .int .i64 t600, .int .i64 t601, .int .i64 t602, .int .i64 0, .slice none 0 0, .slice none 0 0]) ?_ 5 _ rfl; refine zu ?_; refine blk_put (cs := #[.int .i64 t598, .int .i64 t599, .int .i64 t600, .int .i64 t601, .int .i64 0, .int .i64 0, .slice none 0 0, .slice none 0 0]) ?_ 4 _ rfl; refine zu ?_; refine blk_put (cs := #[.int .i64 t598, .int .i64 t599, .int .i64 t600, .int .i64 0, .int .i64 0, .int .i64 0, .slice none 0 0, .slice none 0 0]) ?_ 3 _ rfl; refine zu ?_; refine blk_put (cs := #[.int .i64 t598, .int .i64 t599, .int .i64 0, .int .i64 0, .int .i64 0, .int .i64 0, .slice none 0 0, .slice none 0 0]) ?_ 2 _ rfl; refine zu ?_; refine blk_put (cs := #[.int .i64 t598, .int .i64 0, .int .i64 0, .int .i64 0, .int .i64 0, .int .i64 0, .slice none 0 0, .slice none 0 0]) ?_ 1 _ rfl; refine zu ?_; refine blk_put (cs := #[.int .i64 0, .int .i64 0, .int .i64 0, .int .i64 0, .int .i64 0, .int .i64 0, .slice none 0 0, .slice none 0 0]) ?_ 0 _ rfl; refine zu ?_; exact BK612.out))⟩; have n5_ : Aside0 (Below w.heap.size w w16) := ⟨(by rw [hw]; exact (zb HB))⟩; clear hw; clear HO_0; clear HO_8; clear HO606; clear HO609; clear BK612; clear HB; have HO_0 := n0_; have HO_8 := n1_; have HO606 := n2_; have HO609 := n3_; have BK612 := n4_; have HB := n5_; clear n0_ n1_ n2_ n3_ n4_ n5_; obtain ⟨_, _, _, _, _, _, _, _, _, _, _, _, _, _, _, _⟩ := zq8 BK612) | ((with_reducible refine gate_builtin (b := .append) (xs := #[.tmp 31, .tmp 33]) rfl ?_); at_builtin; refine Kd.S_append k26 (w0 := w) w.heap.size rfl (.tmp 31) (.tmp 33) 40 26 (.agg #[(.int .i64 0), (.int .i64 0), (.int .i64 0), (.int .i64 0), (.int .i64 0), (.int .i64 0), (.slice none 0 0), (.slice none 0 0)]) 96 rfl Try.underlying40 info26 rfl (by decide) (by omega) u8 x8_1 (⟨t598, (⟨t599, t600, t601, t602, t603, t604, t607⟩ : S24)⟩ : S26) [.int .i64 t598, .int .i64 t599, .int .i64 t600, .int .i64 t601, .int .i64 t602, .int .i64 t603, .slice Ao14 t604.length co14, .slice Ao15 t607.length co15] (fun k_ => (w.heap.size ≤ k_) ∧ k_ ≠ gb612) (fun k_ => some k_ = (.slice Ao14 t604.length co14 : Value).ownBlock ∨ some k_ = (.slice Ao15 t607.length co15 : Value).ownBlock) rfl rfl ?aP (fun k_ hk_ => hk_.elim (fun h_ => ((Kd.R_mono (ok' := fun k_ => ((fun k_ => (w.heap.size ≤ k_) ∧ k_ ≠ gb612)) k_ ∧ some k_ ≠ (u8 : Value).ownBlock) (Kd.R_types (Kd.R_apart' (HO606.out) (Kd.S_typed HO_8.out) (by decide)) BK612.out (by decide)) (fun k_ hk => ⟨⟨hk.1.1.1, hk.2⟩, hk.1.2⟩))).1 k_ h_.symm) (fun h_ => ((Kd.R_mono (ok' := fun k_ => ((fun k_ => (w.heap.size ≤ k_) ∧ k_ ≠ gb612)) k_ ∧ some k_ ≠ (u8 : Value).ownBlock) (Kd.R_types (Kd.R_apart' (HO609.out) (Kd.S_typed HO_8.out) (by decide)) BK612.out (by decide)) (fun k_ hk => ⟨⟨hk.1.1.1, hk.2⟩, hk.1.2⟩))).1 k_ h_.symm)) ?aF ?aO ?aB ?aS ?aL ?_; (case aP => exact k26_mkM _ _ _ (⟨t598, (⟨t599, t600, t601, t602, t603, t604, t607⟩ : S24)⟩ : S26) (Kd.R_mono (Kd.R_tight rfl (Kd.R_mono (ok' := fun k_ => ((fun k_ => (w.heap.size ≤ k_) ∧ k_ ≠ gb612)) k_ ∧ some k_ ≠ (u8 : Value).ownBlock) (Kd.R_types (Kd.R_apart' (HO606.out) (Kd.S_typed HO_8.out) (by decide)) BK612.out (by decide)) (fun k_ hk => ⟨⟨hk.1.1.1, hk.2⟩, hk.1.2⟩))) (fun _ h_ => Or.inl h_)) (Kd.R_mono (Kd.R_tight rfl (Kd.R_mono (ok' := fun k_ => ((fun k_ => (w.heap.size ≤ k_) ∧ k_ ≠ gb612)) k_ ∧ some k_ ≠ (u8 : Value).ownBlock) (Kd.R_types (Kd.R_apart' (HO609.out) (Kd.S_typed HO_8.out) (by decide)) BK612.out (by decide)) (fun k_ hk => ⟨⟨hk.1.1.1, hk.2⟩, hk.1.2⟩))) (fun _ h_ => Or.inr (h_)))); (case aB => exact (zb HB)); (case aF => exact (fun k_ hk => ⟨(Nat.le_trans (below_size (zb HB)) hk), Kd.freshB (g := gb612) (o := .cells #[.int .i64 t598, .int .i64 t599, .int .i64 t600, .int .i64 t601, .int .i64 t602, .int .i64 t603, .slice Ao14 t604.length co14, .slice Ao15 t607.length co15] 26 (0, 0)) (zu BK612.out) k_ hk⟩)); (case aO => exact (by (with_reducible repeat (first | apply Kd.S_alloc | apply Kd.S_drewN | apply Kd.S_drew)); exact Kd.S_mono HO_8.out (fun k_ hk => ⟨⟨hk.1, hk.2.2.2⟩, fun e_ => e_.elim (fun h_ => hk.2.1 h_) (fun h_ => hk.2.2.1 h_)⟩))); (case aS => exact y44); (case aL => have := LMc7.out; omega); intro v614 w18 ho hb hg hat; rw [← Ny613.out] at ho; have n0_ := am (Kd.V_afterv (ok := (fun k_ => (P0_ k_ ∨ w.heap.size ≤ k_) ∧ some k_ ≠ (.slice Ao14 t604.length co14 : Value).ownBlock ∧ some k_ ≠ (.slice Ao15 t607.length co15 : Value).ownBlock ∧ k_ ≠ gb612)) (by (with_reducible repeat (first | apply Kd.V_alloc | apply Kd.V_drewN | apply Kd.V_drew)); exact Kd.V_mono HO_0.out (fun _ hk => ⟨⟨hk.1, ⟨hk.2.2.1, ⟨hk.2.2.2.1, hk.2.2.2.2⟩⟩⟩, hk.2.1⟩)) hg hat); have n1_ := am (blk_grown (g := gb612) (o := .cells #[.int .i64 t598, .int .i64 t599, .int .i64 t600, .int .i64 t601, .int .i64 t602, .int .i64 t603, .slice Ao14 t604.length co14, .slice Ao15 t607.length co15] 26 (0, 0)) (zu BK612.out) hg (Kd.S_away HO_8.out (fun _ hk => hk.2.2.2))); have n2_ := am (hb); have n3_ := am (ho); clear HO_0; clear BK612; clear HB; clear HO_8; clear HO606; clear HO609; have HO_0 := n0_; have BK612 := n1_; have HB := n2_; have HO615 := n3_; clear n0_ n1_ n2_ n3_; clear ho hb hg hat; have q19 : (t610 : Int) ≤ ((x0_1.length : Int) : Int) := zo; obtain ⟨i019, hi019, _, hsz19, _⟩ := info_parts info5; have hroom19 : x0_1.length ≤ co10 := (Kd.V_reads' HO_0.out).2.1; have hC19 : Kd.F (Kd.int .u8) _ _ Ao10 x0_1.length x0_1 := (Kd.V_at (base := w.heap.size) HO_0.out).2.2; have q019 : (0 : Int) ≤ (t610 : Int) := zo; have hcut19 := cut_from (P := Try.prog) 27 5 .i64 Try.underlying27 hi019 1 hsz19 Ao10 x0_1.length co10 t610 q019 q19; have hr19 := Kd.F_cut (m := (t610 : Int).toNat) (c := co10) hC19 (by omega) hroom19; obtain ⟨A19, hA19⟩ : ∃ A1, A1 = (if co10 = (t610 : Int).toNat then Ao10 else (Ao10 : Option Addr).map (·.add ((t610 : Int).toNat * 1))) := ⟨_, rfl⟩; obtain ⟨c19, hc19⟩ : ∃ c1, c1 = co10 - (t610 : Int).toNat := ⟨_, rfl⟩; have hy19 : y616.length = x0_1.length - (t610 : Int).toNat := (by rw [Ny616.out, List.length_drop] <;> omega); rw [show (x0_1).drop (t610 : Int).toNat = y616 from Ny616.out.symm] at hr19; replace hr19 : Kd.F (Kd.int .u8) _ _ A19 y616.length y616 := (by rw [hA19]; exact hr19); rw [← hy19, ← hA19, ← hc19] at hcut19; have HO620 := am (show Kd.V (Kd.int .u8) 5 _ w.heap.size _ (.slice A19 y616.length c19) y616 from Kd.V_mk (by rw [hy19, hc19]; exact Nat.sub_le_sub_right hroom19 _) hr19); have HC620 := am (show y616.length ≤ c19 from by rw [hy19, hc19]; exact Nat.sub_le_sub_right hroom19 _); clear hr19 hC19 hroom19 hi019 hsz19 hc19; have KY19 := am hy19; have KA19 := am hA19; clear hy19 hA19; replace q19 := eq_true q19))
        go_roundg k1
        case measure => have := HK1.out; omega
        case rel => exact ⟨(y616), (y613), (t598), (wrap64 (x10_1 + 1)), zr, zr, H', ⟨by have := HK1.out; omega⟩, ⟨by (with_reducible repeat (first | apply Kd.V_alloc | apply Kd.V_drewN | apply Kd.V_drew)); exact Kd.V_mono HO620.out (fun _ hk => ⟨hk.1.1, hk.2⟩)⟩, ⟨by (with_reducible repeat (first | apply Kd.S_alloc | apply Kd.S_drewN | apply Kd.S_drew)); exact Kd.S_mono HO615.out (fun _ hk => hk.1)⟩, ⟨zb HB⟩⟩
       ·
        rw [if_neg c9] at H
        exact absurd H (by simp)
      ·
       rw [if_neg c8] at H
       exact absurd H (by simp)
     ·
      rw [if_neg c7] at H
      exact absurd H (by simp)
    ·
     rw [if_neg c6] at H
     obtain ⟨c6b0, c6b1⟩ := zs c6
     simp only [Option.some.injEq, Prod.mk.injEq] at H
     obtain ⟨rfl, rfl⟩ := H
     obtain ⟨Ao20, co20, eo20⟩ := Kd.V_slice HO_0.out
     subst eo20
     go_wp2_with (first | ((with_reducible refine gate_callee (f := 17) rfl ?_); refine goesL_ (some 23) rfl rfl Try.func17 (by kernel_rfl) rfl #[.slice Ao20 x0_1.length co20, .int .i64 a1, .int .i64 x9_1] rfl zg ?_; (with_reducible refine (j11_Read.calls k1 _ _ x0_1 a1 x9_1 t598 t599 t600 t601 t602 t603 t604 t607 t610 t611 _ ?side1 ?side2 A5.out).mono ?_); (case side1 => exact zC ((Kd.V_reads' HO_0.out).2.2)); (case side2 => exact (Kd.V_reads' HO_0.out).2.1); rintro e w21 ⟨v605, v608, rfl, ho0, ho1, hb⟩; refine ⟨_, rfl, ?_⟩; replace HO_0 := am (Kd.V_mono (Kd.V_told (Kd.V_told (Kd.V_old y59 hb) (Kd.R_base ho0)) (Kd.R_base ho1)) (fun _ h_ => h_.1)); replace HO_8 := am (Kd.S_mono (Kd.S_told (Kd.S_told (Kd.S_old (zS HO_8.out) hb) (Kd.R_base ho0)) (Kd.R_base ho1)) (fun _ h_ => h_.1)); have HO606 := am (Kd.R_lower (Kd.R_newM (M := fun k_ => (w.heap.size ≤ k_)) ho0 (below_size (zb HB)) (fun k_ h_ => h_)) (below_size (zb HB))); have HO609 := am (Kd.R_lower (Kd.R_newM (M := fun k_ => (w.heap.size ≤ k_)) ho1 (below_size (zb HB)) (fun k_ h_ => h_)) (below_size (zb HB))); replace HB := am (below_step (zb HB) hb); clear hb ho0 ho1) | ((with_reducible refine gate_dst (N := 11) rfl ?_); refine zB 11 #[.int .i64 0, .int .i64 0, .int .i64 0, .int .i64 0, .int .i64 0, .int .i64 0, .slice none 0 0, .slice none 0 0] 26 ?_; intro gb612 hg w22 hbox hb; replace HO_0 := am (Kd.V_below (Kd.V_elderB y59 gb612 (Nat.le_of_eq hg.symm)) hb); replace HO_8 := am (Kd.S_below (Kd.S_elderB (zS HO_8.out) gb612 (Nat.le_of_eq hg.symm)) hb); replace HO606 := am (Kd.R_below (zR HO606.out) hb); replace HO609 := am (Kd.R_below (zR HO609.out) hb); have BK612 := am (hbox); have GE612 := zG hg (zb HB); replace HB := am (below_step (zb HB) hb); clear hb hbox hg; obtain ⟨_, _, _, _, _, _, _, _, _, _, _, _, _, _, _, _⟩ := zq8 BK612; obtain ⟨Ao24, co24, eo24⟩ := Kd.R_slice HO606.out; subst eo24; obtain ⟨Ao25, co25, eo25⟩ := Kd.R_slice HO609.out; subst eo25))
     go_ret2
     exact ⟨_, ze, by first | exact Kd.S_nil _ _ _ _ _ | exact Kd.N_nil _ _ _ _ _ | exact Kd.V_nil _ _ _ _ _ | exact Kd.Q_nil _ _ _ _ _ | exact Kd.R_nil _ _ _ _ _, zb HB⟩
   ·
    rw [if_neg c4] at H
    have c4b0 := decide_eq_false c4
    clear c4
    simp only [Option.some.injEq, Prod.mk.injEq] at H
    obtain ⟨rfl, rfl⟩ := H
    obtain ⟨Ao26, co26, eo26⟩ := Kd.V_slice HO_0.out
    subst eo26
    go_wp2
    go_ret2
    exact ⟨_, ze, by (with_reducible repeat (first | apply Kd.S_alloc | apply Kd.S_drewN | apply Kd.S_drew)); exact HO_8.out, zb HB⟩
end Go.Proofs.Ytnmmkgagbfniiaa.A
end
