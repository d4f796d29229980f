/- MRecordTells7: texts of this session and of the kit's printer on the road to the statement RecordTells, laid into one and rid of what it doesn't need. No condition beyond what each fact names. -/
import Derived.Test.YtnmmkgagbfniiaaMRecordTells4
import Derived.Test.YtnmmkgagbfniiaaMRecordTells3
import Derived.Test.YtnmmkgagbfniiaaMRecordTells6
import Derived.Lib.SlBytesConst
section
namespace Go.Proofs.Ytnmmkgagbfniiaa.A
open Go.RowKit Go.Proofs.YtnmmkgagbfniiaaW.PrintWords Go.Proofs.YtnmmkgagbfniiaaW.PrintLast Go.Proofs.YtnmmkgagbfniiaaW.PrintMore
attribute [local go_sem] max2_int min2_int max_two min_two max_three min_three max_four min_four
set_option linter.unusedVariables false
set_option linter.unusedSimpArgs false
def j11_Pack.l0 : Nat → List Int → List Int → List Int → Int → Option (List Int)
 | 0, _, _, _, _ => none
 | k + 1, x0, x3, x4, x5 => if x5 < (x0.length : Int) then ((j11_Match.f k x0 x5).bind fun bt365 => (if bt365.1 > 0 then ((j11_literal.f x3 x4).bind fun t367 => ((some (([(wrap64 (bt365.1 + 125)) % 256, (bt365.2) % 256] : List Int) : List Int)).bind fun y370 => (if t367.length + y370.length < 140737488355328 then (j11_Pack.l0 k x0 (t367 ++ y370) ([] : List Int) (wrap64 (x5 + bt365.1))) else (none)))) else (if 0 ≤ x5 then (if x4.length < 140737488355328 then ((some (x4 ++ [rd x0 x5] : List Int)).bind fun y377 => (if (y377.length : Int) = 128 then ((j11_literal.f x3 y377).bind fun t380 => (j11_Pack.l0 k x0 t380 ([] : List Int) (wrap64 (x5 + 1)))) else (j11_Pack.l0 k x0 x3 y377 (wrap64 (x5 + 1))))) else (none)) else (none)))) else ((j11_literal.f x3 x4).bind fun t362 => (some t362))
def j11_Pack.f (k : Nat) (l0 : List Int) : Option (List Int) := j11_Pack.l0 k l0 ([] : List Int) ([] : List Int) 0
theorem j11_Pack.mono_l : ∀ k, (∀ y0 y1 y2 y3, LeO (j11_Pack.l0 k y0 y1 y2 y3) (j11_Pack.l0 (k + 1) y0 y1 y2 y3))
 | 0 => fun _ _ _ _ r h => by simp [j11_Pack.l0] at h
 | k + 1 => by
  have ih0 := j11_Pack.mono_l k
  ·
   intro y0 y1 y2 y3
   unfold j11_Pack.l0
   exact zM
theorem j11_Pack.mono : ∀ a0 k, LeO (j11_Pack.f k a0) (j11_Pack.f (k + 1) a0) := by
 intro a0 k
 have ih0 := j11_Pack.mono_l k
 unfold j11_Pack.f
 exact zM
set_option maxHeartbeats 8000000 in
set_option maxRecDepth 100000 in
theorem j11_Pack.calls (k : Nat) (A0 : Option Addr) (c0 : Nat) (l0 : List Int) (r : List Int) (w : World) (hr0 : Kd.C (Kd.int .u8) w A0 l0.length l0) (hc0 : l0.length ≤ c0) (h : j11_Pack.f k l0 = some r) :
  Calls Try.prog 55 #[.slice A0 l0.length c0] w fun e w' => ∃ v0_ : Value, e = .returned (v0_) ∧ Kd.R (Kd.int .u8) 5 w' w.heap.size (fun _ => True) v0_ r ∧ Below w.heap.size w w' := by
 have HR0 := am hr0
 have HC0 := am hc0
 clear hr0 hc0
 have HB := am (Below.refl w.heap.size w)
 have H : (j11_Pack.l0 k l0 ([] : List Int) ([] : List Int) 0) = some r := h
 clear h
 have H' := am H
 clear H
 go_enter Try.func55, Try.ntmps55
 go_wp2
 go_loopg [3, 4, 5] k (fun kq v3 v4 v5 w' => ∃ (x3_1 : List Int) (x4_1 : List Int) (x5_1 : Int), v5 = .int .i64 x5_1 ∧ Aside0 (j11_Pack.l0 kq l0 x3_1 x4_1 x5_1 = some r) ∧ Aside0 (kq ≤ k) ∧ Aside0 (Kd.R (Kd.int .u8) 5 w' w.heap.size (fun k_ => some k_ ≠ (v4 : Value).ownBlock) v3 x3_1) ∧ Aside0 (Kd.R (Kd.int .u8) 5 w' w.heap.size (fun k_ => some k_ ≠ (v3 : Value).ownBlock) v4 x4_1) ∧ Aside0 (Below w.heap.size w w'))
 case atStart => exact ⟨(([] : List Int)), (([] : List Int)), (0), zr, H', ⟨Nat.le_refl _⟩, ⟨by first | exact Kd.R_nil _ _ _ _ _ | exact Kd.N_nil _ _ _ _ _ | exact Kd.V_nil _ _ _ _ _ | exact Kd.Q_nil _ _ _ _ _ | exact Kd.S_nil _ _ _ _ _⟩, ⟨by first | exact Kd.R_nil _ _ _ _ _ | exact Kd.N_nil _ _ _ _ _ | exact Kd.V_nil _ _ _ _ _ | exact Kd.Q_nil _ _ _ _ _ | exact Kd.S_nil _ _ _ _ _⟩, ⟨zb HB⟩⟩
 case round =>
  clear H'
  obtain ⟨x3_1, x4_1, x5_1, rfl, HA, HK1, HO_3, HO_4, HB⟩ := hrel
  cases gk with
  | zero => exact absurd HA.out (by simp [j11_Pack.l0])
  | succ k1 =>
   have H := HA.out
   clear HA
   simp only [j11_Pack.l0] at H
   by_cases c2 : x5_1 < (l0.length : Int)
   ·
    rw [if_pos c2] at H
    have c2b0 := decide_eq_true c2
    clear c2
    replace H := Option.bind_eq_some_iff.mp H
    obtain ⟨⟨t365, t366⟩, A30, H⟩ := H
    (try dsimp only at H)
    have A3 := am A30
    clear A30
    by_cases c4 : t365 > 0
    ·
     rw [if_pos c4] at H
     have c4b0 : decide (0 < t365) = true := decide_eq_true c4
     clear c4
     replace H := Option.bind_eq_some_iff.mp H
     obtain ⟨t367, A50, H⟩ := H
     (try dsimp only at H)
     have A5 := am A50
     clear A50
     obtain ⟨y370, hy370⟩ : ∃ y_ : List Int, y_ = (([(wrap64 (t365 + 125)) % 256, (t366) % 256] : List Int)) := ⟨_, rfl⟩
     replace H : (if t367.length + y370.length < 140737488355328 then (j11_Pack.l0 k1 l0 (t367 ++ y370) ([] : List Int) (wrap64 (x5_1 + t365))) else (none)) = some r := by first | (rw [hy370]; with_reducible exact H) | (have H2_ := (Option.bind_some _ _).symm.trans H; rw [hy370]; with_reducible exact H2_) | (have H2_ := (Option.bind_some _ _).symm.trans H; with_reducible exact H2_) | with_reducible exact H | (rw [hy370]; exact H) | exact H
     have Ny370 := am hy370
     clear hy370
     by_cases c6 : t367.length + y370.length < 140737488355328
     ·
      rw [if_pos c6] at H
      have LMc6 := am c6
      clear c6
      obtain ⟨y373, hy373⟩ : ∃ y_ : List Int, y_ = (t367 ++ y370) := ⟨_, rfl⟩
      replace H : (j11_Pack.l0 k1 l0 y373 ([] : List Int) (wrap64 (x5_1 + t365))) = some r := by first | (rw [hy373]; with_reducible exact H) | (have H2_ := (Option.bind_some _ _).symm.trans H; rw [hy373]; with_reducible exact H2_) | (have H2_ := (Option.bind_some _ _).symm.trans H; with_reducible exact H2_) | with_reducible exact H | (rw [hy373]; exact H) | exact H
      have Ny373 := am hy373
      clear hy373
      have H' := am H
      clear H
      go_wp2_with (first | ((with_reducible refine gate_callee (f := 79) rfl ?_); refine goesL_ (some 15) rfl rfl Try.func79 (by kernel_rfl) rfl #[.slice A0 l0.length c0, .int .i64 x5_1] rfl zg ?_; (with_reducible refine (j11_Match.calls k1 _ _ l0 x5_1 t365 t366 _ ?side1 ?side2 A3.out).mono ?_); (case side1 => exact y11); (case side2 => exact HC0.out); rintro e w' ⟨rfl, ⟨nd, rfl⟩⟩; refine ⟨_, rfl, ?_⟩; obtain ⟨Ao7, co7, eo7⟩ := Kd.R_slice HO_3.out; subst eo7; obtain ⟨Ao8, co8, eo8⟩ := Kd.R_slice HO_4.out; subst eo8) | ((with_reducible refine gate_callee (f := 80) rfl ?_); refine goesL_ (some 22) rfl rfl Try.func80 (by kernel_rfl) rfl #[.slice Ao7 x3_1.length co7, .slice Ao8 x4_1.length co8] rfl zg ?_; (with_reducible refine (j11_literal.calls (fun k_ => some k_ = (.slice Ao7 x3_1.length co7 : Value).ownBlock) (.slice Ao7 x3_1.length co7) x3_1 _ _ x4_1 t367 w _ ?side1 ?side2 ?side3 ?side4 A5.out).mono ?_); (case side1 => exact y9); (case side2 => exact Kd.R_tight rfl HO_3.out); (case side3 => exact Kd.C_kept_own (HO_4.out) (fun k_ hk_ hs_ => (hk_) hs_)); (case side4 => exact (Kd.R_reads' HO_4.out).2.1); rintro e w9 ⟨v368, rfl, ho0, hb, hkp⟩; refine ⟨_, rfl, ?_⟩; have n0_ := am (Kd.R_mono (ok' := fun k_ => some k_ ≠ (v368 : Value).ownBlock) (Kd.R_keptB (HO_4.out) hkp (fun k_ hk_ hs_ => (hk_) hs_)) (fun k_ hk_ => fun e_ => Or.elim (ho0.1 k_ e_.symm) (fun hs_ => hk_.2.1 hs_) (fun hn_ => Nat.not_le.2 hk_.2.2 hn_))); have n1_ := am (Kd.R_mono (ok' := fun k_ => some k_ ≠ (.slice Ao8 x4_1.length co8 : Value).ownBlock) ho0 (fun k_ hk_ => Or.elim hk_ (fun hs_ => fun e_ => (((HO_4.out).1 k_ e_.symm)) hs_) (fun hn_ => (Kd.fresh' (Kd.R_lt (zR HO_4.out)) k_ hn_)))); have n2_ := am (hb); clear HO_4; clear HB; clear HO_3; have HO_4 := n0_; have HO369 := n1_; have HB := n2_; clear n0_ n1_ n2_; clear hb hkp ho0) | ((with_reducible refine gate_dst (N := 29) rfl ?_); refine Kd.R_lit (Kd.int .u8) _ 5 ?hg (N := 29) ?hd (xs := ([(wrap64 (t365 + 125)) % 256, (t366) % 256] : List Int)) (inner := [.int .u8 ((wrap64 (t365 + 125)) % 256), .int .u8 ((t366) % 256)]) (ok := fun _ => True) (okp := fun _ => True) ?hr ?hp (fun _ hk => hk) trivial (Below.refl _ _) (Nat.le_refl _) (by simp) ?_; (case hd => rfl); (case hg => rfl); (case hr => exact y21); (case hp => exact (Reps.one (show Kd.M (Kd.int .u8) _ _ _ ((wrap64 (t365 + 125)) % 256) [.int .u8 ((wrap64 (t365 + 125)) % 256)] from rfl) (Reps.one (show Kd.M (Kd.int .u8) _ _ _ ((t366) % 256) [.int .u8 ((t366) % 256)] from rfl) (Reps.none _ _)))); intro v371 w10 ho11 hb hg_ hnew_; clear hg_ hnew_; (first | rw [← Ny370.out] at ho11 | (simp only [Int.reduceToNat] at ho11; rw [← Ny370.out] at ho11)); have HO372 := am (Kd.R_lower (Kd.R_new' (Kd.R_new' ho11 (Kd.R_lt (zR HO_4.out))) (Kd.R_lt (zR HO369.out))) (below_size (zb HB))); replace HO_4 := am (Kd.R_elder' (zR HO_4.out) (Kd.R_base ho11) hb); replace HO369 := am (Kd.R_elder' (zR HO369.out) (Kd.R_base ho11) hb); replace HB := am (below_step (zb HB) hb); clear hb ho11; obtain ⟨Ao13, co13, eo13⟩ := Kd.R_slice HO372.out; subst eo13) | ((with_reducible refine gate_builtin (b := .append) (xs := #[.tmp 23, .tmp 29]) rfl ?_); at_builtin; refine Kd.R_append_rows (Kd.int .u8) (w0 := w) w.heap.size rfl (.tmp 23) (.tmp 29) 27 5 (.int .u8 0) 1 rfl Try.underlying27 info5 rfl (by decide) (by omega) v368 t367 y370 _ _ _ (fun k_ => some k_ ≠ (.slice Ao8 x4_1.length co8 : Value).ownBlock ∧ some k_ ≠ (.slice Ao13 y370.length co13 : Value).ownBlock) (fun _ => False) rfl rfl ?aO ?aR (fun _ _ h => h) (fun _ h => h.elim) ?aF ?aB ?aS ?aL ?_; (case aR => repeat (first | exact (Kd.R_reads' HO372.out).2.2 | (with_reducible refine Kd.C_alloc ?_ _) | (with_reducible refine Kd.C_drewN ?_ _) | (with_reducible refine Kd.C_drew ?_))); (case aB => exact (zb HB)); (case aF => exact (fun k_ hk => ⟨Kd.fresh' (Kd.R_lt (zR HO_4.out)) k_ hk, Kd.fresh' (Kd.R_lt (zR HO372.out)) k_ hk⟩)); (case aO => exact (zR HO369.out)); (case aS => exact y24); (case aL => have := LMc6.out; omega); intro v374 w12 ho hb hg hat; rw [← Ny373.out] at ho; have n0_ := am (Kd.R_after (ok := (fun k_ => some k_ ≠ (.slice Ao13 y370.length co13 : Value).ownBlock)) (by (with_reducible repeat (first | apply Kd.R_alloc | apply Kd.R_drewN | apply Kd.R_drew)); exact Kd.R_mono HO_4.out (fun _ hk => ⟨hk.2, hk.1⟩)) hg hat); have n1_ := am (Kd.R_after (ok := (fun k_ => some k_ ≠ (.slice Ao8 x4_1.length co8 : Value).ownBlock)) (by (with_reducible repeat (first | apply Kd.R_alloc | apply Kd.R_drewN | apply Kd.R_drew)); exact Kd.R_mono HO372.out (fun _ hk => ⟨hk.1.2, hk.2⟩)) hg hat); have n2_ := am (hb); have n3_ := am (ho); clear HO_4; clear HO372; clear HB; clear HO369; have HO_4 := n0_; have HO372 := n1_; have HB := n2_; have HO375 := n3_; clear n0_ n1_ n2_ n3_; clear ho hb hg hat))
      go_roundg k1
      case measure => have := HK1.out; omega
      case rel => exact ⟨(y373), (([] : List Int)), (wrap64 (x5_1 + t365)), zr, H', ⟨by have := HK1.out; omega⟩, ⟨by (with_reducible repeat (first | apply Kd.R_alloc | apply Kd.R_drewN | apply Kd.R_drew)); exact Kd.R_mono HO375.out (fun _ hk => (by simp [Value.ownBlock]))⟩, ⟨by first | exact Kd.R_nil _ _ _ _ _ | exact Kd.N_nil _ _ _ _ _ | exact Kd.V_nil _ _ _ _ _ | exact Kd.Q_nil _ _ _ _ _ | exact Kd.S_nil _ _ _ _ _⟩, ⟨zb HB⟩⟩
     ·
      rw [if_neg c6] at H
      exact absurd H (by simp)
    ·
     rw [if_neg c4] at H
     have c4b0 : decide (0 < t365) = false := decide_eq_false c4
     clear c4
     by_cases c14 : 0 ≤ x5_1
     ·
      rw [if_pos c14] at H
      have c14b0 := decide_eq_true c14
      clear c14
      by_cases c15 : x4_1.length < 140737488355328
      ·
       rw [if_pos c15] at H
       have LMc15 := am c15
       clear c15
       obtain ⟨y377, hy377⟩ : ∃ y_ : List Int, y_ = (x4_1 ++ [rd l0 x5_1]) := ⟨_, rfl⟩
       replace H : (if (y377.length : Int) = 128 then ((j11_literal.f x3_1 y377).bind fun t380 => (j11_Pack.l0 k1 l0 t380 ([] : List Int) (wrap64 (x5_1 + 1)))) else (j11_Pack.l0 k1 l0 x3_1 y377 (wrap64 (x5_1 + 1)))) = some r := by first | (rw [hy377]; with_reducible exact H) | (have H2_ := (Option.bind_some _ _).symm.trans H; rw [hy377]; with_reducible exact H2_) | (have H2_ := (Option.bind_some _ _).symm.trans H; with_reducible exact H2_) | with_reducible exact H | (rw [hy377]; exact H) | exact H
       have Ny377 := am hy377
       clear hy377
       by_cases c16 : (y377.length : Int) = 128
       ·
        rw [if_pos c16] at H
        obtain ⟨c16b0, c16b1⟩ := zt c16
        clear c16
        replace H := Option.bind_eq_some_iff.mp H
        obtain ⟨t380, A170, H⟩ := H
        (try dsimp only at H)
        have A17 := am A170
        clear A170
        have H' := am H
        clear H
        go_wp2_with (first | ((with_reducible refine gate_callee (f := 79) rfl ?_); refine goesL_ (some 15) rfl rfl Try.func79 (by kernel_rfl) rfl #[.slice A0 l0.length c0, .int .i64 x5_1] rfl zg ?_; (with_reducible refine (j11_Match.calls k1 _ _ l0 x5_1 t365 t366 _ ?side1 ?side2 A3.out).mono ?_); (case side1 => exact y11); (case side2 => exact HC0.out); rintro e w' ⟨rfl, ⟨nd, rfl⟩⟩; refine ⟨_, rfl, ?_⟩; have p376 : 0 ≤ (x5_1 : Int) := zo; have q376 : x5_1 < (l0.length : Int) := zo; obtain ⟨ad376, e376, hx376_0⟩ := Kd.at_int HR0.out x5_1 p376 q376; cases e376; replace hx376_0 := zx HB hx376_0; replace p376 := eq_true p376; replace q376 := eq_true q376) | ((with_reducible refine gate_builtin (b := .append) (xs := #[.tmp 34, .tmp 39]) rfl ?_); at_builtin; refine Kd.R_append (Kd.int .u8) (w0 := w) w.heap.size rfl (.tmp 34) (.tmp 39) 27 5 (.int .u8 0) 1 rfl Try.underlying27 info5 rfl (by decide) (by omega) u4 x4_1 (rd l0 x5_1) [.int .u8 (rd l0 x5_1)] (fun k_ => some k_ ≠ (u3 : Value).ownBlock) (fun _ => False) rfl rfl ?aP (fun _ hk => hk.elim) ?aF ?aO ?aB ?aS ?aL ?_; (case aP => exact rfl); (case aB => exact (zb HB)); (case aF => exact (fun k_ hk => Kd.fresh' (Kd.R_lt (zR HO_3.out)) k_ hk)); (case aO => exact (zR HO_4.out)); (case aS => exact y24); (case aL => have := LMc15.out; omega); intro v378 w18 ho hb hg hat; rw [← Ny377.out] at ho; have n0_ := am (Kd.R_after (ok := (fun _ => True)) y31 hg hat); have n1_ := am (hb); have n2_ := am (ho); clear HO_3; clear HB; clear HO_4; have HO_3 := n0_; have HB := n1_; have HO379 := n2_; clear n0_ n1_ n2_; clear ho hb hg hat; obtain ⟨Ao19, co19, eo19⟩ := Kd.R_slice HO379.out; subst eo19; obtain ⟨Ao20, co20, eo20⟩ := Kd.R_slice HO_3.out; subst eo20) | ((with_reducible refine gate_callee (f := 80) rfl ?_); refine goesL_ (some 48) rfl rfl Try.func80 (by kernel_rfl) rfl #[.slice Ao20 x3_1.length co20, .slice Ao19 y377.length co19] rfl zg ?_; (with_reducible refine (j11_literal.calls (fun k_ => some k_ = (.slice Ao20 x3_1.length co20 : Value).ownBlock) (.slice Ao20 x3_1.length co20) x3_1 _ _ y377 t380 w _ ?side1 ?side2 ?side3 ?side4 A17.out).mono ?_); (case side1 => exact y9); (case side2 => exact Kd.R_tight rfl HO_3.out); (case side3 => exact Kd.C_kept_own (HO379.out) (fun k_ hk_ hs_ => (hk_) hs_)); (case side4 => exact (Kd.R_reads' HO379.out).2.1); rintro e w21 ⟨v381, rfl, ho0, hb, hkp⟩; refine ⟨_, rfl, ?_⟩; have n0_ := am (Kd.R_mono (ok' := fun k_ => some k_ ≠ (v381 : Value).ownBlock) (Kd.R_keptB (HO379.out) hkp (fun k_ hk_ hs_ => (hk_) hs_)) (fun k_ hk_ => fun e_ => Or.elim (ho0.1 k_ e_.symm) (fun hs_ => hk_.2.1 hs_) (fun hn_ => Nat.not_le.2 hk_.2.2 hn_))); have n1_ := am (Kd.R_mono (ok' := fun k_ => some k_ ≠ (.slice Ao19 y377.length co19 : Value).ownBlock) ho0 (fun k_ hk_ => Or.elim hk_ (fun hs_ => fun e_ => (((HO379.out).1 k_ e_.symm)) hs_) (fun hn_ => (Kd.fresh' (Kd.R_lt (zR HO379.out)) k_ hn_)))); have n2_ := am (hb); clear HO379; clear HB; clear HO_3; have HO379 := n0_; have HO382 := n1_; have HB := n2_; clear n0_ n1_ n2_; clear hb hkp ho0))
        go_roundg k1
        case measure => have := HK1.out; omega
        case rel => exact ⟨(t380), (([] : List Int)), (wrap64 (x5_1 + 1)), zr, H', ⟨by have := HK1.out; omega⟩, ⟨by (with_reducible repeat (first | apply Kd.R_alloc | apply Kd.R_drewN | apply Kd.R_drew)); exact Kd.R_mono HO382.out (fun _ hk => (by simp [Value.ownBlock]))⟩, ⟨by first | exact Kd.R_nil _ _ _ _ _ | exact Kd.N_nil _ _ _ _ _ | exact Kd.V_nil _ _ _ _ _ | exact Kd.Q_nil _ _ _ _ _ | exact Kd.S_nil _ _ _ _ _⟩, ⟨zb HB⟩⟩
       ·
        rw [if_neg c16] at H
        obtain ⟨c16b0, c16b1⟩ := zs c16
        have H' := am H
        clear H
        go_wp2_with (first | ((with_reducible refine gate_callee (f := 79) rfl ?_); refine goesL_ (some 15) rfl rfl Try.func79 (by kernel_rfl) rfl #[.slice A0 l0.length c0, .int .i64 x5_1] rfl zg ?_; (with_reducible refine (j11_Match.calls k1 _ _ l0 x5_1 t365 t366 _ ?side1 ?side2 A3.out).mono ?_); (case side1 => exact y11); (case side2 => exact HC0.out); rintro e w' ⟨rfl, ⟨nd, rfl⟩⟩; refine ⟨_, rfl, ?_⟩; have p376 : 0 ≤ (x5_1 : Int) := zo; have q376 : x5_1 < (l0.length : Int) := zo; obtain ⟨ad376, e376, hx376_0⟩ := Kd.at_int HR0.out x5_1 p376 q376; cases e376; replace hx376_0 := zx HB hx376_0; replace p376 := eq_true p376; replace q376 := eq_true q376) | ((with_reducible refine gate_builtin (b := .append) (xs := #[.tmp 34, .tmp 39]) rfl ?_); at_builtin; refine Kd.R_append (Kd.int .u8) (w0 := w) w.heap.size rfl (.tmp 34) (.tmp 39) 27 5 (.int .u8 0) 1 rfl Try.underlying27 info5 rfl (by decide) (by omega) u4 x4_1 (rd l0 x5_1) [.int .u8 (rd l0 x5_1)] (fun k_ => some k_ ≠ (u3 : Value).ownBlock) (fun _ => False) rfl rfl ?aP (fun _ hk => hk.elim) ?aF ?aO ?aB ?aS ?aL ?_; (case aP => exact rfl); (case aB => exact (zb HB)); (case aF => exact (fun k_ hk => Kd.fresh' (Kd.R_lt (zR HO_3.out)) k_ hk)); (case aO => exact (zR HO_4.out)); (case aS => exact y24); (case aL => have := LMc15.out; omega); intro v378 w22 ho hb hg hat; rw [← Ny377.out] at ho; have n0_ := am (Kd.R_after (ok := (fun _ => True)) y31 hg hat); have n1_ := am (hb); have n2_ := am (ho); clear HO_3; clear HB; clear HO_4; have HO_3 := n0_; have HB := n1_; have HO379 := n2_; clear n0_ n1_ n2_; clear ho hb hg hat; obtain ⟨Ao23, co23, eo23⟩ := Kd.R_slice HO379.out; subst eo23))
        go_roundg k1
        case measure => have := HK1.out; omega
        case rel => exact ⟨(x3_1), (y377), (wrap64 (x5_1 + 1)), zr, H', ⟨by have := HK1.out; omega⟩, ⟨by (with_reducible repeat (first | apply Kd.R_alloc | apply Kd.R_drewN | apply Kd.R_drew)); exact Kd.R_mono HO_3.out (fun _ hk => hk.2)⟩, ⟨by (with_reducible repeat (first | apply Kd.R_alloc | apply Kd.R_drewN | apply Kd.R_drew)); exact HO379.out⟩, ⟨zb HB⟩⟩
      ·
       rw [if_neg c15] at H
       exact absurd H (by simp)
     ·
      rw [if_neg c14] at H
      exact absurd H (by simp)
   ·
    rw [if_neg c2] at H
    have c2b0 := decide_eq_false c2
    clear c2
    replace H := Option.bind_eq_some_iff.mp H
    obtain ⟨t362, A240, H⟩ := H
    (try dsimp only at H)
    have A24 := am A240
    clear A240
    obtain rfl := Option.some.inj H
    obtain ⟨Ao25, co25, eo25⟩ := Kd.R_slice HO_3.out
    subst eo25
    obtain ⟨Ao26, co26, eo26⟩ := Kd.R_slice HO_4.out
    subst eo26
    go_wp2_with (first | ((with_reducible refine gate_callee (f := 80) rfl ?_); refine goesL_ (some 51) rfl rfl Try.func80 (by kernel_rfl) rfl #[.slice Ao25 x3_1.length co25, .slice Ao26 x4_1.length co26] rfl zg ?_; (with_reducible refine (j11_literal.calls (fun k_ => some k_ = (.slice Ao25 x3_1.length co25 : Value).ownBlock) (.slice Ao25 x3_1.length co25) x3_1 _ _ x4_1 t362 w _ ?side1 ?side2 ?side3 ?side4 A24.out).mono ?_); (case side1 => exact y9); (case side2 => exact Kd.R_tight rfl HO_3.out); (case side3 => exact Kd.C_kept_own (HO_4.out) (fun k_ hk_ hs_ => (hk_) hs_)); (case side4 => exact (Kd.R_reads' HO_4.out).2.1); rintro e w27 ⟨v363, rfl, ho0, hb, hkp⟩; refine ⟨_, rfl, ?_⟩; have n0_ := am (Kd.R_mono (ok' := fun k_ => some k_ ≠ (v363 : Value).ownBlock) (Kd.R_keptB (HO_4.out) hkp (fun k_ hk_ hs_ => (hk_) hs_)) (fun k_ hk_ => fun e_ => Or.elim (ho0.1 k_ e_.symm) (fun hs_ => hk_.2.1 hs_) (fun hn_ => Nat.not_le.2 hk_.2.2 hn_))); have n1_ := am (Kd.R_mono (ok' := fun k_ => some k_ ≠ (.slice Ao26 x4_1.length co26 : Value).ownBlock) ho0 (fun k_ hk_ => Or.elim hk_ (fun hs_ => fun e_ => (((HO_4.out).1 k_ e_.symm)) hs_) (fun hn_ => (Kd.fresh' (Kd.R_lt (zR HO_4.out)) k_ hn_)))); have n2_ := am (hb); clear HO_4; clear HB; clear HO_3; have HO_4 := n0_; have HO364 := n1_; have HB := n2_; clear n0_ n1_ n2_; clear hb hkp ho0))
    go_ret
    exact ⟨_, ze, by (with_reducible repeat (first | apply Kd.R_alloc | apply Kd.R_drewN | apply Kd.R_drew)); exact Kd.R_mono HO364.out (fun _ hk => trivial), zb HB⟩
end Go.Proofs.Ytnmmkgagbfniiaa.A
end
section
namespace Go.Proofs.Ytnmmkgagbfniiaa.Pl
open Go.RowKit Go.Proofs.YtnmmkgagbfniiaaW.PrintWords Go.Proofs.YtnmmkgagbfniiaaW.PrintMore Go.Proofs.Ytnmmkgagbfniiaa.A
set_option linter.unusedVariables false
def ml (b : List Int) (i d : Nat) : Nat → Nat → Nat
 | 0, n => n
 | m + 1, n => if i + n < b.length ∧ rd b ((i + n : Nat) : Int) = rd b ((i + n - d : Nat) : Int) then ml b i d m (n + 1) else n
def up (p : Nat × Nat) (r d : Nat) : Nat × Nat := if p.1 < r then (r, d) else p
def bs (b : List Int) (i : Nat) : Nat → Nat → Nat × Nat → Nat × Nat
 | 0, _, p => p
 | f + 1, d, p => bs b i f (d + 1) (up p (ml b i d 130 0) d)
def lg (b : List Int) (i : Nat) : Nat × Nat := bs b i (min i 255) 1 (0, 0)
theorem ml_zero (b : List Int) (i d n : Nat) : ml b i d 0 n = n := rfl
theorem ml_succ (b : List Int) (i d m n : Nat) : ml b i d (m + 1) n = if i + n < b.length ∧ rd b ((i + n : Nat) : Int) = rd b ((i + n - d : Nat) : Int) then ml b i d m (n + 1) else n := rfl
theorem bs_zero (b : List Int) (i d : Nat) (p : Nat × Nat) : bs b i 0 d p = p := rfl
theorem bs_succ (b : List Int) (i f d : Nat) (p : Nat × Nat) : bs b i (f + 1) d p = bs b i f (d + 1) (up p (ml b i d 130 0) d) := rfl
theorem up_def (p : Nat × Nat) (r d : Nat) : up p r d = if p.1 < r then (r, d) else p := rfl
theorem lg_def (b : List Int) (i : Nat) : lg b i = bs b i (min i 255) 1 (0, 0) := rfl
attribute [irreducible] ml up bs lg
theorem ml_le (b : List Int) (i d : Nat) : ∀ m n, n ≤ ml b i d m n ∧ ml b i d m n ≤ n + m ∧ (i + n ≤ b.length → i + ml b i d m n ≤ b.length) ∧ (∀ j, n ≤ j → j < ml b i d m n → rd b ((i + j : Nat) : Int) = rd b ((i + j - d : Nat) : Int)) := by
 intro m
 induction m with
 | zero => intro n; exact ⟨by simp [ml_zero], by simp [ml_zero], by simp [ml_zero], fun j h h1 => by rw [ml_zero] at h1; omega⟩
 | succ m ih =>
  intro n
  rw [ml_succ]
  by_cases h : i + n < b.length ∧ rd b ((i + n : Nat) : Int) = rd b ((i + n - d : Nat) : Int)
  ·
   rw [if_pos h]
   obtain ⟨h1, h2, h3, h4⟩ := ih (n + 1)
   refine ⟨by omega, by omega, fun _ => h3 (by omega), fun j hj hj2 => ?_⟩
   by_cases e : j = n
   ·
    subst e
    exact h.2
   ·
    exact h4 j (by omega) hj2
  ·
   rw [if_neg h]
   exact ⟨by omega, by omega, fun h => h, fun j h1 h2 => by omega⟩
def Good (b : List Int) (i : Nat) (p : Nat × Nat) : Prop := p.1 = 0 ∨ (p.1 ≤ 130 ∧ i + p.1 ≤ b.length ∧ 1 ≤ p.2 ∧ p.2 ≤ 255 ∧ p.2 ≤ i ∧ ∀ j, j < p.1 → rd b ((i + j : Nat) : Int) = rd b ((i + j - p.2 : Nat) : Int))
theorem bs_good {b : List Int} {i : Nat} (hi : i ≤ b.length) : ∀ f d p, 1 ≤ d → d + f ≤ min i 255 + 1 → Good b i p → Good b i (bs b i f d p) := by
 intro f
 induction f with
 | zero => intro d p _ _ h; rw [bs_zero]; exact h
 | succ f ih =>
  intro d p h1 h2 h
  rw [bs_succ]
  refine ih (d + 1) _ (by omega) (by omega) ?_
  rw [up_def]
  split
  ·
   obtain ⟨m1, m2, m3, m4⟩ := ml_le b i d 130 0
   exact .inr ⟨by simpa using m2, by simpa using m3 (by omega), h1, by show d ≤ 255; omega, by show d ≤ i; omega, fun j hj => m4 j (by omega) hj⟩
  ·
   exact h
theorem lg_good {b : List Int} {i : Nat} (hi : i ≤ b.length) : Good b i (lg b i) := lg_def b i ▸ bs_good hi _ _ _ (by omega) (by omega) (.inl rfl)
section
variable (b : List Int) (hm : b.length ≤ 1000000000000) (i : Nat) (hi : i ≤ b.length)
include hm hi
theorem longest_in (p : Nat × Nat) (d : Nat) (h1 : 1 ≤ d) (hd : d ≤ i) {r : Int × Int} {R : Nat} (h : Ev (fun k => pack_longest.l0 k b (i : Int) ((up p R d).1 : Int) ((up p R d).2 : Int) ((d + 1 : Nat) : Int)) r) (hd2 : d ≤ 255) :
  ∀ m n, n + m = 130 → Aside0 (ml b i d m n = R) → Ev (fun k => pack_longest.l1 k b (i : Int) (p.1 : Int) (p.2 : Int) (d : Int) (n : Int)) r := by
 have ed : wrap64 ((d : Int) + 1) = ((d + 1 : Nat) : Int) := by rw [wrap64_id (by omega) (by omega)]; omega
 have fin : ∀ n : Nat, n = R → Ev (fun k => if (n : Int) > (p.1 : Int) then (pack_longest.l0 k b (i : Int) (n : Int) (d : Int) (wrap64 ((d : Int) + 1))) else (pack_longest.l0 k b (i : Int) (p.1 : Int) (p.2 : Int) (wrap64 ((d : Int) + 1)))) r := by
  intro n hn
  rw [ed]
  rw [← hn] at h
  rw [up_def] at h
  by_cases c : p.1 < n
  ·
   rw [if_pos c] at h
   exact Ev.congr (fun k => by rw [if_pos (by omega)]) h
  ·
   rw [if_neg c] at h
   exact Ev.congr (fun k => by rw [if_neg (by omega)]) h
 intro m
 induction m with
 | zero =>
  intro n hn e
  have e := e.out
  rw [ml_zero] at e
  refine Ev.step (fun k => ?_) (fin n e)
  simp only [pack_longest.l1]
  rw [if_neg (by omega)]
 | succ m ih =>
  intro n hn e
  have e1 : wrap64 ((i : Int) + (n : Int)) = ((i + n : Nat) : Int) := by rw [wrap64_id (by omega) (by omega)]; omega
  have e2 : wrap64 (((i + n : Nat) : Int) - (d : Int)) = ((i + n - d : Nat) : Int) := by rw [wrap64_id (by omega) (by omega)]; omega
  have e3 : wrap64 ((n : Int) + 1) = ((n + 1 : Nat) : Int) := by rw [wrap64_id (by omega) (by omega)]; omega
  have e' := Aside0.mk ((ml_succ b i d m n).symm.trans e.out)
  clear e
  by_cases c : i + n < b.length
  ·
   by_cases c2 : rd b ((i + n : Nat) : Int) = rd b ((i + n - d : Nat) : Int)
   ·
    have e := Aside0.mk ((if_pos ⟨c, c2⟩).symm.trans e'.out)
    refine Ev.step (fun k => ?_) (ih (n + 1) (by omega) e)
    simp only [pack_longest.l1]
    rw [if_pos (by omega), e1, if_pos (by omega), if_pos (by omega), e2, if_pos (by omega), if_pos (by omega), if_pos c2, e3]
   ·
    have e := (if_neg (fun h => c2 h.2)).symm.trans e'.out
    refine Ev.step (fun k => ?_) (fin n e)
    simp only [pack_longest.l1]
    rw [if_pos (by omega), e1, if_pos (by omega), if_pos (by omega), e2, if_pos (by omega), if_pos (by omega), if_neg c2]
  ·
   have e := (if_neg (fun h => c h.1)).symm.trans e'.out
   refine Ev.step (fun k => ?_) (fin n e)
   simp only [pack_longest.l1]
   rw [if_pos (by omega), e1, if_neg (by omega)]
theorem longest_out : ∀ f d p, 1 ≤ d → d + f = min i 255 + 1 → Ev (fun k => pack_longest.l0 k b (i : Int) ((p : Nat × Nat).1 : Int) (p.2 : Int) ((d : Nat) : Int)) (((bs b i f d p).1 : Int), ((bs b i f d p).2 : Int)) := by
 have em : mn (i : Int) 255 = ((min i 255 : Nat) : Int) := by unfold mn; split <;> omega
 intro f
 induction f with
 | zero =>
  intro d p h1 h
  refine Ev.step (f := fun _ => some _) (fun k => ?_) (Ev.now _)
  simp only [pack_longest.l0, bs_zero]
  rw [em, if_neg (by omega)]
 | succ f ih =>
  intro d p h1 h
  rw [bs_succ]
  have := longest_in b hm i hi p d h1 (by omega) (ih (d + 1) (up p (ml b i d 130 0) d) (by omega) (by omega)) (by omega) 130 0 rfl ⟨rfl⟩
  refine Ev.step (fun k => ?_) this
  simp only [pack_longest.l0]
  rw [em, if_pos (by omega)]
  rfl
theorem longest_f : Ev (fun k => pack_longest.f k b (i : Int)) (((lg b i).1 : Int), ((lg b i).2 : Int)) := by
 rw [lg_def]
 exact longest_out b hm i hi (min i 255) 1 (0, 0) (by omega) (by omega)
theorem match_in (p : Nat × Nat) (d : Nat) (h1 : 1 ≤ d) (hd : d ≤ i) {r : Int × Int} {R : Nat} (h : Ev (fun k => j11_Match.l0 k b (i : Int) ((up p R d).1 : Int) ((up p R d).2 : Int) ((d + 1 : Nat) : Int)) r) (hd2 : d ≤ 255) :
  ∀ m n, n + m = 130 → Aside0 (ml b i d m n = R) → Ev (fun k => j11_Match.l1 k b (i : Int) (p.1 : Int) (p.2 : Int) (d : Int) (n : Int)) r := by
 have ed : wrap64 ((d : Int) + 1) = ((d + 1 : Nat) : Int) := by rw [wrap64_id (by omega) (by omega)]; omega
 have fin : ∀ n : Nat, n = R → Ev (fun k => if (n : Int) > (p.1 : Int) then (j11_Match.l0 k b (i : Int) (n : Int) (d : Int) (wrap64 ((d : Int) + 1))) else (j11_Match.l0 k b (i : Int) (p.1 : Int) (p.2 : Int) (wrap64 ((d : Int) + 1)))) r := by
  intro n hn
  rw [ed]
  rw [← hn] at h
  rw [up_def] at h
  by_cases c : p.1 < n
  ·
   rw [if_pos c] at h
   exact Ev.congr (fun k => by rw [if_pos (by omega)]) h
  ·
   rw [if_neg c] at h
   exact Ev.congr (fun k => by rw [if_neg (by omega)]) h
 intro m
 induction m with
 | zero =>
  intro n hn e
  have e := e.out
  rw [ml_zero] at e
  refine Ev.step (fun k => ?_) (fin n e)
  simp only [j11_Match.l1]
  rw [if_neg (by omega)]
 | succ m ih =>
  intro n hn e
  have e1 : wrap64 ((i : Int) + (n : Int)) = ((i + n : Nat) : Int) := by rw [wrap64_id (by omega) (by omega)]; omega
  have e2 : wrap64 (((i + n : Nat) : Int) - (d : Int)) = ((i + n - d : Nat) : Int) := by rw [wrap64_id (by omega) (by omega)]; omega
  have e3 : wrap64 ((n : Int) + 1) = ((n + 1 : Nat) : Int) := by rw [wrap64_id (by omega) (by omega)]; omega
  have e' := Aside0.mk ((ml_succ b i d m n).symm.trans e.out)
  clear e
  by_cases c : i + n < b.length
  ·
   by_cases c2 : rd b ((i + n : Nat) : Int) = rd b ((i + n - d : Nat) : Int)
   ·
    have e := Aside0.mk ((if_pos ⟨c, c2⟩).symm.trans e'.out)
    refine Ev.step (fun k => ?_) (ih (n + 1) (by omega) e)
    simp only [j11_Match.l1]
    rw [if_pos (by omega), e1, if_pos (by omega), if_pos (by omega), e2, if_pos (by omega), if_pos (by omega), if_pos c2, e3]
   ·
    have e := (if_neg (fun h => c2 h.2)).symm.trans e'.out
    refine Ev.step (fun k => ?_) (fin n e)
    simp only [j11_Match.l1]
    rw [if_pos (by omega), e1, if_pos (by omega), if_pos (by omega), e2, if_pos (by omega), if_pos (by omega), if_neg c2]
  ·
   have e := (if_neg (fun h => c h.1)).symm.trans e'.out
   refine Ev.step (fun k => ?_) (fin n e)
   simp only [j11_Match.l1]
   rw [if_pos (by omega), e1, if_neg (by omega)]
def mt (p : Nat × Nat) : Nat × Nat := if p.1 < 3 then (0, 0) else p
omit hm hi in
theorem match_end (p : Nat × Nat) (d : Int) : Ev (fun k => j11_Match.j1 k b (i : Int) (p.1 : Int) (p.2 : Int) d false) (((mt p).1 : Int), ((mt p).2 : Int)) := by
 refine Ev.step (f := fun _ => some _) (fun k => ?_) (Ev.now _)
 simp only [j11_Match.j1]
 rw [if_neg (by simp)]
 unfold mt
 by_cases c : p.1 < 3
 ·
  rw [if_pos (by omega), if_pos c]
  rfl
 ·
  rw [if_neg (by omega), if_neg c]
theorem match_out : ∀ f d p, 1 ≤ d → d + f = min i 255 + 1 → Ev (fun k => j11_Match.l0 k b (i : Int) ((p : Nat × Nat).1 : Int) (p.2 : Int) ((d : Nat) : Int)) (((mt (bs b i f d p)).1 : Int), ((mt (bs b i f d p)).2 : Int)) := by
 intro f
 induction f with
 | zero =>
  intro d p h1 h
  refine Ev.step (fun k => ?_) (by rw [bs_zero]; exact match_end b i p (d : Int))
  simp only [j11_Match.l0]
  by_cases c : (d : Int) ≤ 255
  ·
   rw [if_pos c, show decide ((d : Int) ≤ (i : Int)) = false from decide_eq_false (by omega)]
  ·
   rw [if_neg c]
 | succ f ih =>
  intro d p h1 h
  rw [bs_succ]
  have := match_in b hm i hi p d h1 (by omega) (ih (d + 1) (up p (ml b i d 130 0) d) (by omega) (by omega)) (by omega) 130 0 rfl ⟨rfl⟩
  refine Ev.step (f := fun k => j11_Match.j1 k b (i : Int) (p.1 : Int) (p.2 : Int) (d : Int) true) (fun k => ?_) (Ev.step (fun k => ?_) this)
  ·
   simp only [j11_Match.l0]
   rw [if_pos (by omega), show decide ((d : Int) ≤ (i : Int)) = true from decide_eq_true (by omega)]
  ·
   simp only [j11_Match.j1]
   rw [if_pos trivial]
   rfl
theorem match_f : Ev (fun k => j11_Match.f k b (i : Int)) (((mt (lg b i)).1 : Int), ((mt (lg b i)).2 : Int)) := by
 rw [lg_def]
 exact match_out b hm i hi (min i 255) 1 (0, 0) (by omega) (by omega)
end
def lit (b : List Int) (s e : Nat) : List Int := if s < e then (((e - s - 1 : Nat) : Int)) :: (b.take e).drop s else []
def pk (b : List Int) : Nat → Nat → Nat → List Int
 | 0, _, _ => []
 | n + 1, i, s =>
  if i < b.length then
   (if (lg b i).1 < 3 then (if i + 1 - s = 128 then lit b s (i + 1) ++ pk b n (i + 1) (i + 1) else pk b n (i + 1) s)
   else lit b s i ++ ([((((lg b i).1 + 125 : Nat)) : Int), ((lg b i).2 : Int)] ++ pk b n (i + (lg b i).1) (i + (lg b i).1)))
  else lit b s b.length
def packS (b : List Int) : List Int := pk b (b.length + 1) 0 0
theorem lit_length {b : List Int} {s e : Nat} (he : e ≤ b.length) : (lit b s e).length = if s < e then e - s + 1 else 0 := by
 unfold lit
 split
 ·
  rw [List.length_cons, List.length_drop, List.length_take]; omega
 ·
  rfl
theorem lg_bounds {b : List Int} {i : Nat} (hi : i ≤ b.length) (h : ¬ (lg b i).1 < 3) : (lg b i).1 ≤ 130 ∧ i + (lg b i).1 ≤ b.length ∧ 1 ≤ (lg b i).2 ∧ (lg b i).2 ≤ 255 ∧ (lg b i).2 ≤ i := by
 rcases lg_good hi with h0 | ⟨h1, h2, h3, h4, h5, _⟩
 ·
  omega
 ·
  exact ⟨h1, h2, h3, h4, h5⟩
theorem pk_length (b : List Int) : ∀ n i s, s ≤ i → i ≤ b.length → i - s < 128 → b.length - i < n → (pk b n i s).length ≤ (b.length - s) + (b.length - s + 127) / 128 := by
 intro n
 induction n with
 | zero => intro i s _ _ _ h; omega
 | succ n ih =>
  intro i s hs hi hp hn
  rw [pk]
  by_cases c : i < b.length
  ·
   rw [if_pos c]
   by_cases c1 : (lg b i).1 < 3
   ·
    rw [if_pos c1]
    by_cases c2 : i + 1 - s = 128
    ·
     rw [if_pos c2, List.length_append, lit_length (by omega), if_pos (by omega)]
     have := ih (i + 1) (i + 1) (by omega) (by omega) (by omega) (by omega)
     omega
    ·
     rw [if_neg c2]
     have := ih (i + 1) s (by omega) (by omega) (by omega) (by omega)
     omega
   ·
    rw [if_neg c1, List.length_append, List.length_append, lit_length (by omega)]
    obtain ⟨g1, g2, _⟩ := lg_bounds (by omega) c1
    have := ih (i + (lg b i).1) (i + (lg b i).1) (by omega) (by omega) (by omega) (by omega)
    simp only [List.length_cons, List.length_nil]
    generalize (lg b i).1 = l at *
    split <;> omega
  ·
   rw [if_neg c, lit_length (by omega)]
   split <;> omega
theorem packS_length (b : List Int) : (packS b).length ≤ b.length + (b.length + 127) / 128 := by
 have := pk_length b (b.length + 1) 0 0 (by omega) (by omega) (by omega) (by omega)
 simpa [packS] using this
theorem flush_is {b out : List Int} {s e : Nat} (he : e ≤ b.length) (h1 : e - s ≤ 128) (hl : out.length + (lit b s e).length < 140737488355328) : pack_Pack.flush b out (s : Int) (e : Int) = some (out ++ lit b s e) := by
 rw [lit_length he] at hl
 unfold pack_Pack.flush lit
 by_cases c : s < e
 ·
  rw [if_pos c] at hl
  rw [if_pos (by omega), if_pos (by omega), if_pos c]
  rw [show ((e : Int) - (s : Int) - 1) % 256 = ((e - s - 1 : Nat) : Int) by omega]
  simp
 ·
  rw [if_neg (by omega), if_neg c, List.append_nil]
theorem ev_all {α : Type} {f : Nat → Nat → Option α} {r : Nat → α} : ∀ n, (∀ i, i < n → Ev (fun k => f k i) (r i)) → ∃ K, ∀ k, K ≤ k → ∀ i, i < n → f k i = some (r i) := by
 intro n
 induction n with
 | zero => intro _; exact ⟨0, fun k _ i h => by omega⟩
 | succ n ih =>
  intro h
  obtain ⟨K, hK⟩ := ih (fun i hi => h i (by omega))
  obtain ⟨K2, hK2⟩ := h n (by omega)
  refine ⟨max K K2, fun k hk i hi => ?_⟩
  by_cases e : i = n
  ·
   subst e
   exact hK2 k (by omega)
  ·
   exact hK k (by omega) i (by omega)
theorem go_is {b : List Int} {k : Nat} (hK : ∀ i, i < b.length → pack_longest.f k b (i : Int) = some (((lg b i).1 : Int), ((lg b i).2 : Int))) :
  ∀ n m i s out, s ≤ i → i ≤ b.length → i - s < 128 → b.length - i < n → n ≤ m → out.length + (pk b n i s).length + 3 < 140737488355328 →
   pack_Pack.go k b m (i : Int) (s : Int) out = some (out ++ pk b n i s) := by
 intro n
 induction n with
 | zero => intro m i s out _ _ _ h; omega
 | succ n ih =>
  intro m i s out hs hi hp hn hm hl
  obtain ⟨m, rfl⟩ : ∃ m', m = m' + 1 := ⟨m - 1, by omega⟩
  rw [pack_Pack.go]
  rw [pk] at hl ⊢
  by_cases c : i < b.length
  ·
   rw [if_pos c] at hl ⊢
   rw [if_pos (by omega), hK i c, Option.bind_some]
   have e1 : (i : Int) + 1 = ((i + 1 : Nat) : Int) := by omega
   by_cases c1 : (lg b i).1 < 3
   ·
    rw [if_pos c1] at hl ⊢
    rw [if_pos (by show ((lg b i).1 : Int) < 3; omega), e1]
    by_cases c2 : i + 1 - s = 128
    ·
     rw [if_pos c2] at hl ⊢
     rw [List.length_append] at hl
     rw [if_pos (by omega), flush_is (by omega) (by omega) (by omega), Option.bind_some, ih m (i + 1) (i + 1) _ (by omega) (by omega) (by omega) (by omega) (by omega) (by rw [List.length_append]; omega), List.append_assoc]
    ·
     rw [if_neg c2] at hl ⊢
     rw [if_neg (by omega)]
     exact ih m (i + 1) s out (by omega) (by omega) (by omega) (by omega) (by omega) (by omega)
   ·
    rw [if_neg c1] at hl ⊢
    obtain ⟨g1, g2, _, g4, _⟩ := lg_bounds (by omega) c1
    rw [List.length_append, List.length_append] at hl
    simp only [List.length_cons, List.length_nil] at hl
    have e2 : (i : Int) + ((lg b i).1 : Int) = ((i + (lg b i).1 : Nat) : Int) := by omega
    have e3 : ((lg b i).1 : Int) - 3 + 128 = (((lg b i).1 + 125 : Nat) : Int) := by omega
    have e4 : ((lg b i).2 : Int) % 256 = ((lg b i).2 : Int) := by omega
    rw [if_neg (by show ¬ ((lg b i).1 : Int) < 3; omega), if_pos (by constructor <;> (show ((_ : Int) ≤ _); omega)), flush_is (by omega) (by omega) (by omega), Option.bind_some, if_pos (by rw [List.length_append]; omega)]
    show pack_Pack.go k b m ((i : Int) + ((lg b i).1 : Int)) ((i : Int) + ((lg b i).1 : Int)) (out ++ lit b s i ++ [((lg b i).1 : Int) - 3 + 128, ((lg b i).2 : Int) % 256]) = _
    rw [e2, e3, e4, ih m _ _ _ (by omega) (by omega) (by omega) (by omega) (by omega) (by rw [List.length_append, List.length_append]; simp only [List.length_cons, List.length_nil]; omega), List.append_assoc, List.append_assoc]
  ·
   rw [if_neg c] at hl ⊢
   obtain rfl : i = b.length := by omega
   rw [if_neg (by omega), flush_is (by omega) (by omega) (by omega)]
theorem pack_f (b : List Int) (hm : b.length ≤ 1000000000000) : Ev (fun k => pack_Pack.f k b) (packS b) := by
 obtain ⟨K, hK⟩ := ev_all (f := fun k i => pack_longest.f k b (i : Int)) (r := fun i => (((lg b i).1 : Int), ((lg b i).2 : Int))) b.length (fun i hi => longest_f b hm i (by omega))
 refine ⟨max K (b.length + 1), fun k hk => ?_⟩
 have h1 := packS_length b
 have := go_is (hK k (by omega)) (b.length + 1) k 0 0 [] (by omega) (by omega) (by omega) (by omega) (by omega) (by simp only [List.length_nil]; unfold packS at h1; omega)
 exact this
theorem refLit_is {b out : List Int} {s e : Nat} (hs : s ≤ e) (he : e ≤ b.length) (h1 : e - s ≤ 128) (hl : out.length + (lit b s e).length < 140737488355328) : j11_literal.f out ((b.take e).drop s) = some (out ++ lit b s e) := by
 have hlen : ((b.take e).drop s).length = e - s := by rw [List.length_drop, List.length_take]; omega
 rw [lit_length he] at hl
 unfold j11_literal.f lit
 rw [hlen]
 by_cases c : s < e
 ·
  rw [if_pos c] at hl
  rw [if_neg (by omega), if_pos (by omega), if_pos c, wrap64_id (by omega) (by omega)]
  show (if (out ++ [(((e - s : Nat) : Int) - 1) % 256]).length + (e - s) < 140737488355328 then _ else _) = _
  rw [if_pos (by simp; omega), show (((e - s : Nat) : Int) - 1) % 256 = ((e - s - 1 : Nat) : Int) by omega]
  simp
 ·
  rw [if_pos (by omega), if_neg c, List.append_nil]
theorem take_snoc {b : List Int} {i s : Nat} (hi : i < b.length) (hs : s ≤ i) : (b.take i).drop s ++ [rd b (i : Int)] = (b.take (i + 1)).drop s := by
 rw [List.take_add_one, List.getElem?_eq_getElem hi, List.drop_append_of_le_length (by rw [List.length_take]; omega), rd_at hi]
 rfl
theorem wrap_add {i l : Nat} (h : i + l ≤ 1000000000000) : wrap64 ((i : Int) + (l : Int)) = ((i + l : Nat) : Int) := by rw [wrap64_id (by omega) (by omega)]; omega
theorem wrap_125 {l : Nat} (h : l ≤ 130) : wrap64 ((l : Int) + 125) % 256 = ((l + 125 : Nat) : Int) := by rw [wrap64_id (by omega) (by omega)]; omega
theorem mod_byte {d : Nat} (h : d ≤ 255) : (d : Int) % 256 = (d : Int) := by omega
theorem refPack_l0 {b : List Int} (hm : b.length ≤ 1000000000000) :
  ∀ n i s out, s ≤ i → i ≤ b.length → i - s < 128 → b.length - i < n → out.length + (pk b n i s).length + 3 < 140737488355328 →
   Ev (fun k => j11_Pack.l0 k b out ((b.take i).drop s) (i : Int)) (out ++ pk b n i s) := by
 intro n
 induction n with
 | zero => intro i s out _ _ _ h; omega
 | succ n ih =>
  intro i s out hs hi hp hn hl
  rw [pk] at hl ⊢
  by_cases c : i < b.length
  ·
   rw [if_pos c] at hl ⊢
   have hM := match_f b hm i (by omega)
   have e1 : Aside0 (wrap64 ((i : Int) + 1) = ((i + 1 : Nat) : Int)) := ⟨by rw [wrap64_id (by omega) (by omega)]; omega⟩
   refine Ev.step (fun k => by simp only [j11_Pack.l0]; rw [if_pos (by omega)]) (Ev.bind hM ?_)
   have hG := lg_bounds (b := b) (i := i) (by omega)
   clear hM
   generalize lg b i = p at hG hl ⊢
   obtain ⟨l, d⟩ := p
   dsimp only at hG hl ⊢
   by_cases c1 : l < 3
   ·
    rw [if_pos c1] at hl ⊢
    rw [show mt (l, d) = (0, 0) from if_pos c1]
    refine Ev.congr (f := fun k => (if ((b.take (i + 1)).drop s).length = 128 then ((j11_literal.f out ((b.take (i + 1)).drop s)).bind fun t269 => (j11_Pack.l0 k b t269 ([] : List Int) ((i + 1 : Nat) : Int))) else (j11_Pack.l0 k b out ((b.take (i + 1)).drop s) ((i + 1 : Nat) : Int)))) (fun k => ?_) ?_
    ·
     show (if ((0 : Nat) : Int) > 0 then _ else _) = _
     rw [if_neg (by omega), if_pos (by omega), if_pos (by rw [List.length_drop, List.length_take]; omega), take_snoc c hs, e1.out, Option.bind_some]
     by_cases c3 : ((b.take (i + 1)).drop s).length = 128
     ·
      rw [if_pos (by omega), if_pos c3]
     ·
      rw [if_neg (by omega), if_neg c3]
    ·
     have hlen : ((b.take (i + 1)).drop s).length = i + 1 - s := by rw [List.length_drop, List.length_take]; omega
     rw [hlen]
     by_cases c2 : i + 1 - s = 128
     ·
      rw [if_pos c2] at hl ⊢
      rw [List.length_append] at hl
      refine Ev.congr (fun k => by rw [if_pos c2, refLit_is (by omega) (by omega) (by omega) (by omega), Option.bind_some]) ?_
      have := ih (i + 1) (i + 1) (out ++ lit b s (i + 1)) (by omega) (by omega) (by omega) (by omega) (by rw [List.length_append]; omega)
      rw [List.drop_of_length_le (by rw [List.length_take]; omega), List.append_assoc] at this
      exact this
     ·
      rw [if_neg c2] at hl ⊢
      exact Ev.congr (fun k => by rw [if_neg c2]) (ih (i + 1) s out (by omega) (by omega) (by omega) (by omega) (by omega))
   ·
    rw [if_neg c1] at hl ⊢
    obtain ⟨g1, g2, _, g4, _⟩ := hG c1
    rw [show mt (l, d) = (l, d) from if_neg c1]
    rw [List.length_append, List.length_append] at hl
    simp only [List.length_cons, List.length_nil] at hl
    have e2 := Aside0.mk (wrap_add (i := i) (l := l) (by omega))
    have e3 := Aside0.mk (wrap_125 g1)
    have e4 := Aside0.mk (mod_byte g4)
    have := Aside0.mk (ih (i + l) (i + l) (out ++ lit b s i ++ [((l + 125 : Nat) : Int), (d : Int)]) (by omega) (by omega) (by omega) (by omega) (by rw [List.length_append, List.length_append]; simp only [List.length_cons, List.length_nil]; omega))
    have this := this.out
    rw [List.drop_of_length_le (by rw [List.length_take]; omega)] at this
    rw [show out ++ (lit b s i ++ ([((l + 125 : Nat) : Int), (d : Int)] ++ pk b n (i + l) (i + l))) = out ++ lit b s i ++ [((l + 125 : Nat) : Int), (d : Int)] ++ pk b n (i + l) (i + l) by simp only [List.append_assoc]]
    refine Ev.congr (fun k => ?_) this
    clear this
    show (if (l : Int) > 0 then _ else _) = _
    rw [if_pos (by omega), refLit_is (by omega) (by omega) (by omega) (by omega), Option.bind_some, Option.bind_some, if_pos (by rw [List.length_append]; simp only [List.length_cons, List.length_nil]; omega)]
    show j11_Pack.l0 k b (out ++ lit b s i ++ [wrap64 ((l : Int) + 125) % 256, (d : Int) % 256]) [] (wrap64 ((i : Int) + (l : Int))) = _
    rw [e2.out, e3.out, e4.out]
  ·
   rw [if_neg c] at hl ⊢
   obtain rfl : i = b.length := by omega
   refine Ev.step (f := fun _ => some _) (fun k => ?_) (Ev.now _)
   simp only [j11_Pack.l0]
   rw [if_neg (by omega), refLit_is (by omega) (by omega) (by omega) (by omega)]
   rfl
theorem refPack_f (b : List Int) (hm : b.length ≤ 1000000000000) : Ev (fun k => j11_Pack.f k b) (packS b) := by
 have h1 := packS_length b
 exact refPack_l0 hm (b.length + 1) 0 0 [] (by omega) (by omega) (by omega) (by omega) (by simp only [List.length_nil]; unfold packS at h1; omega)
inductive Ch (b : List Int) : Nat → List Int → Prop
 | done : Ch b b.length []
 | lit (s e : Nat) (t : List Int) : s < e → e ≤ b.length → e - s ≤ 128 → Ch b e t → Ch b s (((e - s - 1 : Nat) : Int) :: ((b.take e).drop s ++ t))
 | copy (s l d : Nat) (t : List Int) : 3 ≤ l → l ≤ 130 → 1 ≤ d → d ≤ 255 → d ≤ s → s + l ≤ b.length → (∀ j, j < l → rd b ((s + j : Nat) : Int) = rd b ((s + j - d : Nat) : Int)) → Ch b (s + l) t → Ch b s (((l + 125 : Nat) : Int) :: (d : Int) :: t)
theorem lit_ch {b t : List Int} {s e : Nat} (hs : s ≤ e) (he : e ≤ b.length) (h1 : e - s ≤ 128) (h : Ch b e t) : Ch b s (lit b s e ++ t) := by
 unfold lit
 by_cases c : s < e
 ·
  rw [if_pos c]
  exact .lit s e t c he h1 h
 ·
  rw [if_neg c]
  obtain rfl : s = e := by omega
  exact h
theorem pk_ch (b : List Int) : ∀ n i s, s ≤ i → i ≤ b.length → i - s < 128 → b.length - i < n → Ch b s (pk b n i s) := by
 intro n
 induction n with
 | zero => intro i s _ _ _ h; omega
 | succ n ih =>
  intro i s hs hi hp hn
  have hG := lg_good hi
  rw [pk]
  generalize lg b i = p at hG ⊢
  obtain ⟨l, d⟩ := p
  unfold Good at hG
  dsimp only at hG ⊢
  by_cases c : i < b.length
  ·
   rw [if_pos c]
   by_cases c1 : l < 3
   ·
    rw [if_pos c1]
    by_cases c2 : i + 1 - s = 128
    ·
     rw [if_pos c2]
     exact lit_ch (by omega) (by omega) (by omega) (ih (i + 1) (i + 1) (by omega) (by omega) (by omega) (by omega))
    ·
     rw [if_neg c2]
     exact ih (i + 1) s (by omega) (by omega) (by omega) (by omega)
   ·
    rw [if_neg c1]
    rcases hG with h0 | ⟨h1, h2, h3, h4, h5, h6⟩
    ·
     omega
    ·
     refine lit_ch (by omega) (by omega) (by omega) ?_
     exact .copy i l d _ (by omega) h1 h3 h4 h5 h2 h6 (ih (i + l) (i + l) (by omega) (by omega) (by omega) (by omega))
  ·
   rw [if_neg c]
   obtain rfl : i = b.length := by omega
   have := lit_ch (b := b) (t := []) hs (by omega) (by omega) .done
   rwa [List.append_nil] at this
theorem packS_ch (b : List Int) : Ch b 0 (packS b) := pk_ch b (b.length + 1) 0 0 (by omega) (by omega) (by omega) (by omega)
theorem ch_bytes {b : List Int} (hb : ∀ c ∈ b, 0 ≤ c ∧ c < 256) {s : Nat} {t : List Int} (h : Ch b s t) : ∀ c ∈ t, 0 ≤ c ∧ c < 256 := by
 induction h with
 | done => intro c hc; simp at hc
 | lit s e t h1 h2 h3 _ ih =>
  intro c hc
  rcases List.mem_cons.1 hc with rfl | hc
  ·
   omega
  ·
   rcases List.mem_append.1 hc with hc | hc
   ·
    exact hb c (List.mem_of_mem_take (List.mem_of_mem_drop hc))
   ·
    exact ih c hc
 | copy s l d t h1 h2 h3 h4 h5 h6 h7 _ ih =>
  intro c hc
  rcases List.mem_cons.1 hc with rfl | hc
  ·
   omega
  ·
   rcases List.mem_cons.1 hc with rfl | hc
   ·
    omega
   ·
    exact ih c hc
end Go.Proofs.Ytnmmkgagbfniiaa.Pl
end
section
namespace Go.Proofs.Ytnmmkgagbfniiaa.Pl
open Go.RowKit Go.Proofs.YtnmmkgagbfniiaaW.PrintWords Go.Proofs.YtnmmkgagbfniiaaW.PrintMore
set_option linter.unusedVariables false
def crcBit (c : Nat) : Nat := if c % 2 = 1 then (c / 2) ^^^ 3988292384 else c / 2
def crcBits : Nat → Nat → Nat
 | 0, c => c
 | n + 1, c => crcBits n (crcBit c)
def crcByte (c : Nat) (x : Int) : Nat := crcBits 8 (c ^^^ x.toNat)
def crc (c : Nat) (l : List Int) : Nat := l.foldl crcByte c
def sumS (l : List Int) : Nat := 4294967295 ^^^ crc 4294967295 l
theorem crcBit_lt {c : Nat} (h : c < 4294967296) : crcBit c < 4294967296 := by
 unfold crcBit
 split
 ·
  have : (c / 2) ^^^ 3988292384 < 2 ^ 32 := Nat.xor_lt_two_pow (by omega) (by omega)
  omega
 ·
  omega
theorem crcBits_lt : ∀ (n : Nat) {c : Nat}, c < 4294967296 → crcBits n c < 4294967296
 | 0, _, h => h
 | n + 1, _, h => crcBits_lt n (crcBit_lt h)
theorem xor_byte_lt {c : Nat} {x : Int} (h : c < 4294967296) (hx : x < 256) : c ^^^ x.toNat < 4294967296 := by
 have : c ^^^ x.toNat < 2 ^ 32 := Nat.xor_lt_two_pow (by omega) (by omega)
 omega
theorem crcByte_lt {c : Nat} {x : Int} (h : c < 4294967296) (hx : x < 256) : crcByte c x < 4294967296 := crcBits_lt 8 (xor_byte_lt h hx)
end Go.Proofs.Ytnmmkgagbfniiaa.Pl
end
section
namespace Go.Proofs.Ytnmmkgagbfniiaa.A
open Go.RowKit Go.Proofs.YtnmmkgagbfniiaaW.PrintWords Go.Proofs.YtnmmkgagbfniiaaW.PrintLast Go.Proofs.YtnmmkgagbfniiaaW.PrintMore
attribute [local go_sem] max2_int min2_int max_two min_two max_three min_three max_four min_four
set_option linter.unusedVariables false
set_option linter.unusedSimpArgs false
mutual
def block_Sum.l0 : Nat → Int → List Int → Int → Int → Option (Int)
 | 0, _, _, _, _ => none
 | k + 1, x3, x7, x8, x9 => if x9 < x8 then (if 0 ≤ x9 then (if x9 < (x7.length : Int) then (block_Sum.l1 k (Go.bits .xor .u32 x3 ((rd x7 x9) % 4294967296)) x7 x8 x9 0) else (none)) else (none)) else (some (Go.bits .xor .u32 4294967295 x3))
def block_Sum.l1 : Nat → Int → List Int → Int → Int → Int → Option (Int)
 | 0, _, _, _, _, _ => none
 | k + 1, x3, x7, x8, x9, x17 => if x17 < 8 then (if (Go.bits .and .u32 x3 1) = 1 then (block_Sum.l1 k (Go.bits .xor .u32 (x3 / 2) 3988292384) x7 x8 x9 (wrap64 (x17 + 1))) else (block_Sum.l1 k (x3 / 2) x7 x8 x9 (wrap64 (x17 + 1)))) else (block_Sum.l0 k x3 x7 x8 (wrap64 (x9 + 1)))
end
def block_Sum.f (k : Nat) (l0 : List Int) : Option (Int) := block_Sum.l0 k 4294967295 l0 (l0.length : Int) 0
theorem block_Sum.mono_l : ∀ k, (∀ y0 y1 y2 y3, LeO (block_Sum.l0 k y0 y1 y2 y3) (block_Sum.l0 (k + 1) y0 y1 y2 y3)) ∧ (∀ y0 y1 y2 y3 y4, LeO (block_Sum.l1 k y0 y1 y2 y3 y4) (block_Sum.l1 (k + 1) y0 y1 y2 y3 y4))
 | 0 => ⟨fun _ _ _ _ r h => by simp [block_Sum.l0] at h, fun _ _ _ _ _ r h => by simp [block_Sum.l1] at h⟩
 | k + 1 => by
  obtain ⟨ih0, ih1⟩ := block_Sum.mono_l k
  refine ⟨?_, ?_⟩
  ·
   intro y0 y1 y2 y3
   unfold block_Sum.l0
   exact zM
  ·
   intro y0 y1 y2 y3 y4
   unfold block_Sum.l1
   exact zM
theorem block_Sum.mono : ∀ a0 k, LeO (block_Sum.f k a0) (block_Sum.f (k + 1) a0) := by
 intro a0 k
 obtain ⟨ih0, ih1⟩ := block_Sum.mono_l k
 unfold block_Sum.f
 exact zM
set_option maxHeartbeats 8000000 in
set_option maxRecDepth 100000 in
theorem block_Sum.calls (k : Nat) (A0 : Option Addr) (c0 : Nat) (l0 : List Int) (r : Int) (w : World) (hr0 : Kd.C (Kd.int .u8) w A0 l0.length l0) (hc0 : l0.length ≤ c0) (h : block_Sum.f k l0 = some r) :
  Calls Try.prog 57 #[.slice A0 l0.length c0] w fun e w' => e = .returned (.int .u32 r) ∧ Drawn0 w w' := by
 have HR0 := am hr0
 have HC0 := am hc0
 clear hr0 hc0
 have H : (block_Sum.l0 k 4294967295 l0 (l0.length : Int) 0) = some r := h
 clear h
 have H' := am H
 clear H
 go_enter Try.func57, Try.ntmps57
 go_wp2
 go_loopg [3, 9] k (fun kq v3 v9 w' => ∃ (x3_1 : Int) (x9_1 : Int), v3 = .int .u32 x3_1 ∧ v9 = .int .i64 x9_1 ∧ Aside0 (block_Sum.l0 kq x3_1 l0 (l0.length : Int) x9_1 = some r) ∧ Aside0 (kq ≤ k) ∧ Drawn0 w w')
 case atStart => exact ⟨(4294967295), (0), zr, zr, H', ⟨Nat.le_refl _⟩, by repeat (first | exact Drawn0.refl _ | apply Drawn0.step)⟩
 case round =>
  clear H'
  obtain ⟨x3_1, x9_1, rfl, rfl, HA, HK1, ⟨m1, rfl⟩⟩ := hrel
  cases gk with
  | zero => exact absurd HA.out (by simp [block_Sum.l0])
  | succ k1 =>
   have H := HA.out
   clear HA
   simp only [block_Sum.l0] at H
   by_cases c2 : x9_1 < (l0.length : Int)
   ·
    rw [if_pos c2] at H
    have c2b0 := decide_eq_true c2
    clear c2
    by_cases c3 : 0 ≤ x9_1
    ·
     rw [if_pos c3] at H
     have c3b0 := decide_eq_true c3
     clear c3
     by_cases c4 : x9_1 < (l0.length : Int)
     ·
      rw [if_pos c4] at H
      have c4b0 := decide_eq_true c4
      clear c4
      have H' := am H
      clear H
      have p307 : 0 ≤ (x9_1 : Int) := zo
      have q307 : x9_1 < (l0.length : Int) := zo
      obtain ⟨ad307, e307, hx307_0⟩ := Kd.at_int HR0.out x9_1 p307 q307
      cases e307
      replace p307 := eq_true p307
      replace q307 := eq_true q307
      go_wp2
      go_loopg [3, 17] k1 (fun kq v3 v17 w' => ∃ (x3_2 : Int) (x17_2 : Int), v3 = .int .u32 x3_2 ∧ v17 = .int .i64 x17_2 ∧ Aside0 (block_Sum.l1 kq x3_2 l0 (l0.length : Int) x9_1 x17_2 = some r) ∧ Aside0 (kq ≤ k1) ∧ Drawn0 w w')
      case atStart => exact ⟨(Go.bits .xor .u32 x3_1 ((rd l0 x9_1) % 4294967296)), (0), zr, zr, H', ⟨Nat.le_refl _⟩, by repeat (first | exact Drawn0.refl _ | apply Drawn0.step)⟩
      case round =>
       clear H'
       obtain ⟨x3_2, x17_2, rfl, rfl, HA, HK2, ⟨m2, rfl⟩⟩ := hrel
       cases gk with
       | zero => exact absurd HA.out (by simp [block_Sum.l1])
       | succ k2 =>
        have H := HA.out
        clear HA
        simp only [block_Sum.l1] at H
        by_cases c5 : x17_2 < 8
        ·
         rw [if_pos c5] at H
         have c5b0 := decide_eq_true c5
         clear c5
         by_cases c6 : (Go.bits .and .u32 x3_2 1) = 1
         ·
          rw [if_pos c6] at H
          obtain ⟨c6b0, c6b1⟩ := zt c6
          clear c6
          have H' := am H
          clear H
          go_wp2
          go_roundg k2
          case measure => have := HK1.out; have := HK2.out; omega
          case rel => exact ⟨(Go.bits .xor .u32 (x3_2 / 2) 3988292384), (wrap64 (x17_2 + 1)), zr, zr, H', ⟨by have := HK1.out; have := HK2.out; omega⟩, by repeat (first | exact Drawn0.refl _ | apply Drawn0.step)⟩
         ·
          rw [if_neg c6] at H
          obtain ⟨c6b0, c6b1⟩ := zs c6
          have H' := am H
          clear H
          go_wp2
          go_roundg k2
          case measure => have := HK1.out; have := HK2.out; omega
          case rel => exact ⟨(x3_2 / 2), (wrap64 (x17_2 + 1)), zr, zr, H', ⟨by have := HK1.out; have := HK2.out; omega⟩, by repeat (first | exact Drawn0.refl _ | apply Drawn0.step)⟩
        ·
         rw [if_neg c5] at H
         have c5b0 := decide_eq_false c5
         clear c5
         have H' := am H
         clear H
         go_wp2
         go_roundg k2
         case measure => have := HK1.out; have := HK2.out; omega
         case rel => exact ⟨(x3_2), (wrap64 (x9_1 + 1)), zr, zr, H', ⟨by have := HK1.out; have := HK2.out; omega⟩, by repeat (first | exact Drawn0.refl _ | apply Drawn0.step)⟩
     ·
      rw [if_neg c4] at H
      exact absurd H (by simp)
    ·
     rw [if_neg c3] at H
     exact absurd H (by simp)
   ·
    rw [if_neg c2] at H
    have c2b0 := decide_eq_false c2
    clear c2
    obtain rfl := Option.some.inj H
    go_wp2
    go_ret
    exact y3
mutual
def j11_Sum.l0 : Nat → List Int → Int → Int → Option (Int)
 | 0, _, _, _ => none
 | k + 1, x0, x3, x4 => if x4 < (x0.length : Int) then (if 0 ≤ x4 then (j11_Sum.l1 k x0 (Go.bits .xor .u32 x3 ((rd x0 x4) % 4294967296)) x4 0) else (none)) else (some (Go.bits .xor .u32 x3 4294967295))
def j11_Sum.l1 : Nat → List Int → Int → Int → Int → Option (Int)
 | 0, _, _, _, _ => none
 | k + 1, x0, x3, x4, x5 => if x5 < 8 then (if (Go.bits .and .u32 x3 1) = 1 then (j11_Sum.l1 k x0 (Go.bits .xor .u32 (x3 / 2) 3988292384) x4 (wrap64 (x5 + 1))) else (j11_Sum.l1 k x0 (x3 / 2) x4 (wrap64 (x5 + 1)))) else (j11_Sum.l0 k x0 x3 (wrap64 (x4 + 1)))
end
def j11_Sum.f (k : Nat) (l0 : List Int) : Option (Int) := j11_Sum.l0 k l0 4294967295 0
theorem j11_Sum.mono_l : ∀ k, (∀ y0 y1 y2, LeO (j11_Sum.l0 k y0 y1 y2) (j11_Sum.l0 (k + 1) y0 y1 y2)) ∧ (∀ y0 y1 y2 y3, LeO (j11_Sum.l1 k y0 y1 y2 y3) (j11_Sum.l1 (k + 1) y0 y1 y2 y3))
 | 0 => ⟨fun _ _ _ r h => by simp [j11_Sum.l0] at h, fun _ _ _ _ r h => by simp [j11_Sum.l1] at h⟩
 | k + 1 => by
  obtain ⟨ih0, ih1⟩ := j11_Sum.mono_l k
  refine ⟨?_, ?_⟩
  ·
   intro y0 y1 y2
   unfold j11_Sum.l0
   exact zM
  ·
   intro y0 y1 y2 y3
   unfold j11_Sum.l1
   exact zM
theorem j11_Sum.mono : ∀ a0 k, LeO (j11_Sum.f k a0) (j11_Sum.f (k + 1) a0) := by
 intro a0 k
 obtain ⟨ih0, ih1⟩ := j11_Sum.mono_l k
 unfold j11_Sum.f
 exact zM
set_option maxHeartbeats 8000000 in
set_option maxRecDepth 100000 in
theorem j11_Sum.calls (k : Nat) (A0 : Option Addr) (c0 : Nat) (l0 : List Int) (r : Int) (w : World) (hr0 : Kd.C (Kd.int .u8) w A0 l0.length l0) (hc0 : l0.length ≤ c0) (h : j11_Sum.f k l0 = some r) :
  Calls Try.prog 56 #[.slice A0 l0.length c0] w fun e w' => e = .returned (.int .u32 r) ∧ Drawn0 w w' := by
 have HR0 := am hr0
 have HC0 := am hc0
 clear hr0 hc0
 have H : (j11_Sum.l0 k l0 4294967295 0) = some r := h
 clear h
 have H' := am H
 clear H
 go_enter Try.func56, Try.ntmps56
 go_wp2
 go_loopg [3, 4] k (fun kq v3 v4 w' => ∃ (x3_1 : Int) (x4_1 : Int), v3 = .int .u32 x3_1 ∧ v4 = .int .i64 x4_1 ∧ Aside0 (j11_Sum.l0 kq l0 x3_1 x4_1 = some r) ∧ Aside0 (kq ≤ k) ∧ Drawn0 w w')
 case atStart => exact ⟨(4294967295), (0), zr, zr, H', ⟨Nat.le_refl _⟩, by repeat (first | exact Drawn0.refl _ | apply Drawn0.step)⟩
 case round =>
  clear H'
  obtain ⟨x3_1, x4_1, rfl, rfl, HA, HK1, ⟨m1, rfl⟩⟩ := hrel
  cases gk with
  | zero => exact absurd HA.out (by simp [j11_Sum.l0])
  | succ k1 =>
   have H := HA.out
   clear HA
   simp only [j11_Sum.l0] at H
   by_cases c2 : x4_1 < (l0.length : Int)
   ·
    rw [if_pos c2] at H
    have c2b0 := decide_eq_true c2
    clear c2
    by_cases c3 : 0 ≤ x4_1
    ·
     rw [if_pos c3] at H
     have c3b0 := decide_eq_true c3
     clear c3
     have H' := am H
     clear H
     have p383 : 0 ≤ (x4_1 : Int) := zo
     have q383 : x4_1 < (l0.length : Int) := zo
     obtain ⟨ad383, e383, hx383_0⟩ := Kd.at_int HR0.out x4_1 p383 q383
     cases e383
     replace p383 := eq_true p383
     replace q383 := eq_true q383
     go_wp2
     go_loopg [3, 5] k1 (fun kq v3 v5 w' => ∃ (x3_2 : Int) (x5_2 : Int), v3 = .int .u32 x3_2 ∧ v5 = .int .i64 x5_2 ∧ Aside0 (j11_Sum.l1 kq l0 x3_2 x4_1 x5_2 = some r) ∧ Aside0 (kq ≤ k1) ∧ Drawn0 w w')
     case atStart => exact ⟨(Go.bits .xor .u32 x3_1 ((rd l0 x4_1) % 4294967296)), (0), zr, zr, H', ⟨Nat.le_refl _⟩, by repeat (first | exact Drawn0.refl _ | apply Drawn0.step)⟩
     case round =>
      clear H'
      obtain ⟨x3_2, x5_2, rfl, rfl, HA, HK2, ⟨m2, rfl⟩⟩ := hrel
      cases gk with
      | zero => exact absurd HA.out (by simp [j11_Sum.l1])
      | succ k2 =>
       have H := HA.out
       clear HA
       simp only [j11_Sum.l1] at H
       by_cases c4 : x5_2 < 8
       ·
        rw [if_pos c4] at H
        have c4b0 := decide_eq_true c4
        clear c4
        by_cases c5 : (Go.bits .and .u32 x3_2 1) = 1
        ·
         rw [if_pos c5] at H
         obtain ⟨c5b0, c5b1⟩ := zt c5
         clear c5
         have H' := am H
         clear H
         go_wp2
         go_roundg k2
         case measure => have := HK1.out; have := HK2.out; omega
         case rel => exact ⟨(Go.bits .xor .u32 (x3_2 / 2) 3988292384), (wrap64 (x5_2 + 1)), zr, zr, H', ⟨by have := HK1.out; have := HK2.out; omega⟩, by repeat (first | exact Drawn0.refl _ | apply Drawn0.step)⟩
        ·
         rw [if_neg c5] at H
         obtain ⟨c5b0, c5b1⟩ := zs c5
         have H' := am H
         clear H
         go_wp2
         go_roundg k2
         case measure => have := HK1.out; have := HK2.out; omega
         case rel => exact ⟨(x3_2 / 2), (wrap64 (x5_2 + 1)), zr, zr, H', ⟨by have := HK1.out; have := HK2.out; omega⟩, by repeat (first | exact Drawn0.refl _ | apply Drawn0.step)⟩
       ·
        rw [if_neg c4] at H
        have c4b0 := decide_eq_false c4
        clear c4
        have H' := am H
        clear H
        go_wp2
        go_roundg k2
        case measure => have := HK1.out; have := HK2.out; omega
        case rel => exact ⟨(x3_2), (wrap64 (x4_1 + 1)), zr, zr, H', ⟨by have := HK1.out; have := HK2.out; omega⟩, by repeat (first | exact Drawn0.refl _ | apply Drawn0.step)⟩
    ·
     rw [if_neg c3] at H
     exact absurd H (by simp)
   ·
    rw [if_neg c2] at H
    have c2b0 := decide_eq_false c2
    clear c2
    obtain rfl := Option.some.inj H
    go_wp2
    go_ret
    exact y3
end Go.Proofs.Ytnmmkgagbfniiaa.A
end
section
namespace Go.Proofs.Ytnmmkgagbfniiaa.Pl
open Go.RowKit Go.Proofs.YtnmmkgagbfniiaaW.PrintWords Go.Proofs.YtnmmkgagbfniiaaW.PrintMore Go.Proofs.Ytnmmkgagbfniiaa.A
set_option linter.unusedVariables false
theorem crcBit_int (c : Nat) (h : c < 4294967296) : (if bits .and .u32 (c : Int) 1 = 1 then bits .xor .u32 ((c : Int) / 2) 3988292384 else (c : Int) / 2) = ((crcBit c : Nat) : Int) := by
 have e1 : bits .and .u32 (c : Int) 1 = ((c % 2 : Nat) : Int) := by
  have := u32_and_nat c 1 h (by omega)
  rw [nat_mask1] at this
  exact this
 have e2 : bits .xor .u32 ((c : Int) / 2) 3988292384 = (((c / 2) ^^^ 3988292384 : Nat) : Int) := by
  have := u32_xor_nat (c / 2) 3988292384 (by omega) (by omega)
  rw [show ((c / 2 : Nat) : Int) = (c : Int) / 2 by omega] at this
  exact this
 rw [e1, e2]
 unfold crcBit
 by_cases hc : c % 2 = 1
 ·
  rw [if_pos (by omega), if_pos hc]
 ·
  rw [if_neg (by omega), if_neg hc]
  omega
theorem sum_bits {xs : List Int} {n i r : Int} : ∀ (d j c : Nat), j + d = 8 → c < 4294967296 → Ev (fun k => block_Sum.l0 k ((crcBits d c : Nat) : Int) xs n (wrap64 (i + 1))) r → Ev (fun k => block_Sum.l1 k (c : Int) xs n i (j : Int)) r := by
 intro d
 induction d with
 | zero =>
  intro j c hj hc h
  refine Ev.step (fun k => ?_) h
  simp only [block_Sum.l1]
  rw [if_neg (by omega)]
  rfl
 | succ d ih =>
  intro j c hj hc h
  refine Ev.step (f := fun k => block_Sum.l1 k ((crcBit c : Nat) : Int) xs n i ((j + 1 : Nat) : Int)) (fun k => ?_) (ih (j + 1) (crcBit c) (by omega) (crcBit_lt hc) h)
  simp only [block_Sum.l1]
  rw [if_pos (by omega), wrap64_id (x := (j : Int) + 1) (by omega) (by omega), ← crcBit_int c hc]
  split <;> rfl
theorem sum_loop (xs : List Int) (hm : xs.length ≤ 140737488355328) (hx : ∀ c ∈ xs, 0 ≤ c ∧ c < 256) : ∀ (d i c : Nat), i + d = xs.length → c < 4294967296 →
  Ev (fun k => block_Sum.l0 k (c : Int) xs (xs.length : Int) (i : Int)) ((4294967295 ^^^ crc c (xs.drop i) : Nat) : Int) := by
 intro d
 induction d with
 | zero =>
  intro i c hi hc
  refine Ev.step (f := fun _ => some _) (fun k => ?_) (Ev.now _)
  simp only [block_Sum.l0]
  rw [if_neg (by omega), List.drop_of_length_le (by omega)]
  have := u32_xor_nat 4294967295 c (by omega) hc
  exact congrArg some this
 | succ d ih =>
  intro i c hi hc
  have hlt : i < xs.length := by omega
  have hb := hx xs[i] (List.getElem_mem hlt)
  have e : bits .xor .u32 (c : Int) ((rd xs (i : Int)) % 4294967296) = ((c ^^^ xs[i].toNat : Nat) : Int) := by
   rw [show rd xs (i : Int) = xs[i] by simp [rd, List.getD_eq_getElem?_getD, List.getElem?_eq_getElem hlt]]
   have := u32_xor_nat c xs[i].toNat hc (by omega)
   rw [show ((xs[i].toNat : Nat) : Int) = xs[i] % 4294967296 by omega] at this
   exact this
  refine Ev.step (f := fun k => block_Sum.l1 k ((c ^^^ xs[i].toNat : Nat) : Int) xs (xs.length : Int) (i : Int) ((0 : Nat) : Int)) (fun k => ?_) ?_
  ·
   simp only [block_Sum.l0]
   rw [if_pos (by omega), if_pos (by omega), if_pos (by omega), e]
   rfl
  ·
   refine sum_bits 8 0 _ rfl (xor_byte_lt hc hb.2) ?_
   have := ih (i + 1) (crcByte c xs[i]) (by omega) (crcByte_lt hc hb.2)
   rw [List.drop_eq_getElem_cons hlt, wrap64_id (x := (i : Int) + 1) (by omega) (by omega)]
   exact this
theorem sum_f (xs : List Int) (hm : xs.length ≤ 140737488355328) (hx : ∀ c ∈ xs, 0 ≤ c ∧ c < 256) : Ev (fun k => block_Sum.f k xs) ((sumS xs : Nat) : Int) := by
 have := sum_loop xs hm hx xs.length 0 4294967295 (by omega) (by omega)
 exact this
theorem refSum_bits {xs : List Int} {i r : Int} : ∀ (d j c : Nat), j + d = 8 → c < 4294967296 → Ev (fun k => j11_Sum.l0 k xs ((crcBits d c : Nat) : Int) (wrap64 (i + 1))) r → Ev (fun k => j11_Sum.l1 k xs (c : Int) i (j : Int)) r := by
 intro d
 induction d with
 | zero =>
  intro j c hj hc h
  refine Ev.step (fun k => ?_) h
  simp only [j11_Sum.l1]
  rw [if_neg (by omega)]
  rfl
 | succ d ih =>
  intro j c hj hc h
  refine Ev.step (f := fun k => j11_Sum.l1 k xs ((crcBit c : Nat) : Int) i ((j + 1 : Nat) : Int)) (fun k => ?_) (ih (j + 1) (crcBit c) (by omega) (crcBit_lt hc) h)
  simp only [j11_Sum.l1]
  rw [if_pos (by omega), wrap64_id (x := (j : Int) + 1) (by omega) (by omega), ← crcBit_int c hc]
  split <;> rfl
theorem refSum_loop (xs : List Int) (hm : xs.length ≤ 140737488355328) (hx : ∀ c ∈ xs, 0 ≤ c ∧ c < 256) : ∀ (d i c : Nat), i + d = xs.length → c < 4294967296 →
  Ev (fun k => j11_Sum.l0 k xs (c : Int) (i : Int)) ((4294967295 ^^^ crc c (xs.drop i) : Nat) : Int) := by
 intro d
 induction d with
 | zero =>
  intro i c hi hc
  refine Ev.step (f := fun _ => some _) (fun k => ?_) (Ev.now _)
  simp only [j11_Sum.l0]
  rw [if_neg (by omega), List.drop_of_length_le (by omega)]
  have := u32_xor_nat c 4294967295 hc (by omega)
  rw [Nat.xor_comm] at this
  exact congrArg some this
 | succ d ih =>
  intro i c hi hc
  have hlt : i < xs.length := by omega
  have hb := hx xs[i] (List.getElem_mem hlt)
  have e : bits .xor .u32 (c : Int) ((rd xs (i : Int)) % 4294967296) = ((c ^^^ xs[i].toNat : Nat) : Int) := by
   rw [show rd xs (i : Int) = xs[i] by simp [rd, List.getD_eq_getElem?_getD, List.getElem?_eq_getElem hlt]]
   have := u32_xor_nat c xs[i].toNat hc (by omega)
   rw [show ((xs[i].toNat : Nat) : Int) = xs[i] % 4294967296 by omega] at this
   exact this
  refine Ev.step (f := fun k => j11_Sum.l1 k xs ((c ^^^ xs[i].toNat : Nat) : Int) (i : Int) ((0 : Nat) : Int)) (fun k => ?_) ?_
  ·
   simp only [j11_Sum.l0]
   rw [if_pos (by omega), if_pos (by omega), e]
   rfl
  ·
   refine refSum_bits 8 0 _ rfl (xor_byte_lt hc hb.2) ?_
   have := ih (i + 1) (crcByte c xs[i]) (by omega) (crcByte_lt hc hb.2)
   rw [List.drop_eq_getElem_cons hlt, wrap64_id (x := (i : Int) + 1) (by omega) (by omega)]
   exact this
theorem refSum_f (xs : List Int) (hm : xs.length ≤ 140737488355328) (hx : ∀ c ∈ xs, 0 ≤ c ∧ c < 256) : Ev (fun k => j11_Sum.f k xs) ((sumS xs : Nat) : Int) := by
 have := refSum_loop xs hm hx xs.length 0 4294967295 (by omega) (by omega)
 exact this
end Go.Proofs.Ytnmmkgagbfniiaa.Pl
end
section
namespace Go.Proofs.Ytnmmkgagbfniiaa.A
open Go.RowKit Go.Proofs.YtnmmkgagbfniiaaW.PrintWords Go.Proofs.YtnmmkgagbfniiaaW.PrintLast Go.Proofs.YtnmmkgagbfniiaaW.PrintMore
attribute [local go_sem] max2_int min2_int max_two min_two max_three min_three max_four min_four
set_option linter.unusedVariables false
set_option linter.unusedSimpArgs false
def event_appendList.l0 : Nat → List Int → Int → List Int → Int → Int → Option (List Int)
 | 0, _, _, _, _, _ => none
 | k + 1, x0, x5, x12, x13, x14 => if x14 < x13 then (if 0 ≤ x14 then (if x14 < (x12.length : Int) then ((event_appendInt.f k x0 (wrap64 ((rd x12 x14) - x5))).bind fun t112 => (event_appendList.l0 k t112 (rd x12 x14) x12 x13 (wrap64 (x14 + 1)))) else (none)) else (none)) else (some x0)
def event_appendList.f (k : Nat) (l0 : List Int) (l1 : List Int) : Option (List Int) := (event_appendInt.f k l0 (l1.length : Int)).bind fun t108 => (event_appendList.l0 k t108 0 l1 (l1.length : Int) 0)
theorem event_appendList.mono_l : ∀ k, (∀ y0 y1 y2 y3 y4, LeO (event_appendList.l0 k y0 y1 y2 y3 y4) (event_appendList.l0 (k + 1) y0 y1 y2 y3 y4))
 | 0 => fun _ _ _ _ _ r h => by simp [event_appendList.l0] at h
 | k + 1 => by
  have ih0 := event_appendList.mono_l k
  ·
   intro y0 y1 y2 y3 y4
   unfold event_appendList.l0
   exact zM
theorem event_appendList.mono : ∀ a0 a1 k, LeO (event_appendList.f k a0 a1) (event_appendList.f (k + 1) a0 a1) := by
 intro a0 a1 k
 have ih0 := event_appendList.mono_l k
 unfold event_appendList.f
 exact zM
set_option maxHeartbeats 8000000 in
set_option maxRecDepth 100000 in
theorem event_appendList.calls (k : Nat) (P0_ : Nat → Prop) (u9000_ : Value) (l0 : List Int) (A1 : Option Addr) (c1 : Nat) (l1 : List Int) (r : List Int) (w0 w : World) (hB : Below w0.heap.size w0 w) (ho0 : Kd.R (Kd.int .u8) 5 w w0.heap.size P0_ u9000_ l0) (hr1 : ∀ W_, Kept w W_ (fun k_ => P0_ k_) → Kd.C (Kd.int .i64) W_ A1 l1.length l1) (hc1 : l1.length ≤ c1) (h : event_appendList.f k l0 l1 = some r) :
  Calls Try.prog 41 #[u9000_, .slice A1 l1.length c1] w fun e w' => ∃ v0_ : Value, e = .returned (v0_) ∧ Kd.R (Kd.int .u8) 5 w' w0.heap.size (fun k_ => (P0_ k_ ∨ w.heap.size ≤ k_)) v0_ r ∧ Below w0.heap.size w0 w' ∧ Kept w w' (fun k_ => P0_ k_) := by
 have HO0 := am (show Kd.R (Kd.int .u8) 5 w w0.heap.size (fun k_ => (P0_ k_ ∨ w.heap.size ≤ k_)) u9000_ l0 from Kd.R_mono ho0 (fun k_ hk => (.inl hk)))
 have HR1 := am hr1
 have HC1 := am hc1
 clear hr1 hc1
 have HK := am (Kept.refl w (fun k_ => P0_ k_))
 have HW0 := am hB.size
 have HB := am hB
 clear hB
 have H : ((event_appendInt.f k l0 (l1.length : Int)).bind fun t108 => (event_appendList.l0 k t108 0 l1 (l1.length : Int) 0)) = some r := h
 clear h
 replace H := Option.bind_eq_some_iff.mp H
 obtain ⟨t108, A30, H⟩ := H
 (try dsimp only at H)
 have A3 := am A30
 clear A30
 have H' := am H
 clear H
 obtain ⟨Ao4, co4, eo4⟩ := Kd.R_slice HO0.out
 subst eo4
 go_enter Try.func41, Try.ntmps41
 go_wp2_with (first | ((with_reducible refine gate_callee (f := 40) rfl ?_); refine goesL_ (some 11) rfl rfl Try.func40 (by kernel_rfl) rfl #[.slice Ao4 l0.length co4, .int .i64 (l1.length : Int)] rfl zg ?_; (with_reducible refine (event_appendInt.calls k (fun k_ => some k_ = (.slice Ao4 l0.length co4 : Value).ownBlock) (.slice Ao4 l0.length co4) l0 (l1.length : Int) t108 w0 _ ?side1 ?side2 A3.out).mono ?_); (case side1 => exact y9); (case side2 => exact Kd.R_tight rfl HO0.out); rintro e w5 ⟨v109, rfl, ho0, hb, hkp⟩; refine ⟨_, rfl, ?_⟩; have n0_ := am (Kd.R_mono (ok' := fun k_ => (P0_ k_ ∨ w.heap.size ≤ k_)) ho0 (fun k_ hk_ => Or.elim hk_ (fun hs_ => (HO0.out.1 k_ (hs_).symm)) (fun hn_ => (.inr (Nat.le_trans y2 hn_))))); have n1_ := am (Kept.then_ (S := (fun k_ => P0_ k_)) y8 hkp (fun k_ hs_ => (fun e_ => (HO0.out.1 k_ e_.symm)) hs_)); have n2_ := am (hb); clear HK; clear HB; clear HO0; have HO110 := n0_; have HK := n1_; have HB := n2_; clear n0_ n1_ n2_; clear hb hkp ho0))
 go_loopg [0, 5, 14] k (fun kq v0 v5 v14 w' => ∃ (x0_1 : List Int) (x5_1 : Int) (x14_1 : Int), v5 = .int .i64 x5_1 ∧ v14 = .int .i64 x14_1 ∧ Aside0 (event_appendList.l0 kq x0_1 x5_1 l1 (l1.length : Int) x14_1 = some r) ∧ Aside0 (kq ≤ k) ∧ Aside0 (Kd.R (Kd.int .u8) 5 w' w0.heap.size (fun k_ => (P0_ k_ ∨ w.heap.size ≤ k_)) v0 x0_1) ∧ Aside0 (Kept w w' (fun k_ => P0_ k_)) ∧ Aside0 (Below w0.heap.size w0 w'))
 case atStart => exact ⟨(t108), (0), (0), zr, zr, H', ⟨Nat.le_refl _⟩, ⟨by (with_reducible repeat (first | apply Kd.R_alloc | apply Kd.R_drewN | apply Kd.R_drew)); exact HO110.out⟩, ⟨by repeat (first | (with_reducible first | exact HK.out | apply Kept.alloc | apply Kept.drewN | apply Kept.drew) | exact HK.out)⟩, ⟨zb HB⟩⟩
 case round =>
  clear H'
  obtain ⟨x0_1, x5_1, x14_1, rfl, rfl, HA, HK1, HO_0, HK, HB⟩ := hrel
  cases gk with
  | zero => exact absurd HA.out (by simp [event_appendList.l0])
  | succ k1 =>
   have H := HA.out
   clear HA
   simp only [event_appendList.l0] at H
   by_cases c6 : x14_1 < (l1.length : Int)
   ·
    rw [if_pos c6] at H
    have c6b0 := decide_eq_true c6
    clear c6
    by_cases c7 : 0 ≤ x14_1
    ·
     rw [if_pos c7] at H
     have c7b0 := decide_eq_true c7
     clear c7
     by_cases c8 : x14_1 < (l1.length : Int)
     ·
      rw [if_pos c8] at H
      have c8b0 := decide_eq_true c8
      clear c8
      replace H := Option.bind_eq_some_iff.mp H
      obtain ⟨t112, A90, H⟩ := H
      (try dsimp only at H)
      have A9 := am A90
      clear A90
      have H' := am H
      clear H
      have p111 : 0 ≤ (x14_1 : Int) := zo
      have q111 : x14_1 < (l1.length : Int) := zo
      obtain ⟨ad111, e111, hx111_0⟩ := Kd.at_int (Kd.C_kept_now HR1.out HK.out) x14_1 p111 q111
      cases e111
      replace p111 := eq_true p111
      replace q111 := eq_true q111
      obtain ⟨Ao10, co10, eo10⟩ := Kd.R_slice HO_0.out
      subst eo10
      go_wp2_with (first | ((with_reducible refine gate_callee (f := 40) rfl ?_); refine goesL_ (some 22) rfl rfl Try.func40 (by kernel_rfl) rfl #[.slice Ao10 x0_1.length co10, .int .i64 (wrap64 ((rd l1 x14_1) - x5_1))] rfl zg ?_; (with_reducible refine (event_appendInt.calls k1 (fun k_ => some k_ = (.slice Ao10 x0_1.length co10 : Value).ownBlock) (.slice Ao10 x0_1.length co10) x0_1 (wrap64 ((rd l1 x14_1) - x5_1)) t112 w0 _ ?side1 ?side2 A9.out).mono ?_); (case side1 => exact y9); (case side2 => exact Kd.R_tight rfl HO_0.out); rintro e w11 ⟨v113, rfl, ho0, hb, hkp⟩; refine ⟨_, rfl, ?_⟩; have n0_ := am (Kd.R_mono (ok' := fun k_ => (P0_ k_ ∨ w.heap.size ≤ k_)) ho0 (fun k_ hk_ => Or.elim hk_ (fun hs_ => (HO_0.out.1 k_ (hs_).symm)) (fun hn_ => (.inr (Nat.le_trans y2 hn_))))); have n1_ := am (Kept.then_ (S := (fun k_ => P0_ k_)) y8 hkp (fun k_ hs_ => (fun e_ => (HO_0.out.1 k_ e_.symm)) hs_)); have n2_ := am (hb); clear HK; clear HB; clear HO_0; have HO114 := n0_; have HK := n1_; have HB := n2_; clear n0_ n1_ n2_; clear hb hkp ho0))
      go_roundg k1
      case measure => have := HK1.out; omega
      case rel => exact ⟨(t112), (rd l1 x14_1), (wrap64 (x14_1 + 1)), zr, zr, H', ⟨by have := HK1.out; omega⟩, ⟨by (with_reducible repeat (first | apply Kd.R_alloc | apply Kd.R_drewN | apply Kd.R_drew)); exact HO114.out⟩, ⟨by repeat (first | (with_reducible first | exact HK.out | apply Kept.alloc | apply Kept.drewN | apply Kept.drew) | exact HK.out)⟩, ⟨zb HB⟩⟩
     ·
      rw [if_neg c8] at H
      exact absurd H (by simp)
    ·
     rw [if_neg c7] at H
     exact absurd H (by simp)
   ·
    rw [if_neg c6] at H
    have c6b0 := decide_eq_false c6
    clear c6
    obtain rfl := Option.some.inj H
    go_wp2
    go_ret
    exact ⟨_, ze, by (with_reducible repeat (first | apply Kd.R_alloc | apply Kd.R_drewN | apply Kd.R_drew)); exact HO_0.out, zb HB, by repeat (first | (with_reducible first | exact HK.out | apply Kept.alloc | apply Kept.drewN | apply Kept.drew) | exact HK.out)⟩
def event_Append.f (k : Nat) (l0 : List Int) (a1_0 : Int) (a1_1 : Int) (a1_2 : Int) (a1_3 : Int) (a1_4 : Int) (a1_5 : Int) (l1_6 : List Int) (l1_7 : List Int) (a2 : Int) : Option (List Int) :=
 (event_appendInt.f k l0 (wrap64 (a1_0 - a2))).bind fun t1 => (event_appendInt.f k t1 a1_2).bind fun t2 => (event_appendInt.f k t2 a1_3).bind fun t3 => (event_appendInt.f k t3 a1_4).bind fun t4 => (event_appendInt.f k t4 a1_5).bind fun t5 => (event_appendList.f k t5 l1_6).bind fun t6 => event_appendList.f k t6 l1_7
theorem event_Append.mono : ∀ a0 a1 a2 a3 a4 a5 a6 a7 a8 a9 k, LeO (event_Append.f k a0 a1 a2 a3 a4 a5 a6 a7 a8 a9) (event_Append.f (k + 1) a0 a1 a2 a3 a4 a5 a6 a7 a8 a9) := by
 intro a0 a1 a2 a3 a4 a5 a6 a7 a8 a9 k
 unfold event_Append.f
 exact LeO.bind (event_appendInt.mono _ _ _) fun _ => LeO.bind (event_appendInt.mono _ _ _) fun _ => LeO.bind (event_appendInt.mono _ _ _) fun _ => LeO.bind (event_appendInt.mono _ _ _) fun _ => LeO.bind (event_appendInt.mono _ _ _) fun _ => LeO.bind (event_appendList.mono _ _ _) fun _ => event_appendList.mono _ _ _
set_option maxHeartbeats 4000000 in
set_option maxRecDepth 100000 in
theorem event_Append.calls (k : Nat) (A0 : Option Addr) (c0 : Nat) (l0 : List Int) (a1_0 : Int) (a1_1 : Int) (a1_2 : Int) (a1_3 : Int) (a1_4 : Int) (a1_5 : Int) (A1_6 : Option Addr) (c1_6 : Nat) (l1_6 : List Int) (A1_7 : Option Addr) (c1_7 : Nat) (l1_7 : List Int) (a2 : Int) (r : List Int) (w : World) (hr0 : Kd.C (Kd.int .u8) w A0 l0.length l0) (hc0 : l0.length ≤ c0) (hr1_6 : Kd.C (Kd.int .i64) w A1_6 l1_6.length l1_6) (hc1_6 : l1_6.length ≤ c1_6) (hr1_7 : Kd.C (Kd.int .i64) w A1_7 l1_7.length l1_7) (hc1_7 : l1_7.length ≤ c1_7) (h : event_Append.f k l0 a1_0 a1_1 a1_2 a1_3 a1_4 a1_5 l1_6 l1_7 a2 = some r) :
  Calls Try.prog 12 #[.slice A0 l0.length c0, .agg #[.int .i64 a1_0, .int .i64 a1_1, .int .i64 a1_2, .int .i64 a1_3, .int .i64 a1_4, .int .i64 a1_5, .slice A1_6 l1_6.length c1_6, .slice A1_7 l1_7.length c1_7], .int .i64 a2] w fun e w' => ∃ v0_ : Value, e = .returned (v0_) ∧ Kd.R (Kd.int .u8) 5 w' w.heap.size (fun _ => True) v0_ r ∧ Below w.heap.size w w' := by
 obtain ⟨t1, h1, h⟩ := Option.bind_eq_some_iff.mp h
 obtain ⟨t2, h2, h⟩ := Option.bind_eq_some_iff.mp h
 obtain ⟨t3, h3, h⟩ := Option.bind_eq_some_iff.mp h
 obtain ⟨t4, h4, h⟩ := Option.bind_eq_some_iff.mp h
 obtain ⟨t5, h5, h⟩ := Option.bind_eq_some_iff.mp h
 obtain ⟨t6, h6, h7⟩ := Option.bind_eq_some_iff.mp h
 have HT0 := am h1
 obtain ⟨ns, hns⟩ : ∃ f : Nat → Int, f = fun j => [wrap64 (a1_0 - a2), a1_2, a1_3, a1_4, a1_5].getD j 0 := ⟨_, rfl⟩
 obtain ⟨ts, hts⟩ : ∃ f : Nat → List Int, f = fun j => [l0, t1, t2, t3, t4, t5].getD j [] := ⟨_, rfl⟩
 have HT := am (show ∀ j, j < 5 → event_appendInt.f k (ts j) (ns j) = some (ts (j + 1)) by
  subst hns hts
  intro j hj
  match j, hj with
  | 0, _ => exact h1
  | 1, _ => exact h2
  | 2, _ => exact h3
  | 3, _ => exact h4
  | 4, _ => exact h5)
 have HR0 := am hr0
 have HN0 := am (ow_none hr0)
 have HR6 := am hr1_6
 have HC6 := am hc1_6
 have HR7 := am hr1_7
 have HC7 := am hc1_7
 have HT6 := am h6
 have HT7 := am h7
 have HT5 := am (show ts 5 = t5 by rw [hts]; rfl)
 have HTZ := am (show ts 0 = l0 by rw [hts]; rfl)
 have HNS := am hns
 clear hr0 hr1_6 hc1_6 hr1_7 hc1_7 h h1 h2 h3 h4 h5 h6 h7 hts hns HT0
 go_enter Try.func12, Try.ntmps12
 go_wp2
 obtain ⟨W3, hW3⟩ : ∃ W3 : World, W3 = ((w.alloc (.cells #[.int .i64 a1_0, .int .i64 a1_1, .int .i64 a1_2, .int .i64 a1_3, .int .i64 a1_4, .int .i64 a1_5, .slice A1_6 l1_6.length c1_6, .slice A1_7 l1_7.length c1_7] 26)).alloc (.cells #[.int .i64 a1_1, .int .i64 a1_2, .int .i64 a1_3, .int .i64 a1_4, .int .i64 a1_5, .slice A1_6 l1_6.length c1_6, .slice A1_7 l1_7.length c1_7] 24)).alloc (.cells #[.int .i64 (wrap64 (a1_0 - a2)), .int .i64 a1_2, .int .i64 a1_3, .int .i64 a1_4, .int .i64 a1_5] 2) := ⟨_, rfl⟩
 rw [← hW3]
 have HZ := am (show W3.heap.size = w.heap.size + 3 by rw [hW3]; simp)
 have HB0 := am (show Below w.heap.size w W3 by rw [hW3]; exact below_alloc (below_alloc (below_alloc (Below.refl _ _) _) _) _)
 have HE := am (show ∀ j, j < 5 → W3.cell? ⟨w.heap.size + 1 + 1, j, none⟩ = some (.int .i64 (ns j)) by
  intro j hj
  rw [hW3]
  have := World.cell?_alloc_mark ((w.alloc (.cells #[.int .i64 a1_0, .int .i64 a1_1, .int .i64 a1_2, .int .i64 a1_3, .int .i64 a1_4, .int .i64 a1_5, .slice A1_6 l1_6.length c1_6, .slice A1_7 l1_7.length c1_7] 26)).alloc (.cells #[.int .i64 a1_1, .int .i64 a1_2, .int .i64 a1_3, .int .i64 a1_4, .int .i64 a1_5, .slice A1_6 l1_6.length c1_6, .slice A1_7 l1_7.length c1_7] 24)) #[.int .i64 (wrap64 (a1_0 - a2)), .int .i64 a1_2, .int .i64 a1_3, .int .i64 a1_4, .int .i64 a1_5] 2 (0, 0) j
  rw [show ((w.alloc (.cells #[.int .i64 a1_0, .int .i64 a1_1, .int .i64 a1_2, .int .i64 a1_3, .int .i64 a1_4, .int .i64 a1_5, .slice A1_6 l1_6.length c1_6, .slice A1_7 l1_7.length c1_7] 26)).alloc (.cells #[.int .i64 a1_1, .int .i64 a1_2, .int .i64 a1_3, .int .i64 a1_4, .int .i64 a1_5, .slice A1_6 l1_6.length c1_6, .slice A1_7 l1_7.length c1_7] 24)).heap.size = w.heap.size + 1 + 1 by simp] at this
  rw [this, HNS.out]
  match j, hj with
  | 0, _ => rfl
  | 1, _ => rfl
  | 2, _ => rfl
  | 3, _ => rfl
  | 4, _ => rfl)
 have HD := am (show W3.cell? ⟨w.heap.size + 1, 5, none⟩ = some (.slice A1_6 l1_6.length c1_6) ∧ W3.cell? ⟨w.heap.size + 1, 6, none⟩ = some (.slice A1_7 l1_7.length c1_7) by
  have key := World.cell?_alloc_mark (w.alloc (.cells #[.int .i64 a1_0, .int .i64 a1_1, .int .i64 a1_2, .int .i64 a1_3, .int .i64 a1_4, .int .i64 a1_5, .slice A1_6 l1_6.length c1_6, .slice A1_7 l1_7.length c1_7] 26)) #[.int .i64 a1_1, .int .i64 a1_2, .int .i64 a1_3, .int .i64 a1_4, .int .i64 a1_5, .slice A1_6 l1_6.length c1_6, .slice A1_7 l1_7.length c1_7] 24 (0, 0)
  rw [show (w.alloc (.cells #[.int .i64 a1_0, .int .i64 a1_1, .int .i64 a1_2, .int .i64 a1_3, .int .i64 a1_4, .int .i64 a1_5, .slice A1_6 l1_6.length c1_6, .slice A1_7 l1_7.length c1_7] 26)).heap.size = w.heap.size + 1 by simp] at key
  rw [hW3]
  exact ⟨pw_cell_below (below_alloc (Below.refl _ _) _) (key 5), pw_cell_below (below_alloc (Below.refl _ _) _) (key 6)⟩)
 clear hW3
 go_loopw [8, 33] (fun v i wr => ∃ j : Nat, j ≤ 5 ∧ i = .int .i64 j ∧ Aside0 (Below W3.heap.size W3 wr) ∧ (v = .slice A0 l0.length l0.length ∧ Aside0 (j = 0) ∨ Aside0 (0 < j ∧ Kd.R (Kd.int .u8) 5 wr W3.heap.size (fun k_ => W3.heap.size ≤ k_) v (ts j)))) (fun _ i _ => 5 - (intOf i).toNat)
 case atStart => exact ⟨0, by omega, rfl, ⟨Below.refl _ _⟩, .inl ⟨rfl, ⟨rfl⟩⟩⟩
 case round =>
  obtain ⟨j, hj, rfl, HB, HO⟩ := hrel
  by_cases hlt : j < 5
  ·
   have hcell : wr.cell? ⟨w.heap.size + 1 + 1, j, none⟩ = some (.int .i64 (ns j)) := (HB.out.cell (p := ⟨w.heap.size + 1 + 1, j, none⟩) (by have := HZ.out; show _ < _; simp; omega)).trans (HE.out j hlt)
   have HTj := am (HT.out j hlt)
   rcases HO with ⟨rfl, HJ⟩ | HO
   ·
    have HX := am (show Kd.C (Kd.int .u8) wr A0 l0.length l0 from Kd.C_below (Kd.C_below HR0.out HB0.out) HB.out)
    have HTq := am (show event_appendInt.f k l0 (ns j) = some (ts (j + 1)) by have := HTj.out; rw [HJ.out, HTZ.out] at this; rw [HJ.out]; exact this)
    go_wp2_with (go_at_call 40; refine (event_appendInt_tight k A0 l0 (ns j) (ts (j + 1)) _ HX.out HTq.out).mono ?_; rintro e w5 ⟨v5, rfl, ho, hb⟩; have HO1 := am (Kd.R_mono (ok' := fun k_ => W3.heap.size ≤ k_) (Kd.R_bound (Kd.R_lower ho HB.out.size)) (fun _ hk => hk.2.1)); have HB1 := am (below_then HB.out HB.out.size hb); clear ho hb)
    go_roundw
    case rel => exact ⟨j + 1, by omega, by go_num, HB1, .inr ⟨by omega, HO1.out⟩⟩
    case measure => simp [intOf]; omega
   ·
    have HO' := am HO.out.2
    clear HO
    obtain ⟨Ao, co, eo⟩ := Kd.R_slice HO'.out
    subst eo
    go_wp2_with (go_at_call 40; refine (event_appendInt.calls k (fun k_ => W3.heap.size ≤ k_) (.slice Ao (ts j).length co) (ts j) (ns j) (ts (j + 1)) W3 _ HB.out HO'.out HTj.out).mono ?_; rintro e w5 ⟨v5, rfl, ho, hb, hkp⟩; have HO1 := am (Kd.R_mono (ok' := fun k_ => W3.heap.size ≤ k_) (Kd.R_bound ho) (fun _ hk => hk.2.1)); have HB1 := am hb; clear ho hb hkp)
    go_roundw
    case rel => exact ⟨j + 1, by omega, by go_num, HB1, .inr ⟨by omega, HO1.out⟩⟩
    case measure => simp [intOf]; omega
  ·
   obtain rfl : j = 5 := by omega
   rcases HO with ⟨rfl, HJ⟩ | HO
   ·
    exact absurd HJ.out (by omega)
   ·
    have HO' := am (show Kd.R (Kd.int .u8) 5 wr W3.heap.size (fun k_ => W3.heap.size ≤ k_) u8 t5 by rw [← HT5.out]; exact HO.out.2)
    clear HO
    obtain ⟨Ao, co, eo⟩ := Kd.R_slice HO'.out
    subst eo
    have HS := am (show ∀ w', Below W3.heap.size W3 w' → w'.cell? ⟨w.heap.size + 1, 5, none⟩ = some (.slice A1_6 l1_6.length c1_6) ∧ w'.cell? ⟨w.heap.size + 1, 6, none⟩ = some (.slice A1_7 l1_7.length c1_7) from fun w' hb => ⟨(hb.cell (p := ⟨w.heap.size + 1, 5, none⟩) (by have := HZ.out; show _ < _; simp; omega)).trans HD.out.1, (hb.cell (p := ⟨w.heap.size + 1, 6, none⟩) (by have := HZ.out; show _ < _; simp; omega)).trans HD.out.2⟩)
    have HQ6 := am (show ∀ wx W_ : World, Below W3.heap.size W3 wx → Kept wx W_ (fun k_ => W3.heap.size ≤ k_) → Kd.C (Kd.int .i64) W_ A1_6 l1_6.length l1_6 from fun wx W_ hb hk => Kd.C_kept_came (Kd.heap_int .i64) (Kd.C_below HR6.out HB0.out) hb (fun _ h => h) W_ hk)
    have HQ7 := am (show ∀ wx W_ : World, Below W3.heap.size W3 wx → Kept wx W_ (fun k_ => W3.heap.size ≤ k_) → Kd.C (Kd.int .i64) W_ A1_7 l1_7.length l1_7 from fun wx W_ hb hk => Kd.C_kept_came (Kd.heap_int .i64) (Kd.C_below HR7.out HB0.out) hb (fun _ h => h) W_ hk)
    go_wp2
    go_region_held3 (fun w' => w'.cell? ⟨w.heap.size + 1, 5, none⟩ = some (.slice A1_6 l1_6.length c1_6) ∧ w'.cell? ⟨w.heap.size + 1, 6, none⟩ = some (.slice A1_7 l1_7.length c1_7)) (exact HS.out _ (by repeat (first | exact HB2.out | exact HB1.out | exact HB.out | apply below_drew1 | apply pw_below_drewN))) (first | (go_at_call 41; refine (event_appendList.calls k (fun k_ => W3.heap.size ≤ k_) (.slice Ao t5.length co) t5 A1_6 c1_6 l1_6 t6 W3 _ ?s1 ?s2 ?s3 HC6.out HT6.out).mono ?_; (case s1 => repeat (first | exact HB.out | apply below_drew1 | apply pw_below_drewN)); (case s2 => repeat (first | exact HO'.out | apply Kd.R_drewN | apply Kd.R_drew)); (case s3 => exact fun W_ hk => HQ6.out _ W_ (by repeat (first | exact HB.out | apply below_drew1 | apply pw_below_drewN)) hk); rintro e w5 ⟨v5, rfl, ho, hb, hkp⟩; have HO1 := am (Kd.R_mono (ok' := fun k_ => W3.heap.size ≤ k_) (Kd.R_bound ho) (fun _ hk => hk.2.1)); have HB1 := am hb; clear ho hb hkp HT6) | (go_at_call 41; refine (event_appendList.calls k (fun k_ => W3.heap.size ≤ k_) _ t6 A1_7 c1_7 l1_7 r W3 _ ?s1 ?s2 ?s3 HC7.out HT7.out).mono ?_; (case s1 => repeat (first | exact HB1.out | apply below_drew1 | apply pw_below_drewN)); (case s2 => repeat (first | exact HO1.out | apply Kd.R_drewN | apply Kd.R_drew)); (case s3 => exact fun W_ hk => HQ7.out _ W_ (by repeat (first | exact HB1.out | apply below_drew1 | apply pw_below_drewN)) hk); rintro e w6 ⟨v6, rfl, ho, hb, hkp⟩; have HO2 := am (Kd.R_mono (ok' := fun k_ => W3.heap.size ≤ k_) (Kd.R_bound ho) (fun _ hk => hk.2.1)); have HB2 := am hb; clear ho hb hkp))
    all_goals
     go_wp2
     go_ret
     exact ⟨_, rfl, Kd.R_mono (Kd.R_lower HO2.out HB0.out.size) (fun _ _ => trivial), below_then HB0.out HB0.out.size HB2.out⟩
end Go.Proofs.Ytnmmkgagbfniiaa.A
end
