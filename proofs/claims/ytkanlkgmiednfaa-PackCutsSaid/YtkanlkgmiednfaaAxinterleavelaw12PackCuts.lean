/- Made by a program of this session (drv.py) over the kit's printer: plain functions, and the proofs that the program's functions come to their answers. No condition. -/
import Derived.Test.YtkanlkgmiednfaaAx0
import Derived.Test.YtkanlkgmiednfaaAxinterleaveref11SameBytes
import Derived.Test.YtkanlkgmiednfaaAxpackPack
import Derived.Test.YtkanlkgmiednfaaAxpackUnpack
namespace Go.Proofs.Ytkanlkgmiednfaa.A
open Go.RowKit Go.Proofs.YtkanlkgmiednfaaW.PrintWords Go.Proofs.YtkanlkgmiednfaaW.PrintLast Go.Proofs.YtkanlkgmiednfaaW.PrintMore
attribute [local go_sem] max2_int min2_int max_two min_two max_three min_three max_four min_four   -- for this text's walks alone
set_option linter.unusedVariables false
set_option linter.unusedSimpArgs false

/-! ### interleavelaw12_PackCuts: function 17 -/
def interleavelaw12_PackCuts.j0 : Nat → List Int → Int → Bool → Option (Bool)
  | 0, _, _, _ => none
  | k + 1, x0, x1, x15 => if x15 = true then (some true) else ((pack_Pack.f k x0).bind fun t412 => (if (t412.length : Int) = 0 then (some false) else (if 0 ≤ (Int.tmod (wrap64 (x1)) (t412.length : Int)) then (if (Int.tmod (wrap64 (x1)) (t412.length : Int)) ≤ (t412.length : Int) then ((pack_Unpack.f k (t412.take ((Int.tmod (wrap64 (x1)) (t412.length : Int)) : Int).toNat) (x0.length : Int)).bind fun bt419 => (if bt419.2 = 0 then (if (bt419.1.length : Int) < (x0.length : Int) then (if 0 ≤ (bt419.1.length : Int) then (if (bt419.1.length : Int) ≤ (x0.length : Int) then ((interleaveref11_SameBytes.f k bt419.1 (x0.take ((bt419.1.length : Int) : Int).toNat)).bind fun t424 => (some t424)) else (none)) else (none)) else (some false)) else (if bt419.2 = 9 then (some ((bt419.1.length : Int) == 0)) else (some false)))) else (none)) else (none))))
def interleavelaw12_PackCuts.f (k : Nat) (l0 : List Int) (a1 : Int) : Option (Bool) := if (l0.length : Int) = 0 then (interleavelaw12_PackCuts.j0 k l0 a1 true) else (interleavelaw12_PackCuts.j0 k l0 a1 (decide ((l0.length : Int) > 2000)))
theorem interleavelaw12_PackCuts.mono_l : ∀ k, (∀ y0 y1 y2, LeO (interleavelaw12_PackCuts.j0 k y0 y1 y2) (interleavelaw12_PackCuts.j0 (k + 1) y0 y1 y2))
  | 0 => fun _ _ _ r h => by simp [interleavelaw12_PackCuts.j0] at h
  | k + 1 => by
    have ih0 := interleavelaw12_PackCuts.mono_l k
    · intro y0 y1 y2
      unfold interleavelaw12_PackCuts.j0
      repeat' first
      | (with_reducible exact ih0 _ _ _)
      | (with_reducible exact interleaveref11_SameBytes.mono _ _ _)
      | (with_reducible exact pack_Pack.mono _ _)
      | (with_reducible exact pack_Unpack.mono _ _ _)
      | (with_reducible exact LeO.refl _)
      | (with_reducible exact LeO.none _)
      | (with_reducible refine LeO.ite ?_ ?_)
      | (with_reducible refine LeO.bind ?_ (fun _ => ?_))
      | exact ih0 _ _ _
      | exact interleaveref11_SameBytes.mono _ _ _
      | exact pack_Pack.mono _ _
      | exact pack_Unpack.mono _ _ _
      | exact LeO.none _
      | refine LeO.ite ?_ ?_
      | refine LeO.bind ?_ (fun _ => ?_)
theorem interleavelaw12_PackCuts.mono : ∀ a0 a1 k, LeO (interleavelaw12_PackCuts.f k a0 a1) (interleavelaw12_PackCuts.f (k + 1) a0 a1) := by
  intro a0 a1 k
  have ih0 := interleavelaw12_PackCuts.mono_l k
  unfold interleavelaw12_PackCuts.f
  repeat' first
      | (with_reducible exact ih0 _ _ _)
      | (with_reducible exact interleaveref11_SameBytes.mono _ _ _)
      | (with_reducible exact pack_Pack.mono _ _)
      | (with_reducible exact pack_Unpack.mono _ _ _)
      | (with_reducible exact LeO.refl _)
      | (with_reducible exact LeO.none _)
      | (with_reducible refine LeO.ite ?_ ?_)
      | (with_reducible refine LeO.bind ?_ (fun _ => ?_))
      | exact ih0 _ _ _
      | exact interleaveref11_SameBytes.mono _ _ _
      | exact pack_Pack.mono _ _
      | exact pack_Unpack.mono _ _ _
      | exact LeO.none _
      | refine LeO.ite ?_ ?_
      | refine LeO.bind ?_ (fun _ => ?_)
set_option maxHeartbeats 8000000 in
set_option maxRecDepth 100000 in
theorem interleavelaw12_PackCuts.calls (k : Nat) (A0 : Option Addr) (c0 : Nat) (l0 : List Int) (a1 : Int) (r : Bool) (w : World) (hr0 : Kd.C (Kd.int .u8) w A0 l0.length l0) (hc0 : l0.length ≤ c0) (h : interleavelaw12_PackCuts.f k l0 a1 = some r) :
    Calls Try.prog 17 #[.slice A0 l0.length c0, .int .u16 a1] w fun e w' => e = .returned (.bool r) ∧ Below w.heap.size w w' := by
  have HR0 := Aside0.mk hr0
  have HC0 := Aside0.mk hc0
  clear hr0 hc0
  have HB := Aside0.mk (Below.refl w.heap.size w)
  have H : (if (l0.length : Int) = 0 then (interleavelaw12_PackCuts.j0 k l0 a1 true) else (interleavelaw12_PackCuts.j0 k l0 a1 (decide ((l0.length : Int) > 2000)))) = some r := h
  clear h
  have HC3 := Aside0.mk H
  clear H
  go_enter Try.func17, Try.ntmps17
  go_upto_region 1 with (fail)
  go_cut [15] (fun v15 wc => ∃ (kq : Nat) (x15_2 : Bool), v15 = .bool x15_2 ∧ Aside0 (interleavelaw12_PackCuts.j0 kq l0 a1 x15_2 = some r) ∧ Aside0 (kq ≤ k) ∧ Aside0 (Below w.heap.size w wc))
  case first =>
    have H := HC3.out
    clear HC3
    by_cases c4 : (l0.length : Int) = 0
    · rw [if_pos c4] at H
      have c4b0 : ((l0.length : Int) == 0) = true := beq_iff_eq.mpr c4
      have c4b1 : ((l0.length : Int) != 0) = false := bne_eq_false_iff_eq.mpr c4
      clear c4
      (first | rw [c4b0] | (simp only [i64_w, i32_w]; rw [c4b0]) | skip)
      have H' := Aside0.mk H
      clear H
      go_wp2
      go_meet
      case rel => exact ⟨_, (true), (by first | rfl | (simp; done) | (simp [*]; done)), H', ⟨by first | omega | exact Nat.le_refl _⟩, ⟨by repeat (first | (with_reducible first | exact HB.out | apply below_alloc | apply pw_below_drewN | apply below_drew1) | exact HB.out)⟩⟩
    · rw [if_neg c4] at H
      have c4b0 : ((l0.length : Int) == 0) = false := beq_eq_false_iff_ne.mpr c4
      have c4b1 : ((l0.length : Int) != 0) = true := bne_iff_ne.mpr c4
      have c4b2 : ¬ (l0 = []) := fun h_ => c4 (by rw [h_]; rfl)
      (first | rw [c4b0] | (simp only [i64_w, i32_w]; rw [c4b0]) | skip)
      have H' := Aside0.mk H
      clear H
      go_wp2
      go_meet
      case rel => exact ⟨_, (decide ((l0.length : Int) > 2000)), (by first | rfl | (simp; done) | (simp [*]; done)), H', ⟨by first | omega | exact Nat.le_refl _⟩, ⟨by repeat (first | (with_reducible first | exact HB.out | apply below_alloc | apply pw_below_drewN | apply below_drew1) | exact HB.out)⟩⟩
  case rest =>
    clear HC3
    try clear c1
    try clear p2
    try clear c4
    try clear c4b0
    try clear c4b1
    try clear c4b2
    obtain ⟨kq, x15_2, rfl, HA, HJ2, HB⟩ := hcut
    cases kq with
    | zero => exact absurd HA.out (by simp [interleavelaw12_PackCuts.j0])
    | succ kj2 =>
      have H := HA.out
      clear HA
      simp only [interleavelaw12_PackCuts.j0] at H
      by_cases c5 : x15_2 = true
      · subst c5
        have H1 : (some true) = some r := by rw [if_pos rfl] at H; exact H
        clear H
        have H := H1
        clear H1
        obtain rfl := Option.some.inj H
        go_wp2
        go_ret
        exact ⟨by first | rfl | (simp [errW_none, errW_some] <;> rfl) | (simp [*, errW_none, errW_some] <;> rfl), by repeat (first | (with_reducible first | exact HB.out | apply below_alloc | apply pw_below_drewN | apply below_drew1) | exact HB.out)⟩
      · replace c5 := Bool.eq_false_iff.mpr c5
        subst c5
        have H1 : ((pack_Pack.f kj2 l0).bind fun t412 => (if (t412.length : Int) = 0 then (some false) else (if 0 ≤ (Int.tmod (wrap64 (a1)) (t412.length : Int)) then (if (Int.tmod (wrap64 (a1)) (t412.length : Int)) ≤ (t412.length : Int) then ((pack_Unpack.f kj2 (t412.take ((Int.tmod (wrap64 (a1)) (t412.length : Int)) : Int).toNat) (l0.length : Int)).bind fun bt419 => (if bt419.2 = 0 then (if (bt419.1.length : Int) < (l0.length : Int) then (if 0 ≤ (bt419.1.length : Int) then (if (bt419.1.length : Int) ≤ (l0.length : Int) then ((interleaveref11_SameBytes.f kj2 bt419.1 (l0.take ((bt419.1.length : Int) : Int).toNat)).bind fun t424 => (some t424)) else (none)) else (none)) else (some false)) else (if bt419.2 = 9 then (some ((bt419.1.length : Int) == 0)) else (some false)))) else (none)) else (none)))) = some r := by rw [if_neg (show ¬ (false = true) by decide)] at H; exact H
        clear H
        have H := H1
        clear H1
        replace H := Option.bind_eq_some_iff.mp H
        obtain ⟨t412, A60, H⟩ := H
        replace H : (if (t412.length : Int) = 0 then (some false) else (if 0 ≤ (Int.tmod (wrap64 (a1)) (t412.length : Int)) then (if (Int.tmod (wrap64 (a1)) (t412.length : Int)) ≤ (t412.length : Int) then ((pack_Unpack.f kj2 (t412.take ((Int.tmod (wrap64 (a1)) (t412.length : Int)) : Int).toNat) (l0.length : Int)).bind fun bt419 => (if bt419.2 = 0 then (if (bt419.1.length : Int) < (l0.length : Int) then (if 0 ≤ (bt419.1.length : Int) then (if (bt419.1.length : Int) ≤ (l0.length : Int) then ((interleaveref11_SameBytes.f kj2 bt419.1 (l0.take ((bt419.1.length : Int) : Int).toNat)).bind fun t424 => (some t424)) else (none)) else (none)) else (some false)) else (if bt419.2 = 9 then (some ((bt419.1.length : Int) == 0)) else (some false)))) else (none)) else (none))) = some r := H
        have A6 := Aside0.mk A60
        clear A60
        by_cases c7 : (t412.length : Int) = 0
        · rw [if_pos c7] at H
          have c7b0 : ((t412.length : Int) == 0) = true := beq_iff_eq.mpr c7
          have c7b1 : ((t412.length : Int) != 0) = false := bne_eq_false_iff_eq.mpr c7
          clear c7
          obtain rfl := Option.some.inj H
          go_wp2_with (first | ((with_reducible refine gate_callee (f := 39) rfl ?_); refine goesL_ (some 17) rfl rfl Try.func39 (by kernel_rfl) rfl #[.slice A0 l0.length c0] rfl (by (try simp only [List.map_toArray, List.map_cons, List.map_nil]); first | done | rfl | (simp only [List.length_drop, List.length_take]; rfl)) ?_; (with_reducible refine (pack_Pack.calls kj2 _ _ l0 t412 _ ?side1 ?side2 A6.out).mono ?_); (case side1 => repeat (first | exact (Kd.C_below HR0.out HB.out) | (with_reducible refine Kd.C_alloc ?_ _) | (with_reducible refine Kd.C_drewN ?_ _) | (with_reducible refine Kd.C_drew ?_))); (case side2 => exact HC0.out); rintro e w8 ⟨v413, rfl, ho0, hb⟩; refine ⟨_, rfl, ?_⟩; have n0_ := Aside0.mk (Kd.R_lower ho0 (below_size (by repeat (first | (with_reducible first | exact HB.out | apply below_alloc | apply pw_below_drewN | apply below_drew1) | exact HB.out)))); have n1_ := Aside0.mk (below_step (by repeat (first | (with_reducible first | exact HB.out | apply below_alloc | apply pw_below_drewN | apply below_drew1) | exact HB.out)) hb); clear HB; have HO414 := n0_; have HB := n1_; clear n0_ n1_; (try clear hb); (try clear hb2); (try clear hk); (try clear hi); (try clear ho0); obtain ⟨Ao9, co9, eo9⟩ := Kd.R_slice HO414.out; subst eo9))
          go_ret
          exact ⟨by first | rfl | (simp [errW_none, errW_some] <;> rfl) | (simp [*, errW_none, errW_some] <;> rfl), by repeat (first | (with_reducible first | exact HB.out | apply below_alloc | apply pw_below_drewN | apply below_drew1) | exact HB.out)⟩
        · rw [if_neg c7] at H
          have c7b0 : ((t412.length : Int) == 0) = false := beq_eq_false_iff_ne.mpr c7
          have c7b1 : ((t412.length : Int) != 0) = true := bne_iff_ne.mpr c7
          have c7b2 : ¬ (t412 = []) := fun h_ => c7 (by rw [h_]; rfl)
          obtain ⟨ji10, hji10⟩ : ∃ j_ : Int, (Int.tmod (wrap64 (a1)) (t412.length : Int)) = j_ := ⟨_, rfl⟩
          replace H : (if 0 ≤ (ji10) then (if (ji10) ≤ (t412.length : Int) then ((pack_Unpack.f kj2 (t412.take ((ji10) : Int).toNat) (l0.length : Int)).bind fun bt419 => (if bt419.2 = 0 then (if (bt419.1.length : Int) < (l0.length : Int) then (if 0 ≤ (bt419.1.length : Int) then (if (bt419.1.length : Int) ≤ (l0.length : Int) then ((interleaveref11_SameBytes.f kj2 bt419.1 (l0.take ((bt419.1.length : Int) : Int).toNat)).bind fun t424 => (some t424)) else (none)) else (none)) else (some false)) else (if bt419.2 = 9 then (some ((bt419.1.length : Int) == 0)) else (some false)))) else (none)) else (none)) = some r := by first | (rw [hji10] at H; exact H) | (simp only [hji10] at H ⊢; exact H)
          (try rw [hji10] at A6)
          by_cases c11 : 0 ≤ (ji10)
          · rw [if_pos c11] at H
            have c11b0 := eq_true c11
            have c11b1 : decide (0 ≤ (ji10)) = true := decide_eq_true c11
            clear c11
            by_cases c12 : (ji10) ≤ (t412.length : Int)
            · rw [if_pos c12] at H
              have c12b0 := eq_true c12
              have c12b1 : decide ((ji10) ≤ (t412.length : Int)) = true := decide_eq_true c12
              clear c12
              obtain ⟨y415, hy415⟩ : ∃ y_ : List Int, y_ = (t412.take ((ji10) : Int).toNat) := ⟨_, rfl⟩
              replace H : ((pack_Unpack.f kj2 y415 (l0.length : Int)).bind fun bt419 => (if bt419.2 = 0 then (if (bt419.1.length : Int) < (l0.length : Int) then (if 0 ≤ (bt419.1.length : Int) then (if (bt419.1.length : Int) ≤ (l0.length : Int) then ((interleaveref11_SameBytes.f kj2 bt419.1 (l0.take ((bt419.1.length : Int) : Int).toNat)).bind fun t424 => (some t424)) else (none)) else (none)) else (some false)) else (if bt419.2 = 9 then (some ((bt419.1.length : Int) == 0)) else (some false)))) = some r := by first | (rw [hy415]; with_reducible exact H) | (have H2_ := (Option.bind_some _ _).symm.trans H; rw [hy415]; with_reducible exact H2_) | (have H2_ := (Option.bind_some _ _).symm.trans H; with_reducible exact H2_) | with_reducible exact H | (rw [hy415]; exact H) | exact H
              have Ny415 := Aside0.mk hy415
              clear hy415
              replace H := Option.bind_eq_some_iff.mp H
              obtain ⟨⟨t419, t420⟩, A130, H⟩ := H
              replace H : (if t420 = 0 then (if (t419.length : Int) < (l0.length : Int) then (if 0 ≤ (t419.length : Int) then (if (t419.length : Int) ≤ (l0.length : Int) then ((interleaveref11_SameBytes.f kj2 t419 (l0.take ((t419.length : Int) : Int).toNat)).bind fun t424 => (some t424)) else (none)) else (none)) else (some false)) else (if t420 = 9 then (some ((t419.length : Int) == 0)) else (some false))) = some r := H
              have A13 := Aside0.mk A130
              clear A130
              by_cases c14 : t420 = 0
              · rw [if_pos c14] at H
                have c14b0 : (t420 == 0) = true := beq_iff_eq.mpr c14
                have c14b1 : (t420 != 0) = false := bne_eq_false_iff_eq.mpr c14
                clear c14
                by_cases c15 : (t419.length : Int) < (l0.length : Int)
                · rw [if_pos c15] at H
                  have c15b0 : decide ((t419.length : Int) < (l0.length : Int)) = true := decide_eq_true c15
                  have c15b1 : decide (t419.length < l0.length) = true := decide_eq_true (Int.ofNat_lt.mp c15)
                  clear c15
                  by_cases c16 : 0 ≤ (t419.length : Int)
                  · rw [if_pos c16] at H
                    have c16b0 := eq_true c16
                    have c16b1 : decide (0 ≤ (t419.length : Int)) = true := decide_eq_true c16
                    clear c16
                    by_cases c17 : (t419.length : Int) ≤ (l0.length : Int)
                    · rw [if_pos c17] at H
                      have c17b0 := eq_true c17
                      have c17b1 : decide ((t419.length : Int) ≤ (l0.length : Int)) = true := decide_eq_true c17
                      clear c17
                      replace H := Option.bind_eq_some_iff.mp H
                      obtain ⟨t424, A180, H⟩ := H
                      replace H : (some t424) = some r := H
                      have A18 := Aside0.mk A180
                      clear A180
                      obtain rfl := Option.some.inj H
                      go_wp2_with (first | ((with_reducible refine gate_callee (f := 39) rfl ?_); refine goesL_ (some 17) rfl rfl Try.func39 (by kernel_rfl) rfl #[.slice A0 l0.length c0] rfl (by (try simp only [List.map_toArray, List.map_cons, List.map_nil]); first | done | rfl | (simp only [List.length_drop, List.length_take]; rfl)) ?_; (with_reducible refine (pack_Pack.calls kj2 _ _ l0 t412 _ ?side1 ?side2 A6.out).mono ?_); (case side1 => repeat (first | exact (Kd.C_below HR0.out HB.out) | (with_reducible refine Kd.C_alloc ?_ _) | (with_reducible refine Kd.C_drewN ?_ _) | (with_reducible refine Kd.C_drew ?_))); (case side2 => exact HC0.out); rintro e w19 ⟨v413, rfl, ho0, hb⟩; refine ⟨_, rfl, ?_⟩; have n0_ := Aside0.mk (Kd.R_lower ho0 (below_size (by repeat (first | (with_reducible first | exact HB.out | apply below_alloc | apply pw_below_drewN | apply below_drew1) | exact HB.out)))); have n1_ := Aside0.mk (below_step (by repeat (first | (with_reducible first | exact HB.out | apply below_alloc | apply pw_below_drewN | apply below_drew1) | exact HB.out)) hb); clear HB; have HO414 := n0_; have HB := n1_; clear n0_ n1_; (try clear hb); (try clear hb2); (try clear hk); (try clear hi); (try clear ho0); obtain ⟨Ao20, co20, eo20⟩ := Kd.R_slice HO414.out; subst eo20; have q21 : ((ji10) : Int) ≤ ((t412.length : Int) : Int) := of_decide_eq_true (by first | (with_reducible assumption) | assumption); obtain ⟨i021, hi021, _, hsz21, _⟩ := info_parts info5; have hroom21 : t412.length ≤ co20 := (Kd.R_reads' HO414.out).2.1; have hC21 : Kd.C (Kd.int .u8) _ Ao20 t412.length t412 := (Kd.R_reads' HO414.out).2.2; have hcut21 := cut_to (P := Try.prog) 22 5 .i64 Try.underlying22 hi021 Ao20 t412.length co20 (ji10) (of_decide_eq_true (by first | (with_reducible assumption) | assumption)) q21 hroom21; have hr21 := Kd.C_take (m := ((ji10) : Int).toNat) hC21 (by omega); have hy21 : y415.length = ((ji10) : Int).toNat := (by rw [Ny415.out, List.length_take]; omega); rw [← Ny415.out] at hr21; rw [← hy21] at hcut21; have HR418 := Aside0.mk hr21; have HC418 := Aside0.mk (show y415.length ≤ co20 from by omega); clear hr21 hC21 hroom21 hi021 hsz21; have KY21 := Aside0.mk hy21; clear hy21; have KL21 := Aside0.mk (show ((ji10) : Int).toNat ≤ t412.length from by omega); replace q21 := eq_true q21) | ((with_reducible refine gate_callee (f := 45) rfl ?_); refine goesL_ (some 31) rfl rfl Try.func45 (by kernel_rfl) rfl #[.slice Ao20 y415.length co20, .int .i64 (l0.length : Int)] rfl (by (try simp only [List.map_toArray, List.map_cons, List.map_nil]); first | done | rfl | (simp only [List.length_drop, List.length_take]; rfl)) ?_; (with_reducible refine (pack_Unpack.calls kj2 _ _ y415 (l0.length : Int) t419 t420 _ ?side1 ?side2 A13.out).mono ?_); (case side1 => repeat (first | exact (by repeat (first | (with_reducible exact HR418.out) | (with_reducible refine Kd.C_alloc ?_ _) | (with_reducible refine Kd.C_drewN ?_ _) | (with_reducible refine Kd.C_drew ?_) | exact HR418.out)) | (with_reducible refine Kd.C_alloc ?_ _) | (with_reducible refine Kd.C_drewN ?_ _) | (with_reducible refine Kd.C_drew ?_))); (case side2 => exact HC418.out); rintro e w22 ⟨v421, rfl, ho0, hb⟩; refine ⟨_, rfl, ?_⟩; have n0_ := Aside0.mk (Kd.R_elder' (by (with_reducible repeat (first | apply Kd.R_alloc | apply Kd.R_drewN | apply Kd.R_drew)); exact HO414.out) (Kd.R_base ho0) hb); have n1_ := Aside0.mk (Kd.R_lower (Kd.R_new' ho0 (Kd.R_lt (by (with_reducible repeat (first | apply Kd.R_alloc | apply Kd.R_drewN | apply Kd.R_drew)); exact HO414.out))) (below_size (by repeat (first | (with_reducible first | exact HB.out | apply below_alloc | apply pw_below_drewN | apply below_drew1) | exact HB.out)))); have n2_ := Aside0.mk (Kd.C_below (by repeat (first | (with_reducible exact HR418.out) | (with_reducible refine Kd.C_alloc ?_ _) | (with_reducible refine Kd.C_drewN ?_ _) | (with_reducible refine Kd.C_drew ?_) | exact HR418.out)) hb); have n3_ := Aside0.mk (below_step (by repeat (first | (with_reducible first | exact HB.out | apply below_alloc | apply pw_below_drewN | apply below_drew1) | exact HB.out)) hb); clear HO414; clear HR418; clear HB; have HO414 := n0_; have HO422 := n1_; have HR418 := n2_; have HB := n3_; clear n0_ n1_ n2_ n3_; (try clear hb); (try clear hb2); (try clear hk); (try clear hi); (try clear ho0); obtain ⟨Ao23, co23, eo23⟩ := Kd.R_slice HO422.out; subst eo23; obtain ⟨i024, hi024, _, hsz24, _⟩ := info_parts info5; obtain ⟨hcut24, hA24, hC24⟩ := print_take_of (P := Try.prog) (Value.int .u8) 0 22 5 .i64 Try.underlying22 hi024 hsz24 A0 c0 l0 (t419.length : Int) (of_decide_eq_true (by first | (with_reducible assumption) | assumption)) (of_decide_eq_true (by first | (with_reducible assumption) | assumption)) HC0.out; have HR423 := Aside0.mk (Kd.C_of_reads (h1 := fun _ => rfl) (hA24 _ (Kd.reads_of_C HR0.out))); have HC423 := Aside0.mk hC24; clear hA24 hC24 hi024 hsz24) | (go_at_call 32; rw [show min t419.length l0.length = (l0.take ((t419.length : Int) : Int).toNat).length from by simp [List.length_take]]; (with_reducible refine (interleaveref11_SameBytes.calls kj2 _ _ t419 _ _ (l0.take ((t419.length : Int) : Int).toNat) t424 _ ?side1 ?side2 ?side3 ?side4 A18.out).mono ?_); (case side1 => repeat (first | exact (Kd.R_reads' HO422.out).2.2 | (with_reducible refine Kd.C_alloc ?_ _) | (with_reducible refine Kd.C_drewN ?_ _) | (with_reducible refine Kd.C_drew ?_))); (case side2 => exact (Kd.R_reads' HO422.out).2.1); (case side3 => repeat (first | exact (Kd.C_below HR423.out HB.out) | (with_reducible refine Kd.C_alloc ?_ _) | (with_reducible refine Kd.C_drewN ?_ _) | (with_reducible refine Kd.C_drew ?_))); (case side4 => exact HC423.out); rintro e w' ⟨rfl, ⟨nd, rfl⟩⟩))
                      go_ret
                      exact ⟨by first | rfl | (simp [errW_none, errW_some] <;> rfl) | (simp only [← hji10]; first | rfl | (simp [errW_none, errW_some] <;> rfl)) | (simp [*, errW_none, errW_some] <;> rfl), by repeat (first | (with_reducible first | exact HB.out | apply below_alloc | apply pw_below_drewN | apply below_drew1) | exact HB.out)⟩
                    · rw [if_neg c17] at H
                      exact absurd H (by simp)
                  · rw [if_neg c16] at H
                    exact absurd H (by simp)
                · rw [if_neg c15] at H
                  have c15b0 : decide ((t419.length : Int) < (l0.length : Int)) = false := decide_eq_false c15
                  have c15b1 : decide (t419.length < l0.length) = false := decide_eq_false (fun h => c15 (Int.ofNat_lt.mpr h))
                  clear c15
                  obtain rfl := Option.some.inj H
                  go_wp2_with (first | ((with_reducible refine gate_callee (f := 39) rfl ?_); refine goesL_ (some 17) rfl rfl Try.func39 (by kernel_rfl) rfl #[.slice A0 l0.length c0] rfl (by (try simp only [List.map_toArray, List.map_cons, List.map_nil]); first | done | rfl | (simp only [List.length_drop, List.length_take]; rfl)) ?_; (with_reducible refine (pack_Pack.calls kj2 _ _ l0 t412 _ ?side1 ?side2 A6.out).mono ?_); (case side1 => repeat (first | exact (Kd.C_below HR0.out HB.out) | (with_reducible refine Kd.C_alloc ?_ _) | (with_reducible refine Kd.C_drewN ?_ _) | (with_reducible refine Kd.C_drew ?_))); (case side2 => exact HC0.out); rintro e w25 ⟨v413, rfl, ho0, hb⟩; refine ⟨_, rfl, ?_⟩; have n0_ := Aside0.mk (Kd.R_lower ho0 (below_size (by repeat (first | (with_reducible first | exact HB.out | apply below_alloc | apply pw_below_drewN | apply below_drew1) | exact HB.out)))); have n1_ := Aside0.mk (below_step (by repeat (first | (with_reducible first | exact HB.out | apply below_alloc | apply pw_below_drewN | apply below_drew1) | exact HB.out)) hb); clear HB; have HO414 := n0_; have HB := n1_; clear n0_ n1_; (try clear hb); (try clear hb2); (try clear hk); (try clear hi); (try clear ho0); obtain ⟨Ao26, co26, eo26⟩ := Kd.R_slice HO414.out; subst eo26; have q27 : ((ji10) : Int) ≤ ((t412.length : Int) : Int) := of_decide_eq_true (by first | (with_reducible assumption) | assumption); obtain ⟨i027, hi027, _, hsz27, _⟩ := info_parts info5; have hroom27 : t412.length ≤ co26 := (Kd.R_reads' HO414.out).2.1; have hC27 : Kd.C (Kd.int .u8) _ Ao26 t412.length t412 := (Kd.R_reads' HO414.out).2.2; have hcut27 := cut_to (P := Try.prog) 22 5 .i64 Try.underlying22 hi027 Ao26 t412.length co26 (ji10) (of_decide_eq_true (by first | (with_reducible assumption) | assumption)) q27 hroom27; have hr27 := Kd.C_take (m := ((ji10) : Int).toNat) hC27 (by omega); have hy27 : y415.length = ((ji10) : Int).toNat := (by rw [Ny415.out, List.length_take]; omega); rw [← Ny415.out] at hr27; rw [← hy27] at hcut27; have HR418 := Aside0.mk hr27; have HC418 := Aside0.mk (show y415.length ≤ co26 from by omega); clear hr27 hC27 hroom27 hi027 hsz27; have KY27 := Aside0.mk hy27; clear hy27; have KL27 := Aside0.mk (show ((ji10) : Int).toNat ≤ t412.length from by omega); replace q27 := eq_true q27) | ((with_reducible refine gate_callee (f := 45) rfl ?_); refine goesL_ (some 31) rfl rfl Try.func45 (by kernel_rfl) rfl #[.slice Ao26 y415.length co26, .int .i64 (l0.length : Int)] rfl (by (try simp only [List.map_toArray, List.map_cons, List.map_nil]); first | done | rfl | (simp only [List.length_drop, List.length_take]; rfl)) ?_; (with_reducible refine (pack_Unpack.calls kj2 _ _ y415 (l0.length : Int) t419 t420 _ ?side1 ?side2 A13.out).mono ?_); (case side1 => repeat (first | exact (by repeat (first | (with_reducible exact HR418.out) | (with_reducible refine Kd.C_alloc ?_ _) | (with_reducible refine Kd.C_drewN ?_ _) | (with_reducible refine Kd.C_drew ?_) | exact HR418.out)) | (with_reducible refine Kd.C_alloc ?_ _) | (with_reducible refine Kd.C_drewN ?_ _) | (with_reducible refine Kd.C_drew ?_))); (case side2 => exact HC418.out); rintro e w28 ⟨v421, rfl, ho0, hb⟩; refine ⟨_, rfl, ?_⟩; have n0_ := Aside0.mk (Kd.R_elder' (by (with_reducible repeat (first | apply Kd.R_alloc | apply Kd.R_drewN | apply Kd.R_drew)); exact HO414.out) (Kd.R_base ho0) hb); have n1_ := Aside0.mk (Kd.R_lower (Kd.R_new' ho0 (Kd.R_lt (by (with_reducible repeat (first | apply Kd.R_alloc | apply Kd.R_drewN | apply Kd.R_drew)); exact HO414.out))) (below_size (by repeat (first | (with_reducible first | exact HB.out | apply below_alloc | apply pw_below_drewN | apply below_drew1) | exact HB.out)))); have n2_ := Aside0.mk (Kd.C_below (by repeat (first | (with_reducible exact HR418.out) | (with_reducible refine Kd.C_alloc ?_ _) | (with_reducible refine Kd.C_drewN ?_ _) | (with_reducible refine Kd.C_drew ?_) | exact HR418.out)) hb); have n3_ := Aside0.mk (below_step (by repeat (first | (with_reducible first | exact HB.out | apply below_alloc | apply pw_below_drewN | apply below_drew1) | exact HB.out)) hb); clear HO414; clear HR418; clear HB; have HO414 := n0_; have HO422 := n1_; have HR418 := n2_; have HB := n3_; clear n0_ n1_ n2_ n3_; (try clear hb); (try clear hb2); (try clear hk); (try clear hi); (try clear ho0); obtain ⟨Ao29, co29, eo29⟩ := Kd.R_slice HO422.out; subst eo29))
                  go_ret
                  exact ⟨by first | rfl | (simp [errW_none, errW_some] <;> rfl) | (simp only [← hji10]; first | rfl | (simp [errW_none, errW_some] <;> rfl)) | (simp [*, errW_none, errW_some] <;> rfl), by repeat (first | (with_reducible first | exact HB.out | apply below_alloc | apply pw_below_drewN | apply below_drew1) | exact HB.out)⟩
              · rw [if_neg c14] at H
                have c14b0 : (t420 == 0) = false := beq_eq_false_iff_ne.mpr c14
                have c14b1 : (t420 != 0) = true := bne_iff_ne.mpr c14
                by_cases c30 : t420 = 9
                · rw [if_pos c30] at H
                  have c30b0 : (t420 == 9) = true := beq_iff_eq.mpr c30
                  have c30b1 : (t420 != 9) = false := bne_eq_false_iff_eq.mpr c30
                  clear c30
                  obtain rfl := Option.some.inj H
                  go_wp2_with (first | ((with_reducible refine gate_callee (f := 39) rfl ?_); refine goesL_ (some 17) rfl rfl Try.func39 (by kernel_rfl) rfl #[.slice A0 l0.length c0] rfl (by (try simp only [List.map_toArray, List.map_cons, List.map_nil]); first | done | rfl | (simp only [List.length_drop, List.length_take]; rfl)) ?_; (with_reducible refine (pack_Pack.calls kj2 _ _ l0 t412 _ ?side1 ?side2 A6.out).mono ?_); (case side1 => repeat (first | exact (Kd.C_below HR0.out HB.out) | (with_reducible refine Kd.C_alloc ?_ _) | (with_reducible refine Kd.C_drewN ?_ _) | (with_reducible refine Kd.C_drew ?_))); (case side2 => exact HC0.out); rintro e w31 ⟨v413, rfl, ho0, hb⟩; refine ⟨_, rfl, ?_⟩; have n0_ := Aside0.mk (Kd.R_lower ho0 (below_size (by repeat (first | (with_reducible first | exact HB.out | apply below_alloc | apply pw_below_drewN | apply below_drew1) | exact HB.out)))); have n1_ := Aside0.mk (below_step (by repeat (first | (with_reducible first | exact HB.out | apply below_alloc | apply pw_below_drewN | apply below_drew1) | exact HB.out)) hb); clear HB; have HO414 := n0_; have HB := n1_; clear n0_ n1_; (try clear hb); (try clear hb2); (try clear hk); (try clear hi); (try clear ho0); obtain ⟨Ao32, co32, eo32⟩ := Kd.R_slice HO414.out; subst eo32; have q33 : ((ji10) : Int) ≤ ((t412.length : Int) : Int) := of_decide_eq_true (by first | (with_reducible assumption) | assumption); obtain ⟨i033, hi033, _, hsz33, _⟩ := info_parts info5; have hroom33 : t412.length ≤ co32 := (Kd.R_reads' HO414.out).2.1; have hC33 : Kd.C (Kd.int .u8) _ Ao32 t412.length t412 := (Kd.R_reads' HO414.out).2.2; have hcut33 := cut_to (P := Try.prog) 22 5 .i64 Try.underlying22 hi033 Ao32 t412.length co32 (ji10) (of_decide_eq_true (by first | (with_reducible assumption) | assumption)) q33 hroom33; have hr33 := Kd.C_take (m := ((ji10) : Int).toNat) hC33 (by omega); have hy33 : y415.length = ((ji10) : Int).toNat := (by rw [Ny415.out, List.length_take]; omega); rw [← Ny415.out] at hr33; rw [← hy33] at hcut33; have HR418 := Aside0.mk hr33; have HC418 := Aside0.mk (show y415.length ≤ co32 from by omega); clear hr33 hC33 hroom33 hi033 hsz33; have KY33 := Aside0.mk hy33; clear hy33; have KL33 := Aside0.mk (show ((ji10) : Int).toNat ≤ t412.length from by omega); replace q33 := eq_true q33) | ((with_reducible refine gate_callee (f := 45) rfl ?_); refine goesL_ (some 31) rfl rfl Try.func45 (by kernel_rfl) rfl #[.slice Ao32 y415.length co32, .int .i64 (l0.length : Int)] rfl (by (try simp only [List.map_toArray, List.map_cons, List.map_nil]); first | done | rfl | (simp only [List.length_drop, List.length_take]; rfl)) ?_; (with_reducible refine (pack_Unpack.calls kj2 _ _ y415 (l0.length : Int) t419 t420 _ ?side1 ?side2 A13.out).mono ?_); (case side1 => repeat (first | exact (by repeat (first | (with_reducible exact HR418.out) | (with_reducible refine Kd.C_alloc ?_ _) | (with_reducible refine Kd.C_drewN ?_ _) | (with_reducible refine Kd.C_drew ?_) | exact HR418.out)) | (with_reducible refine Kd.C_alloc ?_ _) | (with_reducible refine Kd.C_drewN ?_ _) | (with_reducible refine Kd.C_drew ?_))); (case side2 => exact HC418.out); rintro e w34 ⟨v421, rfl, ho0, hb⟩; refine ⟨_, rfl, ?_⟩; have n0_ := Aside0.mk (Kd.R_elder' (by (with_reducible repeat (first | apply Kd.R_alloc | apply Kd.R_drewN | apply Kd.R_drew)); exact HO414.out) (Kd.R_base ho0) hb); have n1_ := Aside0.mk (Kd.R_lower (Kd.R_new' ho0 (Kd.R_lt (by (with_reducible repeat (first | apply Kd.R_alloc | apply Kd.R_drewN | apply Kd.R_drew)); exact HO414.out))) (below_size (by repeat (first | (with_reducible first | exact HB.out | apply below_alloc | apply pw_below_drewN | apply below_drew1) | exact HB.out)))); have n2_ := Aside0.mk (Kd.C_below (by repeat (first | (with_reducible exact HR418.out) | (with_reducible refine Kd.C_alloc ?_ _) | (with_reducible refine Kd.C_drewN ?_ _) | (with_reducible refine Kd.C_drew ?_) | exact HR418.out)) hb); have n3_ := Aside0.mk (below_step (by repeat (first | (with_reducible first | exact HB.out | apply below_alloc | apply pw_below_drewN | apply below_drew1) | exact HB.out)) hb); clear HO414; clear HR418; clear HB; have HO414 := n0_; have HO422 := n1_; have HR418 := n2_; have HB := n3_; clear n0_ n1_ n2_ n3_; (try clear hb); (try clear hb2); (try clear hk); (try clear hi); (try clear ho0); obtain ⟨Ao35, co35, eo35⟩ := Kd.R_slice HO422.out; subst eo35))
                  go_ret
                  exact ⟨by first | rfl | (simp [errW_none, errW_some] <;> rfl) | (simp only [← hji10]; first | rfl | (simp [errW_none, errW_some] <;> rfl)) | (simp [*, errW_none, errW_some] <;> rfl), by repeat (first | (with_reducible first | exact HB.out | apply below_alloc | apply pw_below_drewN | apply below_drew1) | exact HB.out)⟩
                · rw [if_neg c30] at H
                  have c30b0 : (t420 == 9) = false := beq_eq_false_iff_ne.mpr c30
                  have c30b1 : (t420 != 9) = true := bne_iff_ne.mpr c30
                  obtain rfl := Option.some.inj H
                  go_wp2_with (first | ((with_reducible refine gate_callee (f := 39) rfl ?_); refine goesL_ (some 17) rfl rfl Try.func39 (by kernel_rfl) rfl #[.slice A0 l0.length c0] rfl (by (try simp only [List.map_toArray, List.map_cons, List.map_nil]); first | done | rfl | (simp only [List.length_drop, List.length_take]; rfl)) ?_; (with_reducible refine (pack_Pack.calls kj2 _ _ l0 t412 _ ?side1 ?side2 A6.out).mono ?_); (case side1 => repeat (first | exact (Kd.C_below HR0.out HB.out) | (with_reducible refine Kd.C_alloc ?_ _) | (with_reducible refine Kd.C_drewN ?_ _) | (with_reducible refine Kd.C_drew ?_))); (case side2 => exact HC0.out); rintro e w36 ⟨v413, rfl, ho0, hb⟩; refine ⟨_, rfl, ?_⟩; have n0_ := Aside0.mk (Kd.R_lower ho0 (below_size (by repeat (first | (with_reducible first | exact HB.out | apply below_alloc | apply pw_below_drewN | apply below_drew1) | exact HB.out)))); have n1_ := Aside0.mk (below_step (by repeat (first | (with_reducible first | exact HB.out | apply below_alloc | apply pw_below_drewN | apply below_drew1) | exact HB.out)) hb); clear HB; have HO414 := n0_; have HB := n1_; clear n0_ n1_; (try clear hb); (try clear hb2); (try clear hk); (try clear hi); (try clear ho0); obtain ⟨Ao37, co37, eo37⟩ := Kd.R_slice HO414.out; subst eo37; have q38 : ((ji10) : Int) ≤ ((t412.length : Int) : Int) := of_decide_eq_true (by first | (with_reducible assumption) | assumption); obtain ⟨i038, hi038, _, hsz38, _⟩ := info_parts info5; have hroom38 : t412.length ≤ co37 := (Kd.R_reads' HO414.out).2.1; have hC38 : Kd.C (Kd.int .u8) _ Ao37 t412.length t412 := (Kd.R_reads' HO414.out).2.2; have hcut38 := cut_to (P := Try.prog) 22 5 .i64 Try.underlying22 hi038 Ao37 t412.length co37 (ji10) (of_decide_eq_true (by first | (with_reducible assumption) | assumption)) q38 hroom38; have hr38 := Kd.C_take (m := ((ji10) : Int).toNat) hC38 (by omega); have hy38 : y415.length = ((ji10) : Int).toNat := (by rw [Ny415.out, List.length_take]; omega); rw [← Ny415.out] at hr38; rw [← hy38] at hcut38; have HR418 := Aside0.mk hr38; have HC418 := Aside0.mk (show y415.length ≤ co37 from by omega); clear hr38 hC38 hroom38 hi038 hsz38; have KY38 := Aside0.mk hy38; clear hy38; have KL38 := Aside0.mk (show ((ji10) : Int).toNat ≤ t412.length from by omega); replace q38 := eq_true q38) | ((with_reducible refine gate_callee (f := 45) rfl ?_); refine goesL_ (some 31) rfl rfl Try.func45 (by kernel_rfl) rfl #[.slice Ao37 y415.length co37, .int .i64 (l0.length : Int)] rfl (by (try simp only [List.map_toArray, List.map_cons, List.map_nil]); first | done | rfl | (simp only [List.length_drop, List.length_take]; rfl)) ?_; (with_reducible refine (pack_Unpack.calls kj2 _ _ y415 (l0.length : Int) t419 t420 _ ?side1 ?side2 A13.out).mono ?_); (case side1 => repeat (first | exact (by repeat (first | (with_reducible exact HR418.out) | (with_reducible refine Kd.C_alloc ?_ _) | (with_reducible refine Kd.C_drewN ?_ _) | (with_reducible refine Kd.C_drew ?_) | exact HR418.out)) | (with_reducible refine Kd.C_alloc ?_ _) | (with_reducible refine Kd.C_drewN ?_ _) | (with_reducible refine Kd.C_drew ?_))); (case side2 => exact HC418.out); rintro e w39 ⟨v421, rfl, ho0, hb⟩; refine ⟨_, rfl, ?_⟩; have n0_ := Aside0.mk (Kd.R_elder' (by (with_reducible repeat (first | apply Kd.R_alloc | apply Kd.R_drewN | apply Kd.R_drew)); exact HO414.out) (Kd.R_base ho0) hb); have n1_ := Aside0.mk (Kd.R_lower (Kd.R_new' ho0 (Kd.R_lt (by (with_reducible repeat (first | apply Kd.R_alloc | apply Kd.R_drewN | apply Kd.R_drew)); exact HO414.out))) (below_size (by repeat (first | (with_reducible first | exact HB.out | apply below_alloc | apply pw_below_drewN | apply below_drew1) | exact HB.out)))); have n2_ := Aside0.mk (Kd.C_below (by repeat (first | (with_reducible exact HR418.out) | (with_reducible refine Kd.C_alloc ?_ _) | (with_reducible refine Kd.C_drewN ?_ _) | (with_reducible refine Kd.C_drew ?_) | exact HR418.out)) hb); have n3_ := Aside0.mk (below_step (by repeat (first | (with_reducible first | exact HB.out | apply below_alloc | apply pw_below_drewN | apply below_drew1) | exact HB.out)) hb); clear HO414; clear HR418; clear HB; have HO414 := n0_; have HO422 := n1_; have HR418 := n2_; have HB := n3_; clear n0_ n1_ n2_ n3_; (try clear hb); (try clear hb2); (try clear hk); (try clear hi); (try clear ho0)))
                  go_ret
                  exact ⟨by first | rfl | (simp [errW_none, errW_some] <;> rfl) | (simp only [← hji10]; first | rfl | (simp [errW_none, errW_some] <;> rfl)) | (simp [*, errW_none, errW_some] <;> rfl), by repeat (first | (with_reducible first | exact HB.out | apply below_alloc | apply pw_below_drewN | apply below_drew1) | exact HB.out)⟩
            · rw [if_neg c12] at H
              exact absurd H (by simp)
          · rw [if_neg c11] at H
            exact absurd H (by simp)

/-- THE ONE PURE STATEMENT of interleavelaw12_PackCuts: yours. -/
def interleavelaw12_PackCuts.Pure : Prop := ∀ (l0 : List Int) (a1 : Int), l0.length ≤ maxLen → l0.length * 1 ≤ 140737488351232 → (∀ x ∈ l0, (Lit.int .u8 x).wf = true) → (Lit.int .u16 a1).wf = true → ∃ k, interleavelaw12_PackCuts.f k l0 a1 = some true
theorem interleavelaw12_PackCuts.walk (P : interleavelaw12_PackCuts.Pure) (a0 : Option Addr) (len0 cap0 : Nat) (z0 : List Int) (a1 : Int) (w : World) (w0 : (a0 = none ∧ len0 = 0 ∧ cap0 = 0 ∧ z0 = []) ∨ ∃ x, a0 = some x ∧ len0 ≤ cap0 ∧ cap0 ≤ maxLen ∧ z0.length = cap0 ∧ (∀ i, i < z0.length → w.cell? (x.add i) = some (.int .u8 (z0.getD i 0))) ∧ ∀ n ∈ z0, (Lit.int .u8 n).wf = true) (y0 : len0 * 1 ≤ 140737488351232) (w1 : (Lit.int .u16 a1).wf = true) :
    Calls Try.prog 17 #[.slice a0 len0 cap0, .int .u16 a1] w fun e w' => e = .returned (.bool true) ∧ Below w.heap.size w w' := by
  obtain ⟨l0, rfl, hr0, hm0, hw0, hc0⟩ := ReadsInt.ofRowC w0
  obtain ⟨k, h⟩ := P l0 a1 hm0 y0 hw0 w1
  refine (interleavelaw12_PackCuts.calls k _ _ l0 a1 true w (Kd.C_of_reads (d := (0 : Int)) (h1 := fun _ => rfl) hr0) hc0 h).mono ?_
  rintro e w' ⟨rfl, hd⟩
  exact ⟨rfl, hd⟩

end Go.Proofs.Ytkanlkgmiednfaa.A
