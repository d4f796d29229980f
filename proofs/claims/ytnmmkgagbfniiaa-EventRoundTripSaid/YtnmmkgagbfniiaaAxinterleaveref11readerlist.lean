/- Made by a program of this session (drv.py) over the kit's printer: plain functions, and the proofs that the program's functions come to their answers. No condition. -/
import Derived.Test.YtnmmkgagbfniiaaAx0
import Derived.Test.YtnmmkgagbfniiaaAxinterleaveref11readernum
namespace Go.Proofs.Ytnmmkgagbfniiaa.A
open Go.RowKit Go.Proofs.YtnmmkgagbfniiaaW.PrintWords Go.Proofs.YtnmmkgagbfniiaaW.PrintLast Go.Proofs.YtnmmkgagbfniiaaW.PrintMore
attribute [local go_sem] max2_int min2_int max_two min_two max_three min_three max_four min_four   -- for this text's walks alone
set_option linter.unusedVariables false
set_option linter.unusedSimpArgs false

/-! ### interleaveref11_reader_list: function 48 -/
mutual
def interleaveref11_reader_list.j0 : Nat → Int → Bool → List Int → Int → Int → Option (List Int × Int × Int)
  | 0, _, _, _, _, _ => none
  | k + 1, x3, x21, x1000, x1001, x1002 => if x21 = true then (interleaveref11_reader_list.j1 k x3 x1000 x1001 11) else (interleaveref11_reader_list.j1 k x3 x1000 x1001 x1002)
def interleaveref11_reader_list.j1 : Nat → Int → List Int → Int → Int → Option (List Int × Int × Int)
  | 0, _, _, _, _ => none
  | k + 1, x3, x1000, x1001, x1002 => interleaveref11_reader_list.l0 k x3 ([] : List Int) 0 0 x1000 x1001 x1002
def interleaveref11_reader_list.l0 : Nat → Int → List Int → Int → Int → List Int → Int → Int → Option (List Int × Int × Int)
  | 0, _, _, _, _, _, _, _ => none
  | k + 1, x3, x4, x5, x6, x1000, x1001, x1002 => if x6 < x3 then (if x1002 = 0 then ((interleaveref11_reader_num.f k x1000 x1001 x1002).bind fun bt238 => (if x4.length < 17592186044416 then (interleaveref11_reader_list.l0 k x3 (x4 ++ [wrap64 (x5 + bt238.1)]) (wrap64 (x5 + bt238.1)) (wrap64 (x6 + 1)) x1000 bt238.2.1 bt238.2.2) else (none))) else (some (x4, x1001, x1002))) else (some (x4, x1001, x1002))
end
def interleaveref11_reader_list.f (k : Nat) (s0_0 : List Int) (s0_1 : Int) (s0_2 : Int) : Option (List Int × Int × Int) := (interleaveref11_reader_num.f k s0_0 s0_1 s0_2).bind fun bt235 => (if bt235.2.2 = 0 then (if bt235.1 < 0 then (interleaveref11_reader_list.j0 k bt235.1 true s0_0 bt235.2.1 bt235.2.2) else (interleaveref11_reader_list.j0 k bt235.1 (decide (bt235.1 > 400)) s0_0 bt235.2.1 bt235.2.2)) else (interleaveref11_reader_list.j0 k bt235.1 false s0_0 bt235.2.1 bt235.2.2))
theorem interleaveref11_reader_list.mono_l : ∀ k, (∀ y0 y1 y2 y3 y4, LeO (interleaveref11_reader_list.j0 k y0 y1 y2 y3 y4) (interleaveref11_reader_list.j0 (k + 1) y0 y1 y2 y3 y4)) ∧ (∀ y0 y1 y2 y3, LeO (interleaveref11_reader_list.j1 k y0 y1 y2 y3) (interleaveref11_reader_list.j1 (k + 1) y0 y1 y2 y3)) ∧ (∀ y0 y1 y2 y3 y4 y5 y6, LeO (interleaveref11_reader_list.l0 k y0 y1 y2 y3 y4 y5 y6) (interleaveref11_reader_list.l0 (k + 1) y0 y1 y2 y3 y4 y5 y6))
  | 0 => ⟨fun _ _ _ _ _ r h => by simp [interleaveref11_reader_list.j0] at h, fun _ _ _ _ r h => by simp [interleaveref11_reader_list.j1] at h, fun _ _ _ _ _ _ _ r h => by simp [interleaveref11_reader_list.l0] at h⟩
  | k + 1 => by
    obtain ⟨ih0, ih1, ih2⟩ := interleaveref11_reader_list.mono_l k
    refine ⟨?_, ?_, ?_⟩
    · intro y0 y1 y2 y3 y4
      unfold interleaveref11_reader_list.j0
      repeat' first
      | (with_reducible exact ih0 _ _ _ _ _)
      | (with_reducible exact ih1 _ _ _ _)
      | (with_reducible exact ih2 _ _ _ _ _ _ _)
      | (with_reducible exact interleaveref11_reader_num.mono _ _ _ _)
      | (with_reducible exact LeO.refl _)
      | (with_reducible exact LeO.none _)
      | (with_reducible refine LeO.ite ?_ ?_)
      | (with_reducible refine LeO.bind ?_ (fun _ => ?_))
      | exact ih0 _ _ _ _ _
      | exact ih1 _ _ _ _
      | exact ih2 _ _ _ _ _ _ _
      | exact interleaveref11_reader_num.mono _ _ _ _
      | exact LeO.none _
      | refine LeO.ite ?_ ?_
      | refine LeO.bind ?_ (fun _ => ?_)
    · intro y0 y1 y2 y3
      unfold interleaveref11_reader_list.j1
      repeat' first
      | (with_reducible exact ih0 _ _ _ _ _)
      | (with_reducible exact ih1 _ _ _ _)
      | (with_reducible exact ih2 _ _ _ _ _ _ _)
      | (with_reducible exact interleaveref11_reader_num.mono _ _ _ _)
      | (with_reducible exact LeO.refl _)
      | (with_reducible exact LeO.none _)
      | (with_reducible refine LeO.ite ?_ ?_)
      | (with_reducible refine LeO.bind ?_ (fun _ => ?_))
      | exact ih0 _ _ _ _ _
      | exact ih1 _ _ _ _
      | exact ih2 _ _ _ _ _ _ _
      | exact interleaveref11_reader_num.mono _ _ _ _
      | exact LeO.none _
      | refine LeO.ite ?_ ?_
      | refine LeO.bind ?_ (fun _ => ?_)
    · intro y0 y1 y2 y3 y4 y5 y6
      unfold interleaveref11_reader_list.l0
      repeat' first
      | (with_reducible exact ih0 _ _ _ _ _)
      | (with_reducible exact ih1 _ _ _ _)
      | (with_reducible exact ih2 _ _ _ _ _ _ _)
      | (with_reducible exact interleaveref11_reader_num.mono _ _ _ _)
      | (with_reducible exact LeO.refl _)
      | (with_reducible exact LeO.none _)
      | (with_reducible refine LeO.ite ?_ ?_)
      | (with_reducible refine LeO.bind ?_ (fun _ => ?_))
      | exact ih0 _ _ _ _ _
      | exact ih1 _ _ _ _
      | exact ih2 _ _ _ _ _ _ _
      | exact interleaveref11_reader_num.mono _ _ _ _
      | exact LeO.none _
      | refine LeO.ite ?_ ?_
      | refine LeO.bind ?_ (fun _ => ?_)
theorem interleaveref11_reader_list.mono : ∀ a0 a1 a2 k, LeO (interleaveref11_reader_list.f k a0 a1 a2) (interleaveref11_reader_list.f (k + 1) a0 a1 a2) := by
  intro a0 a1 a2 k
  obtain ⟨ih0, ih1, ih2⟩ := interleaveref11_reader_list.mono_l k
  unfold interleaveref11_reader_list.f
  repeat' first
      | (with_reducible exact ih0 _ _ _ _ _)
      | (with_reducible exact ih1 _ _ _ _)
      | (with_reducible exact ih2 _ _ _ _ _ _ _)
      | (with_reducible exact interleaveref11_reader_num.mono _ _ _ _)
      | (with_reducible exact LeO.refl _)
      | (with_reducible exact LeO.none _)
      | (with_reducible refine LeO.ite ?_ ?_)
      | (with_reducible refine LeO.bind ?_ (fun _ => ?_))
      | exact ih0 _ _ _ _ _
      | exact ih1 _ _ _ _
      | exact ih2 _ _ _ _ _ _ _
      | exact interleaveref11_reader_num.mono _ _ _ _
      | exact LeO.none _
      | refine LeO.ite ?_ ?_
      | refine LeO.bind ?_ (fun _ => ?_)
set_option maxHeartbeats 8000000 in
set_option maxRecDepth 100000 in
theorem interleaveref11_reader_list.calls (k : Nat) (g : Nat) (s0_0 : List Int) (s0_1 : Int) (s0_2 : Int) (r1 : List Int) (r2 : Int) (r3 : Int) (w0 w : World) (hI : IsS94 w0 w g s0_0 s0_1 s0_2) (hB : Below w0.heap.size w0 w) (h : interleaveref11_reader_list.f k s0_0 s0_1 s0_2 = some (r1, r2, r3)) :
    Calls Try.prog 48 #[.pointer (some ⟨g, 0, none⟩)] w fun e w' => ∃ v0_ : Value, e = .returned (v0_) ∧ Kd.R (Kd.int .i64) 3 w' w.heap.size (fun _ => True) v0_ r1 ∧ IsS94 w0 w' g s0_0 r2 r3 ∧ Below w0.heap.size w0 w' ∧ KeepBut w w' g none := by
  have HI0 := Aside0.mk hI
  have HK := Aside0.mk (KeepBut.refl w g none)
  have HL := Aside0.mk hB.size
  clear hI
  have HW0 := Aside0.mk hB.size
  have HB := Aside0.mk hB
  clear hB
  have H : ((interleaveref11_reader_num.f k s0_0 s0_1 s0_2).bind fun bt235 => (if bt235.2.2 = 0 then (if bt235.1 < 0 then (interleaveref11_reader_list.j0 k bt235.1 true s0_0 bt235.2.1 bt235.2.2) else (interleaveref11_reader_list.j0 k bt235.1 (decide (bt235.1 > 400)) s0_0 bt235.2.1 bt235.2.2)) else (interleaveref11_reader_list.j0 k bt235.1 false s0_0 bt235.2.1 bt235.2.2))) = some (r1, r2, r3) := h
  clear h
  replace H := Option.bind_eq_some_iff.mp H
  obtain ⟨⟨t235, t236, t237⟩, A20, H⟩ := H
  replace H : (if t237 = 0 then (if t235 < 0 then (interleaveref11_reader_list.j0 k t235 true s0_0 t236 t237) else (interleaveref11_reader_list.j0 k t235 (decide (t235 > 400)) s0_0 t236 t237)) else (interleaveref11_reader_list.j0 k t235 false s0_0 t236 t237)) = some (r1, r2, r3) := H
  have A2 := Aside0.mk A20
  clear A20
  have HC3 := Aside0.mk H
  clear H
  go_enter Try.func48, Try.ntmps48
  go_upto_region 2 with (first | ((with_reducible refine gate_callee (f := 47) rfl ?_); refine goesL_ (some 8) rfl rfl Try.func47 (by kernel_rfl) rfl #[.pointer (some ⟨g, 0, none⟩)] rfl (by (try simp only [List.map_toArray, List.map_cons, List.map_nil]); first | done | rfl | (simp only [List.length_drop, List.length_take]; rfl)) ?_; (with_reducible refine (interleaveref11_reader_num.calls k g s0_0 s0_1 s0_2 t235 t236 t237 w0 _ ?side1 ?side2 A2.out).mono ?_); (case side1 => repeat (first | (with_reducible first | exact HI0.out | apply IsS94.alloc | apply IsS94.drewN | apply IsS94.drew | apply IsS94.set_1 | apply IsS94.set_2) | exact HI0.out)); (case side2 => repeat (first | (with_reducible first | exact HB.out | apply below_alloc | apply pw_below_drewN | apply below_drew1 | refine below_set ?_ (IsS94.ge HI0.out)) | exact HB.out)); rintro e w4 ⟨rfl, hi, hb, hk⟩; refine ⟨_, rfl, ?_⟩; have n0_ := Aside0.mk (KeepBut.trans (by repeat (first | (with_reducible first | exact HK.out | apply KeepBut.set_ | apply keep_drewN | apply keep_drew | apply keep_alloc) | exact HK.out)) hk (.inl rfl)); have n1_ := Aside0.mk (hb); have n2_ := Aside0.mk (hi); clear HK; clear HB; clear HI0; have HK := n0_; have HB := n1_; have HI0 := n2_; clear n0_ n1_ n2_; (try clear hb); (try clear hb2); (try clear hk); (try clear hi)))
  (try simp only [Act.put, List.setIfInBounds_toArray, List.set_cons_zero, List.set_cons_succ])
  go_cut [21] (fun v21 wc => ∃ (kq : Nat) (x21_2 : Bool), v21 = .bool x21_2 ∧ Aside0 (interleaveref11_reader_list.j0 kq t235 x21_2 s0_0 t236 t237 = some (r1, r2, r3)) ∧ Aside0 (kq ≤ k) ∧ Aside0 (IsS94 w0 wc g s0_0 t236 t237) ∧ Aside0 (KeepBut w wc g none) ∧ Aside0 (Below w0.heap.size w0 wc))
  case first =>
    have H := HC3.out
    clear HC3
    by_cases c5 : t237 = 0
    · rw [if_pos c5] at H
      have c5b0 : (t237 == 0) = true := beq_iff_eq.mpr c5
      have c5b1 : (t237 != 0) = false := bne_eq_false_iff_eq.mpr c5
      clear c5
      (first | rw [c5b0] | (simp only [i64_w, i32_w]; rw [c5b0]) | skip)
      by_cases c6 : t235 < 0
      · rw [if_pos c6] at H
        have c6b0 : decide (t235 < 0) = true := decide_eq_true c6
        clear c6
        have H' := Aside0.mk H
        clear H
        obtain ⟨ASz7_0, cSz7_0, HGz7, hgz7, ⟨HSz7_0, _⟩⟩ := HI0.out
        have hcz7_0 := cellS94_0 HGz7
        have hcz7_1 := cellS94_1 HGz7
        have hcz7_2 := cellS94_2 HGz7
        have hfz7_1 := blk_frozen HGz7 1
        have hfz7_2 := blk_frozen HGz7 2
        clear HGz7 hgz7
        go_wp2
        go_meet
        case rel => exact ⟨_, (true), (by first | rfl | (simp; done) | (simp [*]; done)), H', ⟨by first | omega | exact Nat.le_refl _⟩, ⟨by repeat (first | (with_reducible first | exact HI0.out | apply IsS94.alloc | apply IsS94.drewN | apply IsS94.drew | apply IsS94.set_1 | apply IsS94.set_2) | exact HI0.out)⟩, ⟨by repeat (first | (with_reducible first | exact HK.out | apply KeepBut.set_ | apply keep_drewN | apply keep_drew | apply keep_alloc) | exact HK.out)⟩, ⟨by repeat (first | (with_reducible first | exact HB.out | apply below_alloc | apply pw_below_drewN | apply below_drew1 | refine below_set ?_ (IsS94.ge HI0.out)) | exact HB.out)⟩⟩
      · rw [if_neg c6] at H
        have c6b0 : decide (t235 < 0) = false := decide_eq_false c6
        clear c6
        have H' := Aside0.mk H
        clear H
        obtain ⟨ASz8_0, cSz8_0, HGz8, hgz8, ⟨HSz8_0, _⟩⟩ := HI0.out
        have hcz8_0 := cellS94_0 HGz8
        have hcz8_1 := cellS94_1 HGz8
        have hcz8_2 := cellS94_2 HGz8
        have hfz8_1 := blk_frozen HGz8 1
        have hfz8_2 := blk_frozen HGz8 2
        clear HGz8 hgz8
        go_wp2
        go_meet
        case rel => exact ⟨_, (decide (t235 > 400)), (by first | rfl | (simp; done) | (simp [*]; done)), H', ⟨by first | omega | exact Nat.le_refl _⟩, ⟨by repeat (first | (with_reducible first | exact HI0.out | apply IsS94.alloc | apply IsS94.drewN | apply IsS94.drew | apply IsS94.set_1 | apply IsS94.set_2) | exact HI0.out)⟩, ⟨by repeat (first | (with_reducible first | exact HK.out | apply KeepBut.set_ | apply keep_drewN | apply keep_drew | apply keep_alloc) | exact HK.out)⟩, ⟨by repeat (first | (with_reducible first | exact HB.out | apply below_alloc | apply pw_below_drewN | apply below_drew1 | refine below_set ?_ (IsS94.ge HI0.out)) | exact HB.out)⟩⟩
    · rw [if_neg c5] at H
      have c5b0 : (t237 == 0) = false := beq_eq_false_iff_ne.mpr c5
      have c5b1 : (t237 != 0) = true := bne_iff_ne.mpr c5
      (first | rw [c5b0] | (simp only [i64_w, i32_w]; rw [c5b0]) | skip)
      have H' := Aside0.mk H
      clear H
      obtain ⟨ASz9_0, cSz9_0, HGz9, hgz9, ⟨HSz9_0, _⟩⟩ := HI0.out
      have hcz9_0 := cellS94_0 HGz9
      have hcz9_1 := cellS94_1 HGz9
      have hcz9_2 := cellS94_2 HGz9
      have hfz9_1 := blk_frozen HGz9 1
      have hfz9_2 := blk_frozen HGz9 2
      clear HGz9 hgz9
      go_wp2
      go_meet
      case rel => exact ⟨_, (false), (by first | rfl | (simp; done) | (simp [*]; done)), H', ⟨by first | omega | exact Nat.le_refl _⟩, ⟨by repeat (first | (with_reducible first | exact HI0.out | apply IsS94.alloc | apply IsS94.drewN | apply IsS94.drew | apply IsS94.set_1 | apply IsS94.set_2) | exact HI0.out)⟩, ⟨by repeat (first | (with_reducible first | exact HK.out | apply KeepBut.set_ | apply keep_drewN | apply keep_drew | apply keep_alloc) | exact HK.out)⟩, ⟨by repeat (first | (with_reducible first | exact HB.out | apply below_alloc | apply pw_below_drewN | apply below_drew1 | refine below_set ?_ (IsS94.ge HI0.out)) | exact HB.out)⟩⟩
  case rest =>
    clear HC3
    try clear p2
    try clear c4
    try clear c5
    try clear c5b0
    try clear c5b1
    try clear c6
    try clear c6b0
    try clear hcz7_0
    try clear hcz7_1
    try clear hcz7_2
    try clear hcz8_0
    try clear hcz8_1
    try clear hcz8_2
    try clear hcz9_0
    try clear hcz9_1
    try clear hcz9_2
    try clear hfz7_1
    try clear hfz7_2
    try clear hfz8_1
    try clear hfz8_2
    try clear hfz9_1
    try clear hfz9_2
    obtain ⟨kq, x21_2, rfl, HA, HJ2, HI0, HK, HB⟩ := hcut
    cases kq with
    | zero => exact absurd HA.out (by simp [interleaveref11_reader_list.j0])
    | succ kj2 =>
      have H := HA.out
      clear HA
      simp only [interleaveref11_reader_list.j0] at H
      have HC10 := Aside0.mk H
      clear H
      go_upto_if 21 with (fail)
      go_cut [] (fun wc => ∃ (kq : Nat) (x1002_9 : Int), Aside0 (interleaveref11_reader_list.j1 kq t235 s0_0 t236 x1002_9 = some (r1, r2, r3)) ∧ Aside0 (kq ≤ kj2) ∧ Aside0 (IsS94 w0 wc g s0_0 t236 x1002_9) ∧ Aside0 (KeepBut w wc g none) ∧ Aside0 (Below w0.heap.size w0 wc))
      case first =>
        have H := HC10.out
        clear HC10
        by_cases c11 : x21_2 = true
        · subst c11
          have H1 : (interleaveref11_reader_list.j1 kj2 t235 s0_0 t236 11) = some (r1, r2, r3) := by rw [if_pos rfl] at H; exact H
          clear H
          have H := H1
          clear H1
          have H' := Aside0.mk H
          clear H
          obtain ⟨ASz12_0, cSz12_0, HGz12, hgz12, ⟨HSz12_0, _⟩⟩ := HI0.out
          have hcz12_0 := cellS94_0 HGz12
          have hcz12_1 := cellS94_1 HGz12
          have hcz12_2 := cellS94_2 HGz12
          have hfz12_1 := blk_frozen HGz12 1
          have hfz12_2 := blk_frozen HGz12 2
          clear HGz12 hgz12
          go_wp2
          go_meet
          case rel => exact ⟨_, (11), H', ⟨by have := HJ2.out; first | omega | exact Nat.le_refl _⟩, ⟨by repeat (first | (with_reducible first | exact HI0.out | apply IsS94.alloc | apply IsS94.drewN | apply IsS94.drew | apply IsS94.set_1 | apply IsS94.set_2) | exact HI0.out)⟩, ⟨by repeat (first | (with_reducible first | exact HK.out | apply KeepBut.set_ | apply keep_drewN | apply keep_drew | apply keep_alloc) | exact HK.out)⟩, ⟨by repeat (first | (with_reducible first | exact HB.out | apply below_alloc | apply pw_below_drewN | apply below_drew1 | refine below_set ?_ (IsS94.ge HI0.out)) | exact HB.out)⟩⟩
        · replace c11 := Bool.eq_false_iff.mpr c11
          subst c11
          have H1 : (interleaveref11_reader_list.j1 kj2 t235 s0_0 t236 t237) = some (r1, r2, r3) := by rw [if_neg (show ¬ (false = true) by decide)] at H; exact H
          clear H
          have H := H1
          clear H1
          have H' := Aside0.mk H
          clear H
          go_wp2
          go_meet
          case rel => exact ⟨_, (t237), H', ⟨by have := HJ2.out; first | omega | exact Nat.le_refl _⟩, ⟨by repeat (first | (with_reducible first | exact HI0.out | apply IsS94.alloc | apply IsS94.drewN | apply IsS94.drew | apply IsS94.set_1 | apply IsS94.set_2) | exact HI0.out)⟩, ⟨by repeat (first | (with_reducible first | exact HK.out | apply KeepBut.set_ | apply keep_drewN | apply keep_drew | apply keep_alloc) | exact HK.out)⟩, ⟨by repeat (first | (with_reducible first | exact HB.out | apply below_alloc | apply pw_below_drewN | apply below_drew1 | refine below_set ?_ (IsS94.ge HI0.out)) | exact HB.out)⟩⟩
      case rest =>
        clear HC10
        try clear c1
        try clear p2
        try clear c4
        try clear c5
        try clear c5b0
        try clear c5b1
        try clear c6
        try clear c6b0
        try clear c11
        try clear hcz12_0
        try clear hcz12_1
        try clear hcz12_2
        try clear hcz7_0
        try clear hcz7_1
        try clear hcz7_2
        try clear hcz8_0
        try clear hcz8_1
        try clear hcz8_2
        try clear hcz9_0
        try clear hcz9_1
        try clear hcz9_2
        try clear hfz12_1
        try clear hfz12_2
        try clear hfz7_1
        try clear hfz7_2
        try clear hfz8_1
        try clear hfz8_2
        try clear hfz9_1
        try clear hfz9_2
        try clear p2
        obtain ⟨kq, x1002_9, HA, HJ9, HI0, HK, HB⟩ := hcut
        cases kq with
        | zero => exact absurd HA.out (by simp [interleaveref11_reader_list.j1])
        | succ kj9 =>
          have H := HA.out
          clear HA
          simp only [interleaveref11_reader_list.j1] at H
          have H' := Aside0.mk H
          clear H
          go_wp2
          go_loopg [4, 5, 6] kj9 (fun kq v4 v5 v6 w' => ∃ (x4_3 : List Int) (x5_3 : Int) (x6_3 : Int) (x1001_3 : Int) (x1002_3 : Int), v5 = .int .i64 x5_3 ∧ v6 = .int .i64 x6_3 ∧ Aside0 (interleaveref11_reader_list.l0 kq t235 x4_3 x5_3 x6_3 s0_0 x1001_3 x1002_3 = some (r1, r2, r3)) ∧ Aside0 (kq ≤ kj9) ∧ Aside0 (Kd.R (Kd.int .i64) 3 w' w.heap.size (fun _ => True) v4 x4_3) ∧ Aside0 (IsS94 w0 w' g s0_0 x1001_3 x1002_3) ∧ Aside0 (KeepBut w w' g none) ∧ Aside0 (Below w0.heap.size w0 w'))
          case atStart => exact ⟨(([] : List Int)), (0), (0), (t236), (x1002_9), (by first | rfl | (simp; done) | (simp [*]; done)), (by first | rfl | (simp; done) | (simp [*]; done)), H', ⟨Nat.le_refl _⟩, ⟨by first | exact Kd.R_nil _ _ _ _ _ | exact Kd.N_nil _ _ _ _ _ | exact Kd.V_nil _ _ _ _ _ | exact Kd.Q_nil _ _ _ _ _ | exact Kd.S_nil _ _ _ _ _⟩, ⟨by repeat (first | (with_reducible first | exact HI0.out | apply IsS94.alloc | apply IsS94.drewN | apply IsS94.drew | apply IsS94.set_1 | apply IsS94.set_2) | exact HI0.out)⟩, ⟨by repeat (first | (with_reducible first | exact HK.out | apply KeepBut.set_ | apply keep_drewN | apply keep_drew | apply keep_alloc) | exact HK.out)⟩, ⟨by repeat (first | (with_reducible first | exact HB.out | apply below_alloc | apply pw_below_drewN | apply below_drew1 | refine below_set ?_ (IsS94.ge HI0.out)) | exact HB.out)⟩⟩
          case round =>
            clear H'
            try clear c1
            try clear p2
            try clear c4
            try clear c5
            try clear c5b0
            try clear c5b1
            try clear c6
            try clear c6b0
            try clear c11
            try clear hcz12_0
            try clear hcz12_1
            try clear hcz12_2
            try clear hcz7_0
            try clear hcz7_1
            try clear hcz7_2
            try clear hcz8_0
            try clear hcz8_1
            try clear hcz8_2
            try clear hcz9_0
            try clear hcz9_1
            try clear hcz9_2
            try clear hfz12_1
            try clear hfz12_2
            try clear hfz7_1
            try clear hfz7_2
            try clear hfz8_1
            try clear hfz8_2
            try clear hfz9_1
            try clear hfz9_2
            try clear p2
            obtain ⟨x4_3, x5_3, x6_3, x1001_3, x1002_3, rfl, rfl, HA, HK3, HO_4, HI0, HK, HB⟩ := hrel
            cases gk with
            | zero => exact absurd HA.out (by simp [interleaveref11_reader_list.l0])
            | succ k3 =>
              have H := HA.out
              clear HA
              simp only [interleaveref11_reader_list.l0] at H
              by_cases c13 : x6_3 < t235
              · rw [if_pos c13] at H
                have c13b0 : decide (x6_3 < t235) = true := decide_eq_true c13
                clear c13
                by_cases c14 : x1002_3 = 0
                · rw [if_pos c14] at H
                  have c14b0 : (x1002_3 == 0) = true := beq_iff_eq.mpr c14
                  have c14b1 : (x1002_3 != 0) = false := bne_eq_false_iff_eq.mpr c14
                  clear c14
                  replace H := Option.bind_eq_some_iff.mp H
                  obtain ⟨⟨t238, t239, t240⟩, A150, H⟩ := H
                  replace H : (if x4_3.length < 17592186044416 then (interleaveref11_reader_list.l0 k3 t235 (x4_3 ++ [wrap64 (x5_3 + t238)]) (wrap64 (x5_3 + t238)) (wrap64 (x6_3 + 1)) s0_0 t239 t240) else (none)) = some (r1, r2, r3) := H
                  have A15 := Aside0.mk A150
                  clear A150
                  by_cases c16 : x4_3.length < 17592186044416
                  · rw [if_pos c16] at H
                    have LMc16 := Aside0.mk c16
                    clear c16
                    obtain ⟨y241, hy241⟩ : ∃ y_ : List Int, y_ = (x4_3 ++ [wrap64 (x5_3 + t238)]) := ⟨_, rfl⟩
                    replace H : (interleaveref11_reader_list.l0 k3 t235 y241 (wrap64 (x5_3 + t238)) (wrap64 (x6_3 + 1)) s0_0 t239 t240) = some (r1, r2, r3) := by first | (rw [hy241]; with_reducible exact H) | (have H2_ := (Option.bind_some _ _).symm.trans H; rw [hy241]; with_reducible exact H2_) | (have H2_ := (Option.bind_some _ _).symm.trans H; with_reducible exact H2_) | with_reducible exact H | (rw [hy241]; exact H) | exact H
                    have Ny241 := Aside0.mk hy241
                    clear hy241
                    have H' := Aside0.mk H
                    clear H
                    obtain ⟨ASz17_0, cSz17_0, HGz17, hgz17, ⟨HSz17_0, _⟩⟩ := HI0.out
                    have hcz17_0 := cellS94_0 HGz17
                    have hcz17_1 := cellS94_1 HGz17
                    have hcz17_2 := cellS94_2 HGz17
                    have hfz17_1 := blk_frozen HGz17 1
                    have hfz17_2 := blk_frozen HGz17 2
                    clear HGz17 hgz17
                    go_wp2_with (first | ((with_reducible refine gate_callee (f := 47) rfl ?_); refine goesL_ (some 39) rfl rfl Try.func47 (by kernel_rfl) rfl #[.pointer (some ⟨g, 0, none⟩)] rfl (by (try simp only [List.map_toArray, List.map_cons, List.map_nil]); first | done | rfl | (simp only [List.length_drop, List.length_take]; rfl)) ?_; (with_reducible refine (interleaveref11_reader_num.calls k3 g s0_0 x1001_3 x1002_3 t238 t239 t240 w0 _ ?side1 ?side2 A15.out).mono ?_); (case side1 => repeat (first | (with_reducible first | exact HI0.out | apply IsS94.alloc | apply IsS94.drewN | apply IsS94.drew | apply IsS94.set_1 | apply IsS94.set_2) | exact HI0.out)); (case side2 => repeat (first | (with_reducible first | exact HB.out | apply below_alloc | apply pw_below_drewN | apply below_drew1 | refine below_set ?_ (IsS94.ge HI0.out)) | exact HB.out)); rintro e w18 ⟨rfl, hi, hb, hk⟩; refine ⟨_, rfl, ?_⟩; have n0_ := Aside0.mk (Kd.R_mono (Kd.R_keep (IsS94.apart (show IsS94 w0 _ g s0_0 x1001_3 x1002_3 from by repeat (first | (with_reducible first | exact HI0.out | apply IsS94.alloc | apply IsS94.drewN | apply IsS94.drew | apply IsS94.set_1 | apply IsS94.set_2) | exact HI0.out)) (by (with_reducible repeat (first | apply Kd.R_alloc | apply Kd.R_drewN | apply Kd.R_drew)); exact HO_4.out) (by decide)) hk (fun _ h => h.2)) (fun _ h => h.1)); have n1_ := Aside0.mk (KeepBut.trans (by repeat (first | (with_reducible first | exact HK.out | apply KeepBut.set_ | apply keep_drewN | apply keep_drew | apply keep_alloc) | exact HK.out)) hk (.inl rfl)); have n2_ := Aside0.mk (hb); have n3_ := Aside0.mk (hi); clear HO_4; clear HK; clear HB; clear HI0; have HO_4 := n0_; have HK := n1_; have HB := n2_; have HI0 := n3_; clear n0_ n1_ n2_ n3_; (try clear hb); (try clear hb2); (try clear hk); (try clear hi)) | ((with_reducible refine gate_builtin (b := .append) (xs := #[.tmp 41, .tmp 43]) rfl ?_); at_builtin; refine Kd.R_append (Kd.int .i64) w.heap.size rfl (.tmp 41) (.tmp 43) 22 3 (.int .i64 0) 8 rfl Try.underlying22 info3 rfl (by decide) (by omega) u4 x4_3 (wrap64 (x5_3 + t238)) [.int .i64 (wrap64 (x5_3 + t238))] (fun _ => True) (fun _ => False) rfl rfl ?aP (fun _ hk => hk.elim) ?aF ?aO (Below.refl _ _) ?aS ?aL ?_; (case aP => exact rfl); (case aF => exact (fun _ _ => trivial)); (case aO => exact (by (with_reducible repeat (first | apply Kd.R_alloc | apply Kd.R_drewN | apply Kd.R_drew)); exact HO_4.out)); (case aS => exact (keep_size (w := w) (g := g) (row := none) (by repeat (first | (with_reducible first | exact HK.out | apply KeepBut.set_ | apply keep_drewN | apply keep_drew | apply keep_alloc) | exact HK.out)))); (case aL => have := LMc16.out; omega); intro v242 w19 ho hb hg hat; rw [← Ny241.out] at ho; have n0_ := Aside0.mk (IsS94.grown (by repeat (first | (with_reducible first | exact HI0.out | apply IsS94.alloc | apply IsS94.drewN | apply IsS94.drew | apply IsS94.set_1 | apply IsS94.set_2) | exact HI0.out)) hg (IsS94.own_ne HI0.out HO_4.out (by decide))); have n1_ := Aside0.mk (below_weaken (by repeat (first | (with_reducible first | exact HB.out | apply below_alloc | apply pw_below_drewN | apply below_drew1 | refine below_set ?_ (IsS94.ge HI0.out)) | exact HB.out)) HL.out hb); have n2_ := Aside0.mk (KeepBut.trans (by repeat (first | (with_reducible first | exact HK.out | apply KeepBut.set_ | apply keep_drewN | apply keep_drew | apply keep_alloc) | exact HK.out)) (KeepBut.of_grown hg g) (Kd.R_base2 HO_4.out)); have n3_ := Aside0.mk (ho); clear HI0; clear HB; clear HK; clear HO_4; have HI0 := n0_; have HB := n1_; have HK := n2_; have HO243 := n3_; clear n0_ n1_ n2_ n3_; clear ho hb hg hat))
                    go_roundg k3
                    case measure => have := HJ2.out; have := HJ9.out; have := HK3.out; omega
                    case rel => exact ⟨(y241), (wrap64 (x5_3 + t238)), (wrap64 (x6_3 + 1)), (t239), (t240), (by first | rfl | (simp; done) | (simp [*]; done)), (by first | rfl | (simp; done) | (simp [*]; done)), H', ⟨by have := HJ2.out; have := HJ9.out; have := HK3.out; omega⟩, ⟨by (with_reducible repeat (first | apply Kd.R_alloc | apply Kd.R_drewN | apply Kd.R_drew)); exact HO243.out⟩, ⟨by repeat (first | (with_reducible first | exact HI0.out | apply IsS94.alloc | apply IsS94.drewN | apply IsS94.drew | apply IsS94.set_1 | apply IsS94.set_2) | exact HI0.out)⟩, ⟨by repeat (first | (with_reducible first | exact HK.out | apply KeepBut.set_ | apply keep_drewN | apply keep_drew | apply keep_alloc) | exact HK.out)⟩, ⟨by repeat (first | (with_reducible first | exact HB.out | apply below_alloc | apply pw_below_drewN | apply below_drew1 | refine below_set ?_ (IsS94.ge HI0.out)) | exact HB.out)⟩⟩
                  · rw [if_neg c16] at H
                    exact absurd H (by simp)
                · rw [if_neg c14] at H
                  have c14b0 : (x1002_3 == 0) = false := beq_eq_false_iff_ne.mpr c14
                  have c14b1 : (x1002_3 != 0) = true := bne_iff_ne.mpr c14
                  simp only [Option.some.injEq, Prod.mk.injEq] at H
                  obtain ⟨rfl, rfl, rfl⟩ := H
                  obtain ⟨ASz20_0, cSz20_0, HGz20, hgz20, ⟨HSz20_0, _⟩⟩ := HI0.out
                  have hcz20_0 := cellS94_0 HGz20
                  have hcz20_1 := cellS94_1 HGz20
                  have hcz20_2 := cellS94_2 HGz20
                  have hfz20_1 := blk_frozen HGz20 1
                  have hfz20_2 := blk_frozen HGz20 2
                  clear HGz20 hgz20
                  go_wp2
                  go_ret
                  exact ⟨_, by first | rfl | (simp [errW_none, errW_some] <;> rfl) | (simp [*, errW_none, errW_some] <;> rfl), by (with_reducible repeat (first | apply Kd.R_alloc | apply Kd.R_drewN | apply Kd.R_drew)); exact HO_4.out, by repeat (first | (with_reducible first | exact HI0.out | apply IsS94.alloc | apply IsS94.drewN | apply IsS94.drew | apply IsS94.set_1 | apply IsS94.set_2) | exact HI0.out), by repeat (first | (with_reducible first | exact HB.out | apply below_alloc | apply pw_below_drewN | apply below_drew1 | refine below_set ?_ (IsS94.ge HI0.out)) | exact HB.out), by repeat (first | (with_reducible first | exact HK.out | apply KeepBut.set_ | apply keep_drewN | apply keep_drew | apply keep_alloc) | exact HK.out)⟩
              · rw [if_neg c13] at H
                have c13b0 : decide (x6_3 < t235) = false := decide_eq_false c13
                clear c13
                simp only [Option.some.injEq, Prod.mk.injEq] at H
                obtain ⟨rfl, rfl, rfl⟩ := H
                go_wp2
                go_ret
                exact ⟨_, by first | rfl | (simp [errW_none, errW_some] <;> rfl) | (simp [*, errW_none, errW_some] <;> rfl), by (with_reducible repeat (first | apply Kd.R_alloc | apply Kd.R_drewN | apply Kd.R_drew)); exact HO_4.out, by repeat (first | (with_reducible first | exact HI0.out | apply IsS94.alloc | apply IsS94.drewN | apply IsS94.drew | apply IsS94.set_1 | apply IsS94.set_2) | exact HI0.out), by repeat (first | (with_reducible first | exact HB.out | apply below_alloc | apply pw_below_drewN | apply below_drew1 | refine below_set ?_ (IsS94.ge HI0.out)) | exact HB.out), by repeat (first | (with_reducible first | exact HK.out | apply KeepBut.set_ | apply keep_drewN | apply keep_drew | apply keep_alloc) | exact HK.out)⟩

end Go.Proofs.Ytnmmkgagbfniiaa.A
