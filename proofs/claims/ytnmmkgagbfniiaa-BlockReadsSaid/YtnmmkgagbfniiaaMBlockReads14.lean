/- MBlockReads14: texts of this session and of the kit's printer on the road to the statement BlockReads, laid into one and rid of what it doesn't need. No condition beyond what each fact names. -/
import Derived.Test.YtnmmkgagbfniiaaMBlockReads3
import Derived.Test.YtnmmkgagbfniiaaMBlockReads2
import Derived.Test.YtnmmkgagbfniiaaMBlockReads10
section
namespace Go.Proofs.Ytnmmkgagbfniiaa.A
open Go.RowKit Go.Proofs.YtnmmkgagbfniiaaW.PrintWords Go.Proofs.YtnmmkgagbfniiaaW.PrintLast Go.Proofs.YtnmmkgagbfniiaaW.PrintMore
attribute [local go_sem] max2_int min2_int max_two min_two max_three min_three max_four min_four
set_option linter.unusedVariables false
set_option linter.unusedSimpArgs false
mutual
def j11_reader_list.j0 : Nat → Int → Bool → List Int → Int → Int → Option (List Int × Int × Int)
 | 0, _, _, _, _, _ => none
 | k + 1, x3, x21, x1000, x1001, x1002 => if x21 = true then (j11_reader_list.j1 k x3 x1000 x1001 11) else (j11_reader_list.j1 k x3 x1000 x1001 x1002)
def j11_reader_list.j1 : Nat → Int → List Int → Int → Int → Option (List Int × Int × Int)
 | 0, _, _, _, _ => none
 | k + 1, x3, x1000, x1001, x1002 => j11_reader_list.l0 k x3 ([] : List Int) 0 0 x1000 x1001 x1002
def j11_reader_list.l0 : Nat → Int → List Int → Int → Int → List Int → Int → Int → Option (List Int × Int × Int)
 | 0, _, _, _, _, _, _, _ => none
 | k + 1, x3, x4, x5, x6, x1000, x1001, x1002 => if x6 < x3 then (if x1002 = 0 then ((j11_reader_num.f k x1000 x1001 x1002).bind fun bt238 => (if x4.length < 17592186044416 then (j11_reader_list.l0 k x3 (x4 ++ [wrap64 (x5 + bt238.1)]) (wrap64 (x5 + bt238.1)) (wrap64 (x6 + 1)) x1000 bt238.2.1 bt238.2.2) else (none))) else (some (x4, x1001, x1002))) else (some (x4, x1001, x1002))
end
def j11_reader_list.f (k : Nat) (s0_0 : List Int) (s0_1 : Int) (s0_2 : Int) : Option (List Int × Int × Int) := (j11_reader_num.f k s0_0 s0_1 s0_2).bind fun bt235 => (if bt235.2.2 = 0 then (if bt235.1 < 0 then (j11_reader_list.j0 k bt235.1 true s0_0 bt235.2.1 bt235.2.2) else (j11_reader_list.j0 k bt235.1 (decide (bt235.1 > 400)) s0_0 bt235.2.1 bt235.2.2)) else (j11_reader_list.j0 k bt235.1 false s0_0 bt235.2.1 bt235.2.2))
theorem j11_reader_list.mono_l : ∀ k, (∀ y0 y1 y2 y3 y4, LeO (j11_reader_list.j0 k y0 y1 y2 y3 y4) (j11_reader_list.j0 (k + 1) y0 y1 y2 y3 y4)) ∧ (∀ y0 y1 y2 y3, LeO (j11_reader_list.j1 k y0 y1 y2 y3) (j11_reader_list.j1 (k + 1) y0 y1 y2 y3)) ∧ (∀ y0 y1 y2 y3 y4 y5 y6, LeO (j11_reader_list.l0 k y0 y1 y2 y3 y4 y5 y6) (j11_reader_list.l0 (k + 1) y0 y1 y2 y3 y4 y5 y6))
 | 0 => ⟨fun _ _ _ _ _ r h => by simp [j11_reader_list.j0] at h, fun _ _ _ _ r h => by simp [j11_reader_list.j1] at h, fun _ _ _ _ _ _ _ r h => by simp [j11_reader_list.l0] at h⟩
 | k + 1 => by
  obtain ⟨ih0, ih1, ih2⟩ := j11_reader_list.mono_l k
  refine ⟨?_, ?_, ?_⟩
  ·
   intro y0 y1 y2 y3 y4
   unfold j11_reader_list.j0
   repeat' first
   | (with_reducible exact ih0 _ _ _ _ _)
   | (with_reducible exact ih1 _ _ _ _)
   | (with_reducible exact ih2 _ _ _ _ _ _ _)
   | (with_reducible exact j11_reader_num.mono _ _ _ _)
   | (with_reducible exact LeO.refl _)
   | (with_reducible exact LeO.none _)
   | (with_reducible refine LeO.ite ?_ ?_)
   | (with_reducible refine LeO.bind ?_ (fun _ => ?_))
   | exact ih0 _ _ _ _ _
   | exact ih1 _ _ _ _
   | exact ih2 _ _ _ _ _ _ _
   | exact j11_reader_num.mono _ _ _ _
   | exact LeO.none _
   | refine LeO.ite ?_ ?_
   | refine LeO.bind ?_ (fun _ => ?_)
  ·
   intro y0 y1 y2 y3
   unfold j11_reader_list.j1
   repeat' first
   | (with_reducible exact ih0 _ _ _ _ _)
   | (with_reducible exact ih1 _ _ _ _)
   | (with_reducible exact ih2 _ _ _ _ _ _ _)
   | (with_reducible exact j11_reader_num.mono _ _ _ _)
   | (with_reducible exact LeO.refl _)
   | (with_reducible exact LeO.none _)
   | (with_reducible refine LeO.ite ?_ ?_)
   | (with_reducible refine LeO.bind ?_ (fun _ => ?_))
   | exact ih0 _ _ _ _ _
   | exact ih1 _ _ _ _
   | exact ih2 _ _ _ _ _ _ _
   | exact j11_reader_num.mono _ _ _ _
   | exact LeO.none _
   | refine LeO.ite ?_ ?_
   | refine LeO.bind ?_ (fun _ => ?_)
  ·
   intro y0 y1 y2 y3 y4 y5 y6
   unfold j11_reader_list.l0
   repeat' first
   | (with_reducible exact ih0 _ _ _ _ _)
   | (with_reducible exact ih1 _ _ _ _)
   | (with_reducible exact ih2 _ _ _ _ _ _ _)
   | (with_reducible exact j11_reader_num.mono _ _ _ _)
   | (with_reducible exact LeO.refl _)
   | (with_reducible exact LeO.none _)
   | (with_reducible refine LeO.ite ?_ ?_)
   | (with_reducible refine LeO.bind ?_ (fun _ => ?_))
   | exact ih0 _ _ _ _ _
   | exact ih1 _ _ _ _
   | exact ih2 _ _ _ _ _ _ _
   | exact j11_reader_num.mono _ _ _ _
   | exact LeO.none _
   | refine LeO.ite ?_ ?_
   | refine LeO.bind ?_ (fun _ => ?_)
theorem j11_reader_list.mono : ∀ a0 a1 a2 k, LeO (j11_reader_list.f k a0 a1 a2) (j11_reader_list.f (k + 1) a0 a1 a2) := by
 intro a0 a1 a2 k
 obtain ⟨ih0, ih1, ih2⟩ := j11_reader_list.mono_l k
 unfold j11_reader_list.f
 repeat' first
   | (with_reducible exact ih0 _ _ _ _ _)
   | (with_reducible exact ih1 _ _ _ _)
   | (with_reducible exact ih2 _ _ _ _ _ _ _)
   | (with_reducible exact j11_reader_num.mono _ _ _ _)
   | (with_reducible exact LeO.refl _)
   | (with_reducible exact LeO.none _)
   | (with_reducible refine LeO.ite ?_ ?_)
   | (with_reducible refine LeO.bind ?_ (fun _ => ?_))
   | exact ih0 _ _ _ _ _
   | exact ih1 _ _ _ _
   | exact ih2 _ _ _ _ _ _ _
   | exact j11_reader_num.mono _ _ _ _
   | exact LeO.none _
   | refine LeO.ite ?_ ?_
   | refine LeO.bind ?_ (fun _ => ?_)
set_option maxHeartbeats 8000000 in
set_option maxRecDepth 100000 in
theorem j11_reader_list.calls (k : Nat) (g : Nat) (s0_0 : List Int) (s0_1 : Int) (s0_2 : Int) (r1 : List Int) (r2 : Int) (r3 : Int) (w0 w : World) (hI : IsS94 w0 w g s0_0 s0_1 s0_2) (hB : Below w0.heap.size w0 w) (h : j11_reader_list.f k s0_0 s0_1 s0_2 = some (r1, r2, r3)) :
  Calls Try.prog 48 #[.pointer (some ⟨g, 0, none⟩)] w fun e w' => ∃ v0_ : Value, e = .returned (v0_) ∧ Kd.R (Kd.int .i64) 3 w' w.heap.size (fun _ => True) v0_ r1 ∧ IsS94 w0 w' g s0_0 r2 r3 ∧ Below w0.heap.size w0 w' ∧ KeepBut w w' g none := by
 have HI0 := am hI
 have HK := am (KeepBut.refl w g none)
 have HL := am hB.size
 clear hI
 have HW0 := am hB.size
 have HB := am hB
 clear hB
 have H : ((j11_reader_num.f k s0_0 s0_1 s0_2).bind fun bt235 => (if bt235.2.2 = 0 then (if bt235.1 < 0 then (j11_reader_list.j0 k bt235.1 true s0_0 bt235.2.1 bt235.2.2) else (j11_reader_list.j0 k bt235.1 (decide (bt235.1 > 400)) s0_0 bt235.2.1 bt235.2.2)) else (j11_reader_list.j0 k bt235.1 false s0_0 bt235.2.1 bt235.2.2))) = some (r1, r2, r3) := h
 clear h
 replace H := Option.bind_eq_some_iff.mp H
 obtain ⟨⟨t235, t236, t237⟩, A20, H⟩ := H
 (try dsimp only at H)
 have A2 := am A20
 clear A20
 have HC3 := am H
 clear H
 go_enter Try.func48, Try.ntmps48
 go_upto_region 2 with (first | ((with_reducible refine gate_callee (f := 47) rfl ?_); refine goesL_ (some 8) rfl rfl Try.func47 (by kernel_rfl) rfl #[.pointer (some ⟨g, 0, none⟩)] rfl zg ?_; (with_reducible refine (j11_reader_num.calls k g s0_0 s0_1 s0_2 t235 t236 t237 w0 _ ?side1 ?side2 A2.out).mono ?_); (case side1 => repeat (first | (with_reducible first | exact HI0.out | apply IsS94.alloc | apply IsS94.drewN | apply IsS94.drew | apply IsS94.set_1 | apply IsS94.set_2) | exact HI0.out)); (case side2 => repeat (first | (with_reducible first | exact HB.out | apply below_alloc | apply pw_below_drewN | apply below_drew1 | refine below_set ?_ (IsS94.ge HI0.out)) | exact HB.out)); rintro e w4 ⟨rfl, hi, hb, hk⟩; refine ⟨_, rfl, ?_⟩; replace HK := am (KeepBut.trans (by repeat (first | (with_reducible first | exact HK.out | apply KeepBut.set_ | apply keep_drewN | apply keep_drew | apply keep_alloc) | exact HK.out)) hk (.inl rfl)); replace HB := am (hb); replace HI0 := am (hi); (try clear hb); (try clear hb2); (try clear hk); (try clear hi)))
 (try simp only [Act.put, List.setIfInBounds_toArray, List.set_cons_zero, List.set_cons_succ])
 go_cut [21] (fun v21 wc => ∃ (kq : Nat) (x21_2 : Bool), v21 = .bool x21_2 ∧ Aside0 (j11_reader_list.j0 kq t235 x21_2 s0_0 t236 t237 = some (r1, r2, r3)) ∧ Aside0 (kq ≤ k) ∧ Aside0 (IsS94 w0 wc g s0_0 t236 t237) ∧ Aside0 (KeepBut w wc g none) ∧ Aside0 (Below w0.heap.size w0 wc))
 case first =>
  have H := HC3.out
  clear HC3
  by_cases c5 : t237 = 0
  ·
   rw [if_pos c5] at H
   have c5b0 : (t237 == 0) = true := beq_iff_eq.mpr c5
   have c5b1 : (t237 != 0) = false := bne_eq_false_iff_eq.mpr c5
   clear c5
   (first | rw [c5b0] | (simp only [i64_w, i32_w]; rw [c5b0]) | skip)
   by_cases c6 : t235 < 0
   ·
    rw [if_pos c6] at H
    have c6b0 : decide (t235 < 0) = true := decide_eq_true c6
    clear c6
    have H' := am H
    clear H
    obtain ⟨ASz7_0, cSz7_0, HGz7, hgz7, ⟨HSz7_0, _⟩⟩ := HI0.out
    have hcz7_0 := cellS94_0 HGz7
    have hcz7_1 := cellS94_1 HGz7
    have hcz7_2 := cellS94_2 HGz7
    have hfz7_1 := blk_frozen HGz7 1
    have hfz7_2 := blk_frozen HGz7 2
    clear HGz7 hgz7
    go_wp2
    go_meet
    case rel => exact ⟨_, (true), zr, H', ⟨by first | omega | exact Nat.le_refl _⟩, ⟨by repeat (first | (with_reducible first | exact HI0.out | apply IsS94.alloc | apply IsS94.drewN | apply IsS94.drew | apply IsS94.set_1 | apply IsS94.set_2) | exact HI0.out)⟩, ⟨by repeat (first | (with_reducible first | exact HK.out | apply KeepBut.set_ | apply keep_drewN | apply keep_drew | apply keep_alloc) | exact HK.out)⟩, ⟨by repeat (first | (with_reducible first | exact HB.out | apply below_alloc | apply pw_below_drewN | apply below_drew1 | refine below_set ?_ (IsS94.ge HI0.out)) | exact HB.out)⟩⟩
   ·
    rw [if_neg c6] at H
    have c6b0 : decide (t235 < 0) = false := decide_eq_false c6
    clear c6
    have H' := am H
    clear H
    obtain ⟨ASz8_0, cSz8_0, HGz8, hgz8, ⟨HSz8_0, _⟩⟩ := HI0.out
    have hcz8_0 := cellS94_0 HGz8
    have hcz8_1 := cellS94_1 HGz8
    have hcz8_2 := cellS94_2 HGz8
    have hfz8_1 := blk_frozen HGz8 1
    have hfz8_2 := blk_frozen HGz8 2
    clear HGz8 hgz8
    go_wp2
    go_meet
    case rel => exact ⟨_, (decide (t235 > 400)), zr, H', ⟨by first | omega | exact Nat.le_refl _⟩, ⟨by repeat (first | (with_reducible first | exact HI0.out | apply IsS94.alloc | apply IsS94.drewN | apply IsS94.drew | apply IsS94.set_1 | apply IsS94.set_2) | exact HI0.out)⟩, ⟨by repeat (first | (with_reducible first | exact HK.out | apply KeepBut.set_ | apply keep_drewN | apply keep_drew | apply keep_alloc) | exact HK.out)⟩, ⟨by repeat (first | (with_reducible first | exact HB.out | apply below_alloc | apply pw_below_drewN | apply below_drew1 | refine below_set ?_ (IsS94.ge HI0.out)) | exact HB.out)⟩⟩
  ·
   rw [if_neg c5] at H
   have c5b0 : (t237 == 0) = false := beq_eq_false_iff_ne.mpr c5
   have c5b1 : (t237 != 0) = true := bne_iff_ne.mpr c5
   (first | rw [c5b0] | (simp only [i64_w, i32_w]; rw [c5b0]) | skip)
   have H' := am H
   clear H
   obtain ⟨ASz9_0, cSz9_0, HGz9, hgz9, ⟨HSz9_0, _⟩⟩ := HI0.out
   have hcz9_0 := cellS94_0 HGz9
   have hcz9_1 := cellS94_1 HGz9
   have hcz9_2 := cellS94_2 HGz9
   have hfz9_1 := blk_frozen HGz9 1
   have hfz9_2 := blk_frozen HGz9 2
   clear HGz9 hgz9
   go_wp2
   go_meet
   case rel => exact ⟨_, (false), zr, H', ⟨by first | omega | exact Nat.le_refl _⟩, ⟨by repeat (first | (with_reducible first | exact HI0.out | apply IsS94.alloc | apply IsS94.drewN | apply IsS94.drew | apply IsS94.set_1 | apply IsS94.set_2) | exact HI0.out)⟩, ⟨by repeat (first | (with_reducible first | exact HK.out | apply KeepBut.set_ | apply keep_drewN | apply keep_drew | apply keep_alloc) | exact HK.out)⟩, ⟨by repeat (first | (with_reducible first | exact HB.out | apply below_alloc | apply pw_below_drewN | apply below_drew1 | refine below_set ?_ (IsS94.ge HI0.out)) | exact HB.out)⟩⟩
 case rest =>
  clear HC3
  obtain ⟨kq, x21_2, rfl, HA, HJ2, HI0, HK, HB⟩ := hcut
  cases kq with
  | zero => exact absurd HA.out (by simp [j11_reader_list.j0])
  | succ kj2 =>
   have H := HA.out
   clear HA
   simp only [j11_reader_list.j0] at H
   have HC10 := am H
   clear H
   go_upto_if 21 with (fail)
   go_cut [] (fun wc => ∃ (kq : Nat) (x1002_9 : Int), Aside0 (j11_reader_list.j1 kq t235 s0_0 t236 x1002_9 = some (r1, r2, r3)) ∧ Aside0 (kq ≤ kj2) ∧ Aside0 (IsS94 w0 wc g s0_0 t236 x1002_9) ∧ Aside0 (KeepBut w wc g none) ∧ Aside0 (Below w0.heap.size w0 wc))
   case first =>
    have H := HC10.out
    clear HC10
    by_cases c11 : x21_2 = true
    ·
     subst c11
     have H1 : (j11_reader_list.j1 kj2 t235 s0_0 t236 11) = some (r1, r2, r3) := by rw [if_pos rfl] at H; exact H
     clear H
     have H := H1
     clear H1
     have H' := am H
     clear H
     obtain ⟨ASz12_0, cSz12_0, HGz12, hgz12, ⟨HSz12_0, _⟩⟩ := HI0.out
     have hcz12_0 := cellS94_0 HGz12
     have hcz12_1 := cellS94_1 HGz12
     have hcz12_2 := cellS94_2 HGz12
     have hfz12_1 := blk_frozen HGz12 1
     have hfz12_2 := blk_frozen HGz12 2
     clear HGz12 hgz12
     go_wp2
     go_meet
     case rel => exact ⟨_, (11), H', ⟨by have := HJ2.out; first | omega | exact Nat.le_refl _⟩, ⟨by repeat (first | (with_reducible first | exact HI0.out | apply IsS94.alloc | apply IsS94.drewN | apply IsS94.drew | apply IsS94.set_1 | apply IsS94.set_2) | exact HI0.out)⟩, ⟨by repeat (first | (with_reducible first | exact HK.out | apply KeepBut.set_ | apply keep_drewN | apply keep_drew | apply keep_alloc) | exact HK.out)⟩, ⟨by repeat (first | (with_reducible first | exact HB.out | apply below_alloc | apply pw_below_drewN | apply below_drew1 | refine below_set ?_ (IsS94.ge HI0.out)) | exact HB.out)⟩⟩
    ·
     replace c11 := Bool.eq_false_iff.mpr c11
     subst c11
     have H1 : (j11_reader_list.j1 kj2 t235 s0_0 t236 t237) = some (r1, r2, r3) := by rw [if_neg (show ¬ (false = true) by decide)] at H; exact H
     clear H
     have H := H1
     clear H1
     have H' := am H
     clear H
     go_wp2
     go_meet
     case rel => exact ⟨_, (t237), H', ⟨by have := HJ2.out; first | omega | exact Nat.le_refl _⟩, ⟨by repeat (first | (with_reducible first | exact HI0.out | apply IsS94.alloc | apply IsS94.drewN | apply IsS94.drew | apply IsS94.set_1 | apply IsS94.set_2) | exact HI0.out)⟩, ⟨by repeat (first | (with_reducible first | exact HK.out | apply KeepBut.set_ | apply keep_drewN | apply keep_drew | apply keep_alloc) | exact HK.out)⟩, ⟨by repeat (first | (with_reducible first | exact HB.out | apply below_alloc | apply pw_below_drewN | apply below_drew1 | refine below_set ?_ (IsS94.ge HI0.out)) | exact HB.out)⟩⟩
   case rest =>
    clear HC10
    obtain ⟨kq, x1002_9, HA, HJ9, HI0, HK, HB⟩ := hcut
    cases kq with
    | zero => exact absurd HA.out (by simp [j11_reader_list.j1])
    | succ kj9 =>
     have H := HA.out
     clear HA
     simp only [j11_reader_list.j1] at H
     have H' := am H
     clear H
     go_wp2
     go_loopg [4, 5, 6] kj9 (fun kq v4 v5 v6 w' => ∃ (x4_3 : List Int) (x5_3 : Int) (x6_3 : Int) (x1001_3 : Int) (x1002_3 : Int), v5 = .int .i64 x5_3 ∧ v6 = .int .i64 x6_3 ∧ Aside0 (j11_reader_list.l0 kq t235 x4_3 x5_3 x6_3 s0_0 x1001_3 x1002_3 = some (r1, r2, r3)) ∧ Aside0 (kq ≤ kj9) ∧ Aside0 (Kd.R (Kd.int .i64) 3 w' w.heap.size (fun _ => True) v4 x4_3) ∧ Aside0 (IsS94 w0 w' g s0_0 x1001_3 x1002_3) ∧ Aside0 (KeepBut w w' g none) ∧ Aside0 (Below w0.heap.size w0 w'))
     case atStart => exact ⟨(([] : List Int)), (0), (0), (t236), (x1002_9), zr, zr, H', ⟨Nat.le_refl _⟩, ⟨by first | exact Kd.R_nil _ _ _ _ _ | exact Kd.N_nil _ _ _ _ _ | exact Kd.V_nil _ _ _ _ _ | exact Kd.Q_nil _ _ _ _ _ | exact Kd.S_nil _ _ _ _ _⟩, ⟨by repeat (first | (with_reducible first | exact HI0.out | apply IsS94.alloc | apply IsS94.drewN | apply IsS94.drew | apply IsS94.set_1 | apply IsS94.set_2) | exact HI0.out)⟩, ⟨by repeat (first | (with_reducible first | exact HK.out | apply KeepBut.set_ | apply keep_drewN | apply keep_drew | apply keep_alloc) | exact HK.out)⟩, ⟨by repeat (first | (with_reducible first | exact HB.out | apply below_alloc | apply pw_below_drewN | apply below_drew1 | refine below_set ?_ (IsS94.ge HI0.out)) | exact HB.out)⟩⟩
     case round =>
      clear H'
      obtain ⟨x4_3, x5_3, x6_3, x1001_3, x1002_3, rfl, rfl, HA, HK3, HO_4, HI0, HK, HB⟩ := hrel
      cases gk with
      | zero => exact absurd HA.out (by simp [j11_reader_list.l0])
      | succ k3 =>
       have H := HA.out
       clear HA
       simp only [j11_reader_list.l0] at H
       by_cases c13 : x6_3 < t235
       ·
        rw [if_pos c13] at H
        have c13b0 : decide (x6_3 < t235) = true := decide_eq_true c13
        clear c13
        by_cases c14 : x1002_3 = 0
        ·
         rw [if_pos c14] at H
         have c14b0 : (x1002_3 == 0) = true := beq_iff_eq.mpr c14
         have c14b1 : (x1002_3 != 0) = false := bne_eq_false_iff_eq.mpr c14
         clear c14
         replace H := Option.bind_eq_some_iff.mp H
         obtain ⟨⟨t238, t239, t240⟩, A150, H⟩ := H
         (try dsimp only at H)
         have A15 := am A150
         clear A150
         by_cases c16 : x4_3.length < 17592186044416
         ·
          rw [if_pos c16] at H
          have LMc16 := am c16
          clear c16
          obtain ⟨y241, hy241⟩ : ∃ y_ : List Int, y_ = (x4_3 ++ [wrap64 (x5_3 + t238)]) := ⟨_, rfl⟩
          replace H : (j11_reader_list.l0 k3 t235 y241 (wrap64 (x5_3 + t238)) (wrap64 (x6_3 + 1)) s0_0 t239 t240) = some (r1, r2, r3) := by first | (rw [hy241]; with_reducible exact H) | (have H2_ := (Option.bind_some _ _).symm.trans H; rw [hy241]; with_reducible exact H2_) | (have H2_ := (Option.bind_some _ _).symm.trans H; with_reducible exact H2_) | with_reducible exact H | (rw [hy241]; exact H) | exact H
          have Ny241 := am hy241
          clear hy241
          have H' := am H
          clear H
          obtain ⟨ASz17_0, cSz17_0, HGz17, hgz17, ⟨HSz17_0, _⟩⟩ := HI0.out
          have hcz17_0 := cellS94_0 HGz17
          have hcz17_1 := cellS94_1 HGz17
          have hcz17_2 := cellS94_2 HGz17
          have hfz17_1 := blk_frozen HGz17 1
          have hfz17_2 := blk_frozen HGz17 2
          clear HGz17 hgz17
          go_wp2_with (first | ((with_reducible refine gate_callee (f := 47) rfl ?_); refine goesL_ (some 39) rfl rfl Try.func47 (by kernel_rfl) rfl #[.pointer (some ⟨g, 0, none⟩)] rfl zg ?_; (with_reducible refine (j11_reader_num.calls k3 g s0_0 x1001_3 x1002_3 t238 t239 t240 w0 _ ?side1 ?side2 A15.out).mono ?_); (case side1 => repeat (first | (with_reducible first | exact HI0.out | apply IsS94.alloc | apply IsS94.drewN | apply IsS94.drew | apply IsS94.set_1 | apply IsS94.set_2) | exact HI0.out)); (case side2 => repeat (first | (with_reducible first | exact HB.out | apply below_alloc | apply pw_below_drewN | apply below_drew1 | refine below_set ?_ (IsS94.ge HI0.out)) | exact HB.out)); rintro e w18 ⟨rfl, hi, hb, hk⟩; refine ⟨_, rfl, ?_⟩; replace HO_4 := am (Kd.R_mono (Kd.R_keep (IsS94.apart (show IsS94 w0 _ g s0_0 x1001_3 x1002_3 from by repeat (first | (with_reducible first | exact HI0.out | apply IsS94.alloc | apply IsS94.drewN | apply IsS94.drew | apply IsS94.set_1 | apply IsS94.set_2) | exact HI0.out)) (zR HO_4.out) (by decide)) hk (fun _ h => h.2)) (fun _ h => h.1)); replace HK := am (KeepBut.trans (by repeat (first | (with_reducible first | exact HK.out | apply KeepBut.set_ | apply keep_drewN | apply keep_drew | apply keep_alloc) | exact HK.out)) hk (.inl rfl)); replace HB := am (hb); replace HI0 := am (hi); (try clear hb); (try clear hb2); (try clear hk); (try clear hi)) | ((with_reducible refine gate_builtin (b := .append) (xs := #[.tmp 41, .tmp 43]) rfl ?_); at_builtin; refine Kd.R_append (Kd.int .i64) w.heap.size rfl (.tmp 41) (.tmp 43) 22 3 (.int .i64 0) 8 rfl Try.underlying22 info3 rfl (by decide) (by omega) u4 x4_3 (wrap64 (x5_3 + t238)) [.int .i64 (wrap64 (x5_3 + t238))] (fun _ => True) (fun _ => False) rfl rfl ?aP (fun _ hk => hk.elim) ?aF ?aO (Below.refl _ _) ?aS ?aL ?_; (case aP => exact rfl); (case aF => exact (fun _ _ => trivial)); (case aO => exact (zR HO_4.out)); (case aS => exact (keep_size (w := w) (g := g) (row := none) (by repeat (first | (with_reducible first | exact HK.out | apply KeepBut.set_ | apply keep_drewN | apply keep_drew | apply keep_alloc) | exact HK.out)))); (case aL => have := LMc16.out; omega); intro v242 w19 ho hb hg hat; rw [← Ny241.out] at ho; have n0_ := am (IsS94.grown (by repeat (first | (with_reducible first | exact HI0.out | apply IsS94.alloc | apply IsS94.drewN | apply IsS94.drew | apply IsS94.set_1 | apply IsS94.set_2) | exact HI0.out)) hg (IsS94.own_ne HI0.out HO_4.out (by decide))); have n1_ := am (below_weaken (by repeat (first | (with_reducible first | exact HB.out | apply below_alloc | apply pw_below_drewN | apply below_drew1 | refine below_set ?_ (IsS94.ge HI0.out)) | exact HB.out)) HL.out hb); have n2_ := am (KeepBut.trans (by repeat (first | (with_reducible first | exact HK.out | apply KeepBut.set_ | apply keep_drewN | apply keep_drew | apply keep_alloc) | exact HK.out)) (KeepBut.of_grown hg g) (Kd.R_base2 HO_4.out)); have n3_ := am (ho); clear HI0; clear HB; clear HK; clear HO_4; have HI0 := n0_; have HB := n1_; have HK := n2_; have HO243 := n3_; clear n0_ n1_ n2_ n3_; clear ho hb hg hat))
          go_roundg k3
          case measure => have := HJ2.out; have := HJ9.out; have := HK3.out; omega
          case rel => exact ⟨(y241), (wrap64 (x5_3 + t238)), (wrap64 (x6_3 + 1)), (t239), (t240), zr, zr, H', ⟨by have := HJ2.out; have := HJ9.out; have := HK3.out; omega⟩, ⟨by (with_reducible repeat (first | apply Kd.R_alloc | apply Kd.R_drewN | apply Kd.R_drew)); exact HO243.out⟩, ⟨by repeat (first | (with_reducible first | exact HI0.out | apply IsS94.alloc | apply IsS94.drewN | apply IsS94.drew | apply IsS94.set_1 | apply IsS94.set_2) | exact HI0.out)⟩, ⟨by repeat (first | (with_reducible first | exact HK.out | apply KeepBut.set_ | apply keep_drewN | apply keep_drew | apply keep_alloc) | exact HK.out)⟩, ⟨by repeat (first | (with_reducible first | exact HB.out | apply below_alloc | apply pw_below_drewN | apply below_drew1 | refine below_set ?_ (IsS94.ge HI0.out)) | exact HB.out)⟩⟩
         ·
          rw [if_neg c16] at H
          exact absurd H (by simp)
        ·
         rw [if_neg c14] at H
         have c14b0 : (x1002_3 == 0) = false := beq_eq_false_iff_ne.mpr c14
         have c14b1 : (x1002_3 != 0) = true := bne_iff_ne.mpr c14
         simp only [Option.some.injEq, Prod.mk.injEq] at H
         obtain ⟨rfl, rfl, rfl⟩ := H
         obtain ⟨ASz20_0, cSz20_0, HGz20, hgz20, ⟨HSz20_0, _⟩⟩ := HI0.out
         have hcz20_0 := cellS94_0 HGz20
         have hcz20_1 := cellS94_1 HGz20
         have hcz20_2 := cellS94_2 HGz20
         have hfz20_1 := blk_frozen HGz20 1
         have hfz20_2 := blk_frozen HGz20 2
         clear HGz20 hgz20
         go_wp2
         go_ret
         exact ⟨_, ze, by (with_reducible repeat (first | apply Kd.R_alloc | apply Kd.R_drewN | apply Kd.R_drew)); exact HO_4.out, by repeat (first | (with_reducible first | exact HI0.out | apply IsS94.alloc | apply IsS94.drewN | apply IsS94.drew | apply IsS94.set_1 | apply IsS94.set_2) | exact HI0.out), by repeat (first | (with_reducible first | exact HB.out | apply below_alloc | apply pw_below_drewN | apply below_drew1 | refine below_set ?_ (IsS94.ge HI0.out)) | exact HB.out), by repeat (first | (with_reducible first | exact HK.out | apply KeepBut.set_ | apply keep_drewN | apply keep_drew | apply keep_alloc) | exact HK.out)⟩
       ·
        rw [if_neg c13] at H
        have c13b0 : decide (x6_3 < t235) = false := decide_eq_false c13
        clear c13
        simp only [Option.some.injEq, Prod.mk.injEq] at H
        obtain ⟨rfl, rfl, rfl⟩ := H
        go_wp2
        go_ret
        exact ⟨_, ze, by (with_reducible repeat (first | apply Kd.R_alloc | apply Kd.R_drewN | apply Kd.R_drew)); exact HO_4.out, by repeat (first | (with_reducible first | exact HI0.out | apply IsS94.alloc | apply IsS94.drewN | apply IsS94.drew | apply IsS94.set_1 | apply IsS94.set_2) | exact HI0.out), by repeat (first | (with_reducible first | exact HB.out | apply below_alloc | apply pw_below_drewN | apply below_drew1 | refine below_set ?_ (IsS94.ge HI0.out)) | exact HB.out), by repeat (first | (with_reducible first | exact HK.out | apply KeepBut.set_ | apply keep_drewN | apply keep_drew | apply keep_alloc) | exact HK.out)⟩
def j11_Read.f (k : Nat) (l0 : List Int) (a1 a2 : Int) : Option (Int × Int × Int × Int × Int × Int × List Int × List Int × Int × Int) :=
 (j11_reader_num.f k l0 0 0).bind fun p0 => (j11_reader_num.f k l0 p0.2.1 p0.2.2).bind fun p1 => (j11_reader_num.f k l0 p1.2.1 p1.2.2).bind fun p2 => (j11_reader_num.f k l0 p2.2.1 p2.2.2).bind fun p3 => (j11_reader_num.f k l0 p3.2.1 p3.2.2).bind fun p4 => (j11_reader_list.f k l0 p4.2.1 p4.2.2).bind fun q5 => (j11_reader_list.f k l0 q5.2.1 q5.2.2).bind fun q6 => if q6.2.2 = 0 then some (wrap64 (a2 + p0.1), a1, p1.1, p2.1, p3.1, p4.1, q5.1, q6.1, q6.2.1, 0) else some (0, 0, 0, 0, 0, 0, [], [], 0, q6.2.2)
theorem j11_Read.mono : ∀ a0 a1 a2 k, LeO (j11_Read.f k a0 a1 a2) (j11_Read.f (k + 1) a0 a1 a2) := by
 intro a0 a1 a2 k
 unfold j11_Read.f
 exact LeO.bind (j11_reader_num.mono _ _ _ _) fun _ => LeO.bind (j11_reader_num.mono _ _ _ _) fun _ => LeO.bind (j11_reader_num.mono _ _ _ _) fun _ => LeO.bind (j11_reader_num.mono _ _ _ _) fun _ => LeO.bind (j11_reader_num.mono _ _ _ _) fun _ => LeO.bind (j11_reader_list.mono _ _ _ _) fun _ => LeO.bind (j11_reader_list.mono _ _ _ _) fun _ => LeO.refl _
structure j11_Read.St (w W : World) (g x r : Nat) (cs cr : Array Value) (l0 : List Int) (a e : Int) : Prop where
 fi : IsS94 w W g l0 a e
 fB : Below w.heap.size w W
 fx : W.heap[x]? = some (.cells cs 26 (0, 0))
 fr : W.heap[r]? = some (.cells cr 26 (0, 0))
 gx : x ≠ g
 gr : r ≠ g
 xr : x ≠ r
 hx : w.heap.size ≤ x
theorem j11_Read.St.call {w W W1 : World} {g x r : Nat} {cs cr : Array Value} {l0 : List Int} {a e a' e' : Int} (S : j11_Read.St w W g x r cs cr l0 a e) (hi : IsS94 w W1 g l0 a' e') (hb : Below w.heap.size w W1) (hk : KeepBut W W1 g none) : j11_Read.St w W1 g x r cs cr l0 a' e' :=
 ⟨hi, hb, (hk.2 _ (blk_lt S.fx) S.gx (by simp)).trans S.fx, (hk.2 _ (blk_lt S.fr) S.gr (by simp)).trans S.fr, S.gx, S.gr, S.xr, S.hx⟩
theorem j11_Read.St.set {w W : World} {g x r : Nat} {cs cr : Array Value} {l0 : List Int} {a e : Int} (S : j11_Read.St w W g x r cs cr l0 a e) (j : Nat) (v : Value) : j11_Read.St w (W.setCell ⟨x, j, none⟩ v) g x r (cs.setIfInBounds j v) cr l0 a e :=
 ⟨S.fi.far (by exact fun h => S.gx h.symm) v, below_set S.fB S.hx, by simpa using blk_set S.fx j v, by rw [Below.heap_setCell _ _ _ _ (fun h => S.xr h.symm)]; exact S.fr, S.gx, S.gr, S.xr, S.hx⟩
theorem j11_Read.put8 {W : World} {r : Nat} {v0 v1 v2 v3 v4 v5 v6 v7 u0 u1 u2 u3 u4 u5 u6 u7 : Value} (h : W.heap[r]? = some (.cells #[u0, u1, u2, u3, u4, u5, u6, u7] 26 (0, 0))) : ((((((((W.setCell ⟨r, 0, none⟩ v0).setCell ⟨r, 1, none⟩ v1).setCell ⟨r, 2, none⟩ v2).setCell ⟨r, 3, none⟩ v3).setCell ⟨r, 4, none⟩ v4).setCell ⟨r, 5, none⟩ v5).setCell ⟨r, 6, none⟩ v6).setCell ⟨r, 7, none⟩ v7).heap[r]? = some (.cells #[v0, v1, v2, v3, v4, v5, v6, v7] 26 (0, 0)) := by
 have h0 : (W.setCell ⟨r, 0, none⟩ v0).heap[r]? = some (.cells #[v0, u1, u2, u3, u4, u5, u6, u7] 26 (0, 0)) := by simpa using blk_set h 0 v0
 have h1 : ((W.setCell ⟨r, 0, none⟩ v0).setCell ⟨r, 1, none⟩ v1).heap[r]? = some (.cells #[v0, v1, u2, u3, u4, u5, u6, u7] 26 (0, 0)) := by simpa using blk_set h0 1 v1
 generalize (W.setCell ⟨r, 0, none⟩ v0).setCell ⟨r, 1, none⟩ v1 = W1 at h1 ⊢
 have h2 : (W1.setCell ⟨r, 2, none⟩ v2).heap[r]? = some (.cells #[v0, v1, v2, u3, u4, u5, u6, u7] 26 (0, 0)) := by simpa using blk_set h1 2 v2
 have h3 : ((W1.setCell ⟨r, 2, none⟩ v2).setCell ⟨r, 3, none⟩ v3).heap[r]? = some (.cells #[v0, v1, v2, v3, u4, u5, u6, u7] 26 (0, 0)) := by simpa using blk_set h2 3 v3
 generalize (W1.setCell ⟨r, 2, none⟩ v2).setCell ⟨r, 3, none⟩ v3 = W2 at h3 ⊢
 have h4 : (W2.setCell ⟨r, 4, none⟩ v4).heap[r]? = some (.cells #[v0, v1, v2, v3, v4, u5, u6, u7] 26 (0, 0)) := by simpa using blk_set h3 4 v4
 have h5 : ((W2.setCell ⟨r, 4, none⟩ v4).setCell ⟨r, 5, none⟩ v5).heap[r]? = some (.cells #[v0, v1, v2, v3, v4, v5, u6, u7] 26 (0, 0)) := by simpa using blk_set h4 5 v5
 generalize (W2.setCell ⟨r, 4, none⟩ v4).setCell ⟨r, 5, none⟩ v5 = W3 at h5 ⊢
 have h6 : (W3.setCell ⟨r, 6, none⟩ v6).heap[r]? = some (.cells #[v0, v1, v2, v3, v4, v5, v6, u7] 26 (0, 0)) := by simpa using blk_set h5 6 v6
 simpa using blk_set h6 7 v7
theorem j11_Read.far8 {α : Type} {d : Kd α} {e base : Nat} {W : World} {ok : Nat → Prop} {v : Value} {xs : List α} {r : Nat} {v0 v1 v2 v3 v4 v5 v6 v7 : Value} (h : d.R e W base ok v xs) (hr : ∀ k, ok k → k ≠ r) : d.R e ((((((((W.setCell ⟨r, 0, none⟩ v0).setCell ⟨r, 1, none⟩ v1).setCell ⟨r, 2, none⟩ v2).setCell ⟨r, 3, none⟩ v3).setCell ⟨r, 4, none⟩ v4).setCell ⟨r, 5, none⟩ v5).setCell ⟨r, 6, none⟩ v6).setCell ⟨r, 7, none⟩ v7) base ok v xs :=
 Kd.R_far (Kd.R_far (Kd.R_far (Kd.R_far (Kd.R_far (Kd.R_far (Kd.R_far (Kd.R_far h (p := ⟨r, 0, none⟩) hr _) (p := ⟨r, 1, none⟩) hr _) (p := ⟨r, 2, none⟩) hr _) (p := ⟨r, 3, none⟩) hr _) (p := ⟨r, 4, none⟩) hr _) (p := ⟨r, 5, none⟩) hr _) (p := ⟨r, 6, none⟩) hr _) (p := ⟨r, 7, none⟩) hr _
theorem j11_Read.below8 {w W : World} {r : Nat} {v0 v1 v2 v3 v4 v5 v6 v7 : Value} (h : Below w.heap.size w W) (hr : w.heap.size ≤ r) : Below w.heap.size w ((((((((W.setCell ⟨r, 0, none⟩ v0).setCell ⟨r, 1, none⟩ v1).setCell ⟨r, 2, none⟩ v2).setCell ⟨r, 3, none⟩ v3).setCell ⟨r, 4, none⟩ v4).setCell ⟨r, 5, none⟩ v5).setCell ⟨r, 6, none⟩ v6).setCell ⟨r, 7, none⟩ v7) :=
 below_set (below_set (below_set (below_set (below_set (below_set (below_set (below_set h hr) hr) hr) hr) hr) hr) hr) hr
set_option maxHeartbeats 4000000 in
set_option maxRecDepth 100000 in
theorem j11_Read.calls (k : Nat) (A0 : Option Addr) (c0 : Nat) (l0 : List Int) (a1 : Int) (a2 : Int) (r1 r2 r3 r4 r5 r6 : Int) (r7 r8 : List Int) (r9 r10 : Int) (w : World) (hr0 : Kd.C (Kd.int .u8) w A0 l0.length l0) (hc0 : l0.length ≤ c0) (h : j11_Read.f k l0 a1 a2 = some (r1, r2, r3, r4, r5, r6, r7, r8, r9, r10)) :
  Calls Try.prog 17 #[.slice A0 l0.length c0, .int .i64 a1, .int .i64 a2] w fun e w' => ∃ v6_ v7_ : Value, e = .returned (.tuple #[.agg #[.int .i64 r1, .int .i64 r2, .int .i64 r3, .int .i64 r4, .int .i64 r5, .int .i64 r6, v6_, v7_], .int .i64 r9, .int .i64 r10]) ∧ Kd.R (Kd.int .i64) 3 w' w.heap.size (fun k_ => some k_ ≠ (v7_ : Value).ownBlock) v6_ r7 ∧ Kd.R (Kd.int .i64) 3 w' w.heap.size (fun k_ => some k_ ≠ (v6_ : Value).ownBlock) v7_ r8 ∧ Below w.heap.size w w' := by
 obtain ⟨⟨n0, b0, e0⟩, h0, h_0⟩ := Option.bind_eq_some_iff.mp h
 clear h
 obtain ⟨⟨n1, b1, e1⟩, h1, h_1⟩ := Option.bind_eq_some_iff.mp h_0
 clear h_0
 obtain ⟨⟨n2, b2, e2⟩, h2, h_2⟩ := Option.bind_eq_some_iff.mp h_1
 clear h_1
 obtain ⟨⟨n3, b3, e3⟩, h3, h_3⟩ := Option.bind_eq_some_iff.mp h_2
 clear h_2
 obtain ⟨⟨n4, b4, e4⟩, h4, h_4⟩ := Option.bind_eq_some_iff.mp h_3
 clear h_3
 obtain ⟨⟨l5, b5, e5⟩, h5, h_5⟩ := Option.bind_eq_some_iff.mp h_4
 clear h_4
 obtain ⟨⟨l6, b6, e6⟩, h6, h_6⟩ := Option.bind_eq_some_iff.mp h_5
 clear h_5
 have h := h_6
 clear h_6
 dsimp only at h h0 h1 h2 h3 h4 h5 h6
 have H0 := am h0
 have H1 := am h1
 have H2 := am h2
 have H3 := am h3
 have H4 := am h4
 have H5 := am h5
 have H6 := am h6
 have HH := am h
 clear h h0 h1 h2 h3 h4 h5 h6
 obtain ⟨W1, hW1⟩ : ∃ W1 : World, W1 = (w.alloc (.cells #[.int .i64 0, .int .i64 0, .int .i64 0, .int .i64 0, .int .i64 0, .int .i64 0, .slice none 0 0, .slice none 0 0] 26)).alloc (.cells #[.slice A0 l0.length c0, .int .i64 0, .int .i64 0] 94) := ⟨_, rfl⟩
 have HI1 : Aside0 (IsS94 w W1 (w.heap.size + 1) l0 0 0) := ⟨by
  have := IsS94.new w (w.alloc (.cells #[.int .i64 0, .int .i64 0, .int .i64 0, .int .i64 0, .int .i64 0, .int .i64 0, .slice none 0 0, .slice none 0 0] 26)) A0 c0 l0 0 0 (below_alloc (Below.refl _ _) _) ⟨hr0, hc0⟩
  rw [hW1]
  simpa using this⟩
 have HB1 : Aside0 (Below w.heap.size w W1) := ⟨by rw [hW1]; exact below_alloc (below_alloc (Below.refl _ _) _) _⟩
 have HR1 : Aside0 (W1.heap[w.heap.size]? = some (.cells #[.int .i64 0, .int .i64 0, .int .i64 0, .int .i64 0, .int .i64 0, .int .i64 0, .slice none 0 0, .slice none 0 0] 26 (0, 0))) := ⟨by rw [hW1, heap_alloc_old _ _ (by simp), heap_alloc_new]⟩
 clear hr0 hc0
 go_enter Try.func17, Try.ntmps17
 by_cases ce : e6 = 0
 ·
  have ce0 : (e6 != 0) = false := by simp [ce]
  have HH1 := am ((if_pos ce).symm.trans HH.out)
  clear HH
  simp only [Option.some.injEq, Prod.mk.injEq] at HH1
  obtain ⟨rfl, rfl, rfl, rfl, rfl, rfl, rfl, rfl, rfl, rfl⟩ := HH1.out
  clear HH1 ce
  go_wp2_with (first | (go_at_call 47; rw [← hW1]; refine (j11_reader_num.calls k (w.heap.size + 1) l0 0 0 n0 b0 e0 w _ HI1.out HB1.out H0.out).mono ?_; rintro e w2 ⟨rfl, hi, hb, hk⟩; have HR2 := (hk.2 _ (blk_lt HR1.out) (by omega) (by simp)).trans HR1.out; have HS0 : Aside0 (j11_Read.St w (w2.alloc (.cells #[.int .i64 (wrap64 (a2 + n0)), .int .i64 a1, .int .i64 0, .int .i64 0, .int .i64 0, .int .i64 0, .slice none 0 0, .slice none 0 0] 26)) (w.heap.size + 1) w2.heap.size w.heap.size #[.int .i64 (wrap64 (a2 + n0)), .int .i64 a1, .int .i64 0, .int .i64 0, .int .i64 0, .int .i64 0, .slice none 0 0, .slice none 0 0] #[.int .i64 0, .int .i64 0, .int .i64 0, .int .i64 0, .int .i64 0, .int .i64 0, .slice none 0 0, .slice none 0 0] l0 b0 e0) := ⟨⟨hi.alloc _, (below_then hb hb.size (below_alloc (Below.refl _ _) _)), heap_alloc_new _ _, (heap_alloc_old _ _ (blk_lt HR2)).trans HR2, (Nat.ne_of_gt hi.lt), by omega, Nat.ne_of_gt (blk_lt HR2), hb.size⟩⟩; have HLT : Aside0 (w.heap.size + 1 < w2.heap.size) := ⟨hi.lt⟩; clear hi hb hk HR2) | (go_at_call 47; refine (j11_reader_num.calls k (w.heap.size + 1) l0 b0 e0 n1 b1 e1 w _ HS0.out.fi HS0.out.fB H1.out).mono ?_; rintro e w3 ⟨rfl, hi, hb, hk⟩; have HT1 := am (HS0.out.call hi hb hk); have HS1 : Aside0 (j11_Read.St w (w3.setCell ⟨w2.heap.size, 2, none⟩ (.int .i64 n1)) (w.heap.size + 1) w2.heap.size w.heap.size #[.int .i64 (wrap64 (a2 + n0)), .int .i64 a1, .int .i64 n1, .int .i64 0, .int .i64 0, .int .i64 0, .slice none 0 0, .slice none 0 0] #[.int .i64 0, .int .i64 0, .int .i64 0, .int .i64 0, .int .i64 0, .int .i64 0, .slice none 0 0, .slice none 0 0] l0 b1 e1) := ⟨HT1.out.set 2 (.int .i64 n1)⟩; have q1 := (blk_cell HT1.out.fx 2).trans rfl; have f1 := blk_frozen HT1.out.fx 2; clear hi hb hk) | (go_at_call 47; refine (j11_reader_num.calls k (w.heap.size + 1) l0 b1 e1 n2 b2 e2 w _ HS1.out.fi HS1.out.fB H2.out).mono ?_; rintro e w4 ⟨rfl, hi, hb, hk⟩; have HT2 := am (HS1.out.call hi hb hk); have HS2 : Aside0 (j11_Read.St w (w4.setCell ⟨w2.heap.size, 3, none⟩ (.int .i64 n2)) (w.heap.size + 1) w2.heap.size w.heap.size #[.int .i64 (wrap64 (a2 + n0)), .int .i64 a1, .int .i64 n1, .int .i64 n2, .int .i64 0, .int .i64 0, .slice none 0 0, .slice none 0 0] #[.int .i64 0, .int .i64 0, .int .i64 0, .int .i64 0, .int .i64 0, .int .i64 0, .slice none 0 0, .slice none 0 0] l0 b2 e2) := ⟨HT2.out.set 3 (.int .i64 n2)⟩; have q2 := (blk_cell HT2.out.fx 3).trans rfl; have f2 := blk_frozen HT2.out.fx 3; clear hi hb hk) | (go_at_call 47; refine (j11_reader_num.calls k (w.heap.size + 1) l0 b2 e2 n3 b3 e3 w _ HS2.out.fi HS2.out.fB H3.out).mono ?_; rintro e w5 ⟨rfl, hi, hb, hk⟩; have HT3 := am (HS2.out.call hi hb hk); have HS3 : Aside0 (j11_Read.St w (w5.setCell ⟨w2.heap.size, 4, none⟩ (.int .i64 n3)) (w.heap.size + 1) w2.heap.size w.heap.size #[.int .i64 (wrap64 (a2 + n0)), .int .i64 a1, .int .i64 n1, .int .i64 n2, .int .i64 n3, .int .i64 0, .slice none 0 0, .slice none 0 0] #[.int .i64 0, .int .i64 0, .int .i64 0, .int .i64 0, .int .i64 0, .int .i64 0, .slice none 0 0, .slice none 0 0] l0 b3 e3) := ⟨HT3.out.set 4 (.int .i64 n3)⟩; have q3 := (blk_cell HT3.out.fx 4).trans rfl; have f3 := blk_frozen HT3.out.fx 4; clear hi hb hk) | (go_at_call 47; refine (j11_reader_num.calls k (w.heap.size + 1) l0 b3 e3 n4 b4 e4 w _ HS3.out.fi HS3.out.fB H4.out).mono ?_; rintro e w6 ⟨rfl, hi, hb, hk⟩; have HT4 := am (HS3.out.call hi hb hk); have HS4 : Aside0 (j11_Read.St w (w6.setCell ⟨w2.heap.size, 5, none⟩ (.int .i64 n4)) (w.heap.size + 1) w2.heap.size w.heap.size #[.int .i64 (wrap64 (a2 + n0)), .int .i64 a1, .int .i64 n1, .int .i64 n2, .int .i64 n3, .int .i64 n4, .slice none 0 0, .slice none 0 0] #[.int .i64 0, .int .i64 0, .int .i64 0, .int .i64 0, .int .i64 0, .int .i64 0, .slice none 0 0, .slice none 0 0] l0 b4 e4) := ⟨HT4.out.set 5 (.int .i64 n4)⟩; have q4 := (blk_cell HT4.out.fx 5).trans rfl; have f4 := blk_frozen HT4.out.fx 5; clear hi hb hk) | (go_at_call 48; refine (j11_reader_list.calls k (w.heap.size + 1) l0 b4 e4 l5 b5 e5 w _ HS4.out.fi HS4.out.fB H5.out).mono ?_; rintro e w7 ⟨v5, rfl, ho, hi, hb, hk⟩; have HL5 := am (Kd.R_lower (Kd.R_mono (ok' := fun k_ => w2.heap.size < k_) (Kd.R_bound ho) (fun k_ hk_ => Nat.lt_of_lt_of_le (blk_lt HS4.out.fx) hk_.2.1)) HS4.out.fB.size); have HT5 := am (HS4.out.call hi hb hk); obtain ⟨A5, c5, ee5⟩ := Kd.R_slice ho; subst ee5; have HS5 : Aside0 (j11_Read.St w (w7.setCell ⟨w2.heap.size, 6, none⟩ (.slice A5 l5.length c5)) (w.heap.size + 1) w2.heap.size w.heap.size #[.int .i64 (wrap64 (a2 + n0)), .int .i64 a1, .int .i64 n1, .int .i64 n2, .int .i64 n3, .int .i64 n4, .slice A5 l5.length c5, .slice none 0 0] #[.int .i64 0, .int .i64 0, .int .i64 0, .int .i64 0, .int .i64 0, .int .i64 0, .slice none 0 0, .slice none 0 0] l0 b5 e5) := ⟨HT5.out.set 6 _⟩; have q5 := (blk_cell HT5.out.fx 6).trans rfl; have f5 := blk_frozen HT5.out.fx 6; clear ho hi hb hk) | (go_at_call 48; refine (j11_reader_list.calls k (w.heap.size + 1) l0 b5 e5 l6 b6 e6 w _ HS5.out.fi HS5.out.fB H6.out).mono ?_; rintro e w8 ⟨v6, rfl, ho, hi, hb, hk⟩; have HL5b := am (Kd.R_keep (Kd.R_far (p := ⟨w2.heap.size, 6, none⟩) HL5.out (fun k_ hk_ => Nat.ne_of_gt hk_) (.slice A5 l5.length c5)) hk (fun k_ hk_ => by have := HS5.out.gx; have := HS5.out.fi.lt; have := HLT.out; omega)); obtain ⟨in5, ow5⟩ := Kd.R_own (Kd.R_far (p := ⟨w2.heap.size, 6, none⟩) HL5.out (fun k_ hk_ => Nat.ne_of_gt hk_) (.slice A5 l5.length c5)); have HL6 := am (Kd.R_lower (Kd.R_mono (ok' := fun k_ => w2.heap.size < k_ ∧ some k_ ≠ (Value.slice A5 l5.length c5).ownBlock) (Kd.R_bound (Kd.R_new ho ow5)) (fun k_ hk_ => ⟨Nat.lt_of_lt_of_le (blk_lt HS5.out.fx) hk_.2.1, hk_.1.2⟩)) HS5.out.fB.size); have HT6 := am (HS5.out.call hi hb hk); obtain ⟨A6, c6, ee6⟩ := Kd.R_slice ho; subst ee6; have HS6 : Aside0 (j11_Read.St w (w8.setCell ⟨w2.heap.size, 7, none⟩ (.slice A6 l6.length c6)) (w.heap.size + 1) w2.heap.size w.heap.size #[.int .i64 (wrap64 (a2 + n0)), .int .i64 a1, .int .i64 n1, .int .i64 n2, .int .i64 n3, .int .i64 n4, .slice A5 l5.length c5, .slice A6 l6.length c6] #[.int .i64 0, .int .i64 0, .int .i64 0, .int .i64 0, .int .i64 0, .int .i64 0, .slice none 0 0, .slice none 0 0] l0 b6 e6) := ⟨HT6.out.set 7 _⟩; have q6 := (blk_cell HT6.out.fx 7).trans rfl; have f6 := blk_frozen HT6.out.fx 7; obtain ⟨Az, cz, hz, _, _⟩ := HS6.out.fi; have q7 := cellS94_2 hz; have q8 := cellS94_1 hz; clear ho hi hb hk ow5 hz))
  have x0 := (blk_cell HS6.out.fx 0).trans rfl
  have y0 := (blk_cell HS6.out.fr 0).trans rfl
  have z0 := blk_frozen HS6.out.fr 0
  have x1 := (blk_cell HS6.out.fx 1).trans rfl
  have y1 := (blk_cell HS6.out.fr 1).trans rfl
  have z1 := blk_frozen HS6.out.fr 1
  have x2 := (blk_cell HS6.out.fx 2).trans rfl
  have y2 := (blk_cell HS6.out.fr 2).trans rfl
  have z2 := blk_frozen HS6.out.fr 2
  have x3 := (blk_cell HS6.out.fx 3).trans rfl
  have y3 := (blk_cell HS6.out.fr 3).trans rfl
  have z3 := blk_frozen HS6.out.fr 3
  have x4 := (blk_cell HS6.out.fx 4).trans rfl
  have y4 := (blk_cell HS6.out.fr 4).trans rfl
  have z4 := blk_frozen HS6.out.fr 4
  have x5 := (blk_cell HS6.out.fx 5).trans rfl
  have y5 := (blk_cell HS6.out.fr 5).trans rfl
  have z5 := blk_frozen HS6.out.fr 5
  have x6 := (blk_cell HS6.out.fx 6).trans rfl
  have y6 := (blk_cell HS6.out.fr 6).trans rfl
  have z6 := blk_frozen HS6.out.fr 6
  have x7 := (blk_cell HS6.out.fx 7).trans rfl
  have y7 := (blk_cell HS6.out.fr 7).trans rfl
  have z7 := blk_frozen HS6.out.fr 7
  clear HR1 hW1
  go_region
  all_goals (try go_wp2)
  all_goals refine bodyPost_ret (results_ctt rfl _ _ w.heap.size 26 #[.int .i64 (wrap64 (a2 + n0)), .int .i64 a1, .int .i64 n1, .int .i64 n2, .int .i64 n3, .int .i64 n4, .slice A5 l5.length c5, .slice A6 l6.length c6] (0, 0) _ rfl (blk_drew (j11_Read.put8 HS6.out.fr)) Try.underlying26 rfl (by kernel_rfl)) rfl ?_
  all_goals exact ⟨_, _, rfl, Kd.R_flat (d := Kd.int .i64) (fun h_ => h_) (ok := fun k_ => w2.heap.size < k_) (by exact Kd.R_drew (j11_Read.far8 (Kd.R_far (p := ⟨w2.heap.size, 7, none⟩) HL5b.out (fun k_ hk_ => Nat.ne_of_gt hk_) _) (fun k_ hk_ => by have := HLT.out; show k_ ≠ w.heap.size; omega))) (fun k_ hk_ _ he_ => (HL6.out.1 k_ he_.symm).2 hk_.symm), Kd.R_mono (ok := fun k_ => w2.heap.size < k_ ∧ some k_ ≠ (Value.slice A5 l5.length c5).ownBlock) (by exact Kd.R_drew (j11_Read.far8 (Kd.R_far (p := ⟨w2.heap.size, 7, none⟩) HL6.out (fun k_ hk_ => Nat.ne_of_gt hk_.1) _) (fun k_ hk_ => by have := HLT.out; show k_ ≠ w.heap.size; have := hk_.1; omega))) (fun _ hk_ => hk_.2), below_drew1 (j11_Read.below8 HS6.out.fB (Nat.le_refl _))⟩
 ·
  have ce0 : (e6 != 0) = true := by simp [ce]
  have HH1 := am ((if_neg ce).symm.trans HH.out)
  clear HH
  simp only [Option.some.injEq, Prod.mk.injEq] at HH1
  obtain ⟨rfl, rfl, rfl, rfl, rfl, rfl, rfl, rfl, rfl, rfl⟩ := HH1.out
  clear HH1 ce
  go_wp2_with (first | (go_at_call 47; rw [← hW1]; refine (j11_reader_num.calls k (w.heap.size + 1) l0 0 0 n0 b0 e0 w _ HI1.out HB1.out H0.out).mono ?_; rintro e w2 ⟨rfl, hi, hb, hk⟩; have HR2 := (hk.2 _ (blk_lt HR1.out) (by omega) (by simp)).trans HR1.out; have HS0 : Aside0 (j11_Read.St w (w2.alloc (.cells #[.int .i64 (wrap64 (a2 + n0)), .int .i64 a1, .int .i64 0, .int .i64 0, .int .i64 0, .int .i64 0, .slice none 0 0, .slice none 0 0] 26)) (w.heap.size + 1) w2.heap.size w.heap.size #[.int .i64 (wrap64 (a2 + n0)), .int .i64 a1, .int .i64 0, .int .i64 0, .int .i64 0, .int .i64 0, .slice none 0 0, .slice none 0 0] #[.int .i64 0, .int .i64 0, .int .i64 0, .int .i64 0, .int .i64 0, .int .i64 0, .slice none 0 0, .slice none 0 0] l0 b0 e0) := ⟨⟨hi.alloc _, (below_then hb hb.size (below_alloc (Below.refl _ _) _)), heap_alloc_new _ _, (heap_alloc_old _ _ (blk_lt HR2)).trans HR2, (Nat.ne_of_gt hi.lt), by omega, Nat.ne_of_gt (blk_lt HR2), hb.size⟩⟩; have HLT : Aside0 (w.heap.size + 1 < w2.heap.size) := ⟨hi.lt⟩; clear hi hb hk HR2) | (go_at_call 47; refine (j11_reader_num.calls k (w.heap.size + 1) l0 b0 e0 n1 b1 e1 w _ HS0.out.fi HS0.out.fB H1.out).mono ?_; rintro e w3 ⟨rfl, hi, hb, hk⟩; have HT1 := am (HS0.out.call hi hb hk); have HS1 : Aside0 (j11_Read.St w (w3.setCell ⟨w2.heap.size, 2, none⟩ (.int .i64 n1)) (w.heap.size + 1) w2.heap.size w.heap.size #[.int .i64 (wrap64 (a2 + n0)), .int .i64 a1, .int .i64 n1, .int .i64 0, .int .i64 0, .int .i64 0, .slice none 0 0, .slice none 0 0] #[.int .i64 0, .int .i64 0, .int .i64 0, .int .i64 0, .int .i64 0, .int .i64 0, .slice none 0 0, .slice none 0 0] l0 b1 e1) := ⟨HT1.out.set 2 (.int .i64 n1)⟩; have q1 := (blk_cell HT1.out.fx 2).trans rfl; have f1 := blk_frozen HT1.out.fx 2; clear hi hb hk) | (go_at_call 47; refine (j11_reader_num.calls k (w.heap.size + 1) l0 b1 e1 n2 b2 e2 w _ HS1.out.fi HS1.out.fB H2.out).mono ?_; rintro e w4 ⟨rfl, hi, hb, hk⟩; have HT2 := am (HS1.out.call hi hb hk); have HS2 : Aside0 (j11_Read.St w (w4.setCell ⟨w2.heap.size, 3, none⟩ (.int .i64 n2)) (w.heap.size + 1) w2.heap.size w.heap.size #[.int .i64 (wrap64 (a2 + n0)), .int .i64 a1, .int .i64 n1, .int .i64 n2, .int .i64 0, .int .i64 0, .slice none 0 0, .slice none 0 0] #[.int .i64 0, .int .i64 0, .int .i64 0, .int .i64 0, .int .i64 0, .int .i64 0, .slice none 0 0, .slice none 0 0] l0 b2 e2) := ⟨HT2.out.set 3 (.int .i64 n2)⟩; have q2 := (blk_cell HT2.out.fx 3).trans rfl; have f2 := blk_frozen HT2.out.fx 3; clear hi hb hk) | (go_at_call 47; refine (j11_reader_num.calls k (w.heap.size + 1) l0 b2 e2 n3 b3 e3 w _ HS2.out.fi HS2.out.fB H3.out).mono ?_; rintro e w5 ⟨rfl, hi, hb, hk⟩; have HT3 := am (HS2.out.call hi hb hk); have HS3 : Aside0 (j11_Read.St w (w5.setCell ⟨w2.heap.size, 4, none⟩ (.int .i64 n3)) (w.heap.size + 1) w2.heap.size w.heap.size #[.int .i64 (wrap64 (a2 + n0)), .int .i64 a1, .int .i64 n1, .int .i64 n2, .int .i64 n3, .int .i64 0, .slice none 0 0, .slice none 0 0] #[.int .i64 0, .int .i64 0, .int .i64 0, .int .i64 0, .int .i64 0, .int .i64 0, .slice none 0 0, .slice none 0 0] l0 b3 e3) := ⟨HT3.out.set 4 (.int .i64 n3)⟩; have q3 := (blk_cell HT3.out.fx 4).trans rfl; have f3 := blk_frozen HT3.out.fx 4; clear hi hb hk) | (go_at_call 47; refine (j11_reader_num.calls k (w.heap.size + 1) l0 b3 e3 n4 b4 e4 w _ HS3.out.fi HS3.out.fB H4.out).mono ?_; rintro e w6 ⟨rfl, hi, hb, hk⟩; have HT4 := am (HS3.out.call hi hb hk); have HS4 : Aside0 (j11_Read.St w (w6.setCell ⟨w2.heap.size, 5, none⟩ (.int .i64 n4)) (w.heap.size + 1) w2.heap.size w.heap.size #[.int .i64 (wrap64 (a2 + n0)), .int .i64 a1, .int .i64 n1, .int .i64 n2, .int .i64 n3, .int .i64 n4, .slice none 0 0, .slice none 0 0] #[.int .i64 0, .int .i64 0, .int .i64 0, .int .i64 0, .int .i64 0, .int .i64 0, .slice none 0 0, .slice none 0 0] l0 b4 e4) := ⟨HT4.out.set 5 (.int .i64 n4)⟩; have q4 := (blk_cell HT4.out.fx 5).trans rfl; have f4 := blk_frozen HT4.out.fx 5; clear hi hb hk) | (go_at_call 48; refine (j11_reader_list.calls k (w.heap.size + 1) l0 b4 e4 l5 b5 e5 w _ HS4.out.fi HS4.out.fB H5.out).mono ?_; rintro e w7 ⟨v5, rfl, ho, hi, hb, hk⟩; have HL5 := am (Kd.R_lower (Kd.R_mono (ok' := fun k_ => w2.heap.size < k_) (Kd.R_bound ho) (fun k_ hk_ => Nat.lt_of_lt_of_le (blk_lt HS4.out.fx) hk_.2.1)) HS4.out.fB.size); have HT5 := am (HS4.out.call hi hb hk); obtain ⟨A5, c5, ee5⟩ := Kd.R_slice ho; subst ee5; have HS5 : Aside0 (j11_Read.St w (w7.setCell ⟨w2.heap.size, 6, none⟩ (.slice A5 l5.length c5)) (w.heap.size + 1) w2.heap.size w.heap.size #[.int .i64 (wrap64 (a2 + n0)), .int .i64 a1, .int .i64 n1, .int .i64 n2, .int .i64 n3, .int .i64 n4, .slice A5 l5.length c5, .slice none 0 0] #[.int .i64 0, .int .i64 0, .int .i64 0, .int .i64 0, .int .i64 0, .int .i64 0, .slice none 0 0, .slice none 0 0] l0 b5 e5) := ⟨HT5.out.set 6 _⟩; have q5 := (blk_cell HT5.out.fx 6).trans rfl; have f5 := blk_frozen HT5.out.fx 6; clear ho hi hb hk) | (go_at_call 48; refine (j11_reader_list.calls k (w.heap.size + 1) l0 b5 e5 l6 b6 e6 w _ HS5.out.fi HS5.out.fB H6.out).mono ?_; rintro e w8 ⟨v6, rfl, ho, hi, hb, hk⟩; have HL5b := am (Kd.R_keep (Kd.R_far (p := ⟨w2.heap.size, 6, none⟩) HL5.out (fun k_ hk_ => Nat.ne_of_gt hk_) (.slice A5 l5.length c5)) hk (fun k_ hk_ => by have := HS5.out.gx; have := HS5.out.fi.lt; have := HLT.out; omega)); obtain ⟨in5, ow5⟩ := Kd.R_own (Kd.R_far (p := ⟨w2.heap.size, 6, none⟩) HL5.out (fun k_ hk_ => Nat.ne_of_gt hk_) (.slice A5 l5.length c5)); have HL6 := am (Kd.R_lower (Kd.R_mono (ok' := fun k_ => w2.heap.size < k_ ∧ some k_ ≠ (Value.slice A5 l5.length c5).ownBlock) (Kd.R_bound (Kd.R_new ho ow5)) (fun k_ hk_ => ⟨Nat.lt_of_lt_of_le (blk_lt HS5.out.fx) hk_.2.1, hk_.1.2⟩)) HS5.out.fB.size); have HT6 := am (HS5.out.call hi hb hk); obtain ⟨A6, c6, ee6⟩ := Kd.R_slice ho; subst ee6; have HS6 : Aside0 (j11_Read.St w (w8.setCell ⟨w2.heap.size, 7, none⟩ (.slice A6 l6.length c6)) (w.heap.size + 1) w2.heap.size w.heap.size #[.int .i64 (wrap64 (a2 + n0)), .int .i64 a1, .int .i64 n1, .int .i64 n2, .int .i64 n3, .int .i64 n4, .slice A5 l5.length c5, .slice A6 l6.length c6] #[.int .i64 0, .int .i64 0, .int .i64 0, .int .i64 0, .int .i64 0, .int .i64 0, .slice none 0 0, .slice none 0 0] l0 b6 e6) := ⟨HT6.out.set 7 _⟩; have q6 := (blk_cell HT6.out.fx 7).trans rfl; have f6 := blk_frozen HT6.out.fx 7; obtain ⟨Az, cz, hz, _, _⟩ := HS6.out.fi; have q7 := cellS94_2 hz; have q8 := cellS94_1 hz; clear ho hi hb hk ow5 hz))
  have x0 := (blk_cell HS6.out.fx 0).trans rfl
  have y0 := (blk_cell HS6.out.fr 0).trans rfl
  have z0 := blk_frozen HS6.out.fr 0
  have x1 := (blk_cell HS6.out.fx 1).trans rfl
  have y1 := (blk_cell HS6.out.fr 1).trans rfl
  have z1 := blk_frozen HS6.out.fr 1
  have x2 := (blk_cell HS6.out.fx 2).trans rfl
  have y2 := (blk_cell HS6.out.fr 2).trans rfl
  have z2 := blk_frozen HS6.out.fr 2
  have x3 := (blk_cell HS6.out.fx 3).trans rfl
  have y3 := (blk_cell HS6.out.fr 3).trans rfl
  have z3 := blk_frozen HS6.out.fr 3
  have x4 := (blk_cell HS6.out.fx 4).trans rfl
  have y4 := (blk_cell HS6.out.fr 4).trans rfl
  have z4 := blk_frozen HS6.out.fr 4
  have x5 := (blk_cell HS6.out.fx 5).trans rfl
  have y5 := (blk_cell HS6.out.fr 5).trans rfl
  have z5 := blk_frozen HS6.out.fr 5
  have x6 := (blk_cell HS6.out.fx 6).trans rfl
  have y6 := (blk_cell HS6.out.fr 6).trans rfl
  have z6 := blk_frozen HS6.out.fr 6
  have x7 := (blk_cell HS6.out.fx 7).trans rfl
  have y7 := (blk_cell HS6.out.fr 7).trans rfl
  have z7 := blk_frozen HS6.out.fr 7
  clear HR1 hW1
  go_region
  all_goals (try go_wp2)
  all_goals refine bodyPost_ret (results_ctt rfl _ _ w.heap.size 26 #[.int .i64 0, .int .i64 0, .int .i64 0, .int .i64 0, .int .i64 0, .int .i64 0, .slice none 0 0, .slice none 0 0] (0, 0) _ rfl (blk_drew (j11_Read.put8 HS6.out.fr)) Try.underlying26 rfl (by kernel_rfl)) rfl ?_
  all_goals exact ⟨_, _, rfl, Kd.R_nil _ _ _ _ _, Kd.R_nil _ _ _ _ _, below_drew1 (j11_Read.below8 HS6.out.fB (Nat.le_refl _))⟩
def j11_records.l0 : Nat → List Int → Int → Int → List (S26) → Int → Int → Option ((List (S26)) × Bool)
 | 0, _, _, _, _, _, _ => none
 | k + 1, x0, x1, x2, x8, x9, x10 => if x10 < x2 then ((j11_Read.f k x0 x1 x9).bind fun bt598 => (if bt598.2.2.2.2.2.2.2.2.2 = 0 then (if x8.length < 1466015503701 then (if 0 ≤ bt598.2.2.2.2.2.2.2.2.1 then (if bt598.2.2.2.2.2.2.2.2.1 ≤ (x0.length : Int) then (j11_records.l0 k (x0.drop (bt598.2.2.2.2.2.2.2.2.1 : Int).toNat) x1 x2 (x8 ++ [(⟨bt598.1, (⟨bt598.2.1, bt598.2.2.1, bt598.2.2.2.1, bt598.2.2.2.2.1, bt598.2.2.2.2.2.1, bt598.2.2.2.2.2.2.1, bt598.2.2.2.2.2.2.2.1⟩ : S24)⟩ : S26)]) bt598.1 (wrap64 (x10 + 1))) else (none)) else (none)) else (none)) else (some (([] : List (S26)), false)))) else (some (x8, ((x0.length : Int) == 0)))
def j11_records.f (k : Nat) (l0 : List Int) (a1 : Int) (a2 : Int) : Option ((List (S26)) × Bool) := j11_records.l0 k l0 a1 a2 ([] : List (S26)) (-1) 0
theorem j11_records.mono_l : ∀ k, (∀ y0 y1 y2 y3 y4 y5, LeO (j11_records.l0 k y0 y1 y2 y3 y4 y5) (j11_records.l0 (k + 1) y0 y1 y2 y3 y4 y5))
 | 0 => fun _ _ _ _ _ _ r h => by simp [j11_records.l0] at h
 | k + 1 => by
  have ih0 := j11_records.mono_l k
  ·
   intro y0 y1 y2 y3 y4 y5
   unfold j11_records.l0
   repeat' first
   | (with_reducible exact ih0 _ _ _ _ _ _)
   | (with_reducible exact j11_Read.mono _ _ _ _)
   | (with_reducible exact LeO.refl _)
   | (with_reducible exact LeO.none _)
   | (with_reducible refine LeO.ite ?_ ?_)
   | (with_reducible refine LeO.bind ?_ (fun _ => ?_))
   | exact ih0 _ _ _ _ _ _
   | exact j11_Read.mono _ _ _ _
   | exact LeO.none _
   | refine LeO.ite ?_ ?_
   | refine LeO.bind ?_ (fun _ => ?_)
theorem j11_records.mono : ∀ a0 a1 a2 k, LeO (j11_records.f k a0 a1 a2) (j11_records.f (k + 1) a0 a1 a2) := by
 intro a0 a1 a2 k
 have ih0 := j11_records.mono_l k
 unfold j11_records.f
 repeat' first
   | (with_reducible exact ih0 _ _ _ _ _ _)
   | (with_reducible exact j11_Read.mono _ _ _ _)
   | (with_reducible exact LeO.refl _)
   | (with_reducible exact LeO.none _)
   | (with_reducible refine LeO.ite ?_ ?_)
   | (with_reducible refine LeO.bind ?_ (fun _ => ?_))
   | exact ih0 _ _ _ _ _ _
   | exact j11_Read.mono _ _ _ _
   | exact LeO.none _
   | refine LeO.ite ?_ ?_
   | refine LeO.bind ?_ (fun _ => ?_)
set_option maxHeartbeats 8000000 in
set_option maxRecDepth 100000 in
theorem j11_records.calls (k : Nat) (P0_ : Nat → Prop) (A0 : Option Addr) (c0 : Nat) (l0 : List Int) (a1 : Int) (a2 : Int) (r1 : List (S26)) (r2 : Bool) (w : World) (hs0 : Kd.V (Kd.int .u8) 5 w w.heap.size (fun k_ => P0_ k_) (.slice A0 l0.length c0) l0) (h : j11_records.f k l0 a1 a2 = some (r1, r2)) :
  Calls Try.prog 67 #[.slice A0 l0.length c0, .int .i64 a1, .int .i64 a2] w fun e w' => ∃ v0_ : Value, e = .returned (.tuple #[v0_, .bool r2]) ∧ Kd.S k26 26 w' w.heap.size (fun k_ => (w.heap.size ≤ k_)) v0_ r1 ∧ Below w.heap.size w w' := by
 have hu26 := Try.underlying26
 have HO0 := am (show Kd.V (Kd.int .u8) 5 w w.heap.size (fun k_ => (P0_ k_ ∨ w.heap.size ≤ k_)) (.slice A0 l0.length c0) l0 from Kd.V_mono hs0 (fun k_ hk => .inl hk))
 have HB := am (Below.refl w.heap.size w)
 have H : (j11_records.l0 k l0 a1 a2 ([] : List (S26)) (-1) 0) = some (r1, r2) := h
 clear h
 have H' := am H
 clear H
 go_enter Try.func67, Try.ntmps67
 go_wp2
 go_loopg [0, 8, 9, 10] k (fun kq v0 v8 v9 v10 w' => ∃ (x0_1 : List Int) (x8_1 : List (S26)) (x9_1 : Int) (x10_1 : Int), v9 = .int .i64 x9_1 ∧ v10 = .int .i64 x10_1 ∧ Aside0 (j11_records.l0 kq x0_1 a1 a2 x8_1 x9_1 x10_1 = some (r1, r2)) ∧ Aside0 (kq ≤ k) ∧ Aside0 (Kd.V (Kd.int .u8) 5 w' w.heap.size (fun k_ => (P0_ k_ ∨ w.heap.size ≤ k_) ∧ some k_ ≠ (v8 : Value).ownBlock) v0 x0_1) ∧ Aside0 (Kd.S k26 26 w' w.heap.size (fun k_ => (w.heap.size ≤ k_)) v8 x8_1) ∧ Aside0 (Below w.heap.size w w'))
 case atStart => exact ⟨(l0), (([] : List (S26))), ((-1)), (0), zr, zr, H', ⟨Nat.le_refl _⟩, ⟨by (with_reducible repeat (first | apply Kd.V_alloc | apply Kd.V_drewN | apply Kd.V_drew)); exact Kd.V_mono HO0.out (fun _ hk => ⟨hk, (by simp [Value.ownBlock])⟩)⟩, ⟨by first | exact Kd.S_nil _ _ _ _ _ | exact Kd.N_nil _ _ _ _ _ | exact Kd.V_nil _ _ _ _ _ | exact Kd.Q_nil _ _ _ _ _ | exact Kd.R_nil _ _ _ _ _⟩, ⟨zb HB⟩⟩
 case round =>
  clear H'
  try clear p2
  obtain ⟨x0_1, x8_1, x9_1, x10_1, rfl, rfl, HA, HK1, HO_0, HO_8, HB⟩ := hrel
  cases gk with
  | zero => exact absurd HA.out (by simp [j11_records.l0])
  | succ k1 =>
   have H := HA.out
   clear HA
   simp only [j11_records.l0] at H
   by_cases c4 : x10_1 < a2
   ·
    rw [if_pos c4] at H
    have c4b0 : decide (x10_1 < a2) = true := decide_eq_true c4
    clear c4
    replace H := Option.bind_eq_some_iff.mp H
    obtain ⟨⟨t598, t599, t600, t601, t602, t603, t604, t607, t610, t611⟩, A50, H⟩ := H
    (try dsimp only at H)
    have A5 := am A50
    clear A50
    by_cases c6 : t611 = 0
    ·
     rw [if_pos c6] at H
     have c6b0 : (t611 == 0) = true := beq_iff_eq.mpr c6
     have c6b1 : (t611 != 0) = false := bne_eq_false_iff_eq.mpr c6
     clear c6
     by_cases c7 : x8_1.length < 1466015503701
     ·
      rw [if_pos c7] at H
      have LMc7 := am c7
      clear c7
      obtain ⟨y613, hy613⟩ : ∃ y_ : List (S26), y_ = (x8_1 ++ [(⟨t598, (⟨t599, t600, t601, t602, t603, t604, t607⟩ : S24)⟩ : S26)]) := ⟨_, rfl⟩
      replace H : (if 0 ≤ t610 then (if t610 ≤ (x0_1.length : Int) then (j11_records.l0 k1 (x0_1.drop (t610 : Int).toNat) a1 a2 y613 t598 (wrap64 (x10_1 + 1))) else (none)) else (none)) = some (r1, r2) := by first | (rw [hy613]; with_reducible exact H) | (have H2_ := (Option.bind_some _ _).symm.trans H; rw [hy613]; with_reducible exact H2_) | (have H2_ := (Option.bind_some _ _).symm.trans H; with_reducible exact H2_) | with_reducible exact H | (rw [hy613]; exact H) | exact H
      have Ny613 := am hy613
      clear hy613
      by_cases c8 : 0 ≤ t610
      ·
       rw [if_pos c8] at H
       have c8b0 := eq_true c8
       have c8b1 : decide (0 ≤ t610) = true := decide_eq_true c8
       clear c8
       by_cases c9 : t610 ≤ (x0_1.length : Int)
       ·
        rw [if_pos c9] at H
        have c9b0 := eq_true c9
        have c9b1 : decide (t610 ≤ (x0_1.length : Int)) = true := decide_eq_true c9
        clear c9
        obtain ⟨y616, hy616⟩ : ∃ y_ : List Int, y_ = (x0_1.drop (t610 : Int).toNat) := ⟨_, rfl⟩
        replace H : (j11_records.l0 k1 y616 a1 a2 y613 t598 (wrap64 (x10_1 + 1))) = some (r1, r2) := by first | (rw [hy616]; with_reducible exact H) | (have H2_ := (Option.bind_some _ _).symm.trans H; rw [hy616]; with_reducible exact H2_) | (have H2_ := (Option.bind_some _ _).symm.trans H; with_reducible exact H2_) | with_reducible exact H | (rw [hy616]; exact H) | exact H
        have Ny616 := am hy616
        clear hy616
        have H' := am H
        clear H
        obtain ⟨Ao10, co10, eo10⟩ := Kd.V_slice HO_0.out
        subst eo10
        go_wp2_with (first | ((with_reducible refine gate_callee (f := 17) rfl ?_); refine goesL_ (some 23) rfl rfl Try.func17 (by kernel_rfl) rfl #[.slice Ao10 x0_1.length co10, .int .i64 a1, .int .i64 x9_1] rfl zg ?_; (with_reducible refine (j11_Read.calls k1 _ _ x0_1 a1 x9_1 t598 t599 t600 t601 t602 t603 t604 t607 t610 t611 _ ?side1 ?side2 A5.out).mono ?_); (case side1 => exact zC ((Kd.V_reads' HO_0.out).2.2)); (case side2 => exact (Kd.V_reads' HO_0.out).2.1); rintro e w11 ⟨v605, v608, rfl, ho0, ho1, hb⟩; refine ⟨_, rfl, ?_⟩; replace HO_0 := am (Kd.V_mono (Kd.V_told (Kd.V_told (Kd.V_old (by (with_reducible repeat (first | apply Kd.V_alloc | apply Kd.V_drewN | apply Kd.V_drew)); exact HO_0.out) hb) (Kd.R_base ho0)) (Kd.R_base ho1)) (fun _ h_ => h_.1)); replace HO_8 := am (Kd.S_mono (Kd.S_told (Kd.S_told (Kd.S_old (zS HO_8.out) hb) (Kd.R_base ho0)) (Kd.R_base ho1)) (fun _ h_ => h_.1)); have HO606 := am (Kd.R_lower (Kd.R_newM (M := fun k_ => (w.heap.size ≤ k_)) ho0 (below_size (zb HB)) (fun k_ h_ => h_)) (below_size (zb HB))); have HO609 := am (Kd.R_lower (Kd.R_newM (M := fun k_ => (w.heap.size ≤ k_)) ho1 (below_size (zb HB)) (fun k_ h_ => h_)) (below_size (zb HB))); replace HB := am (below_step (zb HB) hb); (try clear hb); (try clear hb2); (try clear hk); (try clear hi); (try clear ho0); (try clear ho1)) | ((with_reducible refine gate_dst (N := 11) rfl ?_); refine box_event ?hg (N := 11) ?hd (cs := #[.int .i64 0, .int .i64 0, .int .i64 0, .int .i64 0, .int .i64 0, .int .i64 0, .slice none 0 0, .slice none 0 0]) (t := 26) ?hr ?_; (case hd => rfl); (case hg => rfl); (case hr => first | (go_simp; done) | (go_simp; rfl)); intro gb612 hg w12 hbox hb; replace HO_0 := am (Kd.V_below (Kd.V_elderB (by (with_reducible repeat (first | apply Kd.V_alloc | apply Kd.V_drewN | apply Kd.V_drew)); exact HO_0.out) gb612 (Nat.le_of_eq hg.symm)) hb); replace HO_8 := am (Kd.S_below (Kd.S_elderB (zS HO_8.out) gb612 (Nat.le_of_eq hg.symm)) hb); replace HO606 := am (Kd.R_below (zR HO606.out) hb); replace HO609 := am (Kd.R_below (zR HO609.out) hb); have BK612 := am (hbox); have GW612 := am ((by rw [hg]; exact (below_size (zb HB)) : w.heap.size ≤ gb612)); have GE612 := am ((by rw [hg]; exact (below_size (zb HB)) : w.heap.size ≤ gb612)); replace HB := am (below_step (zb HB) hb); clear hb hbox hg; obtain ⟨hcz13_0, hcz13_1, hcz13_2, hcz13_3, hcz13_4, hcz13_5, hcz13_6, hcz13_7⟩ := zc8 BK612; obtain ⟨hfz13_0, hfz13_1, hfz13_2, hfz13_3, hfz13_4, hfz13_5, hfz13_6, hfz13_7⟩ := zf8 BK612; obtain ⟨Ao14, co14, eo14⟩ := Kd.R_slice HO606.out; subst eo14; obtain ⟨Ao15, co15, eo15⟩ := Kd.R_slice HO609.out; subst eo15) | ((with_reducible refine gate_store (t := 26) (p := 11) rfl ?_); refine store_event (t := 26) (p := 11) (v := ?vo_w16) (w1 := ((((((((w12.setCell ⟨gb612, 0, none⟩ (.int .i64 t598)).setCell ⟨gb612, 1, none⟩ (.int .i64 t599)).setCell ⟨gb612, 2, none⟩ (.int .i64 t600)).setCell ⟨gb612, 3, none⟩ (.int .i64 t601)).setCell ⟨gb612, 4, none⟩ (.int .i64 t602)).setCell ⟨gb612, 5, none⟩ (.int .i64 t603)).setCell ⟨gb612, 6, none⟩ (.slice Ao14 t604.length co14)).setCell ⟨gb612, 7, none⟩ (.slice Ao15 t607.length co15))) ?hg ?ho ?hn ?hr ?_; (case ho => rfl); (case hg => rfl); (case hn => rfl); (case hr => first | (go_simp; done) | (go_simp; rfl)); intro w16 hw; have n0_ : Aside0 (Kd.V (Kd.int .u8) 5 w16 w.heap.size (fun k_ => (P0_ k_ ∨ w.heap.size ≤ k_) ∧ some k_ ≠ (u8 : Value).ownBlock ∧ some k_ ≠ (.slice Ao14 t604.length co14 : Value).ownBlock ∧ some k_ ≠ (.slice Ao15 t607.length co15 : Value).ownBlock ∧ k_ ≠ gb612) (.slice Ao10 x0_1.length co10) x0_1) := ⟨(by rw [hw]; exact (by (with_reducible repeat (first | apply Kd.V_alloc | apply Kd.V_drewN | apply Kd.V_drew)); exact Kd.V_mono (Kd.V_far (p := ⟨gb612, 7, none⟩) (Kd.V_far (p := ⟨gb612, 6, none⟩) (Kd.V_far (p := ⟨gb612, 5, none⟩) (Kd.V_far (p := ⟨gb612, 4, none⟩) (Kd.V_far (p := ⟨gb612, 3, none⟩) (Kd.V_far (p := ⟨gb612, 2, none⟩) (Kd.V_far (p := ⟨gb612, 1, none⟩) (Kd.V_far (p := ⟨gb612, 0, none⟩) (Kd.V_mono HO_0.out (fun k_ hk => (⟨hk, hk.2⟩ : _ ∧ k_ ≠ gb612))) (fun _ hk => hk.2) (.int .i64 t598)) (fun _ hk => hk.2) (.int .i64 t599)) (fun _ hk => hk.2) (.int .i64 t600)) (fun _ hk => hk.2) (.int .i64 t601)) (fun _ hk => hk.2) (.int .i64 t602)) (fun _ hk => hk.2) (.int .i64 t603)) (fun _ hk => hk.2) (.slice Ao14 t604.length co14)) (fun _ hk => hk.2) (.slice Ao15 t607.length co15)) (fun _ hk => ⟨hk.1.1.1.1.1, ⟨hk.1.1.1.1.2, ⟨hk.1.1.1.2, ⟨hk.1.1.2, hk.1.2⟩⟩⟩⟩)))⟩; have n1_ : Aside0 (Kd.S k26 26 w16 w.heap.size (fun k_ => (w.heap.size ≤ k_) ∧ some k_ ≠ (.slice Ao14 t604.length co14 : Value).ownBlock ∧ some k_ ≠ (.slice Ao15 t607.length co15 : Value).ownBlock ∧ k_ ≠ gb612) u8 x8_1) := ⟨(by rw [hw]; exact (by (with_reducible repeat (first | apply Kd.S_alloc | apply Kd.S_drewN | apply Kd.S_drew)); exact Kd.S_mono (Kd.S_far (p := ⟨gb612, 7, none⟩) (Kd.S_far (p := ⟨gb612, 6, none⟩) (Kd.S_far (p := ⟨gb612, 5, none⟩) (Kd.S_far (p := ⟨gb612, 4, none⟩) (Kd.S_far (p := ⟨gb612, 3, none⟩) (Kd.S_far (p := ⟨gb612, 2, none⟩) (Kd.S_far (p := ⟨gb612, 1, none⟩) (Kd.S_far (p := ⟨gb612, 0, none⟩) (Kd.S_mono HO_8.out (fun k_ hk => (⟨hk, hk.2⟩ : _ ∧ k_ ≠ gb612))) (fun _ hk => hk.2) (.int .i64 t598)) (fun _ hk => hk.2) (.int .i64 t599)) (fun _ hk => hk.2) (.int .i64 t600)) (fun _ hk => hk.2) (.int .i64 t601)) (fun _ hk => hk.2) (.int .i64 t602)) (fun _ hk => hk.2) (.int .i64 t603)) (fun _ hk => hk.2) (.slice Ao14 t604.length co14)) (fun _ hk => hk.2) (.slice Ao15 t607.length co15)) (fun _ hk => ⟨hk.1.1.1.1, ⟨hk.1.1.1.2, ⟨hk.1.1.2, hk.1.2⟩⟩⟩)))⟩; have n2_ : Aside0 (Kd.R (Kd.int .i64) 3 w16 w.heap.size (fun k_ => (w.heap.size ≤ k_) ∧ some k_ ≠ (.slice Ao15 t607.length co15 : Value).ownBlock) (.slice Ao14 t604.length co14) t604) := ⟨(by rw [hw]; exact (by (with_reducible repeat (first | apply Kd.R_alloc | apply Kd.R_drewN | apply Kd.R_drew)); exact Kd.R_mono (Kd.R_far (p := ⟨gb612, 7, none⟩) (Kd.R_far (p := ⟨gb612, 6, none⟩) (Kd.R_far (p := ⟨gb612, 5, none⟩) (Kd.R_far (p := ⟨gb612, 4, none⟩) (Kd.R_far (p := ⟨gb612, 3, none⟩) (Kd.R_far (p := ⟨gb612, 2, none⟩) (Kd.R_far (p := ⟨gb612, 1, none⟩) (Kd.R_far (p := ⟨gb612, 0, none⟩) (Kd.R_types HO606.out BK612.out (by decide)) (fun _ hk => hk.2) (.int .i64 t598)) (fun _ hk => hk.2) (.int .i64 t599)) (fun _ hk => hk.2) (.int .i64 t600)) (fun _ hk => hk.2) (.int .i64 t601)) (fun _ hk => hk.2) (.int .i64 t602)) (fun _ hk => hk.2) (.int .i64 t603)) (fun _ hk => hk.2) (.slice Ao14 t604.length co14)) (fun _ hk => hk.2) (.slice Ao15 t607.length co15)) (fun _ hk => ⟨hk.1.1, hk.1.2⟩)))⟩; have n3_ : Aside0 (Kd.R (Kd.int .i64) 3 w16 w.heap.size (fun k_ => (w.heap.size ≤ k_) ∧ some k_ ≠ (.slice Ao14 t604.length co14 : Value).ownBlock) (.slice Ao15 t607.length co15) t607) := ⟨(by rw [hw]; exact (by (with_reducible repeat (first | apply Kd.R_alloc | apply Kd.R_drewN | apply Kd.R_drew)); exact Kd.R_mono (Kd.R_far (p := ⟨gb612, 7, none⟩) (Kd.R_far (p := ⟨gb612, 6, none⟩) (Kd.R_far (p := ⟨gb612, 5, none⟩) (Kd.R_far (p := ⟨gb612, 4, none⟩) (Kd.R_far (p := ⟨gb612, 3, none⟩) (Kd.R_far (p := ⟨gb612, 2, none⟩) (Kd.R_far (p := ⟨gb612, 1, none⟩) (Kd.R_far (p := ⟨gb612, 0, none⟩) (Kd.R_types HO609.out BK612.out (by decide)) (fun _ hk => hk.2) (.int .i64 t598)) (fun _ hk => hk.2) (.int .i64 t599)) (fun _ hk => hk.2) (.int .i64 t600)) (fun _ hk => hk.2) (.int .i64 t601)) (fun _ hk => hk.2) (.int .i64 t602)) (fun _ hk => hk.2) (.int .i64 t603)) (fun _ hk => hk.2) (.slice Ao14 t604.length co14)) (fun _ hk => hk.2) (.slice Ao15 t607.length co15)) (fun _ hk => ⟨hk.1.1, hk.1.2⟩)))⟩; have n4_ : Aside0 (w16.heap[gb612]? = some (.cells #[.int .i64 t598, .int .i64 t599, .int .i64 t600, .int .i64 t601, .int .i64 t602, .int .i64 t603, .slice Ao14 t604.length co14, .slice Ao15 t607.length co15] 26 (0, 0))) := ⟨(by rw [hw]; exact (by refine zu ?_; refine blk_put (cs := #[.int .i64 t598, .int .i64 t599, .int .i64 t600, .int .i64 t601, .int .i64 t602, .int .i64 t603, .slice Ao14 t604.length co14, .slice none 0 0]) ?_ 7 _ rfl; refine zu ?_; refine blk_put (cs := #[.int .i64 t598, .int .i64 t599, .int .i64 t600, .int .i64 t601, .int .i64 t602, .int .i64 t603, .slice none 0 0, .slice none 0 0]) ?_ 6 _ rfl; refine zu ?_; refine blk_put (cs := #[.int .i64 t598, .int .i64 t599, .int .i64 t600, .int .i64 t601, .int .i64 t602, .int .i64 0, .slice none 0 0, .slice none 0 0]) ?_ 5 _ rfl; refine zu ?_; refine blk_put (cs := #[.int .i64 t598, .int .i64 t599, .int .i64 t600, .int .i64 t601, .int .i64 0, .int .i64 0, .slice none 0 0, .slice none 0 0]) ?_ 4 _ rfl; refine zu ?_; refine blk_put (cs := #[.int .i64 t598, .int .i64 t599, .int .i64 t600, .int .i64 0, .int .i64 0, .int .i64 0, .slice none 0 0, .slice none 0 0]) ?_ 3 _ rfl; refine zu ?_; refine blk_put (cs := #[.int .i64 t598, .int .i64 t599, .int .i64 0, .int .i64 0, .int .i64 0, .int .i64 0, .slice none 0 0, .slice none 0 0]) ?_ 2 _ rfl; refine zu ?_; refine blk_put (cs := #[.int .i64 t598, .int .i64 0, .int .i64 0, .int .i64 0, .int .i64 0, .int .i64 0, .slice none 0 0, .slice none 0 0]) ?_ 1 _ rfl; refine zu ?_; refine blk_put (cs := #[.int .i64 0, .int .i64 0, .int .i64 0, .int .i64 0, .int .i64 0, .int .i64 0, .slice none 0 0, .slice none 0 0]) ?_ 0 _ rfl; refine zu ?_; exact BK612.out))⟩; have n5_ : Aside0 (Below w.heap.size w w16) := ⟨(by rw [hw]; exact (zb HB))⟩; clear hw; clear HO_0; clear HO_8; clear HO606; clear HO609; clear BK612; clear HB; have HO_0 := n0_; have HO_8 := n1_; have HO606 := n2_; have HO609 := n3_; have BK612 := n4_; have HB := n5_; clear n0_ n1_ n2_ n3_ n4_ n5_; obtain ⟨hcz17_0, hcz17_1, hcz17_2, hcz17_3, hcz17_4, hcz17_5, hcz17_6, hcz17_7⟩ := zc8 BK612; obtain ⟨hfz17_0, hfz17_1, hfz17_2, hfz17_3, hfz17_4, hfz17_5, hfz17_6, hfz17_7⟩ := zf8 BK612) | ((with_reducible refine gate_builtin (b := .append) (xs := #[.tmp 31, .tmp 33]) rfl ?_); at_builtin; refine Kd.S_append k26 (w0 := w) w.heap.size rfl (.tmp 31) (.tmp 33) 40 26 (.agg #[(.int .i64 0), (.int .i64 0), (.int .i64 0), (.int .i64 0), (.int .i64 0), (.int .i64 0), (.slice none 0 0), (.slice none 0 0)]) 96 rfl Try.underlying40 info26 rfl (by decide) (by omega) u8 x8_1 (⟨t598, (⟨t599, t600, t601, t602, t603, t604, t607⟩ : S24)⟩ : S26) [.int .i64 t598, .int .i64 t599, .int .i64 t600, .int .i64 t601, .int .i64 t602, .int .i64 t603, .slice Ao14 t604.length co14, .slice Ao15 t607.length co15] (fun k_ => (w.heap.size ≤ k_) ∧ k_ ≠ gb612) (fun k_ => some k_ = (.slice Ao14 t604.length co14 : Value).ownBlock ∨ some k_ = (.slice Ao15 t607.length co15 : Value).ownBlock) rfl rfl ?aP (fun k_ hk_ => hk_.elim (fun h_ => ((Kd.R_mono (ok' := fun k_ => ((fun k_ => (w.heap.size ≤ k_) ∧ k_ ≠ gb612)) k_ ∧ some k_ ≠ (u8 : Value).ownBlock) (Kd.R_types (Kd.R_apart' (HO606.out) (Kd.S_typed HO_8.out) (by decide)) BK612.out (by decide)) (fun k_ hk => ⟨⟨hk.1.1.1, hk.2⟩, hk.1.2⟩))).1 k_ h_.symm) (fun h_ => ((Kd.R_mono (ok' := fun k_ => ((fun k_ => (w.heap.size ≤ k_) ∧ k_ ≠ gb612)) k_ ∧ some k_ ≠ (u8 : Value).ownBlock) (Kd.R_types (Kd.R_apart' (HO609.out) (Kd.S_typed HO_8.out) (by decide)) BK612.out (by decide)) (fun k_ hk => ⟨⟨hk.1.1.1, hk.2⟩, hk.1.2⟩))).1 k_ h_.symm)) ?aF ?aO ?aB ?aS ?aL ?_; (case aP => exact k26_mkM _ _ _ (⟨t598, (⟨t599, t600, t601, t602, t603, t604, t607⟩ : S24)⟩ : S26) (Kd.R_mono (Kd.R_tight rfl (Kd.R_mono (ok' := fun k_ => ((fun k_ => (w.heap.size ≤ k_) ∧ k_ ≠ gb612)) k_ ∧ some k_ ≠ (u8 : Value).ownBlock) (Kd.R_types (Kd.R_apart' (HO606.out) (Kd.S_typed HO_8.out) (by decide)) BK612.out (by decide)) (fun k_ hk => ⟨⟨hk.1.1.1, hk.2⟩, hk.1.2⟩))) (fun _ h_ => Or.inl h_)) (Kd.R_mono (Kd.R_tight rfl (Kd.R_mono (ok' := fun k_ => ((fun k_ => (w.heap.size ≤ k_) ∧ k_ ≠ gb612)) k_ ∧ some k_ ≠ (u8 : Value).ownBlock) (Kd.R_types (Kd.R_apart' (HO609.out) (Kd.S_typed HO_8.out) (by decide)) BK612.out (by decide)) (fun k_ hk => ⟨⟨hk.1.1.1, hk.2⟩, hk.1.2⟩))) (fun _ h_ => Or.inr (h_)))); (case aB => exact (zb HB)); (case aF => exact (fun k_ hk => ⟨(Nat.le_trans (below_size (zb HB)) hk), Kd.freshB (g := gb612) (o := .cells #[.int .i64 t598, .int .i64 t599, .int .i64 t600, .int .i64 t601, .int .i64 t602, .int .i64 t603, .slice Ao14 t604.length co14, .slice Ao15 t607.length co15] 26 (0, 0)) (zu BK612.out) k_ hk⟩)); (case aO => exact (by (with_reducible repeat (first | apply Kd.S_alloc | apply Kd.S_drewN | apply Kd.S_drew)); exact Kd.S_mono HO_8.out (fun k_ hk => ⟨⟨hk.1, hk.2.2.2⟩, fun e_ => e_.elim (fun h_ => hk.2.1 h_) (fun h_ => hk.2.2.1 h_)⟩))); (case aS => exact (below_size (zb HB))); (case aL => have := LMc7.out; omega); intro v614 w18 ho hb hg hat; rw [← Ny613.out] at ho; have n0_ := am (Kd.V_afterv (ok := (fun k_ => (P0_ k_ ∨ w.heap.size ≤ k_) ∧ some k_ ≠ (.slice Ao14 t604.length co14 : Value).ownBlock ∧ some k_ ≠ (.slice Ao15 t607.length co15 : Value).ownBlock ∧ k_ ≠ gb612)) (by (with_reducible repeat (first | apply Kd.V_alloc | apply Kd.V_drewN | apply Kd.V_drew)); exact Kd.V_mono HO_0.out (fun _ hk => ⟨⟨hk.1, ⟨hk.2.2.1, ⟨hk.2.2.2.1, hk.2.2.2.2⟩⟩⟩, hk.2.1⟩)) hg hat); have n1_ := am (blk_grown (g := gb612) (o := .cells #[.int .i64 t598, .int .i64 t599, .int .i64 t600, .int .i64 t601, .int .i64 t602, .int .i64 t603, .slice Ao14 t604.length co14, .slice Ao15 t607.length co15] 26 (0, 0)) (zu BK612.out) hg (Kd.S_away HO_8.out (fun _ hk => hk.2.2.2))); have n2_ := am (hb); have n3_ := am (ho); clear HO_0; clear BK612; clear HB; clear HO_8; clear HO606; clear HO609; have HO_0 := n0_; have BK612 := n1_; have HB := n2_; have HO615 := n3_; clear n0_ n1_ n2_ n3_; clear ho hb hg hat; have q19 : (t610 : Int) ≤ ((x0_1.length : Int) : Int) := zo; obtain ⟨i019, hi019, _, hsz19, _⟩ := info_parts info5; have hroom19 : x0_1.length ≤ co10 := (Kd.V_reads' HO_0.out).2.1; have hC19 : Kd.F (Kd.int .u8) _ _ Ao10 x0_1.length x0_1 := (Kd.V_at (base := w.heap.size) HO_0.out).2.2; have q019 : (0 : Int) ≤ (t610 : Int) := zo; have hcut19 := cut_from (P := Try.prog) 27 5 .i64 Try.underlying27 hi019 1 hsz19 Ao10 x0_1.length co10 t610 q019 q19; have hr19 := Kd.F_cut (m := (t610 : Int).toNat) (c := co10) hC19 (by omega) hroom19; obtain ⟨A19, hA19⟩ : ∃ A1, A1 = (if co10 = (t610 : Int).toNat then Ao10 else (Ao10 : Option Addr).map (·.add ((t610 : Int).toNat * 1))) := ⟨_, rfl⟩; obtain ⟨c19, hc19⟩ : ∃ c1, c1 = co10 - (t610 : Int).toNat := ⟨_, rfl⟩; have hy19 : y616.length = x0_1.length - (t610 : Int).toNat := (by rw [Ny616.out, List.length_drop] <;> omega); rw [show (x0_1).drop (t610 : Int).toNat = y616 from Ny616.out.symm] at hr19; replace hr19 : Kd.F (Kd.int .u8) _ _ A19 y616.length y616 := (by rw [hA19]; exact hr19); rw [← hy19, ← hA19, ← hc19] at hcut19; have HO620 := am (show Kd.V (Kd.int .u8) 5 _ w.heap.size _ (.slice A19 y616.length c19) y616 from Kd.V_mk (by rw [hy19, hc19]; exact Nat.sub_le_sub_right hroom19 _) hr19); have HC620 := am (show y616.length ≤ c19 from by rw [hy19, hc19]; exact Nat.sub_le_sub_right hroom19 _); clear hr19 hC19 hroom19 hi019 hsz19 hc19; have KY19 := am hy19; have KA19 := am hA19; clear hy19 hA19; replace q19 := eq_true q19))
        go_roundg k1
        case measure => have := HK1.out; omega
        case rel => exact ⟨(y616), (y613), (t598), (wrap64 (x10_1 + 1)), zr, zr, H', ⟨by have := HK1.out; omega⟩, ⟨by (with_reducible repeat (first | apply Kd.V_alloc | apply Kd.V_drewN | apply Kd.V_drew)); exact Kd.V_mono HO620.out (fun _ hk => ⟨hk.1.1, hk.2⟩)⟩, ⟨by (with_reducible repeat (first | apply Kd.S_alloc | apply Kd.S_drewN | apply Kd.S_drew)); exact Kd.S_mono HO615.out (fun _ hk => hk.1)⟩, ⟨zb HB⟩⟩
       ·
        rw [if_neg c9] at H
        exact absurd H (by simp)
      ·
       rw [if_neg c8] at H
       exact absurd H (by simp)
     ·
      rw [if_neg c7] at H
      exact absurd H (by simp)
    ·
     rw [if_neg c6] at H
     have c6b0 : (t611 == 0) = false := beq_eq_false_iff_ne.mpr c6
     have c6b1 : (t611 != 0) = true := bne_iff_ne.mpr c6
     simp only [Option.some.injEq, Prod.mk.injEq] at H
     obtain ⟨rfl, rfl⟩ := H
     obtain ⟨Ao20, co20, eo20⟩ := Kd.V_slice HO_0.out
     subst eo20
     go_wp2_with (first | ((with_reducible refine gate_callee (f := 17) rfl ?_); refine goesL_ (some 23) rfl rfl Try.func17 (by kernel_rfl) rfl #[.slice Ao20 x0_1.length co20, .int .i64 a1, .int .i64 x9_1] rfl zg ?_; (with_reducible refine (j11_Read.calls k1 _ _ x0_1 a1 x9_1 t598 t599 t600 t601 t602 t603 t604 t607 t610 t611 _ ?side1 ?side2 A5.out).mono ?_); (case side1 => exact zC ((Kd.V_reads' HO_0.out).2.2)); (case side2 => exact (Kd.V_reads' HO_0.out).2.1); rintro e w21 ⟨v605, v608, rfl, ho0, ho1, hb⟩; refine ⟨_, rfl, ?_⟩; replace HO_0 := am (Kd.V_mono (Kd.V_told (Kd.V_told (Kd.V_old (by (with_reducible repeat (first | apply Kd.V_alloc | apply Kd.V_drewN | apply Kd.V_drew)); exact HO_0.out) hb) (Kd.R_base ho0)) (Kd.R_base ho1)) (fun _ h_ => h_.1)); replace HO_8 := am (Kd.S_mono (Kd.S_told (Kd.S_told (Kd.S_old (zS HO_8.out) hb) (Kd.R_base ho0)) (Kd.R_base ho1)) (fun _ h_ => h_.1)); have HO606 := am (Kd.R_lower (Kd.R_newM (M := fun k_ => (w.heap.size ≤ k_)) ho0 (below_size (zb HB)) (fun k_ h_ => h_)) (below_size (zb HB))); have HO609 := am (Kd.R_lower (Kd.R_newM (M := fun k_ => (w.heap.size ≤ k_)) ho1 (below_size (zb HB)) (fun k_ h_ => h_)) (below_size (zb HB))); replace HB := am (below_step (zb HB) hb); (try clear hb); (try clear hb2); (try clear hk); (try clear hi); (try clear ho0); (try clear ho1)) | ((with_reducible refine gate_dst (N := 11) rfl ?_); refine box_event ?hg (N := 11) ?hd (cs := #[.int .i64 0, .int .i64 0, .int .i64 0, .int .i64 0, .int .i64 0, .int .i64 0, .slice none 0 0, .slice none 0 0]) (t := 26) ?hr ?_; (case hd => rfl); (case hg => rfl); (case hr => first | (go_simp; done) | (go_simp; rfl)); intro gb612 hg w22 hbox hb; replace HO_0 := am (Kd.V_below (Kd.V_elderB (by (with_reducible repeat (first | apply Kd.V_alloc | apply Kd.V_drewN | apply Kd.V_drew)); exact HO_0.out) gb612 (Nat.le_of_eq hg.symm)) hb); replace HO_8 := am (Kd.S_below (Kd.S_elderB (zS HO_8.out) gb612 (Nat.le_of_eq hg.symm)) hb); replace HO606 := am (Kd.R_below (zR HO606.out) hb); replace HO609 := am (Kd.R_below (zR HO609.out) hb); have BK612 := am (hbox); have GW612 := am ((by rw [hg]; exact (below_size (zb HB)) : w.heap.size ≤ gb612)); have GE612 := am ((by rw [hg]; exact (below_size (zb HB)) : w.heap.size ≤ gb612)); replace HB := am (below_step (zb HB) hb); clear hb hbox hg; obtain ⟨hcz23_0, hcz23_1, hcz23_2, hcz23_3, hcz23_4, hcz23_5, hcz23_6, hcz23_7⟩ := zc8 BK612; obtain ⟨hfz23_0, hfz23_1, hfz23_2, hfz23_3, hfz23_4, hfz23_5, hfz23_6, hfz23_7⟩ := zf8 BK612; obtain ⟨Ao24, co24, eo24⟩ := Kd.R_slice HO606.out; subst eo24; obtain ⟨Ao25, co25, eo25⟩ := Kd.R_slice HO609.out; subst eo25))
     go_ret2
     exact ⟨_, ze, by first | exact Kd.S_nil _ _ _ _ _ | exact Kd.N_nil _ _ _ _ _ | exact Kd.V_nil _ _ _ _ _ | exact Kd.Q_nil _ _ _ _ _ | exact Kd.R_nil _ _ _ _ _, zb HB⟩
   ·
    rw [if_neg c4] at H
    have c4b0 : decide (x10_1 < a2) = false := decide_eq_false c4
    clear c4
    simp only [Option.some.injEq, Prod.mk.injEq] at H
    obtain ⟨rfl, rfl⟩ := H
    obtain ⟨Ao26, co26, eo26⟩ := Kd.V_slice HO_0.out
    subst eo26
    go_wp2
    go_ret2
    exact ⟨_, ze, by (with_reducible repeat (first | apply Kd.S_alloc | apply Kd.S_drewN | apply Kd.S_drew)); exact HO_8.out, zb HB⟩
end Go.Proofs.Ytnmmkgagbfniiaa.A
end
