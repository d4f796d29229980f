/- MCollectBlocks15: texts of this session and of the kit's printer on the road to the statement CollectBlocks, laid into one and rid of what it doesn't need. No condition beyond what each fact names. -/
import Derived.Test.YtnmmkgagbfniiaaMCollectBlocks3
import Derived.Test.YtnmmkgagbfniiaaMCollectBlocks2
import Derived.Test.YtnmmkgagbfniiaaMCollectBlocks12
import Derived.Test.YtnmmkgagbfniiaaMCollectBlocks5
import Derived.Test.YtnmmkgagbfniiaaMCollectBlocks13
import Derived.Test.YtnmmkgagbfniiaaMCollectBlocks14
section
namespace Go.Proofs.Ytnmmkgagbfniiaa.A
open Go.RowKit Go.Proofs.YtnmmkgagbfniiaaW.PrintWords Go.Proofs.YtnmmkgagbfniiaaW.PrintLast Go.Proofs.YtnmmkgagbfniiaaW.PrintMore
attribute [local go_sem] max2_int min2_int max_two min_two max_three min_three max_four min_four
set_option linter.unusedVariables false
set_option linter.unusedSimpArgs false
mutual
def j11_Decode.j0 : Nat → List Int → Int → Int → Int → Int → Bool → List Int → Int → Int → Option (Int × Int × (List (S26)) × Int × Int)
 | 0, _, _, _, _, _, _, _, _, _ => none
 | k + 1, x0, x6, x7, x8, x9, x89, x624000, x624001, x624002 => if x89 = true then (some (0, 0, ([] : List (S26)), 0, 11)) else (if (wrap64 ((x0.length : Int) - x624001)) < (wrap64 (x9 + 4)) then (some (0, 0, ([] : List (S26)), 0, 9)) else (if 0 ≤ (wrap64 (x624001 + x9)) then (if (wrap64 (x624001 + x9)) ≤ (x0.length : Int) then ((j11_Sum.f k (x0.take ((wrap64 (x624001 + x9)) : Int).toNat)).bind fun t638 => (if (wrap64 (x624001 + x9)) < (x0.length : Int) then (if (rd x0 (wrap64 (x624001 + x9))) = ((t638 / 16777216) % 256) then (if 0 ≤ (wrap64 ((wrap64 (x624001 + x9)) + 1)) then (if (wrap64 ((wrap64 (x624001 + x9)) + 1)) < (x0.length : Int) then (if (rd x0 (wrap64 ((wrap64 (x624001 + x9)) + 1))) = ((t638 / 65536) % 256) then (if 0 ≤ (wrap64 ((wrap64 (x624001 + x9)) + 2)) then (if (wrap64 ((wrap64 (x624001 + x9)) + 2)) < (x0.length : Int) then (if (rd x0 (wrap64 ((wrap64 (x624001 + x9)) + 2))) = ((t638 / 256) % 256) then (if 0 ≤ (wrap64 ((wrap64 (x624001 + x9)) + 3)) then (if (wrap64 ((wrap64 (x624001 + x9)) + 3)) < (x0.length : Int) then (j11_Decode.j1 k x0 x6 x7 x8 (wrap64 (x624001 + x9)) ((rd x0 (wrap64 ((wrap64 (x624001 + x9)) + 3))) != ((t638) % 256)) x624000 x624001 x624002) else (none)) else (none)) else (j11_Decode.j1 k x0 x6 x7 x8 (wrap64 (x624001 + x9)) true x624000 x624001 x624002)) else (none)) else (none)) else (j11_Decode.j1 k x0 x6 x7 x8 (wrap64 (x624001 + x9)) true x624000 x624001 x624002)) else (none)) else (none)) else (j11_Decode.j1 k x0 x6 x7 x8 (wrap64 (x624001 + x9)) true x624000 x624001 x624002)) else (none))) else (none)) else (none)))
def j11_Decode.j1 : Nat → List Int → Int → Int → Int → Int → Bool → List Int → Int → Int → Option (Int × Int × (List (S26)) × Int × Int)
 | 0, _, _, _, _, _, _, _, _, _ => none
 | k + 1, x0, x6, x7, x8, x10, x151, x624000, x624001, x624002 => if x151 = true then (some (0, 0, ([] : List (S26)), 0, 10)) else (if 0 ≤ x624001 then (if x624001 ≤ x10 then (if x10 ≤ (x0.length : Int) then ((j11_Unpack.f k ((x0.take (x10 : Int).toNat).drop (x624001 : Int).toNat) x8).bind fun bt644 => (if 1 < (x0.length : Int) then ((j11_records.f k bt644.1 (wrap64 (rd x0 1)) x7).bind fun bt649 => (if bt644.2 = 0 then (j11_Decode.j2 k x0 x10 (!bt649.2) (wrap64 (rd x0 1)) x6 bt649.1) else (j11_Decode.j2 k x0 x10 true (wrap64 (rd x0 1)) x6 bt649.1))) else (none))) else (none)) else (none)) else (none))
def j11_Decode.j2 : Nat → List Int → Int → Bool → Int → Int → List (S26) → Option (Int × Int × (List (S26)) × Int × Int)
 | 0, _, _, _, _, _, _ => none
 | k + 1, x0, x10, x187, x655000, x655001, x655002 => if x187 = true then (some (0, 0, ([] : List (S26)), 0, 11)) else ((j11_Encode.f k x655000 x655001 x655002).bind fun bt655 => (if bt655.2 = 0 then (if 0 ≤ (wrap64 (x10 + 4)) then (if (wrap64 (x10 + 4)) ≤ (x0.length : Int) then ((j11_SameBytes.f k bt655.1 (x0.take ((wrap64 (x10 + 4)) : Int).toNat)).bind fun t660 => (if t660 = true then (some (x655000, x655001, x655002, wrap64 (x10 + 4), 0)) else (some (0, 0, ([] : List (S26)), 0, 11)))) else (none)) else (none)) else (some (0, 0, ([] : List (S26)), 0, 11))))
end
def j11_Decode.f (k : Nat) (l0 : List Int) : Option (Int × Int × (List (S26)) × Int × Int) := if (l0.length : Int) = 0 then (some (0, 0, ([] : List (S26)), 0, 9)) else (if 0 < (l0.length : Int) then (if (rd l0 0) = 84 then (if (l0.length : Int) < 2 then (some (0, 0, ([] : List (S26)), 0, 9)) else ((j11_reader_num.f k l0 2 0).bind fun bt624 => ((j11_reader_num.f k l0 bt624.2.1 bt624.2.2).bind fun bt627 => ((j11_reader_num.f k l0 bt627.2.1 bt627.2.2).bind fun bt630 => ((j11_reader_num.f k l0 bt630.2.1 bt630.2.2).bind fun bt633 => (if bt633.2.2 = 0 then (if 1 < (l0.length : Int) then (if (wrap64 (rd l0 1)) ≥ 4 then (j11_Decode.j0 k l0 bt624.1 bt627.1 bt630.1 bt633.1 true l0 bt633.2.1 bt633.2.2) else (if bt624.1 < 0 then (j11_Decode.j0 k l0 bt624.1 bt627.1 bt630.1 bt633.1 true l0 bt633.2.1 bt633.2.2) else (if bt624.1 > 400 then (j11_Decode.j0 k l0 bt624.1 bt627.1 bt630.1 bt633.1 true l0 bt633.2.1 bt633.2.2) else (if bt627.1 < 1 then (j11_Decode.j0 k l0 bt624.1 bt627.1 bt630.1 bt633.1 true l0 bt633.2.1 bt633.2.2) else (if bt627.1 > 64 then (j11_Decode.j0 k l0 bt624.1 bt627.1 bt630.1 bt633.1 true l0 bt633.2.1 bt633.2.2) else (if bt630.1 < 0 then (j11_Decode.j0 k l0 bt624.1 bt627.1 bt630.1 bt633.1 true l0 bt633.2.1 bt633.2.2) else (if bt630.1 > 1048576 then (j11_Decode.j0 k l0 bt624.1 bt627.1 bt630.1 bt633.1 true l0 bt633.2.1 bt633.2.2) else (if bt633.1 < 0 then (j11_Decode.j0 k l0 bt624.1 bt627.1 bt630.1 bt633.1 true l0 bt633.2.1 bt633.2.2) else (j11_Decode.j0 k l0 bt624.1 bt627.1 bt630.1 bt633.1 (decide (bt633.1 > 1048576)) l0 bt633.2.1 bt633.2.2))))))))) else (none)) else (some (0, 0, ([] : List (S26)), 0, bt633.2.2)))))))) else (some (0, 0, ([] : List (S26)), 0, 11))) else (none))
theorem j11_Decode.mono_l : ∀ k, (∀ y0 y1 y2 y3 y4 y5 y6 y7 y8, LeO (j11_Decode.j0 k y0 y1 y2 y3 y4 y5 y6 y7 y8) (j11_Decode.j0 (k + 1) y0 y1 y2 y3 y4 y5 y6 y7 y8)) ∧ (∀ y0 y1 y2 y3 y4 y5 y6 y7 y8, LeO (j11_Decode.j1 k y0 y1 y2 y3 y4 y5 y6 y7 y8) (j11_Decode.j1 (k + 1) y0 y1 y2 y3 y4 y5 y6 y7 y8)) ∧ (∀ y0 y1 y2 y3 y4 y5, LeO (j11_Decode.j2 k y0 y1 y2 y3 y4 y5) (j11_Decode.j2 (k + 1) y0 y1 y2 y3 y4 y5))
 | 0 => ⟨fun _ _ _ _ _ _ _ _ _ r h => by simp [j11_Decode.j0] at h, fun _ _ _ _ _ _ _ _ _ r h => by simp [j11_Decode.j1] at h, fun _ _ _ _ _ _ r h => by simp [j11_Decode.j2] at h⟩
 | k + 1 => by
  obtain ⟨ih0, ih1, ih2⟩ := j11_Decode.mono_l k
  refine ⟨?_, ?_, ?_⟩
  ·
   intro y0 y1 y2 y3 y4 y5 y6 y7 y8
   unfold j11_Decode.j0
   exact zM
  ·
   intro y0 y1 y2 y3 y4 y5 y6 y7 y8
   unfold j11_Decode.j1
   exact zM
  ·
   intro y0 y1 y2 y3 y4 y5
   unfold j11_Decode.j2
   exact zM
theorem j11_Decode.mono : ∀ a0 k, LeO (j11_Decode.f k a0) (j11_Decode.f (k + 1) a0) := by
 intro a0 k
 obtain ⟨ih0, ih1, ih2⟩ := j11_Decode.mono_l k
 unfold j11_Decode.f
 exact zM
def j11_Decode.T13 : Bool × List (List Nat × List Nat) := (true, [([], []), ([], []), ([1], [1]), ([2], [2]), ([3], [3]), ([0, 0], [0]), ([5, 0, 5], []), ([4, 6, 0, 1, 2, 3, 4, 5, 6], [4])])
def j11_Decode.B13 : List Nat := [0, 0, 2, 6, 14, 1, 33, 127]
theorem j11_Decode.tab13 : rtab .any (opsOf Try.f30 13) = j11_Decode.T13 := by kernel_rfl
theorem j11_Decode.bits13 : waitsOk j11_Decode.T13.2 j11_Decode.B13 = true := by kernel_rfl
set_option maxHeartbeats 8000000 in
set_option maxRecDepth 100000 in
theorem j11_Decode.calls (k : Nat) (A0 : Option Addr) (c0 : Nat) (l0 : List Int) (r1 : Int) (r2 : Int) (r3 : List (S26)) (r4 : Int) (r5 : Int) (w : World) (hr0 : Kd.C (Kd.int .u8) w A0 l0.length l0) (hc0 : l0.length ≤ c0) (h : j11_Decode.f k l0 = some (r1, r2, r3, r4, r5)) :
  Calls Try.prog 30 #[.slice A0 l0.length c0] w fun e w' => ∃ v2_ : Value, e = .returned (.tuple #[.agg #[.int .i64 r1, .int .i64 r2, v2_], .int .i64 r4, .int .i64 r5]) ∧ Kd.S k26 26 w' w.heap.size (fun _ => True) v2_ r3 ∧ Below w.heap.size w w' := by
 have hu42 := Try.underlying42
 have hu94 := Try.underlying94
 have HR0 := am hr0
 have HC0 := am hc0
 clear hr0 hc0
 have HB := am (Below.refl w.heap.size w)
 have H : (if (l0.length : Int) = 0 then (some (0, 0, ([] : List (S26)), 0, 9)) else (if 0 < (l0.length : Int) then (if (rd l0 0) = 84 then (if (l0.length : Int) < 2 then (some (0, 0, ([] : List (S26)), 0, 9)) else ((j11_reader_num.f k l0 2 0).bind fun bt624 => ((j11_reader_num.f k l0 bt624.2.1 bt624.2.2).bind fun bt627 => ((j11_reader_num.f k l0 bt627.2.1 bt627.2.2).bind fun bt630 => ((j11_reader_num.f k l0 bt630.2.1 bt630.2.2).bind fun bt633 => (if bt633.2.2 = 0 then (if 1 < (l0.length : Int) then (if (wrap64 (rd l0 1)) ≥ 4 then (j11_Decode.j0 k l0 bt624.1 bt627.1 bt630.1 bt633.1 true l0 bt633.2.1 bt633.2.2) else (if bt624.1 < 0 then (j11_Decode.j0 k l0 bt624.1 bt627.1 bt630.1 bt633.1 true l0 bt633.2.1 bt633.2.2) else (if bt624.1 > 400 then (j11_Decode.j0 k l0 bt624.1 bt627.1 bt630.1 bt633.1 true l0 bt633.2.1 bt633.2.2) else (if bt627.1 < 1 then (j11_Decode.j0 k l0 bt624.1 bt627.1 bt630.1 bt633.1 true l0 bt633.2.1 bt633.2.2) else (if bt627.1 > 64 then (j11_Decode.j0 k l0 bt624.1 bt627.1 bt630.1 bt633.1 true l0 bt633.2.1 bt633.2.2) else (if bt630.1 < 0 then (j11_Decode.j0 k l0 bt624.1 bt627.1 bt630.1 bt633.1 true l0 bt633.2.1 bt633.2.2) else (if bt630.1 > 1048576 then (j11_Decode.j0 k l0 bt624.1 bt627.1 bt630.1 bt633.1 true l0 bt633.2.1 bt633.2.2) else (if bt633.1 < 0 then (j11_Decode.j0 k l0 bt624.1 bt627.1 bt630.1 bt633.1 true l0 bt633.2.1 bt633.2.2) else (j11_Decode.j0 k l0 bt624.1 bt627.1 bt630.1 bt633.1 (decide (bt633.1 > 1048576)) l0 bt633.2.1 bt633.2.2))))))))) else (none)) else (some (0, 0, ([] : List (S26)), 0, bt633.2.2)))))))) else (some (0, 0, ([] : List (S26)), 0, 11))) else (none))) = some (r1, r2, r3, r4, r5) := h
 clear h
 by_cases c2 : (l0.length : Int) = 0
 ·
  rw [if_pos c2] at H
  obtain ⟨c2b0, c2b1⟩ := zt c2
  clear c2
  simp only [Option.some.injEq, Prod.mk.injEq] at H
  obtain ⟨rfl, rfl, rfl, rfl, rfl⟩ := H
  go_enter Try.func30, Try.ntmps30
  go_wp2_with (first | ((with_reducible refine gate_dst (N := 2) rfl ?_); refine zB 2 #[.int .i64 0, .int .i64 0, .slice none 0 0] 42 ?_; intro gb621 hg w3 hbox hb; have BK621 := am (hbox); have GE621 := zG hg (zb HB); replace HB := am (below_step (zb HB) hb); clear hb hbox hg; obtain ⟨hcz4_0, hcz4_1, hcz4_2⟩ := zc3 BK621; obtain ⟨hfz4_0, hfz4_1, hfz4_2⟩ := zf3 BK621))
  exact y3
 ·
  rw [if_neg c2] at H
  obtain ⟨c2b0, c2b1⟩ := zs c2
  have c2b2 : ¬ (l0 = []) := fun h_ => c2 (by rw [h_]; rfl)
  by_cases c5 : 0 < (l0.length : Int)
  ·
   rw [if_pos c5] at H
   have c5b0 := decide_eq_true c5
   have c5b1 : decide (0 < l0.length) = true := decide_eq_true (by omega)
   clear c5
   by_cases c6 : (rd l0 0) = 84
   ·
    rw [if_pos c6] at H
    obtain ⟨c6b0, c6b1⟩ := zt c6
    clear c6
    by_cases c7 : (l0.length : Int) < 2
    ·
     rw [if_pos c7] at H
     have c7b0 := decide_eq_true c7
     have c7b1 : decide (l0.length < 2) = true := decide_eq_true (by omega)
     clear c7
     simp only [Option.some.injEq, Prod.mk.injEq] at H
     obtain ⟨rfl, rfl, rfl, rfl, rfl⟩ := H
     go_enter Try.func30, Try.ntmps30
     go_wp2_with (first | ((with_reducible refine gate_dst (N := 2) rfl ?_); refine zB 2 #[.int .i64 0, .int .i64 0, .slice none 0 0] 42 ?_; intro gb621 hg w8 hbox hb; have BK621 := am (hbox); have GE621 := zG hg (zb HB); replace HB := am (below_step (zb HB) hb); clear hb hbox hg; have p622 : 0 ≤ (0 : Int) := (by omega); have q622 : 0 < (l0.length : Int) := zo; obtain ⟨ad622, e622, hx622_0⟩ := Kd.at_int HR0.out 0 p622 q622; cases e622; have qi622 : (0 < l0.length) = True := eq_true (by omega); (try rw [show ((0 : Int)).toNat = 0 from rfl] at hx622_0); (try rw [Addr.add_zero'] at hx622_0); replace hx622_0 := zx HB hx622_0; replace p622 := eq_true p622; replace q622 := eq_true q622; obtain ⟨hcz9_0, hcz9_1, hcz9_2⟩ := zc3 BK621; obtain ⟨hfz9_0, hfz9_1, hfz9_2⟩ := zf3 BK621))
     exact y3
    ·
     rw [if_neg c7] at H
     have c7b0 := decide_eq_false c7
     have c7b1 : decide (l0.length < 2) = false := decide_eq_false (by omega)
     clear c7
     replace H := Option.bind_eq_some_iff.mp H
     obtain ⟨⟨t624, t625, t626⟩, A100, H⟩ := H
     (try dsimp only at H)
     have A10 := am A100
     clear A100
     replace H := Option.bind_eq_some_iff.mp H
     obtain ⟨⟨t627, t628, t629⟩, A110, H⟩ := H
     (try dsimp only at H)
     have A11 := am A110
     clear A110
     replace H := Option.bind_eq_some_iff.mp H
     obtain ⟨⟨t630, t631, t632⟩, A120, H⟩ := H
     (try dsimp only at H)
     have A12 := am A120
     clear A120
     replace H := Option.bind_eq_some_iff.mp H
     obtain ⟨⟨t633, t634, t635⟩, A130, H⟩ := H
     (try dsimp only at H)
     have A13 := am A130
     clear A130
     by_cases c14 : t635 = 0
     ·
      rw [if_pos c14] at H
      obtain ⟨c14b0, c14b1⟩ := zt c14
      clear c14
      have HC15 := am H
      clear H
      go_enter Try.func30, Try.ntmps30
      go_upto_region 14 with (first | ((with_reducible refine gate_dst (N := 2) rfl ?_); refine zB 2 #[.int .i64 0, .int .i64 0, .slice none 0 0] 42 ?_; intro gb621 hg w16 hbox hb; have BK621 := am (hbox); have GE621 := zG hg (zb HB); replace HB := am (below_step (zb HB) hb); clear hb hbox hg; have p622 : 0 ≤ (0 : Int) := (by omega); have q622 : 0 < (l0.length : Int) := zo; obtain ⟨ad622, e622, hx622_0⟩ := Kd.at_int HR0.out 0 p622 q622; cases e622; have qi622 : (0 < l0.length) = True := eq_true (by omega); (try rw [show ((0 : Int)).toNat = 0 from rfl] at hx622_0); (try rw [Addr.add_zero'] at hx622_0); replace hx622_0 := zx HB hx622_0; replace p622 := eq_true p622; replace q622 := eq_true q622) | ((with_reducible refine gate_dst (N := 34) rfl ?_); refine zB 34 #[.slice (some ad622) l0.length c0, .int .i64 2, .int .i64 0] 94 ?_; intro gb623 hg w17 hbox hb; have BK623 := am (hbox); have GE623 := zG hg (zb HB); replace HB := am (below_step (zb HB) hb); have NB621_623 := zn hg BK621; have NB623_621 := zm hg BK621; replace BK621 := zk BK621 hb; clear hb hbox hg; have HI623 := am (show IsS94 w w17 gb623 l0 2 0 from ⟨_, _, BK623.out, GE623.out, ⟨HR0.out, HC0.out⟩⟩)) | ((with_reducible refine gate_callee (f := 47) rfl ?_); refine goesL_ (some 36) rfl rfl Try.func47 (by kernel_rfl) rfl #[.pointer (some ⟨gb623, 0, none⟩)] rfl zg ?_; (with_reducible refine (j11_reader_num.calls k gb623 l0 2 0 t624 t625 t626 w _ ?side1 ?side2 A10.out).mono ?_); (case side1 => exact y5); (case side2 => exact y2); rintro e w18 ⟨rfl, hi, hb, hk⟩; refine ⟨_, rfl, ?_⟩; replace BK621 := am (KeepBut.blk hk (g' := gb621) (o := .cells #[.int .i64 0, .int .i64 0, .slice none 0 0] 42 (0, 0)) (zu BK621.out) NB621_623.out (by simp)); replace HB := am (hb); replace HI623 := am (hi); clear hb hk hi) | ((with_reducible refine gate_callee (f := 47) rfl ?_); refine goesL_ (some 38) rfl rfl Try.func47 (by kernel_rfl) rfl #[.pointer (some ⟨gb623, 0, none⟩)] rfl zg ?_; (with_reducible refine (j11_reader_num.calls k gb623 l0 t625 t626 t627 t628 t629 w _ ?side1 ?side2 A11.out).mono ?_); (case side1 => exact y5); (case side2 => exact y2); rintro e w19 ⟨rfl, hi, hb, hk⟩; refine ⟨_, rfl, ?_⟩; replace BK621 := am (KeepBut.blk hk (g' := gb621) (o := .cells #[.int .i64 0, .int .i64 0, .slice none 0 0] 42 (0, 0)) (zu BK621.out) NB621_623.out (by simp)); replace HB := am (hb); replace HI623 := am (hi); clear hb hk hi) | ((with_reducible refine gate_callee (f := 47) rfl ?_); refine goesL_ (some 40) rfl rfl Try.func47 (by kernel_rfl) rfl #[.pointer (some ⟨gb623, 0, none⟩)] rfl zg ?_; (with_reducible refine (j11_reader_num.calls k gb623 l0 t628 t629 t630 t631 t632 w _ ?side1 ?side2 A12.out).mono ?_); (case side1 => exact y5); (case side2 => exact y2); rintro e w20 ⟨rfl, hi, hb, hk⟩; refine ⟨_, rfl, ?_⟩; replace BK621 := am (KeepBut.blk hk (g' := gb621) (o := .cells #[.int .i64 0, .int .i64 0, .slice none 0 0] 42 (0, 0)) (zu BK621.out) NB621_623.out (by simp)); replace HB := am (hb); replace HI623 := am (hi); clear hb hk hi) | ((with_reducible refine gate_callee (f := 47) rfl ?_); refine goesL_ (some 42) rfl rfl Try.func47 (by kernel_rfl) rfl #[.pointer (some ⟨gb623, 0, none⟩)] rfl zg ?_; (with_reducible refine (j11_reader_num.calls k gb623 l0 t631 t632 t633 t634 t635 w _ ?side1 ?side2 A13.out).mono ?_); (case side1 => exact y5); (case side2 => exact y2); rintro e w21 ⟨rfl, hi, hb, hk⟩; refine ⟨_, rfl, ?_⟩; replace BK621 := am (KeepBut.blk hk (g' := gb621) (o := .cells #[.int .i64 0, .int .i64 0, .slice none 0 0] 42 (0, 0)) (zu BK621.out) NB621_623.out (by simp)); replace HB := am (hb); replace HI623 := am (hi); clear hb hk hi; obtain ⟨ASz22_0, cSz22_0, HGz22, hgz22, ⟨HSz22_0, _⟩⟩ := HI623.out; have hcz22_0 := cellS94_0 HGz22; have hcz22_1 := cellS94_1 HGz22; have hcz22_2 := cellS94_2 HGz22; have hfz22_1 := blk_frozen HGz22 1; have hfz22_2 := blk_frozen HGz22 2; clear HGz22 hgz22))
      (try simp only [Act.put, List.setIfInBounds_toArray, List.set_cons_zero, List.set_cons_succ])
      go_cut [89] (fun v89 wc => ∃ (kq : Nat) (x89_14 : Bool), v89 = .bool x89_14 ∧ Aside0 (j11_Decode.j0 kq l0 t624 t627 t630 t633 x89_14 l0 t634 t635 = some (r1, r2, r3, r4, r5)) ∧ Aside0 (kq ≤ k) ∧ Aside0 (wc.heap[gb621]? = some (.cells #[.int .i64 0, .int .i64 0, (.slice none 0 0)] 42 (0, 0))) ∧ Aside0 (IsS94 w wc gb623 l0 t634 t635) ∧ Aside0 (Below w.heap.size w wc))
      case first =>
       as_aux_lemma =>
        have H := HC15.out
        clear HC15
        by_cases c23 : 1 < (l0.length : Int)
        ·
         rw [if_pos c23] at H
         have c23b0 := decide_eq_true c23
         have c23b1 : decide (1 < l0.length) = true := decide_eq_true (by omega)
         clear c23
         (first | rw [c23b0] | (simp only [i64_w, i32_w]; rw [c23b0]) | skip)
         by_cases c24 : (wrap64 (rd l0 1)) ≥ 4
         ·
          rw [if_pos c24] at H
          have c24b0 : decide (4 ≤ (wrap64 (rd l0 1))) = true := decide_eq_true c24
          clear c24
          have H' := am H
          clear H
          have p636 : 0 ≤ (1 : Int) := (by omega)
          have q636 : 1 < (l0.length : Int) := zo
          obtain ⟨ad636, e636, hx636_0⟩ := Kd.at_int HR0.out 1 p636 q636
          obtain rfl : ad622 = ad636 := (by injection e636)
          (try simp only [show (1 : Int).toNat = 1 from rfl, Nat.reduceMul, Nat.reduceEqDiff, Go.Addr.add, ↓reduceIte] at hx636_0)
          have qi636 : (1 < l0.length) = True := eq_true (by omega)
          (try rw [show ((1 : Int)).toNat = 1 from rfl] at hx636_0)
          replace hx636_0 := zx HB hx636_0
          replace p636 := eq_true p636
          replace q636 := eq_true q636
          go_wp2
          go_meet
          case rel => exact y0
         ·
          rw [if_neg c24] at H
          have c24b0 : decide (4 ≤ (wrap64 (rd l0 1))) = false := decide_eq_false c24
          clear c24
          by_cases c25 : t624 < 0
          ·
           rw [if_pos c25] at H
           have c25b0 := decide_eq_true c25
           clear c25
           have H' := am H
           clear H
           have p636 : 0 ≤ (1 : Int) := (by omega)
           have q636 : 1 < (l0.length : Int) := zo
           obtain ⟨ad636, e636, hx636_0⟩ := Kd.at_int HR0.out 1 p636 q636
           obtain rfl : ad622 = ad636 := (by injection e636)
           (try simp only [show (1 : Int).toNat = 1 from rfl, Nat.reduceMul, Nat.reduceEqDiff, Go.Addr.add, ↓reduceIte] at hx636_0)
           have qi636 : (1 < l0.length) = True := eq_true (by omega)
           (try rw [show ((1 : Int)).toNat = 1 from rfl] at hx636_0)
           replace hx636_0 := zx HB hx636_0
           replace p636 := eq_true p636
           replace q636 := eq_true q636
           go_wp2
           go_meet
           case rel => exact y0
          ·
           rw [if_neg c25] at H
           have c25b0 := decide_eq_false c25
           clear c25
           by_cases c26 : t624 > 400
           ·
            rw [if_pos c26] at H
            have c26b0 : decide (400 < t624) = true := decide_eq_true c26
            clear c26
            have H' := am H
            clear H
            have p636 : 0 ≤ (1 : Int) := (by omega)
            have q636 : 1 < (l0.length : Int) := zo
            obtain ⟨ad636, e636, hx636_0⟩ := Kd.at_int HR0.out 1 p636 q636
            obtain rfl : ad622 = ad636 := (by injection e636)
            (try simp only [show (1 : Int).toNat = 1 from rfl, Nat.reduceMul, Nat.reduceEqDiff, Go.Addr.add, ↓reduceIte] at hx636_0)
            have qi636 : (1 < l0.length) = True := eq_true (by omega)
            (try rw [show ((1 : Int)).toNat = 1 from rfl] at hx636_0)
            replace hx636_0 := zx HB hx636_0
            replace p636 := eq_true p636
            replace q636 := eq_true q636
            go_wp2
            go_meet
            case rel => exact y0
           ·
            rw [if_neg c26] at H
            have c26b0 : decide (400 < t624) = false := decide_eq_false c26
            clear c26
            by_cases c27 : t627 < 1
            ·
             rw [if_pos c27] at H
             have c27b0 := decide_eq_true c27
             clear c27
             have H' := am H
             clear H
             have p636 : 0 ≤ (1 : Int) := (by omega)
             have q636 : 1 < (l0.length : Int) := zo
             obtain ⟨ad636, e636, hx636_0⟩ := Kd.at_int HR0.out 1 p636 q636
             obtain rfl : ad622 = ad636 := (by injection e636)
             (try simp only [show (1 : Int).toNat = 1 from rfl, Nat.reduceMul, Nat.reduceEqDiff, Go.Addr.add, ↓reduceIte] at hx636_0)
             have qi636 : (1 < l0.length) = True := eq_true (by omega)
             (try rw [show ((1 : Int)).toNat = 1 from rfl] at hx636_0)
             replace hx636_0 := zx HB hx636_0
             replace p636 := eq_true p636
             replace q636 := eq_true q636
             go_wp2
             go_meet
             case rel => exact y0
            ·
             rw [if_neg c27] at H
             have c27b0 := decide_eq_false c27
             clear c27
             by_cases c28 : t627 > 64
             ·
              rw [if_pos c28] at H
              have c28b0 : decide (64 < t627) = true := decide_eq_true c28
              clear c28
              have H' := am H
              clear H
              have p636 : 0 ≤ (1 : Int) := (by omega)
              have q636 : 1 < (l0.length : Int) := zo
              obtain ⟨ad636, e636, hx636_0⟩ := Kd.at_int HR0.out 1 p636 q636
              obtain rfl : ad622 = ad636 := (by injection e636)
              (try simp only [show (1 : Int).toNat = 1 from rfl, Nat.reduceMul, Nat.reduceEqDiff, Go.Addr.add, ↓reduceIte] at hx636_0)
              have qi636 : (1 < l0.length) = True := eq_true (by omega)
              (try rw [show ((1 : Int)).toNat = 1 from rfl] at hx636_0)
              replace hx636_0 := zx HB hx636_0
              replace p636 := eq_true p636
              replace q636 := eq_true q636
              go_wp2
              go_meet
              case rel => exact y0
             ·
              rw [if_neg c28] at H
              have c28b0 : decide (64 < t627) = false := decide_eq_false c28
              clear c28
              by_cases c29 : t630 < 0
              ·
               rw [if_pos c29] at H
               have c29b0 := decide_eq_true c29
               clear c29
               have H' := am H
               clear H
               have p636 : 0 ≤ (1 : Int) := (by omega)
               have q636 : 1 < (l0.length : Int) := zo
               obtain ⟨ad636, e636, hx636_0⟩ := Kd.at_int HR0.out 1 p636 q636
               obtain rfl : ad622 = ad636 := (by injection e636)
               (try simp only [show (1 : Int).toNat = 1 from rfl, Nat.reduceMul, Nat.reduceEqDiff, Go.Addr.add, ↓reduceIte] at hx636_0)
               have qi636 : (1 < l0.length) = True := eq_true (by omega)
               (try rw [show ((1 : Int)).toNat = 1 from rfl] at hx636_0)
               replace hx636_0 := zx HB hx636_0
               replace p636 := eq_true p636
               replace q636 := eq_true q636
               go_wp2
               go_meet
               case rel => exact y0
              ·
               rw [if_neg c29] at H
               have c29b0 := decide_eq_false c29
               clear c29
               by_cases c30 : t630 > 1048576
               ·
                rw [if_pos c30] at H
                have c30b0 : decide (1048576 < t630) = true := decide_eq_true c30
                clear c30
                have H' := am H
                clear H
                have p636 : 0 ≤ (1 : Int) := (by omega)
                have q636 : 1 < (l0.length : Int) := zo
                obtain ⟨ad636, e636, hx636_0⟩ := Kd.at_int HR0.out 1 p636 q636
                obtain rfl : ad622 = ad636 := (by injection e636)
                (try simp only [show (1 : Int).toNat = 1 from rfl, Nat.reduceMul, Nat.reduceEqDiff, Go.Addr.add, ↓reduceIte] at hx636_0)
                have qi636 : (1 < l0.length) = True := eq_true (by omega)
                (try rw [show ((1 : Int)).toNat = 1 from rfl] at hx636_0)
                replace hx636_0 := zx HB hx636_0
                replace p636 := eq_true p636
                replace q636 := eq_true q636
                go_wp2
                go_meet
                case rel => exact y0
               ·
                rw [if_neg c30] at H
                have c30b0 : decide (1048576 < t630) = false := decide_eq_false c30
                clear c30
                by_cases c31 : t633 < 0
                ·
                 rw [if_pos c31] at H
                 have c31b0 := decide_eq_true c31
                 clear c31
                 have H' := am H
                 clear H
                 have p636 : 0 ≤ (1 : Int) := (by omega)
                 have q636 : 1 < (l0.length : Int) := zo
                 obtain ⟨ad636, e636, hx636_0⟩ := Kd.at_int HR0.out 1 p636 q636
                 obtain rfl : ad622 = ad636 := (by injection e636)
                 (try simp only [show (1 : Int).toNat = 1 from rfl, Nat.reduceMul, Nat.reduceEqDiff, Go.Addr.add, ↓reduceIte] at hx636_0)
                 have qi636 : (1 < l0.length) = True := eq_true (by omega)
                 (try rw [show ((1 : Int)).toNat = 1 from rfl] at hx636_0)
                 replace hx636_0 := zx HB hx636_0
                 replace p636 := eq_true p636
                 replace q636 := eq_true q636
                 go_wp2
                 go_meet
                 case rel => exact y0
                ·
                 rw [if_neg c31] at H
                 have c31b0 := decide_eq_false c31
                 clear c31
                 have H' := am H
                 clear H
                 have p636 : 0 ≤ (1 : Int) := (by omega)
                 have q636 : 1 < (l0.length : Int) := zo
                 obtain ⟨ad636, e636, hx636_0⟩ := Kd.at_int HR0.out 1 p636 q636
                 obtain rfl : ad622 = ad636 := (by injection e636)
                 (try simp only [show (1 : Int).toNat = 1 from rfl, Nat.reduceMul, Nat.reduceEqDiff, Go.Addr.add, ↓reduceIte] at hx636_0)
                 have qi636 : (1 < l0.length) = True := eq_true (by omega)
                 (try rw [show ((1 : Int)).toNat = 1 from rfl] at hx636_0)
                 replace hx636_0 := zx HB hx636_0
                 replace p636 := eq_true p636
                 replace q636 := eq_true q636
                 go_wp2
                 go_meet
                 case rel => exact ⟨_, (decide (t633 > 1048576)), zr, H', ⟨by first | omega | exact Nat.le_refl _⟩, ⟨by refine zu ?_; exact BK621.out⟩, ⟨by repeat (first | (with_reducible first | exact HI623.out | apply IsS94.alloc | apply IsS94.drewN | apply IsS94.drew | apply IsS94.set_1 | apply IsS94.set_2 | refine IsS94.far ?_ NB623_621.out _) | exact HI623.out)⟩, ⟨by repeat (first | (with_reducible first | exact HB.out | apply below_alloc | apply pw_below_drewN | apply below_drew1 | refine below_set ?_ (IsS94.ge HI623.out) | refine below_set ?_ GE621.out) | exact HB.out)⟩⟩
        ·
         rw [if_neg c23] at H
         exact absurd H (by simp)
      case rest =>
       clear HC15
       obtain ⟨kq, x89_14, rfl, HA, HJ14, BK621, HI623, HB⟩ := hcut
       cases kq with
       | zero => exact absurd HA.out (by simp [j11_Decode.j0])
       | succ kj14 =>
        have H := HA.out
        clear HA
        simp only [j11_Decode.j0] at H
        by_cases c32 : x89_14 = true
        ·
         subst c32
         have H1 : (some (0, 0, ([] : List (S26)), 0, 11)) = some (r1, r2, r3, r4, r5) := by rw [if_pos rfl] at H; exact H
         clear H
         have H := H1
         clear H1
         simp only [Option.some.injEq, Prod.mk.injEq] at H
         obtain ⟨rfl, rfl, rfl, rfl, rfl⟩ := H
         have hnb33 := NB621_623.out
         have hnc33 := NB623_621.out
         obtain ⟨hcz34_0, hcz34_1, hcz34_2⟩ := zc3 BK621
         obtain ⟨hfz34_0, hfz34_1, hfz34_2⟩ := zf3 BK621
         go_wp2
         exact y8
        ·
         replace c32 := Bool.eq_false_iff.mpr c32
         subst c32
         have H1 : (if (wrap64 ((l0.length : Int) - t634)) < (wrap64 (t633 + 4)) then (some (0, 0, ([] : List (S26)), 0, 9)) else (if 0 ≤ (wrap64 (t634 + t633)) then (if (wrap64 (t634 + t633)) ≤ (l0.length : Int) then ((j11_Sum.f kj14 (l0.take ((wrap64 (t634 + t633)) : Int).toNat)).bind fun t638 => (if (wrap64 (t634 + t633)) < (l0.length : Int) then (if (rd l0 (wrap64 (t634 + t633))) = ((t638 / 16777216) % 256) then (if 0 ≤ (wrap64 ((wrap64 (t634 + t633)) + 1)) then (if (wrap64 ((wrap64 (t634 + t633)) + 1)) < (l0.length : Int) then (if (rd l0 (wrap64 ((wrap64 (t634 + t633)) + 1))) = ((t638 / 65536) % 256) then (if 0 ≤ (wrap64 ((wrap64 (t634 + t633)) + 2)) then (if (wrap64 ((wrap64 (t634 + t633)) + 2)) < (l0.length : Int) then (if (rd l0 (wrap64 ((wrap64 (t634 + t633)) + 2))) = ((t638 / 256) % 256) then (if 0 ≤ (wrap64 ((wrap64 (t634 + t633)) + 3)) then (if (wrap64 ((wrap64 (t634 + t633)) + 3)) < (l0.length : Int) then (j11_Decode.j1 kj14 l0 t624 t627 t630 (wrap64 (t634 + t633)) ((rd l0 (wrap64 ((wrap64 (t634 + t633)) + 3))) != ((t638) % 256)) l0 t634 t635) else (none)) else (none)) else (j11_Decode.j1 kj14 l0 t624 t627 t630 (wrap64 (t634 + t633)) true l0 t634 t635)) else (none)) else (none)) else (j11_Decode.j1 kj14 l0 t624 t627 t630 (wrap64 (t634 + t633)) true l0 t634 t635)) else (none)) else (none)) else (j11_Decode.j1 kj14 l0 t624 t627 t630 (wrap64 (t634 + t633)) true l0 t634 t635)) else (none))) else (none)) else (none))) = some (r1, r2, r3, r4, r5) := by rw [if_neg (show ¬ (false = true) by decide)] at H; exact H
         clear H
         have H := H1
         clear H1
         by_cases c35 : (wrap64 ((l0.length : Int) - t634)) < (wrap64 (t633 + 4))
         ·
          rw [if_pos c35] at H
          have c35b0 := decide_eq_true c35
          clear c35
          simp only [Option.some.injEq, Prod.mk.injEq] at H
          obtain ⟨rfl, rfl, rfl, rfl, rfl⟩ := H
          obtain ⟨ASz36_0, cSz36_0, HGz36, hgz36, ⟨HSz36_0, _⟩⟩ := HI623.out
          have hcz36_0 := cellS94_0 HGz36
          have hcz36_1 := cellS94_1 HGz36
          have hcz36_2 := cellS94_2 HGz36
          have hfz36_1 := blk_frozen HGz36 1
          have hfz36_2 := blk_frozen HGz36 2
          clear HGz36 hgz36
          have hnb37 := NB621_623.out
          have hnc37 := NB623_621.out
          obtain ⟨hcz38_0, hcz38_1, hcz38_2⟩ := zc3 BK621
          obtain ⟨hfz38_0, hfz38_1, hfz38_2⟩ := zf3 BK621
          go_wp2
          exact y8
         ·
          rw [if_neg c35] at H
          have c35b0 := decide_eq_false c35
          clear c35
          obtain ⟨ji39, hji39⟩ : ∃ j_ : Int, (wrap64 (t634 + t633)) = j_ := ⟨_, rfl⟩
          (first | rw [hji39] at H | simp only [hji39] at H)
          have hji39w : (IntKind.i64.wrap (t634 + t633)) = ji39 := (i64_w _).trans hji39
          by_cases c40 : 0 ≤ (ji39)
          ·
           rw [if_pos c40] at H
           have c40b0 := eq_true c40
           have c40b1 : decide (0 ≤ (ji39)) = true := decide_eq_true c40
           clear c40
           by_cases c41 : (ji39) ≤ (l0.length : Int)
           ·
            rw [if_pos c41] at H
            have c41b0 := eq_true c41
            have c41b1 : decide ((ji39) ≤ (l0.length : Int)) = true := decide_eq_true c41
            clear c41
            replace H := Option.bind_eq_some_iff.mp H
            obtain ⟨t638, A420, H⟩ := H
            (try dsimp only at H)
            have A42 := am A420
            clear A420
            have HC43 := am H
            clear H
            obtain ⟨ASz44_0, cSz44_0, HGz44, hgz44, ⟨HSz44_0, _⟩⟩ := HI623.out
            have hcz44_0 := cellS94_0 HGz44
            have hcz44_1 := cellS94_1 HGz44
            have hcz44_2 := cellS94_2 HGz44
            have hfz44_1 := blk_frozen HGz44 1
            have hfz44_2 := blk_frozen HGz44 2
            clear HGz44 hgz44
            obtain ⟨i045, hi045, _, hsz45, _⟩ := info_parts info5
            obtain ⟨hcut45, hA45, hC45⟩ := print_take_of (P := Try.prog) (Value.int .u8) 0 27 5 .i64 Try.underlying27 hi045 hsz45 (some ad622) c0 l0 (ji39) zo zo HC0.out
            have HR637 := am (Kd.C_of_reads (h1 := fun _ => rfl) (hA45 _ (Kd.reads_of_C HR0.out)))
            have HC637 := am hC45
            clear hA45 hC45 hi045 hsz45
            go_upto_region 20 with (first | ((with_reducible refine gate_callee (f := 56) rfl ?_); refine goesL_ (some 111) rfl rfl Try.func56 (by kernel_rfl) rfl #[.slice (some ad622) (l0.take ((ji39) : Int).toNat).length c0] rfl (by (try simp only [List.map_toArray, List.map_cons, List.map_nil]); first | done | (rw [show (l0.take ((ji39) : Int).toNat).length = (ji39).toNat from (by rw [List.length_take]; have h_ : ((ji39) : Int) ≤ (l0.length : Int) := zo; omega)] <;> rfl) | (simp only [hji39]; rfl) | rfl | (simp only [List.length_drop, List.length_take]; rfl)) ?_; (with_reducible refine (j11_Sum.calls kj14 _ _ (l0.take ((ji39) : Int).toNat) t638 _ ?side1 ?side2 A42.out).mono ?_); (case side1 => exact zC ((Kd.C_below HR637.out HB.out))); (case side2 => exact HC637.out); rintro e w' ⟨rfl, ⟨nd, rfl⟩⟩; refine ⟨_, rfl, ?_⟩))
            (try simp only [Act.put, List.setIfInBounds_toArray, List.set_cons_zero, List.set_cons_succ])
            go_cut [151] (fun v151 wc => ∃ (kq : Nat) (x151_42 : Bool), v151 = .bool x151_42 ∧ Aside0 (j11_Decode.j1 kq l0 t624 t627 t630 ji39 x151_42 l0 t634 t635 = some (r1, r2, r3, r4, r5)) ∧ Aside0 (kq ≤ kj14) ∧ Aside0 (wc.heap[gb621]? = some (.cells #[.int .i64 0, .int .i64 0, (.slice none 0 0)] 42 (0, 0))) ∧ Aside0 (IsS94 w wc gb623 l0 t634 t635) ∧ Aside0 (Below w.heap.size w wc))
            case first =>
             as_aux_lemma =>
              have H := HC43.out
              clear HC43
              by_cases c46 : (ji39) < (l0.length : Int)
              ·
               rw [if_pos c46] at H
               have c46b0 := decide_eq_true c46
               clear c46
               (first | rw [c46b0] | (simp only [i64_w, i32_w]; rw [c46b0]) | skip)
               by_cases c47 : (rd l0 (ji39)) = ((t638 / 16777216) % 256)
               ·
                rw [if_pos c47] at H
                obtain ⟨c47b0, c47b1⟩ := zt c47
                clear c47
                obtain ⟨ji48, hji48⟩ : ∃ j_ : Int, (wrap64 ((ji39) + 1)) = j_ := ⟨_, rfl⟩
                (first | rw [hji48] at H | simp only [hji48] at H)
                have hji48w : (IntKind.i64.wrap ((ji39) + 1)) = ji48 := (i64_w _).trans hji48
                by_cases c49 : 0 ≤ (ji48)
                ·
                 rw [if_pos c49] at H
                 have c49b0 := decide_eq_true c49
                 clear c49
                 by_cases c50 : (ji48) < (l0.length : Int)
                 ·
                  rw [if_pos c50] at H
                  have c50b0 := decide_eq_true c50
                  clear c50
                  by_cases c51 : (rd l0 (ji48)) = ((t638 / 65536) % 256)
                  ·
                   rw [if_pos c51] at H
                   obtain ⟨c51b0, c51b1⟩ := zt c51
                   clear c51
                   obtain ⟨ji52, hji52⟩ : ∃ j_ : Int, (wrap64 ((ji39) + 2)) = j_ := ⟨_, rfl⟩
                   (first | rw [hji52] at H | simp only [hji52] at H)
                   have hji52w : (IntKind.i64.wrap ((ji39) + 2)) = ji52 := (i64_w _).trans hji52
                   by_cases c53 : 0 ≤ (ji52)
                   ·
                    rw [if_pos c53] at H
                    have c53b0 := decide_eq_true c53
                    clear c53
                    by_cases c54 : (ji52) < (l0.length : Int)
                    ·
                     rw [if_pos c54] at H
                     have c54b0 := decide_eq_true c54
                     clear c54
                     by_cases c55 : (rd l0 (ji52)) = ((t638 / 256) % 256)
                     ·
                      rw [if_pos c55] at H
                      obtain ⟨c55b0, c55b1⟩ := zt c55
                      clear c55
                      obtain ⟨ji56, hji56⟩ : ∃ j_ : Int, (wrap64 ((ji39) + 3)) = j_ := ⟨_, rfl⟩
                      (first | rw [hji56] at H | simp only [hji56] at H)
                      have hji56w : (IntKind.i64.wrap ((ji39) + 3)) = ji56 := (i64_w _).trans hji56
                      by_cases c57 : 0 ≤ (ji56)
                      ·
                       rw [if_pos c57] at H
                       have c57b0 := decide_eq_true c57
                       clear c57
                       by_cases c58 : (ji56) < (l0.length : Int)
                       ·
                        rw [if_pos c58] at H
                        have c58b0 := decide_eq_true c58
                        clear c58
                        have H' := am H
                        clear H
                        have p639 : 0 ≤ ((ji39) : Int) := zo
                        have q639 : (ji39) < (l0.length : Int) := zo
                        obtain ⟨ad639, e639, hx639_0⟩ := Kd.at_int HR0.out (ji39) p639 q639
                        obtain rfl : ad622 = ad639 := (by injection e639)
                        replace hx639_0 := zx HB hx639_0
                        replace p639 := eq_true p639
                        replace q639 := eq_true q639
                        have p640 : 0 ≤ ((ji48) : Int) := zo
                        have q640 : (ji48) < (l0.length : Int) := zo
                        obtain ⟨ad640, e640, hx640_0⟩ := Kd.at_int HR0.out (ji48) p640 q640
                        obtain rfl : ad622 = ad640 := (by injection e640)
                        replace hx640_0 := zx HB hx640_0
                        replace p640 := eq_true p640
                        replace q640 := eq_true q640
                        have p641 : 0 ≤ ((ji52) : Int) := zo
                        have q641 : (ji52) < (l0.length : Int) := zo
                        obtain ⟨ad641, e641, hx641_0⟩ := Kd.at_int HR0.out (ji52) p641 q641
                        obtain rfl : ad622 = ad641 := (by injection e641)
                        replace hx641_0 := zx HB hx641_0
                        replace p641 := eq_true p641
                        replace q641 := eq_true q641
                        have p642 : 0 ≤ ((ji56) : Int) := zo
                        have q642 : (ji56) < (l0.length : Int) := zo
                        obtain ⟨ad642, e642, hx642_0⟩ := Kd.at_int HR0.out (ji56) p642 q642
                        obtain rfl : ad622 = ad642 := (by injection e642)
                        replace hx642_0 := zx HB hx642_0
                        replace p642 := eq_true p642
                        replace q642 := eq_true q642
                        go_wp2
                        go_meet
                        case rel => exact ⟨_, (((rd l0 (ji56)) != ((t638) % 256))), (by first | rfl | (simp; done) | (simp only [← hji56] <;> (first | rfl | simp)) | (simp [*]; done)), H', ⟨by have := HJ14.out; first | omega | exact Nat.le_refl _⟩, ⟨by refine zu ?_; exact BK621.out⟩, ⟨by repeat (first | (with_reducible first | exact HI623.out | apply IsS94.alloc | apply IsS94.drewN | apply IsS94.drew | apply IsS94.set_1 | apply IsS94.set_2 | refine IsS94.far ?_ NB623_621.out _) | exact HI623.out)⟩, ⟨by repeat (first | (with_reducible first | exact HB.out | apply below_alloc | apply pw_below_drewN | apply below_drew1 | refine below_set ?_ (IsS94.ge HI623.out) | refine below_set ?_ GE621.out) | exact HB.out)⟩⟩
                       ·
                        rw [if_neg c58] at H
                        exact absurd H (by simp)
                      ·
                       rw [if_neg c57] at H
                       exact absurd H (by simp)
                     ·
                      rw [if_neg c55] at H
                      obtain ⟨c55b0, c55b1⟩ := zs c55
                      clear c55
                      have H' := am H
                      clear H
                      have p639 : 0 ≤ ((ji39) : Int) := zo
                      have q639 : (ji39) < (l0.length : Int) := zo
                      obtain ⟨ad639, e639, hx639_0⟩ := Kd.at_int HR0.out (ji39) p639 q639
                      obtain rfl : ad622 = ad639 := (by injection e639)
                      replace hx639_0 := zx HB hx639_0
                      replace p639 := eq_true p639
                      replace q639 := eq_true q639
                      have p640 : 0 ≤ ((ji48) : Int) := zo
                      have q640 : (ji48) < (l0.length : Int) := zo
                      obtain ⟨ad640, e640, hx640_0⟩ := Kd.at_int HR0.out (ji48) p640 q640
                      obtain rfl : ad622 = ad640 := (by injection e640)
                      replace hx640_0 := zx HB hx640_0
                      replace p640 := eq_true p640
                      replace q640 := eq_true q640
                      have p641 : 0 ≤ ((ji52) : Int) := zo
                      have q641 : (ji52) < (l0.length : Int) := zo
                      obtain ⟨ad641, e641, hx641_0⟩ := Kd.at_int HR0.out (ji52) p641 q641
                      obtain rfl : ad622 = ad641 := (by injection e641)
                      replace hx641_0 := zx HB hx641_0
                      replace p641 := eq_true p641
                      replace q641 := eq_true q641
                      go_wp2
                      go_meet
                      case rel => exact y9
                    ·
                     rw [if_neg c54] at H
                     exact absurd H (by simp)
                   ·
                    rw [if_neg c53] at H
                    exact absurd H (by simp)
                  ·
                   rw [if_neg c51] at H
                   obtain ⟨c51b0, c51b1⟩ := zs c51
                   clear c51
                   have H' := am H
                   clear H
                   have p639 : 0 ≤ ((ji39) : Int) := zo
                   have q639 : (ji39) < (l0.length : Int) := zo
                   obtain ⟨ad639, e639, hx639_0⟩ := Kd.at_int HR0.out (ji39) p639 q639
                   obtain rfl : ad622 = ad639 := (by injection e639)
                   replace hx639_0 := zx HB hx639_0
                   replace p639 := eq_true p639
                   replace q639 := eq_true q639
                   have p640 : 0 ≤ ((ji48) : Int) := zo
                   have q640 : (ji48) < (l0.length : Int) := zo
                   obtain ⟨ad640, e640, hx640_0⟩ := Kd.at_int HR0.out (ji48) p640 q640
                   obtain rfl : ad622 = ad640 := (by injection e640)
                   replace hx640_0 := zx HB hx640_0
                   replace p640 := eq_true p640
                   replace q640 := eq_true q640
                   go_wp2
                   go_meet
                   case rel => exact y9
                 ·
                  rw [if_neg c50] at H
                  exact absurd H (by simp)
                ·
                 rw [if_neg c49] at H
                 exact absurd H (by simp)
               ·
                rw [if_neg c47] at H
                obtain ⟨c47b0, c47b1⟩ := zs c47
                clear c47
                have H' := am H
                clear H
                have p639 : 0 ≤ ((ji39) : Int) := zo
                have q639 : (ji39) < (l0.length : Int) := zo
                obtain ⟨ad639, e639, hx639_0⟩ := Kd.at_int HR0.out (ji39) p639 q639
                obtain rfl : ad622 = ad639 := (by injection e639)
                replace hx639_0 := zx HB hx639_0
                replace p639 := eq_true p639
                replace q639 := eq_true q639
                go_wp2
                go_meet
                case rel => exact y9
              ·
               rw [if_neg c46] at H
               exact absurd H (by simp)
            case rest =>
             clear HC43
             obtain ⟨kq, x151_42, rfl, HA, HJ42, BK621, HI623, HB⟩ := hcut
             cases kq with
             | zero => exact absurd HA.out (by simp [j11_Decode.j1])
             | succ kj42 =>
              have H := HA.out
              clear HA
              simp only [j11_Decode.j1] at H
              by_cases c59 : x151_42 = true
              ·
               subst c59
               have H1 : (some (0, 0, ([] : List (S26)), 0, 10)) = some (r1, r2, r3, r4, r5) := by rw [if_pos rfl] at H; exact H
               clear H
               have H := H1
               clear H1
               simp only [Option.some.injEq, Prod.mk.injEq] at H
               obtain ⟨rfl, rfl, rfl, rfl, rfl⟩ := H
               have hnb60 := NB621_623.out
               have hnc60 := NB623_621.out
               obtain ⟨hcz61_0, hcz61_1, hcz61_2⟩ := zc3 BK621
               obtain ⟨hfz61_0, hfz61_1, hfz61_2⟩ := zf3 BK621
               go_wp2
               refine bodyPost_ret (results_ctt rfl _ _ gb621 42 #[.int .i64 0, .int .i64 0, .slice none 0 0] (0, 0) _ rfl y1 Try.underlying42 rfl (by kernel_rfl)) rfl ?_
               exact ⟨_, by first | rfl | (simp [errW_none, errW_some] <;> rfl) | (simp only [← hji39]; first | rfl | (simp [errW_none, errW_some] <;> rfl)) | (simp [*, errW_none, errW_some] <;> rfl), by first | exact Kd.S_nil _ _ _ _ _ | exact Kd.N_nil _ _ _ _ _ | exact Kd.V_nil _ _ _ _ _ | exact Kd.Q_nil _ _ _ _ _ | exact Kd.R_nil _ _ _ _ _, by repeat (first | (with_reducible first | exact HB.out | apply below_alloc | apply pw_below_drewN | apply below_drew1 | refine below_set ?_ (IsS94.ge HI623.out) | refine below_set ?_ GE621.out) | exact HB.out)⟩
              ·
               replace c59 := Bool.eq_false_iff.mpr c59
               subst c59
               have H1 : (if 0 ≤ t634 then (if t634 ≤ ji39 then (if ji39 ≤ (l0.length : Int) then ((j11_Unpack.f kj42 ((l0.take (ji39 : Int).toNat).drop (t634 : Int).toNat) t630).bind fun bt644 => (if 1 < (l0.length : Int) then ((j11_records.f kj42 bt644.1 (wrap64 (rd l0 1)) t627).bind fun bt649 => (if bt644.2 = 0 then (j11_Decode.j2 kj42 l0 ji39 (!bt649.2) (wrap64 (rd l0 1)) t624 bt649.1) else (j11_Decode.j2 kj42 l0 ji39 true (wrap64 (rd l0 1)) t624 bt649.1))) else (none))) else (none)) else (none)) else (none)) = some (r1, r2, r3, r4, r5) := by rw [if_neg (show ¬ (false = true) by decide)] at H; exact H
               clear H
               have H := H1
               clear H1
               by_cases c62 : 0 ≤ t634
               ·
                rw [if_pos c62] at H
                have c62b0 := eq_true c62
                have c62b1 : decide (0 ≤ t634) = true := decide_eq_true c62
                clear c62
                by_cases c63 : t634 ≤ ji39
                ·
                 rw [if_pos c63] at H
                 have c63b0 := eq_true c63
                 have c63b1 : decide (t634 ≤ ji39) = true := decide_eq_true c63
                 clear c63
                 by_cases c64 : ji39 ≤ (l0.length : Int)
                 ·
                  rw [if_pos c64] at H
                  have c64b0 := eq_true c64
                  have c64b1 : decide (ji39 ≤ (l0.length : Int)) = true := decide_eq_true c64
                  clear c64
                  replace H := Option.bind_eq_some_iff.mp H
                  obtain ⟨⟨t644, t645⟩, A650, H⟩ := H
                  (try dsimp only at H)
                  have A65 := am A650
                  clear A650
                  by_cases c66 : 1 < (l0.length : Int)
                  ·
                   rw [if_pos c66] at H
                   have c66b0 := decide_eq_true c66
                   have c66b1 : decide (1 < l0.length) = true := decide_eq_true (by omega)
                   clear c66
                   replace H := Option.bind_eq_some_iff.mp H
                   obtain ⟨⟨t649, t652⟩, A670, H⟩ := H
                   (try dsimp only at H)
                   have A67 := am A670
                   clear A670
                   have HC68 := am H
                   clear H
                   obtain ⟨ASz69_0, cSz69_0, HGz69, hgz69, ⟨HSz69_0, _⟩⟩ := HI623.out
                   have hcz69_0 := cellS94_0 HGz69
                   have hcz69_1 := cellS94_1 HGz69
                   have hcz69_2 := cellS94_2 HGz69
                   have hfz69_1 := blk_frozen HGz69 1
                   have hfz69_2 := blk_frozen HGz69 2
                   clear HGz69 hgz69
                   obtain ⟨i070, hi070, _, hsz70, _⟩ := info_parts info5
                   obtain ⟨A70, hcut70, hA70, hC70⟩ := print_mid_of (P := Try.prog) (Value.int .u8) 0 27 5 .i64 .i64 Try.underlying27 hi070 hsz70 (some ad622) c0 l0 t634 ji39 zo (by first | omega | exact zo) zo HC0.out
                   have HR643 := am (Kd.C_of_reads (h1 := fun _ => rfl) (hA70 _ (Kd.reads_of_C HR0.out)))
                   have HC643 := am hC70
                   clear hA70 hC70 hi070 hsz70
                   go_upto_region 25 with (first | ((with_reducible refine gate_callee (f := 66) rfl ?_); refine goesL_ (some 162) rfl rfl Try.func66 (by kernel_rfl) rfl #[.slice A70 ((l0.take (ji39 : Int).toNat).drop (t634 : Int).toNat).length (c0 - t634.toNat), .int .i64 t630] rfl (by (try simp only [List.map_toArray, List.map_cons, List.map_nil]); first | done | (rw [show ((l0.take (ji39 : Int).toNat).drop (t634 : Int).toNat).length = (ji39.toNat - t634.toNat) from (by rw [List.length_drop, List.length_take]; have h_ : (ji39 : Int) ≤ (l0.length : Int) := zo; omega)] <;> rfl) | (simp only [hji39]; rfl) | rfl | (simp only [List.length_drop, List.length_take]; rfl)) ?_; (with_reducible refine (j11_Unpack.calls kj42 _ _ ((l0.take (ji39 : Int).toNat).drop (t634 : Int).toNat) t630 t644 t645 _ ?side1 ?side2 A65.out).mono ?_); (case side1 => exact zC ((Kd.C_below HR643.out HB.out))); (case side2 => exact HC643.out); rintro e w71 ⟨v646, rfl, ho0, hb⟩; refine ⟨_, rfl, ?_⟩; have HO647 := am (Kd.R_lower ho0 (below_size y2)); replace BK621 := zk BK621 hb; replace HB := am (below_step y2 hb); replace HI623 := am (IsS94.below y5 hb); clear hb ho0; have p648 : 0 ≤ (1 : Int) := (by omega); have q648 : 1 < (l0.length : Int) := zo; obtain ⟨ad648, e648, hx648_0⟩ := Kd.at_int HR0.out 1 p648 q648; obtain rfl : ad622 = ad648 := (by injection e648); (try simp only [show (1 : Int).toNat = 1 from rfl, Nat.reduceMul, Nat.reduceEqDiff, Go.Addr.add, ↓reduceIte] at hx648_0); have qi648 : (1 < l0.length) = True := eq_true (by omega); (try rw [show ((1 : Int)).toNat = 1 from rfl] at hx648_0); replace hx648_0 := zx HB hx648_0; replace p648 := eq_true p648; replace q648 := eq_true q648; obtain ⟨Ao72, co72, eo72⟩ := Kd.R_slice HO647.out; subst eo72) | ((with_reducible refine gate_callee (f := 67) rfl ?_); refine goesL_ (some 172) rfl rfl Try.func67 (by kernel_rfl) rfl #[.slice Ao72 t644.length co72, .int .i64 (wrap64 (rd l0 1)), .int .i64 t627] rfl zg ?_; (with_reducible refine (j11_records.calls kj42 (fun k_ => some k_ = (.slice Ao72 t644.length co72 : Value).ownBlock) _ _ t644 (wrap64 (rd l0 1)) t627 t649 t652 _ ?side1 A67.out).mono ?_); (case side1 => exact Kd.R_V (Kd.R_tight rfl (IsS94.apart HI623.out (Kd.R_types (HO647.out) BK621.out (by decide)) (by decide)))); rintro e w73 ⟨v650, rfl, ho0, hb⟩; refine ⟨_, rfl, ?_⟩; replace HO647 := am (Kd.R_below (zR HO647.out) hb); have HO651 := am (Kd.S_lower (Kd.S_mono (ok' := fun k_ => True) ho0 (fun _ hk_ => trivial)) (below_size y2)); replace BK621 := zk BK621 hb; replace HB := am (below_step y2 hb); replace HI623 := am (IsS94.below y5 hb); clear hb ho0; have p653 : 0 ≤ (1 : Int) := (by omega); have q653 : 1 < (l0.length : Int) := zo; obtain ⟨ad653, e653, hx653_0⟩ := Kd.at_int HR0.out 1 p653 q653; obtain rfl : ad622 = ad653 := (by injection e653); (try simp only [show (1 : Int).toNat = 1 from rfl, Nat.reduceMul, Nat.reduceEqDiff, Go.Addr.add, ↓reduceIte] at hx653_0); have qi653 : (1 < l0.length) = True := eq_true (by omega); (try rw [show ((1 : Int)).toNat = 1 from rfl] at hx653_0); replace hx653_0 := zx HB hx653_0; replace p653 := eq_true p653; replace q653 := eq_true q653; obtain ⟨Ao74, co74, eo74⟩ := Kd.S_slice HO651.out; subst eo74) | ((with_reducible refine gate_dst (N := 16) rfl ?_); refine zB 16 #[.int .i64 0, .int .i64 0, .slice none 0 0] 42 ?_; intro gb654 hg w75 hbox hb; replace HO647 := am (Kd.R_below (zR HO647.out) hb); replace HO651 := am (Kd.S_below (zS HO651.out) hb); have BK654 := am (hbox); have GE654 := am ((by rw [hg]; exact (below_size y2) : w.heap.size ≤ gb654)); replace HB := am (below_step y2 hb); have NB621_654 := zn hg BK621; have NB654_621 := zm hg BK621; replace BK621 := zk BK621 hb; have NB623_654 := am ((by rw [hg]; exact Nat.ne_of_lt (IsS94.lt (show IsS94 w _ gb623 l0 t634 t635 from by repeat (first | (with_reducible first | exact HI623.out | apply IsS94.alloc | apply IsS94.drewN | apply IsS94.drew | apply IsS94.set_1 | apply IsS94.set_2 | refine IsS94.far ?_ NB623_621.out _) | exact HI623.out))) : gb623 ≠ gb654)); have NB654_623 := am ((by rw [hg]; exact Nat.ne_of_gt (IsS94.lt (show IsS94 w _ gb623 l0 t634 t635 from by repeat (first | (with_reducible first | exact HI623.out | apply IsS94.alloc | apply IsS94.drewN | apply IsS94.drew | apply IsS94.set_1 | apply IsS94.set_2 | refine IsS94.far ?_ NB623_621.out _) | exact HI623.out))) : gb654 ≠ gb623)); replace HI623 := am (IsS94.below y5 hb); clear hb hbox hg; have hnb76 := NB654_621.out; have hnc76 := NB621_654.out; have hnb77 := NB654_623.out; have hnc77 := NB623_654.out; obtain ⟨hcz78_0, hcz78_1, hcz78_2⟩ := zc3 BK654; obtain ⟨hfz78_0, hfz78_1, hfz78_2⟩ := zf3 BK654))
                   (try simp only [Act.put, List.setIfInBounds_toArray, List.set_cons_zero, List.set_cons_succ])
                   go_cut [187] (fun v187 wc => ∃ (kq : Nat) (x187_67 : Bool), v187 = .bool x187_67 ∧ Aside0 (j11_Decode.j2 kq l0 ji39 x187_67 (wrap64 (rd l0 1)) t624 t649 = some (r1, r2, r3, r4, r5)) ∧ Aside0 (kq ≤ kj42) ∧ Aside0 (Kd.S k26 26 wc w.heap.size (fun _ => True) (.slice Ao74 t649.length co74) t649) ∧ Aside0 (wc.heap[gb621]? = some (.cells #[.int .i64 0, .int .i64 0, (.slice none 0 0)] 42 (0, 0))) ∧ Aside0 (wc.heap[gb654]? = some (.cells #[.int .i64 (wrap64 (rd l0 1)), .int .i64 t624, (.slice Ao74 t649.length co74)] 42 (0, 0))) ∧ Aside0 (Below w.heap.size w wc))
                   case first =>
                    as_aux_lemma =>
                     have H := HC68.out
                     clear HC68
                     by_cases c79 : t645 = 0
                     ·
                      rw [if_pos c79] at H
                      obtain ⟨c79b0, c79b1⟩ := zt c79
                      clear c79
                      (first | rw [c79b0] | (simp only [i64_w, i32_w]; rw [c79b0]) | skip)
                      have H' := am H
                      clear H
                      go_wp2
                      go_meet
                      case rel => exact ⟨_, (!t652), zr, H', ⟨by have := HJ14.out; have := HJ42.out; first | omega | exact Nat.le_refl _⟩, ⟨by (with_reducible repeat (first | apply Kd.S_alloc | apply Kd.S_drewN | apply Kd.S_drew)); exact Kd.S_mono (Kd.S_far (p := ⟨gb654, 2, none⟩) (Kd.S_far (p := ⟨gb654, 1, none⟩) (Kd.S_far (p := ⟨gb654, 0, none⟩) (Kd.S_types HO651.out BK654.out (by decide)) (fun _ hk => hk.2) (.int .i64 (wrap64 (rd l0 1)))) (fun _ hk => hk.2) (.int .i64 t624)) (fun _ hk => hk.2) (.slice Ao74 t649.length co74)) (fun _ hk => trivial)⟩, ⟨by refine zu ?_; refine blk_far ?_ NB621_654.out _; refine zu ?_; refine blk_far ?_ NB621_654.out _; refine zu ?_; refine blk_far ?_ NB621_654.out _; refine zu ?_; exact BK621.out⟩, ⟨by refine zu ?_; refine blk_put (cs := #[.int .i64 (wrap64 (rd l0 1)), .int .i64 t624, .slice none 0 0]) ?_ 2 _ rfl; refine zu ?_; refine blk_put (cs := #[.int .i64 (wrap64 (rd l0 1)), .int .i64 0, .slice none 0 0]) ?_ 1 _ rfl; refine zu ?_; refine blk_put (cs := #[.int .i64 0, .int .i64 0, .slice none 0 0]) ?_ 0 _ rfl; refine zu ?_; exact BK654.out⟩, ⟨by repeat (first | (with_reducible first | exact HB.out | apply below_alloc | apply pw_below_drewN | apply below_drew1 | refine below_set ?_ (IsS94.ge HI623.out) | refine below_set ?_ GE621.out | refine below_set ?_ GE654.out) | exact HB.out)⟩⟩
                     ·
                      rw [if_neg c79] at H
                      obtain ⟨c79b0, c79b1⟩ := zs c79
                      (first | rw [c79b0] | (simp only [i64_w, i32_w]; rw [c79b0]) | skip)
                      have H' := am H
                      clear H
                      go_wp2
                      go_meet
                      case rel => exact ⟨_, (true), zr, H', ⟨by have := HJ14.out; have := HJ42.out; first | omega | exact Nat.le_refl _⟩, ⟨by (with_reducible repeat (first | apply Kd.S_alloc | apply Kd.S_drewN | apply Kd.S_drew)); exact Kd.S_mono (Kd.S_far (p := ⟨gb654, 2, none⟩) (Kd.S_far (p := ⟨gb654, 1, none⟩) (Kd.S_far (p := ⟨gb654, 0, none⟩) (Kd.S_types HO651.out BK654.out (by decide)) (fun _ hk => hk.2) (.int .i64 (wrap64 (rd l0 1)))) (fun _ hk => hk.2) (.int .i64 t624)) (fun _ hk => hk.2) (.slice Ao74 t649.length co74)) (fun _ hk => trivial)⟩, ⟨by refine zu ?_; refine blk_far ?_ NB621_654.out _; refine zu ?_; refine blk_far ?_ NB621_654.out _; refine zu ?_; refine blk_far ?_ NB621_654.out _; refine zu ?_; exact BK621.out⟩, ⟨by refine zu ?_; refine blk_put (cs := #[.int .i64 (wrap64 (rd l0 1)), .int .i64 t624, .slice none 0 0]) ?_ 2 _ rfl; refine zu ?_; refine blk_put (cs := #[.int .i64 (wrap64 (rd l0 1)), .int .i64 0, .slice none 0 0]) ?_ 1 _ rfl; refine zu ?_; refine blk_put (cs := #[.int .i64 0, .int .i64 0, .slice none 0 0]) ?_ 0 _ rfl; refine zu ?_; exact BK654.out⟩, ⟨by repeat (first | (with_reducible first | exact HB.out | apply below_alloc | apply pw_below_drewN | apply below_drew1 | refine below_set ?_ (IsS94.ge HI623.out) | refine below_set ?_ GE621.out | refine below_set ?_ GE654.out) | exact HB.out)⟩⟩
                   case rest =>
                    clear HC68
                    obtain ⟨kq, x187_67, rfl, HA, HJ67, HO_655002, BK621, BK654, HB⟩ := hcut
                    cases kq with
                    | zero => exact absurd HA.out (by simp [j11_Decode.j2])
                    | succ kj67 =>
                     have H := HA.out
                     clear HA
                     simp only [j11_Decode.j2] at H
                     by_cases c80 : x187_67 = true
                     ·
                      subst c80
                      have H1 : (some (0, 0, ([] : List (S26)), 0, 11)) = some (r1, r2, r3, r4, r5) := by rw [if_pos rfl] at H; exact H
                      clear H
                      have H := H1
                      clear H1
                      simp only [Option.some.injEq, Prod.mk.injEq] at H
                      obtain ⟨rfl, rfl, rfl, rfl, rfl⟩ := H
                      have hnb81 := NB621_654.out
                      have hnc81 := NB654_621.out
                      obtain ⟨_, _, _, _, _, _⟩ := zq3 BK621
                      go_wp2
                      exact y11
                     ·
                      replace c80 := Bool.eq_false_iff.mpr c80
                      subst c80
                      have H1 : ((j11_Encode.f kj67 (wrap64 (rd l0 1)) t624 t649).bind fun bt655 => (if bt655.2 = 0 then (if 0 ≤ (wrap64 (ji39 + 4)) then (if (wrap64 (ji39 + 4)) ≤ (l0.length : Int) then ((j11_SameBytes.f kj67 bt655.1 (l0.take ((wrap64 (ji39 + 4)) : Int).toNat)).bind fun t660 => (if t660 = true then (some ((wrap64 (rd l0 1)), t624, t649, wrap64 (ji39 + 4), 0)) else (some (0, 0, ([] : List (S26)), 0, 11)))) else (none)) else (none)) else (some (0, 0, ([] : List (S26)), 0, 11)))) = some (r1, r2, r3, r4, r5) := by rw [if_neg (show ¬ (false = true) by decide)] at H; exact H
                      clear H
                      have H := H1
                      clear H1
                      replace H := Option.bind_eq_some_iff.mp H
                      obtain ⟨⟨t655, t658⟩, A830, H⟩ := H
                      (try dsimp only at H)
                      have A83 := am A830
                      clear A830
                      by_cases c84 : t658 = 0
                      ·
                       rw [if_pos c84] at H
                       obtain ⟨c84b0, c84b1⟩ := zt c84
                       clear c84
                       obtain ⟨ji85, hji85⟩ : ∃ j_ : Int, (wrap64 (ji39 + 4)) = j_ := ⟨_, rfl⟩
                       (first | rw [hji85] at H | simp only [hji85] at H)
                       (try rw [hji85] at A83)
                       have hji85w : (IntKind.i64.wrap (ji39 + 4)) = ji85 := (i64_w _).trans hji85
                       by_cases c86 : 0 ≤ (ji85)
                       ·
                        rw [if_pos c86] at H
                        have c86b0 := eq_true c86
                        have c86b1 : decide (0 ≤ (ji85)) = true := decide_eq_true c86
                        clear c86
                        by_cases c87 : (ji85) ≤ (l0.length : Int)
                        ·
                         rw [if_pos c87] at H
                         have c87b0 := eq_true c87
                         have c87b1 : decide ((ji85) ≤ (l0.length : Int)) = true := decide_eq_true c87
                         clear c87
                         replace H := Option.bind_eq_some_iff.mp H
                         obtain ⟨t660, A880, H⟩ := H
                         (try dsimp only at H)
                         have A88 := am A880
                         clear A880
                         by_cases c89 : t660 = true
                         ·
                          subst c89
                          have H1 : (some ((wrap64 (rd l0 1)), t624, t649, ji85, 0)) = some (r1, r2, r3, r4, r5) := by rw [if_pos rfl] at H; exact H
                          clear H
                          have H := H1
                          clear H1
                          simp only [Option.some.injEq, Prod.mk.injEq] at H
                          obtain ⟨rfl, rfl, rfl, rfl, rfl⟩ := H
                          have hnb90 := NB654_621.out
                          have hnc90 := NB621_654.out
                          obtain ⟨_, _, _, _, _, _⟩ := zq3 BK654
                          go_wp2_with (first | ((with_reducible refine gate_callee (f := 22) rfl ?_); refine goesL_ (some 191) rfl rfl Try.func22 (by kernel_rfl) rfl #[.agg #[.int .i64 (wrap64 (rd l0 1)), .int .i64 t624, .slice Ao74 t649.length co74]] rfl zg ?_; (with_reducible refine (j11_Encode.calls kj67 (wrap64 (rd l0 1)) t624 _ _ t649 t655 t658 _ ?side1 ?side2 A83.out).mono ?_); (case side1 => exact zC ((Kd.S_reads' HO_655002.out).2.2)); (case side2 => exact (Kd.S_reads' HO_655002.out).2.1); rintro e w92 ⟨v656, rfl, ho0, hb⟩; refine ⟨_, rfl, ?_⟩; replace HO_655002 := am (Kd.S_below (zS HO_655002.out) hb); have HO657 := am (Kd.R_lower ho0 (below_size (zb HB))); replace BK621 := zk BK621 hb; replace BK654 := zk BK654 hb; replace HB := am (below_step (zb HB) hb); clear hb ho0; obtain ⟨i093, hi093, _, hsz93, _⟩ := info_parts info5; obtain ⟨hcut93, hA93, hC93⟩ := print_take_of (P := Try.prog) (Value.int .u8) 0 27 5 .i64 Try.underlying27 hi093 hsz93 (some ad622) c0 l0 (ji85) zo zo HC0.out; have HR659 := am (Kd.C_of_reads (h1 := fun _ => rfl) (hA93 _ (Kd.reads_of_C HR0.out))); have HC659 := am hC93; clear hA93 hC93 hi093 hsz93; obtain ⟨Ao94, co94, eo94⟩ := Kd.R_slice HO657.out; subst eo94) | (go_at_call 18; rw [show (ji85 : Int).toNat = (l0.take ((ji85 : Int).toNat)).length from by rw [List.length_take]; have h_ : (ji85 : Int) ≤ (l0.length : Int) := zo; omega]; (with_reducible refine (j11_SameBytes.calls kj67 _ _ t655 _ _ (l0.take ((ji85) : Int).toNat) true _ ?side1 ?side2 ?side3 ?side4 A88.out).mono ?_); (case side1 => exact zC ((Kd.R_reads' HO657.out).2.2)); (case side2 => exact (Kd.R_reads' HO657.out).2.1); (case side3 => exact zC ((Kd.C_below HR659.out HB.out))); (case side4 => exact HC659.out); rintro e w' ⟨rfl, ⟨nd, rfl⟩⟩; (try (rw [drewN_self w92]; generalize hq_ : World.drewN w92 _ = w92; have n0_ : Aside0 (Kd.R (Kd.int .u8) 5 w92 w.heap.size (fun _ => True) (.slice Ao94 t655.length co94) t655) := ⟨by rw [← hq_]; exact (zR HO657.out)⟩; have n1_ : Aside0 (Kd.S k26 26 w92 w.heap.size (fun _ => True) (.slice Ao74 t649.length co74) t649) := ⟨by rw [← hq_]; exact (zS HO_655002.out)⟩; have n2_ : Aside0 (w92.heap[gb621]? = some (.cells #[.int .i64 0, .int .i64 0, .slice none 0 0] 42 (0, 0))) := ⟨by rw [← hq_]; exact (zu BK621.out)⟩; have n3_ : Aside0 (w92.heap[gb654]? = some (.cells #[.int .i64 (wrap64 (rd l0 1)), .int .i64 t624, .slice Ao74 t649.length co74] 42 (0, 0))) := ⟨by rw [← hq_]; exact (zu BK654.out)⟩; have n4_ : Aside0 (Below w.heap.size w w92) := ⟨by rw [← hq_]; exact (zb HB)⟩; clear HO657 HO_655002 BK621 BK654 HB hq_; have HO657 := n0_; have HO_655002 := n1_; have BK621 := n2_; have BK654 := n3_; have HB := n4_; clear n0_ n1_ n2_ n3_ n4_)); obtain ⟨_, _, _, _, _, _⟩ := zq3 BK654; obtain ⟨_, _, _, _, _, _⟩ := zq3 BK621))
                          refine bodyPost_ret (results_ctt rfl _ _ gb621 42 #[.int .i64 (wrap64 (rd l0 1)), .int .i64 t624, .slice Ao74 t649.length co74] (0, 0) _ rfl (by refine zu ?_; refine blk_put (cs := #[.int .i64 (wrap64 (rd l0 1)), .int .i64 t624, .slice none 0 0]) ?_ 2 _ rfl; refine zu ?_; refine blk_put (cs := #[.int .i64 (wrap64 (rd l0 1)), .int .i64 0, .slice none 0 0]) ?_ 1 _ rfl; refine zu ?_; refine blk_put (cs := #[.int .i64 0, .int .i64 0, .slice none 0 0]) ?_ 0 _ rfl; refine zu ?_; exact BK621.out) Try.underlying42 rfl (by kernel_rfl)) rfl ?_
                          exact ⟨_, by first | rfl | (simp [errW_none, errW_some] <;> rfl) | (simp only [← hji39, ← hji85]; first | rfl | (simp [errW_none, errW_some] <;> rfl)) | (simp [*, errW_none, errW_some] <;> rfl), by (with_reducible repeat (first | apply Kd.S_alloc | apply Kd.S_drewN | apply Kd.S_drew)); exact Kd.S_mono (Kd.S_far (p := ⟨gb621, 2, none⟩) (Kd.S_far (p := ⟨gb621, 1, none⟩) (Kd.S_far (p := ⟨gb621, 0, none⟩) (Kd.S_types HO_655002.out BK621.out (by decide)) (fun _ hk => hk.2) (.int .i64 (wrap64 (rd l0 1)))) (fun _ hk => hk.2) (.int .i64 t624)) (fun _ hk => hk.2) (.slice Ao74 t649.length co74)) (fun _ hk => trivial), zb HB⟩
                         ·
                          replace c89 := Bool.eq_false_iff.mpr c89
                          subst c89
                          have H1 : (some (0, 0, ([] : List (S26)), 0, 11)) = some (r1, r2, r3, r4, r5) := by rw [if_neg (show ¬ (false = true) by decide)] at H; exact H
                          clear H
                          have H := H1
                          clear H1
                          simp only [Option.some.injEq, Prod.mk.injEq] at H
                          obtain ⟨rfl, rfl, rfl, rfl, rfl⟩ := H
                          have hnb97 := NB654_621.out
                          have hnc97 := NB621_654.out
                          obtain ⟨_, _, _, _, _, _⟩ := zq3 BK654
                          go_wp2_with (first | ((with_reducible refine gate_callee (f := 22) rfl ?_); refine goesL_ (some 191) rfl rfl Try.func22 (by kernel_rfl) rfl #[.agg #[.int .i64 (wrap64 (rd l0 1)), .int .i64 t624, .slice Ao74 t649.length co74]] rfl zg ?_; (with_reducible refine (j11_Encode.calls kj67 (wrap64 (rd l0 1)) t624 _ _ t649 t655 t658 _ ?side1 ?side2 A83.out).mono ?_); (case side1 => exact zC ((Kd.S_reads' HO_655002.out).2.2)); (case side2 => exact (Kd.S_reads' HO_655002.out).2.1); rintro e w99 ⟨v656, rfl, ho0, hb⟩; refine ⟨_, rfl, ?_⟩; replace HO_655002 := am (Kd.S_below (zS HO_655002.out) hb); have HO657 := am (Kd.R_lower ho0 (below_size (zb HB))); replace BK621 := zk BK621 hb; replace BK654 := zk BK654 hb; replace HB := am (below_step (zb HB) hb); clear hb ho0; obtain ⟨i0100, hi0100, _, hsz100, _⟩ := info_parts info5; obtain ⟨hcut100, hA100, hC100⟩ := print_take_of (P := Try.prog) (Value.int .u8) 0 27 5 .i64 Try.underlying27 hi0100 hsz100 (some ad622) c0 l0 (ji85) zo zo HC0.out; have HR659 := am (Kd.C_of_reads (h1 := fun _ => rfl) (hA100 _ (Kd.reads_of_C HR0.out))); have HC659 := am hC100; clear hA100 hC100 hi0100 hsz100; obtain ⟨Ao101, co101, eo101⟩ := Kd.R_slice HO657.out; subst eo101) | (go_at_call 18; rw [show (ji85 : Int).toNat = (l0.take ((ji85 : Int).toNat)).length from by rw [List.length_take]; have h_ : (ji85 : Int) ≤ (l0.length : Int) := zo; omega]; (with_reducible refine (j11_SameBytes.calls kj67 _ _ t655 _ _ (l0.take ((ji85) : Int).toNat) false _ ?side1 ?side2 ?side3 ?side4 A88.out).mono ?_); (case side1 => exact zC ((Kd.R_reads' HO657.out).2.2)); (case side2 => exact (Kd.R_reads' HO657.out).2.1); (case side3 => exact zC ((Kd.C_below HR659.out HB.out))); (case side4 => exact HC659.out); rintro e w' ⟨rfl, ⟨nd, rfl⟩⟩; (try (rw [drewN_self w99]; generalize hq_ : World.drewN w99 _ = w99; have n0_ : Aside0 (Kd.R (Kd.int .u8) 5 w99 w.heap.size (fun _ => True) (.slice Ao101 t655.length co101) t655) := ⟨by rw [← hq_]; exact (zR HO657.out)⟩; have n1_ : Aside0 (Kd.S k26 26 w99 w.heap.size (fun _ => True) (.slice Ao74 t649.length co74) t649) := ⟨by rw [← hq_]; exact (zS HO_655002.out)⟩; have n2_ : Aside0 (w99.heap[gb621]? = some (.cells #[.int .i64 0, .int .i64 0, .slice none 0 0] 42 (0, 0))) := ⟨by rw [← hq_]; exact (zu BK621.out)⟩; have n3_ : Aside0 (w99.heap[gb654]? = some (.cells #[.int .i64 (wrap64 (rd l0 1)), .int .i64 t624, .slice Ao74 t649.length co74] 42 (0, 0))) := ⟨by rw [← hq_]; exact (zu BK654.out)⟩; have n4_ : Aside0 (Below w.heap.size w w99) := ⟨by rw [← hq_]; exact (zb HB)⟩; clear HO657 HO_655002 BK621 BK654 HB hq_; have HO657 := n0_; have HO_655002 := n1_; have BK621 := n2_; have BK654 := n3_; have HB := n4_; clear n0_ n1_ n2_ n3_ n4_)); obtain ⟨_, _, _, _, _, _⟩ := zq3 BK621))
                          refine bodyPost_ret (results_ctt rfl _ _ gb621 42 #[.int .i64 0, .int .i64 0, .slice none 0 0] (0, 0) _ rfl y1 Try.underlying42 rfl (by kernel_rfl)) rfl ?_
                          exact ⟨_, by first | rfl | (simp [errW_none, errW_some] <;> rfl) | (simp only [← hji39, ← hji85]; first | rfl | (simp [errW_none, errW_some] <;> rfl)) | (simp [*, errW_none, errW_some] <;> rfl), by first | exact Kd.S_nil _ _ _ _ _ | exact Kd.N_nil _ _ _ _ _ | exact Kd.V_nil _ _ _ _ _ | exact Kd.Q_nil _ _ _ _ _ | exact Kd.R_nil _ _ _ _ _, zb HB⟩
                        ·
                         rw [if_neg c87] at H
                         exact absurd H (by simp)
                       ·
                        rw [if_neg c86] at H
                        exact absurd H (by simp)
                      ·
                       rw [if_neg c84] at H
                       obtain ⟨c84b0, c84b1⟩ := zs c84
                       simp only [Option.some.injEq, Prod.mk.injEq] at H
                       obtain ⟨rfl, rfl, rfl, rfl, rfl⟩ := H
                       have hnb103 := NB654_621.out
                       have hnc103 := NB621_654.out
                       obtain ⟨_, _, _, _, _, _⟩ := zq3 BK654
                       go_wp2_with (first | ((with_reducible refine gate_callee (f := 22) rfl ?_); refine goesL_ (some 191) rfl rfl Try.func22 (by kernel_rfl) rfl #[.agg #[.int .i64 (wrap64 (rd l0 1)), .int .i64 t624, .slice Ao74 t649.length co74]] rfl zg ?_; (with_reducible refine (j11_Encode.calls kj67 (wrap64 (rd l0 1)) t624 _ _ t649 t655 t658 _ ?side1 ?side2 A83.out).mono ?_); (case side1 => exact zC ((Kd.S_reads' HO_655002.out).2.2)); (case side2 => exact (Kd.S_reads' HO_655002.out).2.1); rintro e w105 ⟨v656, rfl, ho0, hb⟩; refine ⟨_, rfl, ?_⟩; replace HO_655002 := am (Kd.S_below (zS HO_655002.out) hb); have HO657 := am (Kd.R_lower ho0 (below_size (zb HB))); replace BK621 := zk BK621 hb; replace BK654 := zk BK654 hb; replace HB := am (below_step (zb HB) hb); clear hb ho0; obtain ⟨_, _, _, _, _, _⟩ := zq3 BK621))
                       exact y11
                  ·
                   rw [if_neg c66] at H
                   exact absurd H (by simp)
                 ·
                  rw [if_neg c64] at H
                  exact absurd H (by simp)
                ·
                 rw [if_neg c63] at H
                 exact absurd H (by simp)
               ·
                rw [if_neg c62] at H
                exact absurd H (by simp)
           ·
            rw [if_neg c41] at H
            exact absurd H (by simp)
          ·
           rw [if_neg c40] at H
           exact absurd H (by simp)
     ·
      rw [if_neg c14] at H
      obtain ⟨c14b0, c14b1⟩ := zs c14
      simp only [Option.some.injEq, Prod.mk.injEq] at H
      obtain ⟨rfl, rfl, rfl, rfl, rfl⟩ := H
      go_enter Try.func30, Try.ntmps30
      try go_wp2_with (first | ((with_reducible refine gate_dst (N := 2) rfl ?_); refine zB 2 #[.int .i64 0, .int .i64 0, .slice none 0 0] 42 ?_; intro gb621 hg w107 hbox hb; have BK621 := am (hbox); have GE621 := zG hg (zb HB); replace HB := am (below_step (zb HB) hb); clear hb hbox hg; have p622 : 0 ≤ (0 : Int) := (by omega); have q622 : 0 < (l0.length : Int) := zo; obtain ⟨ad622, e622, hx622_0⟩ := Kd.at_int HR0.out 0 p622 q622; cases e622; have qi622 : (0 < l0.length) = True := eq_true (by omega); (try rw [show ((0 : Int)).toNat = 0 from rfl] at hx622_0); (try rw [Addr.add_zero'] at hx622_0); replace hx622_0 := zx HB hx622_0; replace p622 := eq_true p622; replace q622 := eq_true q622) | ((with_reducible refine gate_dst (N := 34) rfl ?_); refine zB 34 #[.slice (some ad622) l0.length c0, .int .i64 2, .int .i64 0] 94 ?_; intro gb623 hg w108 hbox hb; have BK623 := am (hbox); have GE623 := zG hg (zb HB); replace HB := am (below_step (zb HB) hb); have NB621_623 := zn hg BK621; have NB623_621 := zm hg BK621; replace BK621 := zk BK621 hb; clear hb hbox hg; have HI623 := am (show IsS94 w w108 gb623 l0 2 0 from ⟨_, _, BK623.out, GE623.out, ⟨HR0.out, HC0.out⟩⟩)) | ((with_reducible refine gate_callee (f := 47) rfl ?_); refine goesL_ (some 36) rfl rfl Try.func47 (by kernel_rfl) rfl #[.pointer (some ⟨gb623, 0, none⟩)] rfl zg ?_; (with_reducible refine (j11_reader_num.calls k gb623 l0 2 0 t624 t625 t626 w _ ?side1 ?side2 A10.out).mono ?_); (case side1 => exact y5); (case side2 => exact y2); rintro e w109 ⟨rfl, hi, hb, hk⟩; refine ⟨_, rfl, ?_⟩; replace BK621 := am (KeepBut.blk hk (g' := gb621) (o := .cells #[.int .i64 0, .int .i64 0, .slice none 0 0] 42 (0, 0)) (zu BK621.out) NB621_623.out (by simp)); replace HB := am (hb); replace HI623 := am (hi); clear hb hk hi) | ((with_reducible refine gate_callee (f := 47) rfl ?_); refine goesL_ (some 38) rfl rfl Try.func47 (by kernel_rfl) rfl #[.pointer (some ⟨gb623, 0, none⟩)] rfl zg ?_; (with_reducible refine (j11_reader_num.calls k gb623 l0 t625 t626 t627 t628 t629 w _ ?side1 ?side2 A11.out).mono ?_); (case side1 => exact y5); (case side2 => exact y2); rintro e w110 ⟨rfl, hi, hb, hk⟩; refine ⟨_, rfl, ?_⟩; replace BK621 := am (KeepBut.blk hk (g' := gb621) (o := .cells #[.int .i64 0, .int .i64 0, .slice none 0 0] 42 (0, 0)) (zu BK621.out) NB621_623.out (by simp)); replace HB := am (hb); replace HI623 := am (hi); clear hb hk hi) | ((with_reducible refine gate_callee (f := 47) rfl ?_); refine goesL_ (some 40) rfl rfl Try.func47 (by kernel_rfl) rfl #[.pointer (some ⟨gb623, 0, none⟩)] rfl zg ?_; (with_reducible refine (j11_reader_num.calls k gb623 l0 t628 t629 t630 t631 t632 w _ ?side1 ?side2 A12.out).mono ?_); (case side1 => exact y5); (case side2 => exact y2); rintro e w111 ⟨rfl, hi, hb, hk⟩; refine ⟨_, rfl, ?_⟩; replace BK621 := am (KeepBut.blk hk (g' := gb621) (o := .cells #[.int .i64 0, .int .i64 0, .slice none 0 0] 42 (0, 0)) (zu BK621.out) NB621_623.out (by simp)); replace HB := am (hb); replace HI623 := am (hi); clear hb hk hi) | ((with_reducible refine gate_callee (f := 47) rfl ?_); refine goesL_ (some 42) rfl rfl Try.func47 (by kernel_rfl) rfl #[.pointer (some ⟨gb623, 0, none⟩)] rfl zg ?_; (with_reducible refine (j11_reader_num.calls k gb623 l0 t631 t632 t633 t634 t635 w _ ?side1 ?side2 A13.out).mono ?_); (case side1 => exact y5); (case side2 => exact y2); rintro e w112 ⟨rfl, hi, hb, hk⟩; refine ⟨_, rfl, ?_⟩; replace BK621 := am (KeepBut.blk hk (g' := gb621) (o := .cells #[.int .i64 0, .int .i64 0, .slice none 0 0] 42 (0, 0)) (zu BK621.out) NB621_623.out (by simp)); replace HB := am (hb); replace HI623 := am (hi); clear hb hk hi; obtain ⟨ASz113_0, cSz113_0, HGz113, hgz113, ⟨HSz113_0, _⟩⟩ := HI623.out; have hcz113_0 := cellS94_0 HGz113; have hcz113_1 := cellS94_1 HGz113; have hcz113_2 := cellS94_2 HGz113; have hfz113_1 := blk_frozen HGz113 1; have hfz113_2 := blk_frozen HGz113 2; clear HGz113 hgz113; obtain ⟨Asz114_0, csz114_0, hsz114_, _⟩ := (show IsS94 w w112 gb623 l0 t634 t635 from by repeat (first | (with_reducible first | exact HI623.out | apply IsS94.alloc | apply IsS94.drewN | apply IsS94.drew | apply IsS94.set_1 | apply IsS94.set_2 | refine IsS94.far ?_ NB623_621.out _) | exact HI623.out)); have BKzz114 := am hsz114_; clear hsz114_))
      replace BK621 := am (blk_drew BK621.out)
      replace BKzz114 := am (blk_drew BKzz114.out)
      replace HB := am (below_drew1 HB.out)
      refine start_ (n := 8) (S := fun w' => w'.cell? ⟨gb623, 0, none⟩ = some (.slice Asz114_0 l0.length csz114_0) ∧ w'.cell? ⟨gb623, 1, none⟩ = some (.int .i64 t634) ∧ w'.cell? ⟨gb623, 2, none⟩ = some (.int .i64 t635)) (ds := []) #[false, false, false, false, false, false, false, false] (by kernel_rfl) rfl rfl ⟨(blk_cell BKzz114.out 0).trans rfl, (blk_cell BKzz114.out 1).trans rfl, (blk_cell BKzz114.out 2).trans rfl⟩ (fun hHeld => ?_); refine with_tabW j11_Decode.tab13 j11_Decode.bits13 (fun HT_ HW_ => ?_)
      generalize w112.drew = w115 at BK621 BKzz114 HB hHeld ⊢
      refine zp (i := 0) (N := some 48) #[true, false, false, false, false, false, false, false] (any_of HT_.out (by kernel_rfl)) ?_
      refine zp (i := 1) (N := some 49) #[true, true, false, false, false, false, false, false] (any_of HT_.out (by kernel_rfl)) ?_
      refine zp (i := 2) (N := some 50) #[true, true, true, false, false, false, false, false] (any_of HT_.out (by kernel_rfl)) ?_
      refine zp (i := 3) (N := some 51) #[true, true, true, true, false, false, false, false] (any_of HT_.out (by kernel_rfl)) ?_
      refine take_ (i := 4) (N := some 52) (v := ?_) (a' := ?_) #[true, true, true, true, true, false, false, false] rfl rfl (take_ofW HT_.out HW_.out (by kernel_rfl)) (fun _ _ _ h => h) (Or.inl ⟨by rfl, ?_⟩) hHeld ?_ ?_
      rotate_left
      ·
       rintro w' ⟨s0, s1, s2⟩
       go_simp
       with_reducible rfl
      rotate_left
      ·
       simp only [Act.put, List.setIfInBounds_toArray, List.set_cons_zero, List.set_cons_succ, i64_w, i32_w]
       rfl
      refine one_ (i := 5) (N := none) #[true, true, true, true, true, true, false, false] rfl rfl (one_of HT_.out (by kernel_rfl)) (by decide) (fun K hK => ?_)
      have hs116 : w115.cell? ⟨gb621, 0, none⟩ = some (.int .i64 0) := (blk_cell BK621.out 0).trans rfl
      have hfs116 := blk_frozen BK621.out 0
      have hns116_1 := NB623_621.out
      have hms116_1 := NB621_623.out
      have hs117 : w115.cell? ⟨gb621, 1, none⟩ = some (.int .i64 0) := (blk_cell BK621.out 1).trans rfl
      have hfs117 := blk_frozen BK621.out 1
      have hns117_1 := NB623_621.out
      have hms117_1 := NB621_623.out
      have hs118 : w115.cell? ⟨gb621, 2, none⟩ = some (.slice none 0 0) := (blk_cell BK621.out 2).trans rfl
      have hfs118 := blk_frozen BK621.out 2
      have hns118_1 := NB623_621.out
      have hms118_1 := NB621_623.out
      refine skip_ (w1 := ?_) (by rfl) rfl ?_ ?_
      rotate_left
      ·
       go_simp
       rfl
      refine hK.out _ _ ⟨((cell_far (p := ⟨gb621, _, none⟩) NB623_621.out _).trans (((cell_far (p := ⟨gb621, _, none⟩) NB623_621.out _).trans (((cell_far (p := ⟨gb621, _, none⟩) NB623_621.out _).trans (hHeld.1)))))), ((cell_far (p := ⟨gb621, _, none⟩) NB623_621.out _).trans (((cell_far (p := ⟨gb621, _, none⟩) NB623_621.out _).trans (((cell_far (p := ⟨gb621, _, none⟩) NB623_621.out _).trans (hHeld.2.1)))))), ((cell_far (p := ⟨gb621, _, none⟩) NB623_621.out _).trans (((cell_far (p := ⟨gb621, _, none⟩) NB623_621.out _).trans (((cell_far (p := ⟨gb621, _, none⟩) NB623_621.out _).trans (hHeld.2.2))))))⟩ (fun hHeld => ?_)
      clear hK K
      refine zp (i := 6) (N := some 3) #[true, true, true, true, true, true, true, false] (any_of HT_.out (by kernel_rfl)) ?_
      refine zp (i := 7) (N := some 4) #[true, true, true, true, true, true, true, true] (any_of HT_.out (by kernel_rfl)) ?_
      refine done_ (done_of HT_.out (by kernel_rfl)) ?_
      try go_wp2
      exact y3
   ·
    rw [if_neg c6] at H
    obtain ⟨c6b0, c6b1⟩ := zs c6
    simp only [Option.some.injEq, Prod.mk.injEq] at H
    obtain ⟨rfl, rfl, rfl, rfl, rfl⟩ := H
    go_enter Try.func30, Try.ntmps30
    go_wp2_with (first | ((with_reducible refine gate_dst (N := 2) rfl ?_); refine zB 2 #[.int .i64 0, .int .i64 0, .slice none 0 0] 42 ?_; intro gb621 hg w119 hbox hb; have BK621 := am (hbox); have GE621 := zG hg (zb HB); replace HB := am (below_step (zb HB) hb); clear hb hbox hg; have p622 : 0 ≤ (0 : Int) := (by omega); have q622 : 0 < (l0.length : Int) := zo; obtain ⟨ad622, e622, hx622_0⟩ := Kd.at_int HR0.out 0 p622 q622; cases e622; have qi622 : (0 < l0.length) = True := eq_true (by omega); (try rw [show ((0 : Int)).toNat = 0 from rfl] at hx622_0); (try rw [Addr.add_zero'] at hx622_0); replace hx622_0 := zx HB hx622_0; replace p622 := eq_true p622; replace q622 := eq_true q622; obtain ⟨_, _, _, _, _, _⟩ := zq3 BK621))
    exact y3
  ·
   rw [if_neg c5] at H
   exact absurd H (by simp)
end Go.Proofs.Ytnmmkgagbfniiaa.A
end
