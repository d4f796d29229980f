/- MCollectBlocks11: texts of this session and of the kit's printer on the road to the statement CollectBlocks, laid into one and rid of what it doesn't need. No condition beyond what each fact names. -/
import Derived.Test.YtnmmkgagbfniiaaMCollectBlocks3
import Derived.Test.YtnmmkgagbfniiaaMCollectBlocks2
import Derived.Test.YtnmmkgagbfniiaaMCollectBlocks5
import Derived.Test.YtnmmkgagbfniiaaMCollectBlocks6
import Derived.Test.YtnmmkgagbfniiaaMCollectBlocks7
import Derived.Test.YtnmmkgagbfniiaaMCollectBlocks8
import Derived.Test.YtnmmkgagbfniiaaMCollectBlocks10
section
namespace Go.Proofs.Ytnmmkgagbfniiaa.A
open Go.RowKit Go.Proofs.YtnmmkgagbfniiaaW.PrintWords Go.Proofs.YtnmmkgagbfniiaaW.PrintLast Go.Proofs.YtnmmkgagbfniiaaW.PrintMore
attribute [local go_sem] max2_int min2_int max_two min_two max_three min_three max_four min_four
set_option linter.unusedVariables false
set_option linter.unusedSimpArgs false
attribute [local go_sem high] eqA97
theorem ow_arrayAt {P : Program} {t n e : Nat} (hu : P.underlying t = some (.array n e)) (a : Option Addr) (len cap : Nat) (h : ¬ len < n) (w : World) : (Instr.arrayAt t (.slice a len cap)).run P w = .ok (.pointer a) w := by
 simp [Instr.arrayAt, run_underlying hu, h]
def block_Decode.f (k : Nat) (l0 : List Int) : Option (Int × Int × (List (S26)) × Int × Int) := (block_open.f k l0).bind fun bt556 => (if bt556.2.2.2.2.2.2 = 0 then (if (l0.length : Int) < (wrap64 ((wrap64 (bt556.2.2.2.2.2.1 + bt556.2.2.2.2.1)) + 4)) then (some (0, 0, ([] : List (S26)), 0, 9)) else (if 0 ≤ (wrap64 (bt556.2.2.2.2.2.1 + bt556.2.2.2.2.1)) then (if (wrap64 (bt556.2.2.2.2.2.1 + bt556.2.2.2.2.1)) ≤ (wrap64 ((wrap64 (bt556.2.2.2.2.2.1 + bt556.2.2.2.2.1)) + 4)) then (if (wrap64 ((wrap64 (bt556.2.2.2.2.2.1 + bt556.2.2.2.2.1)) + 4)) ≤ (l0.length : Int) then (if 3 < (((l0.take ((wrap64 ((wrap64 (bt556.2.2.2.2.2.1 + bt556.2.2.2.2.1)) + 4)) : Int).toNat).drop ((wrap64 (bt556.2.2.2.2.2.1 + bt556.2.2.2.2.1)) : Int).toNat).length : Int) then (if (wrap64 (bt556.2.2.2.2.2.1 + bt556.2.2.2.2.1)) ≤ (l0.length : Int) then ((block_seal.f k (l0.take ((wrap64 (bt556.2.2.2.2.2.1 + bt556.2.2.2.2.1)) : Int).toNat)).bind fun bt570 => (if (!((rd ((l0.take ((wrap64 ((wrap64 (bt556.2.2.2.2.2.1 + bt556.2.2.2.2.1)) + 4)) : Int).toNat).drop ((wrap64 (bt556.2.2.2.2.2.1 + bt556.2.2.2.2.1)) : Int).toNat) 0) == bt570.1) || (!((rd ((l0.take ((wrap64 ((wrap64 (bt556.2.2.2.2.2.1 + bt556.2.2.2.2.1)) + 4)) : Int).toNat).drop ((wrap64 (bt556.2.2.2.2.2.1 + bt556.2.2.2.2.1)) : Int).toNat) 1) == bt570.2.1) || (!((rd ((l0.take ((wrap64 ((wrap64 (bt556.2.2.2.2.2.1 + bt556.2.2.2.2.1)) + 4)) : Int).toNat).drop ((wrap64 (bt556.2.2.2.2.2.1 + bt556.2.2.2.2.1)) : Int).toNat) 2) == bt570.2.2.1) || (!((rd ((l0.take ((wrap64 ((wrap64 (bt556.2.2.2.2.2.1 + bt556.2.2.2.2.1)) + 4)) : Int).toNat).drop ((wrap64 (bt556.2.2.2.2.2.1 + bt556.2.2.2.2.1)) : Int).toNat) 3) == bt570.2.2.2))))) = true then (some (0, 0, ([] : List (S26)), 0, 10)) else (if 0 ≤ bt556.2.2.2.2.2.1 then (if bt556.2.2.2.2.2.1 ≤ (wrap64 (bt556.2.2.2.2.2.1 + bt556.2.2.2.2.1)) then ((block_records.f k bt556.1 bt556.2.1 bt556.2.2.1 bt556.2.2.2.1 bt556.2.2.2.2.1 bt556.2.2.2.2.2.1 ((l0.take ((wrap64 (bt556.2.2.2.2.2.1 + bt556.2.2.2.2.1)) : Int).toNat).drop (bt556.2.2.2.2.2.1 : Int).toNat)).bind fun bt575 => (if bt575.2.2.2 = true then ((block_Encode.f k bt575.1 bt575.2.1 bt575.2.2.1).bind fun bt582 => (if bt582.2 = 0 then (if 0 ≤ (wrap64 ((wrap64 (bt556.2.2.2.2.2.1 + bt556.2.2.2.2.1)) + 4)) then ((slices_Equal_byte_byte.f k bt582.1 (l0.take ((wrap64 ((wrap64 (bt556.2.2.2.2.2.1 + bt556.2.2.2.2.1)) + 4)) : Int).toNat)).bind fun t587 => (if t587 = true then (some (bt575.1, bt575.2.1, bt575.2.2.1, wrap64 ((wrap64 (bt556.2.2.2.2.2.1 + bt556.2.2.2.2.1)) + 4), 0)) else (some (0, 0, ([] : List (S26)), 0, 11)))) else (none)) else (some (0, 0, ([] : List (S26)), 0, 11)))) else (some (0, 0, ([] : List (S26)), 0, 11)))) else (none)) else (none)))) else (none)) else (none)) else (none)) else (none)) else (none))) else (some (0, 0, ([] : List (S26)), 0, bt556.2.2.2.2.2.2)))
theorem block_Decode.mono : ∀ a0 k, LeO (block_Decode.f k a0) (block_Decode.f (k + 1) a0) := by
 intro a0 k
 unfold block_Decode.f
 exact zM
def block_Decode.T7 : Bool × List (List Nat × List Nat) := (true, [([], []), ([], []), ([], []), ([2], [2]), ([0, 1, 3], [0, 1, 3]), ([4], [4]), ([5], [5]), ([], []), ([], []), ([7, 8], [7, 8]), ([9], [9]), ([6, 10], [6, 10])])
def block_Decode.B7 : List Nat := [0, 0, 0, 4, 15, 31, 63, 0, 0, 384, 896, 2047]
theorem block_Decode.tab7 : rtab .any (opsOf Try.f29 7) = block_Decode.T7 := by kernel_rfl
theorem block_Decode.bits7 : waitsOk block_Decode.T7.2 block_Decode.B7 = true := by kernel_rfl
def block_Decode.T9 : Bool × List (List Nat × List Nat) := (true, [([], []), ([], []), ([], []), ([2], [2]), ([], []), ([1, 3, 4], [1, 3, 4]), ([0, 5], [0, 5]), ([6], [6]), ([7], [7]), ([7], [7]), ([], []), ([10, 8, 6, 0, 1, 2, 3, 4, 5, 6, 7, 8, 10], [8, 10]), ([9, 11, 0, 1, 2, 3, 4, 5, 6, 7, 8, 9, 10, 11], [9])])
def block_Decode.B9 : List Nat := [0, 0, 0, 4, 0, 30, 63, 127, 255, 255, 0, 1535, 4095]
theorem block_Decode.tab9 : rtab .any (opsOf Try.f29 9) = block_Decode.T9 := by kernel_rfl
theorem block_Decode.bits9 : waitsOk block_Decode.T9.2 block_Decode.B9 = true := by kernel_rfl
set_option maxHeartbeats 8000000 in
set_option maxRecDepth 100000 in
theorem block_Decode.calls (k : Nat) (A0 : Option Addr) (c0 : Nat) (l0 : List Int) (r1 : Int) (r2 : Int) (r3 : List (S26)) (r4 : Int) (r5 : Int) (w : World) (hr0 : Kd.C (Kd.int .u8) w A0 l0.length l0) (hc0 : l0.length ≤ c0) (h : block_Decode.f k l0 = some (r1, r2, r3, r4, r5)) :
  Calls Try.prog 29 #[.slice A0 l0.length c0] w fun e w' => ∃ v2_ : Value, e = .returned (.tuple #[.agg #[.int .i64 r1, .int .i64 r2, v2_], .int .i64 r4, .int .i64 r5]) ∧ Kd.S k26 26 w' w.heap.size (fun _ => True) v2_ r3 ∧ Below w.heap.size w w' := by
 have hu42 := Try.underlying42
 have hu114 := Try.underlying114
 have hu97 := Try.underlying97
 have HR0 := am hr0
 have HC0 := am hc0
 clear hr0 hc0
 have HB := am (Below.refl w.heap.size w)
 have H : ((block_open.f k l0).bind fun bt556 => (if bt556.2.2.2.2.2.2 = 0 then (if (l0.length : Int) < (wrap64 ((wrap64 (bt556.2.2.2.2.2.1 + bt556.2.2.2.2.1)) + 4)) then (some (0, 0, ([] : List (S26)), 0, 9)) else (if 0 ≤ (wrap64 (bt556.2.2.2.2.2.1 + bt556.2.2.2.2.1)) then (if (wrap64 (bt556.2.2.2.2.2.1 + bt556.2.2.2.2.1)) ≤ (wrap64 ((wrap64 (bt556.2.2.2.2.2.1 + bt556.2.2.2.2.1)) + 4)) then (if (wrap64 ((wrap64 (bt556.2.2.2.2.2.1 + bt556.2.2.2.2.1)) + 4)) ≤ (l0.length : Int) then (if 3 < (((l0.take ((wrap64 ((wrap64 (bt556.2.2.2.2.2.1 + bt556.2.2.2.2.1)) + 4)) : Int).toNat).drop ((wrap64 (bt556.2.2.2.2.2.1 + bt556.2.2.2.2.1)) : Int).toNat).length : Int) then (if (wrap64 (bt556.2.2.2.2.2.1 + bt556.2.2.2.2.1)) ≤ (l0.length : Int) then ((block_seal.f k (l0.take ((wrap64 (bt556.2.2.2.2.2.1 + bt556.2.2.2.2.1)) : Int).toNat)).bind fun bt570 => (if (!((rd ((l0.take ((wrap64 ((wrap64 (bt556.2.2.2.2.2.1 + bt556.2.2.2.2.1)) + 4)) : Int).toNat).drop ((wrap64 (bt556.2.2.2.2.2.1 + bt556.2.2.2.2.1)) : Int).toNat) 0) == bt570.1) || (!((rd ((l0.take ((wrap64 ((wrap64 (bt556.2.2.2.2.2.1 + bt556.2.2.2.2.1)) + 4)) : Int).toNat).drop ((wrap64 (bt556.2.2.2.2.2.1 + bt556.2.2.2.2.1)) : Int).toNat) 1) == bt570.2.1) || (!((rd ((l0.take ((wrap64 ((wrap64 (bt556.2.2.2.2.2.1 + bt556.2.2.2.2.1)) + 4)) : Int).toNat).drop ((wrap64 (bt556.2.2.2.2.2.1 + bt556.2.2.2.2.1)) : Int).toNat) 2) == bt570.2.2.1) || (!((rd ((l0.take ((wrap64 ((wrap64 (bt556.2.2.2.2.2.1 + bt556.2.2.2.2.1)) + 4)) : Int).toNat).drop ((wrap64 (bt556.2.2.2.2.2.1 + bt556.2.2.2.2.1)) : Int).toNat) 3) == bt570.2.2.2))))) = true then (some (0, 0, ([] : List (S26)), 0, 10)) else (if 0 ≤ bt556.2.2.2.2.2.1 then (if bt556.2.2.2.2.2.1 ≤ (wrap64 (bt556.2.2.2.2.2.1 + bt556.2.2.2.2.1)) then ((block_records.f k bt556.1 bt556.2.1 bt556.2.2.1 bt556.2.2.2.1 bt556.2.2.2.2.1 bt556.2.2.2.2.2.1 ((l0.take ((wrap64 (bt556.2.2.2.2.2.1 + bt556.2.2.2.2.1)) : Int).toNat).drop (bt556.2.2.2.2.2.1 : Int).toNat)).bind fun bt575 => (if bt575.2.2.2 = true then ((block_Encode.f k bt575.1 bt575.2.1 bt575.2.2.1).bind fun bt582 => (if bt582.2 = 0 then (if 0 ≤ (wrap64 ((wrap64 (bt556.2.2.2.2.2.1 + bt556.2.2.2.2.1)) + 4)) then ((slices_Equal_byte_byte.f k bt582.1 (l0.take ((wrap64 ((wrap64 (bt556.2.2.2.2.2.1 + bt556.2.2.2.2.1)) + 4)) : Int).toNat)).bind fun t587 => (if t587 = true then (some (bt575.1, bt575.2.1, bt575.2.2.1, wrap64 ((wrap64 (bt556.2.2.2.2.2.1 + bt556.2.2.2.2.1)) + 4), 0)) else (some (0, 0, ([] : List (S26)), 0, 11)))) else (none)) else (some (0, 0, ([] : List (S26)), 0, 11)))) else (some (0, 0, ([] : List (S26)), 0, 11)))) else (none)) else (none)))) else (none)) else (none)) else (none)) else (none)) else (none))) else (some (0, 0, ([] : List (S26)), 0, bt556.2.2.2.2.2.2)))) = some (r1, r2, r3, r4, r5) := h
 clear h
 replace H := Option.bind_eq_some_iff.mp H
 obtain ⟨⟨t556, t557, t558, t559, t560, t561, t562⟩, A20, H⟩ := H
 (try dsimp only at H)
 have A2 := am A20
 clear A20
 by_cases c3 : t562 = 0
 ·
  rw [if_pos c3] at H
  obtain ⟨c3b0, c3b1⟩ := zt c3
  clear c3
  by_cases c4 : (l0.length : Int) < (wrap64 ((wrap64 (t561 + t560)) + 4))
  ·
   rw [if_pos c4] at H
   have c4b0 := decide_eq_true c4
   clear c4
   simp only [Option.some.injEq, Prod.mk.injEq] at H
   obtain ⟨rfl, rfl, rfl, rfl, rfl⟩ := H
   go_enter Try.func29, Try.ntmps29
   go_wp2_with (first | ((with_reducible refine gate_dst (N := 2) rfl ?_); refine zB 2 #[.int .i64 0, .int .i64 0, .slice none 0 0] 42 ?_; intro gb555 hg w5 hbox hb; have BK555 := am (hbox); have GE555 := zG hg (zb HB); replace HB := am (below_step (zb HB) hb); clear hb hbox hg) | ((with_reducible refine gate_callee (f := 63) rfl ?_); refine goesL_ (some 13) rfl rfl Try.func63 (by kernel_rfl) rfl #[.slice A0 l0.length c0] rfl zg ?_; (with_reducible refine (block_open.calls k _ _ l0 t556 t557 t558 t559 t560 t561 t562 _ ?side1 ?side2 A2.out).mono ?_); (case side1 => exact y66); (case side2 => exact HC0.out); rintro e w6 ⟨rfl, hb⟩; refine ⟨_, rfl, ?_⟩; replace BK555 := zk BK555 hb; replace HB := am (below_step (zb HB) hb); clear hb) | ((with_reducible refine gate_dst (N := 5) rfl ?_); refine zB 5 #[.int .u8 0, .int .i64 0, .int .i64 0, .int .i64 0, .int .i64 0, .int .i64 0] 114 ?_; intro gb563 hg w7 hbox hb; have BK563 := am (hbox); have GE563 := zG hg (zb HB); replace HB := am (below_step (zb HB) hb); have NB555_563 := zn hg BK555; have NB563_555 := zm hg BK555; replace BK555 := zk BK555 hb; clear hb hbox hg; have hnb8 := NB563_555.out; have hnc8 := NB555_563.out; obtain ⟨_, _, _, _, _, _, _, _, _, _, _, _⟩ := zq6 BK563; obtain ⟨_, _, _, _, _, _⟩ := zq3 BK555))
   exact y7
  ·
   rw [if_neg c4] at H
   have c4b0 := decide_eq_false c4
   clear c4
   obtain ⟨ji11, hji11⟩ : ∃ j_ : Int, (wrap64 (t561 + t560)) = j_ := ⟨_, rfl⟩
   (first | rw [hji11] at H | simp only [hji11] at H)
   (try rw [hji11] at c4b0)
   (try rw [hji11] at A2)
   have hji11w : (IntKind.i64.wrap (t561 + t560)) = ji11 := (i64_w _).trans hji11
   by_cases c12 : 0 ≤ (ji11)
   ·
    rw [if_pos c12] at H
    have c12b0 := eq_true c12
    have c12b1 : decide (0 ≤ (ji11)) = true := decide_eq_true c12
    clear c12
    by_cases c13 : (ji11) ≤ (wrap64 ((ji11) + 4))
    ·
     rw [if_pos c13] at H
     have c13b0 := eq_true c13
     have c13b1 : decide ((ji11) ≤ (wrap64 ((ji11) + 4))) = true := decide_eq_true c13
     by_cases c14 : (wrap64 ((ji11) + 4)) ≤ (l0.length : Int)
     ·
      rw [if_pos c14] at H
      have c14b0 := eq_true c14
      have c14b1 : decide ((wrap64 ((ji11) + 4)) ≤ (l0.length : Int)) = true := decide_eq_true c14
      by_cases c15 : 3 < (((l0.take ((wrap64 ((ji11) + 4)) : Int).toNat).drop ((ji11) : Int).toNat).length : Int)
      ·
       rw [if_pos c15] at H
       have c15b0 := decide_eq_true c15
       have c15b1 : decide (3 < ((l0.take ((wrap64 ((ji11) + 4)) : Int).toNat).drop ((ji11) : Int).toNat).length) = true := decide_eq_true (by omega)
       clear c15
       have c16b0 := eq_true (zo : 0 ≤ (ji11))
       by_cases c17 : (ji11) ≤ (l0.length : Int)
       ·
        rw [if_pos c17] at H
        have c17b0 := eq_true c17
        have c17b1 : decide ((ji11) ≤ (l0.length : Int)) = true := decide_eq_true c17
        clear c17
        replace H := Option.bind_eq_some_iff.mp H
        obtain ⟨⟨t570, t571, t572, t573⟩, A180, H⟩ := H
        (try dsimp only at H)
        have A18 := am A180
        clear A180
        have HH_ := am H
        clear H
        go_enter Try.func29, Try.ntmps29
        try go_wp2_with (first | ((with_reducible refine gate_dst (N := 2) rfl ?_); refine zB 2 #[.int .i64 0, .int .i64 0, .slice none 0 0] 42 ?_; intro gb555 hg w120 hbox hb; have BK555 := am (hbox); have GE555 := zG hg (zb HB); replace HB := am (below_step (zb HB) hb); clear hb hbox hg) | ((with_reducible refine gate_callee (f := 63) rfl ?_); refine goesL_ (some 13) rfl rfl Try.func63 (by kernel_rfl) rfl #[.slice A0 l0.length c0] rfl zg ?_; (with_reducible refine (block_open.calls k _ _ l0 t556 t557 t558 t559 t560 t561 t562 _ ?side1 ?side2 A2.out).mono ?_); (case side1 => exact y66); (case side2 => exact HC0.out); rintro e w121 ⟨rfl, hb⟩; refine ⟨_, rfl, ?_⟩; replace BK555 := zk BK555 hb; replace HB := am (below_step (zb HB) hb); clear hb) | ((with_reducible refine gate_dst (N := 5) rfl ?_); refine zB 5 #[.int .u8 0, .int .i64 0, .int .i64 0, .int .i64 0, .int .i64 0, .int .i64 0] 114 ?_; intro gb563 hg w122 hbox hb; have BK563 := am (hbox); have GE563 := zG hg (zb HB); replace HB := am (below_step (zb HB) hb); have NB555_563 := zn hg BK555; have NB563_555 := zm hg BK555; replace BK555 := zk BK555 hb; clear hb hbox hg; have hnb123 := NB563_555.out; have hnc123 := NB555_563.out; obtain ⟨_, _, _, _, _, _, _, _, _, _, _, _⟩ := zq6 BK563))
        have n0_ : Aside0 (((((((w122.setCell ⟨gb563, 0, none⟩ (.int .u8 t556)).setCell ⟨gb563, 1, none⟩ (.int .i64 t557)).setCell ⟨gb563, 2, none⟩ (.int .i64 t558)).setCell ⟨gb563, 3, none⟩ (.int .i64 t559)).setCell ⟨gb563, 4, none⟩ (.int .i64 t560)).setCell ⟨gb563, 5, none⟩ (.int .i64 t561)).heap[gb555]? = some (.cells #[.int .i64 0, .int .i64 0, .slice none 0 0] 42 (0, 0))) := ⟨by refine zu ?_; refine blk_far ?_ NB555_563.out _; refine zu ?_; refine blk_far ?_ NB555_563.out _; refine zu ?_; refine blk_far ?_ NB555_563.out _; refine zu ?_; refine blk_far ?_ NB555_563.out _; refine zu ?_; refine blk_far ?_ NB555_563.out _; refine zu ?_; refine blk_far ?_ NB555_563.out _; refine zu ?_; exact BK555.out⟩
        have n1_ : Aside0 (((((((w122.setCell ⟨gb563, 0, none⟩ (.int .u8 t556)).setCell ⟨gb563, 1, none⟩ (.int .i64 t557)).setCell ⟨gb563, 2, none⟩ (.int .i64 t558)).setCell ⟨gb563, 3, none⟩ (.int .i64 t559)).setCell ⟨gb563, 4, none⟩ (.int .i64 t560)).setCell ⟨gb563, 5, none⟩ (.int .i64 t561)).heap[gb563]? = some (.cells #[.int .u8 t556, .int .i64 t557, .int .i64 t558, .int .i64 t559, .int .i64 t560, .int .i64 t561] 114 (0, 0))) := ⟨by refine zu ?_; refine blk_put (cs := #[.int .u8 t556, .int .i64 t557, .int .i64 t558, .int .i64 t559, .int .i64 t560, .int .i64 0]) ?_ 5 _ rfl; refine zu ?_; refine blk_put (cs := #[.int .u8 t556, .int .i64 t557, .int .i64 t558, .int .i64 t559, .int .i64 0, .int .i64 0]) ?_ 4 _ rfl; refine zu ?_; refine blk_put (cs := #[.int .u8 t556, .int .i64 t557, .int .i64 t558, .int .i64 0, .int .i64 0, .int .i64 0]) ?_ 3 _ rfl; refine zu ?_; refine blk_put (cs := #[.int .u8 t556, .int .i64 t557, .int .i64 0, .int .i64 0, .int .i64 0, .int .i64 0]) ?_ 2 _ rfl; refine zu ?_; refine blk_put (cs := #[.int .u8 t556, .int .i64 0, .int .i64 0, .int .i64 0, .int .i64 0, .int .i64 0]) ?_ 1 _ rfl; refine zu ?_; refine blk_put (cs := #[.int .u8 0, .int .i64 0, .int .i64 0, .int .i64 0, .int .i64 0, .int .i64 0]) ?_ 0 _ rfl; refine zu ?_; exact BK563.out⟩
        have n2_ : Aside0 (Below w.heap.size w ((((((w122.setCell ⟨gb563, 0, none⟩ (.int .u8 t556)).setCell ⟨gb563, 1, none⟩ (.int .i64 t557)).setCell ⟨gb563, 2, none⟩ (.int .i64 t558)).setCell ⟨gb563, 3, none⟩ (.int .i64 t559)).setCell ⟨gb563, 4, none⟩ (.int .i64 t560)).setCell ⟨gb563, 5, none⟩ (.int .i64 t561))) := ⟨zb HB⟩
        (try clear BK555)
        (try clear BK563)
        (try clear HB)
        generalize ((((((w122.setCell ⟨gb563, 0, none⟩ (.int .u8 t556)).setCell ⟨gb563, 1, none⟩ (.int .i64 t557)).setCell ⟨gb563, 2, none⟩ (.int .i64 t558)).setCell ⟨gb563, 3, none⟩ (.int .i64 t559)).setCell ⟨gb563, 4, none⟩ (.int .i64 t560)).setCell ⟨gb563, 5, none⟩ (.int .i64 t561)) = w125 at n0_ n1_ n2_ ⊢
        have BK555 := n0_
        have BK563 := n1_
        have HB := n2_
        clear n0_ n1_ n2_
        replace BK555 := am (blk_drew BK555.out)
        replace BK563 := am (blk_drew BK563.out)
        replace HB := am (below_drew1 HB.out)
        obtain ⟨i0127, hi0127, _, hsz127, _⟩ := info_parts info5
        obtain ⟨A127, hcut127, hA127, hC127⟩ := print_mid_of (P := Try.prog) (Value.int .u8) 0 27 5 .i64 .i64 Try.underlying27 hi0127 hsz127 A0 c0 l0 (ji11) (wrap64 ((ji11) + 4)) zo (by first | omega | exact zo) zo HC0.out
        have HR564 := am (Kd.C_of_reads (h1 := fun _ => rfl) (hA127 _ (Kd.reads_of_C HR0.out)))
        have HC564 := am hC127
        clear hA127 hC127 hi0127 hsz127
        have p565 : 0 ≤ (0 : Int) := (by omega)
        have q565 : 0 < (((l0.take ((wrap64 ((ji11) + 4)) : Int).toNat).drop ((ji11) : Int).toNat).length : Int) := y64
        obtain ⟨ad565, e565, hx565_0⟩ := Kd.at_int HR564.out 0 p565 q565
        have hw565_0 := hx565_0
        (try rw [show ((0 : Int)).toNat = 0 from rfl] at hw565_0)
        (try rw [show 0 * 1 = 0 from rfl] at hw565_0)
        (try rw [Addr.add_zero'] at hw565_0)
        cases e565
        have qi565 : (0 < ((l0.take ((wrap64 ((ji11) + 4)) : Int).toNat).drop ((ji11) : Int).toNat).length) = True := eq_true (by omega)
        (try rw [show ((0 : Int)).toNat = 0 from rfl] at hx565_0)
        (try rw [Addr.add_zero'] at hx565_0)
        replace hx565_0 := zx HB hx565_0
        replace p565 := eq_true p565
        replace q565 := eq_true q565
        have p566 : 0 ≤ (1 : Int) := (by omega)
        have q566 : 1 < (((l0.take ((wrap64 ((ji11) + 4)) : Int).toNat).drop ((ji11) : Int).toNat).length : Int) := y64
        obtain ⟨ad566, e566, hx566_0⟩ := Kd.at_int HR564.out 1 p566 q566
        have hw566_0 := hx566_0
        (try rw [show ((1 : Int)).toNat = 1 from rfl] at hw566_0)
        (try rw [show 1 * 1 = 1 from rfl] at hw566_0)
        (try simp only [Nat.reduceMul, Nat.reduceEqDiff, Go.Addr.add, ↓reduceIte] at hw566_0)
        obtain rfl : ad565 = ad566 := (by injection e566)
        (try simp only [show (1 : Int).toNat = 1 from rfl, Nat.reduceMul, Nat.reduceEqDiff, Go.Addr.add, ↓reduceIte] at hx566_0)
        have qi566 : (1 < ((l0.take ((wrap64 ((ji11) + 4)) : Int).toNat).drop ((ji11) : Int).toNat).length) = True := eq_true (by omega)
        (try rw [show ((1 : Int)).toNat = 1 from rfl] at hx566_0)
        replace hx566_0 := zx HB hx566_0
        replace p566 := eq_true p566
        replace q566 := eq_true q566
        have p567 : 0 ≤ (2 : Int) := (by omega)
        have q567 : 2 < (((l0.take ((wrap64 ((ji11) + 4)) : Int).toNat).drop ((ji11) : Int).toNat).length : Int) := y64
        obtain ⟨ad567, e567, hx567_0⟩ := Kd.at_int HR564.out 2 p567 q567
        have hw567_0 := hx567_0
        (try rw [show ((2 : Int)).toNat = 2 from rfl] at hw567_0)
        (try rw [show 2 * 1 = 2 from rfl] at hw567_0)
        (try simp only [Nat.reduceMul, Nat.reduceEqDiff, Go.Addr.add, ↓reduceIte] at hw567_0)
        obtain rfl : ad565 = ad567 := (by injection e567)
        (try simp only [show (2 : Int).toNat = 2 from rfl, Nat.reduceMul, Nat.reduceEqDiff, Go.Addr.add, ↓reduceIte] at hx567_0)
        have qi567 : (2 < ((l0.take ((wrap64 ((ji11) + 4)) : Int).toNat).drop ((ji11) : Int).toNat).length) = True := eq_true (by omega)
        (try rw [show ((2 : Int)).toNat = 2 from rfl] at hx567_0)
        replace hx567_0 := zx HB hx567_0
        replace p567 := eq_true p567
        replace q567 := eq_true q567
        have p568 : 0 ≤ (3 : Int) := (by omega)
        have q568 : 3 < (((l0.take ((wrap64 ((ji11) + 4)) : Int).toNat).drop ((ji11) : Int).toNat).length : Int) := zo
        obtain ⟨ad568, e568, hx568_0⟩ := Kd.at_int HR564.out 3 p568 q568
        have hw568_0 := hx568_0
        (try rw [show ((3 : Int)).toNat = 3 from rfl] at hw568_0)
        (try rw [show 3 * 1 = 3 from rfl] at hw568_0)
        (try simp only [Nat.reduceMul, Nat.reduceEqDiff, Go.Addr.add, ↓reduceIte] at hw568_0)
        obtain rfl : ad565 = ad568 := (by injection e568)
        (try simp only [show (3 : Int).toNat = 3 from rfl, Nat.reduceMul, Nat.reduceEqDiff, Go.Addr.add, ↓reduceIte] at hx568_0)
        have qi568 : (3 < ((l0.take ((wrap64 ((ji11) + 4)) : Int).toNat).drop ((ji11) : Int).toNat).length) = True := eq_true (by omega)
        (try rw [show ((3 : Int)).toNat = 3 from rfl] at hx568_0)
        replace hx568_0 := zx HB hx568_0
        replace p568 := eq_true p568
        replace q568 := eq_true q568
        obtain ⟨i0128, hi0128, _, hsz128, _⟩ := info_parts info5
        obtain ⟨hcut128, hA128, hC128⟩ := print_take_of (P := Try.prog) (Value.int .u8) 0 27 5 .i64 Try.underlying27 hi0128 hsz128 A0 c0 l0 (ji11) zo zo HC0.out
        have HR569 := am (Kd.C_of_reads (h1 := fun _ => rfl) (hA128 _ (Kd.reads_of_C HR0.out)))
        have HC569 := am hC128
        clear hA128 hC128 hi0128 hsz128
        have HLA_ := am (show ¬ (((wrap64 ((ji11) + 4)) : Int).toNat - ((ji11) : Int).toNat < 4) from by have h_ : 3 < (((l0.take ((wrap64 ((ji11) + 4)) : Int).toNat).drop ((ji11) : Int).toNat).length : Int) := zo; simp only [List.length_drop, List.length_take] at h_; omega)
        refine start_ (n := 12) (S := fun w' => w'.cell? ad565 = some (.int .u8 (rd ((l0.take ((wrap64 ((ji11) + 4)) : Int).toNat).drop ((ji11) : Int).toNat) 0)) ∧ w'.cell? ⟨ad565.block, ad565.off + 1, none⟩ = some (.int .u8 (rd ((l0.take ((wrap64 ((ji11) + 4)) : Int).toNat).drop ((ji11) : Int).toNat) 1)) ∧ w'.cell? ⟨ad565.block, ad565.off + 2, none⟩ = some (.int .u8 (rd ((l0.take ((wrap64 ((ji11) + 4)) : Int).toNat).drop ((ji11) : Int).toNat) 2)) ∧ w'.cell? ⟨ad565.block, ad565.off + 3, none⟩ = some (.int .u8 (rd ((l0.take ((wrap64 ((ji11) + 4)) : Int).toNat).drop ((ji11) : Int).toNat) 3))) (ds := []) #[false, false, false, false, false, false, false, false, false, false, false, false] (by kernel_rfl) rfl rfl ⟨(zx HB hw565_0), (zx HB hw566_0), (zx HB hw567_0), (zx HB hw568_0)⟩ (fun hHeld => ?_); refine with_tabW block_Decode.tab7 block_Decode.bits7 (fun HT_ HW_ => ?_)
        generalize w125.drew = w126 at BK555 BK563 HB HR564 HR569 hx565_0 hx566_0 hx567_0 hx568_0 hHeld ⊢
        refine zp (i := 0) (N := some 31) #[true, false, false, false, false, false, false, false, false, false, false, false] (any_of HT_.out (by kernel_rfl)) ?_
        refine zp (i := 1) (N := some 32) #[true, true, false, false, false, false, false, false, false, false, false, false] (any_of HT_.out (by kernel_rfl)) ?_
        refine zp (i := 2) (N := some 33) #[true, true, true, false, false, false, false, false, false, false, false, false] (any_of HT_.out (by kernel_rfl)) ?_
        refine zp (i := 3) (N := some 34) #[true, true, true, true, false, false, false, false, false, false, false, false] (any_of HT_.out (by kernel_rfl)) ?_
        refine zp (i := 4) (N := some 35) #[true, true, true, true, true, false, false, false, false, false, false, false] (any_of HT_.out (by kernel_rfl)) ?_
        refine pure_ (i := 5) (N := some 36) (v := ?_) (a' := ?_) #[true, true, true, true, true, true, false, false, false, false, false, false] rfl rfl (any_of HT_.out (by kernel_rfl)) (fun _ _ _ h => h) (Or.inl ⟨by rfl, ?_⟩) ?_ ?_
        rotate_left
        ·
         intro w'
         go_simp
         rw [ow_arrayAt Try.underlying97 _ _ _ HLA_.out, Result.andThen_ok]
        rotate_left
        ·
         simp only [Act.put, List.setIfInBounds_toArray, List.set_cons_zero, List.set_cons_succ, i64_w, i32_w]
         rfl
        refine zp (i := 7) (N := some 38) #[true, true, true, true, true, true, false, true, false, false, false, false] (any_of HT_.out (by kernel_rfl)) ?_
        refine zp (i := 8) (N := some 39) #[true, true, true, true, true, true, false, true, true, false, false, false] (any_of HT_.out (by kernel_rfl)) ?_
        refine zp (i := 9) (N := some 40) #[true, true, true, true, true, true, false, true, true, true, false, false] (any_of HT_.out (by kernel_rfl)) ?_
        refine take_ (i := 6) (N := some 37) (v := ?_) (a' := ?_) #[true, true, true, true, true, true, true, true, true, true, false, false] rfl rfl (take_ofW HT_.out HW_.out (by kernel_rfl)) (fun _ _ _ h => h) (Or.inl ⟨by rfl, ?_⟩) hHeld ?_ ?_
        rotate_left
        ·
         rintro w' ⟨s0, s1, s2, s3⟩
         go_simp
         with_reducible rfl
        rotate_left
        ·
         simp only [Act.put, List.setIfInBounds_toArray, List.set_cons_zero, List.set_cons_succ, i64_w, i32_w]
         rfl
        refine one_ (i := 10) (N := some 41) #[true, true, true, true, true, true, true, true, true, true, true, false] rfl rfl (one_of HT_.out (by kernel_rfl)) (by decide) (fun K hK => ?_)
        refine goes_ Try.func52 (by kernel_rfl) rfl #[.slice A0 (l0.take ((ji11) : Int).toNat).length c0] (by rfl) rfl rfl (by (try simp only [List.map_toArray, List.map_cons, List.map_nil]); first | done | (rw [show (l0.take ((ji11) : Int).toNat).length = (ji11).toNat from (by rw [List.length_take]; have h_ : ((ji11) : Int) ≤ (l0.length : Int) := zo; omega)] <;> rfl) | (simp only [hji11]; rfl) | rfl | (simp only [List.length_drop, List.length_take]; rfl)) ?_
        with_reducible refine (block_seal.calls k _ _ (l0.take ((ji11) : Int).toNat) t570 t571 t572 t573 _ ?side1 ?side2 A18.out).mono ?_
        (case side1 => exact zC ((Kd.C_below HR569.out HB.out)))
        (case side2 => exact HC569.out)
        rintro e w129 ⟨rfl, hb⟩
        refine ⟨_, rfl, ?_⟩
        replace BK555 := zk BK555 hb
        replace BK563 := zk BK563 hb
        replace HB := am (below_step (zb HB) hb)
        (try clear hb)
        (try clear hb2)
        (try clear hk)
        (try clear hi)
        refine hK.out _ _ ⟨(zx HB hw565_0), (zx HB hw566_0), (zx HB hw567_0), (zx HB hw568_0)⟩ (fun hHeld => ?_)
        clear hK K
        refine norm_ (a' := ?_) ?_ ?_
        rotate_left
        ·
         show Act.put _ (some 41) _ = _
         simp only [Act.put, List.setIfInBounds_toArray, List.set_cons_zero, List.set_cons_succ, i64_w, i32_w]
         rfl
        refine zp (i := 11) (N := some 42) #[true, true, true, true, true, true, true, true, true, true, true, true] (any_of HT_.out (by kernel_rfl)) ?_
        refine done_ (done_of HT_.out (by kernel_rfl)) ?_
        have H := HH_.out
        clear HH_
        by_cases c19 : (!((rd ((l0.take ((wrap64 ((ji11) + 4)) : Int).toNat).drop ((ji11) : Int).toNat) 0) == t570) || (!((rd ((l0.take ((wrap64 ((ji11) + 4)) : Int).toNat).drop ((ji11) : Int).toNat) 1) == t571) || (!((rd ((l0.take ((wrap64 ((ji11) + 4)) : Int).toNat).drop ((ji11) : Int).toNat) 2) == t572) || (!((rd ((l0.take ((wrap64 ((ji11) + 4)) : Int).toNat).drop ((ji11) : Int).toNat) 3) == t573))))) = true
        ·
         rw [if_pos c19] at H
         have c19b0 : (!((rd ((l0.take ((wrap64 ((ji11) + 4)) : Int).toNat).drop ((ji11) : Int).toNat) 0) == t570) || (!((rd ((l0.take ((wrap64 ((ji11) + 4)) : Int).toNat).drop ((ji11) : Int).toNat) 1) == t571) || (!((rd ((l0.take ((wrap64 ((ji11) + 4)) : Int).toNat).drop ((ji11) : Int).toNat) 2) == t572) || (!((rd ((l0.take ((wrap64 ((ji11) + 4)) : Int).toNat).drop ((ji11) : Int).toNat) 3) == t573))))) = true := c19
         clear c19
         rw [c19b0]
         simp only [Option.some.injEq, Prod.mk.injEq] at H
         obtain ⟨rfl, rfl, rfl, rfl, rfl⟩ := H
         obtain ⟨_, _, _, _, _, _⟩ := zq3 BK555
         try go_wp2
         exact y10
        ·
         rw [if_neg c19] at H
         have c19b0 : (!((rd ((l0.take ((wrap64 ((ji11) + 4)) : Int).toNat).drop ((ji11) : Int).toNat) 0) == t570) || (!((rd ((l0.take ((wrap64 ((ji11) + 4)) : Int).toNat).drop ((ji11) : Int).toNat) 1) == t571) || (!((rd ((l0.take ((wrap64 ((ji11) + 4)) : Int).toNat).drop ((ji11) : Int).toNat) 2) == t572) || (!((rd ((l0.take ((wrap64 ((ji11) + 4)) : Int).toNat).drop ((ji11) : Int).toNat) 3) == t573))))) = false := by simpa using c19
         clear c19
         rw [c19b0]
         by_cases c31 : 0 ≤ t561
         ·
          rw [if_pos c31] at H
          have c31b0 := eq_true c31
          have c31b1 : decide (0 ≤ t561) = true := decide_eq_true c31
          clear c31
          by_cases c32 : t561 ≤ (ji11)
          ·
           rw [if_pos c32] at H
           have c32b0 := eq_true c32
           have c32b1 : decide (t561 ≤ (ji11)) = true := decide_eq_true c32
           clear c32
           have c33b0 := eq_true (zo : (ji11) ≤ (l0.length : Int))
           replace H := Option.bind_eq_some_iff.mp H
           obtain ⟨⟨t575, t576, t577, t580⟩, A340, H⟩ := H
           (try dsimp only at H)
           have A34 := am A340
           clear A340
           have HH_ := am H
           clear H
           try go_wp2
           replace BK555 := am (blk_drew BK555.out)
           replace BK563 := am (blk_drew BK563.out)
           replace HB := am (below_drew1 HB.out)
           obtain ⟨i0131, hi0131, _, hsz131, _⟩ := info_parts info5
           obtain ⟨A131, hcut131, hA131, hC131⟩ := print_mid_of (P := Try.prog) (Value.int .u8) 0 27 5 .i64 .i64 Try.underlying27 hi0131 hsz131 A0 c0 l0 t561 (ji11) zo (by first | omega | exact zo) zo HC0.out
           have HR574 := am (Kd.C_of_reads (h1 := fun _ => rfl) (hA131 _ (Kd.reads_of_C HR0.out)))
           have HC574 := am hC131
           clear hA131 hC131 hi0131 hsz131
           refine start_ (n := 13) (S := fun w' => w'.cell? ⟨gb563, 0, none⟩ = some (.int .u8 t556) ∧ w'.cell? ⟨gb563, 1, none⟩ = some (.int .i64 t557) ∧ w'.cell? ⟨gb563, 2, none⟩ = some (.int .i64 t558) ∧ w'.cell? ⟨gb563, 3, none⟩ = some (.int .i64 t559) ∧ w'.cell? ⟨gb563, 4, none⟩ = some (.int .i64 t560) ∧ w'.cell? ⟨gb563, 5, none⟩ = some (.int .i64 t561)) (ds := []) #[false, false, false, false, false, false, false, false, false, false, false, false, false] (by kernel_rfl) rfl rfl ⟨(blk_cell BK563.out 0).trans rfl, (blk_cell BK563.out 1).trans rfl, (blk_cell BK563.out 2).trans rfl, (blk_cell BK563.out 3).trans rfl, (blk_cell BK563.out 4).trans rfl, (blk_cell BK563.out 5).trans rfl⟩ (fun hHeld => ?_); refine with_tabW block_Decode.tab9 block_Decode.bits9 (fun HT_ HW_ => ?_)
           generalize w129.drew = w130 at BK555 BK563 HB HR574 hHeld ⊢
           refine zp (i := 1) (N := some 46) #[false, true, false, false, false, false, false, false, false, false, false, false, false] (any_of HT_.out (by kernel_rfl)) ?_
           refine zp (i := 2) (N := some 47) #[false, true, true, false, false, false, false, false, false, false, false, false, false] (any_of HT_.out (by kernel_rfl)) ?_
           refine zp (i := 4) (N := some 49) #[false, true, true, false, true, false, false, false, false, false, false, false, false] (any_of HT_.out (by kernel_rfl)) ?_
           refine take_ (i := 0) (N := some 45) (v := ?_) (a' := ?_) #[true, true, true, false, true, false, false, false, false, false, false, false, false] rfl rfl (take_ofW HT_.out HW_.out (by kernel_rfl)) (fun _ _ _ h => h) (Or.inl ⟨by rfl, ?_⟩) hHeld ?_ ?_
           rotate_left
           ·
            rintro w' ⟨s0, s1, s2, s3, s4, s5⟩
            go_simp
            with_reducible rfl
           rotate_left
           ·
            simp only [Act.put, List.setIfInBounds_toArray, List.set_cons_zero, List.set_cons_succ, i64_w, i32_w]
            rfl
           refine take_ (i := 3) (N := some 48) (v := ?_) (a' := ?_) #[true, true, true, true, true, false, false, false, false, false, false, false, false] rfl rfl (take_ofW HT_.out HW_.out (by kernel_rfl)) (fun _ _ _ h => h) (Or.inl ⟨by rfl, ?_⟩) hHeld ?_ ?_
           rotate_left
           ·
            rintro w' ⟨s0, s1, s2, s3, s4, s5⟩
            go_simp
            with_reducible rfl
           rotate_left
           ·
            simp only [Act.put, List.setIfInBounds_toArray, List.set_cons_zero, List.set_cons_succ, i64_w, i32_w]
            rfl
           refine zp (i := 5) (N := some 50) #[true, true, true, true, true, true, false, false, false, false, false, false, false] (any_of HT_.out (by kernel_rfl)) ?_
           refine join_ (σ := Value × Nat) 2 #[true, true, true, true, true, true, true, true, true, true, true, false, false] (fun s_ => [(51, .tuple #[.agg #[.int .i64 t575, .int .i64 t576, s_.1], .bool t580]), (8, .pointer (some ⟨s_.2, 0, none⟩)), (44, .tuple #[.agg #[.int .i64 t575, .int .i64 t576, s_.1], .bool t580]), (52, .agg #[.int .i64 t575, .int .i64 t576, s_.1]), (53, .bool t580)]) (fun s_ w' => (w'.cell? ⟨gb563, 0, none⟩ = some (.int .u8 t556) ∧ w'.cell? ⟨gb563, 1, none⟩ = some (.int .i64 t557) ∧ w'.cell? ⟨gb563, 2, none⟩ = some (.int .i64 t558) ∧ w'.cell? ⟨gb563, 3, none⟩ = some (.int .i64 t559) ∧ w'.cell? ⟨gb563, 4, none⟩ = some (.int .i64 t560) ∧ w'.cell? ⟨gb563, 5, none⟩ = some (.int .i64 t561)) ∧ (Kd.S k26 26 w' w.heap.size (fun _ => True) s_.1 t577) ∧ (w'.heap[gb555]? = some (.cells #[.int .i64 0, .int .i64 0, .slice none 0 0] 42 (0, 0))) ∧ (w'.heap[gb563]? = some (.cells #[.int .u8 t556, .int .i64 t557, .int .i64 t558, .int .i64 t559, .int .i64 t560, .int .i64 t561] 114 (0, 0))) ∧ (w'.heap[s_.2]? = some (.cells #[.int .i64 0, .int .i64 0, .slice none 0 0] 42 (0, 0))) ∧ (w.heap.size ≤ s_.2) ∧ (w.heap.size ≤ s_.2) ∧ (gb555 ≠ s_.2) ∧ (s_.2 ≠ gb555) ∧ (gb563 ≠ s_.2) ∧ (s_.2 ≠ gb563) ∧ (Below w.heap.size w w')) ?_ ?_
           rotate_left
           ·
            intro hCont
            refine two_ (i := 6) (j := 10) (Ni := some 51) (Nj := some 8) #[true, true, true, true, true, true, true, false, false, false, false, false, false] #[true, true, true, true, true, true, false, false, false, false, true, false, false] rfl rfl rfl rfl (two_of HT_.out (by kernel_rfl)) (by decide) (by decide) (fun K hK => ?_) (fun K hK => ?_)
            ·
             skip
             refine goes_ Try.func64 (by kernel_rfl) rfl #[.agg #[.int .u8 t556, .int .i64 t557, .int .i64 t558, .int .i64 t559, .int .i64 t560, .int .i64 t561], .slice A131 ((l0.take ((ji11) : Int).toNat).drop (t561 : Int).toNat).length (c0 - t561.toNat)] (by rfl) rfl rfl y33 ?_
             with_reducible refine (block_records.calls k t556 t557 t558 t559 t560 t561 _ _ ((l0.take ((ji11) : Int).toNat).drop (t561 : Int).toNat) t575 t576 t577 t580 _ ?side1 ?side2 A34.out).mono ?_
             (case side1 => exact zC ((Kd.C_below HR574.out HB.out)))
             (case side2 => exact HC574.out)
             rintro e w132 ⟨v578, rfl, ho0, hb⟩
             refine ⟨_, rfl, ?_⟩
             have HO579 := am (Kd.S_lower ho0 (below_size (zb HB)))
             replace BK555 := zk BK555 hb
             replace BK563 := zk BK563 hb
             replace HB := am (below_step (zb HB) hb)
             (try clear hb)
             (try clear hb2)
             (try clear hk)
             (try clear hi)
             (try clear ho0)
             refine hK.out _ _ ⟨(blk_cell BK563.out 0).trans rfl, (blk_cell BK563.out 1).trans rfl, (blk_cell BK563.out 2).trans rfl, (blk_cell BK563.out 3).trans rfl, (blk_cell BK563.out 4).trans rfl, (blk_cell BK563.out 5).trans rfl⟩ (fun hHeld => ?_)
             clear hK K
             refine norm_ (a' := ?_) ?_ ?_
             rotate_left
             ·
              show Act.put _ (some 51) _ = _
              simp only [Act.put, List.setIfInBounds_toArray, List.set_cons_zero, List.set_cons_succ, i64_w, i32_w]
              rfl
             refine zp (i := 7) (N := some 44) #[true, true, true, true, true, true, true, true, false, false, false, false, false] (any_of HT_.out (by kernel_rfl)) ?_
             refine zp (i := 8) (N := some 52) #[true, true, true, true, true, true, true, true, true, false, false, false, false] (any_of HT_.out (by kernel_rfl)) ?_
             refine zp (i := 9) (N := some 53) #[true, true, true, true, true, true, true, true, true, true, false, false, false] (any_of HT_.out (by kernel_rfl)) ?_
             refine one_ (i := 10) (N := some 8) #[true, true, true, true, true, true, true, true, true, true, true, false, false] rfl rfl (one_of HT_.out (by kernel_rfl)) (by decide) (fun K hK => ?_)
             refine box_step ?hg (N := 8) ?hd (cs := #[.int .i64 0, .int .i64 0, .slice none 0 0]) (t := 42) ?hr ?_; (case hd => rfl); (case hg => rfl); (case hr => exact y28)
             intro gb581 hg w133 hbox hb
             replace HO579 := am (Kd.S_below (zS HO579.out) hb)
             have BK581 := am (hbox)
             have GE581 := zG hg (zb HB)
             replace HB := am (below_step (zb HB) hb)
             have NB555_581 := zn hg BK555
             have NB581_555 := zm hg BK555
             replace BK555 := zk BK555 hb
             have NB563_581 := zn hg BK563
             have NB581_563 := zm hg BK563
             replace BK563 := zk BK563 hb
             clear hb hbox hg
             refine hK.out _ _ ⟨(blk_cell BK563.out 0).trans rfl, (blk_cell BK563.out 1).trans rfl, (blk_cell BK563.out 2).trans rfl, (blk_cell BK563.out 3).trans rfl, (blk_cell BK563.out 4).trans rfl, (blk_cell BK563.out 5).trans rfl⟩ (fun hHeld => ?_)
             clear hK K
             refine norm_ (a' := ?_) ?_ ?_
             rotate_left
             ·
              show Act.put _ (some 8) _ = _
              simp only [Act.put, List.setIfInBounds_toArray, List.set_cons_zero, List.set_cons_succ, i64_w, i32_w]
              rfl
             exact norm_ y78 (hCont (v578, gb581) _ ⟨hHeld, (zS HO579.out), (zu BK555.out), (zu BK563.out), (zu BK581.out), GE581.out, GE581.out, NB555_581.out, NB581_555.out, NB563_581.out, NB581_563.out, (zb HB)⟩)
            ·
             skip
             refine box_step ?hg (N := 8) ?hd (cs := #[.int .i64 0, .int .i64 0, .slice none 0 0]) (t := 42) ?hr ?_; (case hd => rfl); (case hg => rfl); (case hr => exact y28)
             intro gb581 hg w132 hbox hb
             have BK581 := am (hbox)
             have GE581 := zG hg (zb HB)
             replace HB := am (below_step (zb HB) hb)
             have NB555_581 := zn hg BK555
             have NB581_555 := zm hg BK555
             replace BK555 := zk BK555 hb
             have NB563_581 := zn hg BK563
             have NB581_563 := zm hg BK563
             replace BK563 := zk BK563 hb
             clear hb hbox hg
             refine hK.out _ _ ⟨(blk_cell BK563.out 0).trans rfl, (blk_cell BK563.out 1).trans rfl, (blk_cell BK563.out 2).trans rfl, (blk_cell BK563.out 3).trans rfl, (blk_cell BK563.out 4).trans rfl, (blk_cell BK563.out 5).trans rfl⟩ (fun hHeld => ?_)
             clear hK K
             refine norm_ (a' := ?_) ?_ ?_
             rotate_left
             ·
              show Act.put _ (some 8) _ = _
              simp only [Act.put, List.setIfInBounds_toArray, List.set_cons_zero, List.set_cons_succ, i64_w, i32_w]
              rfl
             refine one_ (i := 6) (N := some 51) #[true, true, true, true, true, true, true, false, false, false, true, false, false] rfl rfl (one_of HT_.out (by kernel_rfl)) (by decide) (fun K hK => ?_)
             refine goes_ Try.func64 (by kernel_rfl) rfl #[.agg #[.int .u8 t556, .int .i64 t557, .int .i64 t558, .int .i64 t559, .int .i64 t560, .int .i64 t561], .slice A131 ((l0.take ((ji11) : Int).toNat).drop (t561 : Int).toNat).length (c0 - t561.toNat)] (by rfl) rfl rfl y33 ?_
             with_reducible refine (block_records.calls k t556 t557 t558 t559 t560 t561 _ _ ((l0.take ((ji11) : Int).toNat).drop (t561 : Int).toNat) t575 t576 t577 t580 _ ?side1 ?side2 A34.out).mono ?_
             (case side1 => exact zC ((Kd.C_below HR574.out HB.out)))
             (case side2 => exact HC574.out)
             rintro e w133 ⟨v578, rfl, ho0, hb⟩
             refine ⟨_, rfl, ?_⟩
             have HO579 := am (Kd.S_lower ho0 (below_size (zb HB)))
             replace BK555 := zk BK555 hb
             replace BK563 := zk BK563 hb
             replace BK581 := zk BK581 hb
             replace HB := am (below_step (zb HB) hb)
             (try clear hb)
             (try clear hb2)
             (try clear hk)
             (try clear hi)
             (try clear ho0)
             refine hK.out _ _ ⟨(blk_cell BK563.out 0).trans rfl, (blk_cell BK563.out 1).trans rfl, (blk_cell BK563.out 2).trans rfl, (blk_cell BK563.out 3).trans rfl, (blk_cell BK563.out 4).trans rfl, (blk_cell BK563.out 5).trans rfl⟩ (fun hHeld => ?_)
             clear hK K
             refine norm_ (a' := ?_) ?_ ?_
             rotate_left
             ·
              show Act.put _ (some 51) _ = _
              simp only [Act.put, List.setIfInBounds_toArray, List.set_cons_zero, List.set_cons_succ, i64_w, i32_w]
              rfl
             refine zp (i := 7) (N := some 44) #[true, true, true, true, true, true, true, true, false, false, true, false, false] (any_of HT_.out (by kernel_rfl)) ?_
             refine zp (i := 8) (N := some 52) #[true, true, true, true, true, true, true, true, true, false, true, false, false] (any_of HT_.out (by kernel_rfl)) ?_
             refine zp (i := 9) (N := some 53) #[true, true, true, true, true, true, true, true, true, true, true, false, false] (any_of HT_.out (by kernel_rfl)) ?_
             exact norm_ y78 (hCont (v578, gb581) _ ⟨hHeld, (zS HO579.out), (zu BK555.out), (zu BK563.out), (zu BK581.out), GE581.out, GE581.out, NB555_581.out, NB581_555.out, NB563_581.out, NB581_563.out, (zb HB)⟩)
           rintro ⟨v578, gb581⟩ w134 ⟨hS_, h0_, h1_, h2_, h3_, h4_, h5_, h6_, h7_, h8_, h9_, h10_⟩
           have n0_ : Aside0 (Kd.S k26 26 w134 w.heap.size (fun _ => True) v578 t577) := ⟨h0_⟩
           have n1_ : Aside0 (w134.heap[gb555]? = some (.cells #[.int .i64 0, .int .i64 0, .slice none 0 0] 42 (0, 0))) := ⟨h1_⟩
           have n2_ : Aside0 (w134.heap[gb563]? = some (.cells #[.int .u8 t556, .int .i64 t557, .int .i64 t558, .int .i64 t559, .int .i64 t560, .int .i64 t561] 114 (0, 0))) := ⟨h2_⟩
           have n3_ : Aside0 (w134.heap[gb581]? = some (.cells #[.int .i64 0, .int .i64 0, .slice none 0 0] 42 (0, 0))) := ⟨h3_⟩
           have n4_ : Aside0 (w.heap.size ≤ gb581) := ⟨h4_⟩
           have n5_ : Aside0 (w.heap.size ≤ gb581) := ⟨h5_⟩
           have n6_ : Aside0 (gb555 ≠ gb581) := ⟨h6_⟩
           have n7_ : Aside0 (gb581 ≠ gb555) := ⟨h7_⟩
           have n8_ : Aside0 (gb563 ≠ gb581) := ⟨h8_⟩
           have n9_ : Aside0 (gb581 ≠ gb563) := ⟨h9_⟩
           have n10_ : Aside0 (Below w.heap.size w w134) := ⟨h10_⟩
           clear BK555
           clear BK563
           clear HB
           clear h0_ h1_ h2_ h3_ h4_ h5_ h6_ h7_ h8_ h9_ h10_
           have HO579 := n0_
           have BK555 := n1_
           have BK563 := n2_
           have BK581 := n3_
           have GE581 := n4_
           have GE581 := n5_
           have NB555_581 := n6_
           have NB581_555 := n7_
           have NB563_581 := n8_
           have NB581_563 := n9_
           have HB := n10_
           clear n0_ n1_ n2_ n3_ n4_ n5_ n6_ n7_ n8_ n9_ n10_
           have hHeld : w134.cell? ⟨gb563, 0, none⟩ = some (.int .u8 t556) ∧ w134.cell? ⟨gb563, 1, none⟩ = some (.int .i64 t557) ∧ w134.cell? ⟨gb563, 2, none⟩ = some (.int .i64 t558) ∧ w134.cell? ⟨gb563, 3, none⟩ = some (.int .i64 t559) ∧ w134.cell? ⟨gb563, 4, none⟩ = some (.int .i64 t560) ∧ w134.cell? ⟨gb563, 5, none⟩ = some (.int .i64 t561) := hS_
           obtain ⟨Ao137, co137, eo137⟩ := Kd.S_slice HO579.out
           (first | subst eo137 | (injection eo137 with f1_ f2_ f3_; have f4_ := f1_.symm; have f5_ := f3_.symm; clear f1_ f2_ f3_; subst f4_; subst f5_))
           refine norm_ (a' := ?_) ?_ ?_
           rotate_left
           ·
            simp only [putAll, Act.put, List.setIfInBounds_toArray, List.set_cons_zero, List.set_cons_succ]
            rfl
           refine one_ (i := 11) (N := none) #[true, true, true, true, true, true, true, true, true, true, true, true, false] rfl rfl (one_of HT_.out (by kernel_rfl)) (by decide) (fun K hK => ?_)
           have hs135 : w134.cell? ⟨gb581, 0, none⟩ = some (.int .i64 0) := (blk_cell BK581.out 0).trans rfl
           have hfs135 := blk_frozen BK581.out 0
           have hns135_0 := NB555_581.out
           have hns135_1 := NB563_581.out
           have hms135_0 := NB581_555.out
           have hms135_1 := NB581_563.out
           have hs136 : w134.cell? ⟨gb581, 1, none⟩ = some (.int .i64 0) := (blk_cell BK581.out 1).trans rfl
           have hfs136 := blk_frozen BK581.out 1
           have hns136_0 := NB555_581.out
           have hns136_1 := NB563_581.out
           have hms136_0 := NB581_555.out
           have hms136_1 := NB581_563.out
           have hs138 : w134.cell? ⟨gb581, 2, none⟩ = some (.slice none 0 0) := (blk_cell BK581.out 2).trans rfl
           have hfs138 := blk_frozen BK581.out 2
           have hns138_0 := NB555_581.out
           have hns138_1 := NB563_581.out
           have hms138_0 := NB581_555.out
           have hms138_1 := NB581_563.out
           refine skip_ (w1 := ?_) (by rfl) rfl ?_ ?_
           rotate_left
           ·
            go_simp
            rfl
           refine hK.out _ _ ⟨((cell_far (p := ⟨gb581, _, none⟩) NB563_581.out _).trans (((cell_far (p := ⟨gb581, _, none⟩) NB563_581.out _).trans (((cell_far (p := ⟨gb581, _, none⟩) NB563_581.out _).trans (hHeld.1)))))), ((cell_far (p := ⟨gb581, _, none⟩) NB563_581.out _).trans (((cell_far (p := ⟨gb581, _, none⟩) NB563_581.out _).trans (((cell_far (p := ⟨gb581, _, none⟩) NB563_581.out _).trans (hHeld.2.1)))))), ((cell_far (p := ⟨gb581, _, none⟩) NB563_581.out _).trans (((cell_far (p := ⟨gb581, _, none⟩) NB563_581.out _).trans (((cell_far (p := ⟨gb581, _, none⟩) NB563_581.out _).trans (hHeld.2.2.1)))))), ((cell_far (p := ⟨gb581, _, none⟩) NB563_581.out _).trans (((cell_far (p := ⟨gb581, _, none⟩) NB563_581.out _).trans (((cell_far (p := ⟨gb581, _, none⟩) NB563_581.out _).trans (hHeld.2.2.2.1)))))), ((cell_far (p := ⟨gb581, _, none⟩) NB563_581.out _).trans (((cell_far (p := ⟨gb581, _, none⟩) NB563_581.out _).trans (((cell_far (p := ⟨gb581, _, none⟩) NB563_581.out _).trans (hHeld.2.2.2.2.1)))))), ((cell_far (p := ⟨gb581, _, none⟩) NB563_581.out _).trans (((cell_far (p := ⟨gb581, _, none⟩) NB563_581.out _).trans (((cell_far (p := ⟨gb581, _, none⟩) NB563_581.out _).trans (hHeld.2.2.2.2.2))))))⟩ (fun hHeld => ?_)
           clear hK K
           refine zp (i := 12) (N := some 9) #[true, true, true, true, true, true, true, true, true, true, true, true, true] (any_of HT_.out (by kernel_rfl)) ?_
           refine done_ (done_of HT_.out (by kernel_rfl)) ?_
           have H := HH_.out
           clear HH_
           by_cases c35 : t580 = true
           ·
            subst c35
            have H1 : ((block_Encode.f k t575 t576 t577).bind fun bt582 => (if bt582.2 = 0 then (if 0 ≤ (wrap64 ((ji11) + 4)) then ((slices_Equal_byte_byte.f k bt582.1 (l0.take ((wrap64 ((ji11) + 4)) : Int).toNat)).bind fun t587 => (if t587 = true then (some (t575, t576, t577, wrap64 ((ji11) + 4), 0)) else (some (0, 0, ([] : List (S26)), 0, 11)))) else (none)) else (some (0, 0, ([] : List (S26)), 0, 11)))) = some (r1, r2, r3, r4, r5) := by rw [if_pos rfl] at H; exact H
            clear H
            have H := H1
            clear H1
            replace H := Option.bind_eq_some_iff.mp H
            obtain ⟨⟨t582, t585⟩, A360, H⟩ := H
            (try dsimp only at H)
            have A36 := am A360
            clear A360
            by_cases c37 : t585 = 0
            ·
             rw [if_pos c37] at H
             obtain ⟨c37b0, c37b1⟩ := zt c37
             clear c37
             obtain ⟨ji38, hji38⟩ : ∃ j_ : Int, (wrap64 ((ji11) + 4)) = j_ := ⟨_, rfl⟩
             (first | rw [hji38] at H | simp only [hji38] at H)
             (try rw [hji38] at c13b0)
             (try rw [hji38] at c13b1)
             (try rw [hji38] at c13)
             (try rw [hji38] at c14b0)
             (try rw [hji38] at c14b1)
             (try rw [hji38] at c14)
             (try rw [hji38] at c15b0)
             (try rw [hji38] at c15b1)
             (try rw [hji38] at c19b0)
             (try rw [hji38] at A2)
             (try rw [hji38] at A18)
             (try rw [hji38] at A34)
             (try rw [hji38] at A36)
             have hji38w : (IntKind.i64.wrap ((ji11) + 4)) = ji38 := (i64_w _).trans hji38
             by_cases c39 : 0 ≤ (ji38)
             ·
              rw [if_pos c39] at H
              have c39b0 := eq_true c39
              have c39b1 : decide (0 ≤ (ji38)) = true := decide_eq_true c39
              clear c39
              have c40b0 := eq_true (zo : (ji38) ≤ (l0.length : Int))
              replace H := Option.bind_eq_some_iff.mp H
              obtain ⟨t587, A410, H⟩ := H
              (try dsimp only at H)
              have A41 := am A410
              clear A410
              by_cases c42 : t587 = true
              ·
               subst c42
               have H1 : (some (t575, t576, t577, ji38, 0)) = some (r1, r2, r3, r4, r5) := by rw [if_pos rfl] at H; exact H
               clear H
               have H := H1
               clear H1
               simp only [Option.some.injEq, Prod.mk.injEq] at H
               obtain ⟨rfl, rfl, rfl, rfl, rfl⟩ := H
               have hnb62 := NB581_555.out
               have hnc62 := NB555_581.out
               have hnb63 := NB581_563.out
               have hnc63 := NB563_581.out
               obtain ⟨_, _, _, _, _, _⟩ := zq3 BK581
               try go_wp2_with (first | ((with_reducible refine gate_callee (f := 21) rfl ?_); refine goesL_ (some 59) rfl rfl Try.func21 (by kernel_rfl) rfl #[.agg #[.int .i64 t575, .int .i64 t576, .slice Ao137 t577.length co137]] rfl zg ?_; (with_reducible refine (block_Encode.calls k t575 t576 _ _ t577 t582 t585 _ ?side1 ?side2 A36.out).mono ?_); (case side1 => exact y12); (case side2 => exact (Kd.S_reads' HO579.out).2.1); rintro e w65 ⟨v583, rfl, ho0, hb⟩; refine ⟨_, rfl, ?_⟩; replace HO579 := am (Kd.S_below y4 hb); have HO584 := am (Kd.R_lower ho0 (below_size (zb HB))); replace BK555 := am (blk_below (g := gb555) (o := .cells #[.int .i64 0, .int .i64 0, .slice none 0 0] 42 (0, 0)) y48 hb); replace BK563 := am (blk_below (g := gb563) (o := .cells #[.int .u8 t556, .int .i64 t557, .int .i64 t558, .int .i64 t559, .int .i64 t560, .int .i64 t561] 114 (0, 0)) y49 hb); replace BK581 := am (blk_below (g := gb581) (o := .cells #[.int .i64 t575, .int .i64 t576, .slice Ao137 t577.length co137] 42 (0, 0)) y26 hb); replace HB := am (below_step (zb HB) hb); clear hb ho0; obtain ⟨i066, hi066, _, hsz66, _⟩ := info_parts info5; obtain ⟨hcut66, hA66, hC66⟩ := print_take_of (P := Try.prog) (Value.int .u8) 0 27 5 .i64 Try.underlying27 hi066 hsz66 A0 c0 l0 (ji38) zo zo HC0.out; have HR586 := am (Kd.C_of_reads (h1 := fun _ => rfl) (hA66 _ (Kd.reads_of_C HR0.out))); have HC586 := am hC66; clear hA66 hC66 hi066 hsz66; obtain ⟨Ao67, co67, eo67⟩ := Kd.R_slice HO584.out; subst eo67) | (go_at_call 65; rw [show (ji38 : Int).toNat = (l0.take ((ji38 : Int).toNat)).length from by rw [List.length_take]; have h_ : (ji38 : Int) ≤ (l0.length : Int) := zo; omega]; (with_reducible refine (slices_Equal_byte_byte.calls k _ _ t582 _ _ (l0.take ((ji38) : Int).toNat) true _ ?side1 ?side2 ?side3 ?side4 A41.out).mono ?_); (case side1 => exact zC ((Kd.R_reads' HO584.out).2.2)); (case side2 => exact (Kd.R_reads' HO584.out).2.1); (case side3 => exact zC ((Kd.C_below HR586.out HB.out))); (case side4 => exact HC586.out); rintro e w' ⟨rfl, ⟨nd, rfl⟩⟩; (try (rw [drewN_self w65]; generalize hq_ : World.drewN w65 _ = w65; have n0_ : Aside0 (Kd.S k26 26 w65 w.heap.size (fun _ => True) (.slice Ao137 t577.length co137) t577) := ⟨by rw [← hq_]; exact (zS HO579.out)⟩; have n1_ : Aside0 (Kd.R (Kd.int .u8) 5 w65 w.heap.size (fun _ => True) (.slice Ao67 t582.length co67) t582) := ⟨by rw [← hq_]; exact (zR HO584.out)⟩; have n2_ : Aside0 (w65.heap[gb555]? = some (.cells #[.int .i64 0, .int .i64 0, .slice none 0 0] 42 (0, 0))) := ⟨by rw [← hq_]; exact (zu BK555.out)⟩; have n3_ : Aside0 (w65.heap[gb563]? = some (.cells #[.int .u8 t556, .int .i64 t557, .int .i64 t558, .int .i64 t559, .int .i64 t560, .int .i64 t561] 114 (0, 0))) := ⟨by rw [← hq_]; exact (zu BK563.out)⟩; have n4_ : Aside0 (w65.heap[gb581]? = some (.cells #[.int .i64 t575, .int .i64 t576, .slice Ao137 t577.length co137] 42 (0, 0))) := ⟨by rw [← hq_]; exact (zu BK581.out)⟩; have n5_ : Aside0 (Below w.heap.size w w65) := ⟨by rw [← hq_]; exact (zb HB)⟩; clear HO579 HO584 BK555 BK563 BK581 HB hq_; have HO579 := n0_; have HO584 := n1_; have BK555 := n2_; have BK563 := n3_; have BK581 := n4_; have HB := n5_; clear n0_ n1_ n2_ n3_ n4_ n5_)); obtain ⟨_, _, _, _, _, _⟩ := zq3 BK581; obtain ⟨_, _, _, _, _, _⟩ := zq3 BK555))
               refine bodyPost_ret (results_ctt rfl _ _ gb555 42 #[.int .i64 t575, .int .i64 t576, .slice Ao137 t577.length co137] (0, 0) _ rfl (by refine zu ?_; refine blk_put (cs := #[.int .i64 t575, .int .i64 t576, .slice none 0 0]) ?_ 2 _ rfl; refine zu ?_; refine blk_put (cs := #[.int .i64 t575, .int .i64 0, .slice none 0 0]) ?_ 1 _ rfl; refine zu ?_; refine blk_put (cs := #[.int .i64 0, .int .i64 0, .slice none 0 0]) ?_ 0 _ rfl; refine zu ?_; exact BK555.out) Try.underlying42 rfl (by kernel_rfl)) rfl ?_
               exact ⟨_, by first | rfl | (simp [errW_none, errW_some] <;> rfl) | (simp only [← hji11, ← hji38]; first | rfl | (simp [errW_none, errW_some] <;> rfl)) | (simp [*, errW_none, errW_some] <;> rfl), by (with_reducible repeat (first | apply Kd.S_alloc | apply Kd.S_drewN | apply Kd.S_drew)); exact Kd.S_mono (Kd.S_far (p := ⟨gb555, 2, none⟩) (Kd.S_far (p := ⟨gb555, 1, none⟩) (Kd.S_far (p := ⟨gb555, 0, none⟩) (Kd.S_types HO579.out BK555.out (by decide)) (fun _ hk => hk.2) (.int .i64 t575)) (fun _ hk => hk.2) (.int .i64 t576)) (fun _ hk => hk.2) (.slice Ao137 t577.length co137)) (fun _ hk => trivial), zb HB⟩
              ·
               replace c42 := Bool.eq_false_iff.mpr c42
               subst c42
               have H1 : (some (0, 0, ([] : List (S26)), 0, 11)) = some (r1, r2, r3, r4, r5) := by rw [if_neg (show ¬ (false = true) by decide)] at H; exact H
               clear H
               have H := H1
               clear H1
               simp only [Option.some.injEq, Prod.mk.injEq] at H
               obtain ⟨rfl, rfl, rfl, rfl, rfl⟩ := H
               have hnb89 := NB581_555.out
               have hnc89 := NB555_581.out
               have hnb90 := NB581_563.out
               have hnc90 := NB563_581.out
               obtain ⟨_, _, _, _, _, _⟩ := zq3 BK581
               try go_wp2_with (first | ((with_reducible refine gate_callee (f := 21) rfl ?_); refine goesL_ (some 59) rfl rfl Try.func21 (by kernel_rfl) rfl #[.agg #[.int .i64 t575, .int .i64 t576, .slice Ao137 t577.length co137]] rfl zg ?_; (with_reducible refine (block_Encode.calls k t575 t576 _ _ t577 t582 t585 _ ?side1 ?side2 A36.out).mono ?_); (case side1 => exact y12); (case side2 => exact (Kd.S_reads' HO579.out).2.1); rintro e w92 ⟨v583, rfl, ho0, hb⟩; refine ⟨_, rfl, ?_⟩; replace HO579 := am (Kd.S_below y4 hb); have HO584 := am (Kd.R_lower ho0 (below_size (zb HB))); replace BK555 := am (blk_below (g := gb555) (o := .cells #[.int .i64 0, .int .i64 0, .slice none 0 0] 42 (0, 0)) y48 hb); replace BK563 := am (blk_below (g := gb563) (o := .cells #[.int .u8 t556, .int .i64 t557, .int .i64 t558, .int .i64 t559, .int .i64 t560, .int .i64 t561] 114 (0, 0)) y49 hb); replace BK581 := am (blk_below (g := gb581) (o := .cells #[.int .i64 t575, .int .i64 t576, .slice Ao137 t577.length co137] 42 (0, 0)) y26 hb); replace HB := am (below_step (zb HB) hb); clear hb ho0; obtain ⟨i093, hi093, _, hsz93, _⟩ := info_parts info5; obtain ⟨hcut93, hA93, hC93⟩ := print_take_of (P := Try.prog) (Value.int .u8) 0 27 5 .i64 Try.underlying27 hi093 hsz93 A0 c0 l0 (ji38) zo zo HC0.out; have HR586 := am (Kd.C_of_reads (h1 := fun _ => rfl) (hA93 _ (Kd.reads_of_C HR0.out))); have HC586 := am hC93; clear hA93 hC93 hi093 hsz93; obtain ⟨Ao94, co94, eo94⟩ := Kd.R_slice HO584.out; subst eo94) | (go_at_call 65; rw [show (ji38 : Int).toNat = (l0.take ((ji38 : Int).toNat)).length from by rw [List.length_take]; have h_ : (ji38 : Int) ≤ (l0.length : Int) := zo; omega]; (with_reducible refine (slices_Equal_byte_byte.calls k _ _ t582 _ _ (l0.take ((ji38) : Int).toNat) false _ ?side1 ?side2 ?side3 ?side4 A41.out).mono ?_); (case side1 => exact zC ((Kd.R_reads' HO584.out).2.2)); (case side2 => exact (Kd.R_reads' HO584.out).2.1); (case side3 => exact zC ((Kd.C_below HR586.out HB.out))); (case side4 => exact HC586.out); rintro e w' ⟨rfl, ⟨nd, rfl⟩⟩; (try (rw [drewN_self w92]; generalize hq_ : World.drewN w92 _ = w92; have n0_ : Aside0 (Kd.S k26 26 w92 w.heap.size (fun _ => True) (.slice Ao137 t577.length co137) t577) := ⟨by rw [← hq_]; exact (zS HO579.out)⟩; have n1_ : Aside0 (Kd.R (Kd.int .u8) 5 w92 w.heap.size (fun _ => True) (.slice Ao94 t582.length co94) t582) := ⟨by rw [← hq_]; exact (zR HO584.out)⟩; have n2_ : Aside0 (w92.heap[gb555]? = some (.cells #[.int .i64 0, .int .i64 0, .slice none 0 0] 42 (0, 0))) := ⟨by rw [← hq_]; exact (zu BK555.out)⟩; have n3_ : Aside0 (w92.heap[gb563]? = some (.cells #[.int .u8 t556, .int .i64 t557, .int .i64 t558, .int .i64 t559, .int .i64 t560, .int .i64 t561] 114 (0, 0))) := ⟨by rw [← hq_]; exact (zu BK563.out)⟩; have n4_ : Aside0 (w92.heap[gb581]? = some (.cells #[.int .i64 t575, .int .i64 t576, .slice Ao137 t577.length co137] 42 (0, 0))) := ⟨by rw [← hq_]; exact (zu BK581.out)⟩; have n5_ : Aside0 (Below w.heap.size w w92) := ⟨by rw [← hq_]; exact (zb HB)⟩; clear HO579 HO584 BK555 BK563 BK581 HB hq_; have HO579 := n0_; have HO584 := n1_; have BK555 := n2_; have BK563 := n3_; have BK581 := n4_; have HB := n5_; clear n0_ n1_ n2_ n3_ n4_ n5_)); obtain ⟨_, _, _, _, _, _⟩ := zq3 BK555))
               refine bodyPost_ret (results_ctt rfl _ _ gb555 42 #[.int .i64 0, .int .i64 0, .slice none 0 0] (0, 0) _ rfl y27 Try.underlying42 rfl (by kernel_rfl)) rfl ?_
               exact ⟨_, by first | rfl | (simp [errW_none, errW_some] <;> rfl) | (simp only [← hji11, ← hji38]; first | rfl | (simp [errW_none, errW_some] <;> rfl)) | (simp [*, errW_none, errW_some] <;> rfl), by first | exact Kd.S_nil _ _ _ _ _ | exact Kd.N_nil _ _ _ _ _ | exact Kd.V_nil _ _ _ _ _ | exact Kd.Q_nil _ _ _ _ _ | exact Kd.R_nil _ _ _ _ _, zb HB⟩
             ·
              rw [if_neg c39] at H
              exact absurd H (by simp)
            ·
             rw [if_neg c37] at H
             obtain ⟨c37b0, c37b1⟩ := zs c37
             simp only [Option.some.injEq, Prod.mk.injEq] at H
             obtain ⟨rfl, rfl, rfl, rfl, rfl⟩ := H
             have hnb115 := NB581_555.out
             have hnc115 := NB555_581.out
             have hnb116 := NB581_563.out
             have hnc116 := NB563_581.out
             obtain ⟨_, _, _, _, _, _⟩ := zq3 BK581
             try go_wp2_with (first | ((with_reducible refine gate_callee (f := 21) rfl ?_); refine goesL_ (some 59) rfl rfl Try.func21 (by kernel_rfl) rfl #[.agg #[.int .i64 t575, .int .i64 t576, .slice Ao137 t577.length co137]] rfl zg ?_; (with_reducible refine (block_Encode.calls k t575 t576 _ _ t577 t582 t585 _ ?side1 ?side2 A36.out).mono ?_); (case side1 => exact y12); (case side2 => exact (Kd.S_reads' HO579.out).2.1); rintro e w118 ⟨v583, rfl, ho0, hb⟩; refine ⟨_, rfl, ?_⟩; replace HO579 := am (Kd.S_below y4 hb); have HO584 := am (Kd.R_lower ho0 (below_size (zb HB))); replace BK555 := am (blk_below (g := gb555) (o := .cells #[.int .i64 0, .int .i64 0, .slice none 0 0] 42 (0, 0)) y48 hb); replace BK563 := am (blk_below (g := gb563) (o := .cells #[.int .u8 t556, .int .i64 t557, .int .i64 t558, .int .i64 t559, .int .i64 t560, .int .i64 t561] 114 (0, 0)) y49 hb); replace BK581 := am (blk_below (g := gb581) (o := .cells #[.int .i64 t575, .int .i64 t576, .slice Ao137 t577.length co137] 42 (0, 0)) y26 hb); replace HB := am (below_step (zb HB) hb); clear hb ho0; obtain ⟨_, _, _, _, _, _⟩ := zq3 BK555))
             exact y10
           ·
            replace c35 := Bool.eq_false_iff.mpr c35
            subst c35
            have H1 : (some (0, 0, ([] : List (S26)), 0, 11)) = some (r1, r2, r3, r4, r5) := by rw [if_neg (show ¬ (false = true) by decide)] at H; exact H
            clear H
            have H := H1
            clear H1
            simp only [Option.some.injEq, Prod.mk.injEq] at H
            obtain ⟨rfl, rfl, rfl, rfl, rfl⟩ := H
            have hnb139 := NB555_581.out
            have hnc139 := NB581_555.out
            obtain ⟨_, _, _, _, _, _⟩ := zq3 BK555
            try go_wp2
            refine bodyPost_ret (results_ctt rfl _ _ gb555 42 #[.int .i64 0, .int .i64 0, .slice none 0 0] (0, 0) _ rfl (by refine zu ?_; refine blk_put (cs := #[.int .i64 0, .int .i64 0, .slice none 0 0]) ?_ 2 _ rfl; refine zu ?_; refine blk_put (cs := #[.int .i64 0, .int .i64 0, .slice none 0 0]) ?_ 1 _ rfl; refine zu ?_; refine blk_put (cs := #[.int .i64 0, .int .i64 0, .slice none 0 0]) ?_ 0 _ rfl; refine zu ?_; refine blk_far ?_ NB555_581.out _; refine zu ?_; refine blk_far ?_ NB555_581.out _; refine zu ?_; refine blk_far ?_ NB555_581.out _; refine zu ?_; exact BK555.out) Try.underlying42 rfl (by kernel_rfl)) rfl ?_
            exact ⟨_, by first | rfl | (simp [errW_none, errW_some] <;> rfl) | (simp only [← hji11]; first | rfl | (simp [errW_none, errW_some] <;> rfl)) | (simp [*, errW_none, errW_some] <;> rfl), by first | exact Kd.S_nil _ _ _ _ _ | exact Kd.N_nil _ _ _ _ _ | exact Kd.V_nil _ _ _ _ _ | exact Kd.Q_nil _ _ _ _ _ | exact Kd.R_nil _ _ _ _ _, zb HB⟩
          ·
           rw [if_neg c32] at H
           exact absurd H (by simp)
         ·
          rw [if_neg c31] at H
          exact absurd H (by simp)
       ·
        rw [if_neg c17] at H
        exact absurd H (by simp)
      ·
       rw [if_neg c15] at H
       exact absurd H (by simp)
     ·
      rw [if_neg c14] at H
      exact absurd H (by simp)
    ·
     rw [if_neg c13] at H
     exact absurd H (by simp)
   ·
    rw [if_neg c12] at H
    exact absurd H (by simp)
 ·
  rw [if_neg c3] at H
  obtain ⟨c3b0, c3b1⟩ := zs c3
  simp only [Option.some.injEq, Prod.mk.injEq] at H
  obtain ⟨rfl, rfl, rfl, rfl, rfl⟩ := H
  go_enter Try.func29, Try.ntmps29
  go_wp2_with (first | ((with_reducible refine gate_dst (N := 2) rfl ?_); refine zB 2 #[.int .i64 0, .int .i64 0, .slice none 0 0] 42 ?_; intro gb555 hg w141 hbox hb; have BK555 := am (hbox); have GE555 := zG hg (zb HB); replace HB := am (below_step (zb HB) hb); clear hb hbox hg) | ((with_reducible refine gate_callee (f := 63) rfl ?_); refine goesL_ (some 13) rfl rfl Try.func63 (by kernel_rfl) rfl #[.slice A0 l0.length c0] rfl zg ?_; (with_reducible refine (block_open.calls k _ _ l0 t556 t557 t558 t559 t560 t561 t562 _ ?side1 ?side2 A2.out).mono ?_); (case side1 => exact y66); (case side2 => exact HC0.out); rintro e w142 ⟨rfl, hb⟩; refine ⟨_, rfl, ?_⟩; replace BK555 := zk BK555 hb; replace HB := am (below_step (zb HB) hb); clear hb) | ((with_reducible refine gate_dst (N := 5) rfl ?_); refine zB 5 #[.int .u8 0, .int .i64 0, .int .i64 0, .int .i64 0, .int .i64 0, .int .i64 0] 114 ?_; intro gb563 hg w143 hbox hb; have BK563 := am (hbox); have GE563 := zG hg (zb HB); replace HB := am (below_step (zb HB) hb); have NB555_563 := zn hg BK555; have NB563_555 := zm hg BK555; replace BK555 := zk BK555 hb; clear hb hbox hg; have hnb144 := NB563_555.out; have hnc144 := NB555_563.out; obtain ⟨_, _, _, _, _, _, _, _, _, _, _, _⟩ := zq6 BK563; obtain ⟨_, _, _, _, _, _⟩ := zq3 BK555))
  exact y7
end Go.Proofs.Ytnmmkgagbfniiaa.A
end
