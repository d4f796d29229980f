/- MRecordErrors4: texts of this session and of the kit's printer on the road to the statement RecordErrors, laid into one and rid of what it doesn't need. No condition beyond what each fact names. -/
import Derived.Test.YtnmmkgagbfniiaaMRecordErrors3
import Derived.Test.YtnmmkgagbfniiaaMRecordErrors2
section
namespace Go.Proofs.Ytnmmkgagbfniiaa.A
open Go.RowKit Go.Proofs.YtnmmkgagbfniiaaW.PrintWords Go.Proofs.YtnmmkgagbfniiaaW.PrintLast Go.Proofs.YtnmmkgagbfniiaaW.PrintMore
attribute [local go_sem] max2_int min2_int max_two min_two max_three min_three max_four min_four
set_option linter.unusedVariables false
set_option linter.unusedSimpArgs false
mutual
def pack_longest.l0 : Nat → List Int → Int → Int → Int → Int → Option (Int × Int)
 | 0, _, _, _, _, _ => none
 | k + 1, x0, x1, x6, x7, x8 => if x8 ≤ (mn x1 255) then (pack_longest.l1 k x0 x1 x6 x7 x8 0) else (some (x6, x7))
def pack_longest.l1 : Nat → List Int → Int → Int → Int → Int → Int → Option (Int × Int)
 | 0, _, _, _, _, _, _ => none
 | k + 1, x0, x1, x6, x7, x8, x9 => if x9 < 130 then (if (wrap64 (x1 + x9)) < (x0.length : Int) then (if 0 ≤ (wrap64 (x1 + x9)) then (if 0 ≤ (wrap64 ((wrap64 (x1 + x9)) - x8)) then (if (wrap64 ((wrap64 (x1 + x9)) - x8)) < (x0.length : Int) then (if (rd x0 (wrap64 (x1 + x9))) = (rd x0 (wrap64 ((wrap64 (x1 + x9)) - x8))) then (pack_longest.l1 k x0 x1 x6 x7 x8 (wrap64 (x9 + 1))) else (if x9 > x6 then (pack_longest.l0 k x0 x1 x9 x8 (wrap64 (x8 + 1))) else (pack_longest.l0 k x0 x1 x6 x7 (wrap64 (x8 + 1))))) else (none)) else (none)) else (none)) else (if x9 > x6 then (pack_longest.l0 k x0 x1 x9 x8 (wrap64 (x8 + 1))) else (pack_longest.l0 k x0 x1 x6 x7 (wrap64 (x8 + 1))))) else (if x9 > x6 then (pack_longest.l0 k x0 x1 x9 x8 (wrap64 (x8 + 1))) else (pack_longest.l0 k x0 x1 x6 x7 (wrap64 (x8 + 1))))
end
def pack_longest.f (k : Nat) (l0 : List Int) (a1 : Int) : Option (Int × Int) := pack_longest.l0 k l0 a1 0 0 1
theorem pack_longest.mono_l : ∀ k, (∀ y0 y1 y2 y3 y4, LeO (pack_longest.l0 k y0 y1 y2 y3 y4) (pack_longest.l0 (k + 1) y0 y1 y2 y3 y4)) ∧ (∀ y0 y1 y2 y3 y4 y5, LeO (pack_longest.l1 k y0 y1 y2 y3 y4 y5) (pack_longest.l1 (k + 1) y0 y1 y2 y3 y4 y5))
 | 0 => ⟨fun _ _ _ _ _ r h => by simp [pack_longest.l0] at h, fun _ _ _ _ _ _ r h => by simp [pack_longest.l1] at h⟩
 | k + 1 => by
  obtain ⟨ih0, ih1⟩ := pack_longest.mono_l k
  refine ⟨?_, ?_⟩
  ·
   intro y0 y1 y2 y3 y4
   unfold pack_longest.l0
   exact zM
  ·
   intro y0 y1 y2 y3 y4 y5
   unfold pack_longest.l1
   exact zM
theorem pack_longest.mono : ∀ a0 a1 k, LeO (pack_longest.f k a0 a1) (pack_longest.f (k + 1) a0 a1) := by
 intro a0 a1 k
 obtain ⟨ih0, ih1⟩ := pack_longest.mono_l k
 unfold pack_longest.f
 exact zM
set_option maxHeartbeats 8000000 in
set_option maxRecDepth 100000 in
theorem pack_longest.calls (k : Nat) (A0 : Option Addr) (c0 : Nat) (l0 : List Int) (a1 : Int) (r1 : Int) (r2 : Int) (w : World) (hr0 : Kd.C (Kd.int .u8) w A0 l0.length l0) (hc0 : l0.length ≤ c0) (h : pack_longest.f k l0 a1 = some (r1, r2)) :
  Calls Try.prog 78 #[.slice A0 l0.length c0, .int .i64 a1] w fun e w' => e = .returned (.tuple #[.int .i64 r1, .int .i64 r2]) ∧ Below w.heap.size w w' := by
 have HR0 := am hr0
 have HC0 := am hc0
 clear hr0 hc0
 have HB := am (Below.refl w.heap.size w)
 have H : (pack_longest.l0 k l0 a1 0 0 1) = some (r1, r2) := h
 clear h
 have H' := am H
 clear H
 go_enter Try.func78, Try.ntmps78
 go_wp2
 repeat (go_quiet (fail); try go_wp2)
 go_loopg [6, 7, 8] k (fun kq v6 v7 v8 w' => ∃ (x6_1 : Int) (x7_1 : Int) (x8_1 : Int), v6 = .int .i64 x6_1 ∧ v7 = .int .i64 x7_1 ∧ v8 = .int .i64 x8_1 ∧ Aside0 (pack_longest.l0 kq l0 a1 x6_1 x7_1 x8_1 = some (r1, r2)) ∧ Aside0 (kq ≤ k) ∧ Aside0 (Below w.heap.size w w'))
 case atStart => exact ⟨(0), (0), (1), zr, zr, zr, H', ⟨Nat.le_refl _⟩, ⟨zb HB⟩⟩
 case round =>
  clear H'
  try clear p2
  obtain ⟨x6_1, x7_1, x8_1, rfl, rfl, rfl, HA, HK1, HB⟩ := hrel
  cases gk with
  | zero => exact absurd HA.out (by simp [pack_longest.l0])
  | succ k1 =>
   have H := HA.out
   clear HA
   simp only [pack_longest.l0] at H
   obtain ⟨ji3, hji3⟩ : ∃ j_ : Int, (mn a1 255) = j_ := ⟨_, rfl⟩
   (first | rw [hji3] at H | simp only [hji3] at H)
   have hji3_ : (if 255 < a1 then 255 else a1) = ji3 := hji3
   by_cases c4 : x8_1 ≤ (ji3)
   ·
    rw [if_pos c4] at H
    have c4b0 := decide_eq_true c4
    clear c4
    have H' := am H
    clear H
    go_wp2
    repeat (go_quiet (fail); try go_wp2)
    go_loopg [9] k1 (fun kq v9 w' => ∃ (x9_2 : Int), v9 = .int .i64 x9_2 ∧ Aside0 (pack_longest.l1 kq l0 a1 x6_1 x7_1 x8_1 x9_2 = some (r1, r2)) ∧ Aside0 (kq ≤ k1) ∧ Aside0 (Below w.heap.size w w'))
    case atStart => exact ⟨(0), zr, H', ⟨Nat.le_refl _⟩, ⟨zb HB⟩⟩
    case round =>
     clear H'
     obtain ⟨x9_2, rfl, HA, HK2, HB⟩ := hrel
     cases gk with
     | zero => exact absurd HA.out (by simp [pack_longest.l1])
     | succ k2 =>
      have H := HA.out
      clear HA
      simp only [pack_longest.l1] at H
      by_cases c5 : x9_2 < 130
      ·
       rw [if_pos c5] at H
       have c5b0 := decide_eq_true c5
       clear c5
       by_cases c6 : (wrap64 (a1 + x9_2)) < (l0.length : Int)
       ·
        rw [if_pos c6] at H
        have c6b0 := decide_eq_true c6
        clear c6
        obtain ⟨ji7, hji7⟩ : ∃ j_ : Int, (wrap64 (a1 + x9_2)) = j_ := ⟨_, rfl⟩
        (first | rw [hji7] at H | simp only [hji7] at H)
        (try rw [hji7] at c6b0)
        have hji7w : (IntKind.i64.wrap (a1 + x9_2)) = ji7 := (i64_w _).trans hji7
        by_cases c8 : 0 ≤ (ji7)
        ·
         rw [if_pos c8] at H
         have c8b0 := decide_eq_true c8
         clear c8
         obtain ⟨ji9, hji9⟩ : ∃ j_ : Int, (wrap64 ((ji7) - x8_1)) = j_ := ⟨_, rfl⟩
         (first | rw [hji9] at H | simp only [hji9] at H)
         have hji9w : (IntKind.i64.wrap ((ji7) - x8_1)) = ji9 := (i64_w _).trans hji9
         by_cases c10 : 0 ≤ (ji9)
         ·
          rw [if_pos c10] at H
          have c10b0 := decide_eq_true c10
          clear c10
          by_cases c11 : (ji9) < (l0.length : Int)
          ·
           rw [if_pos c11] at H
           have c11b0 := decide_eq_true c11
           clear c11
           by_cases c12 : (rd l0 (ji7)) = (rd l0 (ji9))
           ·
            rw [if_pos c12] at H
            obtain ⟨c12b0, c12b1⟩ := zt c12
            clear c12
            have H' := am H
            clear H
            have p305 : 0 ≤ ((ji7) : Int) := zo
            have q305 : (ji7) < (l0.length : Int) := zo
            obtain ⟨ad305, e305, hx305_0⟩ := Kd.at_int HR0.out (ji7) p305 q305
            cases e305
            replace hx305_0 := zx HB hx305_0
            replace p305 := eq_true p305
            replace q305 := eq_true q305
            have p306 : 0 ≤ ((ji9) : Int) := zo
            have q306 : (ji9) < (l0.length : Int) := zo
            obtain ⟨ad306, e306, hx306_0⟩ := Kd.at_int HR0.out (ji9) p306 q306
            obtain rfl : ad305 = ad306 := (by injection e306)
            replace hx306_0 := zx HB hx306_0
            replace p306 := eq_true p306
            replace q306 := eq_true q306
            go_wp2
            repeat (go_quiet (fail); try go_wp2)
            go_roundg k2
            case measure => have := HK1.out; have := HK2.out; omega
            case rel => exact ⟨(wrap64 (x9_2 + 1)), zr, H', ⟨by have := HK1.out; have := HK2.out; omega⟩, ⟨zb HB⟩⟩
           ·
            rw [if_neg c12] at H
            obtain ⟨c12b0, c12b1⟩ := zs c12
            by_cases c13 : x9_2 > x6_1
            ·
             rw [if_pos c13] at H
             have c13b0 : decide (x6_1 < x9_2) = true := decide_eq_true c13
             clear c13
             have H' := am H
             clear H
             have p305 : 0 ≤ ((ji7) : Int) := zo
             have q305 : (ji7) < (l0.length : Int) := zo
             obtain ⟨ad305, e305, hx305_0⟩ := Kd.at_int HR0.out (ji7) p305 q305
             cases e305
             replace hx305_0 := zx HB hx305_0
             replace p305 := eq_true p305
             replace q305 := eq_true q305
             have p306 : 0 ≤ ((ji9) : Int) := zo
             have q306 : (ji9) < (l0.length : Int) := zo
             obtain ⟨ad306, e306, hx306_0⟩ := Kd.at_int HR0.out (ji9) p306 q306
             obtain rfl : ad305 = ad306 := (by injection e306)
             replace hx306_0 := zx HB hx306_0
             replace p306 := eq_true p306
             replace q306 := eq_true q306
             go_wp2
             repeat (go_quiet (fail); try go_wp2)
             go_roundg k2
             case measure => have := HK1.out; have := HK2.out; omega
             case rel => exact y32
            ·
             rw [if_neg c13] at H
             have c13b0 : decide (x6_1 < x9_2) = false := decide_eq_false c13
             clear c13
             have H' := am H
             clear H
             have p305 : 0 ≤ ((ji7) : Int) := zo
             have q305 : (ji7) < (l0.length : Int) := zo
             obtain ⟨ad305, e305, hx305_0⟩ := Kd.at_int HR0.out (ji7) p305 q305
             cases e305
             replace hx305_0 := zx HB hx305_0
             replace p305 := eq_true p305
             replace q305 := eq_true q305
             have p306 : 0 ≤ ((ji9) : Int) := zo
             have q306 : (ji9) < (l0.length : Int) := zo
             obtain ⟨ad306, e306, hx306_0⟩ := Kd.at_int HR0.out (ji9) p306 q306
             obtain rfl : ad305 = ad306 := (by injection e306)
             replace hx306_0 := zx HB hx306_0
             replace p306 := eq_true p306
             replace q306 := eq_true q306
             go_wp2
             repeat (go_quiet (fail); try go_wp2)
             go_roundg k2
             case measure => have := HK1.out; have := HK2.out; omega
             case rel => exact y33
          ·
           rw [if_neg c11] at H
           exact absurd H (by simp)
         ·
          rw [if_neg c10] at H
          exact absurd H (by simp)
        ·
         rw [if_neg c8] at H
         exact absurd H (by simp)
       ·
        rw [if_neg c6] at H
        have c6b0 := decide_eq_false c6
        clear c6
        by_cases c14 : x9_2 > x6_1
        ·
         rw [if_pos c14] at H
         have c14b0 : decide (x6_1 < x9_2) = true := decide_eq_true c14
         clear c14
         have H' := am H
         clear H
         go_wp2
         repeat (go_quiet (fail); try go_wp2)
         go_roundg k2
         case measure => have := HK1.out; have := HK2.out; omega
         case rel => exact y32
        ·
         rw [if_neg c14] at H
         have c14b0 : decide (x6_1 < x9_2) = false := decide_eq_false c14
         clear c14
         have H' := am H
         clear H
         go_wp2
         repeat (go_quiet (fail); try go_wp2)
         go_roundg k2
         case measure => have := HK1.out; have := HK2.out; omega
         case rel => exact y33
      ·
       rw [if_neg c5] at H
       have c5b0 := decide_eq_false c5
       clear c5
       by_cases c15 : x9_2 > x6_1
       ·
        rw [if_pos c15] at H
        have c15b0 : decide (x6_1 < x9_2) = true := decide_eq_true c15
        clear c15
        have H' := am H
        clear H
        go_wp2
        repeat (go_quiet (fail); try go_wp2)
        go_roundg k2
        case measure => have := HK1.out; have := HK2.out; omega
        case rel => exact y32
       ·
        rw [if_neg c15] at H
        have c15b0 : decide (x6_1 < x9_2) = false := decide_eq_false c15
        clear c15
        have H' := am H
        clear H
        go_wp2
        repeat (go_quiet (fail); try go_wp2)
        go_roundg k2
        case measure => have := HK1.out; have := HK2.out; omega
        case rel => exact y33
   ·
    rw [if_neg c4] at H
    have c4b0 := decide_eq_false c4
    clear c4
    simp only [Option.some.injEq, Prod.mk.injEq] at H
    obtain ⟨rfl, rfl⟩ := H
    go_wp2
    repeat (go_quiet (fail); try go_wp2)
    go_ret2
    exact ⟨by first | rfl | (simp [errW_none, errW_some] <;> rfl) | (simp only [← hji3]; first | rfl | (simp [errW_none, errW_some] <;> rfl)) | (simp [*, errW_none, errW_some] <;> rfl), zb HB⟩
def pack_Pack.flush (l0 out : List Int) (beg fin : Int) : Option (List Int) :=
 if beg < fin then (if out.length + (fin - beg).toNat + 1 < 140737488355328 then some ((out ++ [(fin - beg - 1) % 256]) ++ ((l0.take fin.toNat).drop beg.toNat)) else none) else some out
structure pack_Pack.St (w0 w : World) (g : Nat) (v : Value) (A0 : Option Addr) (c0 : Nat) (l0 out : List Int) (beg : Int) : Prop where
 b : w.heap[g]? = some (.cells #[.slice A0 l0.length c0] 27 (0, 0))
 o : w.heap[g + 1]? = some (.cells #[v] 27 (0, 0))
 r : Kd.R (Kd.int .u8) 5 w w0.heap.size (fun k_ => g + 3 ≤ k_) v out
 n : w.heap[g + 2]? = some (.cells #[.int .i64 beg] 3 (0, 0))
 B : Below w0.heap.size w0 w
 g0 : w0.heap.size ≤ g
section
variable {w0 w w1 : World} {g : Nat} {v v1 : Value} {A0 : Option Addr} {c0 : Nat} {l0 out out1 : List Int} {beg : Int}
theorem pack_Pack.St.drewN (S : pack_Pack.St w0 w g v A0 c0 l0 out beg) (m : Nat) : pack_Pack.St w0 (w.drewN m) g v A0 c0 l0 out beg := ⟨S.b, S.o, Kd.R_drewN S.r m, S.n, pw_below_drewN S.B m, S.g0⟩
theorem pack_Pack.St.drew (S : pack_Pack.St w0 w g v A0 c0 l0 out beg) : pack_Pack.St w0 w.drew g v A0 c0 l0 out beg := ⟨S.b, S.o, Kd.R_drew S.r, S.n, S.B.drew, S.g0⟩
theorem pack_Pack.St.below (S : pack_Pack.St w0 w g v A0 c0 l0 out beg) (h : Below w.heap.size w w1) : pack_Pack.St w0 w1 g v A0 c0 l0 out beg := by
 have lb := lt_of_block S.b
 have lo := lt_of_block S.o
 have ln := lt_of_block S.n
 exact ⟨(h.block _ lb).trans S.b, (h.block _ lo).trans S.o, Kd.R_below S.r h, (h.block _ ln).trans S.n, below_then S.B S.B.size h, S.g0⟩
theorem pack_Pack.St.grown (S : pack_Pack.St w0 w g v A0 c0 l0 out beg) (hg : w.grownBy w1 v.ownBlock) (hb : Below w0.heap.size w0 w1) (hr : Kd.R (Kd.int .u8) 5 w1 w0.heap.size (fun k_ => g + 3 ≤ k_) v1 out1) : pack_Pack.St w0 (w1.setCell ⟨g + 1, 0, none⟩ v1) g v1 A0 c0 l0 out1 beg := by
 have lb := lt_of_block S.b
 have lo := lt_of_block S.o
 have ln := lt_of_block S.n
 have hne : ∀ k, k < g + 3 → some k ≠ v.ownBlock := fun k hk he => by have := S.r.1 k he.symm; omega
 refine ⟨?_, ?_, ?_, ?_, ?_, S.g0⟩
 ·
  rw [Below.heap_setCell _ _ _ _ (by show g ≠ g + 1; omega)]; exact (hg.block _ lb (hne _ (by omega))).trans S.b
 ·
  exact one_setCell ((hg.block _ lo (hne _ (by omega))).trans S.o)
 ·
  exact Kd.R_far hr (fun k hk => by show k ≠ g + 1; omega) _
 ·
  rw [Below.heap_setCell _ _ _ _ (by show g + 2 ≠ g + 1; omega)]; exact (hg.block _ ln (hne _ (by omega))).trans S.n
 ·
  exact below_set hb (by have := S.g0; omega)
theorem pack_Pack.St.grown_o (S : pack_Pack.St w0 w g v A0 c0 l0 out beg) (hg : w.grownBy w1 v.ownBlock) : w1.cell? ⟨g + 1, 0, none⟩ = some v ∧ w1.frozen? ⟨g + 1, 0, none⟩ = false := by
 have lo := lt_of_block S.o
 have hb := (hg.block _ lo (fun he => by have := S.r.1 _ he.symm; omega)).trans S.o
 exact ⟨cell_of_one hb, free_of_one hb⟩
theorem pack_Pack.St.setBeg (S : pack_Pack.St w0 w g v A0 c0 l0 out beg) (z : Int) : pack_Pack.St w0 (w.setCell ⟨g + 2, 0, none⟩ (.int .i64 z)) g v A0 c0 l0 out z :=
 ⟨by rw [Below.heap_setCell _ _ _ _ (by show g ≠ g + 2; omega)]; exact S.b, by rw [Below.heap_setCell _ _ _ _ (by show g + 1 ≠ g + 2; omega)]; exact S.o, Kd.R_far S.r (fun k hk => by show k ≠ g + 2; omega) _, one_setCell S.n, below_set S.B (by have := S.g0; omega), S.g0⟩
end
set_option maxHeartbeats 4000000 in
set_option maxRecDepth 100000 in
theorem pack_Pack.flush_calls (w0 w : World) (g : Nat) (v : Value) (A0 : Option Addr) (c0 : Nat) (l0 out r : List Int) (beg fin : Int) (S : pack_Pack.St w0 w g v A0 c0 l0 out beg) (hb0 : 0 ≤ beg) (hf : fin ≤ l0.length) (hr0 : Kd.C (Kd.int .u8) w0 A0 l0.length l0) (hc0 : l0.length ≤ c0) (h : pack_Pack.flush l0 out beg fin = some r) :
  Calls Try.prog 77 #[.int .i64 fin, .pointer (some ⟨g + 2, 0, none⟩), .pointer (some ⟨g + 1, 0, none⟩), .pointer (some ⟨g, 0, none⟩)] w fun e w' => e = .returned (.tuple #[]) ∧ ∃ v', pack_Pack.St w0 w' g v' A0 c0 l0 r fin := by
 have HS := am S
 have HR0 := am hr0
 have HC0 := am hc0
 have q1 := cell_of_one S.b
 have q2 := cell_of_one S.o
 have q3 := cell_of_one S.n
 have f2 := free_of_one S.o
 have f3 := free_of_one S.n
 clear S hr0 hc0
 unfold pack_Pack.flush at h
 obtain ⟨Ao, co, eo⟩ := Kd.R_slice HS.out.r
 subst eo
 by_cases c : beg < fin
 ·
  rw [if_pos c] at h
  by_cases c1 : out.length + (fin - beg).toNat + 1 < 140737488355328
  ·
   rw [if_pos c1] at h
   obtain rfl := Option.some.inj h
   obtain ⟨y, hy⟩ : ∃ y : List Int, y = out ++ [(fin - beg - 1) % 256] := ⟨_, rfl⟩
   have HYL := am (show y.length = out.length + 1 by rw [hy]; simp)
   have HYE := am hy
   obtain ⟨i0, hi0, _, hsz, _⟩ := info_parts info5
   obtain ⟨A1, hcut, hA, hC⟩ := print_mid_of (P := Try.prog) (Value.int .u8) 0 27 5 .i64 .i64 Try.underlying27 hi0 hsz A0 c0 l0 beg fin hb0 (by omega) hf HC0.out
   have HR1 : Aside0 (Kd.C (Kd.int .u8) w0 A1 ((l0.take fin.toNat).drop beg.toNat).length ((l0.take fin.toNat).drop beg.toNat)) := am (Kd.C_of_reads (h1 := fun _ => rfl) (hA _ (Kd.reads_of_C HR0.out)))
   obtain ⟨zs, hz⟩ : ∃ zs : List Int, zs = (l0.take fin.toNat).drop beg.toNat := ⟨_, rfl⟩
   have HZL := am (show zs.length = (fin - beg).toNat by rw [hz, List.length_drop, List.length_take]; omega)
   rw [← hz] at hcut HR1
   rw [← hy, ← hz]
   obtain ⟨yz, hyz⟩ : ∃ yz : List Int, yz = y ++ zs := ⟨_, rfl⟩
   have HYZ := am hyz
   rw [← hyz]
   clear hyz
   clear hA hC hy hz
   go_enter Try.func77, Try.ntmps77
   go_wp2_with (first | ((with_reducible refine gate_builtin (b := .append) (xs := #[.tmp 8, .tmp 14]) rfl ?_); at_builtin; refine Kd.R_append (Kd.int .u8) (w0 := w0) w0.heap.size rfl (.tmp 8) (.tmp 14) 27 5 (.int .u8 0) 1 rfl Try.underlying27 info5 rfl (by decide) (by omega) (.slice Ao out.length co) out ((fin - beg - 1) % 256) [.int .u8 ((fin - beg - 1) % 256)] (fun k_ => g + 3 ≤ k_) (fun _ => False) rfl rfl ?aP (fun _ hk => hk.elim) ?aF ?aO ?aB ?aS ?aL ?_; (case aP => exact rfl); (case aB => exact HS.out.B); (case aF => exact (fun k_ hk => by have := lt_of_block HS.out.n; omega)); (case aO => exact HS.out.r); (case aS => exact HS.out.B.size); (case aL => omega); intro v1 w1 ho hb hg hat; rw [← HYE.out] at ho; have HX := am (HS.out.grown hg hb ho); obtain ⟨z1, z2⟩ := HS.out.grown_o hg; clear ho hb hg hat; obtain ⟨A2, c2, e2⟩ := Kd.R_slice HX.out.r; subst e2; have q4 := cell_of_one HX.out.b; have q5 := cell_of_one HX.out.o; have q6 := cell_of_one HX.out.n))
   refine start_ (n := 7) (S := fun w' => w'.cell? ⟨g, 0, none⟩ = some (.slice A0 l0.length c0) ∧ w'.cell? ⟨g + 1, 0, none⟩ = some (.slice A2 y.length c2) ∧ w'.cell? ⟨g + 2, 0, none⟩ = some (.int .i64 beg)) (ds := [5, 6]) #[false, false, false, false, false, false, false] (by kernel_rfl) rfl rfl ⟨q4, q5, q6⟩ (fun hHeld => ?_)
   have HX2 := am HX.out.drew
   generalize (w1.setCell ⟨g + 1, 0, none⟩ (.slice A2 y.length c2)).drew = w3 at HX2 hHeld ⊢
   have HR2 := am (Kd.C_below HR1.out HX2.out.B)
   refine pure_ (i := 3) (N := some 19) (v := ?_) (a' := ?_) #[false, false, false, true, false, false, false] rfl rfl (by kernel_rfl) (fun _ _ _ h => h) (Or.inl ⟨by rfl, ?_⟩) ?_ ?_
   rotate_left
   ·
    intro w'
    go_simp
    with_reducible rfl
   rotate_left
   ·
    simp only [Act.put, List.setIfInBounds_toArray, List.set_cons_zero, List.set_cons_succ, i64_w, i32_w]
    rfl
   refine take_ (i := 0) (N := some 16) (v := ?_) (a' := ?_) #[true, false, false, true, false, false, false] rfl rfl (by kernel_rfl) (fun _ _ _ h => h) (Or.inl ⟨by rfl, ?_⟩) hHeld ?_ ?_
   rotate_left
   ·
    rintro w' ⟨s0, s1, s2⟩
    go_simp
    with_reducible rfl
   rotate_left
   ·
    simp only [Act.put, List.setIfInBounds_toArray, List.set_cons_zero, List.set_cons_succ, i64_w, i32_w]
    rfl
   refine take_ (i := 1) (N := some 17) (v := ?_) (a' := ?_) #[true, true, false, true, false, false, false] rfl rfl (by kernel_rfl) (fun _ _ _ h => h) (Or.inl ⟨by rfl, ?_⟩) hHeld ?_ ?_
   rotate_left
   ·
    rintro w' ⟨s0, s1, s2⟩
    go_simp
    with_reducible rfl
   rotate_left
   ·
    simp only [Act.put, List.setIfInBounds_toArray, List.set_cons_zero, List.set_cons_succ, i64_w, i32_w]
    rfl
   refine take_ (i := 2) (N := some 18) (v := ?_) (a' := ?_) #[true, true, true, true, false, false, false] rfl rfl (by kernel_rfl) (fun _ _ _ h => h) (Or.inl ⟨by rfl, ?_⟩) hHeld ?_ ?_
   rotate_left
   ·
    rintro w' ⟨s0, s1, s2⟩
    go_simp
    with_reducible rfl
   rotate_left
   ·
    simp only [Act.put, List.setIfInBounds_toArray, List.set_cons_zero, List.set_cons_succ, i64_w, i32_w]
    rfl
   refine pure_ (i := 4) (N := some 20) (v := ?_) (a' := ?_) #[true, true, true, true, true, false, false] rfl rfl (by kernel_rfl) (fun _ _ _ h => h) (Or.inl ⟨by rfl, ?_⟩) ?_ ?_
   rotate_left
   ·
    intro w'
    go_simp
    with_reducible rfl
   rotate_left
   ·
    simp only [Act.put, List.setIfInBounds_toArray, List.set_cons_zero, List.set_cons_succ, i64_w, i32_w]
    rfl
   refine last_ (i := 5) (N := some 21) #[true, true, true, true, true, true, false] rfl rfl (by kernel_rfl) (by decide) (fun K hK => ?_)
   refine Kd.R_append_rows_step (Kd.int .u8) (w0 := w0) w0.heap.size (by rfl) (.tmp 16) (.tmp 20) 27 5 (.int .u8 0) 1 rfl Try.underlying27 info5 rfl (by decide) (by omega) _ y zs _ _ _ (fun k_ => g + 3 ≤ k_) (fun _ => False) rfl rfl ?bO ?bR (fun _ _ h => h) (fun _ h => h.elim) ?bF ?bB ?bS ?bL ?_
   case bR => exact HR2.out
   case bB => exact HX2.out.B
   case bF => exact (fun k_ hk => by have := lt_of_block HX2.out.n; omega)
   case bO => exact HX2.out.r
   case bS => exact HX2.out.B.size
   case bL => have := HYL.out; have := HZL.out; omega
   intro v2 w2 ho hb hg hat
   rw [← HYZ.out] at ho
   have HY := am (HX2.out.grown hg hb ho)
   obtain ⟨y1, y2⟩ := HX2.out.grown_o hg
   clear ho hb hg hat
   obtain ⟨A3, c3, e3⟩ := Kd.R_slice HY.out.r
   subst e3
   refine hK.out _ _ ?_
   clear hK K
   refine norm_ (a' := ?_) ?_ ?_
   rotate_left
   ·
    show Act.put _ (some 21) _ = _
    simp only [Act.put, List.setIfInBounds_toArray, List.set_cons_zero, List.set_cons_succ, i64_w, i32_w]
    rfl
   refine last_ (i := 6) (N := none) #[true, true, true, true, true, true, true] rfl rfl (by kernel_rfl) (by decide) (fun K hK => ?_)
   refine skip_ (w1 := ?_) (by rfl) rfl ?_ ?_
   rotate_left
   ·
    go_simp
    rfl
   refine hK.out _ _ ?_
   clear hK K
   refine done_ (by kernel_rfl) ?_
   have q7 := cell_of_one HY.out.b
   have q8 := cell_of_one HY.out.n
   have y3 := free_of_one HY.out.n
   go_wp2
   go_end0
   exact ⟨rfl, _, HY.out.setBeg fin⟩
  ·
   rw [if_neg c1] at h
   exact absurd h (by simp)
 ·
  rw [if_neg c] at h
  obtain rfl := Option.some.inj h
  go_enter Try.func77, Try.ntmps77
  go_wp2
  go_end0
  exact ⟨rfl, _, HS.out.setBeg fin⟩
def pack_Pack.go (k : Nat) (l0 : List Int) : Nat → Int → Int → List Int → Option (List Int)
 | 0, _, _, _ => none
 | n + 1, i, beg, out =>
  if i < (l0.length : Int) then
   (pack_longest.f k l0 i).bind fun p =>
    if p.1 < 3 then
     (if i + 1 - beg = 128 then (pack_Pack.flush l0 out beg (i + 1)).bind fun o => pack_Pack.go k l0 n (i + 1) (i + 1) o else pack_Pack.go k l0 n (i + 1) beg out)
    else
     (if p.1 ≤ 130 ∧ i + p.1 ≤ (l0.length : Int) then
      (pack_Pack.flush l0 out beg i).bind fun o => if o.length + 2 < 140737488355328 then pack_Pack.go k l0 n (i + p.1) (i + p.1) (o ++ [p.1 - 3 + 128, p.2 % 256]) else none
     else none)
  else pack_Pack.flush l0 out beg (l0.length : Int)
def pack_Pack.f (k : Nat) (l0 : List Int) : Option (List Int) := pack_Pack.go k l0 k 0 0 []
theorem pack_Pack.mono_go (l0 : List Int) : ∀ n k i beg out, LeO (pack_Pack.go k l0 n i beg out) (pack_Pack.go (k + 1) l0 (n + 1) i beg out) := by
 intro n
 induction n with
 | zero => intro k i beg out; exact fun r h => by simp [pack_Pack.go] at h
 | succ n ih =>
  intro k i beg out
  rw [pack_Pack.go, pack_Pack.go]
  by_cases c : i < (l0.length : Int)
  ·
   rw [if_pos c, if_pos c]
   refine LeO.bind (pack_longest.mono _ _ _) fun p => ?_
   by_cases c1 : p.1 < 3
   ·
    rw [if_pos c1, if_pos c1]
    by_cases c2 : i + 1 - beg = 128
    ·
     rw [if_pos c2, if_pos c2]
     exact LeO.bind (LeO.refl _) fun o => ih _ _ _ _
    ·
     rw [if_neg c2, if_neg c2]
     exact ih _ _ _ _
   ·
    rw [if_neg c1, if_neg c1]
    by_cases c2 : p.1 ≤ 130 ∧ i + p.1 ≤ (l0.length : Int)
    ·
     rw [if_pos c2, if_pos c2]
     refine LeO.bind (LeO.refl _) fun o => ?_
     by_cases c3 : o.length + 2 < 140737488355328
     ·
      rw [if_pos c3, if_pos c3]
      exact ih _ _ _ _
     ·
      rw [if_neg c3, if_neg c3]
      exact LeO.refl _
    ·
     rw [if_neg c2, if_neg c2]
     exact LeO.refl _
  ·
   rw [if_neg c, if_neg c]
   exact LeO.refl _
theorem pack_Pack.mono : ∀ a0 k, LeO (pack_Pack.f k a0) (pack_Pack.f (k + 1) a0) := fun a0 k => pack_Pack.mono_go a0 k k 0 0 []
set_option maxHeartbeats 4000000 in
set_option maxRecDepth 100000 in
theorem pack_Pack.calls (k : Nat) (A0 : Option Addr) (c0 : Nat) (l0 : List Int) (r : List Int) (w : World) (hr0 : Kd.C (Kd.int .u8) w A0 l0.length l0) (hc0 : l0.length ≤ c0) (h : pack_Pack.f k l0 = some r) :
  Calls Try.prog 51 #[.slice A0 l0.length c0] w fun e w' => ∃ v0_ : Value, e = .returned (v0_) ∧ Kd.R (Kd.int .u8) 5 w' w.heap.size (fun _ => True) v0_ r ∧ Below w.heap.size w w' := by
 have HR0 := am hr0
 have hc0' := hc0
 have HC0 := am hc0
 have hmax : l0.length ≤ 9223372036854775807 := hr0.2.1
 have H' := am h
 obtain ⟨W3, hW3⟩ : ∃ W3 : World, W3 = ((w.alloc (.cells #[.slice A0 l0.length c0] 27)).alloc (.cells #[.slice none 0 0] 27)).alloc (.cells #[.int .i64 0] 3) := ⟨_, rfl⟩
 have HS := am (show pack_Pack.St w W3 w.heap.size (.slice none 0 0) A0 c0 l0 [] 0 by
  subst hW3
  refine ⟨?_, ?_, Kd.R_nil _ _ _ _ _, ?_, below_alloc (below_alloc (below_alloc (Below.refl _ _) _) _) _, Nat.le_refl _⟩
  ·
   rw [heap_alloc_old _ _ (by simp; omega), heap_alloc_old _ _ (by simp), heap_alloc_new]
  ·
   rw [heap_alloc_old _ _ (by simp), show w.heap.size + 1 = (w.alloc (.cells #[.slice A0 l0.length c0] 27)).heap.size by simp, heap_alloc_new]
  ·
   rw [show w.heap.size + 2 = ((w.alloc (.cells #[.slice A0 l0.length c0] 27)).alloc (.cells #[.slice none 0 0] 27)).heap.size by simp, heap_alloc_new])
 clear hr0 hc0 h
 have hmf : ∀ (fn : Fn) (first cap : Array Value) (w : World), (Instr.makeFunc fn first cap).run Try.prog w = .ok (.func fn first cap) w := fun _ _ _ _ => rfl
 go_enter Try.func51, Try.ntmps51
 go_wp2
 rw [← hW3]
 clear hW3
 go_loopg [6] k (fun kq v6 w' => ∃ (i beg : Int) (v : Value) (out : List Int), v6 = .int .i64 i ∧ 0 ≤ beg ∧ beg ≤ i ∧ i ≤ (l0.length : Int) ∧ Aside0 (pack_Pack.go k l0 kq i beg out = some r) ∧ Aside0 (pack_Pack.St w w' w.heap.size v A0 c0 l0 out beg))
 case atStart => exact ⟨0, 0, _, [], rfl, by omega, by omega, by omega, H', HS⟩
 case round =>
  clear H' HS
  obtain ⟨i, beg, v, out, rfl, hb0, hbi, hil, HA, HS⟩ := hrel
  have q1 := cell_of_one HS.out.b
  have q3 : wr.cell? ⟨w.heap.size + 1 + 1, 0, none⟩ = some (.int .i64 beg) := cell_of_one HS.out.n
  cases gk with
  | zero => exact absurd HA.out (by simp [pack_Pack.go])
  | succ k1 =>
   have H := HA.out
   clear HA
   rw [pack_Pack.go] at H
   by_cases c : i < (l0.length : Int)
   ·
    rw [if_pos c] at H
    obtain ⟨p, hp, H⟩ := Option.bind_eq_some_iff.mp H
    obtain ⟨l, d⟩ := p
    have HP := am hp
    clear hp
    by_cases c1 : l < 3
    ·
     rw [if_pos c1] at H
     by_cases c2 : i + 1 - beg = 128
     ·
      rw [if_pos c2] at H
      obtain ⟨o, ho, H⟩ := Option.bind_eq_some_iff.mp H
      have HF := am ho
      have H' := am H
      clear ho H
      go_wp2_with (first | (go_at_call 78; refine (pack_longest.calls k A0 c0 l0 i l d _ (Kd.C_below HR0.out HS.out.B) HC0.out HP.out).mono ?_; rintro e w5 ⟨rfl, hb⟩; have HS1 := am (HS.out.below hb); clear hb; have q4 := cell_of_one HS1.out.b; have q5 := cell_of_one HS1.out.n) | (go_at_call 77; refine (pack_Pack.flush_calls w _ w.heap.size v A0 c0 l0 out o beg (i + 1) HS1.out hb0 (by omega) HR0.out HC0.out HF.out).mono ?_; rintro e w6 ⟨rfl, v', hs⟩; have HS2 := am hs; clear hs))
      go_roundg k1
      case measure => omega
      case rel => exact ⟨i + 1, i + 1, v', o, rfl, by omega, by omega, by omega, H', HS2⟩
     ·
      rw [if_neg c2] at H
      have H' := am H
      clear H
      go_wp2_with (go_at_call 78; refine (pack_longest.calls k A0 c0 l0 i l d _ (Kd.C_below HR0.out HS.out.B) HC0.out HP.out).mono ?_; rintro e w5 ⟨rfl, hb⟩; have HS1 := am (HS.out.below hb); clear hb; have q4 := cell_of_one HS1.out.b; have q5 := cell_of_one HS1.out.n)
      go_roundg k1
      case measure => omega
      case rel => exact ⟨i + 1, beg, v, out, rfl, by omega, by omega, by omega, H', HS1⟩
    ·
     rw [if_neg c1] at H
     by_cases c2 : l ≤ 130 ∧ i + l ≤ (l0.length : Int)
     ·
      rw [if_pos c2] at H
      obtain ⟨o, ho, H⟩ := Option.bind_eq_some_iff.mp H
      have HF := am ho
      clear ho
      obtain ⟨c3, c4⟩ := c2
      by_cases c5 : o.length + 2 < 140737488355328
      ·
       rw [if_pos c5] at H
       have HL := am c5
       obtain ⟨oz, hoz⟩ : ∃ oz : List Int, oz = o ++ [l - 3 + 128, d % 256] := ⟨_, rfl⟩
       rw [← hoz] at H
       have HOZ := am hoz
       clear hoz
       have H' := am H
       clear H c5
       go_wp2_with (first | (go_at_call 78; refine (pack_longest.calls k A0 c0 l0 i l d _ (Kd.C_below HR0.out HS.out.B) HC0.out HP.out).mono ?_; rintro e w5 ⟨rfl, hb⟩; have HS1 := am (HS.out.below hb); clear hb; have q4 := cell_of_one HS1.out.b; have q5 := cell_of_one HS1.out.n) | (go_at_call 77; refine (pack_Pack.flush_calls w _ w.heap.size v A0 c0 l0 out o beg i HS1.out hb0 (by omega) HR0.out HC0.out HF.out).mono ?_; rintro e w6 ⟨rfl, v', hs⟩; have HS2 := am hs; clear hs; obtain ⟨A2, c2, e2⟩ := Kd.R_slice HS2.out.r; subst e2; have q6 := cell_of_one HS2.out.b; have q7 := cell_of_one HS2.out.o; have q8 : World.cell? w6 ⟨w.heap.size + 1 + 1, 0, none⟩ = some (.int .i64 i) := cell_of_one HS2.out.n; have f7 := free_of_one HS2.out.o; have f8 : World.frozen? w6 ⟨w.heap.size + 1 + 1, 0, none⟩ = false := free_of_one HS2.out.n) | ((with_reducible refine gate_builtin (b := .append) (xs := #[.tmp 34, .tmp 41]) rfl ?_); at_builtin; refine Kd.R_append_rows (Kd.int .u8) (w0 := w) w.heap.size rfl (.tmp 34) (.tmp 41) 27 5 (.int .u8 0) 1 rfl Try.underlying27 info5 rfl (by decide) (by omega) _ o [l - 3 + 128, d % 256] (some ⟨w6.heap.size, 0, none⟩) 2 2 (fun k_ => w.heap.size + 3 ≤ k_) (fun _ => False) rfl rfl ?aO ?aR (fun _ _ h => h) (fun _ h => h.elim) ?aF ?aB ?aS ?aL ?_; (case aR => exact ow_reads_new w6 .u8 [l - 3 + 128, d % 256] 5 (0, 0) (by simp)); (case aB => exact below_alloc HS2.out.B _); (case aF => exact (fun k_ hk => by have := lt_of_block HS2.out.n; simp at hk; omega)); (case aO => exact Kd.R_alloc HS2.out.r _); (case aS => exact (below_alloc HS2.out.B _).size); (case aL => have := HL.out; omega); intro v3 w7 ho hb hg hat; rw [← HOZ.out] at ho; obtain ⟨A3, c3_, e3⟩ := Kd.R_slice ho; subst e3; have HS3 := am ((HS2.out.below (below_alloc (Below.refl _ _) _)).grown hg hb ho); obtain ⟨z1, z2⟩ := (HS2.out.below (below_alloc (Below.refl _ _) _)).grown_o hg; clear ho hb hg hat; have q9 : World.cell? _ ⟨w.heap.size + 1 + 1, 0, none⟩ = _ := cell_of_one HS3.out.n; have f9 : World.frozen? _ ⟨w.heap.size + 1 + 1, 0, none⟩ = false := free_of_one HS3.out.n))
       go_roundg k1
       case measure => omega
       case rel => exact ⟨i + l, i + l, _, _, rfl, by omega, by omega, by omega, H', ⟨HS3.out.setBeg (i + l)⟩⟩
      ·
       rw [if_neg c5] at H
       exact absurd H (by simp)
     ·
      rw [if_neg c2] at H
      exact absurd H (by simp)
   ·
    rw [if_neg c] at H
    obtain rfl : i = (l0.length : Int) := by omega
    have HF := am H
    clear H
    go_wp2_with (go_at_call 77; refine (pack_Pack.flush_calls w _ w.heap.size v A0 c0 l0 out r beg (l0.length : Int) HS.out hb0 (by omega) HR0.out HC0.out HF.out).mono ?_; rintro e w6 ⟨rfl, v', hs⟩; have HS2 := am hs; clear hs; obtain ⟨A2, c2, e2⟩ := Kd.R_slice HS2.out.r; subst e2; have q7 := cell_of_one HS2.out.o)
    go_ret
    exact ⟨_, rfl, Kd.R_mono HS2.out.r (fun _ _ => trivial), HS2.out.B⟩
mutual
def block_Sum.l0 : Nat → Int → List Int → Int → Int → Option (Int)
 | 0, _, _, _, _ => none
 | k + 1, x3, x7, x8, x9 => if x9 < x8 then (if 0 ≤ x9 then (if x9 < (x7.length : Int) then (block_Sum.l1 k (Go.bits .xor .u32 x3 ((rd x7 x9) % 4294967296)) x7 x8 x9 0) else (none)) else (none)) else (some (Go.bits .xor .u32 4294967295 x3))
def block_Sum.l1 : Nat → Int → List Int → Int → Int → Int → Option (Int)
 | 0, _, _, _, _, _ => none
 | k + 1, x3, x7, x8, x9, x17 => if x17 < 8 then (if (Go.bits .and .u32 x3 1) = 1 then (block_Sum.l1 k (Go.bits .xor .u32 (x3 / 2) 3988292384) x7 x8 x9 (wrap64 (x17 + 1))) else (block_Sum.l1 k (x3 / 2) x7 x8 x9 (wrap64 (x17 + 1)))) else (block_Sum.l0 k x3 x7 x8 (wrap64 (x9 + 1)))
end
def block_Sum.f (k : Nat) (l0 : List Int) : Option (Int) := block_Sum.l0 k 4294967295 l0 (l0.length : Int) 0
theorem block_Sum.mono_l : ∀ k, (∀ y0 y1 y2 y3, LeO (block_Sum.l0 k y0 y1 y2 y3) (block_Sum.l0 (k + 1) y0 y1 y2 y3)) ∧ (∀ y0 y1 y2 y3 y4, LeO (block_Sum.l1 k y0 y1 y2 y3 y4) (block_Sum.l1 (k + 1) y0 y1 y2 y3 y4))
 | 0 => ⟨fun _ _ _ _ r h => by simp [block_Sum.l0] at h, fun _ _ _ _ _ r h => by simp [block_Sum.l1] at h⟩
 | k + 1 => by
  obtain ⟨ih0, ih1⟩ := block_Sum.mono_l k
  refine ⟨?_, ?_⟩
  ·
   intro y0 y1 y2 y3
   unfold block_Sum.l0
   exact zM
  ·
   intro y0 y1 y2 y3 y4
   unfold block_Sum.l1
   exact zM
theorem block_Sum.mono : ∀ a0 k, LeO (block_Sum.f k a0) (block_Sum.f (k + 1) a0) := by
 intro a0 k
 obtain ⟨ih0, ih1⟩ := block_Sum.mono_l k
 unfold block_Sum.f
 exact zM
set_option maxHeartbeats 8000000 in
set_option maxRecDepth 100000 in
theorem block_Sum.calls (k : Nat) (A0 : Option Addr) (c0 : Nat) (l0 : List Int) (r : Int) (w : World) (hr0 : Kd.C (Kd.int .u8) w A0 l0.length l0) (hc0 : l0.length ≤ c0) (h : block_Sum.f k l0 = some r) :
  Calls Try.prog 57 #[.slice A0 l0.length c0] w fun e w' => e = .returned (.int .u32 r) ∧ Drawn0 w w' := by
 have HR0 := am hr0
 have HC0 := am hc0
 clear hr0 hc0
 have H : (block_Sum.l0 k 4294967295 l0 (l0.length : Int) 0) = some r := h
 clear h
 have H' := am H
 clear H
 go_enter Try.func57, Try.ntmps57
 go_wp2
 go_loopg [3, 9] k (fun kq v3 v9 w' => ∃ (x3_1 : Int) (x9_1 : Int), v3 = .int .u32 x3_1 ∧ v9 = .int .i64 x9_1 ∧ Aside0 (block_Sum.l0 kq x3_1 l0 (l0.length : Int) x9_1 = some r) ∧ Aside0 (kq ≤ k) ∧ Drawn0 w w')
 case atStart => exact ⟨(4294967295), (0), zr, zr, H', ⟨Nat.le_refl _⟩, by repeat (first | exact Drawn0.refl _ | apply Drawn0.step)⟩
 case round =>
  clear H'
  obtain ⟨x3_1, x9_1, rfl, rfl, HA, HK1, ⟨m1, rfl⟩⟩ := hrel
  cases gk with
  | zero => exact absurd HA.out (by simp [block_Sum.l0])
  | succ k1 =>
   have H := HA.out
   clear HA
   simp only [block_Sum.l0] at H
   by_cases c2 : x9_1 < (l0.length : Int)
   ·
    rw [if_pos c2] at H
    have c2b0 := decide_eq_true c2
    clear c2
    by_cases c3 : 0 ≤ x9_1
    ·
     rw [if_pos c3] at H
     have c3b0 := decide_eq_true c3
     clear c3
     by_cases c4 : x9_1 < (l0.length : Int)
     ·
      rw [if_pos c4] at H
      have c4b0 := decide_eq_true c4
      clear c4
      have H' := am H
      clear H
      have p307 : 0 ≤ (x9_1 : Int) := zo
      have q307 : x9_1 < (l0.length : Int) := zo
      obtain ⟨ad307, e307, hx307_0⟩ := Kd.at_int HR0.out x9_1 p307 q307
      cases e307
      replace p307 := eq_true p307
      replace q307 := eq_true q307
      go_wp2
      go_loopg [3, 17] k1 (fun kq v3 v17 w' => ∃ (x3_2 : Int) (x17_2 : Int), v3 = .int .u32 x3_2 ∧ v17 = .int .i64 x17_2 ∧ Aside0 (block_Sum.l1 kq x3_2 l0 (l0.length : Int) x9_1 x17_2 = some r) ∧ Aside0 (kq ≤ k1) ∧ Drawn0 w w')
      case atStart => exact ⟨(Go.bits .xor .u32 x3_1 ((rd l0 x9_1) % 4294967296)), (0), zr, zr, H', ⟨Nat.le_refl _⟩, by repeat (first | exact Drawn0.refl _ | apply Drawn0.step)⟩
      case round =>
       clear H'
       obtain ⟨x3_2, x17_2, rfl, rfl, HA, HK2, ⟨m2, rfl⟩⟩ := hrel
       cases gk with
       | zero => exact absurd HA.out (by simp [block_Sum.l1])
       | succ k2 =>
        have H := HA.out
        clear HA
        simp only [block_Sum.l1] at H
        by_cases c5 : x17_2 < 8
        ·
         rw [if_pos c5] at H
         have c5b0 := decide_eq_true c5
         clear c5
         by_cases c6 : (Go.bits .and .u32 x3_2 1) = 1
         ·
          rw [if_pos c6] at H
          obtain ⟨c6b0, c6b1⟩ := zt c6
          clear c6
          have H' := am H
          clear H
          go_wp2
          go_roundg k2
          case measure => have := HK1.out; have := HK2.out; omega
          case rel => exact ⟨(Go.bits .xor .u32 (x3_2 / 2) 3988292384), (wrap64 (x17_2 + 1)), zr, zr, H', ⟨by have := HK1.out; have := HK2.out; omega⟩, by repeat (first | exact Drawn0.refl _ | apply Drawn0.step)⟩
         ·
          rw [if_neg c6] at H
          obtain ⟨c6b0, c6b1⟩ := zs c6
          have H' := am H
          clear H
          go_wp2
          go_roundg k2
          case measure => have := HK1.out; have := HK2.out; omega
          case rel => exact ⟨(x3_2 / 2), (wrap64 (x17_2 + 1)), zr, zr, H', ⟨by have := HK1.out; have := HK2.out; omega⟩, by repeat (first | exact Drawn0.refl _ | apply Drawn0.step)⟩
        ·
         rw [if_neg c5] at H
         have c5b0 := decide_eq_false c5
         clear c5
         have H' := am H
         clear H
         go_wp2
         go_roundg k2
         case measure => have := HK1.out; have := HK2.out; omega
         case rel => exact ⟨(x3_2), (wrap64 (x9_1 + 1)), zr, zr, H', ⟨by have := HK1.out; have := HK2.out; omega⟩, by repeat (first | exact Drawn0.refl _ | apply Drawn0.step)⟩
     ·
      rw [if_neg c4] at H
      exact absurd H (by simp)
    ·
     rw [if_neg c3] at H
     exact absurd H (by simp)
   ·
    rw [if_neg c2] at H
    have c2b0 := decide_eq_false c2
    clear c2
    obtain rfl := Option.some.inj H
    go_wp2
    go_ret
    exact y25
def block_seal.f (k : Nat) (l0 : List Int) : Option (Int × Int × Int × Int) := (block_Sum.f k l0).bind fun t309 => (some ((t309 / 16777216) % 256, (t309 / 65536) % 256, (t309 / 256) % 256, (t309) % 256))
theorem block_seal.mono : ∀ a0 k, LeO (block_seal.f k a0) (block_seal.f (k + 1) a0) := by
 intro a0 k
 unfold block_seal.f
 exact zM
set_option maxHeartbeats 8000000 in
set_option maxRecDepth 100000 in
theorem block_seal.calls (k : Nat) (A0 : Option Addr) (c0 : Nat) (l0 : List Int) (r1 : Int) (r2 : Int) (r3 : Int) (r4 : Int) (w : World) (hr0 : Kd.C (Kd.int .u8) w A0 l0.length l0) (hc0 : l0.length ≤ c0) (h : block_seal.f k l0 = some (r1, r2, r3, r4)) :
  Calls Try.prog 52 #[.slice A0 l0.length c0] w fun e w' => e = .returned (.agg #[.int .u8 r1, .int .u8 r2, .int .u8 r3, .int .u8 r4]) ∧ Below w.heap.size w w' := by
 have hu97 := Try.underlying97
 have HR0 := am hr0
 have HC0 := am hc0
 clear hr0 hc0
 have HB := am (Below.refl w.heap.size w)
 have H : ((block_Sum.f k l0).bind fun t309 => (some ((t309 / 16777216) % 256, (t309 / 65536) % 256, (t309 / 256) % 256, (t309) % 256))) = some (r1, r2, r3, r4) := h
 clear h
 replace H := Option.bind_eq_some_iff.mp H
 obtain ⟨t309, A20, H⟩ := H
 (try dsimp only at H)
 have A2 := am A20
 clear A20
 simp only [Option.some.injEq, Prod.mk.injEq] at H
 obtain ⟨rfl, rfl, rfl, rfl⟩ := H
 go_enter Try.func52, Try.ntmps52
 go_wp2_with (first | ((with_reducible refine gate_dst (N := 2) rfl ?_); refine zB 2 #[.int .u8 0, .int .u8 0, .int .u8 0, .int .u8 0] 97 ?_; intro gb308 hg w3 hbox hb; have BK308 := am (hbox); have GE308 := zG hg (zb HB); replace HB := am (below_step (zb HB) hb); clear hb hbox hg) | ((with_reducible refine gate_callee (f := 57) rfl ?_); refine goesL_ (some 5) rfl rfl Try.func57 (by kernel_rfl) rfl #[.slice A0 l0.length c0] rfl zg ?_; (with_reducible refine (block_Sum.calls k _ _ l0 t309 _ ?side1 ?side2 A2.out).mono ?_); (case side1 => exact y43); (case side2 => exact HC0.out); rintro e w' ⟨rfl, ⟨nd, rfl⟩⟩; refine ⟨_, rfl, ?_⟩; (try (rw [drewN_self w3]; generalize hq_ : World.drewN w3 _ = w3; have n0_ : Aside0 (w3.heap[gb308]? = some (.cells #[.int .u8 0, .int .u8 0, .int .u8 0, .int .u8 0] 97 (0, 0))) := ⟨by rw [← hq_]; exact (zu BK308.out)⟩; have n1_ : Aside0 (Below w.heap.size w w3) := ⟨by rw [← hq_]; exact (zb HB)⟩; clear BK308 HB hq_; have BK308 := n0_; have HB := n1_; clear n0_ n1_)); obtain ⟨_, _, _, _, _, _, _, _⟩ := zq4 BK308))
 refine bodyPost_ret (results_cell_row rfl _ _ gb308 97 #[.int .u8 ((t309 / 16777216) % 256), .int .u8 ((t309 / 65536) % 256), .int .u8 ((t309 / 256) % 256), .int .u8 ((t309) % 256)] (0, 0) _ rfl (by refine zu ?_; refine blk_put (cs := #[.int .u8 ((t309 / 16777216) % 256), .int .u8 ((t309 / 65536) % 256), .int .u8 ((t309 / 256) % 256), .int .u8 0]) ?_ 3 _ rfl; refine zu ?_; refine blk_put (cs := #[.int .u8 ((t309 / 16777216) % 256), .int .u8 ((t309 / 65536) % 256), .int .u8 0, .int .u8 0]) ?_ 2 _ rfl; refine zu ?_; refine blk_put (cs := #[.int .u8 ((t309 / 16777216) % 256), .int .u8 0, .int .u8 0, .int .u8 0]) ?_ 1 _ rfl; refine zu ?_; refine blk_put (cs := #[.int .u8 0, .int .u8 0, .int .u8 0, .int .u8 0]) ?_ 0 _ rfl; refine zu ?_; exact BK308.out) Try.underlying97 rfl (by kernel_rfl)) rfl ?_
 exact ⟨ze, zb HB⟩
mutual
def block_Encode.l0 : Nat → List Int → Int → List (S26) → Int → Int → Int → Int → List (S26) → Option (List Int × Int)
 | 0, _, _, _, _, _, _, _, _ => none
 | k + 1, x5, x6, x20, x21, x22, x311000, x311001, x311002 => if x22 < x21 then (if 0 ≤ x22 then (if x22 < (x20.length : Int) then ((event_Append.f k ([] : List Int) ((rd_T26 x20 x22).f0) ((rd_T26 x20 x22).f1.f0) ((rd_T26 x20 x22).f1.f1) ((rd_T26 x20 x22).f1.f2) ((rd_T26 x20 x22).f1.f3) ((rd_T26 x20 x22).f1.f4) ((rd_T26 x20 x22).f1.f5) ((rd_T26 x20 x22).f1.f6) x6).bind fun t314 => (if x5.length + t314.length < 140737488355328 then (block_Encode.l0 k (x5 ++ t314) ((rd_T26 x20 x22).f0) x20 x21 (wrap64 (x22 + 1)) x311000 x311001 x311002) else (none))) else (none)) else (none)) else ((pack_Pack.f k x5).bind fun t320 => ((some (([x311001, (x311002.length : Int), (x5.length : Int), (t320.length : Int)] : List Int) : List Int)).bind fun y326 => (block_Encode.l1 k t320 (([84, (x311000) % 256] : List Int)) y326 (y326.length : Int) 0)))
def block_Encode.l1 : Nat → List Int → List Int → List Int → Int → Int → Option (List Int × Int)
 | 0, _, _, _, _, _ => none
 | k + 1, x9, x10, x49, x50, x51 => if x51 < x50 then (if 0 ≤ x51 then (if x51 < (x49.length : Int) then ((event_PutInt.f k x10 (rd x49 x51)).bind fun t330 => (block_Encode.l1 k x9 t330 x49 x50 (wrap64 (x51 + 1)))) else (none)) else (none)) else (if x10.length + x9.length < 140737488355328 then ((some (x10 ++ x9 : List Int)).bind fun y333 => ((block_seal.f k y333).bind fun bt336 => (if y333.length + [bt336.1, bt336.2.1, bt336.2.2.1, bt336.2.2.2].length < 140737488355328 then (some ((y333 ++ [bt336.1, bt336.2.1, bt336.2.2.1, bt336.2.2.2]), 0)) else (none)))) else (none))
end
def block_Encode.f (k : Nat) (a0_0 : Int) (a0_1 : Int) (l0_2 : List (S26)) : Option (List Int × Int) := (block_check.f k a0_0 a0_1 l0_2).bind fun t311 => (if t311 = 0 then (block_Encode.l0 k ([] : List Int) (-1) l0_2 (l0_2.length : Int) 0 a0_0 a0_1 l0_2) else (some (([] : List Int), t311)))
theorem block_Encode.mono_l : ∀ k, (∀ y0 y1 y2 y3 y4 y5 y6 y7, LeO (block_Encode.l0 k y0 y1 y2 y3 y4 y5 y6 y7) (block_Encode.l0 (k + 1) y0 y1 y2 y3 y4 y5 y6 y7)) ∧ (∀ y0 y1 y2 y3 y4, LeO (block_Encode.l1 k y0 y1 y2 y3 y4) (block_Encode.l1 (k + 1) y0 y1 y2 y3 y4))
 | 0 => ⟨fun _ _ _ _ _ _ _ _ r h => by simp [block_Encode.l0] at h, fun _ _ _ _ _ r h => by simp [block_Encode.l1] at h⟩
 | k + 1 => by
  obtain ⟨ih0, ih1⟩ := block_Encode.mono_l k
  refine ⟨?_, ?_⟩
  ·
   intro y0 y1 y2 y3 y4 y5 y6 y7
   unfold block_Encode.l0
   exact zM
  ·
   intro y0 y1 y2 y3 y4
   unfold block_Encode.l1
   exact zM
theorem block_Encode.mono : ∀ a0 a1 a2 k, LeO (block_Encode.f k a0 a1 a2) (block_Encode.f (k + 1) a0 a1 a2) := by
 intro a0 a1 a2 k
 obtain ⟨ih0, ih1⟩ := block_Encode.mono_l k
 unfold block_Encode.f
 exact zM
set_option maxHeartbeats 8000000 in
set_option maxRecDepth 100000 in
theorem block_Encode.calls (k : Nat) (a0_0 : Int) (a0_1 : Int) (A0_2 : Option Addr) (c0_2 : Nat) (l0_2 : List (S26)) (r1 : List Int) (r2 : Int) (w : World) (hr0_2 : Kd.C k26 w A0_2 l0_2.length l0_2) (hc0_2 : l0_2.length ≤ c0_2) (h : block_Encode.f k a0_0 a0_1 l0_2 = some (r1, r2)) :
  Calls Try.prog 21 #[.agg #[.int .i64 a0_0, .int .i64 a0_1, .slice A0_2 l0_2.length c0_2]] w fun e w' => ∃ v0_ : Value, e = .returned (.tuple #[v0_, .int .i64 r2]) ∧ Kd.R (Kd.int .u8) 5 w' w.heap.size (fun _ => True) v0_ r1 ∧ Below w.heap.size w w' := by
 have hu42 := Try.underlying42
 have hu26 := Try.underlying26
 have hu97 := Try.underlying97
 have HR0_2 := am hr0_2
 have HC0_2 := am hc0_2
 clear hr0_2 hc0_2
 have HB := am (Below.refl w.heap.size w)
 have H : ((block_check.f k a0_0 a0_1 l0_2).bind fun t311 => (if t311 = 0 then (block_Encode.l0 k ([] : List Int) (-1) l0_2 (l0_2.length : Int) 0 a0_0 a0_1 l0_2) else (some (([] : List Int), t311)))) = some (r1, r2) := h
 clear h
 replace H := Option.bind_eq_some_iff.mp H
 obtain ⟨t311, A20, H⟩ := H
 (try dsimp only at H)
 have A2 := am A20
 clear A20
 by_cases c3 : t311 = 0
 ·
  rw [if_pos c3] at H
  obtain ⟨c3b0, c3b1⟩ := zt c3
  clear c3
  have H' := am H
  clear H
  go_enter Try.func21, Try.ntmps21
  go_wp2_with (first | ((with_reducible refine gate_dst (N := 1) rfl ?_); refine zB 1 #[.int .i64 a0_0, .int .i64 a0_1, .slice A0_2 l0_2.length c0_2] 42 ?_; intro gb310 hg w4 hbox hb; have BK310 := am (hbox); have GE310 := zG hg (zb HB); replace HB := am (below_step (zb HB) hb); clear hb hbox hg; obtain ⟨hcz5_0, hcz5_1, hcz5_2⟩ := zc3 BK310; obtain ⟨hfz5_0, hfz5_1, hfz5_2⟩ := zf3 BK310) | ((with_reducible refine gate_callee (f := 50) rfl ?_); refine goesL_ (some 15) rfl rfl Try.func50 (by kernel_rfl) rfl #[.agg #[.int .i64 a0_0, .int .i64 a0_1, .slice A0_2 l0_2.length c0_2]] rfl zg ?_; (with_reducible refine (block_check.calls k a0_0 a0_1 _ _ l0_2 t311 _ ?side1 ?side2 A2.out).mono ?_); (case side1 => exact y42); (case side2 => exact HC0_2.out); rintro e w6 ⟨rfl, hb⟩; refine ⟨_, rfl, ?_⟩; replace BK310 := zk BK310 hb; replace HB := am (below_step (zb HB) hb); clear hb; obtain ⟨hcz7_0, hcz7_1, hcz7_2⟩ := zc3 BK310; obtain ⟨hfz7_0, hfz7_1, hfz7_2⟩ := zf3 BK310))
  go_loopg [5, 6, 22] k (fun kq v5 v6 v22 w' => ∃ (x5_1 : List Int) (x6_1 : Int) (x22_1 : Int), v6 = .int .i64 x6_1 ∧ v22 = .int .i64 x22_1 ∧ Aside0 (block_Encode.l0 kq x5_1 x6_1 l0_2 (l0_2.length : Int) x22_1 a0_0 a0_1 l0_2 = some (r1, r2)) ∧ Aside0 (kq ≤ k) ∧ Aside0 (Kd.R (Kd.int .u8) 5 w' w.heap.size (fun _ => True) v5 x5_1) ∧ Aside0 (w'.heap[gb310]? = some (.cells #[.int .i64 a0_0, .int .i64 a0_1, (.slice A0_2 l0_2.length c0_2)] 42 (0, 0))) ∧ Aside0 (Below w.heap.size w w'))
  case atStart => exact ⟨(([] : List Int)), ((-1)), (0), zr, zr, H', ⟨Nat.le_refl _⟩, ⟨by first | exact Kd.R_nil _ _ _ _ _ | exact Kd.N_nil _ _ _ _ _ | exact Kd.V_nil _ _ _ _ _ | exact Kd.Q_nil _ _ _ _ _ | exact Kd.S_nil _ _ _ _ _⟩, ⟨by refine zu ?_; exact BK310.out⟩, ⟨zb HB⟩⟩
  case round =>
   clear H'
   obtain ⟨x5_1, x6_1, x22_1, rfl, rfl, HA, HK1, HO_5, BK310, HB⟩ := hrel
   cases gk with
   | zero => exact absurd HA.out (by simp [block_Encode.l0])
   | succ k1 =>
    have H := HA.out
    clear HA
    simp only [block_Encode.l0] at H
    by_cases c8 : x22_1 < (l0_2.length : Int)
    ·
     rw [if_pos c8] at H
     have c8b0 := decide_eq_true c8
     clear c8
     by_cases c9 : 0 ≤ x22_1
     ·
      rw [if_pos c9] at H
      have c9b0 := decide_eq_true c9
      clear c9
      by_cases c10 : x22_1 < (l0_2.length : Int)
      ·
       rw [if_pos c10] at H
       have c10b0 := decide_eq_true c10
       clear c10
       replace H := Option.bind_eq_some_iff.mp H
       obtain ⟨t314, A110, H⟩ := H
       (try dsimp only at H)
       have A11 := am A110
       clear A110
       by_cases c12 : x5_1.length + t314.length < 140737488355328
       ·
        rw [if_pos c12] at H
        have LMc12 := am c12
        clear c12
        obtain ⟨y317, hy317⟩ : ∃ y_ : List Int, y_ = (x5_1 ++ t314) := ⟨_, rfl⟩
        replace H : (block_Encode.l0 k1 y317 ((rd_T26 l0_2 x22_1).f0) l0_2 (l0_2.length : Int) (wrap64 (x22_1 + 1)) a0_0 a0_1 l0_2) = some (r1, r2) := by first | (rw [hy317]; with_reducible exact H) | (have H2_ := (Option.bind_some _ _).symm.trans H; rw [hy317]; with_reducible exact H2_) | (have H2_ := (Option.bind_some _ _).symm.trans H; with_reducible exact H2_) | with_reducible exact H | (rw [hy317]; exact H) | exact H
        have Ny317 := am hy317
        clear hy317
        have H' := am H
        clear H
        have p312 : 0 ≤ (x22_1 : Int) := zo
        have q312 : x22_1 < (l0_2.length : Int) := zo
        obtain ⟨ad312, A312_6, c312_6, A312_7, c312_7, e312, hx312_0, hx312_1, hx312_2, hx312_3, hx312_4, hx312_5, hx312_6, hx312_7, hl312_6, hi312_6, hl312_7, hi312_7⟩ := at_T26 HR0_2.out x22_1 p312 q312
        cases e312
        replace hx312_0 := zx HB hx312_0
        replace hx312_1 := zx HB hx312_1
        replace hx312_2 := zx HB hx312_2
        replace hx312_3 := zx HB hx312_3
        replace hx312_4 := zx HB hx312_4
        replace hx312_5 := zx HB hx312_5
        replace hx312_6 := zx HB hx312_6
        replace hx312_7 := zx HB hx312_7
        have HR312_6 := am hi312_6
        have HC312_6 := am hl312_6
        clear hi312_6 hl312_6
        have HR312_7 := am hi312_7
        have HC312_7 := am hl312_7
        clear hi312_7 hl312_7
        replace p312 := eq_true p312
        replace q312 := eq_true q312
        go_wp2_with (first | ((with_reducible refine gate_dst (N := 8) rfl ?_); refine zB 8 #[.int .i64 0, .int .i64 0, .int .i64 0, .int .i64 0, .int .i64 0, .int .i64 0, .slice none 0 0, .slice none 0 0] 26 ?_; intro gb313 hg w13 hbox hb; replace HO_5 := am (Kd.R_below (zR HO_5.out) hb); have BK313 := am (hbox); have GE313 := zG hg (zb HB); replace HB := am (below_step (zb HB) hb); have NB310_313 := zn hg BK310; have NB313_310 := zm hg BK310; replace BK310 := zk BK310 hb; clear hb hbox hg; have hnb14 := NB313_310.out; have hnc14 := NB310_313.out; obtain ⟨hcz15_0, hcz15_1, hcz15_2, hcz15_3, hcz15_4, hcz15_5, hcz15_6, hcz15_7⟩ := zc8 BK313; obtain ⟨hfz15_0, hfz15_1, hfz15_2, hfz15_3, hfz15_4, hfz15_5, hfz15_6, hfz15_7⟩ := zf8 BK313) | ((with_reducible refine gate_callee (f := 12) rfl ?_); refine goesL_ (some 29) rfl rfl Try.func12 (by kernel_rfl) rfl #[.slice none 0 0, .agg #[.int .i64 ((rd_T26 l0_2 x22_1).f0), .int .i64 ((rd_T26 l0_2 x22_1).f1.f0), .int .i64 ((rd_T26 l0_2 x22_1).f1.f1), .int .i64 ((rd_T26 l0_2 x22_1).f1.f2), .int .i64 ((rd_T26 l0_2 x22_1).f1.f3), .int .i64 ((rd_T26 l0_2 x22_1).f1.f4), .slice A312_6 ((rd_T26 l0_2 x22_1).f1.f5).length c312_6, .slice A312_7 ((rd_T26 l0_2 x22_1).f1.f6).length c312_7], .int .i64 x6_1] rfl zg ?_; (refine (event_Append.calls k1 _ _ ([] : List Int) ((rd_T26 l0_2 x22_1).f0) ((rd_T26 l0_2 x22_1).f1.f0) ((rd_T26 l0_2 x22_1).f1.f1) ((rd_T26 l0_2 x22_1).f1.f2) ((rd_T26 l0_2 x22_1).f1.f3) ((rd_T26 l0_2 x22_1).f1.f4) _ _ ((rd_T26 l0_2 x22_1).f1.f5) _ _ ((rd_T26 l0_2 x22_1).f1.f6) x6_1 t314 _ ?side1 ?side2 ?side3 ?side4 ?side5 ?side6 A11.out).mono ?_); (case side1 => exact Kd.C_nil _ _); (case side2 => exact Nat.le_refl _); (case side3 => exact Kd.C_below HR312_6.out (zb HB)); (case side4 => exact HC312_6.out); (case side5 => exact Kd.C_below HR312_7.out (zb HB)); (case side6 => exact HC312_7.out); rintro e w16 ⟨v315, rfl, ho0, hb⟩; refine ⟨_, rfl, ?_⟩; have HO316 := am (Kd.R_lower (Kd.R_new' ho0 (Kd.R_lt y4)) (below_size (zb HB))); replace HO_5 := am (Kd.R_elder' y4 (Kd.R_base ho0) hb); replace BK310 := am (blk_below (g := gb310) (o := .cells #[.int .i64 a0_0, .int .i64 a0_1, .slice (some ad312) l0_2.length c0_2] 42 (0, 0)) (by refine zu ?_; refine blk_far ?_ NB310_313.out _; refine zu ?_; refine blk_far ?_ NB310_313.out _; refine zu ?_; refine blk_far ?_ NB310_313.out _; refine zu ?_; refine blk_far ?_ NB310_313.out _; refine zu ?_; refine blk_far ?_ NB310_313.out _; refine zu ?_; refine blk_far ?_ NB310_313.out _; refine zu ?_; refine blk_far ?_ NB310_313.out _; refine zu ?_; refine blk_far ?_ NB310_313.out _; refine zu ?_; exact BK310.out) hb); replace BK313 := am (blk_below (g := gb313) (o := .cells #[.int .i64 ((rd_T26 l0_2 x22_1).f0), .int .i64 ((rd_T26 l0_2 x22_1).f1.f0), .int .i64 ((rd_T26 l0_2 x22_1).f1.f1), .int .i64 ((rd_T26 l0_2 x22_1).f1.f2), .int .i64 ((rd_T26 l0_2 x22_1).f1.f3), .int .i64 ((rd_T26 l0_2 x22_1).f1.f4), .slice A312_6 ((rd_T26 l0_2 x22_1).f1.f5).length c312_6, .slice A312_7 ((rd_T26 l0_2 x22_1).f1.f6).length c312_7] 26 (0, 0)) (by refine zu ?_; refine blk_put (cs := #[.int .i64 ((rd_T26 l0_2 x22_1).f0), .int .i64 ((rd_T26 l0_2 x22_1).f1.f0), .int .i64 ((rd_T26 l0_2 x22_1).f1.f1), .int .i64 ((rd_T26 l0_2 x22_1).f1.f2), .int .i64 ((rd_T26 l0_2 x22_1).f1.f3), .int .i64 ((rd_T26 l0_2 x22_1).f1.f4), .slice A312_6 ((rd_T26 l0_2 x22_1).f1.f5).length c312_6, .slice none 0 0]) ?_ 7 _ rfl; refine zu ?_; refine blk_put (cs := #[.int .i64 ((rd_T26 l0_2 x22_1).f0), .int .i64 ((rd_T26 l0_2 x22_1).f1.f0), .int .i64 ((rd_T26 l0_2 x22_1).f1.f1), .int .i64 ((rd_T26 l0_2 x22_1).f1.f2), .int .i64 ((rd_T26 l0_2 x22_1).f1.f3), .int .i64 ((rd_T26 l0_2 x22_1).f1.f4), .slice none 0 0, .slice none 0 0]) ?_ 6 _ rfl; refine zu ?_; refine blk_put (cs := #[.int .i64 ((rd_T26 l0_2 x22_1).f0), .int .i64 ((rd_T26 l0_2 x22_1).f1.f0), .int .i64 ((rd_T26 l0_2 x22_1).f1.f1), .int .i64 ((rd_T26 l0_2 x22_1).f1.f2), .int .i64 ((rd_T26 l0_2 x22_1).f1.f3), .int .i64 0, .slice none 0 0, .slice none 0 0]) ?_ 5 _ rfl; refine zu ?_; refine blk_put (cs := #[.int .i64 ((rd_T26 l0_2 x22_1).f0), .int .i64 ((rd_T26 l0_2 x22_1).f1.f0), .int .i64 ((rd_T26 l0_2 x22_1).f1.f1), .int .i64 ((rd_T26 l0_2 x22_1).f1.f2), .int .i64 0, .int .i64 0, .slice none 0 0, .slice none 0 0]) ?_ 4 _ rfl; refine zu ?_; refine blk_put (cs := #[.int .i64 ((rd_T26 l0_2 x22_1).f0), .int .i64 ((rd_T26 l0_2 x22_1).f1.f0), .int .i64 ((rd_T26 l0_2 x22_1).f1.f1), .int .i64 0, .int .i64 0, .int .i64 0, .slice none 0 0, .slice none 0 0]) ?_ 3 _ rfl; refine zu ?_; refine blk_put (cs := #[.int .i64 ((rd_T26 l0_2 x22_1).f0), .int .i64 ((rd_T26 l0_2 x22_1).f1.f0), .int .i64 0, .int .i64 0, .int .i64 0, .int .i64 0, .slice none 0 0, .slice none 0 0]) ?_ 2 _ rfl; refine zu ?_; refine blk_put (cs := #[.int .i64 ((rd_T26 l0_2 x22_1).f0), .int .i64 0, .int .i64 0, .int .i64 0, .int .i64 0, .int .i64 0, .slice none 0 0, .slice none 0 0]) ?_ 1 _ rfl; refine zu ?_; refine blk_put (cs := #[.int .i64 0, .int .i64 0, .int .i64 0, .int .i64 0, .int .i64 0, .int .i64 0, .slice none 0 0, .slice none 0 0]) ?_ 0 _ rfl; refine zu ?_; exact BK313.out) hb); replace HB := am (below_step (zb HB) hb); clear hb ho0; obtain ⟨Ao18, co18, eo18⟩ := Kd.R_slice HO316.out; subst eo18) | ((with_reducible refine gate_builtin (b := .append) (xs := #[.tmp 26, .tmp 29]) rfl ?_); at_builtin; refine Kd.R_append_rows (Kd.int .u8) (w0 := w) w.heap.size rfl (.tmp 26) (.tmp 29) 27 5 (.int .u8 0) 1 rfl Try.underlying27 info5 rfl (by decide) (by omega) u5 x5_1 t314 _ _ _ (fun k_ => some k_ ≠ (.slice Ao18 t314.length co18 : Value).ownBlock) (fun _ => False) rfl rfl ?aO ?aR (fun _ _ h => h) (fun _ h => h.elim) ?aF ?aB ?aS ?aL ?_; (case aR => repeat (first | exact (Kd.R_reads' HO316.out).2.2 | (with_reducible refine Kd.C_alloc ?_ _) | (with_reducible refine Kd.C_drewN ?_ _) | (with_reducible refine Kd.C_drew ?_))); (case aB => exact (zb HB)); (case aF => exact (fun k_ hk => Kd.fresh' (Kd.R_lt (zR HO316.out)) k_ hk)); (case aO => exact (by (with_reducible repeat (first | apply Kd.R_alloc | apply Kd.R_drewN | apply Kd.R_drew)); exact Kd.R_mono HO_5.out (fun _ hk => hk.2))); (case aS => exact y28); (case aL => have := LMc12.out; omega); intro v318 w17 ho hb hg hat; rw [← Ny317.out] at ho; have n0_ := am (blk_grown (g := gb310) (o := .cells #[.int .i64 a0_0, .int .i64 a0_1, .slice (some ad312) l0_2.length c0_2] 42 (0, 0)) (zu BK310.out) hg (Kd.R_ne HO_5.out BK310.out (by decide))); have n1_ := am (blk_grown (g := gb313) (o := .cells #[.int .i64 ((rd_T26 l0_2 x22_1).f0), .int .i64 ((rd_T26 l0_2 x22_1).f1.f0), .int .i64 ((rd_T26 l0_2 x22_1).f1.f1), .int .i64 ((rd_T26 l0_2 x22_1).f1.f2), .int .i64 ((rd_T26 l0_2 x22_1).f1.f3), .int .i64 ((rd_T26 l0_2 x22_1).f1.f4), .slice A312_6 ((rd_T26 l0_2 x22_1).f1.f5).length c312_6, .slice A312_7 ((rd_T26 l0_2 x22_1).f1.f6).length c312_7] 26 (0, 0)) (zu BK313.out) hg (Kd.R_ne HO_5.out BK313.out (by decide))); have n2_ := am (Kd.R_after (ok := (fun _ => True)) (zR HO316.out) hg hat); have n3_ := am (hb); have n4_ := am (ho); clear BK310; clear BK313; clear HO316; clear HB; clear HO_5; have BK310 := n0_; have BK313 := n1_; have HO316 := n2_; have HB := n3_; have HO319 := n4_; clear n0_ n1_ n2_ n3_ n4_; clear ho hb hg hat; obtain ⟨hcz19_0, hcz19_1, hcz19_2, hcz19_3, hcz19_4, hcz19_5, hcz19_6, hcz19_7⟩ := zc8 BK313; obtain ⟨hfz19_0, hfz19_1, hfz19_2, hfz19_3, hfz19_4, hfz19_5, hfz19_6, hfz19_7⟩ := zf8 BK313))
        go_roundg k1
        case measure => have := HK1.out; omega
        case rel => exact ⟨(y317), ((rd_T26 l0_2 x22_1).f0), (wrap64 (x22_1 + 1)), zr, zr, H', ⟨by have := HK1.out; omega⟩, ⟨by (with_reducible repeat (first | apply Kd.R_alloc | apply Kd.R_drewN | apply Kd.R_drew)); exact Kd.R_mono HO319.out (fun _ hk => trivial)⟩, ⟨by refine zu ?_; exact BK310.out⟩, ⟨zb HB⟩⟩
       ·
        rw [if_neg c12] at H
        exact absurd H (by simp)
      ·
       rw [if_neg c10] at H
       exact absurd H (by simp)
     ·
      rw [if_neg c9] at H
      exact absurd H (by simp)
    ·
     rw [if_neg c8] at H
     have c8b0 := decide_eq_false c8
     clear c8
     replace H := Option.bind_eq_some_iff.mp H
     obtain ⟨t320, A200, H⟩ := H
     (try dsimp only at H)
     have A20 := am A200
     clear A200
     obtain ⟨y323, hy323⟩ : ∃ y_ : List Int, y_ = (([84, (a0_0) % 256] : List Int)) := ⟨_, rfl⟩
     replace H : ((some (([a0_1, (l0_2.length : Int), (x5_1.length : Int), (t320.length : Int)] : List Int) : List Int)).bind fun y326 => (block_Encode.l1 k1 t320 y323 y326 (y326.length : Int) 0)) = some (r1, r2) := by first | (rw [hy323]; with_reducible exact H) | (have H2_ := (Option.bind_some _ _).symm.trans H; rw [hy323]; with_reducible exact H2_) | (have H2_ := (Option.bind_some _ _).symm.trans H; with_reducible exact H2_) | with_reducible exact H | (rw [hy323]; exact H) | exact H
     have Ny323 := am hy323
     clear hy323
     obtain ⟨y326, hy326⟩ : ∃ y_ : List Int, y_ = (([a0_1, (l0_2.length : Int), (x5_1.length : Int), (t320.length : Int)] : List Int)) := ⟨_, rfl⟩
     replace H : (block_Encode.l1 k1 t320 y323 y326 (y326.length : Int) 0) = some (r1, r2) := by first | (rw [hy326]; with_reducible exact H) | (have H2_ := (Option.bind_some _ _).symm.trans H; rw [hy326]; with_reducible exact H2_) | (have H2_ := (Option.bind_some _ _).symm.trans H; with_reducible exact H2_) | with_reducible exact H | (rw [hy326]; exact H) | exact H
     have Ny326 := am hy326
     clear hy326
     have H' := am H
     clear H
     obtain ⟨Ao21, co21, eo21⟩ := Kd.R_slice HO_5.out
     subst eo21
     go_wp2_with (first | ((with_reducible refine gate_callee (f := 51) rfl ?_); refine goesL_ (some 35) rfl rfl Try.func51 (by kernel_rfl) rfl #[.slice Ao21 x5_1.length co21] rfl zg ?_; (with_reducible refine (pack_Pack.calls k1 _ _ x5_1 t320 _ ?side1 ?side2 A20.out).mono ?_); (case side1 => exact zC ((Kd.R_reads' HO_5.out).2.2)); (case side2 => exact (Kd.R_reads' HO_5.out).2.1); rintro e w22 ⟨v321, rfl, ho0, hb⟩; refine ⟨_, rfl, ?_⟩; have HO322 := am (Kd.R_lower (Kd.R_new' ho0 (Kd.R_lt (zR HO_5.out))) (below_size (zb HB))); replace HO_5 := am (Kd.R_elder' (zR HO_5.out) (Kd.R_base ho0) hb); replace BK310 := zk BK310 hb; replace HB := am (below_step (zb HB) hb); clear hb ho0; obtain ⟨hcz23_0, hcz23_1, hcz23_2⟩ := zc3 BK310; obtain ⟨hfz23_0, hfz23_1, hfz23_2⟩ := zf3 BK310) | ((with_reducible refine gate_dst (N := 39) rfl ?_); refine Kd.R_lit (Kd.int .u8) _ 5 ?hg (N := 39) ?hd (xs := ([84, (a0_0) % 256] : List Int)) (inner := [.int .u8 84, .int .u8 ((a0_0) % 256)]) (ok := fun _ => True) (okp := fun _ => True) ?hr ?hp (fun _ hk => hk) trivial (Below.refl _ _) (Nat.le_refl _) (by simp) ?_; (case hd => rfl); (case hg => rfl); (case hr => exact y6); (case hp => exact y30); intro v324 w24 ho25 hb hg_ hnew_; clear hg_ hnew_; (first | rw [← Ny323.out] at ho25 | (simp only [Int.reduceToNat] at ho25; rw [← Ny323.out] at ho25)); have HO325 := am (Kd.R_lower (Kd.R_new' (Kd.R_new' ho25 (Kd.R_lt (zR HO_5.out))) (Kd.R_lt (zR HO322.out))) (below_size (zb HB))); replace HO_5 := am (Kd.R_elder' (zR HO_5.out) (Kd.R_base ho25) hb); replace HO322 := am (Kd.R_elder' (zR HO322.out) (Kd.R_base ho25) hb); replace BK310 := zk BK310 hb; replace HB := am (below_step (zb HB) hb); clear hb ho25; obtain ⟨hcz26_0, hcz26_1, hcz26_2⟩ := zc3 BK310; obtain ⟨hfz26_0, hfz26_1, hfz26_2⟩ := zf3 BK310; obtain ⟨Ao27, co27, eo27⟩ := Kd.R_slice HO322.out; subst eo27) | ((with_reducible refine gate_dst (N := 49) rfl ?_); refine Kd.R_lit (Kd.int .i64) _ 3 ?hg (N := 49) ?hd (xs := ([a0_1, (l0_2.length : Int), (x5_1.length : Int), (t320.length : Int)] : List Int)) (inner := [.int .i64 a0_1, .int .i64 (l0_2.length : Int), .int .i64 (x5_1.length : Int), .int .i64 (t320.length : Int)]) (ok := fun _ => True) (okp := fun _ => True) ?hr ?hp (fun _ hk => hk) trivial (Below.refl _ _) (Nat.le_refl _) (by simp) ?_; (case hd => rfl); (case hg => rfl); (case hr => exact y6); (case hp => exact (Reps.one (show Kd.M (Kd.int .i64) _ _ _ a0_1 [.int .i64 a0_1] from rfl) (Reps.one (show Kd.M (Kd.int .i64) _ _ _ (l0_2.length : Int) [.int .i64 (l0_2.length : Int)] from rfl) (Reps.one (show Kd.M (Kd.int .i64) _ _ _ (x5_1.length : Int) [.int .i64 (x5_1.length : Int)] from rfl) (Reps.one (show Kd.M (Kd.int .i64) _ _ _ (t320.length : Int) [.int .i64 (t320.length : Int)] from rfl) (Reps.none _ _)))))); intro v327 w28 ho29 hb hg_ hnew_; clear hg_ hnew_; (first | rw [← Ny326.out] at ho29 | (simp only [Int.reduceToNat] at ho29; rw [← Ny326.out] at ho29)); replace HO_5 := am (Kd.R_below (zR HO_5.out) hb); replace HO322 := am (Kd.R_below (zR HO322.out) hb); replace HO325 := am (Kd.R_below (zR HO325.out) hb); have HO328 := am (Kd.R_lower ho29 (below_size (zb HB))); replace BK310 := zk BK310 hb; replace HB := am (below_step (zb HB) hb); clear hb ho29; obtain ⟨Ao30, co30, eo30⟩ := Kd.R_slice HO328.out; subst eo30))
     go_loopg [10, 51] k1 (fun kq v10 v51 w' => ∃ (x10_2 : List Int) (x51_2 : Int), v51 = .int .i64 x51_2 ∧ Aside0 (block_Encode.l1 kq t320 x10_2 y326 (y326.length : Int) x51_2 = some (r1, r2)) ∧ Aside0 (kq ≤ k1) ∧ Aside0 (Kd.R (Kd.int .u8) 5 w' w.heap.size (fun k_ => some k_ ≠ (v10 : Value).ownBlock) (.slice Ao27 t320.length co27) t320) ∧ Aside0 (Kd.R (Kd.int .u8) 5 w' w.heap.size (fun k_ => some k_ ≠ ((.slice Ao27 t320.length co27) : Value).ownBlock) v10 x10_2) ∧ Aside0 (Kd.R (Kd.int .i64) 3 w' w.heap.size (fun _ => True) (.slice Ao30 y326.length co30) y326) ∧ Aside0 (w'.heap[gb310]? = some (.cells #[.int .i64 a0_0, .int .i64 a0_1, (.slice A0_2 l0_2.length c0_2)] 42 (0, 0))) ∧ Aside0 (Below w.heap.size w w'))
     case atStart => exact ⟨(y323), (0), zr, H', ⟨Nat.le_refl _⟩, ⟨by (with_reducible repeat (first | apply Kd.R_alloc | apply Kd.R_drewN | apply Kd.R_drew)); exact Kd.R_mono HO322.out (fun _ hk => hk.2)⟩, ⟨by (with_reducible repeat (first | apply Kd.R_alloc | apply Kd.R_drewN | apply Kd.R_drew)); exact Kd.R_mono HO325.out (fun _ hk => hk.2)⟩, ⟨by (with_reducible repeat (first | apply Kd.R_alloc | apply Kd.R_drewN | apply Kd.R_drew)); exact HO328.out⟩, ⟨by refine zu ?_; exact BK310.out⟩, ⟨zb HB⟩⟩
     case round =>
      clear H'
      obtain ⟨x10_2, x51_2, rfl, HA, HK2, HO_9, HO_10, HO_49, BK310, HB⟩ := hrel
      cases gk with
      | zero => exact absurd HA.out (by simp [block_Encode.l1])
      | succ k2 =>
       have H := HA.out
       clear HA
       simp only [block_Encode.l1] at H
       by_cases c31 : x51_2 < (y326.length : Int)
       ·
        rw [if_pos c31] at H
        have c31b0 := decide_eq_true c31
        clear c31
        by_cases c32 : 0 ≤ x51_2
        ·
         rw [if_pos c32] at H
         have c32b0 := decide_eq_true c32
         clear c32
         by_cases c33 : x51_2 < (y326.length : Int)
         ·
          rw [if_pos c33] at H
          have c33b0 := decide_eq_true c33
          clear c33
          replace H := Option.bind_eq_some_iff.mp H
          obtain ⟨t330, A340, H⟩ := H
          (try dsimp only at H)
          have A34 := am A340
          clear A340
          have H' := am H
          clear H
          have p329 : 0 ≤ (x51_2 : Int) := zo
          have q329 : x51_2 < (y326.length : Int) := zo
          obtain ⟨ad329, e329, hx329_0⟩ := Kd.at_int (Kd.R_reads' HO_49.out).2.2 x51_2 p329 q329
          cases e329
          replace p329 := eq_true p329
          replace q329 := eq_true q329
          obtain ⟨Ao35, co35, eo35⟩ := Kd.R_slice HO_10.out
          subst eo35
          go_wp2_with (first | ((with_reducible refine gate_callee (f := 49) rfl ?_); refine goesL_ (some 57) rfl rfl Try.func49 (by kernel_rfl) rfl #[.slice Ao35 x10_2.length co35, .int .i64 (rd y326 x51_2)] rfl zg ?_; (with_reducible refine (event_PutInt.calls k2 _ _ x10_2 (rd y326 x51_2) t330 _ ?side1 ?side2 A34.out).mono ?_); (case side1 => exact zC ((Kd.R_reads' HO_10.out).2.2)); (case side2 => exact (Kd.R_reads' HO_10.out).2.1); rintro e w36 ⟨v331, rfl, ho0, hb⟩; refine ⟨_, rfl, ?_⟩; replace HO_49 := am (Kd.R_below (zR HO_49.out) hb); have HO332 := am (Kd.R_lower (Kd.R_new' (Kd.R_new' ho0 (Kd.R_lt (zR HO_9.out))) (Kd.R_lt (zR HO_10.out))) (below_size (zb HB))); replace HO_9 := am (Kd.R_elder' (zR HO_9.out) (Kd.R_base ho0) hb); replace HO_10 := am (Kd.R_elder' (zR HO_10.out) (Kd.R_base ho0) hb); replace BK310 := zk BK310 hb; replace HB := am (below_step (zb HB) hb); clear hb ho0))
          go_roundg k2
          case measure => have := HK1.out; have := HK2.out; omega
          case rel => exact ⟨(t330), (wrap64 (x51_2 + 1)), zr, H', ⟨by have := HK1.out; have := HK2.out; omega⟩, ⟨by (with_reducible repeat (first | apply Kd.R_alloc | apply Kd.R_drewN | apply Kd.R_drew)); exact Kd.R_mono HO_9.out (fun _ hk => hk.2)⟩, ⟨by (with_reducible repeat (first | apply Kd.R_alloc | apply Kd.R_drewN | apply Kd.R_drew)); exact Kd.R_mono HO332.out (fun _ hk => hk.1.2)⟩, ⟨by (with_reducible repeat (first | apply Kd.R_alloc | apply Kd.R_drewN | apply Kd.R_drew)); exact HO_49.out⟩, ⟨by refine zu ?_; exact BK310.out⟩, ⟨zb HB⟩⟩
         ·
          rw [if_neg c33] at H
          exact absurd H (by simp)
        ·
         rw [if_neg c32] at H
         exact absurd H (by simp)
       ·
        rw [if_neg c31] at H
        have c31b0 := decide_eq_false c31
        clear c31
        by_cases c37 : x10_2.length + t320.length < 140737488355328
        ·
         rw [if_pos c37] at H
         have LMc37 := am c37
         clear c37
         obtain ⟨y333, hy333⟩ : ∃ y_ : List Int, y_ = (x10_2 ++ t320) := ⟨_, rfl⟩
         replace H : ((block_seal.f k2 y333).bind fun bt336 => (if y333.length + [bt336.1, bt336.2.1, bt336.2.2.1, bt336.2.2.2].length < 140737488355328 then (some ((y333 ++ [bt336.1, bt336.2.1, bt336.2.2.1, bt336.2.2.2]), 0)) else (none))) = some (r1, r2) := by first | (rw [hy333]; with_reducible exact H) | (have H2_ := (Option.bind_some _ _).symm.trans H; rw [hy333]; with_reducible exact H2_) | (have H2_ := (Option.bind_some _ _).symm.trans H; with_reducible exact H2_) | with_reducible exact H | (rw [hy333]; exact H) | exact H
         have Ny333 := am hy333
         clear hy333
         replace H := Option.bind_eq_some_iff.mp H
         obtain ⟨⟨t336, t337, t338, t339⟩, A380, H⟩ := H
         (try dsimp only at H)
         have A38 := am A380
         clear A380
         by_cases c39 : y333.length + [t336, t337, t338, t339].length < 140737488355328
         ·
          rw [if_pos c39] at H
          have LMc39 := am c39
          clear c39
          obtain ⟨y341, hy341⟩ : ∃ y_ : List Int, y_ = (y333 ++ [t336, t337, t338, t339]) := ⟨_, rfl⟩
          replace H : (some (y341, 0)) = some (r1, r2) := by first | (rw [hy341]; with_reducible exact H) | (have H2_ := (Option.bind_some _ _).symm.trans H; rw [hy341]; with_reducible exact H2_) | (have H2_ := (Option.bind_some _ _).symm.trans H; with_reducible exact H2_) | with_reducible exact H | (rw [hy341]; exact H) | exact H
          have Ny341 := am hy341
          clear hy341
          simp only [Option.some.injEq, Prod.mk.injEq] at H
          obtain ⟨rfl, rfl⟩ := H
          go_wp2_with (first | ((with_reducible refine gate_builtin (b := .append) (xs := #[.tmp 59, .tmp 60]) rfl ?_); at_builtin; refine Kd.R_append_rows (Kd.int .u8) (w0 := w) w.heap.size rfl (.tmp 59) (.tmp 60) 27 5 (.int .u8 0) 1 rfl Try.underlying27 info5 rfl (by decide) (by omega) u10 x10_2 t320 _ _ _ (fun k_ => some k_ ≠ (.slice Ao27 t320.length co27 : Value).ownBlock) (fun _ => False) rfl rfl ?aO ?aR (fun _ _ h => h) (fun _ h => h.elim) ?aF ?aB ?aS ?aL ?_; (case aR => repeat (first | exact (Kd.R_reads' HO_9.out).2.2 | (with_reducible refine Kd.C_alloc ?_ _) | (with_reducible refine Kd.C_drewN ?_ _) | (with_reducible refine Kd.C_drew ?_))); (case aB => exact (zb HB)); (case aF => exact (fun k_ hk => Kd.fresh' (Kd.R_lt (zR HO_9.out)) k_ hk)); (case aO => exact (zR HO_10.out)); (case aS => exact y28); (case aL => have := LMc37.out; omega); intro v334 w40 ho hb hg hat; rw [← Ny333.out] at ho; have n0_ := am (Kd.R_after (ok := (fun _ => True)) (by (with_reducible repeat (first | apply Kd.R_alloc | apply Kd.R_drewN | apply Kd.R_drew)); exact Kd.R_mono HO_9.out (fun _ hk => ⟨trivial, hk⟩)) hg hat); have n1_ := am (Kd.R_over' (zR HO_49.out) (Kd.R_typed (zR HO_10.out)) (by decide) hg); have n2_ := am (blk_grown (g := gb310) (o := .cells #[.int .i64 a0_0, .int .i64 a0_1, .slice A0_2 l0_2.length c0_2] 42 (0, 0)) (zu BK310.out) hg (Kd.R_ne HO_10.out BK310.out (by decide))); have n3_ := am (hb); have n4_ := am (ho); clear HO_9; clear HO_49; clear BK310; clear HB; clear HO_10; have HO_9 := n0_; have HO_49 := n1_; have BK310 := n2_; have HB := n3_; have HO335 := n4_; clear n0_ n1_ n2_ n3_ n4_; clear ho hb hg hat; obtain ⟨Ao41, co41, eo41⟩ := Kd.R_slice HO335.out; subst eo41) | ((with_reducible refine gate_callee (f := 52) rfl ?_); refine goesL_ (some 63) rfl rfl Try.func52 (by kernel_rfl) rfl #[.slice Ao41 y333.length co41] rfl zg ?_; (with_reducible refine (block_seal.calls k2 _ _ y333 t336 t337 t338 t339 _ ?side1 ?side2 A38.out).mono ?_); (case side1 => exact zC ((Kd.R_reads' HO335.out).2.2)); (case side2 => exact (Kd.R_reads' HO335.out).2.1); rintro e w42 ⟨rfl, hb⟩; refine ⟨_, rfl, ?_⟩; replace HO_9 := am (Kd.R_below (zR HO_9.out) hb); replace HO_49 := am (Kd.R_below (zR HO_49.out) hb); replace HO335 := am (Kd.R_below (zR HO335.out) hb); replace BK310 := zk BK310 hb; replace HB := am (below_step (zb HB) hb); clear hb) | ((with_reducible refine gate_dst (N := 13) rfl ?_); refine zB 13 #[.int .u8 0, .int .u8 0, .int .u8 0, .int .u8 0] 97 ?_; intro gb340 hg w43 hbox hb; replace HO_9 := am (Kd.R_below (zR HO_9.out) hb); replace HO_49 := am (Kd.R_below (zR HO_49.out) hb); replace HO335 := am (Kd.R_below (zR HO335.out) hb); have BK340 := am (hbox); have GE340 := zG hg (zb HB); replace HB := am (below_step (zb HB) hb); have NB310_340 := zn hg BK310; have NB340_310 := zm hg BK310; replace BK310 := zk BK310 hb; clear hb hbox hg; have hnb44 := NB340_310.out; have hnc44 := NB310_340.out; obtain ⟨_, _, _, _, _, _, _, _⟩ := zq4 BK340) | ((with_reducible refine gate_builtin (b := .append) (xs := #[.tmp 64, .tmp 65]) rfl ?_); at_builtin; refine Kd.R_append_rows (Kd.int .u8) (w0 := w) w.heap.size rfl (.tmp 64) (.tmp 65) 27 5 (.int .u8 0) 1 rfl Try.underlying27 info5 rfl (by decide) (by omega) (.slice Ao41 y333.length co41) y333 [t336, t337, t338, t339] _ _ _ (fun k_ => some k_ ≠ (.slice Ao27 t320.length co27 : Value).ownBlock) (fun _ => False) rfl rfl ?aO ?aR (fun _ _ h => h) (fun _ h => h.elim) ?aF ?aB ?aS ?aL ?_; (case aR => exact ow_C_box (cs := #[.int .u8 t336, .int .u8 t337, .int .u8 t338, .int .u8 t339]) (t := 97) (fr := (0, 0)) [t336, t337, t338, t339] y13 (by first | rfl | simp [nums]) rfl (by simp)); (case aB => exact (zb HB)); (case aF => exact (fun k_ hk => Kd.fresh' (Kd.R_lt (by (with_reducible repeat (first | apply Kd.R_alloc | apply Kd.R_drewN | apply Kd.R_drew)); exact (Kd.R_mono (Kd.R_far (p := ⟨gb340, 3, none⟩) (Kd.R_far (p := ⟨gb340, 2, none⟩) (Kd.R_far (p := ⟨gb340, 1, none⟩) (Kd.R_far (p := ⟨gb340, 0, none⟩) (Kd.R_types HO_9.out BK340.out (by decide)) (fun _ hk => hk.2) (.int .u8 t336)) (fun _ hk => hk.2) (.int .u8 t337)) (fun _ hk => hk.2) (.int .u8 t338)) (fun _ hk => hk.2) (.int .u8 t339)) (fun _ h_ => h_.1)))) k_ hk)); (case aO => exact (by (with_reducible repeat (first | apply Kd.R_alloc | apply Kd.R_drewN | apply Kd.R_drew)); exact Kd.R_mono (Kd.R_far (p := ⟨gb340, 3, none⟩) (Kd.R_far (p := ⟨gb340, 2, none⟩) (Kd.R_far (p := ⟨gb340, 1, none⟩) (Kd.R_far (p := ⟨gb340, 0, none⟩) (Kd.R_types HO335.out BK340.out (by decide)) (fun _ hk => hk.2) (.int .u8 t336)) (fun _ hk => hk.2) (.int .u8 t337)) (fun _ hk => hk.2) (.int .u8 t338)) (fun _ hk => hk.2) (.int .u8 t339)) (fun _ hk => hk.1))); (case aS => exact y28); (case aL => have := LMc39.out; simp only [List.length_cons, List.length_nil] at this; omega); intro v342 w46 ho hb hg hat; rw [← Ny341.out] at ho; have n0_ := am (Kd.R_after (ok := (fun _ => True)) (by (with_reducible repeat (first | apply Kd.R_alloc | apply Kd.R_drewN | apply Kd.R_drew)); exact Kd.R_mono (Kd.R_far (p := ⟨gb340, 3, none⟩) (Kd.R_far (p := ⟨gb340, 2, none⟩) (Kd.R_far (p := ⟨gb340, 1, none⟩) (Kd.R_far (p := ⟨gb340, 0, none⟩) (Kd.R_types HO_9.out BK340.out (by decide)) (fun _ hk => hk.2) (.int .u8 t336)) (fun _ hk => hk.2) (.int .u8 t337)) (fun _ hk => hk.2) (.int .u8 t338)) (fun _ hk => hk.2) (.int .u8 t339)) (fun _ hk => ⟨trivial, hk.1.2⟩)) hg hat); have n1_ := am (Kd.R_over' (by (with_reducible repeat (first | apply Kd.R_alloc | apply Kd.R_drewN | apply Kd.R_drew)); exact (Kd.R_mono (Kd.R_far (p := ⟨gb340, 3, none⟩) (Kd.R_far (p := ⟨gb340, 2, none⟩) (Kd.R_far (p := ⟨gb340, 1, none⟩) (Kd.R_far (p := ⟨gb340, 0, none⟩) (Kd.R_types HO_49.out BK340.out (by decide)) (fun _ hk => hk.2) (.int .u8 t336)) (fun _ hk => hk.2) (.int .u8 t337)) (fun _ hk => hk.2) (.int .u8 t338)) (fun _ hk => hk.2) (.int .u8 t339)) (fun _ h_ => h_.1))) (Kd.R_typed (by (with_reducible repeat (first | apply Kd.R_alloc | apply Kd.R_drewN | apply Kd.R_drew)); exact (Kd.R_mono (Kd.R_far (p := ⟨gb340, 3, none⟩) (Kd.R_far (p := ⟨gb340, 2, none⟩) (Kd.R_far (p := ⟨gb340, 1, none⟩) (Kd.R_far (p := ⟨gb340, 0, none⟩) (Kd.R_types HO335.out BK340.out (by decide)) (fun _ hk => hk.2) (.int .u8 t336)) (fun _ hk => hk.2) (.int .u8 t337)) (fun _ hk => hk.2) (.int .u8 t338)) (fun _ hk => hk.2) (.int .u8 t339)) (fun _ h_ => h_.1)))) (by decide) hg); have n2_ := am (blk_grown (g := gb310) (o := .cells #[.int .i64 a0_0, .int .i64 a0_1, .slice A0_2 l0_2.length c0_2] 42 (0, 0)) (by refine zu ?_; refine blk_far ?_ NB310_340.out _; refine zu ?_; refine blk_far ?_ NB310_340.out _; refine zu ?_; refine blk_far ?_ NB310_340.out _; refine zu ?_; refine blk_far ?_ NB310_340.out _; refine zu ?_; exact BK310.out) hg (Kd.R_ne HO335.out BK310.out (by decide))); have n3_ := am (blk_grown (g := gb340) (o := .cells #[.int .u8 t336, .int .u8 t337, .int .u8 t338, .int .u8 t339] 97 (0, 0)) y13 hg (Kd.R_ne HO335.out BK340.out (by decide))); have n4_ := am (hb); have n5_ := am (ho); clear HO_9; clear HO_49; clear BK310; clear BK340; clear HB; clear HO335; have HO_9 := n0_; have HO_49 := n1_; have BK310 := n2_; have BK340 := n3_; have HB := n4_; have HO343 := n5_; clear n0_ n1_ n2_ n3_ n4_ n5_; clear ho hb hg hat))
          go_ret2
          exact ⟨_, ze, by (with_reducible repeat (first | apply Kd.R_alloc | apply Kd.R_drewN | apply Kd.R_drew)); exact Kd.R_mono HO343.out (fun _ hk => trivial), zb HB⟩
         ·
          rw [if_neg c39] at H
          exact absurd H (by simp)
        ·
         rw [if_neg c37] at H
         exact absurd H (by simp)
 ·
  rw [if_neg c3] at H
  obtain ⟨c3b0, c3b1⟩ := zs c3
  simp only [Option.some.injEq, Prod.mk.injEq] at H
  obtain ⟨rfl, rfl⟩ := H
  go_enter Try.func21, Try.ntmps21
  go_wp2_with (first | ((with_reducible refine gate_dst (N := 1) rfl ?_); refine zB 1 #[.int .i64 a0_0, .int .i64 a0_1, .slice A0_2 l0_2.length c0_2] 42 ?_; intro gb310 hg w47 hbox hb; have BK310 := am (hbox); have GE310 := zG hg (zb HB); replace HB := am (below_step (zb HB) hb); clear hb hbox hg; obtain ⟨_, _, _, _, _, _⟩ := zq3 BK310) | ((with_reducible refine gate_callee (f := 50) rfl ?_); refine goesL_ (some 15) rfl rfl Try.func50 (by kernel_rfl) rfl #[.agg #[.int .i64 a0_0, .int .i64 a0_1, .slice A0_2 l0_2.length c0_2]] rfl zg ?_; (with_reducible refine (block_check.calls k a0_0 a0_1 _ _ l0_2 t311 _ ?side1 ?side2 A2.out).mono ?_); (case side1 => exact y42); (case side2 => exact HC0_2.out); rintro e w49 ⟨rfl, hb⟩; refine ⟨_, rfl, ?_⟩; replace BK310 := zk BK310 hb; replace HB := am (below_step (zb HB) hb); clear hb))
  go_ret2
  exact y34
end Go.Proofs.Ytnmmkgagbfniiaa.A
end
