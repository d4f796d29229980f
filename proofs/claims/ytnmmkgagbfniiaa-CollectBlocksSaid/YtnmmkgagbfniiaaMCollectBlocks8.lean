/- MCollectBlocks8: texts of this session and of the kit's printer on the road to the statement CollectBlocks, laid into one and rid of what it doesn't need. No condition beyond what each fact names. -/
import Derived.Test.YtnmmkgagbfniiaaMCollectBlocks3
import Derived.Test.YtnmmkgagbfniiaaMCollectBlocks2
import Derived.Test.YtnmmkgagbfniiaaMCollectBlocks7
section
namespace Go.Proofs.Ytnmmkgagbfniiaa.A
open Go.RowKit Go.Proofs.YtnmmkgagbfniiaaW.PrintWords Go.Proofs.YtnmmkgagbfniiaaW.PrintLast Go.Proofs.YtnmmkgagbfniiaaW.PrintMore
attribute [local go_sem] max2_int min2_int max_two min_two max_three min_three max_four min_four
set_option linter.unusedVariables false
set_option linter.unusedSimpArgs false
def block_open.go (k : Nat) (l0 : List Int) : Nat → Int → List Int → Option (Int × List Int × Int)
 | 0, s, acc => some (0, acc, s)
 | n + 1, s, acc => if 0 ≤ s ∧ s ≤ (l0.length : Int) then (event_Int.f k (l0.drop s.toNat)).bind fun p => if p.2.2 = 0 then block_open.go k l0 n (wrap64 (s + p.2.1)) (acc ++ [p.1]) else some (p.2.2, [], 0) else none
def block_open.ok (n lo hi : Int) : Bool := decide (lo ≤ n) && decide (n ≤ hi)
def block_open.fin (t : Int) (q : Int × List Int × Int) : Option (Int × Int × Int × Int × Int × Int × Int) :=
 if q.1 = 0 then
  (if t < 4 then
   (if block_open.ok (q.2.1.getD 0 0) 0 400 = true then
    (if block_open.ok (q.2.1.getD 1 0) 1 64 = true then
     (if block_open.ok (q.2.1.getD 2 0) 0 1048576 = true then
      (if block_open.ok (q.2.1.getD 3 0) 0 1048576 = true then some (t, q.2.1.getD 0 0, q.2.1.getD 1 0, q.2.1.getD 2 0, q.2.1.getD 3 0, q.2.2, 0)
      else some (0, 0, 0, 0, 0, 0, 11))
     else some (0, 0, 0, 0, 0, 0, 11))
    else some (0, 0, 0, 0, 0, 0, 11))
   else some (0, 0, 0, 0, 0, 0, 11))
  else some (0, 0, 0, 0, 0, 0, 11))
 else some (0, 0, 0, 0, 0, 0, q.1)
def block_open.f (k : Nat) (l0 : List Int) : Option (Int × Int × Int × Int × Int × Int × Int) :=
 if l0.length = 0 then some (0, 0, 0, 0, 0, 0, 9)
 else if rd l0 0 = 84 then (if l0.length = 1 then some (0, 0, 0, 0, 0, 0, 9) else (block_open.go k l0 4 2 []).bind fun q => block_open.fin (rd l0 1) q)
 else some (0, 0, 0, 0, 0, 0, 11)
theorem block_open.mono_go (l0 : List Int) (k : Nat) : ∀ n s acc, LeO (block_open.go k l0 n s acc) (block_open.go (k + 1) l0 n s acc) := by
 intro n
 induction n with
 | zero => intro s acc; exact LeO.refl _
 | succ n ih =>
  intro s acc
  rw [block_open.go, block_open.go]
  refine LeO.ite (LeO.bind (event_Int.mono _ _) fun p => ?_) (LeO.refl _)
  exact LeO.ite (ih _ _) (LeO.refl _)
theorem block_open.mono : ∀ a0 k, LeO (block_open.f k a0) (block_open.f (k + 1) a0) := by
 intro a0 k
 unfold block_open.f
 exact LeO.ite (LeO.refl _) (LeO.ite (LeO.ite (LeO.refl _) (LeO.bind (block_open.mono_go _ _ _ _ _) fun _ => LeO.refl _)) (LeO.refl _))
set_option maxHeartbeats 1000000 in
theorem block_open.within (n lo hi : Int) (b : Bool) (w : World) (hb : block_open.ok n lo hi = b) : Calls Try.prog 82 #[.int .i64 n, .int .i64 lo, .int .i64 hi] w fun e w' => e = .returned (.bool b) ∧ Below w.heap.size w w' := by
 subst hb
 unfold block_open.ok
 by_cases c1 : lo ≤ n
 ·
  by_cases c2 : n ≤ hi
  ·
   have d1 : decide (lo ≤ n) = true := decide_eq_true c1
   have d2 : decide (n ≤ hi) = true := decide_eq_true c2
   go_enter Try.func82, Try.ntmps82
   go_wp2
   go_ret
   exact y74
  ·
   have d1 : decide (lo ≤ n) = true := decide_eq_true c1
   have d2 : decide (n ≤ hi) = false := decide_eq_false c2
   go_enter Try.func82, Try.ntmps82
   go_wp2
   go_ret
   exact y74
 ·
  have d1 : decide (lo ≤ n) = false := decide_eq_false c1
  go_enter Try.func82, Try.ntmps82
  go_wp2
  go_ret
  exact ⟨by simp [c1], by repeat (first | exact Below.refl _ _ | apply below_drew1 | apply pw_below_drewN)⟩
set_option maxHeartbeats 8000000 in
set_option maxRecDepth 100000 in
theorem block_open.calls (k : Nat) (A0 : Option Addr) (c0 : Nat) (l0 : List Int) (r1 r2 r3 r4 r5 r6 r7 : Int) (w : World) (hr0 : Kd.C (Kd.int .u8) w A0 l0.length l0) (hc0 : l0.length ≤ c0) (h : block_open.f k l0 = some (r1, r2, r3, r4, r5, r6, r7)) :
  Calls Try.prog 63 #[.slice A0 l0.length c0] w fun e w' => e = .returned (.tuple #[.agg #[.int .u8 r1, .int .i64 r2, .int .i64 r3, .int .i64 r4, .int .i64 r5, .int .i64 r6], .int .i64 r7]) ∧ Below w.heap.size w w' := by
 have hmax : l0.length ≤ 9223372036854775807 := hr0.2.1
 have HR0 := am hr0
 have HC0 := am hc0
 clear hr0
 unfold block_open.f at h
 by_cases d0 : l0.length = 0
 ·
  rw [if_pos d0] at h
  simp only [Option.some.injEq, Prod.mk.injEq] at h
  obtain ⟨rfl, rfl, rfl, rfl, rfl, rfl, rfl⟩ := h
  have d1 : ((l0.length : Int) == 0) = true := beq_iff_eq.mpr (by omega)
  have d1' : ((l0.length : Int) != 0) = false := bne_eq_false_iff_eq.mpr (by omega)
  clear d0
  go_enter Try.func63, Try.ntmps63
  go_wp2_with ((with_reducible refine gate_dst (N := 2) rfl ?_); refine zB 2 #[.int .u8 0, .int .i64 0, .int .i64 0, .int .i64 0, .int .i64 0, .int .i64 0] 114 ?_; intro g2 hg w3 hbox hb; have K2 := am hbox; have D2 := am hb; have L2 := am (show w.heap.size ≤ g2 by rw [hg]; exact Nat.le_refl _); clear hbox hb hg; obtain ⟨z_0, z_1, z_2, z_3, z_4, z_5⟩ := zc6 K2; obtain ⟨f_0, f_1, f_2, f_3, f_4, f_5⟩ := zf6 K2)
  exact y36
 rw [if_neg d0] at h
 have d1 : ((l0.length : Int) == 0) = false := beq_eq_false_iff_ne.mpr (by omega)
 have d1' : ((l0.length : Int) != 0) = true := bne_iff_ne.mpr (by omega)
 have d1'' : ¬ (l0 = []) := fun h_ => d0 (by rw [h_]; rfl)
 have p0 : 0 ≤ (0 : Int) := by omega
 have q0 : (0 : Int) < (l0.length : Int) := by omega
 obtain ⟨ad, e0, x0⟩ := Kd.at_int HR0.out 0 p0 q0
 subst e0
 (try simp only [show (0 : Int).toNat = 0 from rfl, Nat.reduceMul, Nat.reduceEqDiff, Go.Addr.add, ↓reduceIte] at x0)
 have qi0 : (0 < l0.length) = True := eq_true (by omega)
 have X0 := am x0
 clear x0
 by_cases d2 : rd l0 0 = 84
 rotate_left
 ·
  rw [if_neg d2] at h
  simp only [Option.some.injEq, Prod.mk.injEq] at h
  obtain ⟨rfl, rfl, rfl, rfl, rfl, rfl, rfl⟩ := h
  have d3 : (rd l0 0 != 84) = true := by simp [d2]
  have d4 : (rd l0 0 == 84) = false := by simp [d2]
  replace p0 := eq_true p0
  replace q0 := eq_true q0
  go_enter Try.func63, Try.ntmps63
  go_wp2_with ((with_reducible refine gate_dst (N := 2) rfl ?_); refine zB 2 #[.int .u8 0, .int .i64 0, .int .i64 0, .int .i64 0, .int .i64 0, .int .i64 0] 114 ?_; intro g2 hg w3 hbox hb; have K2 := am hbox; have D2 := am hb; have L2 := am (show w.heap.size ≤ g2 by rw [hg]; exact Nat.le_refl _); clear hbox hb hg; obtain ⟨z_0, z_1, z_2, z_3, z_4, z_5⟩ := zc6 K2; obtain ⟨f_0, f_1, f_2, f_3, f_4, f_5⟩ := zf6 K2; have yX0 := (D2.out.cell (World.block_lt_of_cell? w _ X0.out)).trans X0.out)
  exact y36
 rw [if_pos d2] at h
 have d3 : (rd l0 0 != 84) = false := by simp [d2]
 have d4 : (rd l0 0 == 84) = true := by simp [d2]
 by_cases d5 : l0.length = 1
 ·
  rw [if_pos d5] at h
  simp only [Option.some.injEq, Prod.mk.injEq] at h
  obtain ⟨rfl, rfl, rfl, rfl, rfl, rfl, rfl⟩ := h
  have d6 : ((l0.length : Int) == 1) = true := by simp [d5]
  replace p0 := eq_true p0
  replace q0 := eq_true q0
  go_enter Try.func63, Try.ntmps63
  go_wp2_with ((with_reducible refine gate_dst (N := 2) rfl ?_); refine zB 2 #[.int .u8 0, .int .i64 0, .int .i64 0, .int .i64 0, .int .i64 0, .int .i64 0] 114 ?_; intro g2 hg w3 hbox hb; have K2 := am hbox; have D2 := am hb; have L2 := am (show w.heap.size ≤ g2 by rw [hg]; exact Nat.le_refl _); clear hbox hb hg; obtain ⟨z_0, z_1, z_2, z_3, z_4, z_5⟩ := zc6 K2; obtain ⟨f_0, f_1, f_2, f_3, f_4, f_5⟩ := zf6 K2; have yX0 := (D2.out.cell (World.block_lt_of_cell? w _ X0.out)).trans X0.out)
  exact y36
 rw [if_neg d5] at h
 obtain ⟨q, hq, h⟩ := Option.bind_eq_some_iff.mp h
 have HQ := am hq
 clear hq
 have d6 : ((l0.length : Int) == 1) = false := by
  have : ¬ ((l0.length : Int) = 1) := by omega
  simpa using this
 have p1 : 0 ≤ (1 : Int) := by omega
 have q1 : (1 : Int) < (l0.length : Int) := by omega
 obtain ⟨ad', e1, x1⟩ := Kd.at_int HR0.out 1 p1 q1
 obtain rfl : ad = ad' := by injection e1
 clear e1
 (try simp only [show (1 : Int).toNat = 1 from rfl, Nat.reduceMul, Nat.reduceEqDiff, Go.Addr.add, ↓reduceIte] at x1)
 (try rw [show ((1 : Int)).toNat = 1 from rfl] at x1)
 have qi1 : (1 < l0.length) = True := eq_true (by omega)
 have X1 := am x1
 clear x1
 replace p0 := eq_true p0
 replace q0 := eq_true q0
 replace p1 := eq_true p1
 replace q1 := eq_true q1
 clear d0 d2 d5
 go_enter Try.func63, Try.ntmps63
 go_wp2_with (first | ((with_reducible refine gate_dst (N := 2) rfl ?_); refine zB 2 #[.int .u8 0, .int .i64 0, .int .i64 0, .int .i64 0, .int .i64 0, .int .i64 0] 114 ?_; intro g2 hg w3 hbox hb; have K2 := am hbox; have D2 := am hb; have L2 := am (show w.heap.size ≤ g2 by rw [hg]; exact Nat.le_refl _); clear hbox hb hg; have yX0 := (D2.out.cell (World.block_lt_of_cell? w _ X0.out)).trans X0.out; have yX1 := (D2.out.cell (World.block_lt_of_cell? w _ X1.out)).trans X1.out) | ((with_reducible refine gate_dst (N := 4) rfl ?_); refine zB 4 #[.int .u8 0, .int .i64 0, .int .i64 0, .int .i64 0, .int .i64 0, .int .i64 0] 114 ?_; intro g4 hg w4 hbox hb; have K4 := am hbox; have K24 := am (blk_below K2.out hb); have D4 := am (below_then D2.out D2.out.size hb); have L4 := am (show w.heap.size ≤ g4 by rw [hg]; exact D2.out.size); have N24 := am (show g2 ≠ g4 by rw [hg]; exact Nat.ne_of_lt (blk_lt K2.out)); clear hbox hb hg; obtain ⟨h_0, h_1, h_2, h_3, h_4, h_5⟩ := zc6 K4; obtain ⟨k_0, k_1, k_2, k_3, k_4, k_5⟩ := zf6 K4))
 obtain ⟨W3, hW3⟩ : ∃ W3 : World, W3 = ((((((w4.setCell ⟨g4, 0, none⟩ (.int .u8 (rd l0 1))).setCell ⟨g4, 1, none⟩ (.int .i64 0)).setCell ⟨g4, 2, none⟩ (.int .i64 0)).setCell ⟨g4, 3, none⟩ (.int .i64 0)).setCell ⟨g4, 4, none⟩ (.int .i64 0)).setCell ⟨g4, 5, none⟩ (.int .i64 2)).alloc (.cells #[.pointer (some ⟨g4, 1, none⟩), .pointer (some ⟨g4, 2, none⟩), .pointer (some ⟨g4, 3, none⟩), .pointer (some ⟨g4, 4, none⟩)] 137) := ⟨_, rfl⟩
 rw [← hW3]
 have HG := am (show W3.heap[g4]? = some (.cells #[.int .u8 (rd l0 1), .int .i64 0, .int .i64 0, .int .i64 0, .int .i64 0, .int .i64 2] 114 (0, 0)) by
  rw [hW3]
  exact blk_alloc (ow_put6 K4.out) _)
 have HG2 := am (show W3.heap[g2]? = some (.cells #[.int .u8 0, .int .i64 0, .int .i64 0, .int .i64 0, .int .i64 0, .int .i64 0] 114 (0, 0)) by
  rw [hW3]
  exact blk_alloc (ow_far6 K24.out N24.out) _)
 have HGP := am (show W3.heap[w4.heap.size]? = some (.cells #[.pointer (some ⟨g4, 1, none⟩), .pointer (some ⟨g4, 2, none⟩), .pointer (some ⟨g4, 3, none⟩), .pointer (some ⟨g4, 4, none⟩)] 137 (0, 0)) by
  rw [hW3, show w4.heap.size = (((((((w4.setCell ⟨g4, 0, none⟩ (.int .u8 (rd l0 1))).setCell ⟨g4, 1, none⟩ (.int .i64 0)).setCell ⟨g4, 2, none⟩ (.int .i64 0)).setCell ⟨g4, 3, none⟩ (.int .i64 0)).setCell ⟨g4, 4, none⟩ (.int .i64 0)).setCell ⟨g4, 5, none⟩ (.int .i64 2))).heap.size by simp [World.setCell]]
  exact blk_new _ _)
 have HB := am (show Below w.heap.size w W3 by
  rw [hW3]
  exact below_alloc (ow_below6 D4.out L4.out) _)
 have NP := am (show w4.heap.size ≠ g4 from Nat.ne_of_gt (blk_lt K4.out))
 clear hW3
 go_loopw [37] (fun v37 wr => ∃ (acc : List Int) (s : Int), v37 = .int .i64 acc.length ∧ acc.length ≤ 4 ∧ Aside0 (block_open.go k l0 (4 - acc.length) s acc = some q) ∧ Aside0 (wr.heap[g4]? = some (.cells #[.int .u8 (rd l0 1), .int .i64 (acc.getD 0 0), .int .i64 (acc.getD 1 0), .int .i64 (acc.getD 2 0), .int .i64 (acc.getD 3 0), .int .i64 s] 114 (0, 0))) ∧ Aside0 (wr.heap[g2]? = some (.cells #[.int .u8 0, .int .i64 0, .int .i64 0, .int .i64 0, .int .i64 0, .int .i64 0] 114 (0, 0))) ∧ Aside0 (wr.heap[w4.heap.size]? = some (.cells #[.pointer (some ⟨g4, 1, none⟩), .pointer (some ⟨g4, 2, none⟩), .pointer (some ⟨g4, 3, none⟩), .pointer (some ⟨g4, 4, none⟩)] 137 (0, 0))) ∧ Aside0 (Below w.heap.size w wr)) (fun v37 _ => 4 - (intOf v37).toNat)
 case atStart => exact ⟨[], 2, rfl, by simp, HQ, HG, HG2, HGP, HB⟩
 case round =>
  clear HQ HG HG2 HGP HB
  obtain ⟨acc, s, rfl, hl, HQ, HG, HG2, HGP, HB⟩ := hrel
  rcases acc with _ | ⟨a0, _ | ⟨a1, _ | ⟨a2, _ | ⟨a3, _ | ⟨a4, acc⟩⟩⟩⟩⟩
  ·
   have H : block_open.go k l0 (3 + 1) s [] = some q := HQ.out
   rw [block_open.go] at H
   by_cases c : 0 ≤ s ∧ s ≤ (l0.length : Int)
   case neg =>
    rw [if_neg c] at H
    exact absurd H (by simp)
   rw [if_pos c] at H
   obtain ⟨⟨n_, z_, e_⟩, hp, H⟩ := Option.bind_eq_some_iff.mp H
   dsimp only at H
   obtain ⟨i0, hi0, _, hsz, _⟩ := info_parts info5
   obtain ⟨A1, hcut, hA, hC⟩ := print_drop_of (P := Try.prog) (Value.int .u8) 0 27 5 .i64 Try.underlying27 hi0 hsz (some ad) c0 l0 s c.1 c.2 HC0.out
   have HR1 : Aside0 (Kd.C (Kd.int .u8) w A1 (l0.drop s.toNat).length (l0.drop s.toNat)) := ⟨Kd.C_of_reads (h1 := fun _ => rfl) (hA _ (Kd.reads_of_C HR0.out))⟩
   obtain ⟨zs, hz⟩ : ∃ zs : List Int, zs = l0.drop s.toNat := ⟨_, rfl⟩
   rw [← hz] at hcut HR1 hC hp
   have HC1 := am hC
   have HF := am hp
   have HG' := am (show wr.heap[g4]? = some (.cells #[.int .u8 (rd l0 1), .int .i64 0, .int .i64 0, .int .i64 0, .int .i64 0, .int .i64 s] 114 (0, 0)) from HG.out)
   have s1 : wr.cell? ⟨g4, 5, none⟩ = some (.int .i64 s) := (blk_cell HG'.out 5).trans rfl
   have s2 : wr.cell? ⟨w4.heap.size, 0, none⟩ = some (.pointer (some ⟨g4, 1, none⟩)) := (blk_cell HGP.out 0).trans rfl
   clear hA hC hp hz hi0
   simp only [List.length_cons, List.length_nil, Nat.zero_add, Nat.reduceAdd]
   by_cases ce : e_ = 0
   ·
    rw [if_pos ce] at H
    have f1 : (e_ != 0) = false := by simp [ce]
    have H' := am H
    clear H c HQ HG
    go_wp2_with (go_at_call 75; refine (event_Int.calls k A1 _ zs n_ z_ e_ _ (Kd.C_below HR1.out HB.out) HC1.out HF.out).mono ?_; rintro e w5 ⟨rfl, hb⟩; have G5 := am (blk_below HG'.out hb); have G25 := am (blk_below HG2.out hb); have GP5 := am (blk_below HGP.out hb); have B5 := am (below_then HB.out HB.out.size hb); clear hb; have t1 : w5.cell? ⟨g4, 1, none⟩ = some (.int .i64 0) := (blk_cell G5.out 1).trans rfl; have t2 : w5.cell? ⟨g4, 5, none⟩ = some (.int .i64 s) := (blk_cell G5.out 5).trans rfl; have u1 := blk_frozen G5.out 1; have u2 := blk_frozen G5.out 5; obtain ⟨v0, v1, v2, v3, v4, v5⟩ := zc6 G25; obtain ⟨y0, y1, y2, y3, y4, y5⟩ := zf6 G25)
    go_roundw
    case rel =>
     (try simp only [i64_w])
     exact ⟨[n_], wrap64 (s + z_), by go_num, by simp, H', ⟨blk_put (cs := #[.int .u8 (rd l0 1), .int .i64 n_, .int .i64 0, .int .i64 0, .int .i64 0, .int .i64 s]) (blk_put (cs := #[.int .u8 (rd l0 1), .int .i64 0, .int .i64 0, .int .i64 0, .int .i64 0, .int .i64 s]) G5.out 1 _ rfl) 5 _ rfl⟩, ⟨blk_far (blk_far G25.out N24.out _) N24.out _⟩, ⟨blk_far (blk_far GP5.out NP.out _) NP.out _⟩, ⟨below_set (below_set B5.out L4.out) L4.out⟩⟩
    case measure => simp [intOf]
   ·
    rw [if_neg ce] at H
    have f1 : (e_ != 0) = true := by simp [ce]
    obtain rfl := Option.some.inj H
    simp only [block_open.fin] at h
    rw [if_neg ce] at h
    simp only [Option.some.injEq, Prod.mk.injEq] at h
    obtain ⟨rfl, rfl, rfl, rfl, rfl, rfl, rfl⟩ := h
    clear H c HQ HG
    go_wp2_with (go_at_call 75; refine (event_Int.calls k A1 _ zs n_ z_ e_ _ (Kd.C_below HR1.out HB.out) HC1.out HF.out).mono ?_; rintro e w5 ⟨rfl, hb⟩; have G5 := am (blk_below HG'.out hb); have G25 := am (blk_below HG2.out hb); have GP5 := am (blk_below HGP.out hb); have B5 := am (below_then HB.out HB.out.size hb); clear hb; have t1 : w5.cell? ⟨g4, 1, none⟩ = some (.int .i64 0) := (blk_cell G5.out 1).trans rfl; have t2 : w5.cell? ⟨g4, 5, none⟩ = some (.int .i64 s) := (blk_cell G5.out 5).trans rfl; have u1 := blk_frozen G5.out 1; have u2 := blk_frozen G5.out 5; obtain ⟨v0, v1, v2, v3, v4, v5⟩ := zc6 G25; obtain ⟨y0, y1, y2, y3, y4, y5⟩ := zf6 G25)
    exact y25
  ·
   have H : block_open.go k l0 (2 + 1) s [a0] = some q := HQ.out
   rw [block_open.go] at H
   by_cases c : 0 ≤ s ∧ s ≤ (l0.length : Int)
   case neg =>
    rw [if_neg c] at H
    exact absurd H (by simp)
   rw [if_pos c] at H
   obtain ⟨⟨n_, z_, e_⟩, hp, H⟩ := Option.bind_eq_some_iff.mp H
   dsimp only at H
   obtain ⟨i0, hi0, _, hsz, _⟩ := info_parts info5
   obtain ⟨A1, hcut, hA, hC⟩ := print_drop_of (P := Try.prog) (Value.int .u8) 0 27 5 .i64 Try.underlying27 hi0 hsz (some ad) c0 l0 s c.1 c.2 HC0.out
   have HR1 : Aside0 (Kd.C (Kd.int .u8) w A1 (l0.drop s.toNat).length (l0.drop s.toNat)) := ⟨Kd.C_of_reads (h1 := fun _ => rfl) (hA _ (Kd.reads_of_C HR0.out))⟩
   obtain ⟨zs, hz⟩ : ∃ zs : List Int, zs = l0.drop s.toNat := ⟨_, rfl⟩
   rw [← hz] at hcut HR1 hC hp
   have HC1 := am hC
   have HF := am hp
   have HG' := am (show wr.heap[g4]? = some (.cells #[.int .u8 (rd l0 1), .int .i64 a0, .int .i64 0, .int .i64 0, .int .i64 0, .int .i64 s] 114 (0, 0)) from HG.out)
   have s1 : wr.cell? ⟨g4, 5, none⟩ = some (.int .i64 s) := (blk_cell HG'.out 5).trans rfl
   have s2 : wr.cell? ⟨w4.heap.size, 1, none⟩ = some (.pointer (some ⟨g4, 2, none⟩)) := (blk_cell HGP.out 1).trans rfl
   clear hA hC hp hz hi0
   simp only [List.length_cons, List.length_nil, Nat.zero_add, Nat.reduceAdd]
   by_cases ce : e_ = 0
   ·
    rw [if_pos ce] at H
    have f1 : (e_ != 0) = false := by simp [ce]
    have H' := am H
    clear H c HQ HG
    go_wp2_with (go_at_call 75; refine (event_Int.calls k A1 _ zs n_ z_ e_ _ (Kd.C_below HR1.out HB.out) HC1.out HF.out).mono ?_; rintro e w5 ⟨rfl, hb⟩; have G5 := am (blk_below HG'.out hb); have G25 := am (blk_below HG2.out hb); have GP5 := am (blk_below HGP.out hb); have B5 := am (below_then HB.out HB.out.size hb); clear hb; have t1 : w5.cell? ⟨g4, 2, none⟩ = some (.int .i64 0) := (blk_cell G5.out 2).trans rfl; have t2 : w5.cell? ⟨g4, 5, none⟩ = some (.int .i64 s) := (blk_cell G5.out 5).trans rfl; have u1 := blk_frozen G5.out 2; have u2 := blk_frozen G5.out 5; obtain ⟨v0, v1, v2, v3, v4, v5⟩ := zc6 G25; obtain ⟨y0, y1, y2, y3, y4, y5⟩ := zf6 G25)
    go_roundw
    case rel =>
     (try simp only [i64_w])
     exact ⟨[a0, n_], wrap64 (s + z_), by go_num, by simp, H', ⟨blk_put (cs := #[.int .u8 (rd l0 1), .int .i64 a0, .int .i64 n_, .int .i64 0, .int .i64 0, .int .i64 s]) (blk_put (cs := #[.int .u8 (rd l0 1), .int .i64 a0, .int .i64 0, .int .i64 0, .int .i64 0, .int .i64 s]) G5.out 2 _ rfl) 5 _ rfl⟩, ⟨blk_far (blk_far G25.out N24.out _) N24.out _⟩, ⟨blk_far (blk_far GP5.out NP.out _) NP.out _⟩, ⟨below_set (below_set B5.out L4.out) L4.out⟩⟩
    case measure => simp [intOf]
   ·
    rw [if_neg ce] at H
    have f1 : (e_ != 0) = true := by simp [ce]
    obtain rfl := Option.some.inj H
    simp only [block_open.fin] at h
    rw [if_neg ce] at h
    simp only [Option.some.injEq, Prod.mk.injEq] at h
    obtain ⟨rfl, rfl, rfl, rfl, rfl, rfl, rfl⟩ := h
    clear H c HQ HG
    go_wp2_with (go_at_call 75; refine (event_Int.calls k A1 _ zs n_ z_ e_ _ (Kd.C_below HR1.out HB.out) HC1.out HF.out).mono ?_; rintro e w5 ⟨rfl, hb⟩; have G5 := am (blk_below HG'.out hb); have G25 := am (blk_below HG2.out hb); have GP5 := am (blk_below HGP.out hb); have B5 := am (below_then HB.out HB.out.size hb); clear hb; have t1 : w5.cell? ⟨g4, 2, none⟩ = some (.int .i64 0) := (blk_cell G5.out 2).trans rfl; have t2 : w5.cell? ⟨g4, 5, none⟩ = some (.int .i64 s) := (blk_cell G5.out 5).trans rfl; have u1 := blk_frozen G5.out 2; have u2 := blk_frozen G5.out 5; obtain ⟨v0, v1, v2, v3, v4, v5⟩ := zc6 G25; obtain ⟨y0, y1, y2, y3, y4, y5⟩ := zf6 G25)
    exact y25
  ·
   have H : block_open.go k l0 (1 + 1) s [a0, a1] = some q := HQ.out
   rw [block_open.go] at H
   by_cases c : 0 ≤ s ∧ s ≤ (l0.length : Int)
   case neg =>
    rw [if_neg c] at H
    exact absurd H (by simp)
   rw [if_pos c] at H
   obtain ⟨⟨n_, z_, e_⟩, hp, H⟩ := Option.bind_eq_some_iff.mp H
   dsimp only at H
   obtain ⟨i0, hi0, _, hsz, _⟩ := info_parts info5
   obtain ⟨A1, hcut, hA, hC⟩ := print_drop_of (P := Try.prog) (Value.int .u8) 0 27 5 .i64 Try.underlying27 hi0 hsz (some ad) c0 l0 s c.1 c.2 HC0.out
   have HR1 : Aside0 (Kd.C (Kd.int .u8) w A1 (l0.drop s.toNat).length (l0.drop s.toNat)) := ⟨Kd.C_of_reads (h1 := fun _ => rfl) (hA _ (Kd.reads_of_C HR0.out))⟩
   obtain ⟨zs, hz⟩ : ∃ zs : List Int, zs = l0.drop s.toNat := ⟨_, rfl⟩
   rw [← hz] at hcut HR1 hC hp
   have HC1 := am hC
   have HF := am hp
   have HG' := am (show wr.heap[g4]? = some (.cells #[.int .u8 (rd l0 1), .int .i64 a0, .int .i64 a1, .int .i64 0, .int .i64 0, .int .i64 s] 114 (0, 0)) from HG.out)
   have s1 : wr.cell? ⟨g4, 5, none⟩ = some (.int .i64 s) := (blk_cell HG'.out 5).trans rfl
   have s2 : wr.cell? ⟨w4.heap.size, 2, none⟩ = some (.pointer (some ⟨g4, 3, none⟩)) := (blk_cell HGP.out 2).trans rfl
   clear hA hC hp hz hi0
   simp only [List.length_cons, List.length_nil, Nat.zero_add, Nat.reduceAdd]
   by_cases ce : e_ = 0
   ·
    rw [if_pos ce] at H
    have f1 : (e_ != 0) = false := by simp [ce]
    have H' := am H
    clear H c HQ HG
    go_wp2_with (go_at_call 75; refine (event_Int.calls k A1 _ zs n_ z_ e_ _ (Kd.C_below HR1.out HB.out) HC1.out HF.out).mono ?_; rintro e w5 ⟨rfl, hb⟩; have G5 := am (blk_below HG'.out hb); have G25 := am (blk_below HG2.out hb); have GP5 := am (blk_below HGP.out hb); have B5 := am (below_then HB.out HB.out.size hb); clear hb; have t1 : w5.cell? ⟨g4, 3, none⟩ = some (.int .i64 0) := (blk_cell G5.out 3).trans rfl; have t2 : w5.cell? ⟨g4, 5, none⟩ = some (.int .i64 s) := (blk_cell G5.out 5).trans rfl; have u1 := blk_frozen G5.out 3; have u2 := blk_frozen G5.out 5; obtain ⟨v0, v1, v2, v3, v4, v5⟩ := zc6 G25; obtain ⟨y0, y1, y2, y3, y4, y5⟩ := zf6 G25)
    go_roundw
    case rel =>
     (try simp only [i64_w])
     exact ⟨[a0, a1, n_], wrap64 (s + z_), by go_num, by simp, H', ⟨blk_put (cs := #[.int .u8 (rd l0 1), .int .i64 a0, .int .i64 a1, .int .i64 n_, .int .i64 0, .int .i64 s]) (blk_put (cs := #[.int .u8 (rd l0 1), .int .i64 a0, .int .i64 a1, .int .i64 0, .int .i64 0, .int .i64 s]) G5.out 3 _ rfl) 5 _ rfl⟩, ⟨blk_far (blk_far G25.out N24.out _) N24.out _⟩, ⟨blk_far (blk_far GP5.out NP.out _) NP.out _⟩, ⟨below_set (below_set B5.out L4.out) L4.out⟩⟩
    case measure => simp [intOf]
   ·
    rw [if_neg ce] at H
    have f1 : (e_ != 0) = true := by simp [ce]
    obtain rfl := Option.some.inj H
    simp only [block_open.fin] at h
    rw [if_neg ce] at h
    simp only [Option.some.injEq, Prod.mk.injEq] at h
    obtain ⟨rfl, rfl, rfl, rfl, rfl, rfl, rfl⟩ := h
    clear H c HQ HG
    go_wp2_with (go_at_call 75; refine (event_Int.calls k A1 _ zs n_ z_ e_ _ (Kd.C_below HR1.out HB.out) HC1.out HF.out).mono ?_; rintro e w5 ⟨rfl, hb⟩; have G5 := am (blk_below HG'.out hb); have G25 := am (blk_below HG2.out hb); have GP5 := am (blk_below HGP.out hb); have B5 := am (below_then HB.out HB.out.size hb); clear hb; have t1 : w5.cell? ⟨g4, 3, none⟩ = some (.int .i64 0) := (blk_cell G5.out 3).trans rfl; have t2 : w5.cell? ⟨g4, 5, none⟩ = some (.int .i64 s) := (blk_cell G5.out 5).trans rfl; have u1 := blk_frozen G5.out 3; have u2 := blk_frozen G5.out 5; obtain ⟨v0, v1, v2, v3, v4, v5⟩ := zc6 G25; obtain ⟨y0, y1, y2, y3, y4, y5⟩ := zf6 G25)
    exact y25
  ·
   have H : block_open.go k l0 (0 + 1) s [a0, a1, a2] = some q := HQ.out
   rw [block_open.go] at H
   by_cases c : 0 ≤ s ∧ s ≤ (l0.length : Int)
   case neg =>
    rw [if_neg c] at H
    exact absurd H (by simp)
   rw [if_pos c] at H
   obtain ⟨⟨n_, z_, e_⟩, hp, H⟩ := Option.bind_eq_some_iff.mp H
   dsimp only at H
   obtain ⟨i0, hi0, _, hsz, _⟩ := info_parts info5
   obtain ⟨A1, hcut, hA, hC⟩ := print_drop_of (P := Try.prog) (Value.int .u8) 0 27 5 .i64 Try.underlying27 hi0 hsz (some ad) c0 l0 s c.1 c.2 HC0.out
   have HR1 : Aside0 (Kd.C (Kd.int .u8) w A1 (l0.drop s.toNat).length (l0.drop s.toNat)) := ⟨Kd.C_of_reads (h1 := fun _ => rfl) (hA _ (Kd.reads_of_C HR0.out))⟩
   obtain ⟨zs, hz⟩ : ∃ zs : List Int, zs = l0.drop s.toNat := ⟨_, rfl⟩
   rw [← hz] at hcut HR1 hC hp
   have HC1 := am hC
   have HF := am hp
   have HG' := am (show wr.heap[g4]? = some (.cells #[.int .u8 (rd l0 1), .int .i64 a0, .int .i64 a1, .int .i64 a2, .int .i64 0, .int .i64 s] 114 (0, 0)) from HG.out)
   have s1 : wr.cell? ⟨g4, 5, none⟩ = some (.int .i64 s) := (blk_cell HG'.out 5).trans rfl
   have s2 : wr.cell? ⟨w4.heap.size, 3, none⟩ = some (.pointer (some ⟨g4, 4, none⟩)) := (blk_cell HGP.out 3).trans rfl
   clear hA hC hp hz hi0
   simp only [List.length_cons, List.length_nil, Nat.zero_add, Nat.reduceAdd]
   by_cases ce : e_ = 0
   ·
    rw [if_pos ce] at H
    have f1 : (e_ != 0) = false := by simp [ce]
    have H' := am H
    clear H c HQ HG
    go_wp2_with (go_at_call 75; refine (event_Int.calls k A1 _ zs n_ z_ e_ _ (Kd.C_below HR1.out HB.out) HC1.out HF.out).mono ?_; rintro e w5 ⟨rfl, hb⟩; have G5 := am (blk_below HG'.out hb); have G25 := am (blk_below HG2.out hb); have GP5 := am (blk_below HGP.out hb); have B5 := am (below_then HB.out HB.out.size hb); clear hb; have t1 : w5.cell? ⟨g4, 4, none⟩ = some (.int .i64 0) := (blk_cell G5.out 4).trans rfl; have t2 : w5.cell? ⟨g4, 5, none⟩ = some (.int .i64 s) := (blk_cell G5.out 5).trans rfl; have u1 := blk_frozen G5.out 4; have u2 := blk_frozen G5.out 5; obtain ⟨v0, v1, v2, v3, v4, v5⟩ := zc6 G25; obtain ⟨y0, y1, y2, y3, y4, y5⟩ := zf6 G25)
    go_roundw
    case rel =>
     (try simp only [i64_w])
     exact ⟨[a0, a1, a2, n_], wrap64 (s + z_), by go_num, by simp, H', ⟨blk_put (cs := #[.int .u8 (rd l0 1), .int .i64 a0, .int .i64 a1, .int .i64 a2, .int .i64 n_, .int .i64 s]) (blk_put (cs := #[.int .u8 (rd l0 1), .int .i64 a0, .int .i64 a1, .int .i64 a2, .int .i64 0, .int .i64 s]) G5.out 4 _ rfl) 5 _ rfl⟩, ⟨blk_far (blk_far G25.out N24.out _) N24.out _⟩, ⟨blk_far (blk_far GP5.out NP.out _) NP.out _⟩, ⟨below_set (below_set B5.out L4.out) L4.out⟩⟩
    case measure => simp [intOf]
   ·
    rw [if_neg ce] at H
    have f1 : (e_ != 0) = true := by simp [ce]
    obtain rfl := Option.some.inj H
    simp only [block_open.fin] at h
    rw [if_neg ce] at h
    simp only [Option.some.injEq, Prod.mk.injEq] at h
    obtain ⟨rfl, rfl, rfl, rfl, rfl, rfl, rfl⟩ := h
    clear H c HQ HG
    go_wp2_with (go_at_call 75; refine (event_Int.calls k A1 _ zs n_ z_ e_ _ (Kd.C_below HR1.out HB.out) HC1.out HF.out).mono ?_; rintro e w5 ⟨rfl, hb⟩; have G5 := am (blk_below HG'.out hb); have G25 := am (blk_below HG2.out hb); have GP5 := am (blk_below HGP.out hb); have B5 := am (below_then HB.out HB.out.size hb); clear hb; have t1 : w5.cell? ⟨g4, 4, none⟩ = some (.int .i64 0) := (blk_cell G5.out 4).trans rfl; have t2 : w5.cell? ⟨g4, 5, none⟩ = some (.int .i64 s) := (blk_cell G5.out 5).trans rfl; have u1 := blk_frozen G5.out 4; have u2 := blk_frozen G5.out 5; obtain ⟨v0, v1, v2, v3, v4, v5⟩ := zc6 G25; obtain ⟨y0, y1, y2, y3, y4, y5⟩ := zf6 G25)
    exact y25
  ·
   have H : block_open.go k l0 0 s [a0, a1, a2, a3] = some q := HQ.out
   rw [block_open.go] at H
   obtain rfl := Option.some.inj H
   simp only [block_open.fin] at h
   rw [if_pos trivial] at h
   simp only [show ([a0, a1, a2, a3] : List Int).getD 0 0 = a0 from rfl, show ([a0, a1, a2, a3] : List Int).getD 1 0 = a1 from rfl, show ([a0, a1, a2, a3] : List Int).getD 2 0 = a2 from rfl, show ([a0, a1, a2, a3] : List Int).getD 3 0 = a3 from rfl] at h
   have K0 := am (show wr.heap[g4]? = some (.cells #[.int .u8 (rd l0 1), .int .i64 a0, .int .i64 a1, .int .i64 a2, .int .i64 a3, .int .i64 s] 114 (0, 0)) from HG.out)
   have Q0 := HG2
   have D0 := HB
   clear H HQ HG HG2 HGP HB hl
   have k_0 : wr.cell? ⟨g4, 0, none⟩ = some (.int .u8 (rd l0 1)) := (blk_cell K0.out 0).trans rfl
   have k_1 : wr.cell? ⟨g4, 1, none⟩ = some (.int .i64 a0) := (blk_cell K0.out 1).trans rfl
   simp only [List.length_cons, List.length_nil, Nat.zero_add, Nat.reduceAdd]
   by_cases t4 : rd l0 1 < 4
   rotate_left
   ·
    rw [if_neg t4] at h
    simp only [Option.some.injEq, Prod.mk.injEq] at h
    obtain ⟨rfl, rfl, rfl, rfl, rfl, rfl, rfl⟩ := h
    have t5 : decide (4 ≤ rd l0 1) = true := decide_eq_true (by omega)
    obtain ⟨zz_0, zz_1, zz_2, zz_3, zz_4, zz_5⟩ := zc6 Q0
    obtain ⟨ff_0, ff_1, ff_2, ff_3, ff_4, ff_5⟩ := zf6 Q0
    go_wp2
    refine bodyPost_ret (results_ct rfl _ _ g2 114 #[.int .u8 0, .int .i64 0, .int .i64 0, .int .i64 0, .int .i64 0, .int .i64 0] (0, 0) _ rfl (ow_put6 Q0.out) Try.underlying114 rfl (by kernel_rfl)) rfl ?_
    exact ⟨rfl, ow_below6 D0.out L2.out⟩
   rw [if_pos t4] at h
   have t5 : decide (4 ≤ rd l0 1) = false := decide_eq_false (by omega)
   cases c0 : block_open.ok a0 0 400
   ·
    rw [c0, if_neg (by decide)] at h
    simp only [Option.some.injEq, Prod.mk.injEq] at h
    obtain ⟨rfl, rfl, rfl, rfl, rfl, rfl, rfl⟩ := h
    have E0 := am c0
    clear c0
    go_wp2_with (first | (go_at_call 82; with_reducible refine (block_open.within a0 0 400 false _ E0.out).mono ?_; rintro e w6 ⟨rfl, hb⟩; have K1 := am (blk_below K0.out hb); have Q1 := am (blk_below Q0.out hb); have D1 := am (below_then D0.out D0.out.size hb); clear hb; obtain ⟨z0_0, z0_1, z0_2, z0_3, z0_4, z0_5⟩ := zc6 Q1; obtain ⟨f0_0, f0_1, f0_2, f0_3, f0_4, f0_5⟩ := zf6 Q1))
    refine bodyPost_ret (results_ct rfl _ _ g2 114 #[.int .u8 0, .int .i64 0, .int .i64 0, .int .i64 0, .int .i64 0, .int .i64 0] (0, 0) _ rfl (ow_put6 Q1.out) Try.underlying114 rfl (by kernel_rfl)) rfl ?_
    exact ⟨rfl, ow_below6 D1.out L2.out⟩
   rw [c0, if_pos rfl] at h
   have E0 := am c0
   clear c0
   cases c1 : block_open.ok a1 1 64
   ·
    rw [c1, if_neg (by decide)] at h
    simp only [Option.some.injEq, Prod.mk.injEq] at h
    obtain ⟨rfl, rfl, rfl, rfl, rfl, rfl, rfl⟩ := h
    have E1 := am c1
    clear c1
    go_wp2_with (first | (go_at_call 82; with_reducible refine (block_open.within a0 0 400 true _ E0.out).mono ?_; rintro e w6 ⟨rfl, hb⟩; have K1 := am (blk_below K0.out hb); have Q1 := am (blk_below Q0.out hb); have D1 := am (below_then D0.out D0.out.size hb); clear hb; have g0_ : w6.cell? ⟨g4, 2, none⟩ = some (.int .i64 a1) := (blk_cell K1.out 2).trans rfl) | (go_at_call 82; with_reducible refine (block_open.within a1 1 64 false _ E1.out).mono ?_; rintro e w7 ⟨rfl, hb⟩; have K2 := am (blk_below K1.out hb); have Q2 := am (blk_below Q1.out hb); have D2 := am (below_then D1.out D1.out.size hb); clear hb; obtain ⟨z1_0, z1_1, z1_2, z1_3, z1_4, z1_5⟩ := zc6 Q2; obtain ⟨f1_0, f1_1, f1_2, f1_3, f1_4, f1_5⟩ := zf6 Q2))
    refine bodyPost_ret (results_ct rfl _ _ g2 114 #[.int .u8 0, .int .i64 0, .int .i64 0, .int .i64 0, .int .i64 0, .int .i64 0] (0, 0) _ rfl (ow_put6 Q2.out) Try.underlying114 rfl (by kernel_rfl)) rfl ?_
    exact ⟨rfl, ow_below6 D2.out L2.out⟩
   rw [c1, if_pos rfl] at h
   have E1 := am c1
   clear c1
   cases c2 : block_open.ok a2 0 1048576
   ·
    rw [c2, if_neg (by decide)] at h
    simp only [Option.some.injEq, Prod.mk.injEq] at h
    obtain ⟨rfl, rfl, rfl, rfl, rfl, rfl, rfl⟩ := h
    have E2 := am c2
    clear c2
    go_wp2_with (first | (go_at_call 82; with_reducible refine (block_open.within a0 0 400 true _ E0.out).mono ?_; rintro e w6 ⟨rfl, hb⟩; have K1 := am (blk_below K0.out hb); have Q1 := am (blk_below Q0.out hb); have D1 := am (below_then D0.out D0.out.size hb); clear hb; have g0_ : w6.cell? ⟨g4, 2, none⟩ = some (.int .i64 a1) := (blk_cell K1.out 2).trans rfl) | (go_at_call 82; with_reducible refine (block_open.within a1 1 64 true _ E1.out).mono ?_; rintro e w7 ⟨rfl, hb⟩; have K2 := am (blk_below K1.out hb); have Q2 := am (blk_below Q1.out hb); have D2 := am (below_then D1.out D1.out.size hb); clear hb; have g1_ : w7.cell? ⟨g4, 3, none⟩ = some (.int .i64 a2) := (blk_cell K2.out 3).trans rfl) | (go_at_call 82; with_reducible refine (block_open.within a2 0 1048576 false _ E2.out).mono ?_; rintro e w8 ⟨rfl, hb⟩; have K3 := am (blk_below K2.out hb); have Q3 := am (blk_below Q2.out hb); have D3 := am (below_then D2.out D2.out.size hb); clear hb; obtain ⟨z2_0, z2_1, z2_2, z2_3, z2_4, z2_5⟩ := zc6 Q3; obtain ⟨f2_0, f2_1, f2_2, f2_3, f2_4, f2_5⟩ := zf6 Q3))
    refine bodyPost_ret (results_ct rfl _ _ g2 114 #[.int .u8 0, .int .i64 0, .int .i64 0, .int .i64 0, .int .i64 0, .int .i64 0] (0, 0) _ rfl (ow_put6 Q3.out) Try.underlying114 rfl (by kernel_rfl)) rfl ?_
    exact ⟨rfl, ow_below6 D3.out L2.out⟩
   rw [c2, if_pos rfl] at h
   have E2 := am c2
   clear c2
   cases c3 : block_open.ok a3 0 1048576
   ·
    rw [c3, if_neg (by decide)] at h
    simp only [Option.some.injEq, Prod.mk.injEq] at h
    obtain ⟨rfl, rfl, rfl, rfl, rfl, rfl, rfl⟩ := h
    have E3 := am c3
    clear c3
    go_wp2_with (first | (go_at_call 82; with_reducible refine (block_open.within a0 0 400 true _ E0.out).mono ?_; rintro e w6 ⟨rfl, hb⟩; have K1 := am (blk_below K0.out hb); have Q1 := am (blk_below Q0.out hb); have D1 := am (below_then D0.out D0.out.size hb); clear hb; have g0_ : w6.cell? ⟨g4, 2, none⟩ = some (.int .i64 a1) := (blk_cell K1.out 2).trans rfl) | (go_at_call 82; with_reducible refine (block_open.within a1 1 64 true _ E1.out).mono ?_; rintro e w7 ⟨rfl, hb⟩; have K2 := am (blk_below K1.out hb); have Q2 := am (blk_below Q1.out hb); have D2 := am (below_then D1.out D1.out.size hb); clear hb; have g1_ : w7.cell? ⟨g4, 3, none⟩ = some (.int .i64 a2) := (blk_cell K2.out 3).trans rfl) | (go_at_call 82; with_reducible refine (block_open.within a2 0 1048576 true _ E2.out).mono ?_; rintro e w8 ⟨rfl, hb⟩; have K3 := am (blk_below K2.out hb); have Q3 := am (blk_below Q2.out hb); have D3 := am (below_then D2.out D2.out.size hb); clear hb; have g2_ : w8.cell? ⟨g4, 4, none⟩ = some (.int .i64 a3) := (blk_cell K3.out 4).trans rfl) | (go_at_call 82; with_reducible refine (block_open.within a3 0 1048576 false _ E3.out).mono ?_; rintro e w9 ⟨rfl, hb⟩; have K4 := am (blk_below K3.out hb); have Q4 := am (blk_below Q3.out hb); have D4 := am (below_then D3.out D3.out.size hb); clear hb; obtain ⟨z3_0, z3_1, z3_2, z3_3, z3_4, z3_5⟩ := zc6 Q4; obtain ⟨f3_0, f3_1, f3_2, f3_3, f3_4, f3_5⟩ := zf6 Q4))
    refine bodyPost_ret (results_ct rfl _ _ g2 114 #[.int .u8 0, .int .i64 0, .int .i64 0, .int .i64 0, .int .i64 0, .int .i64 0] (0, 0) _ rfl (ow_put6 Q4.out) Try.underlying114 rfl (by kernel_rfl)) rfl ?_
    exact ⟨rfl, ow_below6 D4.out L2.out⟩
   rw [c3, if_pos rfl] at h
   have E3 := am c3
   clear c3
   simp only [Option.some.injEq, Prod.mk.injEq] at h
   obtain ⟨rfl, rfl, rfl, rfl, rfl, rfl, rfl⟩ := h
   go_wp2_with (first | (go_at_call 82; with_reducible refine (block_open.within a0 0 400 true _ E0.out).mono ?_; rintro e w6 ⟨rfl, hb⟩; have K1 := am (blk_below K0.out hb); have Q1 := am (blk_below Q0.out hb); have D1 := am (below_then D0.out D0.out.size hb); clear hb; have g0_ : w6.cell? ⟨g4, 2, none⟩ = some (.int .i64 a1) := (blk_cell K1.out 2).trans rfl) | (go_at_call 82; with_reducible refine (block_open.within a1 1 64 true _ E1.out).mono ?_; rintro e w7 ⟨rfl, hb⟩; have K2 := am (blk_below K1.out hb); have Q2 := am (blk_below Q1.out hb); have D2 := am (below_then D1.out D1.out.size hb); clear hb; have g1_ : w7.cell? ⟨g4, 3, none⟩ = some (.int .i64 a2) := (blk_cell K2.out 3).trans rfl) | (go_at_call 82; with_reducible refine (block_open.within a2 0 1048576 true _ E2.out).mono ?_; rintro e w8 ⟨rfl, hb⟩; have K3 := am (blk_below K2.out hb); have Q3 := am (blk_below Q2.out hb); have D3 := am (below_then D2.out D2.out.size hb); clear hb; have g2_ : w8.cell? ⟨g4, 4, none⟩ = some (.int .i64 a3) := (blk_cell K3.out 4).trans rfl) | (go_at_call 82; with_reducible refine (block_open.within a3 0 1048576 true _ E3.out).mono ?_; rintro e w9 ⟨rfl, hb⟩; have K4 := am (blk_below K3.out hb); have Q4 := am (blk_below Q3.out hb); have D4 := am (below_then D3.out D3.out.size hb); clear hb; obtain ⟨g3_0, g3_1, g3_2, g3_3, g3_4, g3_5⟩ := zc6 K4; obtain ⟨z3_0, z3_1, z3_2, z3_3, z3_4, z3_5⟩ := zc6 Q4; obtain ⟨f3_0, f3_1, f3_2, f3_3, f3_4, f3_5⟩ := zf6 Q4))
   refine bodyPost_ret (results_ct rfl _ _ g2 114 #[.int .u8 (rd l0 1), .int .i64 a0, .int .i64 a1, .int .i64 a2, .int .i64 a3, .int .i64 s] (0, 0) _ rfl (ow_put6 Q4.out) Try.underlying114 rfl (by kernel_rfl)) rfl ?_
   exact ⟨rfl, ow_below6 D4.out L2.out⟩
  ·
   exact absurd hl (by simp only [List.length_cons]; omega)
def IsS88 (w0 W : World) (g : Nat) (f0 : List Int) (f1 : Int) (f2 : Int) : Prop := ∃ A0 c0, W.heap[g]? = some (.cells #[.slice A0 f0.length c0, .int .i64 f1, .int .i64 f2] 88 (0, 0)) ∧ w0.heap.size ≤ g ∧ (Kd.C (Kd.int .u8) w0 A0 f0.length f0 ∧ f0.length ≤ c0)
theorem IsS88.grown {w0 W : World} {g : Nat} {f0 : List Int} {f1 : Int} {f2 : Int} {W1 : World} {row : Option Nat} (h : IsS88 w0 W g f0 f1 f2) (hw : W.grownBy W1 row) (hne : some g ≠ row) : IsS88 w0 W1 g f0 f1 f2 := by
 obtain ⟨A0, c0, hb, hg, hr0⟩ := h
 exact ⟨A0, c0, blk_grown hb hw hne, hg, hr0⟩
theorem IsS88.kept {w0 W : World} {g : Nat} {f0 : List Int} {f1 : Int} {f2 : Int} {W1 : World} {S : Nat → Prop} (h : IsS88 w0 W g f0 f1 f2) (hk : Kept W W1 S) (hne : ¬ S g) : IsS88 w0 W1 g f0 f1 f2 := by
 obtain ⟨A0, c0, hb, hg, hr0⟩ := h
 exact ⟨A0, c0, blk_kept hb hk hne, hg, hr0⟩
theorem IsS88.below {w0 W : World} {g : Nat} {f0 : List Int} {f1 : Int} {f2 : Int} {W1 : World} (h : IsS88 w0 W g f0 f1 f2) (hw : Below W.heap.size W W1) : IsS88 w0 W1 g f0 f1 f2 := h.grown (grown_of_below hw none) (by simp)
theorem IsS88.alloc {w0 W : World} {g : Nat} {f0 : List Int} {f1 : Int} {f2 : Int} (h : IsS88 w0 W g f0 f1 f2) (o : Obj) : IsS88 w0 (W.alloc o) g f0 f1 f2 := h.below (below_alloc (Below.refl _ _) o)
theorem IsS88.drewN {w0 W : World} {g : Nat} {f0 : List Int} {f1 : Int} {f2 : Int} (h : IsS88 w0 W g f0 f1 f2) (m : Nat) : IsS88 w0 (W.drewN m) g f0 f1 f2 := h
theorem IsS88.drew {w0 W : World} {g : Nat} {f0 : List Int} {f1 : Int} {f2 : Int} (h : IsS88 w0 W g f0 f1 f2) : IsS88 w0 W.drew g f0 f1 f2 := h
theorem IsS88.at_ {w0 W : World} {g : Nat} {f0 : List Int} {f1 : Int} {f2 : Int} {w' : World} {m : Nat} (hq : W.drewN m = w') (h : IsS88 w0 W g f0 f1 f2) : IsS88 w0 w' g f0 f1 f2 := by subst hq; exact IsS88.drewN h m
theorem IsS88.apart {w0 W : World} {g : Nat} {f0 : List Int} {f1 : Int} {f2 : Int} {α : Type} {d : Kd α} {e : Nat} {base : Nat} {ok : Nat → Prop} {v : Value} {xs : List α} (h : IsS88 w0 W g f0 f1 f2) (ho : d.R e W base ok v xs) (ht : ∀ q, q ∈ e :: d.E → q ≠ 88) : d.R e W base (fun k => ok k ∧ k ≠ g) v xs := by
 obtain ⟨A0, c0, hb, hg, hr0⟩ := h
 exact Kd.R_types ho hb ht
theorem IsS88.own_ne {w0 W : World} {g : Nat} {f0 : List Int} {f1 : Int} {f2 : Int} {α : Type} {d : Kd α} {e : Nat} {base : Nat} {ok : Nat → Prop} {v : Value} {xs : List α} (h : IsS88 w0 W g f0 f1 f2) (ho : d.R e W base ok v xs) (ht : e ≠ 88) : some g ≠ v.ownBlock := by
 obtain ⟨A0, c0, hb, hg, hr0⟩ := h
 exact Kd.R_ne ho hb ht
theorem IsS88.lt {w0 W : World} {g : Nat} {f0 : List Int} {f1 : Int} {f2 : Int} (h : IsS88 w0 W g f0 f1 f2) : g < W.heap.size := by
 obtain ⟨A0, c0, hb, hg, hr0⟩ := h
 exact blk_lt hb
theorem IsS88.ge {w0 W : World} {g : Nat} {f0 : List Int} {f1 : Int} {f2 : Int} (h : IsS88 w0 W g f0 f1 f2) : w0.heap.size ≤ g := by
 obtain ⟨A0, c0, hb, hg, hr0⟩ := h
 exact hg
theorem IsS88.far {w0 W : World} {g : Nat} {f0 : List Int} {f1 : Int} {f2 : Int} {p : Addr} (h : IsS88 w0 W g f0 f1 f2) (hne : g ≠ p.block) (u : Value) : IsS88 w0 (W.setCell p u) g f0 f1 f2 := by
 obtain ⟨A0, c0, hb, hg, hr0⟩ := h
 exact ⟨A0, c0, blk_far hb hne u, hg, hr0⟩
theorem cellS88_0 {W : World} {g : Nat} {A0 : Option Addr} {c0 : Nat} {f0 : List Int} {f1 : Int} {f2 : Int} (h : W.heap[g]? = some (.cells #[.slice A0 f0.length c0, .int .i64 f1, .int .i64 f2] 88 (0, 0))) : W.cell? ⟨g, 0, none⟩ = some (.slice A0 f0.length c0) := (blk_cell h 0).trans rfl
theorem cellS88_1 {W : World} {g : Nat} {A0 : Option Addr} {c0 : Nat} {f0 : List Int} {f1 : Int} {f2 : Int} (h : W.heap[g]? = some (.cells #[.slice A0 f0.length c0, .int .i64 f1, .int .i64 f2] 88 (0, 0))) : W.cell? ⟨g, 1, none⟩ = some (.int .i64 f1) := (blk_cell h 1).trans rfl
theorem IsS88.set_1 {w0 W : World} {g : Nat} {f0 : List Int} {f1 : Int} {f2 : Int} (h : IsS88 w0 W g f0 f1 f2) (x : Int) : IsS88 w0 (W.setCell ⟨g, 1, none⟩ (.int .i64 x)) g f0 x f2 := by
 obtain ⟨A0, c0, hb, hg, hr0⟩ := h
 exact ⟨A0, c0, by simpa using blk_set hb 1 (.int .i64 x), hg, hr0⟩
theorem cellS88_2 {W : World} {g : Nat} {A0 : Option Addr} {c0 : Nat} {f0 : List Int} {f1 : Int} {f2 : Int} (h : W.heap[g]? = some (.cells #[.slice A0 f0.length c0, .int .i64 f1, .int .i64 f2] 88 (0, 0))) : W.cell? ⟨g, 2, none⟩ = some (.int .i64 f2) := (blk_cell h 2).trans rfl
theorem IsS88.set_2 {w0 W : World} {g : Nat} {f0 : List Int} {f1 : Int} {f2 : Int} (h : IsS88 w0 W g f0 f1 f2) (x : Int) : IsS88 w0 (W.setCell ⟨g, 2, none⟩ (.int .i64 x)) g f0 f1 x := by
 obtain ⟨A0, c0, hb, hg, hr0⟩ := h
 exact ⟨A0, c0, by simpa using blk_set hb 2 (.int .i64 x), hg, hr0⟩
theorem IsS88.new (w0 W : World) (A0 : Option Addr) (c0 : Nat) (f0 : List Int) (f1 : Int) (f2 : Int) (hB : Below w0.heap.size w0 W) (hr0 : Kd.C (Kd.int .u8) w0 A0 f0.length f0 ∧ f0.length ≤ c0) : IsS88 w0 (W.alloc (.cells #[.slice A0 f0.length c0, .int .i64 f1, .int .i64 f2] 88)) W.heap.size f0 f1 f2 := ⟨A0, c0, by simpa using heap_alloc_new W _, hB.size, hr0⟩
def event_reader_next.f (k : Nat) (s0_0 : List Int) (s0_1 : Int) (s0_2 : Int) : Option (Int × Int × Int) :=
 if s0_2 = 0 then (if 0 ≤ s0_1 ∧ s0_1 ≤ (s0_0.length : Int) then (event_Int.f k (s0_0.drop s0_1.toNat)).bind fun p => some (p.1, wrap64 (s0_1 + p.2.1), p.2.2) else none) else some (0, s0_1, s0_2)
theorem event_reader_next.mono : ∀ a0 a1 a2 k, LeO (event_reader_next.f k a0 a1 a2) (event_reader_next.f (k + 1) a0 a1 a2) := by
 intro a0 a1 a2 k
 unfold event_reader_next.f
 by_cases c : a2 = 0
 ·
  rw [if_pos c, if_pos c]
  by_cases c1 : 0 ≤ a1 ∧ a1 ≤ (a0.length : Int)
  ·
   rw [if_pos c1, if_pos c1]
   exact LeO.bind (event_Int.mono _ _) fun _ => LeO.refl _
  ·
   rw [if_neg c1, if_neg c1]
   exact LeO.refl _
 ·
  rw [if_neg c, if_neg c]
  exact LeO.refl _
set_option maxHeartbeats 4000000 in
set_option maxRecDepth 100000 in
theorem event_reader_next.calls (k : Nat) (g : Nat) (s0_0 : List Int) (s0_1 : Int) (s0_2 : Int) (r1 : Int) (r2 : Int) (r3 : Int) (w0 w : World) (hI : IsS88 w0 w g s0_0 s0_1 s0_2) (hB : Below w0.heap.size w0 w) (h : event_reader_next.f k s0_0 s0_1 s0_2 = some (r1, r2, r3)) :
  Calls Try.prog 42 #[.pointer (some ⟨g, 0, none⟩)] w fun e w' => e = .returned (.int .i64 r1) ∧ IsS88 w0 w' g s0_0 r2 r3 ∧ Below w0.heap.size w0 w' ∧ KeepBut w w' g none := by
 have HI := am hI
 have HB := am hB
 obtain ⟨A0, c0, hblk, hg, hr0, hc0⟩ := hI
 have q0 := cellS88_0 hblk
 have q1 := cellS88_1 hblk
 have q2 := cellS88_2 hblk
 have HR0 := am hr0
 clear hblk hB hr0
 unfold event_reader_next.f at h
 by_cases c : s0_2 = 0
 ·
  rw [if_pos c] at h
  have c0_ : (s0_2 != 0) = false := by simp [c]
  have c1_ : (s0_2 == 0) = true := by simp [c]
  by_cases c2 : 0 ≤ s0_1 ∧ s0_1 ≤ (s0_0.length : Int)
  case neg =>
   rw [if_neg c2] at h
   exact absurd h (by simp)
  rw [if_pos c2] at h
  obtain ⟨p, hp, h⟩ := Option.bind_eq_some_iff.mp h
  obtain ⟨n_, z_, e_⟩ := p
  dsimp only at h
  obtain ⟨i0, hi0, _, hsz, _⟩ := info_parts info5
  obtain ⟨A1, hcut, hA, hC⟩ := print_drop_of (P := Try.prog) (Value.int .u8) 0 27 5 .i64 Try.underlying27 hi0 hsz A0 c0 s0_0 s0_1 c2.1 c2.2 hc0
  have HR1 : Aside0 (Kd.C (Kd.int .u8) w0 A1 (s0_0.drop s0_1.toNat).length (s0_0.drop s0_1.toNat)) := ⟨Kd.C_of_reads (h1 := fun _ => rfl) (hA _ (Kd.reads_of_C HR0.out))⟩
  obtain ⟨zs, hz⟩ : ∃ zs : List Int, zs = s0_0.drop s0_1.toNat := ⟨_, rfl⟩
  rw [← hz] at hcut HR1 hC hp
  have HC1 := am hC
  have HF := am hp
  clear hA hC hp hz c2 hc0 c hi0
  simp only [Option.some.injEq, Prod.mk.injEq] at h
  obtain ⟨rfl, rfl, rfl⟩ := h
  go_enter Try.func42, Try.ntmps42
  go_wp2
  refine start_ (n := 17) (S := fun w' => w'.cell? ⟨g, 0, none⟩ = some (.slice A0 s0_0.length c0) ∧ w'.cell? ⟨g, 1, none⟩ = some (.int .i64 s0_1)) (ds := []) #[false, false, false, false, false, false, false, false, false, false, false, false, false, false, false, false, false] (by kernel_rfl) rfl rfl ⟨q0, q1⟩ (fun hHeld => ?_)
  have HI2 := am (IsS88.drew HI.out)
  have HB2 := am (HB.out.drew)
  have HK2 := am (keep_drew (KeepBut.refl w g none))
  generalize w.drew = w2 at HI2 HB2 HK2 hHeld ⊢
  have HR2 := am (Kd.C_below HR1.out HB2.out)
  refine pure_ (i := 0) (N := some 12) (v := ?_) (a' := ?_) #[true, false, false, false, false, false, false, false, false, false, false, false, false, false, false, false, false] rfl rfl (by kernel_rfl) (fun _ _ _ h => h) (Or.inl ⟨by rfl, ?_⟩) ?_ ?_
  rotate_left
  ·
   intro w'
   go_simp
   with_reducible rfl
  rotate_left
  ·
   simp only [Act.put, List.setIfInBounds_toArray, List.set_cons_zero, List.set_cons_succ, i64_w, i32_w]
   rfl
  refine pure_ (i := 1) (N := some 13) (v := ?_) (a' := ?_) #[true, true, false, false, false, false, false, false, false, false, false, false, false, false, false, false, false] rfl rfl (by kernel_rfl) (fun _ _ _ h => h) (Or.inl ⟨by rfl, ?_⟩) ?_ ?_
  rotate_left
  ·
   intro w'
   go_simp
   with_reducible rfl
  rotate_left
  ·
   simp only [Act.put, List.setIfInBounds_toArray, List.set_cons_zero, List.set_cons_succ, i64_w, i32_w]
   rfl
  refine pure_ (i := 2) (N := some 14) (v := ?_) (a' := ?_) #[true, true, true, false, false, false, false, false, false, false, false, false, false, false, false, false, false] rfl rfl (by kernel_rfl) (fun _ _ _ h => h) (Or.inl ⟨by rfl, ?_⟩) ?_ ?_
  rotate_left
  ·
   intro w'
   go_simp
   with_reducible rfl
  rotate_left
  ·
   simp only [Act.put, List.setIfInBounds_toArray, List.set_cons_zero, List.set_cons_succ, i64_w, i32_w]
   rfl
  refine pure_ (i := 4) (N := some 16) (v := ?_) (a' := ?_) #[true, true, true, false, true, false, false, false, false, false, false, false, false, false, false, false, false] rfl rfl (by kernel_rfl) (fun _ _ _ h => h) (Or.inl ⟨by rfl, ?_⟩) ?_ ?_
  rotate_left
  ·
   intro w'
   go_simp
   with_reducible rfl
  rotate_left
  ·
   simp only [Act.put, List.setIfInBounds_toArray, List.set_cons_zero, List.set_cons_succ, i64_w, i32_w]
   rfl
  refine pure_ (i := 5) (N := some 17) (v := ?_) (a' := ?_) #[true, true, true, false, true, true, false, false, false, false, false, false, false, false, false, false, false] rfl rfl (by kernel_rfl) (fun _ _ _ h => h) (Or.inl ⟨by rfl, ?_⟩) ?_ ?_
  rotate_left
  ·
   intro w'
   go_simp
   with_reducible rfl
  rotate_left
  ·
   simp only [Act.put, List.setIfInBounds_toArray, List.set_cons_zero, List.set_cons_succ, i64_w, i32_w]
   rfl
  refine pure_ (i := 6) (N := some 18) (v := ?_) (a' := ?_) #[true, true, true, false, true, true, true, false, false, false, false, false, false, false, false, false, false] rfl rfl (by kernel_rfl) (fun _ _ _ h => h) (Or.inl ⟨by rfl, ?_⟩) ?_ ?_
  rotate_left
  ·
   intro w'
   go_simp
   with_reducible rfl
  rotate_left
  ·
   simp only [Act.put, List.setIfInBounds_toArray, List.set_cons_zero, List.set_cons_succ, i64_w, i32_w]
   rfl
  refine take_ (i := 3) (N := some 15) (v := ?_) (a' := ?_) #[true, true, true, true, true, true, true, false, false, false, false, false, false, false, false, false, false] rfl rfl (by kernel_rfl) (fun _ _ _ h => h) (Or.inl ⟨by rfl, ?_⟩) hHeld ?_ ?_
  rotate_left
  ·
   rintro w' ⟨s0, s1⟩
   go_simp
   with_reducible rfl
  rotate_left
  ·
   simp only [Act.put, List.setIfInBounds_toArray, List.set_cons_zero, List.set_cons_succ, i64_w, i32_w]
   rfl
  refine take_ (i := 7) (N := some 19) (v := ?_) (a' := ?_) #[true, true, true, true, true, true, true, true, false, false, false, false, false, false, false, false, false] rfl rfl (by kernel_rfl) (fun _ _ _ h => h) (Or.inl ⟨by rfl, ?_⟩) hHeld ?_ ?_
  rotate_left
  ·
   rintro w' ⟨s0, s1⟩
   go_simp
   with_reducible rfl
  rotate_left
  ·
   simp only [Act.put, List.setIfInBounds_toArray, List.set_cons_zero, List.set_cons_succ, i64_w, i32_w]
   rfl
  refine pure_ (i := 8) (N := some 20) (v := ?_) (a' := ?_) #[true, true, true, true, true, true, true, true, true, false, false, false, false, false, false, false, false] rfl rfl (by kernel_rfl) (fun _ _ _ h => h) (Or.inl ⟨by rfl, ?_⟩) ?_ ?_
  rotate_left
  ·
   intro w'
   go_simp
   with_reducible rfl
  rotate_left
  ·
   simp only [Act.put, List.setIfInBounds_toArray, List.set_cons_zero, List.set_cons_succ, i64_w, i32_w]
   rfl
  refine one_ (i := 9) (N := some 21) #[true, true, true, true, true, true, true, true, true, true, false, false, false, false, false, false, false] rfl rfl (by kernel_rfl) (by decide) (fun K hK => ?_)
  refine goes_ Try.func75 (by kernel_rfl) rfl #[.slice A1 zs.length (c0 - s0_1.toNat)] (by rfl) rfl rfl y79 ?_
  with_reducible refine (event_Int.calls k A1 (c0 - s0_1.toNat) zs n_ z_ e_ _ HR2.out HC1.out HF.out).mono ?_
  rintro e w4 ⟨rfl, hb⟩
  refine ⟨_, rfl, ?_⟩
  have HB4 := am (hb)
  have HI4 := am (IsS88.below HI2.out HB4.out)
  clear hb
  refine hK.out _ _ ⟨(HB4.out.cell (p := ⟨g, 0, none⟩) (IsS88.lt HI2.out)).trans hHeld.1, (HB4.out.cell (p := ⟨g, 1, none⟩) (IsS88.lt HI2.out)).trans hHeld.2⟩ (fun hHeld => ?_)
  clear hK K
  refine norm_ (a' := ?_) ?_ ?_
  rotate_left
  ·
   show Act.put _ (some 21) _ = _
   simp only [Act.put, List.setIfInBounds_toArray, List.set_cons_zero, List.set_cons_succ, i64_w, i32_w]
   rfl
  refine pure_ (i := 10) (N := some 11) (v := ?_) (a' := ?_) #[true, true, true, true, true, true, true, true, true, true, true, false, false, false, false, false, false] rfl rfl (by kernel_rfl) (fun _ _ _ h => h) (Or.inl ⟨by rfl, ?_⟩) ?_ ?_
  rotate_left
  ·
   intro w'
   go_simp
   with_reducible rfl
  rotate_left
  ·
   simp only [Act.put, List.setIfInBounds_toArray, List.set_cons_zero, List.set_cons_succ, i64_w, i32_w]
   rfl
  refine pure_ (i := 11) (N := some 22) (v := ?_) (a' := ?_) #[true, true, true, true, true, true, true, true, true, true, true, true, false, false, false, false, false] rfl rfl (by kernel_rfl) (fun _ _ _ h => h) (Or.inl ⟨by rfl, ?_⟩) ?_ ?_
  rotate_left
  ·
   intro w'
   go_simp
   with_reducible rfl
  rotate_left
  ·
   simp only [Act.put, List.setIfInBounds_toArray, List.set_cons_zero, List.set_cons_succ, i64_w, i32_w]
   rfl
  refine pure_ (i := 12) (N := some 23) (v := ?_) (a' := ?_) #[true, true, true, true, true, true, true, true, true, true, true, true, true, false, false, false, false] rfl rfl (by kernel_rfl) (fun _ _ _ h => h) (Or.inl ⟨by rfl, ?_⟩) ?_ ?_
  rotate_left
  ·
   intro w'
   go_simp
   with_reducible rfl
  rotate_left
  ·
   simp only [Act.put, List.setIfInBounds_toArray, List.set_cons_zero, List.set_cons_succ, i64_w, i32_w]
   rfl
  refine pure_ (i := 13) (N := some 24) (v := ?_) (a' := ?_) #[true, true, true, true, true, true, true, true, true, true, true, true, true, true, false, false, false] rfl rfl (by kernel_rfl) (fun _ _ _ h => h) (Or.inl ⟨by rfl, ?_⟩) ?_ ?_
  rotate_left
  ·
   intro w'
   go_simp
   with_reducible rfl
  rotate_left
  ·
   simp only [Act.put, List.setIfInBounds_toArray, List.set_cons_zero, List.set_cons_succ, i64_w, i32_w]
   rfl
  refine pure_ (i := 14) (N := some 3) (v := ?_) (a' := ?_) #[true, true, true, true, true, true, true, true, true, true, true, true, true, true, true, false, false] rfl rfl (by kernel_rfl) (fun _ _ _ h => h) (Or.inl ⟨by rfl, ?_⟩) ?_ ?_
  rotate_left
  ·
   intro w'
   go_simp
   with_reducible rfl
  rotate_left
  ·
   simp only [Act.put, List.setIfInBounds_toArray, List.set_cons_zero, List.set_cons_succ, i64_w, i32_w]
   rfl
  refine pure_ (i := 15) (N := some 4) (v := ?_) (a' := ?_) #[true, true, true, true, true, true, true, true, true, true, true, true, true, true, true, true, false] rfl rfl (by kernel_rfl) (fun _ _ _ h => h) (Or.inl ⟨by rfl, ?_⟩) ?_ ?_
  rotate_left
  ·
   intro w'
   go_simp
   with_reducible rfl
  rotate_left
  ·
   simp only [Act.put, List.setIfInBounds_toArray, List.set_cons_zero, List.set_cons_succ, i64_w, i32_w]
   rfl
  refine pure_ (i := 16) (N := some 5) (v := ?_) (a' := ?_) #[true, true, true, true, true, true, true, true, true, true, true, true, true, true, true, true, true] rfl rfl (by kernel_rfl) (fun _ _ _ h => h) (Or.inl ⟨by rfl, ?_⟩) ?_ ?_
  rotate_left
  ·
   intro w'
   go_simp
   with_reducible rfl
  rotate_left
  ·
   simp only [Act.put, List.setIfInBounds_toArray, List.set_cons_zero, List.set_cons_succ, i64_w, i32_w]
   rfl
  refine done_ (by kernel_rfl) ?_
  obtain ⟨Az, cz, hz, _, _⟩ := HI4.out
  have f1 := blk_frozen hz 1
  have f2 := blk_frozen hz 2
  have q4 := cellS88_1 hz
  have q5 := cellS88_2 hz
  clear hz
  go_wp2
  go_ret
  exact ⟨rfl, (HI4.out.set_1 _).set_2 _, below_set (below_set (below_then HB2.out HB2.out.size HB4.out) HI.out.ge) HI.out.ge, ((KeepBut.trans HK2.out (KeepBut.of_below HB4.out g none) (.inl rfl)).set_ 1 _).set_ 2 _⟩
 ·
  rw [if_neg c] at h
  have c0_ : (s0_2 != 0) = true := by simp [c]
  have c1_ : (s0_2 == 0) = false := by simp [c]
  clear c
  simp only [Option.some.injEq, Prod.mk.injEq] at h
  obtain ⟨rfl, rfl, rfl⟩ := h
  go_enter Try.func42, Try.ntmps42
  go_wp2
  go_ret
  exact ⟨rfl, HI.out, HB.out, KeepBut.refl w g none⟩
mutual
def event_reader_list.j0 : Nat → Int → Bool → List Int → Int → Int → Option (List Int × Int × Int)
 | 0, _, _, _, _, _ => none
 | k + 1, x3, x21, x1000, x1001, x1002 => if x21 = true then (event_reader_list.j1 k x3 x1000 x1001 11) else (event_reader_list.j1 k x3 x1000 x1001 x1002)
def event_reader_list.j1 : Nat → Int → List Int → Int → Int → Option (List Int × Int × Int)
 | 0, _, _, _, _ => none
 | k + 1, x3, x1000, x1001, x1002 => event_reader_list.l0 k x3 ([] : List Int) 0 0 x1000 x1001 x1002
def event_reader_list.l0 : Nat → Int → List Int → Int → Int → List Int → Int → Int → Option (List Int × Int × Int)
 | 0, _, _, _, _, _, _, _ => none
 | k + 1, x3, x4, x5, x6, x1000, x1001, x1002 => if x6 < x3 then (if x1002 = 0 then ((event_reader_next.f k x1000 x1001 x1002).bind fun bt119 => (if x4.length < 17592186044416 then (event_reader_list.l0 k x3 (x4 ++ [wrap64 (x5 + bt119.1)]) (wrap64 (x5 + bt119.1)) (wrap64 (x6 + 1)) x1000 bt119.2.1 bt119.2.2) else (none))) else (some (x4, x1001, x1002))) else (some (x4, x1001, x1002))
end
def event_reader_list.f (k : Nat) (s0_0 : List Int) (s0_1 : Int) (s0_2 : Int) : Option (List Int × Int × Int) := (event_reader_next.f k s0_0 s0_1 s0_2).bind fun bt116 => (if bt116.2.2 = 0 then (if bt116.1 < 0 then (event_reader_list.j0 k bt116.1 true s0_0 bt116.2.1 bt116.2.2) else (event_reader_list.j0 k bt116.1 (decide (bt116.1 > 400)) s0_0 bt116.2.1 bt116.2.2)) else (event_reader_list.j0 k bt116.1 false s0_0 bt116.2.1 bt116.2.2))
theorem event_reader_list.mono_l : ∀ k, (∀ y0 y1 y2 y3 y4, LeO (event_reader_list.j0 k y0 y1 y2 y3 y4) (event_reader_list.j0 (k + 1) y0 y1 y2 y3 y4)) ∧ (∀ y0 y1 y2 y3, LeO (event_reader_list.j1 k y0 y1 y2 y3) (event_reader_list.j1 (k + 1) y0 y1 y2 y3)) ∧ (∀ y0 y1 y2 y3 y4 y5 y6, LeO (event_reader_list.l0 k y0 y1 y2 y3 y4 y5 y6) (event_reader_list.l0 (k + 1) y0 y1 y2 y3 y4 y5 y6))
 | 0 => ⟨fun _ _ _ _ _ r h => by simp [event_reader_list.j0] at h, fun _ _ _ _ r h => by simp [event_reader_list.j1] at h, fun _ _ _ _ _ _ _ r h => by simp [event_reader_list.l0] at h⟩
 | k + 1 => by
  obtain ⟨ih0, ih1, ih2⟩ := event_reader_list.mono_l k
  refine ⟨?_, ?_, ?_⟩
  ·
   intro y0 y1 y2 y3 y4
   unfold event_reader_list.j0
   exact zM
  ·
   intro y0 y1 y2 y3
   unfold event_reader_list.j1
   exact zM
  ·
   intro y0 y1 y2 y3 y4 y5 y6
   unfold event_reader_list.l0
   exact zM
theorem event_reader_list.mono : ∀ a0 a1 a2 k, LeO (event_reader_list.f k a0 a1 a2) (event_reader_list.f (k + 1) a0 a1 a2) := by
 intro a0 a1 a2 k
 obtain ⟨ih0, ih1, ih2⟩ := event_reader_list.mono_l k
 unfold event_reader_list.f
 exact zM
set_option maxHeartbeats 8000000 in
set_option maxRecDepth 100000 in
theorem event_reader_list.calls (k : Nat) (g : Nat) (s0_0 : List Int) (s0_1 : Int) (s0_2 : Int) (r1 : List Int) (r2 : Int) (r3 : Int) (w0 w : World) (hI : IsS88 w0 w g s0_0 s0_1 s0_2) (hB : Below w0.heap.size w0 w) (h : event_reader_list.f k s0_0 s0_1 s0_2 = some (r1, r2, r3)) :
  Calls Try.prog 43 #[.pointer (some ⟨g, 0, none⟩)] w fun e w' => ∃ v0_ : Value, e = .returned (v0_) ∧ Kd.R (Kd.int .i64) 3 w' w.heap.size (fun _ => True) v0_ r1 ∧ IsS88 w0 w' g s0_0 r2 r3 ∧ Below w0.heap.size w0 w' ∧ KeepBut w w' g none := by
 have HI0 := am hI
 have HK := am (KeepBut.refl w g none)
 have HL := am hB.size
 clear hI
 have HW0 := am hB.size
 have HB := am hB
 clear hB
 have H : ((event_reader_next.f k s0_0 s0_1 s0_2).bind fun bt116 => (if bt116.2.2 = 0 then (if bt116.1 < 0 then (event_reader_list.j0 k bt116.1 true s0_0 bt116.2.1 bt116.2.2) else (event_reader_list.j0 k bt116.1 (decide (bt116.1 > 400)) s0_0 bt116.2.1 bt116.2.2)) else (event_reader_list.j0 k bt116.1 false s0_0 bt116.2.1 bt116.2.2))) = some (r1, r2, r3) := h
 clear h
 replace H := Option.bind_eq_some_iff.mp H
 obtain ⟨⟨t116, t117, t118⟩, A20, H⟩ := H
 (try dsimp only at H)
 have A2 := am A20
 clear A20
 have HC3 := am H
 clear H
 go_enter Try.func43, Try.ntmps43
 go_upto_region 2 with (first | ((with_reducible refine gate_callee (f := 42) rfl ?_); refine goesL_ (some 8) rfl rfl Try.func42 (by kernel_rfl) rfl #[.pointer (some ⟨g, 0, none⟩)] rfl zg ?_; (with_reducible refine (event_reader_next.calls k g s0_0 s0_1 s0_2 t116 t117 t118 w0 _ ?side1 ?side2 A2.out).mono ?_); (case side1 => exact y54); (case side2 => exact y51); rintro e w4 ⟨rfl, hi, hb, hk⟩; refine ⟨_, rfl, ?_⟩; replace HK := am (KeepBut.trans y21 hk (.inl rfl)); replace HB := am (hb); replace HI0 := am (hi); clear hb hk hi))
 (try simp only [Act.put, List.setIfInBounds_toArray, List.set_cons_zero, List.set_cons_succ])
 go_cut [21] (fun v21 wc => ∃ (kq : Nat) (x21_2 : Bool), v21 = .bool x21_2 ∧ Aside0 (event_reader_list.j0 kq t116 x21_2 s0_0 t117 t118 = some (r1, r2, r3)) ∧ Aside0 (kq ≤ k) ∧ Aside0 (IsS88 w0 wc g s0_0 t117 t118) ∧ Aside0 (KeepBut w wc g none) ∧ Aside0 (Below w0.heap.size w0 wc))
 case first =>
  have H := HC3.out
  clear HC3
  by_cases c5 : t118 = 0
  ·
   rw [if_pos c5] at H
   obtain ⟨c5b0, c5b1⟩ := zt c5
   clear c5
   (first | rw [c5b0] | (simp only [i64_w, i32_w]; rw [c5b0]) | skip)
   by_cases c6 : t116 < 0
   ·
    rw [if_pos c6] at H
    have c6b0 := decide_eq_true c6
    clear c6
    have H' := am H
    clear H
    obtain ⟨ASz7_0, cSz7_0, HGz7, hgz7, ⟨HSz7_0, _⟩⟩ := HI0.out
    have hcz7_0 := cellS88_0 HGz7
    have hcz7_1 := cellS88_1 HGz7
    have hcz7_2 := cellS88_2 HGz7
    have hfz7_1 := blk_frozen HGz7 1
    have hfz7_2 := blk_frozen HGz7 2
    clear HGz7 hgz7
    go_wp2
    go_meet
    case rel => exact ⟨_, (true), zr, H', ⟨by first | omega | exact Nat.le_refl _⟩, ⟨by repeat (first | (with_reducible first | exact HI0.out | apply IsS88.alloc | apply IsS88.drewN | apply IsS88.drew | apply IsS88.set_1 | apply IsS88.set_2) | exact HI0.out)⟩, ⟨by repeat (first | (with_reducible first | exact HK.out | apply KeepBut.set_ | apply keep_drewN | apply keep_drew | apply keep_alloc) | exact HK.out)⟩, ⟨by repeat (first | (with_reducible first | exact HB.out | apply below_alloc | apply pw_below_drewN | apply below_drew1 | refine below_set ?_ (IsS88.ge HI0.out)) | exact HB.out)⟩⟩
   ·
    rw [if_neg c6] at H
    have c6b0 := decide_eq_false c6
    clear c6
    have H' := am H
    clear H
    obtain ⟨ASz8_0, cSz8_0, HGz8, hgz8, ⟨HSz8_0, _⟩⟩ := HI0.out
    have hcz8_0 := cellS88_0 HGz8
    have hcz8_1 := cellS88_1 HGz8
    have hcz8_2 := cellS88_2 HGz8
    have hfz8_1 := blk_frozen HGz8 1
    have hfz8_2 := blk_frozen HGz8 2
    clear HGz8 hgz8
    go_wp2
    go_meet
    case rel => exact ⟨_, (decide (t116 > 400)), zr, H', ⟨by first | omega | exact Nat.le_refl _⟩, ⟨by repeat (first | (with_reducible first | exact HI0.out | apply IsS88.alloc | apply IsS88.drewN | apply IsS88.drew | apply IsS88.set_1 | apply IsS88.set_2) | exact HI0.out)⟩, ⟨by repeat (first | (with_reducible first | exact HK.out | apply KeepBut.set_ | apply keep_drewN | apply keep_drew | apply keep_alloc) | exact HK.out)⟩, ⟨by repeat (first | (with_reducible first | exact HB.out | apply below_alloc | apply pw_below_drewN | apply below_drew1 | refine below_set ?_ (IsS88.ge HI0.out)) | exact HB.out)⟩⟩
  ·
   rw [if_neg c5] at H
   obtain ⟨c5b0, c5b1⟩ := zs c5
   (first | rw [c5b0] | (simp only [i64_w, i32_w]; rw [c5b0]) | skip)
   have H' := am H
   clear H
   obtain ⟨ASz9_0, cSz9_0, HGz9, hgz9, ⟨HSz9_0, _⟩⟩ := HI0.out
   have hcz9_0 := cellS88_0 HGz9
   have hcz9_1 := cellS88_1 HGz9
   have hcz9_2 := cellS88_2 HGz9
   have hfz9_1 := blk_frozen HGz9 1
   have hfz9_2 := blk_frozen HGz9 2
   clear HGz9 hgz9
   go_wp2
   go_meet
   case rel => exact ⟨_, (false), zr, H', ⟨by first | omega | exact Nat.le_refl _⟩, ⟨by repeat (first | (with_reducible first | exact HI0.out | apply IsS88.alloc | apply IsS88.drewN | apply IsS88.drew | apply IsS88.set_1 | apply IsS88.set_2) | exact HI0.out)⟩, ⟨by repeat (first | (with_reducible first | exact HK.out | apply KeepBut.set_ | apply keep_drewN | apply keep_drew | apply keep_alloc) | exact HK.out)⟩, ⟨by repeat (first | (with_reducible first | exact HB.out | apply below_alloc | apply pw_below_drewN | apply below_drew1 | refine below_set ?_ (IsS88.ge HI0.out)) | exact HB.out)⟩⟩
 case rest =>
  clear HC3
  obtain ⟨kq, x21_2, rfl, HA, HJ2, HI0, HK, HB⟩ := hcut
  cases kq with
  | zero => exact absurd HA.out (by simp [event_reader_list.j0])
  | succ kj2 =>
   have H := HA.out
   clear HA
   simp only [event_reader_list.j0] at H
   have HC10 := am H
   clear H
   go_upto_if 21 with (fail)
   go_cut [] (fun wc => ∃ (kq : Nat) (x1002_9 : Int), Aside0 (event_reader_list.j1 kq t116 s0_0 t117 x1002_9 = some (r1, r2, r3)) ∧ Aside0 (kq ≤ kj2) ∧ Aside0 (IsS88 w0 wc g s0_0 t117 x1002_9) ∧ Aside0 (KeepBut w wc g none) ∧ Aside0 (Below w0.heap.size w0 wc))
   case first =>
    have H := HC10.out
    clear HC10
    by_cases c11 : x21_2 = true
    ·
     subst c11
     have H1 : (event_reader_list.j1 kj2 t116 s0_0 t117 11) = some (r1, r2, r3) := by rw [if_pos rfl] at H; exact H
     clear H
     have H := H1
     clear H1
     have H' := am H
     clear H
     obtain ⟨ASz12_0, cSz12_0, HGz12, hgz12, ⟨HSz12_0, _⟩⟩ := HI0.out
     have hcz12_0 := cellS88_0 HGz12
     have hcz12_1 := cellS88_1 HGz12
     have hcz12_2 := cellS88_2 HGz12
     have hfz12_1 := blk_frozen HGz12 1
     have hfz12_2 := blk_frozen HGz12 2
     clear HGz12 hgz12
     go_wp2
     go_meet
     case rel => exact ⟨_, (11), H', ⟨by have := HJ2.out; first | omega | exact Nat.le_refl _⟩, ⟨by repeat (first | (with_reducible first | exact HI0.out | apply IsS88.alloc | apply IsS88.drewN | apply IsS88.drew | apply IsS88.set_1 | apply IsS88.set_2) | exact HI0.out)⟩, ⟨by repeat (first | (with_reducible first | exact HK.out | apply KeepBut.set_ | apply keep_drewN | apply keep_drew | apply keep_alloc) | exact HK.out)⟩, ⟨by repeat (first | (with_reducible first | exact HB.out | apply below_alloc | apply pw_below_drewN | apply below_drew1 | refine below_set ?_ (IsS88.ge HI0.out)) | exact HB.out)⟩⟩
    ·
     replace c11 := Bool.eq_false_iff.mpr c11
     subst c11
     have H1 : (event_reader_list.j1 kj2 t116 s0_0 t117 t118) = some (r1, r2, r3) := by rw [if_neg (show ¬ (false = true) by decide)] at H; exact H
     clear H
     have H := H1
     clear H1
     have H' := am H
     clear H
     go_wp2
     go_meet
     case rel => exact ⟨_, (t118), H', ⟨by have := HJ2.out; first | omega | exact Nat.le_refl _⟩, ⟨by repeat (first | (with_reducible first | exact HI0.out | apply IsS88.alloc | apply IsS88.drewN | apply IsS88.drew | apply IsS88.set_1 | apply IsS88.set_2) | exact HI0.out)⟩, ⟨by repeat (first | (with_reducible first | exact HK.out | apply KeepBut.set_ | apply keep_drewN | apply keep_drew | apply keep_alloc) | exact HK.out)⟩, ⟨by repeat (first | (with_reducible first | exact HB.out | apply below_alloc | apply pw_below_drewN | apply below_drew1 | refine below_set ?_ (IsS88.ge HI0.out)) | exact HB.out)⟩⟩
   case rest =>
    clear HC10
    obtain ⟨kq, x1002_9, HA, HJ9, HI0, HK, HB⟩ := hcut
    cases kq with
    | zero => exact absurd HA.out (by simp [event_reader_list.j1])
    | succ kj9 =>
     have H := HA.out
     clear HA
     simp only [event_reader_list.j1] at H
     have H' := am H
     clear H
     go_wp2
     go_loopg [4, 5, 6] kj9 (fun kq v4 v5 v6 w' => ∃ (x4_3 : List Int) (x5_3 : Int) (x6_3 : Int) (x1001_3 : Int) (x1002_3 : Int), v5 = .int .i64 x5_3 ∧ v6 = .int .i64 x6_3 ∧ Aside0 (event_reader_list.l0 kq t116 x4_3 x5_3 x6_3 s0_0 x1001_3 x1002_3 = some (r1, r2, r3)) ∧ Aside0 (kq ≤ kj9) ∧ Aside0 (Kd.R (Kd.int .i64) 3 w' w.heap.size (fun _ => True) v4 x4_3) ∧ Aside0 (IsS88 w0 w' g s0_0 x1001_3 x1002_3) ∧ Aside0 (KeepBut w w' g none) ∧ Aside0 (Below w0.heap.size w0 w'))
     case atStart => exact ⟨(([] : List Int)), (0), (0), (t117), (x1002_9), zr, zr, H', ⟨Nat.le_refl _⟩, ⟨by first | exact Kd.R_nil _ _ _ _ _ | exact Kd.N_nil _ _ _ _ _ | exact Kd.V_nil _ _ _ _ _ | exact Kd.Q_nil _ _ _ _ _ | exact Kd.S_nil _ _ _ _ _⟩, ⟨by repeat (first | (with_reducible first | exact HI0.out | apply IsS88.alloc | apply IsS88.drewN | apply IsS88.drew | apply IsS88.set_1 | apply IsS88.set_2) | exact HI0.out)⟩, ⟨by repeat (first | (with_reducible first | exact HK.out | apply KeepBut.set_ | apply keep_drewN | apply keep_drew | apply keep_alloc) | exact HK.out)⟩, ⟨by repeat (first | (with_reducible first | exact HB.out | apply below_alloc | apply pw_below_drewN | apply below_drew1 | refine below_set ?_ (IsS88.ge HI0.out)) | exact HB.out)⟩⟩
     case round =>
      clear H'
      obtain ⟨x4_3, x5_3, x6_3, x1001_3, x1002_3, rfl, rfl, HA, HK3, HO_4, HI0, HK, HB⟩ := hrel
      cases gk with
      | zero => exact absurd HA.out (by simp [event_reader_list.l0])
      | succ k3 =>
       have H := HA.out
       clear HA
       simp only [event_reader_list.l0] at H
       by_cases c13 : x6_3 < t116
       ·
        rw [if_pos c13] at H
        have c13b0 := decide_eq_true c13
        clear c13
        by_cases c14 : x1002_3 = 0
        ·
         rw [if_pos c14] at H
         obtain ⟨c14b0, c14b1⟩ := zt c14
         clear c14
         replace H := Option.bind_eq_some_iff.mp H
         obtain ⟨⟨t119, t120, t121⟩, A150, H⟩ := H
         (try dsimp only at H)
         have A15 := am A150
         clear A150
         by_cases c16 : x4_3.length < 17592186044416
         ·
          rw [if_pos c16] at H
          have LMc16 := am c16
          clear c16
          obtain ⟨y122, hy122⟩ : ∃ y_ : List Int, y_ = (x4_3 ++ [wrap64 (x5_3 + t119)]) := ⟨_, rfl⟩
          replace H : (event_reader_list.l0 k3 t116 y122 (wrap64 (x5_3 + t119)) (wrap64 (x6_3 + 1)) s0_0 t120 t121) = some (r1, r2, r3) := by first | (rw [hy122]; with_reducible exact H) | (have H2_ := (Option.bind_some _ _).symm.trans H; rw [hy122]; with_reducible exact H2_) | (have H2_ := (Option.bind_some _ _).symm.trans H; with_reducible exact H2_) | with_reducible exact H | (rw [hy122]; exact H) | exact H
          have Ny122 := am hy122
          clear hy122
          have H' := am H
          clear H
          obtain ⟨ASz17_0, cSz17_0, HGz17, hgz17, ⟨HSz17_0, _⟩⟩ := HI0.out
          have hcz17_0 := cellS88_0 HGz17
          have hcz17_1 := cellS88_1 HGz17
          have hcz17_2 := cellS88_2 HGz17
          have hfz17_1 := blk_frozen HGz17 1
          have hfz17_2 := blk_frozen HGz17 2
          clear HGz17 hgz17
          go_wp2_with (first | ((with_reducible refine gate_callee (f := 42) rfl ?_); refine goesL_ (some 39) rfl rfl Try.func42 (by kernel_rfl) rfl #[.pointer (some ⟨g, 0, none⟩)] rfl zg ?_; (with_reducible refine (event_reader_next.calls k3 g s0_0 x1001_3 x1002_3 t119 t120 t121 w0 _ ?side1 ?side2 A15.out).mono ?_); (case side1 => exact y54); (case side2 => exact y51); rintro e w18 ⟨rfl, hi, hb, hk⟩; refine ⟨_, rfl, ?_⟩; replace HO_4 := am (Kd.R_mono (Kd.R_keep (IsS88.apart (show IsS88 w0 _ g s0_0 x1001_3 x1002_3 from by repeat (first | (with_reducible first | exact HI0.out | apply IsS88.alloc | apply IsS88.drewN | apply IsS88.drew | apply IsS88.set_1 | apply IsS88.set_2) | exact HI0.out)) (zR HO_4.out) (by decide)) hk (fun _ h => h.2)) (fun _ h => h.1)); replace HK := am (KeepBut.trans y21 hk (.inl rfl)); replace HB := am (hb); replace HI0 := am (hi); clear hb hk hi) | ((with_reducible refine gate_builtin (b := .append) (xs := #[.tmp 41, .tmp 43]) rfl ?_); at_builtin; refine Kd.R_append (Kd.int .i64) w.heap.size rfl (.tmp 41) (.tmp 43) 22 3 (.int .i64 0) 8 rfl Try.underlying22 info3 rfl (by decide) (by omega) u4 x4_3 (wrap64 (x5_3 + t119)) [.int .i64 (wrap64 (x5_3 + t119))] (fun _ => True) (fun _ => False) rfl rfl ?aP (fun _ hk => hk.elim) ?aF ?aO (Below.refl _ _) ?aS ?aL ?_; (case aP => exact rfl); (case aF => exact y69); (case aO => exact (zR HO_4.out)); (case aS => exact y62); (case aL => have := LMc16.out; omega); intro v123 w19 ho hb hg hat; rw [← Ny122.out] at ho; have n0_ := am (IsS88.grown y54 hg (IsS88.own_ne HI0.out HO_4.out (by decide))); have n1_ := am (below_weaken y51 HL.out hb); have n2_ := am (KeepBut.trans y21 (KeepBut.of_grown hg g) (Kd.R_base2 HO_4.out)); have n3_ := am (ho); clear HI0; clear HB; clear HK; clear HO_4; have HI0 := n0_; have HB := n1_; have HK := n2_; have HO124 := n3_; clear n0_ n1_ n2_ n3_; clear ho hb hg hat))
          go_roundg k3
          case measure => have := HJ2.out; have := HJ9.out; have := HK3.out; omega
          case rel => exact ⟨(y122), (wrap64 (x5_3 + t119)), (wrap64 (x6_3 + 1)), (t120), (t121), zr, zr, H', ⟨by have := HJ2.out; have := HJ9.out; have := HK3.out; omega⟩, ⟨by (with_reducible repeat (first | apply Kd.R_alloc | apply Kd.R_drewN | apply Kd.R_drew)); exact HO124.out⟩, ⟨by repeat (first | (with_reducible first | exact HI0.out | apply IsS88.alloc | apply IsS88.drewN | apply IsS88.drew | apply IsS88.set_1 | apply IsS88.set_2) | exact HI0.out)⟩, ⟨by repeat (first | (with_reducible first | exact HK.out | apply KeepBut.set_ | apply keep_drewN | apply keep_drew | apply keep_alloc) | exact HK.out)⟩, ⟨by repeat (first | (with_reducible first | exact HB.out | apply below_alloc | apply pw_below_drewN | apply below_drew1 | refine below_set ?_ (IsS88.ge HI0.out)) | exact HB.out)⟩⟩
         ·
          rw [if_neg c16] at H
          exact absurd H (by simp)
        ·
         rw [if_neg c14] at H
         obtain ⟨c14b0, c14b1⟩ := zs c14
         simp only [Option.some.injEq, Prod.mk.injEq] at H
         obtain ⟨rfl, rfl, rfl⟩ := H
         obtain ⟨ASz20_0, cSz20_0, HGz20, hgz20, ⟨HSz20_0, _⟩⟩ := HI0.out
         have hcz20_0 := cellS88_0 HGz20
         have hcz20_1 := cellS88_1 HGz20
         have hcz20_2 := cellS88_2 HGz20
         have hfz20_1 := blk_frozen HGz20 1
         have hfz20_2 := blk_frozen HGz20 2
         clear HGz20 hgz20
         go_wp2
         go_ret
         exact y16
       ·
        rw [if_neg c13] at H
        have c13b0 := decide_eq_false c13
        clear c13
        simp only [Option.some.injEq, Prod.mk.injEq] at H
        obtain ⟨rfl, rfl, rfl⟩ := H
        go_wp2
        go_ret
        exact y16
end Go.Proofs.Ytnmmkgagbfniiaa.A
end
