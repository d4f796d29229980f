/- MBlockReads3: texts of this session and of the kit's printer on the road to the statement BlockReads, laid into one and rid of what it doesn't need. No condition beyond what each fact names. -/
import Derived.Test.YtnmmkgagbfniiaaMBlockReads2
import Derived.Lib.SlBytesConst
section
namespace Go.Proofs.Ytnmmkgagbfniiaa.A
open Go.RowKit Go.Proofs.YtnmmkgagbfniiaaW.PrintWords Go.Proofs.YtnmmkgagbfniiaaW.PrintLast Go.Proofs.YtnmmkgagbfniiaaW.PrintMore
set_option linter.unusedVariables false
theorem zu {W W' : World} {g : Nat} {o : Obj} (h : W.heap[g]? = some o) (hs : W.heap[g]? = some o → W'.heap[g]? = some o := by intro h_; (with_reducible repeat (first | refine blk_drewN ?_ _ | refine blk_drew ?_ | refine blk_alloc ?_ _)); exact h_) : W'.heap[g]? = some o := hs h
theorem zb {w W W' : World} (h : Aside0 (Below w.heap.size w W)) (hs : Below w.heap.size w W → Below w.heap.size w W' := by intro h_; repeat (first | (with_reducible first | exact h_ | apply below_alloc | apply pw_below_drewN | apply below_drew1 | refine below_set ?_ (Aside0.out (by with_reducible assumption))) | exact h_)) : Below w.heap.size w W' := hs h.out
theorem zo {p : Prop} [i : Decidable p] (h : decide p = true := by first | (with_reducible assumption) | assumption) : p := of_decide_eq_true h
theorem zp {P md ops Q S ds i N oi v fuel l a w} (l' : Array Bool) (hc : anyB md ops l l' i = true) {a'} (h : wpAnyLast P md ops Q S ds fuel l' a' w) (hi : ops[i]? = some oi := by rfl) (hN : oi.dst = N := by rfl) (hQ : ∀ c a w, Q (.panic c) (a.put oi.dst v) w → Q (.panic c) a w := by exact fun _ _ _ h => h) (hy : Yields P ops oi v a := by exact Or.inl ⟨by rfl, by intro w'; go_simp; with_reducible rfl⟩) (ha : a.put N v = a' := by simp only [Act.put, List.setIfInBounds_toArray, List.set_cons_zero, List.set_cons_succ, i64_w, i32_w]; rfl) : wpAnyLast P md ops Q S ds (fuel + 1) l a w := pure_ l' hi hN hc hQ hy ha h
theorem zc2 {W : World} {g : Nat} {t : TypeId} {v0 v1 : Value} (h : Aside0 (W.heap[g]? = some (.cells #[v0, v1] t (0, 0)))) : W.cell? ⟨g, 0, none⟩ = some v0 ∧ W.cell? ⟨g, 1, none⟩ = some v1 := ⟨(blk_cell h.out 0).trans rfl, (blk_cell h.out 1).trans rfl⟩
theorem zc3 {W : World} {g : Nat} {t : TypeId} {v0 v1 v2 : Value} (h : Aside0 (W.heap[g]? = some (.cells #[v0, v1, v2] t (0, 0)))) : W.cell? ⟨g, 0, none⟩ = some v0 ∧ W.cell? ⟨g, 1, none⟩ = some v1 ∧ W.cell? ⟨g, 2, none⟩ = some v2 := ⟨(blk_cell h.out 0).trans rfl, (blk_cell h.out 1).trans rfl, (blk_cell h.out 2).trans rfl⟩
theorem zc4 {W : World} {g : Nat} {t : TypeId} {v0 v1 v2 v3 : Value} (h : Aside0 (W.heap[g]? = some (.cells #[v0, v1, v2, v3] t (0, 0)))) : W.cell? ⟨g, 0, none⟩ = some v0 ∧ W.cell? ⟨g, 1, none⟩ = some v1 ∧ W.cell? ⟨g, 2, none⟩ = some v2 ∧ W.cell? ⟨g, 3, none⟩ = some v3 := ⟨(blk_cell h.out 0).trans rfl, (blk_cell h.out 1).trans rfl, (blk_cell h.out 2).trans rfl, (blk_cell h.out 3).trans rfl⟩
theorem zc5 {W : World} {g : Nat} {t : TypeId} {v0 v1 v2 v3 v4 : Value} (h : Aside0 (W.heap[g]? = some (.cells #[v0, v1, v2, v3, v4] t (0, 0)))) : W.cell? ⟨g, 0, none⟩ = some v0 ∧ W.cell? ⟨g, 1, none⟩ = some v1 ∧ W.cell? ⟨g, 2, none⟩ = some v2 ∧ W.cell? ⟨g, 3, none⟩ = some v3 ∧ W.cell? ⟨g, 4, none⟩ = some v4 := ⟨(blk_cell h.out 0).trans rfl, (blk_cell h.out 1).trans rfl, (blk_cell h.out 2).trans rfl, (blk_cell h.out 3).trans rfl, (blk_cell h.out 4).trans rfl⟩
theorem zc6 {W : World} {g : Nat} {t : TypeId} {v0 v1 v2 v3 v4 v5 : Value} (h : Aside0 (W.heap[g]? = some (.cells #[v0, v1, v2, v3, v4, v5] t (0, 0)))) : W.cell? ⟨g, 0, none⟩ = some v0 ∧ W.cell? ⟨g, 1, none⟩ = some v1 ∧ W.cell? ⟨g, 2, none⟩ = some v2 ∧ W.cell? ⟨g, 3, none⟩ = some v3 ∧ W.cell? ⟨g, 4, none⟩ = some v4 ∧ W.cell? ⟨g, 5, none⟩ = some v5 := ⟨(blk_cell h.out 0).trans rfl, (blk_cell h.out 1).trans rfl, (blk_cell h.out 2).trans rfl, (blk_cell h.out 3).trans rfl, (blk_cell h.out 4).trans rfl, (blk_cell h.out 5).trans rfl⟩
theorem zc7 {W : World} {g : Nat} {t : TypeId} {v0 v1 v2 v3 v4 v5 v6 : Value} (h : Aside0 (W.heap[g]? = some (.cells #[v0, v1, v2, v3, v4, v5, v6] t (0, 0)))) : W.cell? ⟨g, 0, none⟩ = some v0 ∧ W.cell? ⟨g, 1, none⟩ = some v1 ∧ W.cell? ⟨g, 2, none⟩ = some v2 ∧ W.cell? ⟨g, 3, none⟩ = some v3 ∧ W.cell? ⟨g, 4, none⟩ = some v4 ∧ W.cell? ⟨g, 5, none⟩ = some v5 ∧ W.cell? ⟨g, 6, none⟩ = some v6 := ⟨(blk_cell h.out 0).trans rfl, (blk_cell h.out 1).trans rfl, (blk_cell h.out 2).trans rfl, (blk_cell h.out 3).trans rfl, (blk_cell h.out 4).trans rfl, (blk_cell h.out 5).trans rfl, (blk_cell h.out 6).trans rfl⟩
theorem zc8 {W : World} {g : Nat} {t : TypeId} {v0 v1 v2 v3 v4 v5 v6 v7 : Value} (h : Aside0 (W.heap[g]? = some (.cells #[v0, v1, v2, v3, v4, v5, v6, v7] t (0, 0)))) : W.cell? ⟨g, 0, none⟩ = some v0 ∧ W.cell? ⟨g, 1, none⟩ = some v1 ∧ W.cell? ⟨g, 2, none⟩ = some v2 ∧ W.cell? ⟨g, 3, none⟩ = some v3 ∧ W.cell? ⟨g, 4, none⟩ = some v4 ∧ W.cell? ⟨g, 5, none⟩ = some v5 ∧ W.cell? ⟨g, 6, none⟩ = some v6 ∧ W.cell? ⟨g, 7, none⟩ = some v7 := ⟨(blk_cell h.out 0).trans rfl, (blk_cell h.out 1).trans rfl, (blk_cell h.out 2).trans rfl, (blk_cell h.out 3).trans rfl, (blk_cell h.out 4).trans rfl, (blk_cell h.out 5).trans rfl, (blk_cell h.out 6).trans rfl, (blk_cell h.out 7).trans rfl⟩
theorem zf2 {W : World} {g : Nat} {t : TypeId} {cs : Array Value} (h : Aside0 (W.heap[g]? = some (.cells cs t (0, 0)))) : W.frozen? ⟨g, 0, none⟩ = false ∧ W.frozen? ⟨g, 1, none⟩ = false := ⟨blk_frozen h.out 0, blk_frozen h.out 1⟩
theorem zf3 {W : World} {g : Nat} {t : TypeId} {cs : Array Value} (h : Aside0 (W.heap[g]? = some (.cells cs t (0, 0)))) : W.frozen? ⟨g, 0, none⟩ = false ∧ W.frozen? ⟨g, 1, none⟩ = false ∧ W.frozen? ⟨g, 2, none⟩ = false := ⟨blk_frozen h.out 0, blk_frozen h.out 1, blk_frozen h.out 2⟩
theorem zf4 {W : World} {g : Nat} {t : TypeId} {cs : Array Value} (h : Aside0 (W.heap[g]? = some (.cells cs t (0, 0)))) : W.frozen? ⟨g, 0, none⟩ = false ∧ W.frozen? ⟨g, 1, none⟩ = false ∧ W.frozen? ⟨g, 2, none⟩ = false ∧ W.frozen? ⟨g, 3, none⟩ = false := ⟨blk_frozen h.out 0, blk_frozen h.out 1, blk_frozen h.out 2, blk_frozen h.out 3⟩
theorem zf5 {W : World} {g : Nat} {t : TypeId} {cs : Array Value} (h : Aside0 (W.heap[g]? = some (.cells cs t (0, 0)))) : W.frozen? ⟨g, 0, none⟩ = false ∧ W.frozen? ⟨g, 1, none⟩ = false ∧ W.frozen? ⟨g, 2, none⟩ = false ∧ W.frozen? ⟨g, 3, none⟩ = false ∧ W.frozen? ⟨g, 4, none⟩ = false := ⟨blk_frozen h.out 0, blk_frozen h.out 1, blk_frozen h.out 2, blk_frozen h.out 3, blk_frozen h.out 4⟩
theorem zf6 {W : World} {g : Nat} {t : TypeId} {cs : Array Value} (h : Aside0 (W.heap[g]? = some (.cells cs t (0, 0)))) : W.frozen? ⟨g, 0, none⟩ = false ∧ W.frozen? ⟨g, 1, none⟩ = false ∧ W.frozen? ⟨g, 2, none⟩ = false ∧ W.frozen? ⟨g, 3, none⟩ = false ∧ W.frozen? ⟨g, 4, none⟩ = false ∧ W.frozen? ⟨g, 5, none⟩ = false := ⟨blk_frozen h.out 0, blk_frozen h.out 1, blk_frozen h.out 2, blk_frozen h.out 3, blk_frozen h.out 4, blk_frozen h.out 5⟩
theorem zf7 {W : World} {g : Nat} {t : TypeId} {cs : Array Value} (h : Aside0 (W.heap[g]? = some (.cells cs t (0, 0)))) : W.frozen? ⟨g, 0, none⟩ = false ∧ W.frozen? ⟨g, 1, none⟩ = false ∧ W.frozen? ⟨g, 2, none⟩ = false ∧ W.frozen? ⟨g, 3, none⟩ = false ∧ W.frozen? ⟨g, 4, none⟩ = false ∧ W.frozen? ⟨g, 5, none⟩ = false ∧ W.frozen? ⟨g, 6, none⟩ = false := ⟨blk_frozen h.out 0, blk_frozen h.out 1, blk_frozen h.out 2, blk_frozen h.out 3, blk_frozen h.out 4, blk_frozen h.out 5, blk_frozen h.out 6⟩
theorem zf8 {W : World} {g : Nat} {t : TypeId} {cs : Array Value} (h : Aside0 (W.heap[g]? = some (.cells cs t (0, 0)))) : W.frozen? ⟨g, 0, none⟩ = false ∧ W.frozen? ⟨g, 1, none⟩ = false ∧ W.frozen? ⟨g, 2, none⟩ = false ∧ W.frozen? ⟨g, 3, none⟩ = false ∧ W.frozen? ⟨g, 4, none⟩ = false ∧ W.frozen? ⟨g, 5, none⟩ = false ∧ W.frozen? ⟨g, 6, none⟩ = false ∧ W.frozen? ⟨g, 7, none⟩ = false := ⟨blk_frozen h.out 0, blk_frozen h.out 1, blk_frozen h.out 2, blk_frozen h.out 3, blk_frozen h.out 4, blk_frozen h.out 5, blk_frozen h.out 6, blk_frozen h.out 7⟩
theorem zx {w W : World} {p : Addr} {v : Value} (hb : Aside0 (Below w.heap.size w W)) (h : w.cell? p = some v) : W.cell? p = some v := (hb.out.cell (World.block_lt_of_cell? w _ h)).trans h
theorem zC {α : Type} {d : Kd α} {W W' : World} {A : Option Addr} {n : Nat} {xs : List α} (h : Kd.C d W A n xs) (hs : Kd.C d W A n xs → Kd.C d W' A n xs := by intro h_; repeat (first | exact h_ | (with_reducible refine Kd.C_alloc ?_ _) | (with_reducible refine Kd.C_drewN ?_ _) | (with_reducible refine Kd.C_drew ?_))) : Kd.C d W' A n xs := hs h
theorem zg {p : Prop} (h : p := by (try simp only [List.map_toArray, List.map_cons, List.map_nil]); first | done | rfl | (simp only [List.length_drop, List.length_take]; rfl)) : p := h
theorem am {p : Prop} (h : p) : Aside0 p := ⟨h⟩
theorem zr {p : Prop} (h : p := by first | rfl | (simp; done) | (simp [*]; done)) : p := h
theorem ze {p : Prop} (h : p := by first | rfl | (simp [errW_none, errW_some] <;> rfl) | (simp [*, errW_none, errW_some] <;> rfl)) : p := h
theorem zS {α : Type} {d : Kd α} {e b : Nat} {W W' : World} {ok : Nat → Prop} {v : Value} {xs : List α} (h : Kd.S d e W b ok v xs) (hs : Kd.S d e W b ok v xs → Kd.S d e W' b ok v xs := by intro h_; (with_reducible repeat (first | apply Kd.S_alloc | apply Kd.S_drewN | apply Kd.S_drew)); exact h_) : Kd.S d e W' b ok v xs := hs h
theorem zR {α : Type} {d : Kd α} {e b : Nat} {W W' : World} {ok : Nat → Prop} {v : Value} {xs : List α} (h : Kd.R d e W b ok v xs) (hs : Kd.R d e W b ok v xs → Kd.R d e W' b ok v xs := by intro h_; (with_reducible repeat (first | apply Kd.R_alloc | apply Kd.R_drewN | apply Kd.R_drew)); exact h_) : Kd.R d e W' b ok v xs := hs h
end Go.Proofs.Ytnmmkgagbfniiaa.A
end
section
namespace Go.Proofs.Ytnmmkgagbfniiaa.A
open Go.RowKit Go.Proofs.YtnmmkgagbfniiaaW.PrintWords Go.Proofs.YtnmmkgagbfniiaaW.PrintLast Go.Proofs.YtnmmkgagbfniiaaW.PrintMore
attribute [local go_sem] max2_int min2_int max_two min_two max_three min_three max_four min_four
set_option linter.unusedVariables false
set_option linter.unusedSimpArgs false
mutual
def block_Sum.l0 : Nat → Int → List Int → Int → Int → Option (Int)
 | 0, _, _, _, _ => none
 | k + 1, x3, x7, x8, x9 => if x9 < x8 then (if 0 ≤ x9 then (if x9 < (x7.length : Int) then (block_Sum.l1 k (Go.bits .xor .u32 x3 ((rd x7 x9) % 4294967296)) x7 x8 x9 0) else (none)) else (none)) else (some (Go.bits .xor .u32 4294967295 x3))
def block_Sum.l1 : Nat → Int → List Int → Int → Int → Int → Option (Int)
 | 0, _, _, _, _, _ => none
 | k + 1, x3, x7, x8, x9, x17 => if x17 < 8 then (if (Go.bits .and .u32 x3 1) = 1 then (block_Sum.l1 k (Go.bits .xor .u32 (x3 / 2) 3988292384) x7 x8 x9 (wrap64 (x17 + 1))) else (block_Sum.l1 k (x3 / 2) x7 x8 x9 (wrap64 (x17 + 1)))) else (block_Sum.l0 k x3 x7 x8 (wrap64 (x9 + 1)))
end
def block_Sum.f (k : Nat) (l0 : List Int) : Option (Int) := block_Sum.l0 k 4294967295 l0 (l0.length : Int) 0
theorem block_Sum.mono_l : ∀ k, (∀ y0 y1 y2 y3, LeO (block_Sum.l0 k y0 y1 y2 y3) (block_Sum.l0 (k + 1) y0 y1 y2 y3)) ∧ (∀ y0 y1 y2 y3 y4, LeO (block_Sum.l1 k y0 y1 y2 y3 y4) (block_Sum.l1 (k + 1) y0 y1 y2 y3 y4))
 | 0 => ⟨fun _ _ _ _ r h => by simp [block_Sum.l0] at h, fun _ _ _ _ _ r h => by simp [block_Sum.l1] at h⟩
 | k + 1 => by
  obtain ⟨ih0, ih1⟩ := block_Sum.mono_l k
  refine ⟨?_, ?_⟩
  ·
   intro y0 y1 y2 y3
   unfold block_Sum.l0
   repeat' first
   | (with_reducible exact ih0 _ _ _ _)
   | (with_reducible exact ih1 _ _ _ _ _)
   | (with_reducible exact LeO.refl _)
   | (with_reducible exact LeO.none _)
   | (with_reducible refine LeO.ite ?_ ?_)
   | (with_reducible refine LeO.bind ?_ (fun _ => ?_))
   | exact ih0 _ _ _ _
   | exact ih1 _ _ _ _ _
   | exact LeO.none _
   | refine LeO.ite ?_ ?_
   | refine LeO.bind ?_ (fun _ => ?_)
  ·
   intro y0 y1 y2 y3 y4
   unfold block_Sum.l1
   repeat' first
   | (with_reducible exact ih0 _ _ _ _)
   | (with_reducible exact ih1 _ _ _ _ _)
   | (with_reducible exact LeO.refl _)
   | (with_reducible exact LeO.none _)
   | (with_reducible refine LeO.ite ?_ ?_)
   | (with_reducible refine LeO.bind ?_ (fun _ => ?_))
   | exact ih0 _ _ _ _
   | exact ih1 _ _ _ _ _
   | exact LeO.none _
   | refine LeO.ite ?_ ?_
   | refine LeO.bind ?_ (fun _ => ?_)
theorem block_Sum.mono : ∀ a0 k, LeO (block_Sum.f k a0) (block_Sum.f (k + 1) a0) := by
 intro a0 k
 obtain ⟨ih0, ih1⟩ := block_Sum.mono_l k
 unfold block_Sum.f
 repeat' first
   | (with_reducible exact ih0 _ _ _ _)
   | (with_reducible exact ih1 _ _ _ _ _)
   | (with_reducible exact LeO.refl _)
   | (with_reducible exact LeO.none _)
   | (with_reducible refine LeO.ite ?_ ?_)
   | (with_reducible refine LeO.bind ?_ (fun _ => ?_))
   | exact ih0 _ _ _ _
   | exact ih1 _ _ _ _ _
   | exact LeO.none _
   | refine LeO.ite ?_ ?_
   | refine LeO.bind ?_ (fun _ => ?_)
set_option maxHeartbeats 8000000 in
set_option maxRecDepth 100000 in
theorem block_Sum.calls (k : Nat) (A0 : Option Addr) (c0 : Nat) (l0 : List Int) (r : Int) (w : World) (hr0 : Kd.C (Kd.int .u8) w A0 l0.length l0) (hc0 : l0.length ≤ c0) (h : block_Sum.f k l0 = some r) :
  Calls Try.prog 57 #[.slice A0 l0.length c0] w fun e w' => e = .returned (.int .u32 r) ∧ Drawn0 w w' := by
 have HR0 := am hr0
 have HC0 := am hc0
 clear hr0 hc0
 have H : (block_Sum.l0 k 4294967295 l0 (l0.length : Int) 0) = some r := h
 clear h
 have H' := am H
 clear H
 go_enter Try.func57, Try.ntmps57
 go_wp2
 go_loopg [3, 9] k (fun kq v3 v9 w' => ∃ (x3_1 : Int) (x9_1 : Int), v3 = .int .u32 x3_1 ∧ v9 = .int .i64 x9_1 ∧ Aside0 (block_Sum.l0 kq x3_1 l0 (l0.length : Int) x9_1 = some r) ∧ Aside0 (kq ≤ k) ∧ Drawn0 w w')
 case atStart => exact ⟨(4294967295), (0), zr, zr, H', ⟨Nat.le_refl _⟩, by repeat (first | exact Drawn0.refl _ | apply Drawn0.step)⟩
 case round =>
  clear H'
  obtain ⟨x3_1, x9_1, rfl, rfl, HA, HK1, ⟨m1, rfl⟩⟩ := hrel
  cases gk with
  | zero => exact absurd HA.out (by simp [block_Sum.l0])
  | succ k1 =>
   have H := HA.out
   clear HA
   simp only [block_Sum.l0] at H
   by_cases c2 : x9_1 < (l0.length : Int)
   ·
    rw [if_pos c2] at H
    have c2b0 : decide (x9_1 < (l0.length : Int)) = true := decide_eq_true c2
    clear c2
    by_cases c3 : 0 ≤ x9_1
    ·
     rw [if_pos c3] at H
     have c3b0 : decide (0 ≤ x9_1) = true := decide_eq_true c3
     clear c3
     by_cases c4 : x9_1 < (l0.length : Int)
     ·
      rw [if_pos c4] at H
      have c4b0 : decide (x9_1 < (l0.length : Int)) = true := decide_eq_true c4
      clear c4
      have H' := am H
      clear H
      have p307 : 0 ≤ (x9_1 : Int) := zo
      have q307 : x9_1 < (l0.length : Int) := zo
      obtain ⟨ad307, e307, hx307_0⟩ := Kd.at_int HR0.out x9_1 p307 q307
      cases e307
      replace p307 := eq_true p307
      replace q307 := eq_true q307
      go_wp2
      go_loopg [3, 17] k1 (fun kq v3 v17 w' => ∃ (x3_2 : Int) (x17_2 : Int), v3 = .int .u32 x3_2 ∧ v17 = .int .i64 x17_2 ∧ Aside0 (block_Sum.l1 kq x3_2 l0 (l0.length : Int) x9_1 x17_2 = some r) ∧ Aside0 (kq ≤ k1) ∧ Drawn0 w w')
      case atStart => exact ⟨(Go.bits .xor .u32 x3_1 ((rd l0 x9_1) % 4294967296)), (0), zr, zr, H', ⟨Nat.le_refl _⟩, by repeat (first | exact Drawn0.refl _ | apply Drawn0.step)⟩
      case round =>
       clear H'
       obtain ⟨x3_2, x17_2, rfl, rfl, HA, HK2, ⟨m2, rfl⟩⟩ := hrel
       cases gk with
       | zero => exact absurd HA.out (by simp [block_Sum.l1])
       | succ k2 =>
        have H := HA.out
        clear HA
        simp only [block_Sum.l1] at H
        by_cases c5 : x17_2 < 8
        ·
         rw [if_pos c5] at H
         have c5b0 : decide (x17_2 < 8) = true := decide_eq_true c5
         clear c5
         by_cases c6 : (Go.bits .and .u32 x3_2 1) = 1
         ·
          rw [if_pos c6] at H
          have c6b0 : ((Go.bits .and .u32 x3_2 1) == 1) = true := beq_iff_eq.mpr c6
          have c6b1 : ((Go.bits .and .u32 x3_2 1) != 1) = false := bne_eq_false_iff_eq.mpr c6
          clear c6
          have H' := am H
          clear H
          go_wp2
          go_roundg k2
          case measure => have := HK1.out; have := HK2.out; omega
          case rel => exact ⟨(Go.bits .xor .u32 (x3_2 / 2) 3988292384), (wrap64 (x17_2 + 1)), zr, zr, H', ⟨by have := HK1.out; have := HK2.out; omega⟩, by repeat (first | exact Drawn0.refl _ | apply Drawn0.step)⟩
         ·
          rw [if_neg c6] at H
          have c6b0 : ((Go.bits .and .u32 x3_2 1) == 1) = false := beq_eq_false_iff_ne.mpr c6
          have c6b1 : ((Go.bits .and .u32 x3_2 1) != 1) = true := bne_iff_ne.mpr c6
          have H' := am H
          clear H
          go_wp2
          go_roundg k2
          case measure => have := HK1.out; have := HK2.out; omega
          case rel => exact ⟨(x3_2 / 2), (wrap64 (x17_2 + 1)), zr, zr, H', ⟨by have := HK1.out; have := HK2.out; omega⟩, by repeat (first | exact Drawn0.refl _ | apply Drawn0.step)⟩
        ·
         rw [if_neg c5] at H
         have c5b0 : decide (x17_2 < 8) = false := decide_eq_false c5
         clear c5
         have H' := am H
         clear H
         go_wp2
         go_roundg k2
         case measure => have := HK1.out; have := HK2.out; omega
         case rel => exact ⟨(x3_2), (wrap64 (x9_1 + 1)), zr, zr, H', ⟨by have := HK1.out; have := HK2.out; omega⟩, by repeat (first | exact Drawn0.refl _ | apply Drawn0.step)⟩
     ·
      rw [if_neg c4] at H
      exact absurd H (by simp)
    ·
     rw [if_neg c3] at H
     exact absurd H (by simp)
   ·
    rw [if_neg c2] at H
    have c2b0 : decide (x9_1 < (l0.length : Int)) = false := decide_eq_false c2
    clear c2
    obtain rfl := Option.some.inj H
    go_wp2
    go_ret
    exact ⟨by first | rfl | (simp; done) | (simp [*]; done), by repeat (first | exact Drawn0.refl _ | apply Drawn0.step)⟩
def l13_awake.f (k : Nat)  : Option (Bool) := (block_Sum.f k (([49, 50, 51, 52, 53, 54, 55, 56, 57] : List Int))).bind fun t112 => (some (t112 == 3421780262))
theorem l13_awake.mono : ∀ k, LeO (l13_awake.f k ) (l13_awake.f (k + 1) ) := by
 intro k
 unfold l13_awake.f
 exact LeO.bind (block_Sum.mono _ _) (fun _ => LeO.refl _)
set_option maxHeartbeats 1000000 in
set_option maxRecDepth 100000 in
theorem l13_awake.calls (k : Nat)  (r : Bool) (w : World) (h : l13_awake.f k  = some r) :
  Calls Try.prog 23 #[] w fun e w' => e = .returned (.bool r) ∧ Below w.heap.size w w' := by
 obtain ⟨t, ht, hr⟩ := Option.bind_eq_some_iff.mp h
 obtain rfl := Option.some.inj hr
 have HT := am ht
 clear ht hr h
 have kc := fun (w : World) (C : Array Value) (n c : Nat) => Lib.run_convert_bytes_const (P := Try.prog) w 27 5 C n c Try.underlying27 Try.underlying5
 have HR := am (ow_reads_new w .u8 [49, 50, 51, 52, 53, 54, 55, 56, 57] 5 (9, 10) (by decide))
 go_enter Try.func23, Try.ntmps23
 go_wp2_with (go_at_call 57; refine (block_Sum.calls k _ 9 _ t _ HR.out (by decide) HT.out).mono ?_; rintro e w' ⟨rfl, hd⟩; have HD := am hd; clear hd)
 go_ret
 exact ⟨rfl, ow_below_drawn (below_alloc (Below.refl _ _) _) HD.out⟩
theorem eqA97 (d : Nat) (w : World) (x0 x1 x2 x3 y0 y1 y2 y3 : Int) :
  (Op.equalIn (d + 2) 97 (.agg #[.int .u8 x0, .int .u8 x1, .int .u8 x2, .int .u8 x3]) (.agg #[.int .u8 y0, .int .u8 y1, .int .u8 y2, .int .u8 y3])).run Try.prog w = .ok (x0 == y0 && (x1 == y1 && (x2 == y2 && (x3 == y3)))) w := by
 have hp : ∀ (j : Nat) (xs : Array Value) (v : Value), xs[j]? = some v → (part 5 xs (j * 1)).run Try.prog w = .ok v w := by
  intro j xs v h
  rw [Nat.mul_one]
  exact run_part_plain _ (by kernel_rfl) h
 rw [Op.equalIn]
 simp only [Sem.run_bind, run_underlying Try.underlying97, Result.andThen_ok]
 have hz : (Go.sizeOf 5).run Try.prog w = Result.ok 1 w := by go_simp
 rw [hz]
 simp only [Result.andThen_ok, Std.Legacy.Range.forIn_eq_forIn_range', Std.Legacy.Range.size, Nat.sub_zero, Nat.reduceAdd, Nat.reduceSub, Nat.reduceDiv, Nat.div_one, show List.range' 0 4 1 = [0, 1, 2, 3] from rfl, List.forIn_cons, List.forIn_nil, Sem.run_bind]
 have hx0 := hp 0 #[.int .u8 x0, .int .u8 x1, .int .u8 x2, .int .u8 x3] (.int .u8 x0) rfl
 have hx1 := hp 1 #[.int .u8 x0, .int .u8 x1, .int .u8 x2, .int .u8 x3] (.int .u8 x1) rfl
 have hx2 := hp 2 #[.int .u8 x0, .int .u8 x1, .int .u8 x2, .int .u8 x3] (.int .u8 x2) rfl
 have hx3 := hp 3 #[.int .u8 x0, .int .u8 x1, .int .u8 x2, .int .u8 x3] (.int .u8 x3) rfl
 have hy0 := hp 0 #[.int .u8 y0, .int .u8 y1, .int .u8 y2, .int .u8 y3] (.int .u8 y0) rfl
 have hy1 := hp 1 #[.int .u8 y0, .int .u8 y1, .int .u8 y2, .int .u8 y3] (.int .u8 y1) rfl
 have hy2 := hp 2 #[.int .u8 y0, .int .u8 y1, .int .u8 y2, .int .u8 y3] (.int .u8 y2) rfl
 have hy3 := hp 3 #[.int .u8 y0, .int .u8 y1, .int .u8 y2, .int .u8 y3] (.int .u8 y3) rfl
 have he : ∀ a b : Int, (Op.equalIn (d + 1) 5 (.int .u8 a) (.int .u8 b)).run Try.prog w = Result.ok (a == b) w := fun a b => run_equalIn_int w d 5 .u8 .u8 a b Try.underlying5
 have e0 := he x0 y0
 generalize (x0 == y0) = b0 at e0 ⊢
 have e1 := he x1 y1
 generalize (x1 == y1) = b1 at e1 ⊢
 have e2 := he x2 y2
 generalize (x2 == y2) = b2 at e2 ⊢
 have e3 := he x3 y3
 generalize (x3 == y3) = b3 at e3 ⊢
 clear he
 simp only [Nat.reduceAdd, hx0, hy0, Result.andThen_ok, e0]
 cases b0 <;> cases b1 <;> cases b2 <;> cases b3 <;> simp [hx1, hx2, hx3, hy1, hy2, hy3, e1, e2, e3]
def block_seal.f (k : Nat) (l0 : List Int) : Option (Int × Int × Int × Int) := (block_Sum.f k l0).bind fun t309 => (some ((t309 / 16777216) % 256, (t309 / 65536) % 256, (t309 / 256) % 256, (t309) % 256))
theorem block_seal.mono : ∀ a0 k, LeO (block_seal.f k a0) (block_seal.f (k + 1) a0) := by
 intro a0 k
 unfold block_seal.f
 repeat' first
   | (with_reducible exact block_Sum.mono _ _)
   | (with_reducible exact LeO.refl _)
   | (with_reducible exact LeO.none _)
   | (with_reducible refine LeO.ite ?_ ?_)
   | (with_reducible refine LeO.bind ?_ (fun _ => ?_))
   | exact block_Sum.mono _ _
   | exact LeO.none _
   | refine LeO.ite ?_ ?_
   | refine LeO.bind ?_ (fun _ => ?_)
set_option maxHeartbeats 8000000 in
set_option maxRecDepth 100000 in
theorem block_seal.calls (k : Nat) (A0 : Option Addr) (c0 : Nat) (l0 : List Int) (r1 : Int) (r2 : Int) (r3 : Int) (r4 : Int) (w : World) (hr0 : Kd.C (Kd.int .u8) w A0 l0.length l0) (hc0 : l0.length ≤ c0) (h : block_seal.f k l0 = some (r1, r2, r3, r4)) :
  Calls Try.prog 52 #[.slice A0 l0.length c0] w fun e w' => e = .returned (.agg #[.int .u8 r1, .int .u8 r2, .int .u8 r3, .int .u8 r4]) ∧ Below w.heap.size w w' := by
 have hu97 := Try.underlying97
 have HR0 := am hr0
 have HC0 := am hc0
 clear hr0 hc0
 have HB := am (Below.refl w.heap.size w)
 have H : ((block_Sum.f k l0).bind fun t309 => (some ((t309 / 16777216) % 256, (t309 / 65536) % 256, (t309 / 256) % 256, (t309) % 256))) = some (r1, r2, r3, r4) := h
 clear h
 replace H := Option.bind_eq_some_iff.mp H
 obtain ⟨t309, A20, H⟩ := H
 (try dsimp only at H)
 have A2 := am A20
 clear A20
 simp only [Option.some.injEq, Prod.mk.injEq] at H
 obtain ⟨rfl, rfl, rfl, rfl⟩ := H
 go_enter Try.func52, Try.ntmps52
 go_wp2_with (first | ((with_reducible refine gate_dst (N := 2) rfl ?_); refine box_event ?hg (N := 2) ?hd (cs := #[.int .u8 0, .int .u8 0, .int .u8 0, .int .u8 0]) (t := 97) ?hr ?_; (case hd => rfl); (case hg => rfl); (case hr => first | (go_simp; done) | (go_simp; rfl)); intro gb308 hg w3 hbox hb; have BK308 := am (hbox); have GW308 := am ((by rw [hg]; exact (below_size (zb HB)) : w.heap.size ≤ gb308)); have GE308 := am ((by rw [hg]; exact (below_size (zb HB)) : w.heap.size ≤ gb308)); replace HB := am (below_step (zb HB) hb); clear hb hbox hg) | ((with_reducible refine gate_callee (f := 57) rfl ?_); refine goesL_ (some 5) rfl rfl Try.func57 (by kernel_rfl) rfl #[.slice A0 l0.length c0] rfl zg ?_; (with_reducible refine (block_Sum.calls k _ _ l0 t309 _ ?side1 ?side2 A2.out).mono ?_); (case side1 => exact zC ((Kd.C_below HR0.out HB.out))); (case side2 => exact HC0.out); rintro e w' ⟨rfl, ⟨nd, rfl⟩⟩; refine ⟨_, rfl, ?_⟩; (try (rw [drewN_self w3]; generalize hq_ : World.drewN w3 _ = w3; have n0_ : Aside0 (w3.heap[gb308]? = some (.cells #[.int .u8 0, .int .u8 0, .int .u8 0, .int .u8 0] 97 (0, 0))) := ⟨by rw [← hq_]; exact (zu BK308.out)⟩; have n1_ : Aside0 (Below w.heap.size w w3) := ⟨by rw [← hq_]; exact (zb HB)⟩; clear BK308 HB hq_; have BK308 := n0_; have HB := n1_; clear n0_ n1_)); obtain ⟨hcz4_0, hcz4_1, hcz4_2, hcz4_3⟩ := zc4 BK308; obtain ⟨hfz4_0, hfz4_1, hfz4_2, hfz4_3⟩ := zf4 BK308))
 refine bodyPost_ret (results_cell_row rfl _ _ gb308 97 #[.int .u8 ((t309 / 16777216) % 256), .int .u8 ((t309 / 65536) % 256), .int .u8 ((t309 / 256) % 256), .int .u8 ((t309) % 256)] (0, 0) _ rfl (by refine zu ?_; refine blk_put (cs := #[.int .u8 ((t309 / 16777216) % 256), .int .u8 ((t309 / 65536) % 256), .int .u8 ((t309 / 256) % 256), .int .u8 0]) ?_ 3 _ rfl; refine zu ?_; refine blk_put (cs := #[.int .u8 ((t309 / 16777216) % 256), .int .u8 ((t309 / 65536) % 256), .int .u8 0, .int .u8 0]) ?_ 2 _ rfl; refine zu ?_; refine blk_put (cs := #[.int .u8 ((t309 / 16777216) % 256), .int .u8 0, .int .u8 0, .int .u8 0]) ?_ 1 _ rfl; refine zu ?_; refine blk_put (cs := #[.int .u8 0, .int .u8 0, .int .u8 0, .int .u8 0]) ?_ 0 _ rfl; refine zu ?_; exact BK308.out) Try.underlying97 rfl (by kernel_rfl)) rfl ?_
 exact ⟨ze, zb HB⟩
def event_appendInt.l0 : Nat → List Int → Int → Option (List Int)
 | 0, _, _ => none
 | k + 1, x0, x5 => if x5 ≥ 128 then (if x0.length < 140737488355328 then (event_appendInt.l0 k (x0 ++ [Go.bits .or .u8 ((x5) % 256) 128]) (x5 / 128)) else (none)) else (if x0.length < 140737488355328 then (some (x0 ++ [(x5) % 256])) else (none))
def event_appendInt.f (k : Nat) (l0 : List Int) (a1 : Int) : Option (List Int) := event_appendInt.l0 k l0 (Go.bits .xor .u64 (IntKind.u64.wrap ((IntKind.u64.wrap (a1)) * 2)) (IntKind.u64.wrap (a1 / 9223372036854775808)))
theorem event_appendInt.mono_l : ∀ k, (∀ y0 y1, LeO (event_appendInt.l0 k y0 y1) (event_appendInt.l0 (k + 1) y0 y1))
 | 0 => fun _ _ r h => by simp [event_appendInt.l0] at h
 | k + 1 => by
  have ih0 := event_appendInt.mono_l k
  ·
   intro y0 y1
   unfold event_appendInt.l0
   repeat' first
   | (with_reducible exact ih0 _ _)
   | (with_reducible exact LeO.refl _)
   | (with_reducible exact LeO.none _)
   | (with_reducible refine LeO.ite ?_ ?_)
   | (with_reducible refine LeO.bind ?_ (fun _ => ?_))
   | exact ih0 _ _
   | exact LeO.none _
   | refine LeO.ite ?_ ?_
   | refine LeO.bind ?_ (fun _ => ?_)
theorem event_appendInt.mono : ∀ a0 a1 k, LeO (event_appendInt.f k a0 a1) (event_appendInt.f (k + 1) a0 a1) := by
 intro a0 a1 k
 have ih0 := event_appendInt.mono_l k
 unfold event_appendInt.f
 repeat' first
   | (with_reducible exact ih0 _ _)
   | (with_reducible exact LeO.refl _)
   | (with_reducible exact LeO.none _)
   | (with_reducible refine LeO.ite ?_ ?_)
   | (with_reducible refine LeO.bind ?_ (fun _ => ?_))
   | exact ih0 _ _
   | exact LeO.none _
   | refine LeO.ite ?_ ?_
   | refine LeO.bind ?_ (fun _ => ?_)
set_option maxHeartbeats 8000000 in
set_option maxRecDepth 100000 in
theorem event_appendInt.calls (k : Nat) (P0_ : Nat → Prop) (u9000_ : Value) (l0 : List Int) (a1 : Int) (r : List Int) (w0 w : World) (hB : Below w0.heap.size w0 w) (ho0 : Kd.R (Kd.int .u8) 5 w w0.heap.size P0_ u9000_ l0) (h : event_appendInt.f k l0 a1 = some r) :
  Calls Try.prog 40 #[u9000_, .int .i64 a1] w fun e w' => ∃ v0_ : Value, e = .returned (v0_) ∧ Kd.R (Kd.int .u8) 5 w' w0.heap.size (fun k_ => (P0_ k_ ∨ w.heap.size ≤ k_)) v0_ r ∧ Below w0.heap.size w0 w' ∧ Kept w w' (fun k_ => P0_ k_) := by
 have HO0 := am (show Kd.R (Kd.int .u8) 5 w w0.heap.size (fun k_ => (P0_ k_ ∨ w.heap.size ≤ k_)) u9000_ l0 from Kd.R_mono ho0 (fun k_ hk => (.inl hk)))
 have HK := am (Kept.refl w (fun k_ => P0_ k_))
 have HW0 := am hB.size
 have HB := am hB
 clear hB
 have H : (event_appendInt.l0 k l0 (Go.bits .xor .u64 (IntKind.u64.wrap ((IntKind.u64.wrap (a1)) * 2)) (IntKind.u64.wrap (a1 / 9223372036854775808)))) = some r := h
 clear h
 have H' := am H
 clear H
 go_enter Try.func40, Try.ntmps40
 go_wp2
 go_loopg [0, 5] k (fun kq v0 v5 w' => ∃ (x0_1 : List Int) (x5_1 : Int), v5 = .int .u64 x5_1 ∧ Aside0 (event_appendInt.l0 kq x0_1 x5_1 = some r) ∧ Aside0 (kq ≤ k) ∧ Aside0 (Kd.R (Kd.int .u8) 5 w' w0.heap.size (fun k_ => (P0_ k_ ∨ w.heap.size ≤ k_)) v0 x0_1) ∧ Aside0 (Kept w w' (fun k_ => P0_ k_)) ∧ Aside0 (Below w0.heap.size w0 w'))
 case atStart => exact ⟨(l0), (Go.bits .xor .u64 (IntKind.u64.wrap ((IntKind.u64.wrap (a1)) * 2)) (IntKind.u64.wrap (a1 / 9223372036854775808))), zr, H', ⟨Nat.le_refl _⟩, ⟨by (with_reducible repeat (first | apply Kd.R_alloc | apply Kd.R_drewN | apply Kd.R_drew)); exact HO0.out⟩, ⟨by repeat (first | (with_reducible first | exact HK.out | apply Kept.alloc | apply Kept.drewN | apply Kept.drew) | exact HK.out)⟩, ⟨zb HB⟩⟩
 case round =>
  clear H'
  try clear p2
  obtain ⟨x0_1, x5_1, rfl, HA, HK1, HO_0, HK, HB⟩ := hrel
  cases gk with
  | zero => exact absurd HA.out (by simp [event_appendInt.l0])
  | succ k1 =>
   have H := HA.out
   clear HA
   simp only [event_appendInt.l0] at H
   by_cases c3 : x5_1 ≥ 128
   ·
    rw [if_pos c3] at H
    have c3b0 : decide (128 ≤ x5_1) = true := decide_eq_true c3
    clear c3
    by_cases c4 : x0_1.length < 140737488355328
    ·
     rw [if_pos c4] at H
     have LMc4 := am c4
     clear c4
     obtain ⟨y102, hy102⟩ : ∃ y_ : List Int, y_ = (x0_1 ++ [Go.bits .or .u8 ((x5_1) % 256) 128]) := ⟨_, rfl⟩
     replace H : (event_appendInt.l0 k1 y102 (x5_1 / 128)) = some r := by first | (rw [hy102]; with_reducible exact H) | (have H2_ := (Option.bind_some _ _).symm.trans H; rw [hy102]; with_reducible exact H2_) | (have H2_ := (Option.bind_some _ _).symm.trans H; with_reducible exact H2_) | with_reducible exact H | (rw [hy102]; exact H) | exact H
     have Ny102 := am hy102
     clear hy102
     have H' := am H
     clear H
     go_wp2_with (first | ((with_reducible refine gate_builtin (b := .append) (xs := #[.tmp 15, .tmp 19]) rfl ?_); at_builtin; refine Kd.R_append (Kd.int .u8) (w0 := w0) w0.heap.size rfl (.tmp 15) (.tmp 19) 27 5 (.int .u8 0) 1 rfl Try.underlying27 info5 rfl (by decide) (by omega) u0 x0_1 (Go.bits .or .u8 ((x5_1) % 256) 128) [.int .u8 (Go.bits .or .u8 ((x5_1) % 256) 128)] (fun k_ => (P0_ k_ ∨ w.heap.size ≤ k_)) (fun _ => False) rfl rfl ?aP (fun _ hk => hk.elim) ?aF ?aO ?aB ?aS ?aL ?_; (case aP => exact rfl); (case aB => exact (zb HB)); (case aF => exact (fun k_ hk => (.inr (Nat.le_trans (by first | exact HK.out.1 | exact (show Kept w _ (fun k_ => P0_ k_) from by repeat (first | (with_reducible first | exact HK.out | apply Kept.alloc | apply Kept.drewN | apply Kept.drew) | exact HK.out)).1) hk)))); (case aO => exact (zR HO_0.out)); (case aS => exact (below_size (zb HB))); (case aL => have := LMc4.out; omega); intro v103 w5 ho hb hg hat; rw [← Ny102.out] at ho; have n0_ := am (hb); have n1_ := am (Kept.of_grown (S := (fun k_ => P0_ k_)) hg (by repeat (first | (with_reducible first | exact HK.out | apply Kept.alloc | apply Kept.drewN | apply Kept.drew) | exact HK.out)) (fun k_ e_ => (HO_0.out.1 k_ e_))); have n2_ := am (ho); clear HB; clear HK; clear HO_0; have HB := n0_; have HK := n1_; have HO104 := n2_; clear n0_ n1_ n2_; clear ho hb hg hat))
     go_roundg k1
     case measure => have := HK1.out; omega
     case rel => exact ⟨(y102), (x5_1 / 128), zr, H', ⟨by have := HK1.out; omega⟩, ⟨by (with_reducible repeat (first | apply Kd.R_alloc | apply Kd.R_drewN | apply Kd.R_drew)); exact HO104.out⟩, ⟨by repeat (first | (with_reducible first | exact HK.out | apply Kept.alloc | apply Kept.drewN | apply Kept.drew) | exact HK.out)⟩, ⟨zb HB⟩⟩
    ·
     rw [if_neg c4] at H
     exact absurd H (by simp)
   ·
    rw [if_neg c3] at H
    have c3b0 : decide (128 ≤ x5_1) = false := decide_eq_false c3
    clear c3
    by_cases c6 : x0_1.length < 140737488355328
    ·
     rw [if_pos c6] at H
     have LMc6 := am c6
     clear c6
     obtain ⟨y105, hy105⟩ : ∃ y_ : List Int, y_ = (x0_1 ++ [(x5_1) % 256]) := ⟨_, rfl⟩
     replace H : (some y105) = some r := by first | (rw [hy105]; with_reducible exact H) | (have H2_ := (Option.bind_some _ _).symm.trans H; rw [hy105]; with_reducible exact H2_) | (have H2_ := (Option.bind_some _ _).symm.trans H; with_reducible exact H2_) | with_reducible exact H | (rw [hy105]; exact H) | exact H
     have Ny105 := am hy105
     clear hy105
     obtain rfl := Option.some.inj H
     go_wp2_with (first | ((with_reducible refine gate_builtin (b := .append) (xs := #[.tmp 23, .tmp 26]) rfl ?_); at_builtin; refine Kd.R_append (Kd.int .u8) (w0 := w0) w0.heap.size rfl (.tmp 23) (.tmp 26) 27 5 (.int .u8 0) 1 rfl Try.underlying27 info5 rfl (by decide) (by omega) u0 x0_1 ((x5_1) % 256) [.int .u8 ((x5_1) % 256)] (fun k_ => (P0_ k_ ∨ w.heap.size ≤ k_)) (fun _ => False) rfl rfl ?aP (fun _ hk => hk.elim) ?aF ?aO ?aB ?aS ?aL ?_; (case aP => exact rfl); (case aB => exact (zb HB)); (case aF => exact (fun k_ hk => (.inr (Nat.le_trans (by first | exact HK.out.1 | exact (show Kept w _ (fun k_ => P0_ k_) from by repeat (first | (with_reducible first | exact HK.out | apply Kept.alloc | apply Kept.drewN | apply Kept.drew) | exact HK.out)).1) hk)))); (case aO => exact (zR HO_0.out)); (case aS => exact (below_size (zb HB))); (case aL => have := LMc6.out; omega); intro v106 w7 ho hb hg hat; rw [← Ny105.out] at ho; have n0_ := am (hb); have n1_ := am (Kept.of_grown (S := (fun k_ => P0_ k_)) hg (by repeat (first | (with_reducible first | exact HK.out | apply Kept.alloc | apply Kept.drewN | apply Kept.drew) | exact HK.out)) (fun k_ e_ => (HO_0.out.1 k_ e_))); have n2_ := am (ho); clear HB; clear HK; clear HO_0; have HB := n0_; have HK := n1_; have HO107 := n2_; clear n0_ n1_ n2_; clear ho hb hg hat))
     go_ret
     exact ⟨_, ze, by (with_reducible repeat (first | apply Kd.R_alloc | apply Kd.R_drewN | apply Kd.R_drew)); exact HO107.out, zb HB, by repeat (first | (with_reducible first | exact HK.out | apply Kept.alloc | apply Kept.drewN | apply Kept.drew) | exact HK.out)⟩
    ·
     rw [if_neg c6] at H
     exact absurd H (by simp)
def event_appendList.l0 : Nat → List Int → Int → List Int → Int → Int → Option (List Int)
 | 0, _, _, _, _, _ => none
 | k + 1, x0, x5, x12, x13, x14 => if x14 < x13 then (if 0 ≤ x14 then (if x14 < (x12.length : Int) then ((event_appendInt.f k x0 (wrap64 ((rd x12 x14) - x5))).bind fun t112 => (event_appendList.l0 k t112 (rd x12 x14) x12 x13 (wrap64 (x14 + 1)))) else (none)) else (none)) else (some x0)
def event_appendList.f (k : Nat) (l0 : List Int) (l1 : List Int) : Option (List Int) := (event_appendInt.f k l0 (l1.length : Int)).bind fun t108 => (event_appendList.l0 k t108 0 l1 (l1.length : Int) 0)
theorem event_appendList.mono_l : ∀ k, (∀ y0 y1 y2 y3 y4, LeO (event_appendList.l0 k y0 y1 y2 y3 y4) (event_appendList.l0 (k + 1) y0 y1 y2 y3 y4))
 | 0 => fun _ _ _ _ _ r h => by simp [event_appendList.l0] at h
 | k + 1 => by
  have ih0 := event_appendList.mono_l k
  ·
   intro y0 y1 y2 y3 y4
   unfold event_appendList.l0
   repeat' first
   | (with_reducible exact ih0 _ _ _ _ _)
   | (with_reducible exact event_appendInt.mono _ _ _)
   | (with_reducible exact LeO.refl _)
   | (with_reducible exact LeO.none _)
   | (with_reducible refine LeO.ite ?_ ?_)
   | (with_reducible refine LeO.bind ?_ (fun _ => ?_))
   | exact ih0 _ _ _ _ _
   | exact event_appendInt.mono _ _ _
   | exact LeO.none _
   | refine LeO.ite ?_ ?_
   | refine LeO.bind ?_ (fun _ => ?_)
theorem event_appendList.mono : ∀ a0 a1 k, LeO (event_appendList.f k a0 a1) (event_appendList.f (k + 1) a0 a1) := by
 intro a0 a1 k
 have ih0 := event_appendList.mono_l k
 unfold event_appendList.f
 repeat' first
   | (with_reducible exact ih0 _ _ _ _ _)
   | (with_reducible exact event_appendInt.mono _ _ _)
   | (with_reducible exact LeO.refl _)
   | (with_reducible exact LeO.none _)
   | (with_reducible refine LeO.ite ?_ ?_)
   | (with_reducible refine LeO.bind ?_ (fun _ => ?_))
   | exact ih0 _ _ _ _ _
   | exact event_appendInt.mono _ _ _
   | exact LeO.none _
   | refine LeO.ite ?_ ?_
   | refine LeO.bind ?_ (fun _ => ?_)
set_option maxHeartbeats 8000000 in
set_option maxRecDepth 100000 in
theorem event_appendList.calls (k : Nat) (P0_ : Nat → Prop) (u9000_ : Value) (l0 : List Int) (A1 : Option Addr) (c1 : Nat) (l1 : List Int) (r : List Int) (w0 w : World) (hB : Below w0.heap.size w0 w) (ho0 : Kd.R (Kd.int .u8) 5 w w0.heap.size P0_ u9000_ l0) (hr1 : ∀ W_, Kept w W_ (fun k_ => P0_ k_) → Kd.C (Kd.int .i64) W_ A1 l1.length l1) (hc1 : l1.length ≤ c1) (h : event_appendList.f k l0 l1 = some r) :
  Calls Try.prog 41 #[u9000_, .slice A1 l1.length c1] w fun e w' => ∃ v0_ : Value, e = .returned (v0_) ∧ Kd.R (Kd.int .u8) 5 w' w0.heap.size (fun k_ => (P0_ k_ ∨ w.heap.size ≤ k_)) v0_ r ∧ Below w0.heap.size w0 w' ∧ Kept w w' (fun k_ => P0_ k_) := by
 have HO0 := am (show Kd.R (Kd.int .u8) 5 w w0.heap.size (fun k_ => (P0_ k_ ∨ w.heap.size ≤ k_)) u9000_ l0 from Kd.R_mono ho0 (fun k_ hk => (.inl hk)))
 have HR1 := am hr1
 have HC1 := am hc1
 clear hr1 hc1
 have HK := am (Kept.refl w (fun k_ => P0_ k_))
 have HW0 := am hB.size
 have HB := am hB
 clear hB
 have H : ((event_appendInt.f k l0 (l1.length : Int)).bind fun t108 => (event_appendList.l0 k t108 0 l1 (l1.length : Int) 0)) = some r := h
 clear h
 replace H := Option.bind_eq_some_iff.mp H
 obtain ⟨t108, A30, H⟩ := H
 (try dsimp only at H)
 have A3 := am A30
 clear A30
 have H' := am H
 clear H
 obtain ⟨Ao4, co4, eo4⟩ := Kd.R_slice HO0.out
 subst eo4
 go_enter Try.func41, Try.ntmps41
 go_wp2_with (first | ((with_reducible refine gate_callee (f := 40) rfl ?_); refine goesL_ (some 11) rfl rfl Try.func40 (by kernel_rfl) rfl #[.slice Ao4 l0.length co4, .int .i64 (l1.length : Int)] rfl zg ?_; (with_reducible refine (event_appendInt.calls k (fun k_ => some k_ = (.slice Ao4 l0.length co4 : Value).ownBlock) (.slice Ao4 l0.length co4) l0 (l1.length : Int) t108 w0 _ ?side1 ?side2 A3.out).mono ?_); (case side1 => repeat (first | (with_reducible first | exact HB.out | apply below_alloc | apply pw_below_drewN | apply below_drew1) | exact HB.out)); (case side2 => exact Kd.R_tight rfl HO0.out); rintro e w5 ⟨v109, rfl, ho0, hb, hkp⟩; refine ⟨_, rfl, ?_⟩; have n0_ := am (Kd.R_mono (ok' := fun k_ => (P0_ k_ ∨ w.heap.size ≤ k_)) ho0 (fun k_ hk_ => Or.elim hk_ (fun hs_ => (HO0.out.1 k_ (hs_).symm)) (fun hn_ => (.inr (Nat.le_trans (by first | exact HK.out.1 | exact (show Kept w _ (fun k_ => P0_ k_) from by repeat (first | (with_reducible first | exact HK.out | apply Kept.alloc | apply Kept.drewN | apply Kept.drew) | exact HK.out)).1) hn_))))); have n1_ := am (Kept.then_ (S := (fun k_ => P0_ k_)) (by repeat (first | (with_reducible first | exact HK.out | apply Kept.alloc | apply Kept.drewN | apply Kept.drew) | exact HK.out)) hkp (fun k_ hs_ => (fun e_ => (HO0.out.1 k_ e_.symm)) hs_)); have n2_ := am (hb); clear HK; clear HB; clear HO0; have HO110 := n0_; have HK := n1_; have HB := n2_; clear n0_ n1_ n2_; (try clear hb); (try clear hkp); (try clear ho0)))
 go_loopg [0, 5, 14] k (fun kq v0 v5 v14 w' => ∃ (x0_1 : List Int) (x5_1 : Int) (x14_1 : Int), v5 = .int .i64 x5_1 ∧ v14 = .int .i64 x14_1 ∧ Aside0 (event_appendList.l0 kq x0_1 x5_1 l1 (l1.length : Int) x14_1 = some r) ∧ Aside0 (kq ≤ k) ∧ Aside0 (Kd.R (Kd.int .u8) 5 w' w0.heap.size (fun k_ => (P0_ k_ ∨ w.heap.size ≤ k_)) v0 x0_1) ∧ Aside0 (Kept w w' (fun k_ => P0_ k_)) ∧ Aside0 (Below w0.heap.size w0 w'))
 case atStart => exact ⟨(t108), (0), (0), zr, zr, H', ⟨Nat.le_refl _⟩, ⟨by (with_reducible repeat (first | apply Kd.R_alloc | apply Kd.R_drewN | apply Kd.R_drew)); exact HO110.out⟩, ⟨by repeat (first | (with_reducible first | exact HK.out | apply Kept.alloc | apply Kept.drewN | apply Kept.drew) | exact HK.out)⟩, ⟨zb HB⟩⟩
 case round =>
  clear H'
  obtain ⟨x0_1, x5_1, x14_1, rfl, rfl, HA, HK1, HO_0, HK, HB⟩ := hrel
  cases gk with
  | zero => exact absurd HA.out (by simp [event_appendList.l0])
  | succ k1 =>
   have H := HA.out
   clear HA
   simp only [event_appendList.l0] at H
   by_cases c6 : x14_1 < (l1.length : Int)
   ·
    rw [if_pos c6] at H
    have c6b0 : decide (x14_1 < (l1.length : Int)) = true := decide_eq_true c6
    clear c6
    by_cases c7 : 0 ≤ x14_1
    ·
     rw [if_pos c7] at H
     have c7b0 : decide (0 ≤ x14_1) = true := decide_eq_true c7
     clear c7
     by_cases c8 : x14_1 < (l1.length : Int)
     ·
      rw [if_pos c8] at H
      have c8b0 : decide (x14_1 < (l1.length : Int)) = true := decide_eq_true c8
      clear c8
      replace H := Option.bind_eq_some_iff.mp H
      obtain ⟨t112, A90, H⟩ := H
      (try dsimp only at H)
      have A9 := am A90
      clear A90
      have H' := am H
      clear H
      have p111 : 0 ≤ (x14_1 : Int) := zo
      have q111 : x14_1 < (l1.length : Int) := zo
      obtain ⟨ad111, e111, hx111_0⟩ := Kd.at_int (Kd.C_kept_now HR1.out HK.out) x14_1 p111 q111
      cases e111
      replace p111 := eq_true p111
      replace q111 := eq_true q111
      obtain ⟨Ao10, co10, eo10⟩ := Kd.R_slice HO_0.out
      subst eo10
      go_wp2_with (first | ((with_reducible refine gate_callee (f := 40) rfl ?_); refine goesL_ (some 22) rfl rfl Try.func40 (by kernel_rfl) rfl #[.slice Ao10 x0_1.length co10, .int .i64 (wrap64 ((rd l1 x14_1) - x5_1))] rfl zg ?_; (with_reducible refine (event_appendInt.calls k1 (fun k_ => some k_ = (.slice Ao10 x0_1.length co10 : Value).ownBlock) (.slice Ao10 x0_1.length co10) x0_1 (wrap64 ((rd l1 x14_1) - x5_1)) t112 w0 _ ?side1 ?side2 A9.out).mono ?_); (case side1 => repeat (first | (with_reducible first | exact HB.out | apply below_alloc | apply pw_below_drewN | apply below_drew1) | exact HB.out)); (case side2 => exact Kd.R_tight rfl HO_0.out); rintro e w11 ⟨v113, rfl, ho0, hb, hkp⟩; refine ⟨_, rfl, ?_⟩; have n0_ := am (Kd.R_mono (ok' := fun k_ => (P0_ k_ ∨ w.heap.size ≤ k_)) ho0 (fun k_ hk_ => Or.elim hk_ (fun hs_ => (HO_0.out.1 k_ (hs_).symm)) (fun hn_ => (.inr (Nat.le_trans (by first | exact HK.out.1 | exact (show Kept w _ (fun k_ => P0_ k_) from by repeat (first | (with_reducible first | exact HK.out | apply Kept.alloc | apply Kept.drewN | apply Kept.drew) | exact HK.out)).1) hn_))))); have n1_ := am (Kept.then_ (S := (fun k_ => P0_ k_)) (by repeat (first | (with_reducible first | exact HK.out | apply Kept.alloc | apply Kept.drewN | apply Kept.drew) | exact HK.out)) hkp (fun k_ hs_ => (fun e_ => (HO_0.out.1 k_ e_.symm)) hs_)); have n2_ := am (hb); clear HK; clear HB; clear HO_0; have HO114 := n0_; have HK := n1_; have HB := n2_; clear n0_ n1_ n2_; (try clear hb); (try clear hkp); (try clear ho0)))
      go_roundg k1
      case measure => have := HK1.out; omega
      case rel => exact ⟨(t112), (rd l1 x14_1), (wrap64 (x14_1 + 1)), zr, zr, H', ⟨by have := HK1.out; omega⟩, ⟨by (with_reducible repeat (first | apply Kd.R_alloc | apply Kd.R_drewN | apply Kd.R_drew)); exact HO114.out⟩, ⟨by repeat (first | (with_reducible first | exact HK.out | apply Kept.alloc | apply Kept.drewN | apply Kept.drew) | exact HK.out)⟩, ⟨zb HB⟩⟩
     ·
      rw [if_neg c8] at H
      exact absurd H (by simp)
    ·
     rw [if_neg c7] at H
     exact absurd H (by simp)
   ·
    rw [if_neg c6] at H
    have c6b0 : decide (x14_1 < (l1.length : Int)) = false := decide_eq_false c6
    clear c6
    obtain rfl := Option.some.inj H
    go_wp2
    go_ret
    exact ⟨_, ze, by (with_reducible repeat (first | apply Kd.R_alloc | apply Kd.R_drewN | apply Kd.R_drew)); exact HO_0.out, zb HB, by repeat (first | (with_reducible first | exact HK.out | apply Kept.alloc | apply Kept.drewN | apply Kept.drew) | exact HK.out)⟩
end Go.Proofs.Ytnmmkgagbfniiaa.A
end
section
namespace Go.Proofs.Ytnmmkgagbfniiaa.A
open Go.RowKit Go.Proofs.YtnmmkgagbfniiaaW.PrintWords Go.Proofs.YtnmmkgagbfniiaaW.PrintLast Go.Proofs.YtnmmkgagbfniiaaW.PrintMore
attribute [local go_sem] max2_int min2_int max_two min_two max_three min_three max_four min_four
set_option linter.unusedVariables false
set_option linter.unusedSimpArgs false
set_option maxHeartbeats 4000000 in
set_option maxRecDepth 100000 in
theorem event_appendInt_tight (k : Nat) (A0 : Option Addr) (l0 : List Int) (a1 : Int) (r : List Int) (w : World) (hr0 : Kd.C (Kd.int .u8) w A0 l0.length l0) (h : event_appendInt.f k l0 a1 = some r) :
  Calls Try.prog 40 #[.slice A0 l0.length l0.length, .int .i64 a1] w fun e w' => ∃ v0_ : Value, e = .returned (v0_) ∧ Kd.R (Kd.int .u8) 5 w' w.heap.size (fun _ => True) v0_ r ∧ Below w.heap.size w w' := by
 have HR := am hr0
 have HN := am (ow_none hr0)
 clear hr0
 have H' : Aside0 ((event_appendInt.l0 k l0 (Go.bits .xor .u64 (IntKind.u64.wrap ((IntKind.u64.wrap (a1)) * 2)) (IntKind.u64.wrap (a1 / 9223372036854775808)))) = some r) := ⟨h⟩
 clear h
 have HW := am (Nat.le_refl w.heap.size)
 go_enter Try.func40, Try.ntmps40
 go_wp2
 go_loopg [0, 5] k (fun kq v0 v5 w' => ∃ (x0_1 : List Int) (x5_1 : Int), v5 = .int .u64 x5_1 ∧ Aside0 (event_appendInt.l0 kq x0_1 x5_1 = some r) ∧ Aside0 (kq ≤ k) ∧ Aside0 (Below w.heap.size w w') ∧ (v0 = .slice A0 x0_1.length x0_1.length ∧ Aside0 (x0_1 = l0) ∨ Aside0 (Kd.R (Kd.int .u8) 5 w' w.heap.size (fun _ => True) v0 x0_1)))
 case atStart => exact ⟨l0, _, rfl, H', ⟨Nat.le_refl _⟩, ⟨Below.refl _ _⟩, .inl ⟨rfl, ⟨rfl⟩⟩⟩
 case round =>
  clear H'
  try clear p2
  obtain ⟨x0_1, x5_1, rfl, HA, HK1, HB, HO⟩ := hrel
  cases gk with
  | zero => exact absurd HA.out (by simp [event_appendInt.l0])
  | succ k1 =>
   have H := HA.out
   clear HA
   simp only [event_appendInt.l0] at H
   by_cases c3 : x5_1 ≥ 128
   ·
    rw [if_pos c3] at H
    have c3b0 : decide (128 ≤ x5_1) = true := decide_eq_true c3
    clear c3
    by_cases c4 : x0_1.length < 140737488355328
    ·
     rw [if_pos c4] at H
     have LM := am c4
     clear c4
     have H' := am H
     clear H
     rcases HO with ⟨rfl, HX⟩ | HO
     ·
      have HX1 := am (show Kd.C (Kd.int .u8) wr A0 x0_1.length x0_1 by rw [HX.out]; exact Kd.C_below HR.out HB.out)
      have HX2 := am (show A0 = none → x0_1 = [] by rw [HX.out]; exact HN.out)
      clear HX
      go_wp2_with (first | ((with_reducible refine gate_builtin (b := .append) (xs := #[.tmp 15, .tmp 19]) rfl ?_); at_builtin; refine ow_append_tight _ rfl (.tmp 15) (.tmp 19) 27 5 .u8 1 rfl Try.underlying27 info5 (by decide) A0 x0_1 _ rfl rfl HX1.out HX2.out ?aL ?_; (case aL => have := LM.out; omega); intro v102 w5 ho hb; have n0_ := am (below_then HB.out HB.out.size hb); have n2_ := am (Kd.R_lower ho HB.out.size); clear HB HX1 HX2; have HB := n0_; have HO := n2_; clear n0_ n2_ ho hb))
      go_roundg k1
      case measure => have := HK1.out; omega
      case rel => exact ⟨_, (x5_1 / 128), rfl, H', ⟨by have := HK1.out; omega⟩, HB, .inr HO⟩
     ·
      go_wp2_with (first | ((with_reducible refine gate_builtin (b := .append) (xs := #[.tmp 15, .tmp 19]) rfl ?_); at_builtin; refine Kd.R_append (Kd.int .u8) (w0 := w) w.heap.size rfl (.tmp 15) (.tmp 19) 27 5 (.int .u8 0) 1 rfl Try.underlying27 info5 rfl (by decide) (by omega) u0 x0_1 (Go.bits .or .u8 ((x5_1) % 256) 128) [.int .u8 (Go.bits .or .u8 ((x5_1) % 256) 128)] (fun _ => True) (fun _ => False) rfl rfl ?aP (fun _ hk => hk.elim) ?aF ?aO ?aB ?aS ?aL ?_; (case aP => exact rfl); (case aB => exact HB.out); (case aF => exact (fun _ _ => trivial)); (case aO => exact HO.out); (case aS => exact HB.out.size); (case aL => have := LM.out; omega); intro v102 w5 ho hb hg hat; replace HB := am (hb); replace HO := am (ho); clear ho hb hg hat))
      go_roundg k1
      case measure => have := HK1.out; omega
      case rel => exact ⟨_, (x5_1 / 128), rfl, H', ⟨by have := HK1.out; omega⟩, HB, .inr HO⟩
    ·
     rw [if_neg c4] at H
     exact absurd H (by simp)
   ·
    rw [if_neg c3] at H
    have c3b0 : decide (128 ≤ x5_1) = false := decide_eq_false c3
    clear c3
    by_cases c6 : x0_1.length < 140737488355328
    ·
     rw [if_pos c6] at H
     have LM := am c6
     clear c6
     obtain rfl := Option.some.inj H
     rcases HO with ⟨rfl, HX⟩ | HO
     ·
      have HX1 := am (show Kd.C (Kd.int .u8) wr A0 x0_1.length x0_1 by rw [HX.out]; exact Kd.C_below HR.out HB.out)
      have HX2 := am (show A0 = none → x0_1 = [] by rw [HX.out]; exact HN.out)
      clear HX
      go_wp2_with (first | ((with_reducible refine gate_builtin (b := .append) (xs := #[.tmp 23, .tmp 26]) rfl ?_); at_builtin; refine ow_append_tight _ rfl (.tmp 23) (.tmp 26) 27 5 .u8 1 rfl Try.underlying27 info5 (by decide) A0 x0_1 _ rfl rfl HX1.out HX2.out ?aL ?_; (case aL => have := LM.out; omega); intro v102 w5 ho hb; have n0_ := am (below_then HB.out HB.out.size hb); have n2_ := am (Kd.R_lower ho HB.out.size); clear HB HX1 HX2; have HB := n0_; have HO := n2_; clear n0_ n2_ ho hb))
      go_ret
      exact ⟨_, rfl, HO.out, HB.out⟩
     ·
      go_wp2_with (first | ((with_reducible refine gate_builtin (b := .append) (xs := #[.tmp 23, .tmp 26]) rfl ?_); at_builtin; refine Kd.R_append (Kd.int .u8) (w0 := w) w.heap.size rfl (.tmp 23) (.tmp 26) 27 5 (.int .u8 0) 1 rfl Try.underlying27 info5 rfl (by decide) (by omega) u0 x0_1 ((x5_1) % 256) [.int .u8 ((x5_1) % 256)] (fun _ => True) (fun _ => False) rfl rfl ?aP (fun _ hk => hk.elim) ?aF ?aO ?aB ?aS ?aL ?_; (case aP => exact rfl); (case aB => exact HB.out); (case aF => exact (fun _ _ => trivial)); (case aO => exact HO.out); (case aS => exact HB.out.size); (case aL => have := LM.out; omega); intro v102 w5 ho hb hg hat; replace HB := am (hb); replace HO := am (ho); clear ho hb hg hat))
      go_ret
      exact ⟨_, rfl, HO.out, HB.out⟩
    ·
     rw [if_neg c6] at H
     exact absurd H (by simp)
def event_PutInt.f (k : Nat) (l0 : List Int) (a1 : Int) : Option (List Int) := event_appendInt.f k l0 a1
theorem event_PutInt.mono : ∀ a0 a1 k, LeO (event_PutInt.f k a0 a1) (event_PutInt.f (k + 1) a0 a1) := event_appendInt.mono
set_option maxHeartbeats 1000000 in
set_option maxRecDepth 100000 in
theorem event_PutInt.calls (k : Nat) (A0 : Option Addr) (c0 : Nat) (l0 : List Int) (a1 : Int) (r : List Int) (w : World) (hr0 : Kd.C (Kd.int .u8) w A0 l0.length l0) (hc0 : l0.length ≤ c0) (h : event_PutInt.f k l0 a1 = some r) :
  Calls Try.prog 49 #[.slice A0 l0.length c0, .int .i64 a1] w fun e w' => ∃ v0_ : Value, e = .returned (v0_) ∧ Kd.R (Kd.int .u8) 5 w' w.heap.size (fun _ => True) v0_ r ∧ Below w.heap.size w w' := by
 have HC := am (event_appendInt_tight k A0 l0 a1 r w hr0 h)
 have HN := am (ow_none hr0)
 clear hr0 h
 go_enter Try.func49, Try.ntmps49
 go_wp2_with (go_at_call 40; refine HC.out.mono ?_; rintro e w' ⟨v, rfl, ho, hb⟩; have HO := am ho; have HB := am hb; clear ho hb)
 go_ret
 exact ⟨_, rfl, HO.out, HB.out⟩
end Go.Proofs.Ytnmmkgagbfniiaa.A
end
section
namespace Go.Proofs.Ytnmmkgagbfniiaa.A
open Go.RowKit Go.Proofs.YtnmmkgagbfniiaaW.PrintWords Go.Proofs.YtnmmkgagbfniiaaW.PrintLast Go.Proofs.YtnmmkgagbfniiaaW.PrintMore
attribute [local go_sem] max2_int min2_int max_two min_two max_three min_three max_four min_four
set_option linter.unusedVariables false
set_option linter.unusedSimpArgs false
def event_Append.f (k : Nat) (l0 : List Int) (a1_0 : Int) (a1_1 : Int) (a1_2 : Int) (a1_3 : Int) (a1_4 : Int) (a1_5 : Int) (l1_6 : List Int) (l1_7 : List Int) (a2 : Int) : Option (List Int) :=
 (event_appendInt.f k l0 (wrap64 (a1_0 - a2))).bind fun t1 => (event_appendInt.f k t1 a1_2).bind fun t2 => (event_appendInt.f k t2 a1_3).bind fun t3 => (event_appendInt.f k t3 a1_4).bind fun t4 => (event_appendInt.f k t4 a1_5).bind fun t5 => (event_appendList.f k t5 l1_6).bind fun t6 => event_appendList.f k t6 l1_7
theorem event_Append.mono : ∀ a0 a1 a2 a3 a4 a5 a6 a7 a8 a9 k, LeO (event_Append.f k a0 a1 a2 a3 a4 a5 a6 a7 a8 a9) (event_Append.f (k + 1) a0 a1 a2 a3 a4 a5 a6 a7 a8 a9) := by
 intro a0 a1 a2 a3 a4 a5 a6 a7 a8 a9 k
 unfold event_Append.f
 exact LeO.bind (event_appendInt.mono _ _ _) fun _ => LeO.bind (event_appendInt.mono _ _ _) fun _ => LeO.bind (event_appendInt.mono _ _ _) fun _ => LeO.bind (event_appendInt.mono _ _ _) fun _ => LeO.bind (event_appendInt.mono _ _ _) fun _ => LeO.bind (event_appendList.mono _ _ _) fun _ => event_appendList.mono _ _ _
set_option maxHeartbeats 4000000 in
set_option maxRecDepth 100000 in
theorem event_Append.calls (k : Nat) (A0 : Option Addr) (c0 : Nat) (l0 : List Int) (a1_0 : Int) (a1_1 : Int) (a1_2 : Int) (a1_3 : Int) (a1_4 : Int) (a1_5 : Int) (A1_6 : Option Addr) (c1_6 : Nat) (l1_6 : List Int) (A1_7 : Option Addr) (c1_7 : Nat) (l1_7 : List Int) (a2 : Int) (r : List Int) (w : World) (hr0 : Kd.C (Kd.int .u8) w A0 l0.length l0) (hc0 : l0.length ≤ c0) (hr1_6 : Kd.C (Kd.int .i64) w A1_6 l1_6.length l1_6) (hc1_6 : l1_6.length ≤ c1_6) (hr1_7 : Kd.C (Kd.int .i64) w A1_7 l1_7.length l1_7) (hc1_7 : l1_7.length ≤ c1_7) (h : event_Append.f k l0 a1_0 a1_1 a1_2 a1_3 a1_4 a1_5 l1_6 l1_7 a2 = some r) :
  Calls Try.prog 12 #[.slice A0 l0.length c0, .agg #[.int .i64 a1_0, .int .i64 a1_1, .int .i64 a1_2, .int .i64 a1_3, .int .i64 a1_4, .int .i64 a1_5, .slice A1_6 l1_6.length c1_6, .slice A1_7 l1_7.length c1_7], .int .i64 a2] w fun e w' => ∃ v0_ : Value, e = .returned (v0_) ∧ Kd.R (Kd.int .u8) 5 w' w.heap.size (fun _ => True) v0_ r ∧ Below w.heap.size w w' := by
 obtain ⟨t1, h1, h⟩ := Option.bind_eq_some_iff.mp h
 obtain ⟨t2, h2, h⟩ := Option.bind_eq_some_iff.mp h
 obtain ⟨t3, h3, h⟩ := Option.bind_eq_some_iff.mp h
 obtain ⟨t4, h4, h⟩ := Option.bind_eq_some_iff.mp h
 obtain ⟨t5, h5, h⟩ := Option.bind_eq_some_iff.mp h
 obtain ⟨t6, h6, h7⟩ := Option.bind_eq_some_iff.mp h
 have HT0 := am h1
 obtain ⟨ns, hns⟩ : ∃ f : Nat → Int, f = fun j => [wrap64 (a1_0 - a2), a1_2, a1_3, a1_4, a1_5].getD j 0 := ⟨_, rfl⟩
 obtain ⟨ts, hts⟩ : ∃ f : Nat → List Int, f = fun j => [l0, t1, t2, t3, t4, t5].getD j [] := ⟨_, rfl⟩
 have HT := am (show ∀ j, j < 5 → event_appendInt.f k (ts j) (ns j) = some (ts (j + 1)) by
  subst hns hts
  intro j hj
  match j, hj with
  | 0, _ => exact h1
  | 1, _ => exact h2
  | 2, _ => exact h3
  | 3, _ => exact h4
  | 4, _ => exact h5)
 have HR0 := am hr0
 have HN0 := am (ow_none hr0)
 have HR6 := am hr1_6
 have HC6 := am hc1_6
 have HR7 := am hr1_7
 have HC7 := am hc1_7
 have HT6 := am h6
 have HT7 := am h7
 have HT5 := am (show ts 5 = t5 by rw [hts]; rfl)
 have HTZ := am (show ts 0 = l0 by rw [hts]; rfl)
 have HNS := am hns
 clear hr0 hr1_6 hc1_6 hr1_7 hc1_7 h h1 h2 h3 h4 h5 h6 h7 hts hns HT0
 go_enter Try.func12, Try.ntmps12
 go_wp2
 obtain ⟨W3, hW3⟩ : ∃ W3 : World, W3 = ((w.alloc (.cells #[.int .i64 a1_0, .int .i64 a1_1, .int .i64 a1_2, .int .i64 a1_3, .int .i64 a1_4, .int .i64 a1_5, .slice A1_6 l1_6.length c1_6, .slice A1_7 l1_7.length c1_7] 26)).alloc (.cells #[.int .i64 a1_1, .int .i64 a1_2, .int .i64 a1_3, .int .i64 a1_4, .int .i64 a1_5, .slice A1_6 l1_6.length c1_6, .slice A1_7 l1_7.length c1_7] 24)).alloc (.cells #[.int .i64 (wrap64 (a1_0 - a2)), .int .i64 a1_2, .int .i64 a1_3, .int .i64 a1_4, .int .i64 a1_5] 2) := ⟨_, rfl⟩
 rw [← hW3]
 have HZ := am (show W3.heap.size = w.heap.size + 3 by rw [hW3]; simp)
 have HB0 := am (show Below w.heap.size w W3 by rw [hW3]; exact below_alloc (below_alloc (below_alloc (Below.refl _ _) _) _) _)
 have HE := am (show ∀ j, j < 5 → W3.cell? ⟨w.heap.size + 1 + 1, j, none⟩ = some (.int .i64 (ns j)) by
  intro j hj
  rw [hW3]
  have := World.cell?_alloc_mark ((w.alloc (.cells #[.int .i64 a1_0, .int .i64 a1_1, .int .i64 a1_2, .int .i64 a1_3, .int .i64 a1_4, .int .i64 a1_5, .slice A1_6 l1_6.length c1_6, .slice A1_7 l1_7.length c1_7] 26)).alloc (.cells #[.int .i64 a1_1, .int .i64 a1_2, .int .i64 a1_3, .int .i64 a1_4, .int .i64 a1_5, .slice A1_6 l1_6.length c1_6, .slice A1_7 l1_7.length c1_7] 24)) #[.int .i64 (wrap64 (a1_0 - a2)), .int .i64 a1_2, .int .i64 a1_3, .int .i64 a1_4, .int .i64 a1_5] 2 (0, 0) j
  rw [show ((w.alloc (.cells #[.int .i64 a1_0, .int .i64 a1_1, .int .i64 a1_2, .int .i64 a1_3, .int .i64 a1_4, .int .i64 a1_5, .slice A1_6 l1_6.length c1_6, .slice A1_7 l1_7.length c1_7] 26)).alloc (.cells #[.int .i64 a1_1, .int .i64 a1_2, .int .i64 a1_3, .int .i64 a1_4, .int .i64 a1_5, .slice A1_6 l1_6.length c1_6, .slice A1_7 l1_7.length c1_7] 24)).heap.size = w.heap.size + 1 + 1 by simp] at this
  rw [this, HNS.out]
  match j, hj with
  | 0, _ => rfl
  | 1, _ => rfl
  | 2, _ => rfl
  | 3, _ => rfl
  | 4, _ => rfl)
 have HD := am (show W3.cell? ⟨w.heap.size + 1, 5, none⟩ = some (.slice A1_6 l1_6.length c1_6) ∧ W3.cell? ⟨w.heap.size + 1, 6, none⟩ = some (.slice A1_7 l1_7.length c1_7) by
  have key := World.cell?_alloc_mark (w.alloc (.cells #[.int .i64 a1_0, .int .i64 a1_1, .int .i64 a1_2, .int .i64 a1_3, .int .i64 a1_4, .int .i64 a1_5, .slice A1_6 l1_6.length c1_6, .slice A1_7 l1_7.length c1_7] 26)) #[.int .i64 a1_1, .int .i64 a1_2, .int .i64 a1_3, .int .i64 a1_4, .int .i64 a1_5, .slice A1_6 l1_6.length c1_6, .slice A1_7 l1_7.length c1_7] 24 (0, 0)
  rw [show (w.alloc (.cells #[.int .i64 a1_0, .int .i64 a1_1, .int .i64 a1_2, .int .i64 a1_3, .int .i64 a1_4, .int .i64 a1_5, .slice A1_6 l1_6.length c1_6, .slice A1_7 l1_7.length c1_7] 26)).heap.size = w.heap.size + 1 by simp] at key
  rw [hW3]
  exact ⟨pw_cell_below (below_alloc (Below.refl _ _) _) (key 5), pw_cell_below (below_alloc (Below.refl _ _) _) (key 6)⟩)
 clear hW3
 go_loopw [8, 33] (fun v i wr => ∃ j : Nat, j ≤ 5 ∧ i = .int .i64 j ∧ Aside0 (Below W3.heap.size W3 wr) ∧ (v = .slice A0 l0.length l0.length ∧ Aside0 (j = 0) ∨ Aside0 (0 < j ∧ Kd.R (Kd.int .u8) 5 wr W3.heap.size (fun k_ => W3.heap.size ≤ k_) v (ts j)))) (fun _ i _ => 5 - (intOf i).toNat)
 case atStart => exact ⟨0, by omega, rfl, ⟨Below.refl _ _⟩, .inl ⟨rfl, ⟨rfl⟩⟩⟩
 case round =>
  obtain ⟨j, hj, rfl, HB, HO⟩ := hrel
  by_cases hlt : j < 5
  ·
   have hcell : wr.cell? ⟨w.heap.size + 1 + 1, j, none⟩ = some (.int .i64 (ns j)) := (HB.out.cell (p := ⟨w.heap.size + 1 + 1, j, none⟩) (by have := HZ.out; show _ < _; simp; omega)).trans (HE.out j hlt)
   have HTj := am (HT.out j hlt)
   rcases HO with ⟨rfl, HJ⟩ | HO
   ·
    have HX := am (show Kd.C (Kd.int .u8) wr A0 l0.length l0 from Kd.C_below (Kd.C_below HR0.out HB0.out) HB.out)
    have HTq := am (show event_appendInt.f k l0 (ns j) = some (ts (j + 1)) by have := HTj.out; rw [HJ.out, HTZ.out] at this; rw [HJ.out]; exact this)
    go_wp2_with (go_at_call 40; refine (event_appendInt_tight k A0 l0 (ns j) (ts (j + 1)) _ HX.out HTq.out).mono ?_; rintro e w5 ⟨v5, rfl, ho, hb⟩; have HO1 := am (Kd.R_mono (ok' := fun k_ => W3.heap.size ≤ k_) (Kd.R_bound (Kd.R_lower ho HB.out.size)) (fun _ hk => hk.2.1)); have HB1 := am (below_then HB.out HB.out.size hb); clear ho hb)
    go_roundw
    case rel => exact ⟨j + 1, by omega, by go_num, HB1, .inr ⟨by omega, HO1.out⟩⟩
    case measure => simp [intOf]; omega
   ·
    have HO' := am HO.out.2
    clear HO
    obtain ⟨Ao, co, eo⟩ := Kd.R_slice HO'.out
    subst eo
    go_wp2_with (go_at_call 40; refine (event_appendInt.calls k (fun k_ => W3.heap.size ≤ k_) (.slice Ao (ts j).length co) (ts j) (ns j) (ts (j + 1)) W3 _ HB.out HO'.out HTj.out).mono ?_; rintro e w5 ⟨v5, rfl, ho, hb, hkp⟩; have HO1 := am (Kd.R_mono (ok' := fun k_ => W3.heap.size ≤ k_) (Kd.R_bound ho) (fun _ hk => hk.2.1)); have HB1 := am hb; clear ho hb hkp)
    go_roundw
    case rel => exact ⟨j + 1, by omega, by go_num, HB1, .inr ⟨by omega, HO1.out⟩⟩
    case measure => simp [intOf]; omega
  ·
   obtain rfl : j = 5 := by omega
   rcases HO with ⟨rfl, HJ⟩ | HO
   ·
    exact absurd HJ.out (by omega)
   ·
    have HO' := am (show Kd.R (Kd.int .u8) 5 wr W3.heap.size (fun k_ => W3.heap.size ≤ k_) u8 t5 by rw [← HT5.out]; exact HO.out.2)
    clear HO
    obtain ⟨Ao, co, eo⟩ := Kd.R_slice HO'.out
    subst eo
    have HS := am (show ∀ w', Below W3.heap.size W3 w' → w'.cell? ⟨w.heap.size + 1, 5, none⟩ = some (.slice A1_6 l1_6.length c1_6) ∧ w'.cell? ⟨w.heap.size + 1, 6, none⟩ = some (.slice A1_7 l1_7.length c1_7) from fun w' hb => ⟨(hb.cell (p := ⟨w.heap.size + 1, 5, none⟩) (by have := HZ.out; show _ < _; simp; omega)).trans HD.out.1, (hb.cell (p := ⟨w.heap.size + 1, 6, none⟩) (by have := HZ.out; show _ < _; simp; omega)).trans HD.out.2⟩)
    have HQ6 := am (show ∀ wx W_ : World, Below W3.heap.size W3 wx → Kept wx W_ (fun k_ => W3.heap.size ≤ k_) → Kd.C (Kd.int .i64) W_ A1_6 l1_6.length l1_6 from fun wx W_ hb hk => Kd.C_kept_came (Kd.heap_int .i64) (Kd.C_below HR6.out HB0.out) hb (fun _ h => h) W_ hk)
    have HQ7 := am (show ∀ wx W_ : World, Below W3.heap.size W3 wx → Kept wx W_ (fun k_ => W3.heap.size ≤ k_) → Kd.C (Kd.int .i64) W_ A1_7 l1_7.length l1_7 from fun wx W_ hb hk => Kd.C_kept_came (Kd.heap_int .i64) (Kd.C_below HR7.out HB0.out) hb (fun _ h => h) W_ hk)
    go_wp2
    go_region_held3 (fun w' => w'.cell? ⟨w.heap.size + 1, 5, none⟩ = some (.slice A1_6 l1_6.length c1_6) ∧ w'.cell? ⟨w.heap.size + 1, 6, none⟩ = some (.slice A1_7 l1_7.length c1_7)) (exact HS.out _ (by repeat (first | exact HB2.out | exact HB1.out | exact HB.out | apply below_drew1 | apply pw_below_drewN))) (first | (go_at_call 41; refine (event_appendList.calls k (fun k_ => W3.heap.size ≤ k_) (.slice Ao t5.length co) t5 A1_6 c1_6 l1_6 t6 W3 _ ?s1 ?s2 ?s3 HC6.out HT6.out).mono ?_; (case s1 => repeat (first | exact HB.out | apply below_drew1 | apply pw_below_drewN)); (case s2 => repeat (first | exact HO'.out | apply Kd.R_drewN | apply Kd.R_drew)); (case s3 => exact fun W_ hk => HQ6.out _ W_ (by repeat (first | exact HB.out | apply below_drew1 | apply pw_below_drewN)) hk); rintro e w5 ⟨v5, rfl, ho, hb, hkp⟩; have HO1 := am (Kd.R_mono (ok' := fun k_ => W3.heap.size ≤ k_) (Kd.R_bound ho) (fun _ hk => hk.2.1)); have HB1 := am hb; clear ho hb hkp HT6) | (go_at_call 41; refine (event_appendList.calls k (fun k_ => W3.heap.size ≤ k_) _ t6 A1_7 c1_7 l1_7 r W3 _ ?s1 ?s2 ?s3 HC7.out HT7.out).mono ?_; (case s1 => repeat (first | exact HB1.out | apply below_drew1 | apply pw_below_drewN)); (case s2 => repeat (first | exact HO1.out | apply Kd.R_drewN | apply Kd.R_drew)); (case s3 => exact fun W_ hk => HQ7.out _ W_ (by repeat (first | exact HB1.out | apply below_drew1 | apply pw_below_drewN)) hk); rintro e w6 ⟨v6, rfl, ho, hb, hkp⟩; have HO2 := am (Kd.R_mono (ok' := fun k_ => W3.heap.size ≤ k_) (Kd.R_bound ho) (fun _ hk => hk.2.1)); have HB2 := am hb; clear ho hb hkp))
    all_goals
     go_wp2
     go_ret
     exact ⟨_, rfl, Kd.R_mono (Kd.R_lower HO2.out HB0.out.size) (fun _ _ => trivial), below_then HB0.out HB0.out.size HB2.out⟩
end Go.Proofs.Ytnmmkgagbfniiaa.A
end
