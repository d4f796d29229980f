/- MRecordErrors3: texts of this session and of the kit's printer on the road to the statement RecordErrors, laid into one and rid of what it doesn't need. No condition beyond what each fact names. -/
import Derived.Test.YtnmmkgagbfniiaaMRecordErrors2
section
namespace Go.Proofs.Ytnmmkgagbfniiaa.A
open Go.RowKit Go.Proofs.YtnmmkgagbfniiaaW.PrintWords Go.Proofs.YtnmmkgagbfniiaaW.PrintLast Go.Proofs.YtnmmkgagbfniiaaW.PrintMore
set_option linter.unusedVariables false
theorem zu {W W' : World} {g : Nat} {o : Obj} (h : W.heap[g]? = some o) (hs : W.heap[g]? = some o → W'.heap[g]? = some o := by intro h_; (with_reducible repeat (first | refine blk_drewN ?_ _ | refine blk_drew ?_ | refine blk_alloc ?_ _)); exact h_) : W'.heap[g]? = some o := hs h
theorem zb {w W W' : World} (h : Aside0 (Below w.heap.size w W)) (hs : Below w.heap.size w W → Below w.heap.size w W' := by intro h_; repeat (first | (with_reducible first | exact h_ | apply below_alloc | apply pw_below_drewN | apply below_drew1 | refine below_set ?_ (Aside0.out (by with_reducible assumption))) | exact h_)) : Below w.heap.size w W' := hs h.out
theorem zo {p : Prop} [i : Decidable p] (h : decide p = true := by first | (with_reducible assumption) | assumption) : p := of_decide_eq_true h
theorem zp {P md ops Q S ds i N oi v fuel l a w} (l' : Array Bool) (hc : anyB md ops l l' i = true) {a'} (h : wpAnyLast P md ops Q S ds fuel l' a' w) (hi : ops[i]? = some oi := by rfl) (hN : oi.dst = N := by rfl) (hQ : ∀ c a w, Q (.panic c) (a.put oi.dst v) w → Q (.panic c) a w := by exact fun _ _ _ h => h) (hy : Yields P ops oi v a := by exact Or.inl ⟨by rfl, by intro w'; go_simp; with_reducible rfl⟩) (ha : a.put N v = a' := by simp only [Act.put, List.setIfInBounds_toArray, List.set_cons_zero, List.set_cons_succ, i64_w, i32_w]; rfl) : wpAnyLast P md ops Q S ds (fuel + 1) l a w := pure_ l' hi hN hc hQ hy ha h
theorem zc2 {W : World} {g : Nat} {t : TypeId} {v0 v1 : Value} (h : Aside0 (W.heap[g]? = some (.cells #[v0, v1] t (0, 0)))) : W.cell? ⟨g, 0, none⟩ = some v0 ∧ W.cell? ⟨g, 1, none⟩ = some v1 := ⟨(blk_cell h.out 0).trans rfl, (blk_cell h.out 1).trans rfl⟩
theorem zc3 {W : World} {g : Nat} {t : TypeId} {v0 v1 v2 : Value} (h : Aside0 (W.heap[g]? = some (.cells #[v0, v1, v2] t (0, 0)))) : W.cell? ⟨g, 0, none⟩ = some v0 ∧ W.cell? ⟨g, 1, none⟩ = some v1 ∧ W.cell? ⟨g, 2, none⟩ = some v2 := ⟨(blk_cell h.out 0).trans rfl, (blk_cell h.out 1).trans rfl, (blk_cell h.out 2).trans rfl⟩
theorem zc4 {W : World} {g : Nat} {t : TypeId} {v0 v1 v2 v3 : Value} (h : Aside0 (W.heap[g]? = some (.cells #[v0, v1, v2, v3] t (0, 0)))) : W.cell? ⟨g, 0, none⟩ = some v0 ∧ W.cell? ⟨g, 1, none⟩ = some v1 ∧ W.cell? ⟨g, 2, none⟩ = some v2 ∧ W.cell? ⟨g, 3, none⟩ = some v3 := ⟨(blk_cell h.out 0).trans rfl, (blk_cell h.out 1).trans rfl, (blk_cell h.out 2).trans rfl, (blk_cell h.out 3).trans rfl⟩
theorem zc5 {W : World} {g : Nat} {t : TypeId} {v0 v1 v2 v3 v4 : Value} (h : Aside0 (W.heap[g]? = some (.cells #[v0, v1, v2, v3, v4] t (0, 0)))) : W.cell? ⟨g, 0, none⟩ = some v0 ∧ W.cell? ⟨g, 1, none⟩ = some v1 ∧ W.cell? ⟨g, 2, none⟩ = some v2 ∧ W.cell? ⟨g, 3, none⟩ = some v3 ∧ W.cell? ⟨g, 4, none⟩ = some v4 := ⟨(blk_cell h.out 0).trans rfl, (blk_cell h.out 1).trans rfl, (blk_cell h.out 2).trans rfl, (blk_cell h.out 3).trans rfl, (blk_cell h.out 4).trans rfl⟩
theorem zc6 {W : World} {g : Nat} {t : TypeId} {v0 v1 v2 v3 v4 v5 : Value} (h : Aside0 (W.heap[g]? = some (.cells #[v0, v1, v2, v3, v4, v5] t (0, 0)))) : W.cell? ⟨g, 0, none⟩ = some v0 ∧ W.cell? ⟨g, 1, none⟩ = some v1 ∧ W.cell? ⟨g, 2, none⟩ = some v2 ∧ W.cell? ⟨g, 3, none⟩ = some v3 ∧ W.cell? ⟨g, 4, none⟩ = some v4 ∧ W.cell? ⟨g, 5, none⟩ = some v5 := ⟨(blk_cell h.out 0).trans rfl, (blk_cell h.out 1).trans rfl, (blk_cell h.out 2).trans rfl, (blk_cell h.out 3).trans rfl, (blk_cell h.out 4).trans rfl, (blk_cell h.out 5).trans rfl⟩
theorem zc7 {W : World} {g : Nat} {t : TypeId} {v0 v1 v2 v3 v4 v5 v6 : Value} (h : Aside0 (W.heap[g]? = some (.cells #[v0, v1, v2, v3, v4, v5, v6] t (0, 0)))) : W.cell? ⟨g, 0, none⟩ = some v0 ∧ W.cell? ⟨g, 1, none⟩ = some v1 ∧ W.cell? ⟨g, 2, none⟩ = some v2 ∧ W.cell? ⟨g, 3, none⟩ = some v3 ∧ W.cell? ⟨g, 4, none⟩ = some v4 ∧ W.cell? ⟨g, 5, none⟩ = some v5 ∧ W.cell? ⟨g, 6, none⟩ = some v6 := ⟨(blk_cell h.out 0).trans rfl, (blk_cell h.out 1).trans rfl, (blk_cell h.out 2).trans rfl, (blk_cell h.out 3).trans rfl, (blk_cell h.out 4).trans rfl, (blk_cell h.out 5).trans rfl, (blk_cell h.out 6).trans rfl⟩
theorem zc8 {W : World} {g : Nat} {t : TypeId} {v0 v1 v2 v3 v4 v5 v6 v7 : Value} (h : Aside0 (W.heap[g]? = some (.cells #[v0, v1, v2, v3, v4, v5, v6, v7] t (0, 0)))) : W.cell? ⟨g, 0, none⟩ = some v0 ∧ W.cell? ⟨g, 1, none⟩ = some v1 ∧ W.cell? ⟨g, 2, none⟩ = some v2 ∧ W.cell? ⟨g, 3, none⟩ = some v3 ∧ W.cell? ⟨g, 4, none⟩ = some v4 ∧ W.cell? ⟨g, 5, none⟩ = some v5 ∧ W.cell? ⟨g, 6, none⟩ = some v6 ∧ W.cell? ⟨g, 7, none⟩ = some v7 := ⟨(blk_cell h.out 0).trans rfl, (blk_cell h.out 1).trans rfl, (blk_cell h.out 2).trans rfl, (blk_cell h.out 3).trans rfl, (blk_cell h.out 4).trans rfl, (blk_cell h.out 5).trans rfl, (blk_cell h.out 6).trans rfl, (blk_cell h.out 7).trans rfl⟩
theorem zf2 {W : World} {g : Nat} {t : TypeId} {cs : Array Value} (h : Aside0 (W.heap[g]? = some (.cells cs t (0, 0)))) : W.frozen? ⟨g, 0, none⟩ = false ∧ W.frozen? ⟨g, 1, none⟩ = false := ⟨blk_frozen h.out 0, blk_frozen h.out 1⟩
theorem zf3 {W : World} {g : Nat} {t : TypeId} {cs : Array Value} (h : Aside0 (W.heap[g]? = some (.cells cs t (0, 0)))) : W.frozen? ⟨g, 0, none⟩ = false ∧ W.frozen? ⟨g, 1, none⟩ = false ∧ W.frozen? ⟨g, 2, none⟩ = false := ⟨blk_frozen h.out 0, blk_frozen h.out 1, blk_frozen h.out 2⟩
theorem zf4 {W : World} {g : Nat} {t : TypeId} {cs : Array Value} (h : Aside0 (W.heap[g]? = some (.cells cs t (0, 0)))) : W.frozen? ⟨g, 0, none⟩ = false ∧ W.frozen? ⟨g, 1, none⟩ = false ∧ W.frozen? ⟨g, 2, none⟩ = false ∧ W.frozen? ⟨g, 3, none⟩ = false := ⟨blk_frozen h.out 0, blk_frozen h.out 1, blk_frozen h.out 2, blk_frozen h.out 3⟩
theorem zf5 {W : World} {g : Nat} {t : TypeId} {cs : Array Value} (h : Aside0 (W.heap[g]? = some (.cells cs t (0, 0)))) : W.frozen? ⟨g, 0, none⟩ = false ∧ W.frozen? ⟨g, 1, none⟩ = false ∧ W.frozen? ⟨g, 2, none⟩ = false ∧ W.frozen? ⟨g, 3, none⟩ = false ∧ W.frozen? ⟨g, 4, none⟩ = false := ⟨blk_frozen h.out 0, blk_frozen h.out 1, blk_frozen h.out 2, blk_frozen h.out 3, blk_frozen h.out 4⟩
theorem zf6 {W : World} {g : Nat} {t : TypeId} {cs : Array Value} (h : Aside0 (W.heap[g]? = some (.cells cs t (0, 0)))) : W.frozen? ⟨g, 0, none⟩ = false ∧ W.frozen? ⟨g, 1, none⟩ = false ∧ W.frozen? ⟨g, 2, none⟩ = false ∧ W.frozen? ⟨g, 3, none⟩ = false ∧ W.frozen? ⟨g, 4, none⟩ = false ∧ W.frozen? ⟨g, 5, none⟩ = false := ⟨blk_frozen h.out 0, blk_frozen h.out 1, blk_frozen h.out 2, blk_frozen h.out 3, blk_frozen h.out 4, blk_frozen h.out 5⟩
theorem zf7 {W : World} {g : Nat} {t : TypeId} {cs : Array Value} (h : Aside0 (W.heap[g]? = some (.cells cs t (0, 0)))) : W.frozen? ⟨g, 0, none⟩ = false ∧ W.frozen? ⟨g, 1, none⟩ = false ∧ W.frozen? ⟨g, 2, none⟩ = false ∧ W.frozen? ⟨g, 3, none⟩ = false ∧ W.frozen? ⟨g, 4, none⟩ = false ∧ W.frozen? ⟨g, 5, none⟩ = false ∧ W.frozen? ⟨g, 6, none⟩ = false := ⟨blk_frozen h.out 0, blk_frozen h.out 1, blk_frozen h.out 2, blk_frozen h.out 3, blk_frozen h.out 4, blk_frozen h.out 5, blk_frozen h.out 6⟩
theorem zf8 {W : World} {g : Nat} {t : TypeId} {cs : Array Value} (h : Aside0 (W.heap[g]? = some (.cells cs t (0, 0)))) : W.frozen? ⟨g, 0, none⟩ = false ∧ W.frozen? ⟨g, 1, none⟩ = false ∧ W.frozen? ⟨g, 2, none⟩ = false ∧ W.frozen? ⟨g, 3, none⟩ = false ∧ W.frozen? ⟨g, 4, none⟩ = false ∧ W.frozen? ⟨g, 5, none⟩ = false ∧ W.frozen? ⟨g, 6, none⟩ = false ∧ W.frozen? ⟨g, 7, none⟩ = false := ⟨blk_frozen h.out 0, blk_frozen h.out 1, blk_frozen h.out 2, blk_frozen h.out 3, blk_frozen h.out 4, blk_frozen h.out 5, blk_frozen h.out 6, blk_frozen h.out 7⟩
theorem zx {w W : World} {p : Addr} {v : Value} (hb : Aside0 (Below w.heap.size w W)) (h : w.cell? p = some v) : W.cell? p = some v := (hb.out.cell (World.block_lt_of_cell? w _ h)).trans h
theorem zC {α : Type} {d : Kd α} {W W' : World} {A : Option Addr} {n : Nat} {xs : List α} (h : Kd.C d W A n xs) (hs : Kd.C d W A n xs → Kd.C d W' A n xs := by intro h_; repeat (first | exact h_ | (with_reducible refine Kd.C_alloc ?_ _) | (with_reducible refine Kd.C_drewN ?_ _) | (with_reducible refine Kd.C_drew ?_))) : Kd.C d W' A n xs := hs h
theorem zg {p : Prop} (h : p := by (try simp only [List.map_toArray, List.map_cons, List.map_nil]); first | done | rfl | (simp only [List.length_drop, List.length_take]; rfl)) : p := h
theorem am {p : Prop} (h : p) : Aside0 p := ⟨h⟩
theorem zr {p : Prop} (h : p := by first | rfl | (simp; done) | (simp [*]; done)) : p := h
theorem ze {p : Prop} (h : p := by first | rfl | (simp [errW_none, errW_some] <;> rfl) | (simp [*, errW_none, errW_some] <;> rfl)) : p := h
theorem zS {α : Type} {d : Kd α} {e b : Nat} {W W' : World} {ok : Nat → Prop} {v : Value} {xs : List α} (h : Kd.S d e W b ok v xs) (hs : Kd.S d e W b ok v xs → Kd.S d e W' b ok v xs := by intro h_; (with_reducible repeat (first | apply Kd.S_alloc | apply Kd.S_drewN | apply Kd.S_drew)); exact h_) : Kd.S d e W' b ok v xs := hs h
theorem zR {α : Type} {d : Kd α} {e b : Nat} {W W' : World} {ok : Nat → Prop} {v : Value} {xs : List α} (h : Kd.R d e W b ok v xs) (hs : Kd.R d e W b ok v xs → Kd.R d e W' b ok v xs := by intro h_; (with_reducible repeat (first | apply Kd.R_alloc | apply Kd.R_drewN | apply Kd.R_drew)); exact h_) : Kd.R d e W' b ok v xs := hs h
theorem zk {W0 W W1 : World} {g : Nat} {o : Obj} (h : Aside0 (W0.heap[g]? = some o)) (hb : Below W.heap.size W W1) (hs : W0.heap[g]? = some o → W.heap[g]? = some o := by intro h_; (with_reducible repeat (first | refine blk_drewN ?_ _ | refine blk_drew ?_ | refine blk_alloc ?_ _)); exact h_) : Aside0 (W1.heap[g]? = some o) := ⟨blk_below (hs h.out) hb⟩
theorem zn {W0 W : World} {g g' : Nat} {o : Obj} (hg : g' = W.heap.size) (h : Aside0 (W0.heap[g]? = some o)) (hs : W0.heap[g]? = some o → W.heap[g]? = some o := by intro h_; (with_reducible repeat (first | refine blk_drewN ?_ _ | refine blk_drew ?_ | refine blk_alloc ?_ _)); exact h_) : Aside0 (g ≠ g') := ⟨by rw [hg]; exact Nat.ne_of_lt (blk_lt (hs h.out))⟩
theorem zm {W0 W : World} {g g' : Nat} {o : Obj} (hg : g' = W.heap.size) (h : Aside0 (W0.heap[g]? = some o)) (hs : W0.heap[g]? = some o → W.heap[g]? = some o := by intro h_; (with_reducible repeat (first | refine blk_drewN ?_ _ | refine blk_drew ?_ | refine blk_alloc ?_ _)); exact h_) : Aside0 (g' ≠ g) := ⟨by rw [hg]; exact Nat.ne_of_gt (blk_lt (hs h.out))⟩
theorem zG {w W : World} {g : Nat} (hg : g = W.heap.size) (h : Below w.heap.size w W) : Aside0 (w.heap.size ≤ g) := ⟨by rw [hg]; exact below_size h⟩
theorem zB {P : Program} {ops : Array Oper} {rest : List Oper} {o : Oper} {a : Act} {Q : Exit → Act → World → Prop} {W : World} (N : Tmp) (cs : Array Value) (t : TypeId) (h : ∀ g, g = W.heap.size → ∀ w1, w1.heap[g]? = some (.cells cs t (0, 0)) → Below W.heap.size W w1 → wpList P ops Q rest (a.put o.dst (.pointer (some ⟨g, 0, none⟩))) w1) (hgd : o.guard = none := by rfl) (hd : o.dst = some N := by rfl)
    (hrun : (execOp a.eval o).run P W = .ok (.value (.pointer (some ⟨W.heap.size, 0, none⟩))) (W.alloc (.cells cs t (0, 0))) := by first | (go_simp; done) | (go_simp; rfl)) : wpList P ops Q (o :: rest) a W := box_event hgd hd hrun h
theorem zt {α : Type} [DecidableEq α] {a b : α} (h : a = b) : (a == b) = true ∧ (a != b) = false := ⟨by simp [h], by simp [h]⟩
theorem zs {α : Type} [DecidableEq α] {a b : α} (h : ¬ a = b) : (a == b) = false ∧ (a != b) = true := ⟨by simp [h], by simp [h]⟩
theorem zq2 {W : World} {g : Nat} {t : TypeId} {v0 v1 : Value} (h : Aside0 (W.heap[g]? = some (.cells #[v0, v1] t (0, 0)))) : W.cell? ⟨g, 0, none⟩ = some v0 ∧ W.cell? ⟨g, 1, none⟩ = some v1 ∧ W.frozen? ⟨g, 0, none⟩ = false ∧ W.frozen? ⟨g, 1, none⟩ = false := ⟨(blk_cell h.out 0).trans rfl, (blk_cell h.out 1).trans rfl, blk_frozen h.out 0, blk_frozen h.out 1⟩
theorem zq3 {W : World} {g : Nat} {t : TypeId} {v0 v1 v2 : Value} (h : Aside0 (W.heap[g]? = some (.cells #[v0, v1, v2] t (0, 0)))) : W.cell? ⟨g, 0, none⟩ = some v0 ∧ W.cell? ⟨g, 1, none⟩ = some v1 ∧ W.cell? ⟨g, 2, none⟩ = some v2 ∧ W.frozen? ⟨g, 0, none⟩ = false ∧ W.frozen? ⟨g, 1, none⟩ = false ∧ W.frozen? ⟨g, 2, none⟩ = false := ⟨(blk_cell h.out 0).trans rfl, (blk_cell h.out 1).trans rfl, (blk_cell h.out 2).trans rfl, blk_frozen h.out 0, blk_frozen h.out 1, blk_frozen h.out 2⟩
theorem zq4 {W : World} {g : Nat} {t : TypeId} {v0 v1 v2 v3 : Value} (h : Aside0 (W.heap[g]? = some (.cells #[v0, v1, v2, v3] t (0, 0)))) : W.cell? ⟨g, 0, none⟩ = some v0 ∧ W.cell? ⟨g, 1, none⟩ = some v1 ∧ W.cell? ⟨g, 2, none⟩ = some v2 ∧ W.cell? ⟨g, 3, none⟩ = some v3 ∧ W.frozen? ⟨g, 0, none⟩ = false ∧ W.frozen? ⟨g, 1, none⟩ = false ∧ W.frozen? ⟨g, 2, none⟩ = false ∧ W.frozen? ⟨g, 3, none⟩ = false := ⟨(blk_cell h.out 0).trans rfl, (blk_cell h.out 1).trans rfl, (blk_cell h.out 2).trans rfl, (blk_cell h.out 3).trans rfl, blk_frozen h.out 0, blk_frozen h.out 1, blk_frozen h.out 2, blk_frozen h.out 3⟩
theorem zq5 {W : World} {g : Nat} {t : TypeId} {v0 v1 v2 v3 v4 : Value} (h : Aside0 (W.heap[g]? = some (.cells #[v0, v1, v2, v3, v4] t (0, 0)))) : W.cell? ⟨g, 0, none⟩ = some v0 ∧ W.cell? ⟨g, 1, none⟩ = some v1 ∧ W.cell? ⟨g, 2, none⟩ = some v2 ∧ W.cell? ⟨g, 3, none⟩ = some v3 ∧ W.cell? ⟨g, 4, none⟩ = some v4 ∧ W.frozen? ⟨g, 0, none⟩ = false ∧ W.frozen? ⟨g, 1, none⟩ = false ∧ W.frozen? ⟨g, 2, none⟩ = false ∧ W.frozen? ⟨g, 3, none⟩ = false ∧ W.frozen? ⟨g, 4, none⟩ = false := ⟨(blk_cell h.out 0).trans rfl, (blk_cell h.out 1).trans rfl, (blk_cell h.out 2).trans rfl, (blk_cell h.out 3).trans rfl, (blk_cell h.out 4).trans rfl, blk_frozen h.out 0, blk_frozen h.out 1, blk_frozen h.out 2, blk_frozen h.out 3, blk_frozen h.out 4⟩
theorem zq6 {W : World} {g : Nat} {t : TypeId} {v0 v1 v2 v3 v4 v5 : Value} (h : Aside0 (W.heap[g]? = some (.cells #[v0, v1, v2, v3, v4, v5] t (0, 0)))) : W.cell? ⟨g, 0, none⟩ = some v0 ∧ W.cell? ⟨g, 1, none⟩ = some v1 ∧ W.cell? ⟨g, 2, none⟩ = some v2 ∧ W.cell? ⟨g, 3, none⟩ = some v3 ∧ W.cell? ⟨g, 4, none⟩ = some v4 ∧ W.cell? ⟨g, 5, none⟩ = some v5 ∧ W.frozen? ⟨g, 0, none⟩ = false ∧ W.frozen? ⟨g, 1, none⟩ = false ∧ W.frozen? ⟨g, 2, none⟩ = false ∧ W.frozen? ⟨g, 3, none⟩ = false ∧ W.frozen? ⟨g, 4, none⟩ = false ∧ W.frozen? ⟨g, 5, none⟩ = false := ⟨(blk_cell h.out 0).trans rfl, (blk_cell h.out 1).trans rfl, (blk_cell h.out 2).trans rfl, (blk_cell h.out 3).trans rfl, (blk_cell h.out 4).trans rfl, (blk_cell h.out 5).trans rfl, blk_frozen h.out 0, blk_frozen h.out 1, blk_frozen h.out 2, blk_frozen h.out 3, blk_frozen h.out 4, blk_frozen h.out 5⟩
theorem zq7 {W : World} {g : Nat} {t : TypeId} {v0 v1 v2 v3 v4 v5 v6 : Value} (h : Aside0 (W.heap[g]? = some (.cells #[v0, v1, v2, v3, v4, v5, v6] t (0, 0)))) : W.cell? ⟨g, 0, none⟩ = some v0 ∧ W.cell? ⟨g, 1, none⟩ = some v1 ∧ W.cell? ⟨g, 2, none⟩ = some v2 ∧ W.cell? ⟨g, 3, none⟩ = some v3 ∧ W.cell? ⟨g, 4, none⟩ = some v4 ∧ W.cell? ⟨g, 5, none⟩ = some v5 ∧ W.cell? ⟨g, 6, none⟩ = some v6 ∧ W.frozen? ⟨g, 0, none⟩ = false ∧ W.frozen? ⟨g, 1, none⟩ = false ∧ W.frozen? ⟨g, 2, none⟩ = false ∧ W.frozen? ⟨g, 3, none⟩ = false ∧ W.frozen? ⟨g, 4, none⟩ = false ∧ W.frozen? ⟨g, 5, none⟩ = false ∧ W.frozen? ⟨g, 6, none⟩ = false := ⟨(blk_cell h.out 0).trans rfl, (blk_cell h.out 1).trans rfl, (blk_cell h.out 2).trans rfl, (blk_cell h.out 3).trans rfl, (blk_cell h.out 4).trans rfl, (blk_cell h.out 5).trans rfl, (blk_cell h.out 6).trans rfl, blk_frozen h.out 0, blk_frozen h.out 1, blk_frozen h.out 2, blk_frozen h.out 3, blk_frozen h.out 4, blk_frozen h.out 5, blk_frozen h.out 6⟩
theorem zq8 {W : World} {g : Nat} {t : TypeId} {v0 v1 v2 v3 v4 v5 v6 v7 : Value} (h : Aside0 (W.heap[g]? = some (.cells #[v0, v1, v2, v3, v4, v5, v6, v7] t (0, 0)))) : W.cell? ⟨g, 0, none⟩ = some v0 ∧ W.cell? ⟨g, 1, none⟩ = some v1 ∧ W.cell? ⟨g, 2, none⟩ = some v2 ∧ W.cell? ⟨g, 3, none⟩ = some v3 ∧ W.cell? ⟨g, 4, none⟩ = some v4 ∧ W.cell? ⟨g, 5, none⟩ = some v5 ∧ W.cell? ⟨g, 6, none⟩ = some v6 ∧ W.cell? ⟨g, 7, none⟩ = some v7 ∧ W.frozen? ⟨g, 0, none⟩ = false ∧ W.frozen? ⟨g, 1, none⟩ = false ∧ W.frozen? ⟨g, 2, none⟩ = false ∧ W.frozen? ⟨g, 3, none⟩ = false ∧ W.frozen? ⟨g, 4, none⟩ = false ∧ W.frozen? ⟨g, 5, none⟩ = false ∧ W.frozen? ⟨g, 6, none⟩ = false ∧ W.frozen? ⟨g, 7, none⟩ = false := ⟨(blk_cell h.out 0).trans rfl, (blk_cell h.out 1).trans rfl, (blk_cell h.out 2).trans rfl, (blk_cell h.out 3).trans rfl, (blk_cell h.out 4).trans rfl, (blk_cell h.out 5).trans rfl, (blk_cell h.out 6).trans rfl, (blk_cell h.out 7).trans rfl, blk_frozen h.out 0, blk_frozen h.out 1, blk_frozen h.out 2, blk_frozen h.out 3, blk_frozen h.out 4, blk_frozen h.out 5, blk_frozen h.out 6, blk_frozen h.out 7⟩
theorem zM {p : Prop} (h : p := by repeat' (with_reducible first | refine LeO.ite ?_ ?_ | refine LeO.bind ?_ fun _ => ?_ | apply LeO.none | apply LeO.refl | apply ih | apply ih0 | apply ih1 | apply ih2 | apply ih3 | apply ih4 | apply ih5 | apply ih6 | apply ih7 | apply ih8 | apply ih9 | apply ih10 | apply ih11 | apply block_Encode.mono | apply block_Sum.mono | apply block_check.mono | apply block_seal.mono | apply event_Append.mono | apply event_PutInt.mono | apply event_appendInt.mono | apply event_appendList.mono | apply l14_RecordErrors.mono | apply l14_awake.mono | apply j11_Append.mono | apply j11_Encode.mono | apply j11_Fits.mono | apply j11_Match.mono | apply j11_Pack.mono | apply j11_Payload.mono | apply j11_PutInt.mono | apply j11_Sum.mono | apply j11_putList.mono | apply pack_Pack.mono | apply pack_longest.mono | apply record_Files.mono | apply record_check.mono)) : p := h
theorem y0 {p : Prop} (h : p := by repeat (first | (with_reducible exact HR514.out) | (with_reducible refine Kd.C_alloc ?_ _) | (with_reducible refine Kd.C_drewN ?_ _) | (with_reducible refine Kd.C_drew ?_) | exact HR514.out)) : p := h
theorem y1 {p : Prop} (h : p := by (try simp only [List.map_toArray, List.map_cons, List.map_nil]); first | done | (rw [show y502.length = y499.length from (Kd.S_reads' HO501.out).1.symm] <;> rfl) | rfl | (simp only [List.length_drop, List.length_take]; rfl)) : p := h
theorem y2 {p : Prop} (h : p := by repeat (first | exact (by repeat (first | (with_reducible exact HR514.out) | (with_reducible refine Kd.C_alloc ?_ _) | (with_reducible refine Kd.C_drewN ?_ _) | (with_reducible refine Kd.C_drew ?_) | exact HR514.out)) | (with_reducible refine Kd.C_alloc ?_ _) | (with_reducible refine Kd.C_drewN ?_ _) | (with_reducible refine Kd.C_drew ?_))) : p := h
theorem y3 {p : Prop} (h : p := by have h_ : (0 : Int) < ((y499.length : Int) : Int) := zo; first | exact h_ | (have e_ := (Kd.S_reads' HO501.out).1; omega) | simpa using h_) : p := h
theorem y4 {p : Prop} (h : p := by (with_reducible repeat (first | apply Kd.R_alloc | apply Kd.R_drewN | apply Kd.R_drew)); exact (Kd.R_mono (Kd.R_far (p := ⟨gb313, 7, none⟩) (Kd.R_far (p := ⟨gb313, 6, none⟩) (Kd.R_far (p := ⟨gb313, 5, none⟩) (Kd.R_far (p := ⟨gb313, 4, none⟩) (Kd.R_far (p := ⟨gb313, 3, none⟩) (Kd.R_far (p := ⟨gb313, 2, none⟩) (Kd.R_far (p := ⟨gb313, 1, none⟩) (Kd.R_far (p := ⟨gb313, 0, none⟩) (Kd.R_types HO_5.out BK313.out (by decide)) (fun _ hk => hk.2) (.int .i64 ((rd_T26 l0_2 x22_1).f0))) (fun _ hk => hk.2) (.int .i64 ((rd_T26 l0_2 x22_1).f1.f0))) (fun _ hk => hk.2) (.int .i64 ((rd_T26 l0_2 x22_1).f1.f1))) (fun _ hk => hk.2) (.int .i64 ((rd_T26 l0_2 x22_1).f1.f2))) (fun _ hk => hk.2) (.int .i64 ((rd_T26 l0_2 x22_1).f1.f3))) (fun _ hk => hk.2) (.int .i64 ((rd_T26 l0_2 x22_1).f1.f4))) (fun _ hk => hk.2) (.slice A312_6 ((rd_T26 l0_2 x22_1).f1.f5).length c312_6)) (fun _ hk => hk.2) (.slice A312_7 ((rd_T26 l0_2 x22_1).f1.f6).length c312_7)) (fun _ h_ => h_.1))) : p := h
theorem y5 {p : Prop} (h : p := by rw [show y502.length = y499.length from (Kd.S_reads' HO501.out).1.symm]; exact (Kd.S_reads' HO501.out).2.1) : p := h
theorem y6 {p : Prop} (h : p := by first | (go_simp; done) | (go_simp; rfl)) : p := h
theorem y7 {p : Prop} (h : p := by first | exact HK.out.1 | exact (show Kept w _ (fun k_ => P0_ k_) from by repeat (first | (with_reducible first | exact HK.out | apply Kept.alloc | apply Kept.drewN | apply Kept.drew) | exact HK.out)).1) : p := h
theorem y8 {p : Prop} (h : p := by exact (Reps.one (show Kd.M (Kd.int .i64) _ _ _ 0 [.int .i64 0] from rfl) (Reps.one (show Kd.M (Kd.int .i64) _ _ _ 0 [.int .i64 0] from rfl) (Reps.none _ _)))) : p := h
theorem y9 {p : Prop} (h : p := by (with_reducible repeat (first | apply Kd.S_alloc | apply Kd.S_drewN | apply Kd.S_drew)); exact Kd.S_mono HO501.out (fun k_ hk => ⟨trivial, fun e_ => e_⟩)) : p := h
theorem y10 {p : Prop} (h : p := by exact (fun k_ hk => (.inr (Nat.le_trans (by first | exact HK.out.1 | exact (show Kept w _ (fun k_ => P0_ k_) from by repeat (first | (with_reducible first | exact HK.out | apply Kept.alloc | apply Kept.drewN | apply Kept.drew) | exact HK.out)).1) hk)))) : p := h
theorem y11 {p : Prop} (h : p := by exact (Reps.c7 (show Kd.M k24 _ _ _ (⟨0, 2, 0, 0, 0, ([] : List Int), ([] : List Int)⟩ : S24) [.int .i64 0, .int .i64 2, .int .i64 0, .int .i64 0, .int .i64 0, .slice none 0 0, .slice none 0 0] from (k24_mkM _ _ _ (⟨0, 2, 0, 0, 0, ([] : List Int), ([] : List Int)⟩ : S24) (Kd.R_nil _ _ _ _ _) (Kd.R_nil _ _ _ _ _))) (Reps.none _ _))) : p := h
theorem y12 {p : Prop} (h : p := by exact (Reps.c2 (show Kd.M k57 _ _ _ (⟨(-1), 0⟩ : S57) [.int .i64 (-1), .int .i64 0] from (k57_mkM _ _ _ (⟨(-1), 0⟩ : S57) )) (Reps.none _ _))) : p := h
theorem y13 {p : Prop} (h : p := by refine zu ?_; refine blk_put (cs := #[.int .u8 t336, .int .u8 t337, .int .u8 t338, .int .u8 0]) ?_ 3 _ rfl; refine zu ?_; refine blk_put (cs := #[.int .u8 t336, .int .u8 t337, .int .u8 0, .int .u8 0]) ?_ 2 _ rfl; refine zu ?_; refine blk_put (cs := #[.int .u8 t336, .int .u8 0, .int .u8 0, .int .u8 0]) ?_ 1 _ rfl; refine zu ?_; refine blk_put (cs := #[.int .u8 0, .int .u8 0, .int .u8 0, .int .u8 0]) ?_ 0 _ rfl; refine zu ?_; exact BK340.out) : p := h
theorem y14 {p : Prop} (h : p := by repeat (first | (with_reducible first | exact HK.out | apply Kept.alloc | apply Kept.drewN | apply Kept.drew) | exact HK.out)) : p := h
theorem y15 {p : Prop} (h : p := by rw [Int.toNat_natCast]; have := HT4.out; omega) : p := h
theorem y16 {p : Prop} (h : p := by repeat (first | (with_reducible first | exact HB.out | apply below_alloc | apply pw_below_drewN | apply below_drew1) | exact HB.out)) : p := h
theorem y17 {p : Prop} (h : p := by exact ⟨blk_far x' (blk_ne x' t3' (by decide)) _, Kd.S_set (Kd.S_over' h.b hty (by show ∀ q : Nat, q ∈ [40, 26] → q ≠ 5; decide) hg) t3' (by show ∀ q : Nat, q ∈ [40, 26] → q ≠ 27; decide) _ _, Kd.R_set (Kd.R_over' h.f hty (by decide) hg) t3' (by decide) _ _, ow_put hH h0 h1 hne (blk_lt t3) hg hR0.1 hR, below_set hB h.ge.2.2, h.g⟩) : p := h
theorem y18 {p : Prop} (h : p := by simp only [putAll, Act.put, List.setIfInBounds_toArray, List.set_cons_zero, List.set_cons_succ]) : p := h
theorem y19 {p : Prop} (h : p := by exact ⟨by first | rfl | (simp [errW_none, errW_some] <;> rfl) | (simp only [← hji28]; first | rfl | (simp [errW_none, errW_some] <;> rfl)) | (simp [*, errW_none, errW_some] <;> rfl), zb HB⟩) : p := h
theorem y20 {p : Prop} (h : p := by exact ⟨_, (true), zr, H', ⟨by first | omega | exact Nat.le_refl _⟩, ⟨by refine zu ?_; exact BK432.out⟩, ⟨zb HB⟩⟩) : p := h
theorem y21 {p : Prop} (h : p := by exact ⟨(x9_3), (x8_1), (wrap64 (x8_1 + 1)), zr, zr, zr, H', ⟨by have := HK1.out; have := HJ2.out; have := HK3.out; omega⟩, by repeat (first | exact Drawn0.refl _ | apply Drawn0.step)⟩) : p := h
theorem y22 {p : Prop} (h : p := by exact ⟨(x6_1), (x7_1), (wrap64 (x8_1 + 1)), zr, zr, zr, H', ⟨by have := HK1.out; have := HJ2.out; have := HK3.out; omega⟩, by repeat (first | exact Drawn0.refl _ | apply Drawn0.step)⟩) : p := h
theorem y23 {p : Prop} (h : p := by exact zC ((Kd.S_reads' HO501.out).2.2)) : p := h
theorem y24 {p : Prop} (h : p := by exact ⟨blk_far x' (blk_ne x' t1' (by decide)) _, ow_put hH h0 h1 hne (blk_lt t1) hg hR0.1 hR, Kd.R_set (Kd.R_over' h.f hty (by decide) hg) t1' (by decide) _ _, Kd.S_set (Kd.S_over' h.s hty (by decide) hg) t1' (by decide) _ _, below_set hB h.ge.1, h.g⟩) : p := h
theorem y25 {p : Prop} (h : p := by exact ⟨by first | rfl | (simp; done) | (simp [*]; done), by repeat (first | exact Drawn0.refl _ | apply Drawn0.step)⟩) : p := h
theorem y26 {p : Prop} (h : p := by exact ⟨_, (true), zr, H', ⟨by first | omega | exact Nat.le_refl _⟩, ⟨by refine zu ?_; exact BK302.out⟩, ⟨zb HB⟩⟩) : p := h
theorem y27 {p : Prop} (h : p := by exact ⟨_, (true), zr, H', ⟨by first | omega | exact Nat.le_refl _⟩, ⟨by refine zu ?_; exact BK344.out⟩, ⟨zb HB⟩⟩) : p := h
theorem y28 {p : Prop} (h : p := by exact (below_size (zb HB))) : p := h
theorem y29 {p : Prop} (h : p := by exact ⟨blk_far h.x (blk_ne h.x t2 (by decide)) _, Kd.S_set h.b t2 (by show ∀ q : Nat, q ∈ [40, 26] → q ≠ 3; decide) _ _, hf2, Kd.S_set h.s t2 (by decide) _ _, below_set h.B h.ge.2.1, h.g⟩) : p := h
theorem y30 {p : Prop} (h : p := by exact (Reps.one (show Kd.M (Kd.int .u8) _ _ _ 84 [.int .u8 84] from rfl) (Reps.one (show Kd.M (Kd.int .u8) _ _ _ ((a0_0) % 256) [.int .u8 ((a0_0) % 256)] from rfl) (Reps.none _ _)))) : p := h
theorem y31 {p : Prop} (h : p := by exact ⟨(wrap64 (x3_2 + 1)), zr, H', ⟨by have := HJ4.out; have := HK2.out; omega⟩, ⟨by repeat (first | exact B2_.out | refine blk_drewN ?_ _ | refine blk_drew ?_)⟩, ⟨zb HB⟩⟩) : p := h
theorem y32 {p : Prop} (h : p := by exact ⟨(x9_2), (x8_1), (wrap64 (x8_1 + 1)), zr, zr, zr, H', ⟨by have := HK1.out; have := HK2.out; omega⟩, ⟨zb HB⟩⟩) : p := h
theorem y33 {p : Prop} (h : p := by exact ⟨(x6_1), (x7_1), (wrap64 (x8_1 + 1)), zr, zr, zr, H', ⟨by have := HK1.out; have := HK2.out; omega⟩, ⟨zb HB⟩⟩) : p := h
theorem y34 {p : Prop} (h : p := by exact ⟨_, ze, by first | exact Kd.R_nil _ _ _ _ _ | exact Kd.N_nil _ _ _ _ _ | exact Kd.V_nil _ _ _ _ _ | exact Kd.Q_nil _ _ _ _ _ | exact Kd.S_nil _ _ _ _ _, zb HB⟩) : p := h
theorem y35 {p : Prop} (h : p := by (with_reducible repeat (first | apply Kd.R_alloc | apply Kd.R_drewN | apply Kd.R_drew)); exact Kd.R_mono HO_3.out (fun _ hk => ⟨trivial, hk⟩)) : p := h
theorem y36 {p : Prop} (h : p := by rw [Ny511.out, List.length_take]; omega) : p := h
theorem y37 {p : Prop} (h : p := by exact zC ((Kd.R_reads' HO525.out).2.2)) : p := h
theorem y38 {p : Prop} (h : p := by exact zC ((Kd.R_reads' HO532.out).2.2)) : p := h
theorem y39 {p : Prop} (h : p := by exact ⟨rfl, HS6.out.setB HEH.out HT.out.1 HT.out.2 HNE.out (World.grownBy.refl _ _) HS6.out.B HER.out (Kd.R_nil _ _ _ _ _)⟩) : p := h
theorem y40 {p : Prop} (h : p := by exact (Kd.R_reads' HO525.out).2.1) : p := h
theorem y41 {p : Prop} (h : p := by exact (Kd.R_reads' HO532.out).2.1) : p := h
theorem y42 {p : Prop} (h : p := by exact zC ((Kd.C_below HR0_2.out HB.out))) : p := h
theorem y43 {p : Prop} (h : p := by exact zC ((Kd.C_below HR0.out HB.out))) : p := h
end Go.Proofs.Ytnmmkgagbfniiaa.A
end
section
namespace Go.Proofs.Ytnmmkgagbfniiaa.A
open Go.RowKit Go.Proofs.YtnmmkgagbfniiaaW.PrintWords Go.Proofs.YtnmmkgagbfniiaaW.PrintLast Go.Proofs.YtnmmkgagbfniiaaW.PrintMore
attribute [local go_sem] max2_int min2_int max_two min_two max_three min_three max_four min_four
set_option linter.unusedVariables false
set_option linter.unusedSimpArgs false
def event_appendInt.l0 : Nat → List Int → Int → Option (List Int)
 | 0, _, _ => none
 | k + 1, x0, x5 => if x5 ≥ 128 then (if x0.length < 140737488355328 then (event_appendInt.l0 k (x0 ++ [Go.bits .or .u8 ((x5) % 256) 128]) (x5 / 128)) else (none)) else (if x0.length < 140737488355328 then (some (x0 ++ [(x5) % 256])) else (none))
def event_appendInt.f (k : Nat) (l0 : List Int) (a1 : Int) : Option (List Int) := event_appendInt.l0 k l0 (Go.bits .xor .u64 (IntKind.u64.wrap ((IntKind.u64.wrap (a1)) * 2)) (IntKind.u64.wrap (a1 / 9223372036854775808)))
theorem event_appendInt.mono_l : ∀ k, (∀ y0 y1, LeO (event_appendInt.l0 k y0 y1) (event_appendInt.l0 (k + 1) y0 y1))
 | 0 => fun _ _ r h => by simp [event_appendInt.l0] at h
 | k + 1 => by
  have ih0 := event_appendInt.mono_l k
  ·
   intro y0 y1
   unfold event_appendInt.l0
   exact zM
theorem event_appendInt.mono : ∀ a0 a1 k, LeO (event_appendInt.f k a0 a1) (event_appendInt.f (k + 1) a0 a1) := by
 intro a0 a1 k
 have ih0 := event_appendInt.mono_l k
 unfold event_appendInt.f
 exact zM
set_option maxHeartbeats 8000000 in
set_option maxRecDepth 100000 in
theorem event_appendInt.calls (k : Nat) (P0_ : Nat → Prop) (u9000_ : Value) (l0 : List Int) (a1 : Int) (r : List Int) (w0 w : World) (hB : Below w0.heap.size w0 w) (ho0 : Kd.R (Kd.int .u8) 5 w w0.heap.size P0_ u9000_ l0) (h : event_appendInt.f k l0 a1 = some r) :
  Calls Try.prog 40 #[u9000_, .int .i64 a1] w fun e w' => ∃ v0_ : Value, e = .returned (v0_) ∧ Kd.R (Kd.int .u8) 5 w' w0.heap.size (fun k_ => (P0_ k_ ∨ w.heap.size ≤ k_)) v0_ r ∧ Below w0.heap.size w0 w' ∧ Kept w w' (fun k_ => P0_ k_) := by
 have HO0 := am (show Kd.R (Kd.int .u8) 5 w w0.heap.size (fun k_ => (P0_ k_ ∨ w.heap.size ≤ k_)) u9000_ l0 from Kd.R_mono ho0 (fun k_ hk => (.inl hk)))
 have HK := am (Kept.refl w (fun k_ => P0_ k_))
 have HW0 := am hB.size
 have HB := am hB
 clear hB
 have H : (event_appendInt.l0 k l0 (Go.bits .xor .u64 (IntKind.u64.wrap ((IntKind.u64.wrap (a1)) * 2)) (IntKind.u64.wrap (a1 / 9223372036854775808)))) = some r := h
 clear h
 have H' := am H
 clear H
 go_enter Try.func40, Try.ntmps40
 go_wp2
 go_loopg [0, 5] k (fun kq v0 v5 w' => ∃ (x0_1 : List Int) (x5_1 : Int), v5 = .int .u64 x5_1 ∧ Aside0 (event_appendInt.l0 kq x0_1 x5_1 = some r) ∧ Aside0 (kq ≤ k) ∧ Aside0 (Kd.R (Kd.int .u8) 5 w' w0.heap.size (fun k_ => (P0_ k_ ∨ w.heap.size ≤ k_)) v0 x0_1) ∧ Aside0 (Kept w w' (fun k_ => P0_ k_)) ∧ Aside0 (Below w0.heap.size w0 w'))
 case atStart => exact ⟨(l0), (Go.bits .xor .u64 (IntKind.u64.wrap ((IntKind.u64.wrap (a1)) * 2)) (IntKind.u64.wrap (a1 / 9223372036854775808))), zr, H', ⟨Nat.le_refl _⟩, ⟨by (with_reducible repeat (first | apply Kd.R_alloc | apply Kd.R_drewN | apply Kd.R_drew)); exact HO0.out⟩, ⟨by repeat (first | (with_reducible first | exact HK.out | apply Kept.alloc | apply Kept.drewN | apply Kept.drew) | exact HK.out)⟩, ⟨zb HB⟩⟩
 case round =>
  clear H'
  try clear p2
  obtain ⟨x0_1, x5_1, rfl, HA, HK1, HO_0, HK, HB⟩ := hrel
  cases gk with
  | zero => exact absurd HA.out (by simp [event_appendInt.l0])
  | succ k1 =>
   have H := HA.out
   clear HA
   simp only [event_appendInt.l0] at H
   by_cases c3 : x5_1 ≥ 128
   ·
    rw [if_pos c3] at H
    have c3b0 : decide (128 ≤ x5_1) = true := decide_eq_true c3
    clear c3
    by_cases c4 : x0_1.length < 140737488355328
    ·
     rw [if_pos c4] at H
     have LMc4 := am c4
     clear c4
     obtain ⟨y102, hy102⟩ : ∃ y_ : List Int, y_ = (x0_1 ++ [Go.bits .or .u8 ((x5_1) % 256) 128]) := ⟨_, rfl⟩
     replace H : (event_appendInt.l0 k1 y102 (x5_1 / 128)) = some r := by first | (rw [hy102]; with_reducible exact H) | (have H2_ := (Option.bind_some _ _).symm.trans H; rw [hy102]; with_reducible exact H2_) | (have H2_ := (Option.bind_some _ _).symm.trans H; with_reducible exact H2_) | with_reducible exact H | (rw [hy102]; exact H) | exact H
     have Ny102 := am hy102
     clear hy102
     have H' := am H
     clear H
     go_wp2_with (first | ((with_reducible refine gate_builtin (b := .append) (xs := #[.tmp 15, .tmp 19]) rfl ?_); at_builtin; refine Kd.R_append (Kd.int .u8) (w0 := w0) w0.heap.size rfl (.tmp 15) (.tmp 19) 27 5 (.int .u8 0) 1 rfl Try.underlying27 info5 rfl (by decide) (by omega) u0 x0_1 (Go.bits .or .u8 ((x5_1) % 256) 128) [.int .u8 (Go.bits .or .u8 ((x5_1) % 256) 128)] (fun k_ => (P0_ k_ ∨ w.heap.size ≤ k_)) (fun _ => False) rfl rfl ?aP (fun _ hk => hk.elim) ?aF ?aO ?aB ?aS ?aL ?_; (case aP => exact rfl); (case aB => exact (zb HB)); (case aF => exact y10); (case aO => exact (zR HO_0.out)); (case aS => exact y28); (case aL => have := LMc4.out; omega); intro v103 w5 ho hb hg hat; rw [← Ny102.out] at ho; have n0_ := am (hb); have n1_ := am (Kept.of_grown (S := (fun k_ => P0_ k_)) hg y14 (fun k_ e_ => (HO_0.out.1 k_ e_))); have n2_ := am (ho); clear HB; clear HK; clear HO_0; have HB := n0_; have HK := n1_; have HO104 := n2_; clear n0_ n1_ n2_; clear ho hb hg hat))
     go_roundg k1
     case measure => have := HK1.out; omega
     case rel => exact ⟨(y102), (x5_1 / 128), zr, H', ⟨by have := HK1.out; omega⟩, ⟨by (with_reducible repeat (first | apply Kd.R_alloc | apply Kd.R_drewN | apply Kd.R_drew)); exact HO104.out⟩, ⟨by repeat (first | (with_reducible first | exact HK.out | apply Kept.alloc | apply Kept.drewN | apply Kept.drew) | exact HK.out)⟩, ⟨zb HB⟩⟩
    ·
     rw [if_neg c4] at H
     exact absurd H (by simp)
   ·
    rw [if_neg c3] at H
    have c3b0 : decide (128 ≤ x5_1) = false := decide_eq_false c3
    clear c3
    by_cases c6 : x0_1.length < 140737488355328
    ·
     rw [if_pos c6] at H
     have LMc6 := am c6
     clear c6
     obtain ⟨y105, hy105⟩ : ∃ y_ : List Int, y_ = (x0_1 ++ [(x5_1) % 256]) := ⟨_, rfl⟩
     replace H : (some y105) = some r := by first | (rw [hy105]; with_reducible exact H) | (have H2_ := (Option.bind_some _ _).symm.trans H; rw [hy105]; with_reducible exact H2_) | (have H2_ := (Option.bind_some _ _).symm.trans H; with_reducible exact H2_) | with_reducible exact H | (rw [hy105]; exact H) | exact H
     have Ny105 := am hy105
     clear hy105
     obtain rfl := Option.some.inj H
     go_wp2_with (first | ((with_reducible refine gate_builtin (b := .append) (xs := #[.tmp 23, .tmp 26]) rfl ?_); at_builtin; refine Kd.R_append (Kd.int .u8) (w0 := w0) w0.heap.size rfl (.tmp 23) (.tmp 26) 27 5 (.int .u8 0) 1 rfl Try.underlying27 info5 rfl (by decide) (by omega) u0 x0_1 ((x5_1) % 256) [.int .u8 ((x5_1) % 256)] (fun k_ => (P0_ k_ ∨ w.heap.size ≤ k_)) (fun _ => False) rfl rfl ?aP (fun _ hk => hk.elim) ?aF ?aO ?aB ?aS ?aL ?_; (case aP => exact rfl); (case aB => exact (zb HB)); (case aF => exact y10); (case aO => exact (zR HO_0.out)); (case aS => exact y28); (case aL => have := LMc6.out; omega); intro v106 w7 ho hb hg hat; rw [← Ny105.out] at ho; have n0_ := am (hb); have n1_ := am (Kept.of_grown (S := (fun k_ => P0_ k_)) hg y14 (fun k_ e_ => (HO_0.out.1 k_ e_))); have n2_ := am (ho); clear HB; clear HK; clear HO_0; have HB := n0_; have HK := n1_; have HO107 := n2_; clear n0_ n1_ n2_; clear ho hb hg hat))
     go_ret
     exact ⟨_, ze, by (with_reducible repeat (first | apply Kd.R_alloc | apply Kd.R_drewN | apply Kd.R_drew)); exact HO107.out, zb HB, by repeat (first | (with_reducible first | exact HK.out | apply Kept.alloc | apply Kept.drewN | apply Kept.drew) | exact HK.out)⟩
    ·
     rw [if_neg c6] at H
     exact absurd H (by simp)
def event_appendList.l0 : Nat → List Int → Int → List Int → Int → Int → Option (List Int)
 | 0, _, _, _, _, _ => none
 | k + 1, x0, x5, x12, x13, x14 => if x14 < x13 then (if 0 ≤ x14 then (if x14 < (x12.length : Int) then ((event_appendInt.f k x0 (wrap64 ((rd x12 x14) - x5))).bind fun t112 => (event_appendList.l0 k t112 (rd x12 x14) x12 x13 (wrap64 (x14 + 1)))) else (none)) else (none)) else (some x0)
def event_appendList.f (k : Nat) (l0 : List Int) (l1 : List Int) : Option (List Int) := (event_appendInt.f k l0 (l1.length : Int)).bind fun t108 => (event_appendList.l0 k t108 0 l1 (l1.length : Int) 0)
theorem event_appendList.mono_l : ∀ k, (∀ y0 y1 y2 y3 y4, LeO (event_appendList.l0 k y0 y1 y2 y3 y4) (event_appendList.l0 (k + 1) y0 y1 y2 y3 y4))
 | 0 => fun _ _ _ _ _ r h => by simp [event_appendList.l0] at h
 | k + 1 => by
  have ih0 := event_appendList.mono_l k
  ·
   intro y0 y1 y2 y3 y4
   unfold event_appendList.l0
   exact zM
theorem event_appendList.mono : ∀ a0 a1 k, LeO (event_appendList.f k a0 a1) (event_appendList.f (k + 1) a0 a1) := by
 intro a0 a1 k
 have ih0 := event_appendList.mono_l k
 unfold event_appendList.f
 exact zM
set_option maxHeartbeats 8000000 in
set_option maxRecDepth 100000 in
theorem event_appendList.calls (k : Nat) (P0_ : Nat → Prop) (u9000_ : Value) (l0 : List Int) (A1 : Option Addr) (c1 : Nat) (l1 : List Int) (r : List Int) (w0 w : World) (hB : Below w0.heap.size w0 w) (ho0 : Kd.R (Kd.int .u8) 5 w w0.heap.size P0_ u9000_ l0) (hr1 : ∀ W_, Kept w W_ (fun k_ => P0_ k_) → Kd.C (Kd.int .i64) W_ A1 l1.length l1) (hc1 : l1.length ≤ c1) (h : event_appendList.f k l0 l1 = some r) :
  Calls Try.prog 41 #[u9000_, .slice A1 l1.length c1] w fun e w' => ∃ v0_ : Value, e = .returned (v0_) ∧ Kd.R (Kd.int .u8) 5 w' w0.heap.size (fun k_ => (P0_ k_ ∨ w.heap.size ≤ k_)) v0_ r ∧ Below w0.heap.size w0 w' ∧ Kept w w' (fun k_ => P0_ k_) := by
 have HO0 := am (show Kd.R (Kd.int .u8) 5 w w0.heap.size (fun k_ => (P0_ k_ ∨ w.heap.size ≤ k_)) u9000_ l0 from Kd.R_mono ho0 (fun k_ hk => (.inl hk)))
 have HR1 := am hr1
 have HC1 := am hc1
 clear hr1 hc1
 have HK := am (Kept.refl w (fun k_ => P0_ k_))
 have HW0 := am hB.size
 have HB := am hB
 clear hB
 have H : ((event_appendInt.f k l0 (l1.length : Int)).bind fun t108 => (event_appendList.l0 k t108 0 l1 (l1.length : Int) 0)) = some r := h
 clear h
 replace H := Option.bind_eq_some_iff.mp H
 obtain ⟨t108, A30, H⟩ := H
 (try dsimp only at H)
 have A3 := am A30
 clear A30
 have H' := am H
 clear H
 obtain ⟨Ao4, co4, eo4⟩ := Kd.R_slice HO0.out
 subst eo4
 go_enter Try.func41, Try.ntmps41
 go_wp2_with (first | ((with_reducible refine gate_callee (f := 40) rfl ?_); refine goesL_ (some 11) rfl rfl Try.func40 (by kernel_rfl) rfl #[.slice Ao4 l0.length co4, .int .i64 (l1.length : Int)] rfl zg ?_; (with_reducible refine (event_appendInt.calls k (fun k_ => some k_ = (.slice Ao4 l0.length co4 : Value).ownBlock) (.slice Ao4 l0.length co4) l0 (l1.length : Int) t108 w0 _ ?side1 ?side2 A3.out).mono ?_); (case side1 => exact y16); (case side2 => exact Kd.R_tight rfl HO0.out); rintro e w5 ⟨v109, rfl, ho0, hb, hkp⟩; refine ⟨_, rfl, ?_⟩; have n0_ := am (Kd.R_mono (ok' := fun k_ => (P0_ k_ ∨ w.heap.size ≤ k_)) ho0 (fun k_ hk_ => Or.elim hk_ (fun hs_ => (HO0.out.1 k_ (hs_).symm)) (fun hn_ => (.inr (Nat.le_trans y7 hn_))))); have n1_ := am (Kept.then_ (S := (fun k_ => P0_ k_)) y14 hkp (fun k_ hs_ => (fun e_ => (HO0.out.1 k_ e_.symm)) hs_)); have n2_ := am (hb); clear HK; clear HB; clear HO0; have HO110 := n0_; have HK := n1_; have HB := n2_; clear n0_ n1_ n2_; clear hb hkp ho0))
 go_loopg [0, 5, 14] k (fun kq v0 v5 v14 w' => ∃ (x0_1 : List Int) (x5_1 : Int) (x14_1 : Int), v5 = .int .i64 x5_1 ∧ v14 = .int .i64 x14_1 ∧ Aside0 (event_appendList.l0 kq x0_1 x5_1 l1 (l1.length : Int) x14_1 = some r) ∧ Aside0 (kq ≤ k) ∧ Aside0 (Kd.R (Kd.int .u8) 5 w' w0.heap.size (fun k_ => (P0_ k_ ∨ w.heap.size ≤ k_)) v0 x0_1) ∧ Aside0 (Kept w w' (fun k_ => P0_ k_)) ∧ Aside0 (Below w0.heap.size w0 w'))
 case atStart => exact ⟨(t108), (0), (0), zr, zr, H', ⟨Nat.le_refl _⟩, ⟨by (with_reducible repeat (first | apply Kd.R_alloc | apply Kd.R_drewN | apply Kd.R_drew)); exact HO110.out⟩, ⟨by repeat (first | (with_reducible first | exact HK.out | apply Kept.alloc | apply Kept.drewN | apply Kept.drew) | exact HK.out)⟩, ⟨zb HB⟩⟩
 case round =>
  clear H'
  obtain ⟨x0_1, x5_1, x14_1, rfl, rfl, HA, HK1, HO_0, HK, HB⟩ := hrel
  cases gk with
  | zero => exact absurd HA.out (by simp [event_appendList.l0])
  | succ k1 =>
   have H := HA.out
   clear HA
   simp only [event_appendList.l0] at H
   by_cases c6 : x14_1 < (l1.length : Int)
   ·
    rw [if_pos c6] at H
    have c6b0 := decide_eq_true c6
    clear c6
    by_cases c7 : 0 ≤ x14_1
    ·
     rw [if_pos c7] at H
     have c7b0 := decide_eq_true c7
     clear c7
     by_cases c8 : x14_1 < (l1.length : Int)
     ·
      rw [if_pos c8] at H
      have c8b0 := decide_eq_true c8
      clear c8
      replace H := Option.bind_eq_some_iff.mp H
      obtain ⟨t112, A90, H⟩ := H
      (try dsimp only at H)
      have A9 := am A90
      clear A90
      have H' := am H
      clear H
      have p111 : 0 ≤ (x14_1 : Int) := zo
      have q111 : x14_1 < (l1.length : Int) := zo
      obtain ⟨ad111, e111, hx111_0⟩ := Kd.at_int (Kd.C_kept_now HR1.out HK.out) x14_1 p111 q111
      cases e111
      replace p111 := eq_true p111
      replace q111 := eq_true q111
      obtain ⟨Ao10, co10, eo10⟩ := Kd.R_slice HO_0.out
      subst eo10
      go_wp2_with (first | ((with_reducible refine gate_callee (f := 40) rfl ?_); refine goesL_ (some 22) rfl rfl Try.func40 (by kernel_rfl) rfl #[.slice Ao10 x0_1.length co10, .int .i64 (wrap64 ((rd l1 x14_1) - x5_1))] rfl zg ?_; (with_reducible refine (event_appendInt.calls k1 (fun k_ => some k_ = (.slice Ao10 x0_1.length co10 : Value).ownBlock) (.slice Ao10 x0_1.length co10) x0_1 (wrap64 ((rd l1 x14_1) - x5_1)) t112 w0 _ ?side1 ?side2 A9.out).mono ?_); (case side1 => exact y16); (case side2 => exact Kd.R_tight rfl HO_0.out); rintro e w11 ⟨v113, rfl, ho0, hb, hkp⟩; refine ⟨_, rfl, ?_⟩; have n0_ := am (Kd.R_mono (ok' := fun k_ => (P0_ k_ ∨ w.heap.size ≤ k_)) ho0 (fun k_ hk_ => Or.elim hk_ (fun hs_ => (HO_0.out.1 k_ (hs_).symm)) (fun hn_ => (.inr (Nat.le_trans y7 hn_))))); have n1_ := am (Kept.then_ (S := (fun k_ => P0_ k_)) y14 hkp (fun k_ hs_ => (fun e_ => (HO_0.out.1 k_ e_.symm)) hs_)); have n2_ := am (hb); clear HK; clear HB; clear HO_0; have HO114 := n0_; have HK := n1_; have HB := n2_; clear n0_ n1_ n2_; clear hb hkp ho0))
      go_roundg k1
      case measure => have := HK1.out; omega
      case rel => exact ⟨(t112), (rd l1 x14_1), (wrap64 (x14_1 + 1)), zr, zr, H', ⟨by have := HK1.out; omega⟩, ⟨by (with_reducible repeat (first | apply Kd.R_alloc | apply Kd.R_drewN | apply Kd.R_drew)); exact HO114.out⟩, ⟨by repeat (first | (with_reducible first | exact HK.out | apply Kept.alloc | apply Kept.drewN | apply Kept.drew) | exact HK.out)⟩, ⟨zb HB⟩⟩
     ·
      rw [if_neg c8] at H
      exact absurd H (by simp)
    ·
     rw [if_neg c7] at H
     exact absurd H (by simp)
   ·
    rw [if_neg c6] at H
    have c6b0 := decide_eq_false c6
    clear c6
    obtain rfl := Option.some.inj H
    go_wp2
    go_ret
    exact ⟨_, ze, by (with_reducible repeat (first | apply Kd.R_alloc | apply Kd.R_drewN | apply Kd.R_drew)); exact HO_0.out, zb HB, by repeat (first | (with_reducible first | exact HK.out | apply Kept.alloc | apply Kept.drewN | apply Kept.drew) | exact HK.out)⟩
end Go.Proofs.Ytnmmkgagbfniiaa.A
end
section
namespace Go.Proofs.Ytnmmkgagbfniiaa.A
open Go.RowKit Go.Proofs.YtnmmkgagbfniiaaW.PrintWords Go.Proofs.YtnmmkgagbfniiaaW.PrintLast Go.Proofs.YtnmmkgagbfniiaaW.PrintMore
attribute [local go_sem] max2_int min2_int max_two min_two max_three min_three max_four min_four
set_option linter.unusedVariables false
set_option linter.unusedSimpArgs false
set_option maxHeartbeats 4000000 in
set_option maxRecDepth 100000 in
theorem event_appendInt_tight (k : Nat) (A0 : Option Addr) (l0 : List Int) (a1 : Int) (r : List Int) (w : World) (hr0 : Kd.C (Kd.int .u8) w A0 l0.length l0) (h : event_appendInt.f k l0 a1 = some r) :
  Calls Try.prog 40 #[.slice A0 l0.length l0.length, .int .i64 a1] w fun e w' => ∃ v0_ : Value, e = .returned (v0_) ∧ Kd.R (Kd.int .u8) 5 w' w.heap.size (fun _ => True) v0_ r ∧ Below w.heap.size w w' := by
 have HR := am hr0
 have HN := am (ow_none hr0)
 clear hr0
 have H' : Aside0 ((event_appendInt.l0 k l0 (Go.bits .xor .u64 (IntKind.u64.wrap ((IntKind.u64.wrap (a1)) * 2)) (IntKind.u64.wrap (a1 / 9223372036854775808)))) = some r) := ⟨h⟩
 clear h
 have HW := am (Nat.le_refl w.heap.size)
 go_enter Try.func40, Try.ntmps40
 go_wp2
 go_loopg [0, 5] k (fun kq v0 v5 w' => ∃ (x0_1 : List Int) (x5_1 : Int), v5 = .int .u64 x5_1 ∧ Aside0 (event_appendInt.l0 kq x0_1 x5_1 = some r) ∧ Aside0 (kq ≤ k) ∧ Aside0 (Below w.heap.size w w') ∧ (v0 = .slice A0 x0_1.length x0_1.length ∧ Aside0 (x0_1 = l0) ∨ Aside0 (Kd.R (Kd.int .u8) 5 w' w.heap.size (fun _ => True) v0 x0_1)))
 case atStart => exact ⟨l0, _, rfl, H', ⟨Nat.le_refl _⟩, ⟨Below.refl _ _⟩, .inl ⟨rfl, ⟨rfl⟩⟩⟩
 case round =>
  clear H'
  try clear p2
  obtain ⟨x0_1, x5_1, rfl, HA, HK1, HB, HO⟩ := hrel
  cases gk with
  | zero => exact absurd HA.out (by simp [event_appendInt.l0])
  | succ k1 =>
   have H := HA.out
   clear HA
   simp only [event_appendInt.l0] at H
   by_cases c3 : x5_1 ≥ 128
   ·
    rw [if_pos c3] at H
    have c3b0 : decide (128 ≤ x5_1) = true := decide_eq_true c3
    clear c3
    by_cases c4 : x0_1.length < 140737488355328
    ·
     rw [if_pos c4] at H
     have LM := am c4
     clear c4
     have H' := am H
     clear H
     rcases HO with ⟨rfl, HX⟩ | HO
     ·
      have HX1 := am (show Kd.C (Kd.int .u8) wr A0 x0_1.length x0_1 by rw [HX.out]; exact Kd.C_below HR.out HB.out)
      have HX2 := am (show A0 = none → x0_1 = [] by rw [HX.out]; exact HN.out)
      clear HX
      go_wp2_with (first | ((with_reducible refine gate_builtin (b := .append) (xs := #[.tmp 15, .tmp 19]) rfl ?_); at_builtin; refine ow_append_tight _ rfl (.tmp 15) (.tmp 19) 27 5 .u8 1 rfl Try.underlying27 info5 (by decide) A0 x0_1 _ rfl rfl HX1.out HX2.out ?aL ?_; (case aL => have := LM.out; omega); intro v102 w5 ho hb; have n0_ := am (below_then HB.out HB.out.size hb); have n2_ := am (Kd.R_lower ho HB.out.size); clear HB HX1 HX2; have HB := n0_; have HO := n2_; clear n0_ n2_ ho hb))
      go_roundg k1
      case measure => have := HK1.out; omega
      case rel => exact ⟨_, (x5_1 / 128), rfl, H', ⟨by have := HK1.out; omega⟩, HB, .inr HO⟩
     ·
      go_wp2_with (first | ((with_reducible refine gate_builtin (b := .append) (xs := #[.tmp 15, .tmp 19]) rfl ?_); at_builtin; refine Kd.R_append (Kd.int .u8) (w0 := w) w.heap.size rfl (.tmp 15) (.tmp 19) 27 5 (.int .u8 0) 1 rfl Try.underlying27 info5 rfl (by decide) (by omega) u0 x0_1 (Go.bits .or .u8 ((x5_1) % 256) 128) [.int .u8 (Go.bits .or .u8 ((x5_1) % 256) 128)] (fun _ => True) (fun _ => False) rfl rfl ?aP (fun _ hk => hk.elim) ?aF ?aO ?aB ?aS ?aL ?_; (case aP => exact rfl); (case aB => exact HB.out); (case aF => exact (fun _ _ => trivial)); (case aO => exact HO.out); (case aS => exact HB.out.size); (case aL => have := LM.out; omega); intro v102 w5 ho hb hg hat; replace HB := am (hb); replace HO := am (ho); clear ho hb hg hat))
      go_roundg k1
      case measure => have := HK1.out; omega
      case rel => exact ⟨_, (x5_1 / 128), rfl, H', ⟨by have := HK1.out; omega⟩, HB, .inr HO⟩
    ·
     rw [if_neg c4] at H
     exact absurd H (by simp)
   ·
    rw [if_neg c3] at H
    have c3b0 : decide (128 ≤ x5_1) = false := decide_eq_false c3
    clear c3
    by_cases c6 : x0_1.length < 140737488355328
    ·
     rw [if_pos c6] at H
     have LM := am c6
     clear c6
     obtain rfl := Option.some.inj H
     rcases HO with ⟨rfl, HX⟩ | HO
     ·
      have HX1 := am (show Kd.C (Kd.int .u8) wr A0 x0_1.length x0_1 by rw [HX.out]; exact Kd.C_below HR.out HB.out)
      have HX2 := am (show A0 = none → x0_1 = [] by rw [HX.out]; exact HN.out)
      clear HX
      go_wp2_with (first | ((with_reducible refine gate_builtin (b := .append) (xs := #[.tmp 23, .tmp 26]) rfl ?_); at_builtin; refine ow_append_tight _ rfl (.tmp 23) (.tmp 26) 27 5 .u8 1 rfl Try.underlying27 info5 (by decide) A0 x0_1 _ rfl rfl HX1.out HX2.out ?aL ?_; (case aL => have := LM.out; omega); intro v102 w5 ho hb; have n0_ := am (below_then HB.out HB.out.size hb); have n2_ := am (Kd.R_lower ho HB.out.size); clear HB HX1 HX2; have HB := n0_; have HO := n2_; clear n0_ n2_ ho hb))
      go_ret
      exact ⟨_, rfl, HO.out, HB.out⟩
     ·
      go_wp2_with (first | ((with_reducible refine gate_builtin (b := .append) (xs := #[.tmp 23, .tmp 26]) rfl ?_); at_builtin; refine Kd.R_append (Kd.int .u8) (w0 := w) w.heap.size rfl (.tmp 23) (.tmp 26) 27 5 (.int .u8 0) 1 rfl Try.underlying27 info5 rfl (by decide) (by omega) u0 x0_1 ((x5_1) % 256) [.int .u8 ((x5_1) % 256)] (fun _ => True) (fun _ => False) rfl rfl ?aP (fun _ hk => hk.elim) ?aF ?aO ?aB ?aS ?aL ?_; (case aP => exact rfl); (case aB => exact HB.out); (case aF => exact (fun _ _ => trivial)); (case aO => exact HO.out); (case aS => exact HB.out.size); (case aL => have := LM.out; omega); intro v102 w5 ho hb hg hat; replace HB := am (hb); replace HO := am (ho); clear ho hb hg hat))
      go_ret
      exact ⟨_, rfl, HO.out, HB.out⟩
    ·
     rw [if_neg c6] at H
     exact absurd H (by simp)
def event_PutInt.f (k : Nat) (l0 : List Int) (a1 : Int) : Option (List Int) := event_appendInt.f k l0 a1
theorem event_PutInt.mono : ∀ a0 a1 k, LeO (event_PutInt.f k a0 a1) (event_PutInt.f (k + 1) a0 a1) := event_appendInt.mono
set_option maxHeartbeats 1000000 in
set_option maxRecDepth 100000 in
theorem event_PutInt.calls (k : Nat) (A0 : Option Addr) (c0 : Nat) (l0 : List Int) (a1 : Int) (r : List Int) (w : World) (hr0 : Kd.C (Kd.int .u8) w A0 l0.length l0) (hc0 : l0.length ≤ c0) (h : event_PutInt.f k l0 a1 = some r) :
  Calls Try.prog 49 #[.slice A0 l0.length c0, .int .i64 a1] w fun e w' => ∃ v0_ : Value, e = .returned (v0_) ∧ Kd.R (Kd.int .u8) 5 w' w.heap.size (fun _ => True) v0_ r ∧ Below w.heap.size w w' := by
 have HC := am (event_appendInt_tight k A0 l0 a1 r w hr0 h)
 have HN := am (ow_none hr0)
 clear hr0 h
 go_enter Try.func49, Try.ntmps49
 go_wp2_with (go_at_call 40; refine HC.out.mono ?_; rintro e w' ⟨v, rfl, ho, hb⟩; have HO := am ho; have HB := am hb; clear ho hb)
 go_ret
 exact ⟨_, rfl, HO.out, HB.out⟩
end Go.Proofs.Ytnmmkgagbfniiaa.A
end
section
namespace Go.Proofs.Ytnmmkgagbfniiaa.A
open Go.RowKit Go.Proofs.YtnmmkgagbfniiaaW.PrintWords Go.Proofs.YtnmmkgagbfniiaaW.PrintLast Go.Proofs.YtnmmkgagbfniiaaW.PrintMore
attribute [local go_sem] max2_int min2_int max_two min_two max_three min_three max_four min_four
set_option linter.unusedVariables false
set_option linter.unusedSimpArgs false
def event_Append.f (k : Nat) (l0 : List Int) (a1_0 : Int) (a1_1 : Int) (a1_2 : Int) (a1_3 : Int) (a1_4 : Int) (a1_5 : Int) (l1_6 : List Int) (l1_7 : List Int) (a2 : Int) : Option (List Int) :=
 (event_appendInt.f k l0 (wrap64 (a1_0 - a2))).bind fun t1 => (event_appendInt.f k t1 a1_2).bind fun t2 => (event_appendInt.f k t2 a1_3).bind fun t3 => (event_appendInt.f k t3 a1_4).bind fun t4 => (event_appendInt.f k t4 a1_5).bind fun t5 => (event_appendList.f k t5 l1_6).bind fun t6 => event_appendList.f k t6 l1_7
theorem event_Append.mono : ∀ a0 a1 a2 a3 a4 a5 a6 a7 a8 a9 k, LeO (event_Append.f k a0 a1 a2 a3 a4 a5 a6 a7 a8 a9) (event_Append.f (k + 1) a0 a1 a2 a3 a4 a5 a6 a7 a8 a9) := by
 intro a0 a1 a2 a3 a4 a5 a6 a7 a8 a9 k
 unfold event_Append.f
 exact LeO.bind (event_appendInt.mono _ _ _) fun _ => LeO.bind (event_appendInt.mono _ _ _) fun _ => LeO.bind (event_appendInt.mono _ _ _) fun _ => LeO.bind (event_appendInt.mono _ _ _) fun _ => LeO.bind (event_appendInt.mono _ _ _) fun _ => LeO.bind (event_appendList.mono _ _ _) fun _ => event_appendList.mono _ _ _
set_option maxHeartbeats 4000000 in
set_option maxRecDepth 100000 in
theorem event_Append.calls (k : Nat) (A0 : Option Addr) (c0 : Nat) (l0 : List Int) (a1_0 : Int) (a1_1 : Int) (a1_2 : Int) (a1_3 : Int) (a1_4 : Int) (a1_5 : Int) (A1_6 : Option Addr) (c1_6 : Nat) (l1_6 : List Int) (A1_7 : Option Addr) (c1_7 : Nat) (l1_7 : List Int) (a2 : Int) (r : List Int) (w : World) (hr0 : Kd.C (Kd.int .u8) w A0 l0.length l0) (hc0 : l0.length ≤ c0) (hr1_6 : Kd.C (Kd.int .i64) w A1_6 l1_6.length l1_6) (hc1_6 : l1_6.length ≤ c1_6) (hr1_7 : Kd.C (Kd.int .i64) w A1_7 l1_7.length l1_7) (hc1_7 : l1_7.length ≤ c1_7) (h : event_Append.f k l0 a1_0 a1_1 a1_2 a1_3 a1_4 a1_5 l1_6 l1_7 a2 = some r) :
  Calls Try.prog 12 #[.slice A0 l0.length c0, .agg #[.int .i64 a1_0, .int .i64 a1_1, .int .i64 a1_2, .int .i64 a1_3, .int .i64 a1_4, .int .i64 a1_5, .slice A1_6 l1_6.length c1_6, .slice A1_7 l1_7.length c1_7], .int .i64 a2] w fun e w' => ∃ v0_ : Value, e = .returned (v0_) ∧ Kd.R (Kd.int .u8) 5 w' w.heap.size (fun _ => True) v0_ r ∧ Below w.heap.size w w' := by
 obtain ⟨t1, h1, h⟩ := Option.bind_eq_some_iff.mp h
 obtain ⟨t2, h2, h⟩ := Option.bind_eq_some_iff.mp h
 obtain ⟨t3, h3, h⟩ := Option.bind_eq_some_iff.mp h
 obtain ⟨t4, h4, h⟩ := Option.bind_eq_some_iff.mp h
 obtain ⟨t5, h5, h⟩ := Option.bind_eq_some_iff.mp h
 obtain ⟨t6, h6, h7⟩ := Option.bind_eq_some_iff.mp h
 have HT0 := am h1
 obtain ⟨ns, hns⟩ : ∃ f : Nat → Int, f = fun j => [wrap64 (a1_0 - a2), a1_2, a1_3, a1_4, a1_5].getD j 0 := ⟨_, rfl⟩
 obtain ⟨ts, hts⟩ : ∃ f : Nat → List Int, f = fun j => [l0, t1, t2, t3, t4, t5].getD j [] := ⟨_, rfl⟩
 have HT := am (show ∀ j, j < 5 → event_appendInt.f k (ts j) (ns j) = some (ts (j + 1)) by
  subst hns hts
  intro j hj
  match j, hj with
  | 0, _ => exact h1
  | 1, _ => exact h2
  | 2, _ => exact h3
  | 3, _ => exact h4
  | 4, _ => exact h5)
 have HR0 := am hr0
 have HN0 := am (ow_none hr0)
 have HR6 := am hr1_6
 have HC6 := am hc1_6
 have HR7 := am hr1_7
 have HC7 := am hc1_7
 have HT6 := am h6
 have HT7 := am h7
 have HT5 := am (show ts 5 = t5 by rw [hts]; rfl)
 have HTZ := am (show ts 0 = l0 by rw [hts]; rfl)
 have HNS := am hns
 clear hr0 hr1_6 hc1_6 hr1_7 hc1_7 h h1 h2 h3 h4 h5 h6 h7 hts hns HT0
 go_enter Try.func12, Try.ntmps12
 go_wp2
 obtain ⟨W3, hW3⟩ : ∃ W3 : World, W3 = ((w.alloc (.cells #[.int .i64 a1_0, .int .i64 a1_1, .int .i64 a1_2, .int .i64 a1_3, .int .i64 a1_4, .int .i64 a1_5, .slice A1_6 l1_6.length c1_6, .slice A1_7 l1_7.length c1_7] 26)).alloc (.cells #[.int .i64 a1_1, .int .i64 a1_2, .int .i64 a1_3, .int .i64 a1_4, .int .i64 a1_5, .slice A1_6 l1_6.length c1_6, .slice A1_7 l1_7.length c1_7] 24)).alloc (.cells #[.int .i64 (wrap64 (a1_0 - a2)), .int .i64 a1_2, .int .i64 a1_3, .int .i64 a1_4, .int .i64 a1_5] 2) := ⟨_, rfl⟩
 rw [← hW3]
 have HZ := am (show W3.heap.size = w.heap.size + 3 by rw [hW3]; simp)
 have HB0 := am (show Below w.heap.size w W3 by rw [hW3]; exact below_alloc (below_alloc (below_alloc (Below.refl _ _) _) _) _)
 have HE := am (show ∀ j, j < 5 → W3.cell? ⟨w.heap.size + 1 + 1, j, none⟩ = some (.int .i64 (ns j)) by
  intro j hj
  rw [hW3]
  have := World.cell?_alloc_mark ((w.alloc (.cells #[.int .i64 a1_0, .int .i64 a1_1, .int .i64 a1_2, .int .i64 a1_3, .int .i64 a1_4, .int .i64 a1_5, .slice A1_6 l1_6.length c1_6, .slice A1_7 l1_7.length c1_7] 26)).alloc (.cells #[.int .i64 a1_1, .int .i64 a1_2, .int .i64 a1_3, .int .i64 a1_4, .int .i64 a1_5, .slice A1_6 l1_6.length c1_6, .slice A1_7 l1_7.length c1_7] 24)) #[.int .i64 (wrap64 (a1_0 - a2)), .int .i64 a1_2, .int .i64 a1_3, .int .i64 a1_4, .int .i64 a1_5] 2 (0, 0) j
  rw [show ((w.alloc (.cells #[.int .i64 a1_0, .int .i64 a1_1, .int .i64 a1_2, .int .i64 a1_3, .int .i64 a1_4, .int .i64 a1_5, .slice A1_6 l1_6.length c1_6, .slice A1_7 l1_7.length c1_7] 26)).alloc (.cells #[.int .i64 a1_1, .int .i64 a1_2, .int .i64 a1_3, .int .i64 a1_4, .int .i64 a1_5, .slice A1_6 l1_6.length c1_6, .slice A1_7 l1_7.length c1_7] 24)).heap.size = w.heap.size + 1 + 1 by simp] at this
  rw [this, HNS.out]
  match j, hj with
  | 0, _ => rfl
  | 1, _ => rfl
  | 2, _ => rfl
  | 3, _ => rfl
  | 4, _ => rfl)
 have HD := am (show W3.cell? ⟨w.heap.size + 1, 5, none⟩ = some (.slice A1_6 l1_6.length c1_6) ∧ W3.cell? ⟨w.heap.size + 1, 6, none⟩ = some (.slice A1_7 l1_7.length c1_7) by
  have key := World.cell?_alloc_mark (w.alloc (.cells #[.int .i64 a1_0, .int .i64 a1_1, .int .i64 a1_2, .int .i64 a1_3, .int .i64 a1_4, .int .i64 a1_5, .slice A1_6 l1_6.length c1_6, .slice A1_7 l1_7.length c1_7] 26)) #[.int .i64 a1_1, .int .i64 a1_2, .int .i64 a1_3, .int .i64 a1_4, .int .i64 a1_5, .slice A1_6 l1_6.length c1_6, .slice A1_7 l1_7.length c1_7] 24 (0, 0)
  rw [show (w.alloc (.cells #[.int .i64 a1_0, .int .i64 a1_1, .int .i64 a1_2, .int .i64 a1_3, .int .i64 a1_4, .int .i64 a1_5, .slice A1_6 l1_6.length c1_6, .slice A1_7 l1_7.length c1_7] 26)).heap.size = w.heap.size + 1 by simp] at key
  rw [hW3]
  exact ⟨pw_cell_below (below_alloc (Below.refl _ _) _) (key 5), pw_cell_below (below_alloc (Below.refl _ _) _) (key 6)⟩)
 clear hW3
 go_loopw [8, 33] (fun v i wr => ∃ j : Nat, j ≤ 5 ∧ i = .int .i64 j ∧ Aside0 (Below W3.heap.size W3 wr) ∧ (v = .slice A0 l0.length l0.length ∧ Aside0 (j = 0) ∨ Aside0 (0 < j ∧ Kd.R (Kd.int .u8) 5 wr W3.heap.size (fun k_ => W3.heap.size ≤ k_) v (ts j)))) (fun _ i _ => 5 - (intOf i).toNat)
 case atStart => exact ⟨0, by omega, rfl, ⟨Below.refl _ _⟩, .inl ⟨rfl, ⟨rfl⟩⟩⟩
 case round =>
  obtain ⟨j, hj, rfl, HB, HO⟩ := hrel
  by_cases hlt : j < 5
  ·
   have hcell : wr.cell? ⟨w.heap.size + 1 + 1, j, none⟩ = some (.int .i64 (ns j)) := (HB.out.cell (p := ⟨w.heap.size + 1 + 1, j, none⟩) (by have := HZ.out; show _ < _; simp; omega)).trans (HE.out j hlt)
   have HTj := am (HT.out j hlt)
   rcases HO with ⟨rfl, HJ⟩ | HO
   ·
    have HX := am (show Kd.C (Kd.int .u8) wr A0 l0.length l0 from Kd.C_below (Kd.C_below HR0.out HB0.out) HB.out)
    have HTq := am (show event_appendInt.f k l0 (ns j) = some (ts (j + 1)) by have := HTj.out; rw [HJ.out, HTZ.out] at this; rw [HJ.out]; exact this)
    go_wp2_with (go_at_call 40; refine (event_appendInt_tight k A0 l0 (ns j) (ts (j + 1)) _ HX.out HTq.out).mono ?_; rintro e w5 ⟨v5, rfl, ho, hb⟩; have HO1 := am (Kd.R_mono (ok' := fun k_ => W3.heap.size ≤ k_) (Kd.R_bound (Kd.R_lower ho HB.out.size)) (fun _ hk => hk.2.1)); have HB1 := am (below_then HB.out HB.out.size hb); clear ho hb)
    go_roundw
    case rel => exact ⟨j + 1, by omega, by go_num, HB1, .inr ⟨by omega, HO1.out⟩⟩
    case measure => simp [intOf]; omega
   ·
    have HO' := am HO.out.2
    clear HO
    obtain ⟨Ao, co, eo⟩ := Kd.R_slice HO'.out
    subst eo
    go_wp2_with (go_at_call 40; refine (event_appendInt.calls k (fun k_ => W3.heap.size ≤ k_) (.slice Ao (ts j).length co) (ts j) (ns j) (ts (j + 1)) W3 _ HB.out HO'.out HTj.out).mono ?_; rintro e w5 ⟨v5, rfl, ho, hb, hkp⟩; have HO1 := am (Kd.R_mono (ok' := fun k_ => W3.heap.size ≤ k_) (Kd.R_bound ho) (fun _ hk => hk.2.1)); have HB1 := am hb; clear ho hb hkp)
    go_roundw
    case rel => exact ⟨j + 1, by omega, by go_num, HB1, .inr ⟨by omega, HO1.out⟩⟩
    case measure => simp [intOf]; omega
  ·
   obtain rfl : j = 5 := by omega
   rcases HO with ⟨rfl, HJ⟩ | HO
   ·
    exact absurd HJ.out (by omega)
   ·
    have HO' := am (show Kd.R (Kd.int .u8) 5 wr W3.heap.size (fun k_ => W3.heap.size ≤ k_) u8 t5 by rw [← HT5.out]; exact HO.out.2)
    clear HO
    obtain ⟨Ao, co, eo⟩ := Kd.R_slice HO'.out
    subst eo
    have HS := am (show ∀ w', Below W3.heap.size W3 w' → w'.cell? ⟨w.heap.size + 1, 5, none⟩ = some (.slice A1_6 l1_6.length c1_6) ∧ w'.cell? ⟨w.heap.size + 1, 6, none⟩ = some (.slice A1_7 l1_7.length c1_7) from fun w' hb => ⟨(hb.cell (p := ⟨w.heap.size + 1, 5, none⟩) (by have := HZ.out; show _ < _; simp; omega)).trans HD.out.1, (hb.cell (p := ⟨w.heap.size + 1, 6, none⟩) (by have := HZ.out; show _ < _; simp; omega)).trans HD.out.2⟩)
    have HQ6 := am (show ∀ wx W_ : World, Below W3.heap.size W3 wx → Kept wx W_ (fun k_ => W3.heap.size ≤ k_) → Kd.C (Kd.int .i64) W_ A1_6 l1_6.length l1_6 from fun wx W_ hb hk => Kd.C_kept_came (Kd.heap_int .i64) (Kd.C_below HR6.out HB0.out) hb (fun _ h => h) W_ hk)
    have HQ7 := am (show ∀ wx W_ : World, Below W3.heap.size W3 wx → Kept wx W_ (fun k_ => W3.heap.size ≤ k_) → Kd.C (Kd.int .i64) W_ A1_7 l1_7.length l1_7 from fun wx W_ hb hk => Kd.C_kept_came (Kd.heap_int .i64) (Kd.C_below HR7.out HB0.out) hb (fun _ h => h) W_ hk)
    go_wp2
    go_region_held3 (fun w' => w'.cell? ⟨w.heap.size + 1, 5, none⟩ = some (.slice A1_6 l1_6.length c1_6) ∧ w'.cell? ⟨w.heap.size + 1, 6, none⟩ = some (.slice A1_7 l1_7.length c1_7)) (exact HS.out _ (by repeat (first | exact HB2.out | exact HB1.out | exact HB.out | apply below_drew1 | apply pw_below_drewN))) (first | (go_at_call 41; refine (event_appendList.calls k (fun k_ => W3.heap.size ≤ k_) (.slice Ao t5.length co) t5 A1_6 c1_6 l1_6 t6 W3 _ ?s1 ?s2 ?s3 HC6.out HT6.out).mono ?_; (case s1 => repeat (first | exact HB.out | apply below_drew1 | apply pw_below_drewN)); (case s2 => repeat (first | exact HO'.out | apply Kd.R_drewN | apply Kd.R_drew)); (case s3 => exact fun W_ hk => HQ6.out _ W_ (by repeat (first | exact HB.out | apply below_drew1 | apply pw_below_drewN)) hk); rintro e w5 ⟨v5, rfl, ho, hb, hkp⟩; have HO1 := am (Kd.R_mono (ok' := fun k_ => W3.heap.size ≤ k_) (Kd.R_bound ho) (fun _ hk => hk.2.1)); have HB1 := am hb; clear ho hb hkp HT6) | (go_at_call 41; refine (event_appendList.calls k (fun k_ => W3.heap.size ≤ k_) _ t6 A1_7 c1_7 l1_7 r W3 _ ?s1 ?s2 ?s3 HC7.out HT7.out).mono ?_; (case s1 => repeat (first | exact HB1.out | apply below_drew1 | apply pw_below_drewN)); (case s2 => repeat (first | exact HO1.out | apply Kd.R_drewN | apply Kd.R_drew)); (case s3 => exact fun W_ hk => HQ7.out _ W_ (by repeat (first | exact HB1.out | apply below_drew1 | apply pw_below_drewN)) hk); rintro e w6 ⟨v6, rfl, ho, hb, hkp⟩; have HO2 := am (Kd.R_mono (ok' := fun k_ => W3.heap.size ≤ k_) (Kd.R_bound ho) (fun _ hk => hk.2.1)); have HB2 := am hb; clear ho hb hkp))
    all_goals
     go_wp2
     go_ret
     exact ⟨_, rfl, Kd.R_mono (Kd.R_lower HO2.out HB0.out.size) (fun _ _ => trivial), below_then HB0.out HB0.out.size HB2.out⟩
mutual
def block_check.j0 : Nat → Bool → Int → Int → List (S26) → Option (Int)
 | 0, _, _, _, _ => none
 | k + 1, x33, x303000, x303001, x303002 => if x33 = true then (some 1) else (block_check.l0 k (-1) x303002 (x303002.length : Int) 0 x303000 x303001 x303002)
def block_check.l0 : Nat → Int → List (S26) → Int → Int → Int → Int → List (S26) → Option (Int)
 | 0, _, _, _, _, _, _, _ => none
 | k + 1, x3, x35, x36, x37, x303000, x303001, x303002 => if x37 < x36 then (if 0 ≤ x37 then (if x37 < (x35.length : Int) then (if ((rd_T26 x35 x37).f1.f0) = x303000 then (if ((rd_T26 x35 x37).f0) ≤ x3 then (some 1) else (if (((rd_T26 x35 x37).f1.f5).length : Int) > 400 then (some 1) else (if (((rd_T26 x35 x37).f1.f6).length : Int) > 400 then (some 1) else (block_check.l0 k ((rd_T26 x35 x37).f0) x35 x36 (wrap64 (x37 + 1)) x303000 x303001 x303002)))) else (some 1)) else (none)) else (none)) else (some 0)
end
def block_check.f (k : Nat) (a0_0 : Int) (a0_1 : Int) (l0_2 : List (S26)) : Option (Int) := if (l0_2.length : Int) > 64 then (some 2) else (if (l0_2.length : Int) = 0 then (block_check.j0 k true a0_0 a0_1 l0_2) else (if a0_0 < 0 then (block_check.j0 k true a0_0 a0_1 l0_2) else (if a0_0 ≥ 4 then (block_check.j0 k true a0_0 a0_1 l0_2) else (if a0_1 < 0 then (block_check.j0 k true a0_0 a0_1 l0_2) else (block_check.j0 k (decide (a0_1 > 400)) a0_0 a0_1 l0_2)))))
theorem block_check.mono_l : ∀ k, (∀ y0 y1 y2 y3, LeO (block_check.j0 k y0 y1 y2 y3) (block_check.j0 (k + 1) y0 y1 y2 y3)) ∧ (∀ y0 y1 y2 y3 y4 y5 y6, LeO (block_check.l0 k y0 y1 y2 y3 y4 y5 y6) (block_check.l0 (k + 1) y0 y1 y2 y3 y4 y5 y6))
 | 0 => ⟨fun _ _ _ _ r h => by simp [block_check.j0] at h, fun _ _ _ _ _ _ _ r h => by simp [block_check.l0] at h⟩
 | k + 1 => by
  obtain ⟨ih0, ih1⟩ := block_check.mono_l k
  refine ⟨?_, ?_⟩
  ·
   intro y0 y1 y2 y3
   unfold block_check.j0
   exact zM
  ·
   intro y0 y1 y2 y3 y4 y5 y6
   unfold block_check.l0
   exact zM
theorem block_check.mono : ∀ a0 a1 a2 k, LeO (block_check.f k a0 a1 a2) (block_check.f (k + 1) a0 a1 a2) := by
 intro a0 a1 a2 k
 obtain ⟨ih0, ih1⟩ := block_check.mono_l k
 unfold block_check.f
 exact zM
set_option maxHeartbeats 8000000 in
set_option maxRecDepth 100000 in
theorem block_check.calls (k : Nat) (a0_0 : Int) (a0_1 : Int) (A0_2 : Option Addr) (c0_2 : Nat) (l0_2 : List (S26)) (r : Int) (w : World) (hr0_2 : Kd.C k26 w A0_2 l0_2.length l0_2) (hc0_2 : l0_2.length ≤ c0_2) (h : block_check.f k a0_0 a0_1 l0_2 = some r) :
  Calls Try.prog 50 #[.agg #[.int .i64 a0_0, .int .i64 a0_1, .slice A0_2 l0_2.length c0_2]] w fun e w' => e = .returned (.int .i64 r) ∧ Below w.heap.size w w' := by
 have hu42 := Try.underlying42
 have hu26 := Try.underlying26
 have HR0_2 := am hr0_2
 have HC0_2 := am hc0_2
 clear hr0_2 hc0_2
 have HB := am (Below.refl w.heap.size w)
 have H : (if (l0_2.length : Int) > 64 then (some 2) else (if (l0_2.length : Int) = 0 then (block_check.j0 k true a0_0 a0_1 l0_2) else (if a0_0 < 0 then (block_check.j0 k true a0_0 a0_1 l0_2) else (if a0_0 ≥ 4 then (block_check.j0 k true a0_0 a0_1 l0_2) else (if a0_1 < 0 then (block_check.j0 k true a0_0 a0_1 l0_2) else (block_check.j0 k (decide (a0_1 > 400)) a0_0 a0_1 l0_2)))))) = some r := h
 clear h
 by_cases c2 : (l0_2.length : Int) > 64
 ·
  rw [if_pos c2] at H
  have c2b0 : decide (64 < (l0_2.length : Int)) = true := decide_eq_true c2
  have c2b1 : decide (64 < l0_2.length) = true := decide_eq_true (by omega)
  clear c2
  obtain rfl := Option.some.inj H
  go_enter Try.func50, Try.ntmps50
  go_wp2_with (first | ((with_reducible refine gate_dst (N := 1) rfl ?_); (try (refine gate_guard (by rfl) ?_; dsimp only)); refine zB 1 #[.int .i64 a0_0, .int .i64 a0_1, .slice A0_2 l0_2.length c0_2] 42 ?_; intro gb302 hg w3 hbox hb; have BK302 := am (hbox); have GE302 := zG hg (zb HB); replace HB := am (below_step (zb HB) hb); clear hb hbox hg; obtain ⟨hcz4_0, hcz4_1, hcz4_2⟩ := zc3 BK302; obtain ⟨hfz4_0, hfz4_1, hfz4_2⟩ := zf3 BK302))
  go_ret
  exact ⟨ze, zb HB⟩
 ·
  rw [if_neg c2] at H
  have c2b0 : decide (64 < (l0_2.length : Int)) = false := decide_eq_false c2
  have c2b1 : decide (64 < l0_2.length) = false := decide_eq_false (by omega)
  clear c2
  have HC5 := am H
  clear H
  go_enter Try.func50, Try.ntmps50
  go_upto_region 3 with (first | ((with_reducible refine gate_dst (N := 1) rfl ?_); (try (refine gate_guard (by rfl) ?_; dsimp only)); refine zB 1 #[.int .i64 a0_0, .int .i64 a0_1, .slice A0_2 l0_2.length c0_2] 42 ?_; intro gb302 hg w6 hbox hb; have BK302 := am (hbox); have GE302 := zG hg (zb HB); replace HB := am (below_step (zb HB) hb); clear hb hbox hg; obtain ⟨hcz7_0, hcz7_1, hcz7_2⟩ := zc3 BK302; obtain ⟨hfz7_0, hfz7_1, hfz7_2⟩ := zf3 BK302))
  (try simp only [Act.put, List.setIfInBounds_toArray, List.set_cons_zero, List.set_cons_succ])
  go_cut [33] (fun v33 wc => ∃ (kq : Nat) (x33_4 : Bool), v33 = .bool x33_4 ∧ Aside0 (block_check.j0 kq x33_4 a0_0 a0_1 l0_2 = some r) ∧ Aside0 (kq ≤ k) ∧ Aside0 (wc.heap[gb302]? = some (.cells #[.int .i64 a0_0, .int .i64 a0_1, (.slice A0_2 l0_2.length c0_2)] 42 (0, 0))) ∧ Aside0 (Below w.heap.size w wc))
  case first =>
   have H := HC5.out
   clear HC5
   by_cases c8 : (l0_2.length : Int) = 0
   ·
    rw [if_pos c8] at H
    obtain ⟨c8b0, c8b1⟩ := zt c8
    clear c8
    (first | rw [c8b0] | (simp only [i64_w, i32_w]; rw [c8b0]) | skip)
    have H' := am H
    clear H
    obtain ⟨hcz9_0, hcz9_1, hcz9_2⟩ := zc3 BK302
    obtain ⟨hfz9_0, hfz9_1, hfz9_2⟩ := zf3 BK302
    go_wp2
    go_meet
    case rel => exact y26
   ·
    rw [if_neg c8] at H
    obtain ⟨c8b0, c8b1⟩ := zs c8
    have c8b2 : ¬ (l0_2 = []) := fun h_ => c8 (by rw [h_]; rfl)
    (first | rw [c8b0] | (simp only [i64_w, i32_w]; rw [c8b0]) | skip)
    by_cases c10 : a0_0 < 0
    ·
     rw [if_pos c10] at H
     have c10b0 := decide_eq_true c10
     clear c10
     have H' := am H
     clear H
     obtain ⟨hcz11_0, hcz11_1, hcz11_2⟩ := zc3 BK302
     obtain ⟨hfz11_0, hfz11_1, hfz11_2⟩ := zf3 BK302
     go_wp2
     go_meet
     case rel => exact y26
    ·
     rw [if_neg c10] at H
     have c10b0 := decide_eq_false c10
     clear c10
     by_cases c12 : a0_0 ≥ 4
     ·
      rw [if_pos c12] at H
      have c12b0 : decide (4 ≤ a0_0) = true := decide_eq_true c12
      clear c12
      have H' := am H
      clear H
      obtain ⟨hcz13_0, hcz13_1, hcz13_2⟩ := zc3 BK302
      obtain ⟨hfz13_0, hfz13_1, hfz13_2⟩ := zf3 BK302
      go_wp2
      go_meet
      case rel => exact y26
     ·
      rw [if_neg c12] at H
      have c12b0 : decide (4 ≤ a0_0) = false := decide_eq_false c12
      clear c12
      by_cases c14 : a0_1 < 0
      ·
       rw [if_pos c14] at H
       have c14b0 := decide_eq_true c14
       clear c14
       have H' := am H
       clear H
       obtain ⟨hcz15_0, hcz15_1, hcz15_2⟩ := zc3 BK302
       obtain ⟨hfz15_0, hfz15_1, hfz15_2⟩ := zf3 BK302
       go_wp2
       go_meet
       case rel => exact y26
      ·
       rw [if_neg c14] at H
       have c14b0 := decide_eq_false c14
       clear c14
       have H' := am H
       clear H
       obtain ⟨hcz16_0, hcz16_1, hcz16_2⟩ := zc3 BK302
       obtain ⟨hfz16_0, hfz16_1, hfz16_2⟩ := zf3 BK302
       go_wp2
       go_meet
       case rel => exact ⟨_, (decide (a0_1 > 400)), zr, H', ⟨by first | omega | exact Nat.le_refl _⟩, ⟨by refine zu ?_; exact BK302.out⟩, ⟨zb HB⟩⟩
  case rest =>
   clear HC5
   obtain ⟨kq, x33_4, rfl, HA, HJ4, BK302, HB⟩ := hcut
   cases kq with
   | zero => exact absurd HA.out (by simp [block_check.j0])
   | succ kj4 =>
    have H := HA.out
    clear HA
    simp only [block_check.j0] at H
    by_cases c17 : x33_4 = true
    ·
     subst c17
     have H1 : (some 1) = some r := by rw [if_pos rfl] at H; exact H
     clear H
     have H := H1
     clear H1
     obtain rfl := Option.some.inj H
     go_wp2
     go_ret
     exact ⟨ze, zb HB⟩
    ·
     replace c17 := Bool.eq_false_iff.mpr c17
     subst c17
     have H1 : (block_check.l0 kj4 (-1) l0_2 (l0_2.length : Int) 0 a0_0 a0_1 l0_2) = some r := by rw [if_neg (show ¬ (false = true) by decide)] at H; exact H
     clear H
     have H := H1
     clear H1
     have H' := am H
     clear H
     obtain ⟨hcz18_0, hcz18_1, hcz18_2⟩ := zc3 BK302
     obtain ⟨hfz18_0, hfz18_1, hfz18_2⟩ := zf3 BK302
     go_wp2
     go_loopg [3, 37] kj4 (fun kq v3 v37 w' => ∃ (x3_2 : Int) (x37_2 : Int), v3 = .int .i64 x3_2 ∧ v37 = .int .i64 x37_2 ∧ Aside0 (block_check.l0 kq x3_2 l0_2 (l0_2.length : Int) x37_2 a0_0 a0_1 l0_2 = some r) ∧ Aside0 (kq ≤ kj4) ∧ Aside0 (w'.heap[gb302]? = some (.cells #[.int .i64 a0_0, .int .i64 a0_1, (.slice A0_2 l0_2.length c0_2)] 42 (0, 0))) ∧ Aside0 (Below w.heap.size w w'))
     case atStart => exact ⟨((-1)), (0), zr, zr, H', ⟨Nat.le_refl _⟩, ⟨by refine zu ?_; exact BK302.out⟩, ⟨zb HB⟩⟩
     case round =>
      clear H'
      obtain ⟨x3_2, x37_2, rfl, rfl, HA, HK2, BK302, HB⟩ := hrel
      cases gk with
      | zero => exact absurd HA.out (by simp [block_check.l0])
      | succ k2 =>
       have H := HA.out
       clear HA
       simp only [block_check.l0] at H
       by_cases c19 : x37_2 < (l0_2.length : Int)
       ·
        rw [if_pos c19] at H
        have c19b0 := decide_eq_true c19
        clear c19
        by_cases c20 : 0 ≤ x37_2
        ·
         rw [if_pos c20] at H
         have c20b0 := decide_eq_true c20
         clear c20
         by_cases c21 : x37_2 < (l0_2.length : Int)
         ·
          rw [if_pos c21] at H
          have c21b0 := decide_eq_true c21
          clear c21
          by_cases c22 : ((rd_T26 l0_2 x37_2).f1.f0) = a0_0
          ·
           rw [if_pos c22] at H
           obtain ⟨c22b0, c22b1⟩ := zt c22
           clear c22
           by_cases c23 : ((rd_T26 l0_2 x37_2).f0) ≤ x3_2
           ·
            rw [if_pos c23] at H
            have c23b0 := decide_eq_true c23
            clear c23
            obtain rfl := Option.some.inj H
            have p303 : 0 ≤ (x37_2 : Int) := zo
            have q303 : x37_2 < (l0_2.length : Int) := zo
            obtain ⟨ad303, A303_6, c303_6, A303_7, c303_7, e303, hx303_0, hx303_1, hx303_2, hx303_3, hx303_4, hx303_5, hx303_6, hx303_7, hl303_6, hi303_6, hl303_7, hi303_7⟩ := at_T26 HR0_2.out x37_2 p303 q303
            cases e303
            replace hx303_0 := zx HB hx303_0
            replace hx303_1 := zx HB hx303_1
            replace hx303_2 := zx HB hx303_2
            replace hx303_3 := zx HB hx303_3
            replace hx303_4 := zx HB hx303_4
            replace hx303_5 := zx HB hx303_5
            replace hx303_6 := zx HB hx303_6
            replace hx303_7 := zx HB hx303_7
            have HR303_6 := am hi303_6
            have HC303_6 := am hl303_6
            clear hi303_6 hl303_6
            have HR303_7 := am hi303_7
            have HC303_7 := am hl303_7
            clear hi303_7 hl303_7
            replace p303 := eq_true p303
            replace q303 := eq_true q303
            go_wp2_with (first | ((with_reducible refine gate_dst (N := 5) rfl ?_); (try (refine gate_guard (by rfl) ?_; dsimp only)); refine zB 5 #[.int .i64 0, .int .i64 0, .int .i64 0, .int .i64 0, .int .i64 0, .int .i64 0, .slice none 0 0, .slice none 0 0] 26 ?_; intro gb304 hg w24 hbox hb; have BK304 := am (hbox); have GE304 := zG hg (zb HB); replace HB := am (below_step (zb HB) hb); have NB302_304 := zn hg BK302; have NB304_302 := zm hg BK302; replace BK302 := zk BK302 hb; clear hb hbox hg; have hnb25 := NB304_302.out; have hnc25 := NB302_304.out; obtain ⟨_, _, _, _, _, _, _, _, _, _, _, _, _, _, _, _⟩ := zq8 BK304; obtain ⟨_, _, _, _, _, _⟩ := zq3 BK302))
            go_ret
            exact ⟨ze, zb HB⟩
           ·
            rw [if_neg c23] at H
            have c23b0 := decide_eq_false c23
            clear c23
            by_cases c28 : (((rd_T26 l0_2 x37_2).f1.f5).length : Int) > 400
            ·
             rw [if_pos c28] at H
             have c28b0 : decide (400 < (((rd_T26 l0_2 x37_2).f1.f5).length : Int)) = true := decide_eq_true c28
             have c28b1 : decide (400 < ((rd_T26 l0_2 x37_2).f1.f5).length) = true := decide_eq_true (by omega)
             clear c28
             obtain rfl := Option.some.inj H
             have p303 : 0 ≤ (x37_2 : Int) := zo
             have q303 : x37_2 < (l0_2.length : Int) := zo
             obtain ⟨ad303, A303_6, c303_6, A303_7, c303_7, e303, hx303_0, hx303_1, hx303_2, hx303_3, hx303_4, hx303_5, hx303_6, hx303_7, hl303_6, hi303_6, hl303_7, hi303_7⟩ := at_T26 HR0_2.out x37_2 p303 q303
             cases e303
             replace hx303_0 := zx HB hx303_0
             replace hx303_1 := zx HB hx303_1
             replace hx303_2 := zx HB hx303_2
             replace hx303_3 := zx HB hx303_3
             replace hx303_4 := zx HB hx303_4
             replace hx303_5 := zx HB hx303_5
             replace hx303_6 := zx HB hx303_6
             replace hx303_7 := zx HB hx303_7
             have HR303_6 := am hi303_6
             have HC303_6 := am hl303_6
             clear hi303_6 hl303_6
             have HR303_7 := am hi303_7
             have HC303_7 := am hl303_7
             clear hi303_7 hl303_7
             replace p303 := eq_true p303
             replace q303 := eq_true q303
             go_wp2_with (first | ((with_reducible refine gate_dst (N := 5) rfl ?_); (try (refine gate_guard (by rfl) ?_; dsimp only)); refine zB 5 #[.int .i64 0, .int .i64 0, .int .i64 0, .int .i64 0, .int .i64 0, .int .i64 0, .slice none 0 0, .slice none 0 0] 26 ?_; intro gb304 hg w29 hbox hb; have BK304 := am (hbox); have GE304 := zG hg (zb HB); replace HB := am (below_step (zb HB) hb); have NB302_304 := zn hg BK302; have NB304_302 := zm hg BK302; replace BK302 := zk BK302 hb; clear hb hbox hg; have hnb30 := NB304_302.out; have hnc30 := NB302_304.out; obtain ⟨_, _, _, _, _, _, _, _, _, _, _, _, _, _, _, _⟩ := zq8 BK304; obtain ⟨_, _, _, _, _, _⟩ := zq3 BK302))
             go_ret
             exact ⟨ze, zb HB⟩
            ·
             rw [if_neg c28] at H
             have c28b0 : decide (400 < (((rd_T26 l0_2 x37_2).f1.f5).length : Int)) = false := decide_eq_false c28
             have c28b1 : decide (400 < ((rd_T26 l0_2 x37_2).f1.f5).length) = false := decide_eq_false (by omega)
             clear c28
             by_cases c33 : (((rd_T26 l0_2 x37_2).f1.f6).length : Int) > 400
             ·
              rw [if_pos c33] at H
              have c33b0 : decide (400 < (((rd_T26 l0_2 x37_2).f1.f6).length : Int)) = true := decide_eq_true c33
              have c33b1 : decide (400 < ((rd_T26 l0_2 x37_2).f1.f6).length) = true := decide_eq_true (by omega)
              clear c33
              obtain rfl := Option.some.inj H
              have p303 : 0 ≤ (x37_2 : Int) := zo
              have q303 : x37_2 < (l0_2.length : Int) := zo
              obtain ⟨ad303, A303_6, c303_6, A303_7, c303_7, e303, hx303_0, hx303_1, hx303_2, hx303_3, hx303_4, hx303_5, hx303_6, hx303_7, hl303_6, hi303_6, hl303_7, hi303_7⟩ := at_T26 HR0_2.out x37_2 p303 q303
              cases e303
              replace hx303_0 := zx HB hx303_0
              replace hx303_1 := zx HB hx303_1
              replace hx303_2 := zx HB hx303_2
              replace hx303_3 := zx HB hx303_3
              replace hx303_4 := zx HB hx303_4
              replace hx303_5 := zx HB hx303_5
              replace hx303_6 := zx HB hx303_6
              replace hx303_7 := zx HB hx303_7
              have HR303_6 := am hi303_6
              have HC303_6 := am hl303_6
              clear hi303_6 hl303_6
              have HR303_7 := am hi303_7
              have HC303_7 := am hl303_7
              clear hi303_7 hl303_7
              replace p303 := eq_true p303
              replace q303 := eq_true q303
              go_wp2_with (first | ((with_reducible refine gate_dst (N := 5) rfl ?_); (try (refine gate_guard (by rfl) ?_; dsimp only)); refine zB 5 #[.int .i64 0, .int .i64 0, .int .i64 0, .int .i64 0, .int .i64 0, .int .i64 0, .slice none 0 0, .slice none 0 0] 26 ?_; intro gb304 hg w34 hbox hb; have BK304 := am (hbox); have GE304 := zG hg (zb HB); replace HB := am (below_step (zb HB) hb); have NB302_304 := zn hg BK302; have NB304_302 := zm hg BK302; replace BK302 := zk BK302 hb; clear hb hbox hg; have hnb35 := NB304_302.out; have hnc35 := NB302_304.out; obtain ⟨_, _, _, _, _, _, _, _, _, _, _, _, _, _, _, _⟩ := zq8 BK304; obtain ⟨_, _, _, _, _, _⟩ := zq3 BK302))
              go_ret
              exact ⟨ze, zb HB⟩
             ·
              rw [if_neg c33] at H
              have c33b0 : decide (400 < (((rd_T26 l0_2 x37_2).f1.f6).length : Int)) = false := decide_eq_false c33
              have c33b1 : decide (400 < ((rd_T26 l0_2 x37_2).f1.f6).length) = false := decide_eq_false (by omega)
              clear c33
              have H' := am H
              clear H
              have p303 : 0 ≤ (x37_2 : Int) := zo
              have q303 : x37_2 < (l0_2.length : Int) := zo
              obtain ⟨ad303, A303_6, c303_6, A303_7, c303_7, e303, hx303_0, hx303_1, hx303_2, hx303_3, hx303_4, hx303_5, hx303_6, hx303_7, hl303_6, hi303_6, hl303_7, hi303_7⟩ := at_T26 HR0_2.out x37_2 p303 q303
              cases e303
              replace hx303_0 := zx HB hx303_0
              replace hx303_1 := zx HB hx303_1
              replace hx303_2 := zx HB hx303_2
              replace hx303_3 := zx HB hx303_3
              replace hx303_4 := zx HB hx303_4
              replace hx303_5 := zx HB hx303_5
              replace hx303_6 := zx HB hx303_6
              replace hx303_7 := zx HB hx303_7
              have HR303_6 := am hi303_6
              have HC303_6 := am hl303_6
              clear hi303_6 hl303_6
              have HR303_7 := am hi303_7
              have HC303_7 := am hl303_7
              clear hi303_7 hl303_7
              replace p303 := eq_true p303
              replace q303 := eq_true q303
              go_wp2_with (first | ((with_reducible refine gate_dst (N := 5) rfl ?_); (try (refine gate_guard (by rfl) ?_; dsimp only)); refine zB 5 #[.int .i64 0, .int .i64 0, .int .i64 0, .int .i64 0, .int .i64 0, .int .i64 0, .slice none 0 0, .slice none 0 0] 26 ?_; intro gb304 hg w38 hbox hb; have BK304 := am (hbox); have GE304 := zG hg (zb HB); replace HB := am (below_step (zb HB) hb); have NB302_304 := zn hg BK302; have NB304_302 := zm hg BK302; replace BK302 := zk BK302 hb; clear hb hbox hg; have hnb39 := NB304_302.out; have hnc39 := NB302_304.out; obtain ⟨_, _, _, _, _, _, _, _, _, _, _, _, _, _, _, _⟩ := zq8 BK304; obtain ⟨_, _, _, _, _, _⟩ := zq3 BK302))
              go_roundg k2
              case measure => have := HJ4.out; have := HK2.out; omega
              case rel => exact ⟨((rd_T26 l0_2 x37_2).f0), (wrap64 (x37_2 + 1)), zr, zr, H', ⟨by have := HJ4.out; have := HK2.out; omega⟩, ⟨by refine zu ?_; refine blk_far ?_ NB302_304.out _; refine zu ?_; refine blk_far ?_ NB302_304.out _; refine zu ?_; refine blk_far ?_ NB302_304.out _; refine zu ?_; refine blk_far ?_ NB302_304.out _; refine zu ?_; refine blk_far ?_ NB302_304.out _; refine zu ?_; refine blk_far ?_ NB302_304.out _; refine zu ?_; refine blk_far ?_ NB302_304.out _; refine zu ?_; refine blk_far ?_ NB302_304.out _; refine zu ?_; exact BK302.out⟩, ⟨zb HB⟩⟩
          ·
           rw [if_neg c22] at H
           obtain ⟨c22b0, c22b1⟩ := zs c22
           obtain rfl := Option.some.inj H
           have p303 : 0 ≤ (x37_2 : Int) := zo
           have q303 : x37_2 < (l0_2.length : Int) := zo
           obtain ⟨ad303, A303_6, c303_6, A303_7, c303_7, e303, hx303_0, hx303_1, hx303_2, hx303_3, hx303_4, hx303_5, hx303_6, hx303_7, hl303_6, hi303_6, hl303_7, hi303_7⟩ := at_T26 HR0_2.out x37_2 p303 q303
           cases e303
           replace hx303_0 := zx HB hx303_0
           replace hx303_1 := zx HB hx303_1
           replace hx303_2 := zx HB hx303_2
           replace hx303_3 := zx HB hx303_3
           replace hx303_4 := zx HB hx303_4
           replace hx303_5 := zx HB hx303_5
           replace hx303_6 := zx HB hx303_6
           replace hx303_7 := zx HB hx303_7
           have HR303_6 := am hi303_6
           have HC303_6 := am hl303_6
           clear hi303_6 hl303_6
           have HR303_7 := am hi303_7
           have HC303_7 := am hl303_7
           clear hi303_7 hl303_7
           replace p303 := eq_true p303
           replace q303 := eq_true q303
           go_wp2_with (first | ((with_reducible refine gate_dst (N := 5) rfl ?_); (try (refine gate_guard (by rfl) ?_; dsimp only)); refine zB 5 #[.int .i64 0, .int .i64 0, .int .i64 0, .int .i64 0, .int .i64 0, .int .i64 0, .slice none 0 0, .slice none 0 0] 26 ?_; intro gb304 hg w42 hbox hb; have BK304 := am (hbox); have GE304 := zG hg (zb HB); replace HB := am (below_step (zb HB) hb); have NB302_304 := zn hg BK302; have NB304_302 := zm hg BK302; replace BK302 := zk BK302 hb; clear hb hbox hg; have hnb43 := NB304_302.out; have hnc43 := NB302_304.out; obtain ⟨_, _, _, _, _, _, _, _, _, _, _, _, _, _, _, _⟩ := zq8 BK304; obtain ⟨_, _, _, _, _, _⟩ := zq3 BK302))
           go_ret
           exact ⟨ze, zb HB⟩
         ·
          rw [if_neg c21] at H
          exact absurd H (by simp)
        ·
         rw [if_neg c20] at H
         exact absurd H (by simp)
       ·
        rw [if_neg c19] at H
        have c19b0 := decide_eq_false c19
        clear c19
        obtain rfl := Option.some.inj H
        go_wp2
        go_ret
        exact ⟨ze, zb HB⟩
end Go.Proofs.Ytnmmkgagbfniiaa.A
end
