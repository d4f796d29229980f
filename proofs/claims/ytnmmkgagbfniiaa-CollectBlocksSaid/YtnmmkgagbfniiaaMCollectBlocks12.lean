/- MCollectBlocks12: texts of this session and of the kit's printer on the road to the statement CollectBlocks, laid into one and rid of what it doesn't need. No condition beyond what each fact names. -/
import Derived.Test.YtnmmkgagbfniiaaMCollectBlocks3
import Derived.Test.YtnmmkgagbfniiaaMCollectBlocks2
import Derived.Test.YtnmmkgagbfniiaaMCollectBlocks11
import Derived.RangeFuncKeeps
import Derived.RangeFuncCalls
import Derived.RangeFuncLeaves
import Derived.RangeFuncBound
import Derived.RangeFuncNested
import Derived.OwnWalkIn
import Derived.TacticsInMore
import Derived.LoopIn
section
namespace Go.Proofs.Ytnmmkgagbfniiaa.A
open Go.RowKit Go.Proofs.YtnmmkgagbfniiaaW.PrintWords Go.Proofs.YtnmmkgagbfniiaaW.PrintLast Go.Proofs.YtnmmkgagbfniiaaW.PrintMore
attribute [local go_sem] max2_int min2_int max_two min_two max_three min_three max_four min_four
set_option linter.unusedVariables false
set_option linter.unusedSimpArgs false
def collect_Blocks.l0 : Nat → Int → List Int → List S42 → Int → Int → Int → Option (List S42 × Int)
 | 0, _, _, _, _, _, _ => none
 | k + 1, x1, b, acc, used, recs, last => (block_Decode.f k b).bind fun d => if d.2.2.2.2 = 0 then (if d.1 = x1 then (if d.2.1 = recs then (if 0 < (d.2.2.1.length : Int) then (if (rd_T26 d.2.2.1 0).f0 ≤ last then some (acc, used) else (if acc.length < 3518437208883 then (if 0 ≤ d.2.2.2.1 then (if d.2.2.2.1 ≤ (b.length : Int) then collect_Blocks.l0 k x1 (b.drop d.2.2.2.1.toNat) (acc ++ [⟨d.1, d.2.1, d.2.2.1⟩]) (wrap64 (used + d.2.2.2.1)) (wrap64 (recs + (d.2.2.1.length : Int))) (rd_T26 d.2.2.1 ((d.2.2.1.length : Int) - 1)).f0 else none) else none) else none)) else none) else some (acc, used)) else some (acc, used)) else some (acc, used)
def collect_Blocks.f (k : Nat) (l0 : List Int) (a1 : Int) : Option (List S42 × Int) := collect_Blocks.l0 k a1 l0 [] 0 0 (-1)
theorem collect_Blocks.mono_l : ∀ k, (∀ y0 y1 y2 y3 y4 y5, LeO (collect_Blocks.l0 k y0 y1 y2 y3 y4 y5) (collect_Blocks.l0 (k + 1) y0 y1 y2 y3 y4 y5))
 | 0 => fun _ _ _ _ _ _ r h => by simp [collect_Blocks.l0] at h
 | k + 1 => by
  have ih0 := collect_Blocks.mono_l k
  intro y0 y1 y2 y3 y4 y5
  unfold collect_Blocks.l0
  exact zM
theorem collect_Blocks.mono : ∀ a0 a1 k, LeO (collect_Blocks.f k a0 a1) (collect_Blocks.f (k + 1) a0 a1) := fun a0 a1 k => collect_Blocks.mono_l k _ _ _ _ _ _
theorem collect_Blocks.good (A : Option Addr) (n c : Nat) (x : Int) (w : World) : Calls Try.prog 68 #[.slice A n c, .int .i64 x] w fun e w' => e = .returned (.func (.func 84) #[] #[.pointer (some ⟨w.heap.size, 0, none⟩), .pointer (some ⟨w.heap.size + 1, 0, none⟩)]) ∧ w' = (w.alloc (.cells #[.slice A n c] 27)).alloc (.cells #[.int .i64 x] 3) := by
 go_enter Try.func68, Try.ntmps68
 go_wp2
 go_ret
 exact ⟨rfl, rfl⟩
section
variable {F : Fence} {n : Nat} {P : Program} {ops : Array Oper} {rest : List Oper} {o : Oper} {a : Act} {Q : Exit → Act → World → Prop}
theorem ow_stepIn {W w1 : World} {e : Next} (hgd : o.guard = none) (hab : o.about P W a.eval = none) (hnd : ∀ c, o.op ≠ .defer c) (hrun : (execOp a.eval o).run P W = .ok e w1)
  (h : ∀ K : Act → World → Prop, (∀ a w, wpListIn F n P ops Q rest a w → K a w) → Oper.uponIn F n P o a K Q (.ok e w1)) : wpListIn F n P ops Q (o :: rest) a W := by
 refine wpListIn_plain hgd fun K hK => ?_
 unfold Oper.wpIn
 refine ⟨fun f hf => (by rw [hab] at hf; cases hf), ?_⟩
 rw [Oper.semAt_plain F _ _ hnd, hrun]
 exact h K hK
theorem ow_gateD {W : World} {N : Tmp} (_ : o.dst = some N) (h : wpListIn F n P ops Q (o :: rest) a W) : wpListIn F n P ops Q (o :: rest) a W := h
theorem ow_gateS {W : World} {t : TypeId} {p v : Operand} (_ : o.op = .store t p v) (h : wpListIn F n P ops Q (o :: rest) a W) : wpListIn F n P ops Q (o :: rest) a W := h
theorem ow_wideCall {m f : Nat} {args : Array Value} {W : World} {R : Ending → World → Prop} (h : CallsIn Fence.wide m P f args W R) : Fence.wide.fn f ∧ (Fence.wide.depth.isSome = true → 1 ≤ n) ∧ CallsIn Fence.wide m P f args W R := ⟨trivial, fun h => absurd h (by decide), h⟩
theorem ow_skipN {R : Prop} (h : R) : (∀ f, none = some f → Fence.wide.fn f) ∧ R := ⟨fun _ h => (by cases h), h⟩
theorem ow_wideRound {m l f : Nat} {tmps : Array Value} {asg bdy : Code} {W : World} {R : Ending → World → Prop} (h : RoundIn Fence.wide m P l f tmps asg bdy W R) : (Fence.wide.depth.isSome = true → 1 ≤ n) ∧ RoundIn Fence.wide m P l f tmps asg bdy W R := ⟨fun h => absurd h (by decide), h⟩
theorem ow_boxIn {W : World} (hgd : o.guard = none) {N : Tmp} (hd : o.dst = some N) {cs : Array Value} {t : TypeId} (ho : o.op = .alloc t)
  (hrun : (execOp a.eval o).run P W = .ok (.value (.pointer (some ⟨W.heap.size, 0, none⟩))) (W.alloc (.cells cs t (0, 0))))
  (h : ∀ g, g = W.heap.size → ∀ w1, w1.heap[g]? = some (.cells cs t (0, 0)) → Below W.heap.size W w1 → wpListIn F n P ops Q rest (a.put (some N) (.pointer (some ⟨g, 0, none⟩))) w1) : wpListIn F n P ops Q (o :: rest) a W :=
 ow_stepIn hgd (by simp [Oper.about, ho]) (by simp [ho]) hrun fun K hK => hK (a.put o.dst _) _ (by rw [hd]; exact h _ rfl _ (blk_new W _) (below_alloc (Below.refl _ _) _))
theorem ow_storeIn {W w1 : World} (hgd : o.guard = none) (hN : o.dst = none) {t : TypeId} {p v : Operand} (ho : o.op = .store t p v)
  (hrun : (execOp a.eval o).run P W = .ok .skip w1) (h : ∀ w', w' = w1 → wpListIn F n P ops Q rest a w') : wpListIn F n P ops Q (o :: rest) a W :=
 ow_stepIn hgd (by simp [Oper.about, ho]) (by simp [ho]) hrun fun K hK => hK (a.put o.dst undef) _ (by rw [hN]; exact h _ rfl)
theorem ow_appendIn {α : Type} (d : Kd α) {w0 W : World} (base : Nat) (hgd : o.guard = none) (s x : Operand) (t e : TypeId) (z : Value) (bytes : Nat)
  (ho : o.op = .call { callee := .builtin .append, args := #[s, x], argTypes := #[t, t] })
  (ht : P.underlying t = some (.slice e)) (hinfo : (P.info? e).map (fun i => (i.zero, i.size, i.bytes)) = some (some z, d.sz, bytes)) (hz : z.cells.size = d.sz) (hs0 : 0 < d.sz) (hb0 : 0 < bytes)
  (v : Value) (xs : List α) (p : α) (cs : List Value) (ok okp : Nat → Prop) (hs : a.eval s = v) (hx : a.eval x = .slice (some ⟨W.heap.size, 0, none⟩) 1 1) (hp : d.M W base okp p cs) (hokp : ∀ k, okp k → ok k ∧ some k ≠ v.ownBlock) (hfresh : ∀ k, W.heap.size ≤ k → ok k)
  (HO : d.R e W base ok v xs) (HB : Below base w0 W) (hbase : base ≤ W.heap.size) (hl : (xs.length + 1) * bytes ≤ 140737488355328)
  (h : ∀ v1 w1, d.R e w1 base ok v1 (xs ++ [p]) → Below base w0 w1 → W.grownBy w1 v.ownBlock → (v1.ownBlock = v.ownBlock ∨ ∃ b, v1.ownBlock = some b ∧ W.heap.size ≤ b) → wpListIn F n P ops Q rest (a.put o.dst v1) w1) :
  wpListIn F n P ops Q (o :: rest) a (W.alloc (.cells cs.toArray e)) := by
 obtain ⟨h0, inner, hown, hr⟩ := HO
 obtain ⟨i0, hi, hzz⟩ := Option.map_eq_some_iff.1 hinfo
 simp only [Prod.mk.injEq] at hzz
 obtain ⟨hz0, hz1, hz2⟩ := hzz
 have hlen : xs.length + 1 ≤ 140737488355328 := Nat.le_trans (Nat.le_mul_of_pos_right _ hb0) hl
 have hys := d.K_len (d.K_of_M hp)
 obtain ⟨v1, w1, hrun, hown1, hg, _, hat⟩ := run_append_own_at (P := P) (W.alloc (.cells cs.toArray e)) base t o.type e i0 z d.sz bytes ht hi hz0 hz1 hz2 hz hs0 v xs.length inner (hown.alloc _) ⟨W.heap.size, 0, none⟩ 1 1 cs (by rw [hys]; simp)
  (by simpa using World.news_of_block (cs := cs.toArray) (t := e) (fr := (0, 0)) (heap_alloc_new W (.cells cs.toArray e))) (d.K_one (d.K_of_M hp)) (by simp only [maxLen]; omega) hl (by simp; omega)
 have hg1 := World.grownBy.trans (World.grownBy_alloc W (.cells cs.toArray e) v.ownBlock) hg
 have hat1 : v1.ownBlock = v.ownBlock ∨ ∃ b, v1.ownBlock = some b ∧ W.heap.size ≤ b := by
  rcases hat with hat | hat
  ·
   exact .inl hat
  ·
   exact .inr ⟨_, hat, by simp⟩
 refine ow_stepIn (e := .value v1) (w1 := w1) hgd (by simp [Oper.about, ho, resolve, Target.leads, Sem.run_pure]) (by simp [ho]) ?_ fun K hK => hK (a.put o.dst v1) w1 ?_
 ·
  unfold execOp
  simp only [ho, resolve, invoke, builtin, Sem.run_bind, Sem.run_pure, Result.andThen_ok, List.map_toArray, List.map_cons, List.map_nil, hs, hx, hrun]
 ·
  exact h v1 w1 (Kd.R_appended h0 hr hp hokp hfresh hown1 hg1 hat1) ((HB.alloc hbase _).grown hg (by simp; omega) (own_base hown)) hg1 hat1
theorem ow_gateB {W : World} {b : Builtin} {xs : Array Operand} {ts : Array TypeId} (_ : o.op = .call { callee := .builtin b, args := xs, argTypes := ts }) (h : wpListIn F n P ops Q (o :: rest) a W) : wpListIn F n P ops Q (o :: rest) a W := h
end
theorem ow_least (R : Nat → Prop) (h : ∃ k, R k) : ∃ m, R m ∧ ∀ j, R j → m ≤ j := by
 obtain ⟨k, hk⟩ := h
 induction k using Nat.strongRecOn with
 | ind k ih =>
  by_cases hs : ∃ j, R j ∧ j < k
  ·
   obtain ⟨j, hj, hlt⟩ := hs
   exact ih j hlt hj
  ·
   exact ⟨k, hk, fun j hj => Nat.le_of_not_lt fun hlt => hs ⟨j, hj, hlt⟩⟩
open Classical in
noncomputable def ow_mu (R : Nat → Prop) : Nat := if h : ∃ k, R k then Classical.choose (ow_least R h) else 0
theorem ow_mu_spec {R : Nat → Prop} (h : ∃ k, R k) : R (ow_mu R) ∧ ∀ j, R j → ow_mu R ≤ j := by
 unfold ow_mu
 rw [dif_pos h]
 exact Classical.choose_spec (ow_least R h)
structure collect_Blocks.St (w0 : World) (lp : Loop) (x1 : Int) (A0 : Option Addr) (c0 : Nat) (rest : List Int) (used : Int) (v : Value) (acc : List S42) (W : World) : Prop where
 bl : W.heap[w0.heap.size]? = some (.cells #[v] 62 (0, 0))
 bu : W.heap[w0.heap.size + 1]? = some (.cells #[.int .i64 used] 3 (0, 0))
 bb : W.heap[w0.heap.size + 2]? = some (.cells #[.slice A0 rest.length c0] 27 (0, 0))
 bt : W.heap[w0.heap.size + 3]? = some (.cells #[.int .i64 x1] 3 (0, 0))
 dd : W.heap[w0.heap.size + 4]? = some (.deferred (some []))
 ll : W.heap[w0.heap.size + 5]? = some (.loop lp)
 cc : Kd.C (Kd.int .u8) w0 A0 rest.length rest
 ci : rest.length ≤ c0
 rr : Kd.R k42 42 W (w0.heap.size + 6) (fun _ => True) v acc
 be : Below w0.heap.size w0 W
section
variable {w0 W W' : World} {lp : Loop} {x1 used : Int} {A0 : Option Addr} {c0 : Nat} {rest : List Int} {v : Value} {acc : List S42}
theorem collect_Blocks.St.below (h : collect_Blocks.St w0 lp x1 A0 c0 rest used v acc W) (hb : Below W.heap.size W W') : collect_Blocks.St w0 lp x1 A0 c0 rest used v acc W' :=
 ⟨blk_below h.bl hb, blk_below h.bu hb, blk_below h.bb hb, blk_below h.bt hb, blk_below h.dd hb, blk_below h.ll hb, h.cc, h.ci, Kd.R_below h.rr hb, below_step h.be hb⟩
theorem collect_Blocks.St.cut (h : collect_Blocks.St w0 lp x1 A0 c0 rest used v acc W) {A1 : Option Addr} {c1 : Nat} {r1 : List Int} (hc : Kd.C (Kd.int .u8) w0 A1 r1.length r1) (hi : r1.length ≤ c1) :
  collect_Blocks.St w0 lp x1 A1 c1 r1 used v acc (W.setCell ⟨w0.heap.size + 2, 0, none⟩ (.slice A1 r1.length c1)) :=
 ⟨blk_far h.bl (by simp) _, blk_far h.bu (by simp) _, by simpa using blk_set h.bb 0 _, blk_far h.bt (by simp) _, (Below.heap_setCell W _ _ _ (by simp)).trans h.dd, (Below.heap_setCell W _ _ _ (by simp)).trans h.ll, hc, hi, Kd.R_set h.rr h.bb (by decide) 0 _, below_set h.be (by simp)⟩
theorem collect_Blocks.St.cutN (h : collect_Blocks.St w0 lp x1 A0 c0 rest used v acc W) {A1 : Option Addr} {c1 m : Nat} (hr : Kd.C (Kd.int .u8) w0 A0 rest.length rest → Kd.C (Kd.int .u8) w0 A1 (rest.drop m).length (rest.drop m)) (hi : (rest.drop m).length ≤ c1) :
  collect_Blocks.St w0 lp x1 A1 c1 (rest.drop m) used v acc (W.setCell ⟨w0.heap.size + 2, 0, none⟩ (.slice A1 (rest.length - m) c1)) := by
 have h5 := h.cut (hr h.cc) hi
 rw [List.length_drop] at h5
 exact h5
end
def collect_Blocks.Round (w0 : World) (lp : Loop) (x1 : Int) (n : Nat) : Prop :=
 ∀ (A0 : Option Addr) (c0 : Nat) (rest : List Int) (used : Int) (v : Value) (acc : List S42) (W1 : World) (N : Nat) (x : S42) (vr : Value) (m : Int), collect_Blocks.St w0 lp x1 A0 c0 rest used v acc W1 → (∀ k, v.ownBlock = some k → k < N) → w0.heap.size + 6 ≤ N → N ≤ W1.heap.size → Kd.S k26 26 W1 N (fun _ => True) vr x.f2 → acc.length < 3518437208883 →
  YieldAt Fence.wide n Try.prog (w0.heap.size + 5) #[.agg #[.int .i64 x.f0, .int .i64 x.f1, vr], .int .i64 m] W1 fun e W' => e = .returned (.bool true) ∧ ∃ v', collect_Blocks.St w0 lp x1 A0 c0 rest (wrap64 (used + m)) v' (acc ++ [x]) W' ∧ (∀ k, N ≤ k → k < W1.heap.size → W'.heap[k]? = W1.heap[k]?)
def collect_Blocks.Rel (w0 : World) (lp : Loop) (x1 : Int) (r1 : List S42) (r2 : Int) (a b : Value) (W : World) (kq : Nat) : Prop :=
 ∃ (A0 : Option Addr) (c0 : Nat) (rest : List Int) (used : Int) (v : Value) (acc : List S42) (recs last : Int), a = .int .i64 recs ∧ b = .int .i64 last ∧ collect_Blocks.l0 kq x1 rest acc used recs last = some (r1, r2) ∧ collect_Blocks.St w0 lp x1 A0 c0 rest used v acc W
set_option maxHeartbeats 4000000 in
set_option maxRecDepth 100000 in
theorem collect_Blocks.iter (w0 : World) (lp : Loop) (x1 : Int) (r1 : List S42) (r2 : Int) (n : Nat) (hY : collect_Blocks.Round w0 lp x1 (n - 1)) (k : Nat) (A0 : Option Addr) (c0 : Nat) (rest : List Int) (used : Int) (v : Value) (acc : List S42) (W : World)
  (hS : collect_Blocks.St w0 lp x1 A0 c0 rest used v acc W) (h : collect_Blocks.l0 k x1 rest acc used 0 (-1) = some (r1, r2)) :
  CallsIn Fence.wide n Try.prog 84 #[.func (.yield (w0.heap.size + 5)) #[] #[], .pointer (some ⟨w0.heap.size + 2, 0, none⟩), .pointer (some ⟨w0.heap.size + 3, 0, none⟩)] W fun e W' => (∃ v, e = .returned v) ∧ ∃ A c b v, collect_Blocks.St w0 lp x1 A c b r2 v r1 W' := by
 have hS0 := am hS
 have h0 := am h
 clear hS h
 refine callsIn_of_wp Try.func84 rfl trivial ?_ rfl
 simp only [Try.ntmps84, List.size_toArray, List.length_cons, List.length_nil, Nat.reduceAdd, Nat.reduceSub, Array.replicate_succ, Array.replicate_zero, List.push_toArray, List.append_toArray, List.nil_append, List.cons_append]
 gi_wp2
 gi_loopw [4, 5] (fun a b W => ∃ kq, collect_Blocks.Rel w0 lp x1 r1 r2 a b W kq) (fun a b W => ow_mu (collect_Blocks.Rel w0 lp x1 r1 r2 a b W))
 case atStart => exact ⟨k, A0, c0, rest, used, v, acc, 0, -1, rfl, rfl, h0.out, hS0.out⟩
 case round =>
  clear hS0 h0 A0 c0 rest used v acc k W
  have hmu := am (ow_mu_spec hrel)
  generalize hkq : ow_mu _ = kq at hmu
  have HK := am hkq
  clear hkq
  clear hrel
  obtain ⟨⟨A0, c0, rest, used, v, acc, recs, last, rfl, rfl, hl, hS⟩, hmin⟩ := hmu.out
  clear hmu
  cases kq with
  | zero => simp [collect_Blocks.l0] at hl
  | succ k =>
  simp only [collect_Blocks.l0] at hl
  replace hl := Option.bind_eq_some_iff.mp hl
  obtain ⟨⟨d1, d2, rs, m, e0⟩, hD, hl⟩ := hl
  dsimp only at hl
  have HS := am hS
  have HD := am hD
  have HM := am hmin
  have hcb : wr.cell? ⟨w0.heap.size + 2, 0, none⟩ = some (.slice A0 rest.length c0) := (blk_cell hS.bb 0).trans rfl
  clear hS hD hmin
  have hq0 : (some (acc, used) = some (r1, r2)) → acc = r1 ∧ used = r2 := fun h => by simpa using h
  have HV : (e0 != 0) = true ∧ acc = r1 ∧ used = r2 ∨ (e0 != 0) = false ∧ ((d1 != x1) = true ∧ acc = r1 ∧ used = r2 ∨ (d1 != x1) = false ∧ ((d2 != recs) = true ∧ acc = r1 ∧ used = r2 ∨ (d2 != recs) = false ∧ 0 < (rs.length : Int) ∧
    (decide ((rd_T26 rs 0).f0 ≤ last) = true ∧ acc = r1 ∧ used = r2 ∨ decide ((rd_T26 rs 0).f0 ≤ last) = false ∧ acc.length < 3518437208883 ∧ 0 ≤ m ∧ m ≤ (rest.length : Int) ∧
     collect_Blocks.l0 k x1 (rest.drop m.toNat) (acc ++ [⟨d1, d2, rs⟩]) (wrap64 (used + m)) (wrap64 (recs + (rs.length : Int))) (rd_T26 rs ((rs.length : Int) - 1)).f0 = some (r1, r2)))) := by
   by_cases c0 : e0 = 0
   rotate_left
   ·
    rw [if_neg c0] at hl
    exact .inl ⟨bne_iff_ne.mpr c0, hq0 hl⟩
   rw [if_pos c0] at hl
   refine .inr ⟨bne_eq_false_iff_eq.mpr c0, ?_⟩
   by_cases c1 : d1 = x1
   rotate_left
   ·
    rw [if_neg c1] at hl
    exact .inl ⟨bne_iff_ne.mpr c1, hq0 hl⟩
   rw [if_pos c1] at hl
   refine .inr ⟨bne_eq_false_iff_eq.mpr c1, ?_⟩
   by_cases c2 : d2 = recs
   rotate_left
   ·
    rw [if_neg c2] at hl
    exact .inl ⟨bne_iff_ne.mpr c2, hq0 hl⟩
   rw [if_pos c2] at hl
   refine .inr ⟨bne_eq_false_iff_eq.mpr c2, ?_⟩
   by_cases c3 : 0 < (rs.length : Int)
   rotate_left
   ·
    rw [if_neg c3] at hl
    cases hl
   rw [if_pos c3] at hl
   refine ⟨c3, ?_⟩
   by_cases c4 : (rd_T26 rs 0).f0 ≤ last
   ·
    rw [if_pos c4] at hl
    exact .inl ⟨decide_eq_true c4, hq0 hl⟩
   rw [if_neg c4] at hl
   refine .inr ⟨decide_eq_false c4, ?_⟩
   by_cases c5 : acc.length < 3518437208883
   rotate_left
   ·
    rw [if_neg c5] at hl
    cases hl
   rw [if_pos c5] at hl
   by_cases c6 : 0 ≤ m
   rotate_left
   ·
    rw [if_neg c6] at hl
    cases hl
   rw [if_pos c6] at hl
   by_cases c7 : m ≤ (rest.length : Int)
   rotate_left
   ·
    rw [if_neg c7] at hl
    cases hl
   rw [if_pos c7] at hl
   exact ⟨c5, c6, c7, hl⟩
  clear hl hq0
  rcases HV with ⟨c0b, HE⟩ | ⟨c0b, ⟨c1b, HE⟩ | ⟨c1b, ⟨c2b, HE⟩ | ⟨c2b, c3, ⟨c4b, HE⟩ | ⟨c4b, HE⟩⟩⟩⟩
  iterate 3
   focus
    have HE' := am HE
    clear HE
    gi_wp2_with (first | (with_reducible refine ow_skipN ?_) | (with_reducible refine ow_wideCall ?_; gi_at_call 29; (with_reducible refine (callsIn_wide.2 (block_Decode.calls k A0 c0 rest d1 d2 rs m e0 _ ?s1 HS.out.ci HD.out)).mono ?_); (case s1 => exact Kd.C_below HS.out.cc HS.out.be); rintro e w1 ⟨vr, rfl, hr, hb⟩; obtain ⟨Ar, cr, rfl⟩ := Kd.S_slice hr;  have HR := am hr; have HW := am hb; clear hr hb) | ((with_reducible refine ow_gateD (N := 6) rfl ?_); refine ow_boxIn rfl (N := 6) rfl (cs := #[.int .i64 0, .int .i64 0, .slice none 0 0]) (t := 42) rfl y28 ?_; intro gx hg w2 hx hb; have HX := am hx; have HR2 := am (Kd.S_below HR.out hb); have HW2 := am (below_step HW.out hb); have HG := am (show wr.heap.size ≤ gx by rw [hg]; exact HW.out.size); have hz0 := (blk_cell hx 0).trans rfl; have hz1 := (blk_cell hx 1).trans rfl; have hz2 := (blk_cell hx 2).trans rfl; have hf0 := blk_frozen hx 0; have hf1 := blk_frozen hx 1; have hf2 := blk_frozen hx 2; clear hg hx hb) | ((with_reducible refine ow_gateS (t := 42) (p := .tmp 6) rfl ?_); refine ow_storeIn rfl rfl (t := 42) (p := .tmp 6) rfl y28 ?_; intro w3 hw; clear hz0 hz1 hz2 hf0 hf1 hf2; have hx : w3.heap[gx]? = some (.cells #[.int .i64 d1, .int .i64 d2, .slice Ar rs.length cr] 42 (0, 0)) := (by rw [hw]; simpa using blk_set (blk_set (blk_set HX.out 0 (.int .i64 d1)) 1 (.int .i64 d2)) 2 (.slice Ar rs.length cr)); have HX3 := am hx; have HW3 := am (show Below wr.heap.size wr w3 by rw [hw]; exact below_set (below_set (below_set HW2.out HG.out) HG.out) HG.out); have HR3 := am (show Kd.S k26 26 w3 wr.heap.size (fun _ => True) (.slice Ar rs.length cr) rs by rw [hw]; exact Kd.S_set (Kd.S_set (Kd.S_set HR2.out HX.out (by decide) 0 _) (blk_set HX.out 0 _) (by decide) 1 _) (blk_set (blk_set HX.out 0 _) 1 _) (by decide) 2 _); clear hw HX HR2 HW2; have hz0 := (blk_cell hx 0).trans rfl; have hz1 := (blk_cell hx 1).trans rfl; have hz2 := (blk_cell hx 2).trans rfl; have hct : w3.cell? ⟨w0.heap.size + 3, 0, none⟩ = some (.int .i64 x1) := (blk_cell (HS.out.below HW3.out).bt 0).trans rfl;   clear hx))
    refine bodyPost_ret (results_none rfl _ _ _) rfl ?_
    have hE := HE'.out
    obtain ⟨rfl, rfl⟩ := hE
    exact ⟨⟨_, rfl⟩, _, _, _, _, HS.out.below HW3.out⟩
  all_goals
   have C3 := am (Int.ofNat_lt.1 c3)
   have c3b : (0 < rs.length) = True := eq_true C3.out
   have HE' := am HE
   clear HE c3
  ·
   gi_wp2_with (first | (with_reducible refine ow_skipN ?_) | (with_reducible refine ow_wideCall ?_; gi_at_call 29; (with_reducible refine (callsIn_wide.2 (block_Decode.calls k A0 c0 rest d1 d2 rs m e0 _ ?s1 HS.out.ci HD.out)).mono ?_); (case s1 => exact Kd.C_below HS.out.cc HS.out.be); rintro e w1 ⟨vr, rfl, hr, hb⟩; obtain ⟨Ar, cr, rfl⟩ := Kd.S_slice hr; obtain ⟨gr, cr', he, -⟩ := Kd.R_form (Kd.S_R hr) C3.out; (obtain ⟨rfl, -, rfl⟩ : Ar = some ⟨gr, 0, none⟩ ∧ True ∧ cr = cr' := by injection he with e1 e2 e3; exact ⟨e1, trivial, e3⟩); clear he; have HR := am hr; have HW := am hb; clear hr hb) | ((with_reducible refine ow_gateD (N := 6) rfl ?_); refine ow_boxIn rfl (N := 6) rfl (cs := #[.int .i64 0, .int .i64 0, .slice none 0 0]) (t := 42) rfl y28 ?_; intro gx hg w2 hx hb; have HX := am hx; have HR2 := am (Kd.S_below HR.out hb); have HW2 := am (below_step HW.out hb); have HG := am (show wr.heap.size ≤ gx by rw [hg]; exact HW.out.size); have hz0 := (blk_cell hx 0).trans rfl; have hz1 := (blk_cell hx 1).trans rfl; have hz2 := (blk_cell hx 2).trans rfl; have hf0 := blk_frozen hx 0; have hf1 := blk_frozen hx 1; have hf2 := blk_frozen hx 2; clear hg hx hb) | ((with_reducible refine ow_gateS (t := 42) (p := .tmp 6) rfl ?_); refine ow_storeIn rfl rfl (t := 42) (p := .tmp 6) rfl y28 ?_; intro w3 hw; clear hz0 hz1 hz2 hf0 hf1 hf2; have hx : w3.heap[gx]? = some (.cells #[.int .i64 d1, .int .i64 d2, .slice (some ⟨gr, 0, none⟩) rs.length cr] 42 (0, 0)) := y72; have HX3 := am hx; have HW3 := am (show Below wr.heap.size wr w3 by rw [hw]; exact below_set (below_set (below_set HW2.out HG.out) HG.out) HG.out); have HR3 := am (show Kd.S k26 26 w3 wr.heap.size (fun _ => True) (.slice (some ⟨gr, 0, none⟩) rs.length cr) rs by rw [hw]; exact Kd.S_set (Kd.S_set (Kd.S_set HR2.out HX.out (by decide) 0 _) (blk_set HX.out 0 _) (by decide) 1 _) (blk_set (blk_set HX.out 0 _) 1 _) (by decide) 2 _); clear hw HX HR2 HW2; have hz0 := (blk_cell hx 0).trans rfl; have hz1 := (blk_cell hx 1).trans rfl; have hz2 := (blk_cell hx 2).trans rfl; have hct : w3.cell? ⟨w0.heap.size + 3, 0, none⟩ = some (.int .i64 x1) := (blk_cell (HS.out.below HW3.out).bt 0).trans rfl; obtain ⟨ad, A6, c6, A7, c7, he, hs0, -⟩ := at_T26 (Kd.S_reads' HR3.out).2.2 0 (by omega) (Int.ofNat_lt.2 C3.out); cases he; simp only [show (0 : Int).toNat = 0 from rfl, Nat.zero_mul, Addr.add_zero'] at hs0;  clear hx))
   refine bodyPost_ret (results_none rfl _ _ _) rfl ?_
   have hE := HE'.out
   obtain ⟨rfl, rfl⟩ := hE
   exact ⟨⟨_, rfl⟩, _, _, _, _, HS.out.below HW3.out⟩
  ·
   obtain ⟨ji, hji⟩ : ∃ j, IntKind.i64.wrap ((rs.length : Int) - 1) = j := ⟨_, rfl⟩
   have HJ : Aside0 (rs.length ≤ 9223372036854775807 → ji = (rs.length : Int) - 1 ∧ 0 ≤ ji ∧ ji < (rs.length : Int)) := ⟨fun hl => by
    have h3 := C3.out
    have : ji = (rs.length : Int) - 1 := by rw [← hji, i64_w]; unfold wrap64; omega
    omega⟩
   obtain ⟨i0, hi, _, hsz, _⟩ := info_parts info5
   obtain ⟨A1, hcut, hA1, hC1⟩ := print_drop_of (P := Try.prog) (Value.int .u8) 0 27 5 .i64 Try.underlying27 hi hsz A0 c0 rest m HE'.out.2.1 HE'.out.2.2.1 HS.out.ci
   have HA1 := am (fun h => Kd.C_of_reads (h1 := fun _ => rfl) (hA1 w0 (Kd.reads_of_C (h1 := fun _ => rfl) h)))
   have HC1 := am hC1
   clear hA1 hC1 hi hsz
   gi_wp2_with (first | (with_reducible refine ow_skipN ?_) | (with_reducible refine ow_wideCall ?_; gi_at_call 29; (with_reducible refine (callsIn_wide.2 (block_Decode.calls k A0 c0 rest d1 d2 rs m e0 _ ?s1 HS.out.ci HD.out)).mono ?_); (case s1 => exact Kd.C_below HS.out.cc HS.out.be); rintro e w1 ⟨vr, rfl, hr, hb⟩; obtain ⟨Ar, cr, rfl⟩ := Kd.S_slice hr; obtain ⟨gr, cr', he, -⟩ := Kd.R_form (Kd.S_R hr) C3.out; (obtain ⟨rfl, -, rfl⟩ : Ar = some ⟨gr, 0, none⟩ ∧ True ∧ cr = cr' := by injection he with e1 e2 e3; exact ⟨e1, trivial, e3⟩); clear he; have HR := am hr; have HW := am hb; clear hr hb) | ((with_reducible refine ow_gateD (N := 6) rfl ?_); refine ow_boxIn rfl (N := 6) rfl (cs := #[.int .i64 0, .int .i64 0, .slice none 0 0]) (t := 42) rfl y28 ?_; intro gx hg w2 hx hb; have HX := am hx; have HR2 := am (Kd.S_below HR.out hb); have HW2 := am (below_step HW.out hb); have HG := am (show wr.heap.size ≤ gx by rw [hg]; exact HW.out.size); have hz0 := (blk_cell hx 0).trans rfl; have hz1 := (blk_cell hx 1).trans rfl; have hz2 := (blk_cell hx 2).trans rfl; have hf0 := blk_frozen hx 0; have hf1 := blk_frozen hx 1; have hf2 := blk_frozen hx 2; clear hg hx hb) | ((with_reducible refine ow_gateS (t := 42) (p := .tmp 6) rfl ?_); refine ow_storeIn rfl rfl (t := 42) (p := .tmp 6) rfl y28 ?_; intro w3 hw; clear hz0 hz1 hz2 hf0 hf1 hf2; have hx : w3.heap[gx]? = some (.cells #[.int .i64 d1, .int .i64 d2, .slice (some ⟨gr, 0, none⟩) rs.length cr] 42 (0, 0)) := y72; have HX3 := am hx; have HW3 := am (show Below wr.heap.size wr w3 by rw [hw]; exact below_set (below_set (below_set HW2.out HG.out) HG.out) HG.out); have HR3 := am (show Kd.S k26 26 w3 wr.heap.size (fun _ => True) (.slice (some ⟨gr, 0, none⟩) rs.length cr) rs by rw [hw]; exact Kd.S_set (Kd.S_set (Kd.S_set HR2.out HX.out (by decide) 0 _) (blk_set HX.out 0 _) (by decide) 1 _) (blk_set (blk_set HX.out 0 _) 1 _) (by decide) 2 _); clear hw HX HR2 HW2; have hz0 := (blk_cell hx 0).trans rfl; have hz1 := (blk_cell hx 1).trans rfl; have hz2 := (blk_cell hx 2).trans rfl; have hct : w3.cell? ⟨w0.heap.size + 3, 0, none⟩ = some (.int .i64 x1) := (blk_cell (HS.out.below HW3.out).bt 0).trans rfl; obtain ⟨ad, A6, c6, A7, c7, he, hs0, -⟩ := at_T26 (Kd.S_reads' HR3.out).2.2 0 (by omega) (Int.ofNat_lt.2 C3.out); cases he; simp only [show (0 : Int).toNat = 0 from rfl, Nat.zero_mul, Addr.add_zero'] at hs0; obtain ⟨fn, tmps, asg, bdy, hy, hR⟩ := hY A0 c0 rest used v acc w3 wr.heap.size ⟨d1, d2, rs⟩ (.slice (some ⟨gr, 0, none⟩) rs.length cr) m (HS.out.below HW3.out) (Kd.R_lt HS.out.rr) (blk_lt HS.out.ll) HW3.out.size HR3.out HE'.out.1; dsimp only at hy; have HRd := am hR; clear hR; clear hx))
   refine ow_wideRound (HRd.out.mono ?_)
   rintro e w4 ⟨rfl, v', hS4, hk4⟩
   clear hz0 hz1 hz2 hct hs0 hy
   have HS4 := am hS4
   have hx := (hk4 gx HG.out (blk_lt HX3.out)).trans HX3.out
   have hz2 := (blk_cell hx 2).trans rfl
   have hb4 := (blk_cell hS4.bb 0).trans rfl
   have hbf := blk_frozen hS4.bb 0
   have hrr := Kd.R_reads' (Kd.R_step (Kd.R_bound (Kd.S_R HR3.out)) (fun k hk hlt => hk4 k hk.2.1 hlt))
   have hji2 := HJ.out hrr.2.2.2.1
   obtain ⟨ad, A6, c6, A7, c7, he, hs1, -⟩ := at_T26 hrr.2.2 ji hji2.2.1 hji2.2.2
   cases he
   rw [add_plain] at hs1
   have hp1 := eq_true hji2.2.1
   have hp2 := eq_true hji2.2.2
   have HJ2 := am hji2
   clear hji2 hrr hx hS4 hk4
   have hgr : wr.heap.size ≤ gr := Kd.S_base HR3.out gr rfl
   have HN := am (show gx ≠ w0.heap.size + 2 ∧ gr ≠ w0.heap.size + 2 from by have h1 := HG.out; have h2 := blk_lt HS.out.ll; omega)
   clear hgr
   gi_wp2_with (first | ((with_reducible refine ow_gateS (t := 27) (p := .tmp 1) rfl ?_); refine ow_storeIn rfl rfl (t := 27) (p := .tmp 1) rfl y28 ?_; intro w5 hw; have HS5 := am (show collect_Blocks.St w0 lp x1 A1 (c0 - m.toNat) (rest.drop m.toNat) (wrap64 (used + m)) v' (acc ++ [⟨d1, d2, rs⟩]) w5 by rw [hw]; exact HS4.out.cutN HA1.out HC1.out); have hz3 : w5.cell? ⟨gx, 2, none⟩ = some (.slice (some ⟨gr, 0, none⟩) rs.length cr) := (by rw [hw]; exact (cell_far HN.out.1 _).trans hz2); have hs3 : w5.cell? ⟨gr, ji.toNat * 8, none⟩ = some (.int .i64 (rd_T26 rs ji).f0) := (by rw [hw]; exact (cell_far HN.out.2 _).trans hs1); clear hw hz2 hs1 hb4 hbf))
   go_roundw
   case rel => exact ⟨k, A1, c0 - m.toNat, rest.drop m.toNat, wrap64 (used + m), v', acc ++ [⟨d1, d2, rs⟩], wrap64 (recs + (rs.length : Int)), (rd_T26 rs ji).f0, rfl, rfl, by rw [HJ2.out.1]; exact HE'.out.2.2.2, HS5.out⟩
   case measure =>
    have hr : collect_Blocks.Rel w0 lp x1 r1 r2 (.int .i64 (wrap64 (recs + (rs.length : Int)))) (.int .i64 (rd_T26 rs ji).f0) w5 k := ⟨A1, c0 - m.toNat, rest.drop m.toNat, wrap64 (used + m), v', acc ++ [⟨d1, d2, rs⟩], wrap64 (recs + (rs.length : Int)), (rd_T26 rs ji).f0, rfl, rfl, by rw [HJ2.out.1]; exact HE'.out.2.2.2, HS5.out⟩
    exact Nat.lt_of_le_of_lt ((ow_mu_spec ⟨k, hr⟩).2 k hr) (Nat.lt_of_lt_of_eq (Nat.lt_succ_self k) HK.out.symm)
theorem ow_range {n : Nat} {P : Program} {g : Operand} {ps : Array Tmp} {assign body : Code} {Q : Exit → Act → World → Prop} {a : Act} {w : World} (gf : Nat) (lb : Array Value) (hg : a.eval g = .func (.func gf) #[] lb)
  (eg : ∀ args w, (callFunc gf args).run P w = .ok (.enter gf args) w)
  (h : ∀ lp : Loop, lp.state = .ready → lp.tmps = a.tmps → lp.params = ps → lp.assign = assign → lp.body = body → lp.pending = none →
   CallsIn Fence.wide (n - 1) P gf (#[.func (.yield (w.heap.size + 1)) #[] #[]] ++ lb) ((w.alloc (.deferred (some []))).alloc (.loop lp)) fun e W2 => (∃ v, e = .returned v) ∧ W2.heap[w.heap.size + 1]? = some (.loop lp) ∧
    Q .normal { a with defers := { target := .collected w.heap.size, args := #[] } :: a.defers } (W2.putObj (w.heap.size + 1) (.loop { lp with state := .exhausted }))) :
  (Code.rangeFunc g ps assign body).wpIn Fence.wide n P Q a w := by
 refine wpIn_rangeFunc ?_
 intro fn hfn
 obtain ⟨rec, hrec⟩ : ∃ rec : Loop, rec = { state := .ready, pending := none, fn, tmps := a.tmps, params := ps, assign, body, defers := w.heap.size } := ⟨_, rfl⟩
 refine ⟨w.heap.size + 1, [{ target := .collected w.heap.size, args := #[] }], _, { target := .fn (.func gf) lb, args := #[.func (.yield (w.heap.size + 1)) #[] #[]] }, (w.alloc (.deferred (some []))).alloc (.loop rec), gf,
  #[.func (.yield (w.heap.size + 1)) #[] #[]] ++ lb, (w.alloc (.deferred (some []))).alloc (.loop rec), run_enterLoop_outer _ _ _ _ _, ?_, ?_, ?_, fun h => absurd h (by decide), ?_⟩
 ·
  rw [hrec]
  simp only [resolve, hg]
  simp [go_sem]
 ·
  intro f' hf'
  trivial
 ·
  simp [invoke, go_sem, eg]
 ·
  refine (h rec (by rw [hrec]) (by rw [hrec]) (by rw [hrec]) (by rw [hrec]) (by rw [hrec]) (by rw [hrec])).mono ?_
  rintro e W2 ⟨⟨v, rfl⟩, hl, hq⟩
  subst hrec
  exact ⟨none, _, run_endLoop (P := P) hl (by simp), hq⟩
theorem ow_yield {n : Nat} {P : Program} {l : Nat} {lp : Loop} {ps : Array Tmp} {tmps args : Array Value} {assign body : Code} {W : World} {R : Ending → World → Prop} (hl : W.heap[l]? = some (.loop lp)) (hs : lp.state = .ready) (hn : lp.pending = none)
  (hps : lp.params = ps) (ht : lp.tmps = tmps) (ha : lp.assign = assign) (hb : lp.body = body) (hp : args.size = ps.size)
  (h : ∀ lp2 : Loop, assign.wpIn (Fence.wide.inRound l) n P (Exit.then (fun a₁ w₁ => w₁.heap[l]? = some (.loop lp) ∧ body.wpIn (Fence.wide.inRound l) n P (fun e _ W3 => e = .normal ∧ W3.heap[l]? = some (.loop lp2) ∧ R (.returned (.bool true)) (W3.putObj l (.loop lp))) a₁ (w₁.putObj l (.loop lp2))) (fun _ _ _ => False))
   { tmps := (ps.zip args).foldl (fun t (p, v) => t.setIfInBounds p v) tmps, defers := [] } W) : YieldAt Fence.wide n P l args W R := by
 subst hps ht ha hb
 refine ⟨lp.fn, _, lp.assign, lp.body, run_yield hl hp, roundIn_of_wpIn trivial (wpIn_mono (h { lp with state := .busy }) ?_)⟩
 intro e a₁ w₁ hq
 cases e with
 | normal =>
  refine ⟨_, run_beginRound hq.1 hs, wpIn_mono hq.2 ?_⟩
  rintro e2 a2 w3 ⟨rfl, hl3, hR⟩
  refine ⟨_, _, run_endRound none hl3, ?_⟩
  obtain ⟨st, pe, q3, q4, q5, q6, q7, q8⟩ := lp
  subst hs hn
  exact hR
 | exit id => exact hq.elim
 | goto t => exact hq.elim
 | ret => exact hq.elim
 | panic chain => exact hq.elim
 | outgrown => exact hq.elim
attribute [local go_sem] Oper.semAt_some
set_option maxHeartbeats 4000000 in
set_option maxRecDepth 100000 in
theorem collect_Blocks.calls (k : Nat) (A0 : Option Addr) (c0 : Nat) (l0 : List Int) (a1 : Int) (r1 : List (S42)) (r2 : Int) (w : World) (hr0 : Kd.C (Kd.int .u8) w A0 l0.length l0) (hc0 : l0.length ≤ c0) (h : collect_Blocks.f k l0 a1 = some (r1, r2)) :
  Calls Try.prog 32 #[.slice A0 l0.length c0, .int .i64 a1] w fun e w' => ∃ v0_ : Value, e = .returned (.tuple #[v0_, .int .i64 r2]) ∧ Kd.R k42 42 w' w.heap.size (fun _ => True) v0_ r1 ∧ Below w.heap.size w w' := by
 have HR0 := am hr0
 have HC0 := am hc0
 have HH := am (show collect_Blocks.l0 k a1 l0 [] 0 0 (-1) = some (r1, r2) from h)
 clear hr0 hc0 h
 refine (callsIn_wide (n := 3)).1 ?_
 refine callsIn_of_wp_marks Try.func32 rfl trivial ?_ rfl
 simp only [Try.ntmps32, List.size_toArray, List.length_cons, List.length_nil, Nat.reduceAdd, Nat.reduceSub, Array.replicate_succ, Array.replicate_zero, List.push_toArray, List.append_toArray, List.nil_append, List.cons_append]
 gi_wp2_with (first | (refine ⟨trivial, ?_⟩; gi_at_call 68; refine (callsIn_wide.2 (collect_Blocks.good _ _ _ _ _)).mono ?_; rintro e w' ⟨rfl, hw⟩; have HW := am hw; clear hw))
 obtain ⟨h1, h2, h3, h4, hz, hB⟩ : w'.heap[w.heap.size]? = some (.cells #[.slice none 0 0] 62 (0, 0)) ∧ w'.heap[w.heap.size + 1]? = some (.cells #[.int .i64 0] 3 (0, 0)) ∧ w'.heap[w.heap.size + 2]? = some (.cells #[.slice A0 l0.length c0] 27 (0, 0)) ∧ w'.heap[w.heap.size + 3]? = some (.cells #[.int .i64 a1] 3 (0, 0)) ∧ w'.heap.size = w.heap.size + 4 ∧ Below w.heap.size w w' := by
  rw [HW.out]
  refine ⟨?_, ?_, ?_, ?_, by simp, below_alloc (below_alloc (below_alloc (below_alloc (Below.refl _ _) _) _) _) _⟩
  ·
   exact (Below.heap_alloc _ _ _ (by simp <;> omega)).trans ((Below.heap_alloc _ _ _ (by simp <;> omega)).trans ((Below.heap_alloc _ _ _ (by simp)).trans (blk_new _ _)))
  ·
   have := blk_new (w.alloc (.cells #[.slice none 0 0] 62)) (.cells #[.int .i64 0] 3)
   rw [World.size_alloc] at this
   exact (Below.heap_alloc _ _ _ (by simp <;> omega)).trans ((Below.heap_alloc _ _ _ (by simp)).trans this)
  ·
   have := blk_new ((w.alloc (.cells #[.slice none 0 0] 62)).alloc (.cells #[.int .i64 0] 3)) (.cells #[.slice A0 l0.length c0] 27)
   rw [World.size_alloc, World.size_alloc] at this
   exact (Below.heap_alloc _ _ _ (by simp)).trans this
  ·
   have := blk_new (((w.alloc (.cells #[.slice none 0 0] 62)).alloc (.cells #[.int .i64 0] 3)).alloc (.cells #[.slice A0 l0.length c0] 27)) (.cells #[.int .i64 a1] 3)
   rw [World.size_alloc, World.size_alloc, World.size_alloc] at this
   exact this
 clear HW
 refine ow_range 84 _ rfl (enters_ Try.func84 (by kernel_rfl) rfl) ?_
 intro lp hs ht hpa has hbd hpe
 have hS : collect_Blocks.St w lp a1 A0 c0 l0 0 (.slice none 0 0) [] ((w'.alloc (.deferred (some []))).alloc (.loop lp)) := by
  have hb2 : Below w'.heap.size w' ((w'.alloc (.deferred (some []))).alloc (.loop lp)) := below_alloc (below_alloc (Below.refl _ _) _) _
  refine ⟨blk_below h1 hb2, blk_below h2 hb2, blk_below h3 hb2, blk_below h4 hb2, ?_, ?_, HR0.out, HC0.out, Kd.R_nil _ _ _ _ _, below_step hB hb2⟩
  ·
   rw [← hz]
   exact (Below.heap_alloc _ _ _ (by simp)).trans (World.alloc_heap_new _ _)
  ·
   have := World.alloc_heap_new (w'.alloc (.deferred (some []))) (.loop lp)
   rw [World.size_alloc, hz] at this
   exact this
 rw [hz]
 refine (collect_Blocks.iter w lp a1 r1 r2 2 ?hY k A0 c0 l0 0 (.slice none 0 0) [] _ hS HH.out).mono ?_
 case hY =>
  clear hS
  have HP := am (And.intro hs hpe)
  clear HH HR0 HC0 h1 h2 h3 h4 hz hB hs hpe
  intro A1 c1 rest used v acc W1 N x vr m hS hv hN hN1 hR hacc
  obtain ⟨Ar, cr, rfl⟩ := Kd.S_slice hR
  refine ow_yield hS.ll HP.out.1 HP.out.2 hpa ht has hbd rfl ?_
  intro lp2
  have HS := am hS
  have HV := am hv
  have HR := am hR
  have HA := am hacc
  have HN := am (And.intro hN hN1)
  clear hS hv hR hacc hN hN1 hpa has hbd ht
  gi_wp2
  have hb2 : Below W1.heap.size W1 (W1.alloc (.cells #[.int .i64 x.f0, .int .i64 x.f1, .slice Ar x.f2.length cr] 42)) := below_alloc (Below.refl _ _) _
  have hx2 := blk_new W1 (.cells #[.int .i64 x.f0, .int .i64 x.f1, .slice Ar x.f2.length cr] 42)
  generalize W1.alloc (.cells #[.int .i64 x.f0, .int .i64 x.f1, .slice Ar x.f2.length cr] 42) = W2 at hb2 hx2 ⊢
  have hS2 := HS.out.below hb2
  refine ⟨hS2.ll, ?_⟩
  have hl2 := blk_lt hS2.ll
  have ho : ∀ k, k ≠ w.heap.size + 5 → (W2.putObj (w.heap.size + 5) (.loop lp2)).heap[k]? = W2.heap[k]? := fun k hk => World.putObj_heap_other hk
  have hsz : (W2.putObj (w.heap.size + 5) (.loop lp2)).heap.size = W2.heap.size := World.putObj_size
  have hl3 : (W2.putObj (w.heap.size + 5) (.loop lp2)).heap[w.heap.size + 5]? = some (.loop lp2) := World.putObj_heap_same hl2
  have hB3 : Below w.heap.size w (W2.putObj (w.heap.size + 5) (.loop lp2)) := hS2.be.trans (belowK_b (w := w) (Nat.le_refl _) W2 _ _ _ (by omega) hS2.ll rfl rfl)
  have hr3 : Kd.R k42 42 (W2.putObj (w.heap.size + 5) (.loop lp2)) (w.heap.size + 6) (fun _ => True) v acc := Kd.R_mono (Kd.R_step (Kd.R_bound hS2.rr) (fun k hk _ => ho k (by have := hk.2.1; omega))) (fun _ _ => trivial)
  have hx3 : Kd.R k26 26 (W2.putObj (w.heap.size + 5) (.loop lp2)) (w.heap.size + 6) (fun k => N ≤ k) (.slice Ar x.f2.length cr) x.f2 := Kd.R_lower (Kd.R_mono (Kd.R_step (Kd.R_bound (Kd.S_R (Kd.S_below HR.out hb2))) (fun k hk _ => ho k (by have := hk.2.1; have := HN.out.1; omega))) (fun k hk => hk.2.1)) HN.out.1
  generalize W2.putObj (w.heap.size + 5) (.loop lp2) = W3 at ho hsz hl3 hB3 hr3 hx3 ⊢
  have hN := HN.out
  have hz1 : W3.heap[w.heap.size]? = _ := (ho _ (by omega)).trans hS2.bl
  have hz2 : W3.heap[w.heap.size + 1]? = _ := (ho _ (by omega)).trans hS2.bu
  have hz3 : W3.heap[W1.heap.size]? = _ := (ho _ (by omega)).trans hx2
  obtain ⟨Av, cv, rfl⟩ := Kd.R_slice hr3
  have hc1 := (blk_cell hz1 0).trans rfl
  have hc2 := (blk_cell hz2 0).trans rfl
  have hf1 := blk_frozen hz1 0
  have hf2 := blk_frozen hz2 0
  have hg0 := (blk_cell hz3 0).trans rfl
  have hg1 := (blk_cell hz3 1).trans rfl
  have hg2 := (blk_cell hz3 2).trans rfl
  have HR3 := am hr3
  have HX3 := am hx3
  have HB3 := am hB3
  have HO := am ho
  have HS2 := am hS2
  have HB2 := am hb2
  have HZ := am (And.intro hz1 hz2)
  have HSZ := am (show w.heap.size + 6 ≤ W3.heap.size ∧ W2.heap.size = W3.heap.size by omega)
  have HL3 := am hl3
  clear hr3 hx3 hB3 ho hS2 hb2 hz1 hz2 hz3 hsz hl3 hx2 hl2 hN
  gi_wp2_with (first | ((with_reducible refine ow_gateB (b := .append) (xs := #[.tmp 15, .tmp 17]) rfl ?_); refine ow_appendIn k42 (w0 := W3) (W := W3) (w.heap.size + 6) rfl (.tmp 15) (.tmp 17) 62 42 (.agg #[.int .i64 0, .int .i64 0, .slice none 0 0]) 40 rfl Try.underlying62 info42 rfl (by decide) (by omega) (.slice Av acc.length cv) acc x [.int .i64 x.f0, .int .i64 x.f1, .slice Ar x.f2.length cr] (fun _ => True) (fun k => True ∧ some k ≠ (Value.slice Av acc.length cv).ownBlock) rfl rfl (k42_mkM _ _ _ x (Kd.R_mono (Kd.R_apart' HX3.out (Kd.R_typed HR3.out) (by decide)) (fun k hk => ⟨trivial, hk.2⟩))) (fun _ hk => hk) (fun _ _ => trivial) HR3.out (Below.refl _ _) HSZ.out.1 (by have := HA.out; omega) ?_; intro v1 w1 hR1 hB1 hg1 _; obtain ⟨A2, c2, he⟩ := Kd.R_slice hR1; rw [List.length_append, List.length_singleton] at he; subst he; have HR1 := am hR1; have HB1 := am hB1; have HG1 := am hg1; clear hc1 hc2 hf1 hf2 hg0 hg1 hg2 hR1; have h1 := (hB1.block w.heap.size (by omega)).trans HZ.out.1; have h2 := (hB1.block (w.heap.size + 1) (by omega)).trans HZ.out.2; have hc1 := (blk_cell h1 0).trans rfl; have hf1 := blk_frozen h1 0; have HQ := am (And.intro h1 h2); clear h1 h2 hB1) | ((with_reducible refine ow_gateS (t := 62) (p := .tmp 6) rfl ?_); refine ow_storeIn rfl rfl (t := 62) (p := .tmp 6) rfl y28 ?_; intro w4 hw; have HW4 := am hw; have h2 : w4.heap[w.heap.size + 1]? = some (.cells #[.int .i64 used] 3 (0, 0)) := (by rw [hw]; exact blk_far HQ.out.2 (by simp) _); have hc2 := (blk_cell h2 0).trans rfl; have hf2 := blk_frozen h2 0; have H2 := am h2; clear hw hc1 hf1 h2))
  have e5 : ∀ k, k ≠ w.heap.size → k ≠ w.heap.size + 1 → (w4.setCell ⟨w.heap.size + 1, 0, none⟩ (.int .i64 (wrap64 (used + m)))).heap[k]? = w1.heap[k]? := fun k h1 h2 => (Below.heap_setCell _ _ _ _ h2).trans (by rw [HW4.out]; exact Below.heap_setCell _ _ _ _ h1)
  have h5 : (w4.setCell ⟨w.heap.size + 1, 0, none⟩ (.int .i64 (wrap64 (used + m)))).heap[w.heap.size]? = some (.cells #[.slice A2 (acc.length + 1) c2] 62 (0, 0)) := (Below.heap_setCell _ _ _ _ (by simp)).trans (by rw [HW4.out]; simpa using blk_set HQ.out.1 0 (.slice A2 (acc.length + 1) c2))
  have h6 : (w4.setCell ⟨w.heap.size + 1, 0, none⟩ (.int .i64 (wrap64 (used + m)))).heap[w.heap.size + 1]? = some (.cells #[.int .i64 (wrap64 (used + m))] 3 (0, 0)) := by simpa using blk_set H2.out 0 (.int .i64 (wrap64 (used + m)))
  have h7 := (e5 (w.heap.size + 5) (by omega) (by omega)).trans ((HB1.out.block _ (by omega)).trans HL3.out)
  have h8 : Kd.R k42 42 (w4.setCell ⟨w.heap.size + 1, 0, none⟩ (.int .i64 (wrap64 (used + m)))) (w.heap.size + 6) (fun _ => True) (.slice A2 (acc.length + 1) c2) (acc ++ [x]) := Kd.R_mono (Kd.R_step (Kd.R_bound HR1.out) (fun k hk _ => e5 k (by have := hk.2.1; omega) (by have := hk.2.1; omega))) (fun _ _ => trivial)
  have h9 : Below w.heap.size w (w4.setCell ⟨w.heap.size + 1, 0, none⟩ (.int .i64 (wrap64 (used + m)))) := below_set (by rw [HW4.out]; exact below_set (HB3.out.trans (HB1.out.mono (by omega))) (Nat.le_refl _)) (by omega)
  generalize w4.setCell ⟨w.heap.size + 1, 0, none⟩ (.int .i64 (wrap64 (used + m))) = W5 at e5 h5 h6 h7 h8 h9 ⊢
  have e6 : ∀ k, w.heap.size + 1 < k → k < w.heap.size + 5 → (W5.putObj (w.heap.size + 5) (.loop lp)).heap[k]? = W2.heap[k]? := fun k h1 h2 => (World.putObj_heap_other (by omega)).trans ((e5 k (by omega) (by omega)).trans ((HB1.out.block _ (by omega)).trans (HO.out k (by omega))))
  refine ⟨h7, ⟨_, (World.putObj_heap_other (by omega)).trans h5, (World.putObj_heap_other (by omega)).trans h6, (e6 _ (by omega) (by omega)).trans HS2.out.bb, (e6 _ (by omega) (by omega)).trans HS2.out.bt, (e6 _ (by omega) (by omega)).trans HS2.out.dd, World.putObj_heap_same (blk_lt h7), HS2.out.cc, HS2.out.ci, Kd.R_mono (Kd.R_step (Kd.R_bound h8) (fun k hk _ => World.putObj_heap_other (by have := hk.2.1; omega))) (fun _ _ => trivial), h9.trans (belowK_b (w := w) (Nat.le_refl _) W5 _ _ _ (by omega) h7 rfl rfl)⟩, ?_⟩
  intro k hk hlt
  have hN := HN.out
  have hne : some k ≠ (Value.slice Av acc.length cv).ownBlock := fun e => by have := HV.out k e.symm; omega
  have hl2 : k < W3.heap.size := by have := HB2.out.size; have := HSZ.out.2; omega
  exact (World.putObj_heap_other (by omega)).trans ((e5 k (by omega) (by omega)).trans ((HG1.out.block k hl2 hne).trans ((HO.out k (by omega)).trans (HB2.out.block k hlt))))
 rintro e W2 ⟨he, A, c, b, v, h5⟩
 refine ⟨he, h5.ll, ?_⟩
 have hr5 : Kd.R k42 42 (W2.putObj (w.heap.size + 4 + 1) (.loop { lp with state := .exhausted })) (w.heap.size + 6) (fun _ => True) v r1 := Kd.R_mono (Kd.R_step (Kd.R_bound h5.rr) (fun k hk _ => World.putObj_heap_other (by have := hk.2.1; omega))) (fun _ _ => trivial)
 have hb5 : Below w.heap.size w (W2.putObj (w.heap.size + 4 + 1) (.loop { lp with state := .exhausted })) := h5.be.trans (belowK_b (w := w) (Nat.le_refl _) W2 _ _ _ (by omega) h5.ll rfl rfl)
 have hc1 := (World.putObj_heap_other (o := .loop { lp with state := .exhausted }) (r := w.heap.size + 4 + 1) (by omega)).trans h5.bl
 have hc2 := (World.putObj_heap_other (o := .loop { lp with state := .exhausted }) (r := w.heap.size + 4 + 1) (by omega)).trans h5.bu
 have hc3 := (World.putObj_heap_other (o := .loop { lp with state := .exhausted }) (r := w.heap.size + 4 + 1) (by omega)).trans h5.dd
 generalize W2.putObj (w.heap.size + 4 + 1) (.loop { lp with state := .exhausted }) = W3 at hr5 hb5 hc1 hc2 hc3 ⊢
 have hz1 := (blk_cell hc1 0).trans rfl
 have hz2 := (blk_cell hc2 0).trans rfl
 have HR5 := am hr5
 have HB5 := am hb5
 have HK := am hc3
 clear hr5 hb5 hc1 hc2 hc3 h5 hS hs ht hpa has hbd hpe h1 h2 h3 h4 hB hz
 have hm : Try.prog.follows .mixedOrders = true := by kernel_rfl
 gi_wp2
 gi_region
 all_goals gi_wp2
 have hk6 : W3.drew.heap[w.heap.size + 4]? = some (.deferred (some [])) := HK.out
 refine ⟨by simp, .inl ⟨_, _, rfl, run_takeDeferred hk6, ?_⟩⟩
 refine ⟨_, results_tmp2 rfl _ _ _, v, rfl, ?_, ?_⟩
 ·
  exact Kd.R_lower (Kd.R_mono (Kd.R_step (Kd.R_bound (Kd.R_drew HR5.out)) (fun k hk _ => World.putObj_heap_other (by have := hk.2.1; omega))) (fun _ _ => trivial)) (by omega)
 ·
  exact (below_drew1 HB5.out).trans (belowK_b (w := w) (Nat.le_refl _) _ _ _ _ (by omega) hk6 rfl rfl)
mutual
def j11_Int.l0 : Nat → List Int → Int → Int → Option (Int × Int × Int)
 | 0, _, _, _ => none
 | k + 1, x0, x5, x6 => if x6 < 10 then (if x6 ≥ (x0.length : Int) then (some (0, 0, 9)) else (if x6 = 9 then (if 0 ≤ x6 then (if x6 < (x0.length : Int) then (j11_Int.j1 k x0 x5 x6 (decide ((rd x0 x6) > 1))) else (none)) else (none)) else (j11_Int.j1 k x0 x5 x6 false))) else (some (0, 0, 11))
def j11_Int.j1 : Nat → List Int → Int → Int → Bool → Option (Int × Int × Int)
 | 0, _, _, _, _ => none
 | k + 1, x0, x5, x6, x24 => if x24 = true then (some (0, 0, 11)) else (if 0 ≤ x6 then (if x6 < (x0.length : Int) then (if 0 ≤ (IntKind.u64.wrap (wrap64 (7 * x6))) then (if (rd x0 x6) < 128 then (if x6 > 0 then (j11_Int.j2 k (Go.bits .or .u64 x5 (shl .u64 (IntKind.u64.wrap (Go.bits .and .u8 (rd x0 x6) 127)) (IntKind.u64.wrap (wrap64 (7 * x6))))) x6 ((rd x0 x6) == 0)) else (j11_Int.j2 k (Go.bits .or .u64 x5 (shl .u64 (IntKind.u64.wrap (Go.bits .and .u8 (rd x0 x6) 127)) (IntKind.u64.wrap (wrap64 (7 * x6))))) x6 false)) else (j11_Int.l0 k x0 (Go.bits .or .u64 x5 (shl .u64 (IntKind.u64.wrap (Go.bits .and .u8 (rd x0 x6) 127)) (IntKind.u64.wrap (wrap64 (7 * x6))))) (wrap64 (x6 + 1)))) else (none)) else (none)) else (none))
def j11_Int.j2 : Nat → Int → Int → Bool → Option (Int × Int × Int)
 | 0, _, _, _ => none
 | k + 1, x5, x6, x50 => if x50 = true then (some (0, 0, 11)) else (if (Go.bits .and .u64 x5 1) = 1 then (some (Go.bits .xor .i64 (-1) (wrap64 (x5 / 2)), wrap64 (x6 + 1), 0)) else (some (wrap64 (x5 / 2), wrap64 (x6 + 1), 0)))
end
def j11_Int.f (k : Nat) (l0 : List Int) : Option (Int × Int × Int) := j11_Int.l0 k l0 0 0
theorem j11_Int.mono_l : ∀ k, (∀ y0 y1 y2, LeO (j11_Int.l0 k y0 y1 y2) (j11_Int.l0 (k + 1) y0 y1 y2)) ∧ (∀ y0 y1 y2 y3, LeO (j11_Int.j1 k y0 y1 y2 y3) (j11_Int.j1 (k + 1) y0 y1 y2 y3)) ∧ (∀ y0 y1 y2, LeO (j11_Int.j2 k y0 y1 y2) (j11_Int.j2 (k + 1) y0 y1 y2))
 | 0 => ⟨fun _ _ _ r h => by simp [j11_Int.l0] at h, fun _ _ _ _ r h => by simp [j11_Int.j1] at h, fun _ _ _ r h => by simp [j11_Int.j2] at h⟩
 | k + 1 => by
  obtain ⟨ih0, ih1, ih2⟩ := j11_Int.mono_l k
  refine ⟨?_, ?_, ?_⟩
  ·
   intro y0 y1 y2
   unfold j11_Int.l0
   exact zM
  ·
   intro y0 y1 y2 y3
   unfold j11_Int.j1
   exact zM
  ·
   intro y0 y1 y2
   unfold j11_Int.j2
   exact zM
theorem j11_Int.mono : ∀ a0 k, LeO (j11_Int.f k a0) (j11_Int.f (k + 1) a0) := by
 intro a0 k
 obtain ⟨ih0, ih1, ih2⟩ := j11_Int.mono_l k
 unfold j11_Int.f
 exact zM
set_option maxHeartbeats 8000000 in
set_option maxRecDepth 100000 in
theorem j11_Int.calls (k : Nat) (A0 : Option Addr) (c0 : Nat) (l0 : List Int) (r1 : Int) (r2 : Int) (r3 : Int) (w : World) (hr0 : Kd.C (Kd.int .u8) w A0 l0.length l0) (hc0 : l0.length ≤ c0) (h : j11_Int.f k l0 = some (r1, r2, r3)) :
  Calls Try.prog 76 #[.slice A0 l0.length c0] w fun e w' => e = .returned (.tuple #[.int .i64 r1, .int .i64 r2, .int .i64 r3]) ∧ Drawn0 w w' := by
 have HR0 := am hr0
 have HC0 := am hc0
 clear hr0 hc0
 have H : (j11_Int.l0 k l0 0 0) = some (r1, r2, r3) := h
 clear h
 have H' := am H
 clear H
 go_enter Try.func76, Try.ntmps76
 go_wp2
 go_loopg [5, 6] k (fun kq v5 v6 w' => ∃ (x5_1 : Int) (x6_1 : Int), v5 = .int .u64 x5_1 ∧ v6 = .int .i64 x6_1 ∧ Aside0 (j11_Int.l0 kq l0 x5_1 x6_1 = some (r1, r2, r3)) ∧ Aside0 (kq ≤ k) ∧ Drawn0 w w')
 case atStart => exact ⟨(0), (0), zr, zr, H', ⟨Nat.le_refl _⟩, by repeat (first | exact Drawn0.refl _ | apply Drawn0.step)⟩
 case round =>
  clear H'
  obtain ⟨x5_1, x6_1, rfl, rfl, HA, HK1, ⟨m1, rfl⟩⟩ := hrel
  cases gk with
  | zero => exact absurd HA.out (by simp [j11_Int.l0])
  | succ k1 =>
   have H := HA.out
   clear HA
   simp only [j11_Int.l0] at H
   by_cases c2 : x6_1 < 10
   ·
    rw [if_pos c2] at H
    have c2b0 := decide_eq_true c2
    clear c2
    by_cases c3 : x6_1 ≥ (l0.length : Int)
    ·
     rw [if_pos c3] at H
     have c3b0 : decide ((l0.length : Int) ≤ x6_1) = true := decide_eq_true c3
     clear c3
     simp only [Option.some.injEq, Prod.mk.injEq] at H
     obtain ⟨rfl, rfl, rfl⟩ := H
     go_wp2
     go_ret3
     exact y13
    ·
     rw [if_neg c3] at H
     have c3b0 : decide ((l0.length : Int) ≤ x6_1) = false := decide_eq_false c3
     clear c3
     have HC4 := am H
     clear H
     go_upto_region 7 with (fail)
     go_cut [24] (fun v24 wc => ∃ (kq : Nat) (x24_3 : Bool), v24 = .bool x24_3 ∧ Aside0 (j11_Int.j1 kq l0 x5_1 x6_1 x24_3 = some (r1, r2, r3)) ∧ Aside0 (kq ≤ k1) ∧ Drawn0 w wc)
     case first =>
      have H := HC4.out
      clear HC4
      by_cases c5 : x6_1 = 9
      ·
       rw [if_pos c5] at H
       obtain ⟨c5b0, c5b1⟩ := zt c5
       clear c5
       (first | rw [c5b0] | (simp only [i64_w, i32_w]; rw [c5b0]) | skip)
       by_cases c6 : 0 ≤ x6_1
       ·
        rw [if_pos c6] at H
        have c6b0 := decide_eq_true c6
        clear c6
        by_cases c7 : x6_1 < (l0.length : Int)
        ·
         rw [if_pos c7] at H
         have c7b0 := decide_eq_true c7
         clear c7
         have H' := am H
         clear H
         have p231 : 0 ≤ (x6_1 : Int) := zo
         have q231 : x6_1 < (l0.length : Int) := zo
         obtain ⟨ad231, e231, hx231_0⟩ := Kd.at_int HR0.out x6_1 p231 q231
         cases e231
         replace p231 := eq_true p231
         replace q231 := eq_true q231
         go_wp2
         go_meet
         case rel => exact ⟨_, (decide ((rd l0 x6_1) > 1)), zr, H', ⟨by have := HK1.out; first | omega | exact Nat.le_refl _⟩, by repeat (first | exact Drawn0.refl _ | apply Drawn0.step)⟩
        ·
         rw [if_neg c7] at H
         exact absurd H (by simp)
       ·
        rw [if_neg c6] at H
        exact absurd H (by simp)
      ·
       rw [if_neg c5] at H
       obtain ⟨c5b0, c5b1⟩ := zs c5
       (first | rw [c5b0] | (simp only [i64_w, i32_w]; rw [c5b0]) | skip)
       have H' := am H
       clear H
       go_wp2
       go_meet
       case rel => exact y70
     case rest =>
      clear HC4
      obtain ⟨kq, x24_3, rfl, HA, HJ3, ⟨mc3, rfl⟩⟩ := hcut
      cases kq with
      | zero => exact absurd HA.out (by simp [j11_Int.j1])
      | succ kj3 =>
       have H := HA.out
       clear HA
       simp only [j11_Int.j1] at H
       by_cases c8 : x24_3 = true
       ·
        subst c8
        have H1 : (some (0, 0, 11)) = some (r1, r2, r3) := by rw [if_pos rfl] at H; exact H
        clear H
        have H := H1
        clear H1
        simp only [Option.some.injEq, Prod.mk.injEq] at H
        obtain ⟨rfl, rfl, rfl⟩ := H
        go_wp2
        go_ret3
        exact y13
       ·
        replace c8 := Bool.eq_false_iff.mpr c8
        subst c8
        have H1 : (if 0 ≤ x6_1 then (if x6_1 < (l0.length : Int) then (if 0 ≤ (IntKind.u64.wrap (wrap64 (7 * x6_1))) then (if (rd l0 x6_1) < 128 then (if x6_1 > 0 then (j11_Int.j2 kj3 (Go.bits .or .u64 x5_1 (shl .u64 (IntKind.u64.wrap (Go.bits .and .u8 (rd l0 x6_1) 127)) (IntKind.u64.wrap (wrap64 (7 * x6_1))))) x6_1 ((rd l0 x6_1) == 0)) else (j11_Int.j2 kj3 (Go.bits .or .u64 x5_1 (shl .u64 (IntKind.u64.wrap (Go.bits .and .u8 (rd l0 x6_1) 127)) (IntKind.u64.wrap (wrap64 (7 * x6_1))))) x6_1 false)) else (j11_Int.l0 kj3 l0 (Go.bits .or .u64 x5_1 (shl .u64 (IntKind.u64.wrap (Go.bits .and .u8 (rd l0 x6_1) 127)) (IntKind.u64.wrap (wrap64 (7 * x6_1))))) (wrap64 (x6_1 + 1)))) else (none)) else (none)) else (none)) = some (r1, r2, r3) := by rw [if_neg (show ¬ (false = true) by decide)] at H; exact H
        clear H
        have H := H1
        clear H1
        by_cases c9 : 0 ≤ x6_1
        ·
         rw [if_pos c9] at H
         have c9b0 := decide_eq_true c9
         clear c9
         by_cases c10 : x6_1 < (l0.length : Int)
         ·
          rw [if_pos c10] at H
          have c10b0 := decide_eq_true c10
          clear c10
          obtain ⟨ji11, hji11⟩ : ∃ j_ : Int, (IntKind.u64.wrap (wrap64 (7 * x6_1))) = j_ := ⟨_, rfl⟩
          (first | rw [hji11] at H | simp only [hji11] at H)
          by_cases c12 : 0 ≤ (ji11)
          ·
           rw [if_pos c12] at H
           have c12b0 := eq_true c12
           have c12b1 : decide (0 ≤ (ji11)) = true := decide_eq_true c12
           clear c12
           obtain ⟨ji13, hji13⟩ : ∃ j_ : Int, (shl .u64 (IntKind.u64.wrap (Go.bits .and .u8 (rd l0 x6_1) 127)) (ji11)) = j_ := ⟨_, rfl⟩
           (first | rw [hji13] at H | simp only [hji13] at H)
           have hji13_ : (IntKind.u64.wrap ((IntKind.u64.wrap (Go.bits .and .u8 (rd l0 x6_1) 127)) * 2 ^ min (ji11).toNat 64)) = ji13 := hji13
           have hji13z : (ji11) ≤ 64 → (IntKind.u64.wrap ((IntKind.u64.wrap (Go.bits .and .u8 (rd l0 x6_1) 127)) * 2 ^ (ji11).toNat)) = ji13 := shl_small hji13
           by_cases c14 : (rd l0 x6_1) < 128
           ·
            rw [if_pos c14] at H
            have c14b0 := decide_eq_true c14
            clear c14
            have HC15 := am H
            clear H
            have p232 : 0 ≤ (x6_1 : Int) := zo
            have q232 : x6_1 < (l0.length : Int) := zo
            obtain ⟨ad232, e232, hx232_0⟩ := Kd.at_int HR0.out x6_1 p232 q232
            cases e232
            replace p232 := eq_true p232
            replace q232 := eq_true q232
            have p233 : 0 ≤ (x6_1 : Int) := zo
            have q233 : x6_1 < (l0.length : Int) := zo
            obtain ⟨ad233, e233, hx233_0⟩ := Kd.at_int HR0.out x6_1 p233 q233
            obtain rfl : ad232 = ad233 := (by injection e233)
            replace p233 := eq_true p233
            replace q233 := eq_true q233
            go_upto_region 11 with (fail)
            go_cut [50] (fun v50 wc => ∃ (kq : Nat) (x50_14 : Bool), v50 = .bool x50_14 ∧ Aside0 (j11_Int.j2 kq (Go.bits .or .u64 x5_1 (ji13)) x6_1 x50_14 = some (r1, r2, r3)) ∧ Aside0 (kq ≤ kj3) ∧ Drawn0 w wc)
            case first =>
             have H := HC15.out
             clear HC15
             by_cases c16 : x6_1 > 0
             ·
              rw [if_pos c16] at H
              have c16b0 : decide (0 < x6_1) = true := decide_eq_true c16
              clear c16
              (first | rw [c16b0] | (simp only [i64_w, i32_w]; rw [c16b0]) | skip)
              have H' := am H
              clear H
              have p234 : 0 ≤ (x6_1 : Int) := zo
              have q234 : x6_1 < (l0.length : Int) := zo
              obtain ⟨ad234, e234, hx234_0⟩ := Kd.at_int HR0.out x6_1 p234 q234
              obtain rfl : ad232 = ad234 := (by injection e234)
              replace p234 := eq_true p234
              replace q234 := eq_true q234
              go_wp2
              go_meet
              case rel => exact ⟨_, (((rd l0 x6_1) == 0)), zr, H', ⟨by have := HK1.out; have := HJ3.out; first | omega | exact Nat.le_refl _⟩, by repeat (first | exact Drawn0.refl _ | apply Drawn0.step)⟩
             ·
              rw [if_neg c16] at H
              have c16b0 : decide (0 < x6_1) = false := decide_eq_false c16
              clear c16
              (first | rw [c16b0] | (simp only [i64_w, i32_w]; rw [c16b0]) | skip)
              have H' := am H
              clear H
              go_wp2
              go_meet
              case rel => exact ⟨_, (false), zr, H', ⟨by have := HK1.out; have := HJ3.out; first | omega | exact Nat.le_refl _⟩, by repeat (first | exact Drawn0.refl _ | apply Drawn0.step)⟩
            case rest =>
             clear HC15
             obtain ⟨kq, x50_14, rfl, HA, HJ14, ⟨mc14, rfl⟩⟩ := hcut
             cases kq with
             | zero => exact absurd HA.out (by simp [j11_Int.j2])
             | succ kj14 =>
              have H := HA.out
              clear HA
              simp only [j11_Int.j2] at H
              by_cases c17 : x50_14 = true
              ·
               subst c17
               have H1 : (some (0, 0, 11)) = some (r1, r2, r3) := by rw [if_pos rfl] at H; exact H
               clear H
               have H := H1
               clear H1
               simp only [Option.some.injEq, Prod.mk.injEq] at H
               obtain ⟨rfl, rfl, rfl⟩ := H
               go_wp2
               go_ret3
               exact y50
              ·
               replace c17 := Bool.eq_false_iff.mpr c17
               subst c17
               have H1 : (if (Go.bits .and .u64 (Go.bits .or .u64 x5_1 (ji13)) 1) = 1 then (some (Go.bits .xor .i64 (-1) (wrap64 ((Go.bits .or .u64 x5_1 (ji13)) / 2)), wrap64 (x6_1 + 1), 0)) else (some (wrap64 ((Go.bits .or .u64 x5_1 (ji13)) / 2), wrap64 (x6_1 + 1), 0))) = some (r1, r2, r3) := by rw [if_neg (show ¬ (false = true) by decide)] at H; exact H
               clear H
               have H := H1
               clear H1
               by_cases c18 : (Go.bits .and .u64 (Go.bits .or .u64 x5_1 (ji13)) 1) = 1
               ·
                rw [if_pos c18] at H
                obtain ⟨c18b0, c18b1⟩ := zt c18
                clear c18
                simp only [Option.some.injEq, Prod.mk.injEq] at H
                obtain ⟨rfl, rfl, rfl⟩ := H
                go_wp2
                go_ret3
                exact y50
               ·
                rw [if_neg c18] at H
                obtain ⟨c18b0, c18b1⟩ := zs c18
                simp only [Option.some.injEq, Prod.mk.injEq] at H
                obtain ⟨rfl, rfl, rfl⟩ := H
                go_wp2
                go_ret3
                exact y50
           ·
            rw [if_neg c14] at H
            have c14b0 := decide_eq_false c14
            clear c14
            have H' := am H
            clear H
            have p232 : 0 ≤ (x6_1 : Int) := zo
            have q232 : x6_1 < (l0.length : Int) := zo
            obtain ⟨ad232, e232, hx232_0⟩ := Kd.at_int HR0.out x6_1 p232 q232
            cases e232
            replace p232 := eq_true p232
            replace q232 := eq_true q232
            have p233 : 0 ≤ (x6_1 : Int) := zo
            have q233 : x6_1 < (l0.length : Int) := zo
            obtain ⟨ad233, e233, hx233_0⟩ := Kd.at_int HR0.out x6_1 p233 q233
            obtain rfl : ad232 = ad233 := (by injection e233)
            replace p233 := eq_true p233
            replace q233 := eq_true q233
            go_wp2
            go_roundg kj3
            case measure => have := HK1.out; have := HJ3.out; omega
            case rel => exact ⟨(Go.bits .or .u64 x5_1 (ji13)), (wrap64 (x6_1 + 1)), (by first | rfl | (simp; done) | (simp only [← hji13] <;> (first | rfl | simp)) | (simp [*]; done)), zr, H', ⟨by have := HK1.out; have := HJ3.out; omega⟩, by repeat (first | exact Drawn0.refl _ | apply Drawn0.step)⟩
          ·
           rw [if_neg c12] at H
           exact absurd H (by simp)
         ·
          rw [if_neg c10] at H
          exact absurd H (by simp)
        ·
         rw [if_neg c9] at H
         exact absurd H (by simp)
   ·
    rw [if_neg c2] at H
    have c2b0 := decide_eq_false c2
    clear c2
    simp only [Option.some.injEq, Prod.mk.injEq] at H
    obtain ⟨rfl, rfl, rfl⟩ := H
    go_wp2
    go_ret3
    exact y13
def IsS94 (w0 W : World) (g : Nat) (f0 : List Int) (f1 : Int) (f2 : Int) : Prop := ∃ A0 c0, W.heap[g]? = some (.cells #[.slice A0 f0.length c0, .int .i64 f1, .int .i64 f2] 94 (0, 0)) ∧ w0.heap.size ≤ g ∧ (Kd.C (Kd.int .u8) w0 A0 f0.length f0 ∧ f0.length ≤ c0)
theorem IsS94.grown {w0 W : World} {g : Nat} {f0 : List Int} {f1 : Int} {f2 : Int} {W1 : World} {row : Option Nat} (h : IsS94 w0 W g f0 f1 f2) (hw : W.grownBy W1 row) (hne : some g ≠ row) : IsS94 w0 W1 g f0 f1 f2 := by
 obtain ⟨A0, c0, hb, hg, hr0⟩ := h
 exact ⟨A0, c0, blk_grown hb hw hne, hg, hr0⟩
theorem IsS94.kept {w0 W : World} {g : Nat} {f0 : List Int} {f1 : Int} {f2 : Int} {W1 : World} {S : Nat → Prop} (h : IsS94 w0 W g f0 f1 f2) (hk : Kept W W1 S) (hne : ¬ S g) : IsS94 w0 W1 g f0 f1 f2 := by
 obtain ⟨A0, c0, hb, hg, hr0⟩ := h
 exact ⟨A0, c0, blk_kept hb hk hne, hg, hr0⟩
theorem IsS94.below {w0 W : World} {g : Nat} {f0 : List Int} {f1 : Int} {f2 : Int} {W1 : World} (h : IsS94 w0 W g f0 f1 f2) (hw : Below W.heap.size W W1) : IsS94 w0 W1 g f0 f1 f2 := h.grown (grown_of_below hw none) (by simp)
theorem IsS94.alloc {w0 W : World} {g : Nat} {f0 : List Int} {f1 : Int} {f2 : Int} (h : IsS94 w0 W g f0 f1 f2) (o : Obj) : IsS94 w0 (W.alloc o) g f0 f1 f2 := h.below (below_alloc (Below.refl _ _) o)
theorem IsS94.drewN {w0 W : World} {g : Nat} {f0 : List Int} {f1 : Int} {f2 : Int} (h : IsS94 w0 W g f0 f1 f2) (m : Nat) : IsS94 w0 (W.drewN m) g f0 f1 f2 := h
theorem IsS94.drew {w0 W : World} {g : Nat} {f0 : List Int} {f1 : Int} {f2 : Int} (h : IsS94 w0 W g f0 f1 f2) : IsS94 w0 W.drew g f0 f1 f2 := h
theorem IsS94.at_ {w0 W : World} {g : Nat} {f0 : List Int} {f1 : Int} {f2 : Int} {w' : World} {m : Nat} (hq : W.drewN m = w') (h : IsS94 w0 W g f0 f1 f2) : IsS94 w0 w' g f0 f1 f2 := by subst hq; exact IsS94.drewN h m
theorem IsS94.apart {w0 W : World} {g : Nat} {f0 : List Int} {f1 : Int} {f2 : Int} {α : Type} {d : Kd α} {e : Nat} {base : Nat} {ok : Nat → Prop} {v : Value} {xs : List α} (h : IsS94 w0 W g f0 f1 f2) (ho : d.R e W base ok v xs) (ht : ∀ q, q ∈ e :: d.E → q ≠ 94) : d.R e W base (fun k => ok k ∧ k ≠ g) v xs := by
 obtain ⟨A0, c0, hb, hg, hr0⟩ := h
 exact Kd.R_types ho hb ht
theorem IsS94.own_ne {w0 W : World} {g : Nat} {f0 : List Int} {f1 : Int} {f2 : Int} {α : Type} {d : Kd α} {e : Nat} {base : Nat} {ok : Nat → Prop} {v : Value} {xs : List α} (h : IsS94 w0 W g f0 f1 f2) (ho : d.R e W base ok v xs) (ht : e ≠ 94) : some g ≠ v.ownBlock := by
 obtain ⟨A0, c0, hb, hg, hr0⟩ := h
 exact Kd.R_ne ho hb ht
theorem IsS94.lt {w0 W : World} {g : Nat} {f0 : List Int} {f1 : Int} {f2 : Int} (h : IsS94 w0 W g f0 f1 f2) : g < W.heap.size := by
 obtain ⟨A0, c0, hb, hg, hr0⟩ := h
 exact blk_lt hb
theorem IsS94.ge {w0 W : World} {g : Nat} {f0 : List Int} {f1 : Int} {f2 : Int} (h : IsS94 w0 W g f0 f1 f2) : w0.heap.size ≤ g := by
 obtain ⟨A0, c0, hb, hg, hr0⟩ := h
 exact hg
theorem IsS94.far {w0 W : World} {g : Nat} {f0 : List Int} {f1 : Int} {f2 : Int} {p : Addr} (h : IsS94 w0 W g f0 f1 f2) (hne : g ≠ p.block) (u : Value) : IsS94 w0 (W.setCell p u) g f0 f1 f2 := by
 obtain ⟨A0, c0, hb, hg, hr0⟩ := h
 exact ⟨A0, c0, blk_far hb hne u, hg, hr0⟩
theorem cellS94_0 {W : World} {g : Nat} {A0 : Option Addr} {c0 : Nat} {f0 : List Int} {f1 : Int} {f2 : Int} (h : W.heap[g]? = some (.cells #[.slice A0 f0.length c0, .int .i64 f1, .int .i64 f2] 94 (0, 0))) : W.cell? ⟨g, 0, none⟩ = some (.slice A0 f0.length c0) := (blk_cell h 0).trans rfl
theorem cellS94_1 {W : World} {g : Nat} {A0 : Option Addr} {c0 : Nat} {f0 : List Int} {f1 : Int} {f2 : Int} (h : W.heap[g]? = some (.cells #[.slice A0 f0.length c0, .int .i64 f1, .int .i64 f2] 94 (0, 0))) : W.cell? ⟨g, 1, none⟩ = some (.int .i64 f1) := (blk_cell h 1).trans rfl
theorem IsS94.set_1 {w0 W : World} {g : Nat} {f0 : List Int} {f1 : Int} {f2 : Int} (h : IsS94 w0 W g f0 f1 f2) (x : Int) : IsS94 w0 (W.setCell ⟨g, 1, none⟩ (.int .i64 x)) g f0 x f2 := by
 obtain ⟨A0, c0, hb, hg, hr0⟩ := h
 exact ⟨A0, c0, by simpa using blk_set hb 1 (.int .i64 x), hg, hr0⟩
theorem cellS94_2 {W : World} {g : Nat} {A0 : Option Addr} {c0 : Nat} {f0 : List Int} {f1 : Int} {f2 : Int} (h : W.heap[g]? = some (.cells #[.slice A0 f0.length c0, .int .i64 f1, .int .i64 f2] 94 (0, 0))) : W.cell? ⟨g, 2, none⟩ = some (.int .i64 f2) := (blk_cell h 2).trans rfl
theorem IsS94.set_2 {w0 W : World} {g : Nat} {f0 : List Int} {f1 : Int} {f2 : Int} (h : IsS94 w0 W g f0 f1 f2) (x : Int) : IsS94 w0 (W.setCell ⟨g, 2, none⟩ (.int .i64 x)) g f0 f1 x := by
 obtain ⟨A0, c0, hb, hg, hr0⟩ := h
 exact ⟨A0, c0, by simpa using blk_set hb 2 (.int .i64 x), hg, hr0⟩
theorem IsS94.new (w0 W : World) (A0 : Option Addr) (c0 : Nat) (f0 : List Int) (f1 : Int) (f2 : Int) (hB : Below w0.heap.size w0 W) (hr0 : Kd.C (Kd.int .u8) w0 A0 f0.length f0 ∧ f0.length ≤ c0) : IsS94 w0 (W.alloc (.cells #[.slice A0 f0.length c0, .int .i64 f1, .int .i64 f2] 94)) W.heap.size f0 f1 f2 := ⟨A0, c0, by simpa using heap_alloc_new W _, hB.size, hr0⟩
def j11_reader_num.f (k : Nat) (s0_0 : List Int) (s0_1 : Int) (s0_2 : Int) : Option (Int × Int × Int) :=
 if s0_2 = 0 then (if 0 ≤ s0_1 ∧ s0_1 ≤ (s0_0.length : Int) then (j11_Int.f k (s0_0.drop s0_1.toNat)).bind fun p => (if p.2.2 = 0 then some (p.1, wrap64 (s0_1 + p.2.1), s0_2) else some (0, s0_1, p.2.2)) else none) else some (0, s0_1, s0_2)
theorem j11_reader_num.mono : ∀ a0 a1 a2 k, LeO (j11_reader_num.f k a0 a1 a2) (j11_reader_num.f (k + 1) a0 a1 a2) := by
 intro a0 a1 a2 k
 unfold j11_reader_num.f
 by_cases c : a2 = 0
 ·
  rw [if_pos c, if_pos c]
  by_cases c1 : 0 ≤ a1 ∧ a1 ≤ (a0.length : Int)
  ·
   rw [if_pos c1, if_pos c1]
   exact LeO.bind (j11_Int.mono _ _) fun _ => LeO.refl _
  ·
   rw [if_neg c1, if_neg c1]
   exact LeO.refl _
 ·
  rw [if_neg c, if_neg c]
  exact LeO.refl _
set_option maxHeartbeats 4000000 in
set_option maxRecDepth 100000 in
theorem j11_reader_num.calls (k : Nat) (g : Nat) (s0_0 : List Int) (s0_1 : Int) (s0_2 : Int) (r1 : Int) (r2 : Int) (r3 : Int) (w0 w : World) (hI : IsS94 w0 w g s0_0 s0_1 s0_2) (hB : Below w0.heap.size w0 w) (h : j11_reader_num.f k s0_0 s0_1 s0_2 = some (r1, r2, r3)) :
  Calls Try.prog 47 #[.pointer (some ⟨g, 0, none⟩)] w fun e w' => e = .returned (.int .i64 r1) ∧ IsS94 w0 w' g s0_0 r2 r3 ∧ Below w0.heap.size w0 w' ∧ KeepBut w w' g none := by
 have HI := am hI
 have HB := am hB
 obtain ⟨A0, c0, hblk, hg, hr0, hc0⟩ := hI
 have q0 := cellS94_0 hblk
 have q1 := cellS94_1 hblk
 have q2 := cellS94_2 hblk
 have HR0 := am hr0
 clear hblk hB hr0
 unfold j11_reader_num.f at h
 by_cases c : s0_2 = 0
 ·
  rw [if_pos c] at h
  have c0_ : (s0_2 != 0) = false := by simp [c]
  have c1_ : (s0_2 == 0) = true := by simp [c]
  by_cases c2 : 0 ≤ s0_1 ∧ s0_1 ≤ (s0_0.length : Int)
  case neg =>
   rw [if_neg c2] at h
   exact absurd h (by simp)
  rw [if_pos c2] at h
  obtain ⟨p, hp, h⟩ := Option.bind_eq_some_iff.mp h
  obtain ⟨n_, z_, e_⟩ := p
  dsimp only at h
  obtain ⟨i0, hi0, _, hsz, _⟩ := info_parts info5
  obtain ⟨A1, hcut, hA, hC⟩ := print_drop_of (P := Try.prog) (Value.int .u8) 0 27 5 .i64 Try.underlying27 hi0 hsz A0 c0 s0_0 s0_1 c2.1 c2.2 hc0
  have HR1 : Aside0 (Kd.C (Kd.int .u8) w0 A1 (s0_0.drop s0_1.toNat).length (s0_0.drop s0_1.toNat)) := ⟨Kd.C_of_reads (h1 := fun _ => rfl) (hA _ (Kd.reads_of_C HR0.out))⟩
  obtain ⟨zs, hz⟩ : ∃ zs : List Int, zs = s0_0.drop s0_1.toNat := ⟨_, rfl⟩
  rw [← hz] at hcut HR1 hC hp
  have HC1 := am hC
  have HF := am hp
  clear hA hC hp hz c2 hc0 c hi0
  by_cases ce : e_ = 0
  ·
   rw [if_pos ce] at h
   have ce0 : (e_ != 0) = false := by simp [ce]
   have ce1 : (e_ == 0) = true := by simp [ce]
   simp only [Option.some.injEq, Prod.mk.injEq] at h
   obtain ⟨rfl, rfl, rfl⟩ := h
   clear ce
   go_enter Try.func47, Try.ntmps47
   go_wp2
   refine start_ (n := 17) (S := fun w' => w'.cell? ⟨g, 0, none⟩ = some (.slice A0 s0_0.length c0) ∧ w'.cell? ⟨g, 1, none⟩ = some (.int .i64 s0_1)) (ds := []) #[false, false, false, false, false, false, false, false, false, false, false, false, false, false, false, false, false] (by kernel_rfl) rfl rfl ⟨q0, q1⟩ (fun hHeld => ?_)
   have HI2 := am (IsS94.drew HI.out)
   have HB2 := am (HB.out.drew)
   have HK2 := am (keep_drew (KeepBut.refl w g none))
   generalize w.drew = w2 at HI2 HB2 HK2 hHeld ⊢
   have HR2 := am (Kd.C_below HR1.out HB2.out)
   refine pure_ (i := 0) (N := some 12) (v := ?_) (a' := ?_) #[true, false, false, false, false, false, false, false, false, false, false, false, false, false, false, false, false] rfl rfl (by kernel_rfl) (fun _ _ _ h => h) (Or.inl ⟨by rfl, ?_⟩) ?_ ?_
   rotate_left
   ·
    intro w'
    go_simp
    with_reducible rfl
   rotate_left
   ·
    simp only [Act.put, List.setIfInBounds_toArray, List.set_cons_zero, List.set_cons_succ, i64_w, i32_w]
    rfl
   refine pure_ (i := 1) (N := some 13) (v := ?_) (a' := ?_) #[true, true, false, false, false, false, false, false, false, false, false, false, false, false, false, false, false] rfl rfl (by kernel_rfl) (fun _ _ _ h => h) (Or.inl ⟨by rfl, ?_⟩) ?_ ?_
   rotate_left
   ·
    intro w'
    go_simp
    with_reducible rfl
   rotate_left
   ·
    simp only [Act.put, List.setIfInBounds_toArray, List.set_cons_zero, List.set_cons_succ, i64_w, i32_w]
    rfl
   refine pure_ (i := 2) (N := some 14) (v := ?_) (a' := ?_) #[true, true, true, false, false, false, false, false, false, false, false, false, false, false, false, false, false] rfl rfl (by kernel_rfl) (fun _ _ _ h => h) (Or.inl ⟨by rfl, ?_⟩) ?_ ?_
   rotate_left
   ·
    intro w'
    go_simp
    with_reducible rfl
   rotate_left
   ·
    simp only [Act.put, List.setIfInBounds_toArray, List.set_cons_zero, List.set_cons_succ, i64_w, i32_w]
    rfl
   refine pure_ (i := 4) (N := some 16) (v := ?_) (a' := ?_) #[true, true, true, false, true, false, false, false, false, false, false, false, false, false, false, false, false] rfl rfl (by kernel_rfl) (fun _ _ _ h => h) (Or.inl ⟨by rfl, ?_⟩) ?_ ?_
   rotate_left
   ·
    intro w'
    go_simp
    with_reducible rfl
   rotate_left
   ·
    simp only [Act.put, List.setIfInBounds_toArray, List.set_cons_zero, List.set_cons_succ, i64_w, i32_w]
    rfl
   refine pure_ (i := 5) (N := some 17) (v := ?_) (a' := ?_) #[true, true, true, false, true, true, false, false, false, false, false, false, false, false, false, false, false] rfl rfl (by kernel_rfl) (fun _ _ _ h => h) (Or.inl ⟨by rfl, ?_⟩) ?_ ?_
   rotate_left
   ·
    intro w'
    go_simp
    with_reducible rfl
   rotate_left
   ·
    simp only [Act.put, List.setIfInBounds_toArray, List.set_cons_zero, List.set_cons_succ, i64_w, i32_w]
    rfl
   refine pure_ (i := 6) (N := some 18) (v := ?_) (a' := ?_) #[true, true, true, false, true, true, true, false, false, false, false, false, false, false, false, false, false] rfl rfl (by kernel_rfl) (fun _ _ _ h => h) (Or.inl ⟨by rfl, ?_⟩) ?_ ?_
   rotate_left
   ·
    intro w'
    go_simp
    with_reducible rfl
   rotate_left
   ·
    simp only [Act.put, List.setIfInBounds_toArray, List.set_cons_zero, List.set_cons_succ, i64_w, i32_w]
    rfl
   refine take_ (i := 3) (N := some 15) (v := ?_) (a' := ?_) #[true, true, true, true, true, true, true, false, false, false, false, false, false, false, false, false, false] rfl rfl (by kernel_rfl) (fun _ _ _ h => h) (Or.inl ⟨by rfl, ?_⟩) hHeld ?_ ?_
   rotate_left
   ·
    rintro w' ⟨s0, s1⟩
    go_simp
    with_reducible rfl
   rotate_left
   ·
    simp only [Act.put, List.setIfInBounds_toArray, List.set_cons_zero, List.set_cons_succ, i64_w, i32_w]
    rfl
   refine take_ (i := 7) (N := some 19) (v := ?_) (a' := ?_) #[true, true, true, true, true, true, true, true, false, false, false, false, false, false, false, false, false] rfl rfl (by kernel_rfl) (fun _ _ _ h => h) (Or.inl ⟨by rfl, ?_⟩) hHeld ?_ ?_
   rotate_left
   ·
    rintro w' ⟨s0, s1⟩
    go_simp
    with_reducible rfl
   rotate_left
   ·
    simp only [Act.put, List.setIfInBounds_toArray, List.set_cons_zero, List.set_cons_succ, i64_w, i32_w]
    rfl
   refine pure_ (i := 8) (N := some 20) (v := ?_) (a' := ?_) #[true, true, true, true, true, true, true, true, true, false, false, false, false, false, false, false, false] rfl rfl (by kernel_rfl) (fun _ _ _ h => h) (Or.inl ⟨by rfl, ?_⟩) ?_ ?_
   rotate_left
   ·
    intro w'
    go_simp
    with_reducible rfl
   rotate_left
   ·
    simp only [Act.put, List.setIfInBounds_toArray, List.set_cons_zero, List.set_cons_succ, i64_w, i32_w]
    rfl
   refine one_ (i := 9) (N := some 21) #[true, true, true, true, true, true, true, true, true, true, false, false, false, false, false, false, false] rfl rfl (by kernel_rfl) (by decide) (fun K hK => ?_)
   refine goes_ Try.func76 (by kernel_rfl) rfl #[.slice A1 zs.length (c0 - s0_1.toNat)] (by rfl) rfl rfl y79 ?_
   with_reducible refine (j11_Int.calls k A1 (c0 - s0_1.toNat) zs n_ z_ e_ _ HR2.out HC1.out HF.out).mono ?_
   rintro e w4 ⟨rfl, hb⟩
   refine ⟨_, rfl, ?_⟩
   have HB4 := am (ow_below_drawn (Below.refl _ _) hb)
   have HI4 := am (IsS94.below HI2.out HB4.out)
   clear hb
   refine hK.out _ _ ⟨(HB4.out.cell (p := ⟨g, 0, none⟩) (IsS94.lt HI2.out)).trans hHeld.1, (HB4.out.cell (p := ⟨g, 1, none⟩) (IsS94.lt HI2.out)).trans hHeld.2⟩ (fun hHeld => ?_)
   clear hK K
   refine norm_ (a' := ?_) ?_ ?_
   rotate_left
   ·
    show Act.put _ (some 21) _ = _
    simp only [Act.put, List.setIfInBounds_toArray, List.set_cons_zero, List.set_cons_succ, i64_w, i32_w]
    rfl
   refine pure_ (i := 10) (N := some 11) (v := ?_) (a' := ?_) #[true, true, true, true, true, true, true, true, true, true, true, false, false, false, false, false, false] rfl rfl (by kernel_rfl) (fun _ _ _ h => h) (Or.inl ⟨by rfl, ?_⟩) ?_ ?_
   rotate_left
   ·
    intro w'
    go_simp
    with_reducible rfl
   rotate_left
   ·
    simp only [Act.put, List.setIfInBounds_toArray, List.set_cons_zero, List.set_cons_succ, i64_w, i32_w]
    rfl
   refine pure_ (i := 11) (N := some 22) (v := ?_) (a' := ?_) #[true, true, true, true, true, true, true, true, true, true, true, true, false, false, false, false, false] rfl rfl (by kernel_rfl) (fun _ _ _ h => h) (Or.inl ⟨by rfl, ?_⟩) ?_ ?_
   rotate_left
   ·
    intro w'
    go_simp
    with_reducible rfl
   rotate_left
   ·
    simp only [Act.put, List.setIfInBounds_toArray, List.set_cons_zero, List.set_cons_succ, i64_w, i32_w]
    rfl
   refine pure_ (i := 12) (N := some 23) (v := ?_) (a' := ?_) #[true, true, true, true, true, true, true, true, true, true, true, true, true, false, false, false, false] rfl rfl (by kernel_rfl) (fun _ _ _ h => h) (Or.inl ⟨by rfl, ?_⟩) ?_ ?_
   rotate_left
   ·
    intro w'
    go_simp
    with_reducible rfl
   rotate_left
   ·
    simp only [Act.put, List.setIfInBounds_toArray, List.set_cons_zero, List.set_cons_succ, i64_w, i32_w]
    rfl
   refine pure_ (i := 13) (N := some 24) (v := ?_) (a' := ?_) #[true, true, true, true, true, true, true, true, true, true, true, true, true, true, false, false, false] rfl rfl (by kernel_rfl) (fun _ _ _ h => h) (Or.inl ⟨by rfl, ?_⟩) ?_ ?_
   rotate_left
   ·
    intro w'
    go_simp
    with_reducible rfl
   rotate_left
   ·
    simp only [Act.put, List.setIfInBounds_toArray, List.set_cons_zero, List.set_cons_succ, i64_w, i32_w]
    rfl
   refine pure_ (i := 14) (N := some 3) (v := ?_) (a' := ?_) #[true, true, true, true, true, true, true, true, true, true, true, true, true, true, true, false, false] rfl rfl (by kernel_rfl) (fun _ _ _ h => h) (Or.inl ⟨by rfl, ?_⟩) ?_ ?_
   rotate_left
   ·
    intro w'
    go_simp
    with_reducible rfl
   rotate_left
   ·
    simp only [Act.put, List.setIfInBounds_toArray, List.set_cons_zero, List.set_cons_succ, i64_w, i32_w]
    rfl
   refine pure_ (i := 15) (N := some 4) (v := ?_) (a' := ?_) #[true, true, true, true, true, true, true, true, true, true, true, true, true, true, true, true, false] rfl rfl (by kernel_rfl) (fun _ _ _ h => h) (Or.inl ⟨by rfl, ?_⟩) ?_ ?_
   rotate_left
   ·
    intro w'
    go_simp
    with_reducible rfl
   rotate_left
   ·
    simp only [Act.put, List.setIfInBounds_toArray, List.set_cons_zero, List.set_cons_succ, i64_w, i32_w]
    rfl
   refine pure_ (i := 16) (N := some 5) (v := ?_) (a' := ?_) #[true, true, true, true, true, true, true, true, true, true, true, true, true, true, true, true, true] rfl rfl (by kernel_rfl) (fun _ _ _ h => h) (Or.inl ⟨by rfl, ?_⟩) ?_ ?_
   rotate_left
   ·
    intro w'
    go_simp
    with_reducible rfl
   rotate_left
   ·
    simp only [Act.put, List.setIfInBounds_toArray, List.set_cons_zero, List.set_cons_succ, i64_w, i32_w]
    rfl
   refine done_ (by kernel_rfl) ?_
   obtain ⟨Az, cz, hz, _, _⟩ := HI4.out
   have f1 := blk_frozen hz 1
   have f2 := blk_frozen hz 2
   have q4 := cellS94_1 hz
   have q5 := cellS94_2 hz
   clear hz
   go_wp2
   go_ret
   exact ⟨rfl, HI4.out.set_1 _, below_set (below_then HB2.out HB2.out.size HB4.out) HI.out.ge, (KeepBut.trans HK2.out (KeepBut.of_below HB4.out g none) (.inl rfl)).set_ 1 _⟩
  ·
   rw [if_neg ce] at h
   have ce0 : (e_ != 0) = true := by simp [ce]
   have ce1 : (e_ == 0) = false := by simp [ce]
   simp only [Option.some.injEq, Prod.mk.injEq] at h
   obtain ⟨rfl, rfl, rfl⟩ := h
   clear ce
   go_enter Try.func47, Try.ntmps47
   go_wp2
   refine start_ (n := 17) (S := fun w' => w'.cell? ⟨g, 0, none⟩ = some (.slice A0 s0_0.length c0) ∧ w'.cell? ⟨g, 1, none⟩ = some (.int .i64 s0_1)) (ds := []) #[false, false, false, false, false, false, false, false, false, false, false, false, false, false, false, false, false] (by kernel_rfl) rfl rfl ⟨q0, q1⟩ (fun hHeld => ?_)
   have HI2 := am (IsS94.drew HI.out)
   have HB2 := am (HB.out.drew)
   have HK2 := am (keep_drew (KeepBut.refl w g none))
   generalize w.drew = w2 at HI2 HB2 HK2 hHeld ⊢
   have HR2 := am (Kd.C_below HR1.out HB2.out)
   refine pure_ (i := 0) (N := some 12) (v := ?_) (a' := ?_) #[true, false, false, false, false, false, false, false, false, false, false, false, false, false, false, false, false] rfl rfl (by kernel_rfl) (fun _ _ _ h => h) (Or.inl ⟨by rfl, ?_⟩) ?_ ?_
   rotate_left
   ·
    intro w'
    go_simp
    with_reducible rfl
   rotate_left
   ·
    simp only [Act.put, List.setIfInBounds_toArray, List.set_cons_zero, List.set_cons_succ, i64_w, i32_w]
    rfl
   refine pure_ (i := 1) (N := some 13) (v := ?_) (a' := ?_) #[true, true, false, false, false, false, false, false, false, false, false, false, false, false, false, false, false] rfl rfl (by kernel_rfl) (fun _ _ _ h => h) (Or.inl ⟨by rfl, ?_⟩) ?_ ?_
   rotate_left
   ·
    intro w'
    go_simp
    with_reducible rfl
   rotate_left
   ·
    simp only [Act.put, List.setIfInBounds_toArray, List.set_cons_zero, List.set_cons_succ, i64_w, i32_w]
    rfl
   refine pure_ (i := 2) (N := some 14) (v := ?_) (a' := ?_) #[true, true, true, false, false, false, false, false, false, false, false, false, false, false, false, false, false] rfl rfl (by kernel_rfl) (fun _ _ _ h => h) (Or.inl ⟨by rfl, ?_⟩) ?_ ?_
   rotate_left
   ·
    intro w'
    go_simp
    with_reducible rfl
   rotate_left
   ·
    simp only [Act.put, List.setIfInBounds_toArray, List.set_cons_zero, List.set_cons_succ, i64_w, i32_w]
    rfl
   refine pure_ (i := 4) (N := some 16) (v := ?_) (a' := ?_) #[true, true, true, false, true, false, false, false, false, false, false, false, false, false, false, false, false] rfl rfl (by kernel_rfl) (fun _ _ _ h => h) (Or.inl ⟨by rfl, ?_⟩) ?_ ?_
   rotate_left
   ·
    intro w'
    go_simp
    with_reducible rfl
   rotate_left
   ·
    simp only [Act.put, List.setIfInBounds_toArray, List.set_cons_zero, List.set_cons_succ, i64_w, i32_w]
    rfl
   refine pure_ (i := 5) (N := some 17) (v := ?_) (a' := ?_) #[true, true, true, false, true, true, false, false, false, false, false, false, false, false, false, false, false] rfl rfl (by kernel_rfl) (fun _ _ _ h => h) (Or.inl ⟨by rfl, ?_⟩) ?_ ?_
   rotate_left
   ·
    intro w'
    go_simp
    with_reducible rfl
   rotate_left
   ·
    simp only [Act.put, List.setIfInBounds_toArray, List.set_cons_zero, List.set_cons_succ, i64_w, i32_w]
    rfl
   refine pure_ (i := 6) (N := some 18) (v := ?_) (a' := ?_) #[true, true, true, false, true, true, true, false, false, false, false, false, false, false, false, false, false] rfl rfl (by kernel_rfl) (fun _ _ _ h => h) (Or.inl ⟨by rfl, ?_⟩) ?_ ?_
   rotate_left
   ·
    intro w'
    go_simp
    with_reducible rfl
   rotate_left
   ·
    simp only [Act.put, List.setIfInBounds_toArray, List.set_cons_zero, List.set_cons_succ, i64_w, i32_w]
    rfl
   refine take_ (i := 3) (N := some 15) (v := ?_) (a' := ?_) #[true, true, true, true, true, true, true, false, false, false, false, false, false, false, false, false, false] rfl rfl (by kernel_rfl) (fun _ _ _ h => h) (Or.inl ⟨by rfl, ?_⟩) hHeld ?_ ?_
   rotate_left
   ·
    rintro w' ⟨s0, s1⟩
    go_simp
    with_reducible rfl
   rotate_left
   ·
    simp only [Act.put, List.setIfInBounds_toArray, List.set_cons_zero, List.set_cons_succ, i64_w, i32_w]
    rfl
   refine take_ (i := 7) (N := some 19) (v := ?_) (a' := ?_) #[true, true, true, true, true, true, true, true, false, false, false, false, false, false, false, false, false] rfl rfl (by kernel_rfl) (fun _ _ _ h => h) (Or.inl ⟨by rfl, ?_⟩) hHeld ?_ ?_
   rotate_left
   ·
    rintro w' ⟨s0, s1⟩
    go_simp
    with_reducible rfl
   rotate_left
   ·
    simp only [Act.put, List.setIfInBounds_toArray, List.set_cons_zero, List.set_cons_succ, i64_w, i32_w]
    rfl
   refine pure_ (i := 8) (N := some 20) (v := ?_) (a' := ?_) #[true, true, true, true, true, true, true, true, true, false, false, false, false, false, false, false, false] rfl rfl (by kernel_rfl) (fun _ _ _ h => h) (Or.inl ⟨by rfl, ?_⟩) ?_ ?_
   rotate_left
   ·
    intro w'
    go_simp
    with_reducible rfl
   rotate_left
   ·
    simp only [Act.put, List.setIfInBounds_toArray, List.set_cons_zero, List.set_cons_succ, i64_w, i32_w]
    rfl
   refine one_ (i := 9) (N := some 21) #[true, true, true, true, true, true, true, true, true, true, false, false, false, false, false, false, false] rfl rfl (by kernel_rfl) (by decide) (fun K hK => ?_)
   refine goes_ Try.func76 (by kernel_rfl) rfl #[.slice A1 zs.length (c0 - s0_1.toNat)] (by rfl) rfl rfl y79 ?_
   with_reducible refine (j11_Int.calls k A1 (c0 - s0_1.toNat) zs n_ z_ e_ _ HR2.out HC1.out HF.out).mono ?_
   rintro e w4 ⟨rfl, hb⟩
   refine ⟨_, rfl, ?_⟩
   have HB4 := am (ow_below_drawn (Below.refl _ _) hb)
   have HI4 := am (IsS94.below HI2.out HB4.out)
   clear hb
   refine hK.out _ _ ⟨(HB4.out.cell (p := ⟨g, 0, none⟩) (IsS94.lt HI2.out)).trans hHeld.1, (HB4.out.cell (p := ⟨g, 1, none⟩) (IsS94.lt HI2.out)).trans hHeld.2⟩ (fun hHeld => ?_)
   clear hK K
   refine norm_ (a' := ?_) ?_ ?_
   rotate_left
   ·
    show Act.put _ (some 21) _ = _
    simp only [Act.put, List.setIfInBounds_toArray, List.set_cons_zero, List.set_cons_succ, i64_w, i32_w]
    rfl
   refine pure_ (i := 10) (N := some 11) (v := ?_) (a' := ?_) #[true, true, true, true, true, true, true, true, true, true, true, false, false, false, false, false, false] rfl rfl (by kernel_rfl) (fun _ _ _ h => h) (Or.inl ⟨by rfl, ?_⟩) ?_ ?_
   rotate_left
   ·
    intro w'
    go_simp
    with_reducible rfl
   rotate_left
   ·
    simp only [Act.put, List.setIfInBounds_toArray, List.set_cons_zero, List.set_cons_succ, i64_w, i32_w]
    rfl
   refine pure_ (i := 11) (N := some 22) (v := ?_) (a' := ?_) #[true, true, true, true, true, true, true, true, true, true, true, true, false, false, false, false, false] rfl rfl (by kernel_rfl) (fun _ _ _ h => h) (Or.inl ⟨by rfl, ?_⟩) ?_ ?_
   rotate_left
   ·
    intro w'
    go_simp
    with_reducible rfl
   rotate_left
   ·
    simp only [Act.put, List.setIfInBounds_toArray, List.set_cons_zero, List.set_cons_succ, i64_w, i32_w]
    rfl
   refine pure_ (i := 12) (N := some 23) (v := ?_) (a' := ?_) #[true, true, true, true, true, true, true, true, true, true, true, true, true, false, false, false, false] rfl rfl (by kernel_rfl) (fun _ _ _ h => h) (Or.inl ⟨by rfl, ?_⟩) ?_ ?_
   rotate_left
   ·
    intro w'
    go_simp
    with_reducible rfl
   rotate_left
   ·
    simp only [Act.put, List.setIfInBounds_toArray, List.set_cons_zero, List.set_cons_succ, i64_w, i32_w]
    rfl
   refine pure_ (i := 13) (N := some 24) (v := ?_) (a' := ?_) #[true, true, true, true, true, true, true, true, true, true, true, true, true, true, false, false, false] rfl rfl (by kernel_rfl) (fun _ _ _ h => h) (Or.inl ⟨by rfl, ?_⟩) ?_ ?_
   rotate_left
   ·
    intro w'
    go_simp
    with_reducible rfl
   rotate_left
   ·
    simp only [Act.put, List.setIfInBounds_toArray, List.set_cons_zero, List.set_cons_succ, i64_w, i32_w]
    rfl
   refine pure_ (i := 14) (N := some 3) (v := ?_) (a' := ?_) #[true, true, true, true, true, true, true, true, true, true, true, true, true, true, true, false, false] rfl rfl (by kernel_rfl) (fun _ _ _ h => h) (Or.inl ⟨by rfl, ?_⟩) ?_ ?_
   rotate_left
   ·
    intro w'
    go_simp
    with_reducible rfl
   rotate_left
   ·
    simp only [Act.put, List.setIfInBounds_toArray, List.set_cons_zero, List.set_cons_succ, i64_w, i32_w]
    rfl
   refine pure_ (i := 15) (N := some 4) (v := ?_) (a' := ?_) #[true, true, true, true, true, true, true, true, true, true, true, true, true, true, true, true, false] rfl rfl (by kernel_rfl) (fun _ _ _ h => h) (Or.inl ⟨by rfl, ?_⟩) ?_ ?_
   rotate_left
   ·
    intro w'
    go_simp
    with_reducible rfl
   rotate_left
   ·
    simp only [Act.put, List.setIfInBounds_toArray, List.set_cons_zero, List.set_cons_succ, i64_w, i32_w]
    rfl
   refine pure_ (i := 16) (N := some 5) (v := ?_) (a' := ?_) #[true, true, true, true, true, true, true, true, true, true, true, true, true, true, true, true, true] rfl rfl (by kernel_rfl) (fun _ _ _ h => h) (Or.inl ⟨by rfl, ?_⟩) ?_ ?_
   rotate_left
   ·
    intro w'
    go_simp
    with_reducible rfl
   rotate_left
   ·
    simp only [Act.put, List.setIfInBounds_toArray, List.set_cons_zero, List.set_cons_succ, i64_w, i32_w]
    rfl
   refine done_ (by kernel_rfl) ?_
   obtain ⟨Az, cz, hz, _, _⟩ := HI4.out
   have f1 := blk_frozen hz 1
   have f2 := blk_frozen hz 2
   have q4 := cellS94_1 hz
   have q5 := cellS94_2 hz
   clear hz
   go_wp2
   go_ret
   exact ⟨rfl, HI4.out.set_2 _, below_set (below_then HB2.out HB2.out.size HB4.out) HI.out.ge, (KeepBut.trans HK2.out (KeepBut.of_below HB4.out g none) (.inl rfl)).set_ 2 _⟩
 ·
  rw [if_neg c] at h
  have c0_ : (s0_2 != 0) = true := by simp [c]
  have c1_ : (s0_2 == 0) = false := by simp [c]
  clear c
  simp only [Option.some.injEq, Prod.mk.injEq] at h
  obtain ⟨rfl, rfl, rfl⟩ := h
  go_enter Try.func47, Try.ntmps47
  go_wp2
  go_ret
  exact ⟨rfl, HI.out, HB.out, KeepBut.refl w g none⟩
end Go.Proofs.Ytnmmkgagbfniiaa.A
end
