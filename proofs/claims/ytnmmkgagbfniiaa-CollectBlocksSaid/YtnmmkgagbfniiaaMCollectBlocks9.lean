/- MCollectBlocks9: texts of this session and of the kit's printer on the road to the statement CollectBlocks, laid into one and rid of what it doesn't need. No condition beyond what each fact names. -/
import Derived.Test.YtnmmkgagbfniiaaMCollectBlocks3
import Derived.Test.YtnmmkgagbfniiaaMCollectBlocks2
import Derived.Test.YtnmmkgagbfniiaaMCollectBlocks8
section
namespace Go.Proofs.Ytnmmkgagbfniiaa.A
open Go.RowKit Go.Proofs.YtnmmkgagbfniiaaW.PrintWords Go.Proofs.YtnmmkgagbfniiaaW.PrintLast Go.Proofs.YtnmmkgagbfniiaaW.PrintMore
attribute [local go_sem] max2_int min2_int max_two min_two max_three min_three max_four min_four
set_option linter.unusedVariables false
set_option linter.unusedSimpArgs false
def event_Read.f (k : Nat) (l0 : List Int) (a1 a2 : Int) : Option (Int × Int × Int × Int × Int × Int × List Int × List Int × Int × Int) :=
 (event_reader_next.f k l0 0 0).bind fun p0 => (event_reader_next.f k l0 p0.2.1 p0.2.2).bind fun p1 => (event_reader_next.f k l0 p1.2.1 p1.2.2).bind fun p2 => (event_reader_next.f k l0 p2.2.1 p2.2.2).bind fun p3 => (event_reader_next.f k l0 p3.2.1 p3.2.2).bind fun p4 => (event_reader_list.f k l0 p4.2.1 p4.2.2).bind fun q5 => (event_reader_list.f k l0 q5.2.1 q5.2.2).bind fun q6 => if q6.2.2 = 0 then some (wrap64 (p0.1 + a2), a1, p1.1, p2.1, p3.1, p4.1, q5.1, q6.1, q6.2.1, 0) else some (0, 0, 0, 0, 0, 0, [], [], 0, q6.2.2)
theorem event_Read.mono : ∀ a0 a1 a2 k, LeO (event_Read.f k a0 a1 a2) (event_Read.f (k + 1) a0 a1 a2) := by
 intro a0 a1 a2 k
 unfold event_Read.f
 exact LeO.bind (event_reader_next.mono _ _ _ _) fun _ => LeO.bind (event_reader_next.mono _ _ _ _) fun _ => LeO.bind (event_reader_next.mono _ _ _ _) fun _ => LeO.bind (event_reader_next.mono _ _ _ _) fun _ => LeO.bind (event_reader_next.mono _ _ _ _) fun _ => LeO.bind (event_reader_list.mono _ _ _ _) fun _ => LeO.bind (event_reader_list.mono _ _ _ _) fun _ => LeO.refl _
structure event_Read.St (w W : World) (g x r : Nat) (cs cr : Array Value) (l0 : List Int) (a e : Int) : Prop where
 fi : IsS88 w W g l0 a e
 fB : Below w.heap.size w W
 fx : W.heap[x]? = some (.cells cs 26 (0, 0))
 fr : W.heap[r]? = some (.cells cr 26 (0, 0))
 gx : x ≠ g
 gr : r ≠ g
 xr : x ≠ r
 hx : w.heap.size ≤ x
theorem event_Read.St.call {w W W1 : World} {g x r : Nat} {cs cr : Array Value} {l0 : List Int} {a e a' e' : Int} (S : event_Read.St w W g x r cs cr l0 a e) (hi : IsS88 w W1 g l0 a' e') (hb : Below w.heap.size w W1) (hk : KeepBut W W1 g none) : event_Read.St w W1 g x r cs cr l0 a' e' :=
 ⟨hi, hb, (hk.2 _ (blk_lt S.fx) S.gx (by simp)).trans S.fx, (hk.2 _ (blk_lt S.fr) S.gr (by simp)).trans S.fr, S.gx, S.gr, S.xr, S.hx⟩
theorem event_Read.St.set {w W : World} {g x r : Nat} {cs cr : Array Value} {l0 : List Int} {a e : Int} (S : event_Read.St w W g x r cs cr l0 a e) (j : Nat) (v : Value) : event_Read.St w (W.setCell ⟨x, j, none⟩ v) g x r (cs.setIfInBounds j v) cr l0 a e :=
 ⟨S.fi.far (by exact fun h => S.gx h.symm) v, below_set S.fB S.hx, by simpa using blk_set S.fx j v, by rw [Below.heap_setCell _ _ _ _ (fun h => S.xr h.symm)]; exact S.fr, S.gx, S.gr, S.xr, S.hx⟩
theorem event_Read.put8 {W : World} {r : Nat} {v0 v1 v2 v3 v4 v5 v6 v7 u0 u1 u2 u3 u4 u5 u6 u7 : Value} (h : W.heap[r]? = some (.cells #[u0, u1, u2, u3, u4, u5, u6, u7] 26 (0, 0))) : ((((((((W.setCell ⟨r, 0, none⟩ v0).setCell ⟨r, 1, none⟩ v1).setCell ⟨r, 2, none⟩ v2).setCell ⟨r, 3, none⟩ v3).setCell ⟨r, 4, none⟩ v4).setCell ⟨r, 5, none⟩ v5).setCell ⟨r, 6, none⟩ v6).setCell ⟨r, 7, none⟩ v7).heap[r]? = some (.cells #[v0, v1, v2, v3, v4, v5, v6, v7] 26 (0, 0)) := by
 have h0 : (W.setCell ⟨r, 0, none⟩ v0).heap[r]? = some (.cells #[v0, u1, u2, u3, u4, u5, u6, u7] 26 (0, 0)) := by simpa using blk_set h 0 v0
 have h1 : ((W.setCell ⟨r, 0, none⟩ v0).setCell ⟨r, 1, none⟩ v1).heap[r]? = some (.cells #[v0, v1, u2, u3, u4, u5, u6, u7] 26 (0, 0)) := by simpa using blk_set h0 1 v1
 generalize (W.setCell ⟨r, 0, none⟩ v0).setCell ⟨r, 1, none⟩ v1 = W1 at h1 ⊢
 have h2 : (W1.setCell ⟨r, 2, none⟩ v2).heap[r]? = some (.cells #[v0, v1, v2, u3, u4, u5, u6, u7] 26 (0, 0)) := by simpa using blk_set h1 2 v2
 have h3 : ((W1.setCell ⟨r, 2, none⟩ v2).setCell ⟨r, 3, none⟩ v3).heap[r]? = some (.cells #[v0, v1, v2, v3, u4, u5, u6, u7] 26 (0, 0)) := by simpa using blk_set h2 3 v3
 generalize (W1.setCell ⟨r, 2, none⟩ v2).setCell ⟨r, 3, none⟩ v3 = W2 at h3 ⊢
 have h4 : (W2.setCell ⟨r, 4, none⟩ v4).heap[r]? = some (.cells #[v0, v1, v2, v3, v4, u5, u6, u7] 26 (0, 0)) := by simpa using blk_set h3 4 v4
 have h5 : ((W2.setCell ⟨r, 4, none⟩ v4).setCell ⟨r, 5, none⟩ v5).heap[r]? = some (.cells #[v0, v1, v2, v3, v4, v5, u6, u7] 26 (0, 0)) := by simpa using blk_set h4 5 v5
 generalize (W2.setCell ⟨r, 4, none⟩ v4).setCell ⟨r, 5, none⟩ v5 = W3 at h5 ⊢
 have h6 : (W3.setCell ⟨r, 6, none⟩ v6).heap[r]? = some (.cells #[v0, v1, v2, v3, v4, v5, v6, u7] 26 (0, 0)) := by simpa using blk_set h5 6 v6
 simpa using blk_set h6 7 v7
theorem event_Read.far8 {α : Type} {d : Kd α} {e base : Nat} {W : World} {ok : Nat → Prop} {v : Value} {xs : List α} {r : Nat} {v0 v1 v2 v3 v4 v5 v6 v7 : Value} (h : d.R e W base ok v xs) (hr : ∀ k, ok k → k ≠ r) : d.R e ((((((((W.setCell ⟨r, 0, none⟩ v0).setCell ⟨r, 1, none⟩ v1).setCell ⟨r, 2, none⟩ v2).setCell ⟨r, 3, none⟩ v3).setCell ⟨r, 4, none⟩ v4).setCell ⟨r, 5, none⟩ v5).setCell ⟨r, 6, none⟩ v6).setCell ⟨r, 7, none⟩ v7) base ok v xs :=
 Kd.R_far (Kd.R_far (Kd.R_far (Kd.R_far (Kd.R_far (Kd.R_far (Kd.R_far (Kd.R_far h (p := ⟨r, 0, none⟩) hr _) (p := ⟨r, 1, none⟩) hr _) (p := ⟨r, 2, none⟩) hr _) (p := ⟨r, 3, none⟩) hr _) (p := ⟨r, 4, none⟩) hr _) (p := ⟨r, 5, none⟩) hr _) (p := ⟨r, 6, none⟩) hr _) (p := ⟨r, 7, none⟩) hr _
theorem event_Read.below8 {w W : World} {r : Nat} {v0 v1 v2 v3 v4 v5 v6 v7 : Value} (h : Below w.heap.size w W) (hr : w.heap.size ≤ r) : Below w.heap.size w ((((((((W.setCell ⟨r, 0, none⟩ v0).setCell ⟨r, 1, none⟩ v1).setCell ⟨r, 2, none⟩ v2).setCell ⟨r, 3, none⟩ v3).setCell ⟨r, 4, none⟩ v4).setCell ⟨r, 5, none⟩ v5).setCell ⟨r, 6, none⟩ v6).setCell ⟨r, 7, none⟩ v7) :=
 below_set (below_set (below_set (below_set (below_set (below_set (below_set (below_set h hr) hr) hr) hr) hr) hr) hr) hr
set_option maxHeartbeats 4000000 in
set_option maxRecDepth 100000 in
theorem event_Read.calls (k : Nat) (A0 : Option Addr) (c0 : Nat) (l0 : List Int) (a1 : Int) (a2 : Int) (r1 r2 r3 r4 r5 r6 : Int) (r7 r8 : List Int) (r9 r10 : Int) (w : World) (hr0 : Kd.C (Kd.int .u8) w A0 l0.length l0) (hc0 : l0.length ≤ c0) (h : event_Read.f k l0 a1 a2 = some (r1, r2, r3, r4, r5, r6, r7, r8, r9, r10)) :
  Calls Try.prog 13 #[.slice A0 l0.length c0, .int .i64 a1, .int .i64 a2] w fun e w' => ∃ v6_ v7_ : Value, e = .returned (.tuple #[.agg #[.int .i64 r1, .int .i64 r2, .int .i64 r3, .int .i64 r4, .int .i64 r5, .int .i64 r6, v6_, v7_], .int .i64 r9, .int .i64 r10]) ∧ Kd.R (Kd.int .i64) 3 w' w.heap.size (fun k_ => some k_ ≠ (v7_ : Value).ownBlock) v6_ r7 ∧ Kd.R (Kd.int .i64) 3 w' w.heap.size (fun k_ => some k_ ≠ (v6_ : Value).ownBlock) v7_ r8 ∧ Below w.heap.size w w' := by
 obtain ⟨⟨n0, b0, e0⟩, h0, h_0⟩ := Option.bind_eq_some_iff.mp h
 clear h
 obtain ⟨⟨n1, b1, e1⟩, h1, h_1⟩ := Option.bind_eq_some_iff.mp h_0
 clear h_0
 obtain ⟨⟨n2, b2, e2⟩, h2, h_2⟩ := Option.bind_eq_some_iff.mp h_1
 clear h_1
 obtain ⟨⟨n3, b3, e3⟩, h3, h_3⟩ := Option.bind_eq_some_iff.mp h_2
 clear h_2
 obtain ⟨⟨n4, b4, e4⟩, h4, h_4⟩ := Option.bind_eq_some_iff.mp h_3
 clear h_3
 obtain ⟨⟨l5, b5, e5⟩, h5, h_5⟩ := Option.bind_eq_some_iff.mp h_4
 clear h_4
 obtain ⟨⟨l6, b6, e6⟩, h6, h_6⟩ := Option.bind_eq_some_iff.mp h_5
 clear h_5
 have h := h_6
 clear h_6
 dsimp only at h h0 h1 h2 h3 h4 h5 h6
 have H0 := am h0
 have H1 := am h1
 have H2 := am h2
 have H3 := am h3
 have H4 := am h4
 have H5 := am h5
 have H6 := am h6
 have HH := am h
 clear h h0 h1 h2 h3 h4 h5 h6
 obtain ⟨W1, hW1⟩ : ∃ W1 : World, W1 = (w.alloc (.cells #[.int .i64 0, .int .i64 0, .int .i64 0, .int .i64 0, .int .i64 0, .int .i64 0, .slice none 0 0, .slice none 0 0] 26)).alloc (.cells #[.slice A0 l0.length c0, .int .i64 0, .int .i64 0] 88) := ⟨_, rfl⟩
 have HI1 : Aside0 (IsS88 w W1 (w.heap.size + 1) l0 0 0) := ⟨by
  have := IsS88.new w (w.alloc (.cells #[.int .i64 0, .int .i64 0, .int .i64 0, .int .i64 0, .int .i64 0, .int .i64 0, .slice none 0 0, .slice none 0 0] 26)) A0 c0 l0 0 0 (below_alloc (Below.refl _ _) _) ⟨hr0, hc0⟩
  rw [hW1]
  simpa using this⟩
 have HB1 : Aside0 (Below w.heap.size w W1) := ⟨by rw [hW1]; exact below_alloc (below_alloc (Below.refl _ _) _) _⟩
 have HR1 : Aside0 (W1.heap[w.heap.size]? = some (.cells #[.int .i64 0, .int .i64 0, .int .i64 0, .int .i64 0, .int .i64 0, .int .i64 0, .slice none 0 0, .slice none 0 0] 26 (0, 0))) := ⟨by rw [hW1, heap_alloc_old _ _ (by simp), heap_alloc_new]⟩
 clear hr0 hc0
 go_enter Try.func13, Try.ntmps13
 by_cases ce : e6 = 0
 ·
  have ce0 : (e6 != 0) = false := by simp [ce]
  have HH1 := am ((if_pos ce).symm.trans HH.out)
  clear HH
  simp only [Option.some.injEq, Prod.mk.injEq] at HH1
  obtain ⟨rfl, rfl, rfl, rfl, rfl, rfl, rfl, rfl, rfl, rfl⟩ := HH1.out
  clear HH1 ce
  go_wp2_with (first | (go_at_call 42; rw [← hW1]; refine (event_reader_next.calls k (w.heap.size + 1) l0 0 0 n0 b0 e0 w _ HI1.out HB1.out H0.out).mono ?_; rintro e w2 ⟨rfl, hi, hb, hk⟩; have HR2 := (hk.2 _ (blk_lt HR1.out) (by omega) (by simp)).trans HR1.out; have HS0 : Aside0 (event_Read.St w (w2.alloc (.cells #[.int .i64 (wrap64 (n0 + a2)), .int .i64 a1, .int .i64 0, .int .i64 0, .int .i64 0, .int .i64 0, .slice none 0 0, .slice none 0 0] 26)) (w.heap.size + 1) w2.heap.size w.heap.size #[.int .i64 (wrap64 (n0 + a2)), .int .i64 a1, .int .i64 0, .int .i64 0, .int .i64 0, .int .i64 0, .slice none 0 0, .slice none 0 0] #[.int .i64 0, .int .i64 0, .int .i64 0, .int .i64 0, .int .i64 0, .int .i64 0, .slice none 0 0, .slice none 0 0] l0 b0 e0) := ⟨⟨hi.alloc _, (below_then hb hb.size (below_alloc (Below.refl _ _) _)), heap_alloc_new _ _, (heap_alloc_old _ _ (blk_lt HR2)).trans HR2, (Nat.ne_of_gt hi.lt), by omega, Nat.ne_of_gt (blk_lt HR2), hb.size⟩⟩; have HLT : Aside0 (w.heap.size + 1 < w2.heap.size) := ⟨hi.lt⟩; clear hi hb hk HR2) | (go_at_call 42; refine (event_reader_next.calls k (w.heap.size + 1) l0 b0 e0 n1 b1 e1 w _ HS0.out.fi HS0.out.fB H1.out).mono ?_; rintro e w3 ⟨rfl, hi, hb, hk⟩; have HT1 := am (HS0.out.call hi hb hk); have HS1 : Aside0 (event_Read.St w (w3.setCell ⟨w2.heap.size, 2, none⟩ (.int .i64 n1)) (w.heap.size + 1) w2.heap.size w.heap.size #[.int .i64 (wrap64 (n0 + a2)), .int .i64 a1, .int .i64 n1, .int .i64 0, .int .i64 0, .int .i64 0, .slice none 0 0, .slice none 0 0] #[.int .i64 0, .int .i64 0, .int .i64 0, .int .i64 0, .int .i64 0, .int .i64 0, .slice none 0 0, .slice none 0 0] l0 b1 e1) := ⟨HT1.out.set 2 (.int .i64 n1)⟩; have q1 := (blk_cell HT1.out.fx 2).trans rfl; have f1 := blk_frozen HT1.out.fx 2; clear hi hb hk) | (go_at_call 42; refine (event_reader_next.calls k (w.heap.size + 1) l0 b1 e1 n2 b2 e2 w _ HS1.out.fi HS1.out.fB H2.out).mono ?_; rintro e w4 ⟨rfl, hi, hb, hk⟩; have HT2 := am (HS1.out.call hi hb hk); have HS2 : Aside0 (event_Read.St w (w4.setCell ⟨w2.heap.size, 3, none⟩ (.int .i64 n2)) (w.heap.size + 1) w2.heap.size w.heap.size #[.int .i64 (wrap64 (n0 + a2)), .int .i64 a1, .int .i64 n1, .int .i64 n2, .int .i64 0, .int .i64 0, .slice none 0 0, .slice none 0 0] #[.int .i64 0, .int .i64 0, .int .i64 0, .int .i64 0, .int .i64 0, .int .i64 0, .slice none 0 0, .slice none 0 0] l0 b2 e2) := ⟨HT2.out.set 3 (.int .i64 n2)⟩; have q2 := (blk_cell HT2.out.fx 3).trans rfl; have f2 := blk_frozen HT2.out.fx 3; clear hi hb hk) | (go_at_call 42; refine (event_reader_next.calls k (w.heap.size + 1) l0 b2 e2 n3 b3 e3 w _ HS2.out.fi HS2.out.fB H3.out).mono ?_; rintro e w5 ⟨rfl, hi, hb, hk⟩; have HT3 := am (HS2.out.call hi hb hk); have HS3 : Aside0 (event_Read.St w (w5.setCell ⟨w2.heap.size, 4, none⟩ (.int .i64 n3)) (w.heap.size + 1) w2.heap.size w.heap.size #[.int .i64 (wrap64 (n0 + a2)), .int .i64 a1, .int .i64 n1, .int .i64 n2, .int .i64 n3, .int .i64 0, .slice none 0 0, .slice none 0 0] #[.int .i64 0, .int .i64 0, .int .i64 0, .int .i64 0, .int .i64 0, .int .i64 0, .slice none 0 0, .slice none 0 0] l0 b3 e3) := ⟨HT3.out.set 4 (.int .i64 n3)⟩; have q3 := (blk_cell HT3.out.fx 4).trans rfl; have f3 := blk_frozen HT3.out.fx 4; clear hi hb hk) | (go_at_call 42; refine (event_reader_next.calls k (w.heap.size + 1) l0 b3 e3 n4 b4 e4 w _ HS3.out.fi HS3.out.fB H4.out).mono ?_; rintro e w6 ⟨rfl, hi, hb, hk⟩; have HT4 := am (HS3.out.call hi hb hk); have HS4 : Aside0 (event_Read.St w (w6.setCell ⟨w2.heap.size, 5, none⟩ (.int .i64 n4)) (w.heap.size + 1) w2.heap.size w.heap.size #[.int .i64 (wrap64 (n0 + a2)), .int .i64 a1, .int .i64 n1, .int .i64 n2, .int .i64 n3, .int .i64 n4, .slice none 0 0, .slice none 0 0] #[.int .i64 0, .int .i64 0, .int .i64 0, .int .i64 0, .int .i64 0, .int .i64 0, .slice none 0 0, .slice none 0 0] l0 b4 e4) := ⟨HT4.out.set 5 (.int .i64 n4)⟩; have q4 := (blk_cell HT4.out.fx 5).trans rfl; have f4 := blk_frozen HT4.out.fx 5; clear hi hb hk) | (go_at_call 43; refine (event_reader_list.calls k (w.heap.size + 1) l0 b4 e4 l5 b5 e5 w _ HS4.out.fi HS4.out.fB H5.out).mono ?_; rintro e w7 ⟨v5, rfl, ho, hi, hb, hk⟩; have HL5 := am (Kd.R_lower (Kd.R_mono (ok' := fun k_ => w2.heap.size < k_) (Kd.R_bound ho) (fun k_ hk_ => Nat.lt_of_lt_of_le (blk_lt HS4.out.fx) hk_.2.1)) HS4.out.fB.size); have HT5 := am (HS4.out.call hi hb hk); obtain ⟨A5, c5, ee5⟩ := Kd.R_slice ho; subst ee5; have HS5 : Aside0 (event_Read.St w (w7.setCell ⟨w2.heap.size, 6, none⟩ (.slice A5 l5.length c5)) (w.heap.size + 1) w2.heap.size w.heap.size #[.int .i64 (wrap64 (n0 + a2)), .int .i64 a1, .int .i64 n1, .int .i64 n2, .int .i64 n3, .int .i64 n4, .slice A5 l5.length c5, .slice none 0 0] #[.int .i64 0, .int .i64 0, .int .i64 0, .int .i64 0, .int .i64 0, .int .i64 0, .slice none 0 0, .slice none 0 0] l0 b5 e5) := ⟨HT5.out.set 6 _⟩; have q5 := (blk_cell HT5.out.fx 6).trans rfl; have f5 := blk_frozen HT5.out.fx 6; clear ho hi hb hk) | (go_at_call 43; refine (event_reader_list.calls k (w.heap.size + 1) l0 b5 e5 l6 b6 e6 w _ HS5.out.fi HS5.out.fB H6.out).mono ?_; rintro e w8 ⟨v6, rfl, ho, hi, hb, hk⟩; have HL5b := am (Kd.R_keep (Kd.R_far (p := ⟨w2.heap.size, 6, none⟩) HL5.out (fun k_ hk_ => Nat.ne_of_gt hk_) (.slice A5 l5.length c5)) hk (fun k_ hk_ => by have := HS5.out.gx; have := HS5.out.fi.lt; have := HLT.out; omega)); obtain ⟨in5, ow5⟩ := Kd.R_own (Kd.R_far (p := ⟨w2.heap.size, 6, none⟩) HL5.out (fun k_ hk_ => Nat.ne_of_gt hk_) (.slice A5 l5.length c5)); have HL6 := am (Kd.R_lower (Kd.R_mono (ok' := fun k_ => w2.heap.size < k_ ∧ some k_ ≠ (Value.slice A5 l5.length c5).ownBlock) (Kd.R_bound (Kd.R_new ho ow5)) (fun k_ hk_ => ⟨Nat.lt_of_lt_of_le (blk_lt HS5.out.fx) hk_.2.1, hk_.1.2⟩)) HS5.out.fB.size); have HT6 := am (HS5.out.call hi hb hk); obtain ⟨A6, c6, ee6⟩ := Kd.R_slice ho; subst ee6; have HS6 : Aside0 (event_Read.St w (w8.setCell ⟨w2.heap.size, 7, none⟩ (.slice A6 l6.length c6)) (w.heap.size + 1) w2.heap.size w.heap.size #[.int .i64 (wrap64 (n0 + a2)), .int .i64 a1, .int .i64 n1, .int .i64 n2, .int .i64 n3, .int .i64 n4, .slice A5 l5.length c5, .slice A6 l6.length c6] #[.int .i64 0, .int .i64 0, .int .i64 0, .int .i64 0, .int .i64 0, .int .i64 0, .slice none 0 0, .slice none 0 0] l0 b6 e6) := ⟨HT6.out.set 7 _⟩; have q6 := (blk_cell HT6.out.fx 7).trans rfl; have f6 := blk_frozen HT6.out.fx 7; obtain ⟨Az, cz, hz, _, _⟩ := HS6.out.fi; have q7 := cellS88_2 hz; have q8 := cellS88_1 hz; clear ho hi hb hk ow5 hz))
  have x0 := (blk_cell HS6.out.fx 0).trans rfl
  have y0 := (blk_cell HS6.out.fr 0).trans rfl
  have z0 := blk_frozen HS6.out.fr 0
  have x1 := (blk_cell HS6.out.fx 1).trans rfl
  have y1 := (blk_cell HS6.out.fr 1).trans rfl
  have z1 := blk_frozen HS6.out.fr 1
  have x2 := (blk_cell HS6.out.fx 2).trans rfl
  have y2 := (blk_cell HS6.out.fr 2).trans rfl
  have z2 := blk_frozen HS6.out.fr 2
  have x3 := (blk_cell HS6.out.fx 3).trans rfl
  have y3 := (blk_cell HS6.out.fr 3).trans rfl
  have z3 := blk_frozen HS6.out.fr 3
  have x4 := (blk_cell HS6.out.fx 4).trans rfl
  have y4 := (blk_cell HS6.out.fr 4).trans rfl
  have z4 := blk_frozen HS6.out.fr 4
  have x5 := (blk_cell HS6.out.fx 5).trans rfl
  have y5 := (blk_cell HS6.out.fr 5).trans rfl
  have z5 := blk_frozen HS6.out.fr 5
  have x6 := (blk_cell HS6.out.fx 6).trans rfl
  have y6 := (blk_cell HS6.out.fr 6).trans rfl
  have z6 := blk_frozen HS6.out.fr 6
  have x7 := (blk_cell HS6.out.fx 7).trans rfl
  have y7 := (blk_cell HS6.out.fr 7).trans rfl
  have z7 := blk_frozen HS6.out.fr 7
  clear HR1 hW1
  go_region
  all_goals (try go_wp2)
  all_goals refine bodyPost_ret (results_ctt rfl _ _ w.heap.size 26 #[.int .i64 (wrap64 (n0 + a2)), .int .i64 a1, .int .i64 n1, .int .i64 n2, .int .i64 n3, .int .i64 n4, .slice A5 l5.length c5, .slice A6 l6.length c6] (0, 0) _ rfl (blk_drew (event_Read.put8 HS6.out.fr)) Try.underlying26 rfl (by kernel_rfl)) rfl ?_
  all_goals exact ⟨_, _, rfl, Kd.R_flat (d := Kd.int .i64) (fun h_ => h_) (ok := fun k_ => w2.heap.size < k_) (by exact Kd.R_drew (event_Read.far8 (Kd.R_far (p := ⟨w2.heap.size, 7, none⟩) HL5b.out (fun k_ hk_ => Nat.ne_of_gt hk_) _) (fun k_ hk_ => by have := HLT.out; show k_ ≠ w.heap.size; omega))) (fun k_ hk_ _ he_ => (HL6.out.1 k_ he_.symm).2 hk_.symm), Kd.R_mono (ok := fun k_ => w2.heap.size < k_ ∧ some k_ ≠ (Value.slice A5 l5.length c5).ownBlock) (by exact Kd.R_drew (event_Read.far8 (Kd.R_far (p := ⟨w2.heap.size, 7, none⟩) HL6.out (fun k_ hk_ => Nat.ne_of_gt hk_.1) _) (fun k_ hk_ => by have := HLT.out; show k_ ≠ w.heap.size; have := hk_.1; omega))) (fun _ hk_ => hk_.2), below_drew1 (event_Read.below8 HS6.out.fB (Nat.le_refl _))⟩
 ·
  have ce0 : (e6 != 0) = true := by simp [ce]
  have HH1 := am ((if_neg ce).symm.trans HH.out)
  clear HH
  simp only [Option.some.injEq, Prod.mk.injEq] at HH1
  obtain ⟨rfl, rfl, rfl, rfl, rfl, rfl, rfl, rfl, rfl, rfl⟩ := HH1.out
  clear HH1 ce
  go_wp2_with (first | (go_at_call 42; rw [← hW1]; refine (event_reader_next.calls k (w.heap.size + 1) l0 0 0 n0 b0 e0 w _ HI1.out HB1.out H0.out).mono ?_; rintro e w2 ⟨rfl, hi, hb, hk⟩; have HR2 := (hk.2 _ (blk_lt HR1.out) (by omega) (by simp)).trans HR1.out; have HS0 : Aside0 (event_Read.St w (w2.alloc (.cells #[.int .i64 (wrap64 (n0 + a2)), .int .i64 a1, .int .i64 0, .int .i64 0, .int .i64 0, .int .i64 0, .slice none 0 0, .slice none 0 0] 26)) (w.heap.size + 1) w2.heap.size w.heap.size #[.int .i64 (wrap64 (n0 + a2)), .int .i64 a1, .int .i64 0, .int .i64 0, .int .i64 0, .int .i64 0, .slice none 0 0, .slice none 0 0] #[.int .i64 0, .int .i64 0, .int .i64 0, .int .i64 0, .int .i64 0, .int .i64 0, .slice none 0 0, .slice none 0 0] l0 b0 e0) := ⟨⟨hi.alloc _, (below_then hb hb.size (below_alloc (Below.refl _ _) _)), heap_alloc_new _ _, (heap_alloc_old _ _ (blk_lt HR2)).trans HR2, (Nat.ne_of_gt hi.lt), by omega, Nat.ne_of_gt (blk_lt HR2), hb.size⟩⟩; have HLT : Aside0 (w.heap.size + 1 < w2.heap.size) := ⟨hi.lt⟩; clear hi hb hk HR2) | (go_at_call 42; refine (event_reader_next.calls k (w.heap.size + 1) l0 b0 e0 n1 b1 e1 w _ HS0.out.fi HS0.out.fB H1.out).mono ?_; rintro e w3 ⟨rfl, hi, hb, hk⟩; have HT1 := am (HS0.out.call hi hb hk); have HS1 : Aside0 (event_Read.St w (w3.setCell ⟨w2.heap.size, 2, none⟩ (.int .i64 n1)) (w.heap.size + 1) w2.heap.size w.heap.size #[.int .i64 (wrap64 (n0 + a2)), .int .i64 a1, .int .i64 n1, .int .i64 0, .int .i64 0, .int .i64 0, .slice none 0 0, .slice none 0 0] #[.int .i64 0, .int .i64 0, .int .i64 0, .int .i64 0, .int .i64 0, .int .i64 0, .slice none 0 0, .slice none 0 0] l0 b1 e1) := ⟨HT1.out.set 2 (.int .i64 n1)⟩; have q1 := (blk_cell HT1.out.fx 2).trans rfl; have f1 := blk_frozen HT1.out.fx 2; clear hi hb hk) | (go_at_call 42; refine (event_reader_next.calls k (w.heap.size + 1) l0 b1 e1 n2 b2 e2 w _ HS1.out.fi HS1.out.fB H2.out).mono ?_; rintro e w4 ⟨rfl, hi, hb, hk⟩; have HT2 := am (HS1.out.call hi hb hk); have HS2 : Aside0 (event_Read.St w (w4.setCell ⟨w2.heap.size, 3, none⟩ (.int .i64 n2)) (w.heap.size + 1) w2.heap.size w.heap.size #[.int .i64 (wrap64 (n0 + a2)), .int .i64 a1, .int .i64 n1, .int .i64 n2, .int .i64 0, .int .i64 0, .slice none 0 0, .slice none 0 0] #[.int .i64 0, .int .i64 0, .int .i64 0, .int .i64 0, .int .i64 0, .int .i64 0, .slice none 0 0, .slice none 0 0] l0 b2 e2) := ⟨HT2.out.set 3 (.int .i64 n2)⟩; have q2 := (blk_cell HT2.out.fx 3).trans rfl; have f2 := blk_frozen HT2.out.fx 3; clear hi hb hk) | (go_at_call 42; refine (event_reader_next.calls k (w.heap.size + 1) l0 b2 e2 n3 b3 e3 w _ HS2.out.fi HS2.out.fB H3.out).mono ?_; rintro e w5 ⟨rfl, hi, hb, hk⟩; have HT3 := am (HS2.out.call hi hb hk); have HS3 : Aside0 (event_Read.St w (w5.setCell ⟨w2.heap.size, 4, none⟩ (.int .i64 n3)) (w.heap.size + 1) w2.heap.size w.heap.size #[.int .i64 (wrap64 (n0 + a2)), .int .i64 a1, .int .i64 n1, .int .i64 n2, .int .i64 n3, .int .i64 0, .slice none 0 0, .slice none 0 0] #[.int .i64 0, .int .i64 0, .int .i64 0, .int .i64 0, .int .i64 0, .int .i64 0, .slice none 0 0, .slice none 0 0] l0 b3 e3) := ⟨HT3.out.set 4 (.int .i64 n3)⟩; have q3 := (blk_cell HT3.out.fx 4).trans rfl; have f3 := blk_frozen HT3.out.fx 4; clear hi hb hk) | (go_at_call 42; refine (event_reader_next.calls k (w.heap.size + 1) l0 b3 e3 n4 b4 e4 w _ HS3.out.fi HS3.out.fB H4.out).mono ?_; rintro e w6 ⟨rfl, hi, hb, hk⟩; have HT4 := am (HS3.out.call hi hb hk); have HS4 : Aside0 (event_Read.St w (w6.setCell ⟨w2.heap.size, 5, none⟩ (.int .i64 n4)) (w.heap.size + 1) w2.heap.size w.heap.size #[.int .i64 (wrap64 (n0 + a2)), .int .i64 a1, .int .i64 n1, .int .i64 n2, .int .i64 n3, .int .i64 n4, .slice none 0 0, .slice none 0 0] #[.int .i64 0, .int .i64 0, .int .i64 0, .int .i64 0, .int .i64 0, .int .i64 0, .slice none 0 0, .slice none 0 0] l0 b4 e4) := ⟨HT4.out.set 5 (.int .i64 n4)⟩; have q4 := (blk_cell HT4.out.fx 5).trans rfl; have f4 := blk_frozen HT4.out.fx 5; clear hi hb hk) | (go_at_call 43; refine (event_reader_list.calls k (w.heap.size + 1) l0 b4 e4 l5 b5 e5 w _ HS4.out.fi HS4.out.fB H5.out).mono ?_; rintro e w7 ⟨v5, rfl, ho, hi, hb, hk⟩; have HL5 := am (Kd.R_lower (Kd.R_mono (ok' := fun k_ => w2.heap.size < k_) (Kd.R_bound ho) (fun k_ hk_ => Nat.lt_of_lt_of_le (blk_lt HS4.out.fx) hk_.2.1)) HS4.out.fB.size); have HT5 := am (HS4.out.call hi hb hk); obtain ⟨A5, c5, ee5⟩ := Kd.R_slice ho; subst ee5; have HS5 : Aside0 (event_Read.St w (w7.setCell ⟨w2.heap.size, 6, none⟩ (.slice A5 l5.length c5)) (w.heap.size + 1) w2.heap.size w.heap.size #[.int .i64 (wrap64 (n0 + a2)), .int .i64 a1, .int .i64 n1, .int .i64 n2, .int .i64 n3, .int .i64 n4, .slice A5 l5.length c5, .slice none 0 0] #[.int .i64 0, .int .i64 0, .int .i64 0, .int .i64 0, .int .i64 0, .int .i64 0, .slice none 0 0, .slice none 0 0] l0 b5 e5) := ⟨HT5.out.set 6 _⟩; have q5 := (blk_cell HT5.out.fx 6).trans rfl; have f5 := blk_frozen HT5.out.fx 6; clear ho hi hb hk) | (go_at_call 43; refine (event_reader_list.calls k (w.heap.size + 1) l0 b5 e5 l6 b6 e6 w _ HS5.out.fi HS5.out.fB H6.out).mono ?_; rintro e w8 ⟨v6, rfl, ho, hi, hb, hk⟩; have HL5b := am (Kd.R_keep (Kd.R_far (p := ⟨w2.heap.size, 6, none⟩) HL5.out (fun k_ hk_ => Nat.ne_of_gt hk_) (.slice A5 l5.length c5)) hk (fun k_ hk_ => by have := HS5.out.gx; have := HS5.out.fi.lt; have := HLT.out; omega)); obtain ⟨in5, ow5⟩ := Kd.R_own (Kd.R_far (p := ⟨w2.heap.size, 6, none⟩) HL5.out (fun k_ hk_ => Nat.ne_of_gt hk_) (.slice A5 l5.length c5)); have HL6 := am (Kd.R_lower (Kd.R_mono (ok' := fun k_ => w2.heap.size < k_ ∧ some k_ ≠ (Value.slice A5 l5.length c5).ownBlock) (Kd.R_bound (Kd.R_new ho ow5)) (fun k_ hk_ => ⟨Nat.lt_of_lt_of_le (blk_lt HS5.out.fx) hk_.2.1, hk_.1.2⟩)) HS5.out.fB.size); have HT6 := am (HS5.out.call hi hb hk); obtain ⟨A6, c6, ee6⟩ := Kd.R_slice ho; subst ee6; have HS6 : Aside0 (event_Read.St w (w8.setCell ⟨w2.heap.size, 7, none⟩ (.slice A6 l6.length c6)) (w.heap.size + 1) w2.heap.size w.heap.size #[.int .i64 (wrap64 (n0 + a2)), .int .i64 a1, .int .i64 n1, .int .i64 n2, .int .i64 n3, .int .i64 n4, .slice A5 l5.length c5, .slice A6 l6.length c6] #[.int .i64 0, .int .i64 0, .int .i64 0, .int .i64 0, .int .i64 0, .int .i64 0, .slice none 0 0, .slice none 0 0] l0 b6 e6) := ⟨HT6.out.set 7 _⟩; have q6 := (blk_cell HT6.out.fx 7).trans rfl; have f6 := blk_frozen HT6.out.fx 7; obtain ⟨Az, cz, hz, _, _⟩ := HS6.out.fi; have q7 := cellS88_2 hz; have q8 := cellS88_1 hz; clear ho hi hb hk ow5 hz))
  have x0 := (blk_cell HS6.out.fx 0).trans rfl
  have y0 := (blk_cell HS6.out.fr 0).trans rfl
  have z0 := blk_frozen HS6.out.fr 0
  have x1 := (blk_cell HS6.out.fx 1).trans rfl
  have y1 := (blk_cell HS6.out.fr 1).trans rfl
  have z1 := blk_frozen HS6.out.fr 1
  have x2 := (blk_cell HS6.out.fx 2).trans rfl
  have y2 := (blk_cell HS6.out.fr 2).trans rfl
  have z2 := blk_frozen HS6.out.fr 2
  have x3 := (blk_cell HS6.out.fx 3).trans rfl
  have y3 := (blk_cell HS6.out.fr 3).trans rfl
  have z3 := blk_frozen HS6.out.fr 3
  have x4 := (blk_cell HS6.out.fx 4).trans rfl
  have y4 := (blk_cell HS6.out.fr 4).trans rfl
  have z4 := blk_frozen HS6.out.fr 4
  have x5 := (blk_cell HS6.out.fx 5).trans rfl
  have y5 := (blk_cell HS6.out.fr 5).trans rfl
  have z5 := blk_frozen HS6.out.fr 5
  have x6 := (blk_cell HS6.out.fx 6).trans rfl
  have y6 := (blk_cell HS6.out.fr 6).trans rfl
  have z6 := blk_frozen HS6.out.fr 6
  have x7 := (blk_cell HS6.out.fx 7).trans rfl
  have y7 := (blk_cell HS6.out.fr 7).trans rfl
  have z7 := blk_frozen HS6.out.fr 7
  clear HR1 hW1
  go_region
  all_goals (try go_wp2)
  all_goals refine bodyPost_ret (results_ctt rfl _ _ w.heap.size 26 #[.int .i64 0, .int .i64 0, .int .i64 0, .int .i64 0, .int .i64 0, .int .i64 0, .slice none 0 0, .slice none 0 0] (0, 0) _ rfl (blk_drew (event_Read.put8 HS6.out.fr)) Try.underlying26 rfl (by kernel_rfl)) rfl ?_
  all_goals exact ⟨_, _, rfl, Kd.R_nil _ _ _ _ _, Kd.R_nil _ _ _ _ _, below_drew1 (event_Read.below8 HS6.out.fB (Nat.le_refl _))⟩
mutual
def pack_Unpack.l0 : Nat → List Int → Int → List Int → Int → Option (List Int × Int)
 | 0, _, _, _, _ => none
 | k + 1, x0, x1, x6, x7 => if x7 < (x0.length : Int) then (if 0 ≤ x7 then (if (wrap64 (rd x0 x7)) < 128 then (if (wrap64 ((wrap64 (x7 + (wrap64 (rd x0 x7)))) + 1)) ≥ (x0.length : Int) then (pack_Unpack.j1 k x0 x1 x6 x7 (wrap64 (rd x0 x7)) true) else (if (wrap64 (rd x0 x7)) ≥ 128 then (pack_Unpack.j1 k x0 x1 x6 x7 (wrap64 (rd x0 x7)) (decide ((wrap64 (x7 + 1)) ≥ (x0.length : Int)))) else (pack_Unpack.j1 k x0 x1 x6 x7 (wrap64 (rd x0 x7)) false))) else (if (wrap64 (rd x0 x7)) ≥ 128 then (pack_Unpack.j1 k x0 x1 x6 x7 (wrap64 (rd x0 x7)) (decide ((wrap64 (x7 + 1)) ≥ (x0.length : Int)))) else (pack_Unpack.j1 k x0 x1 x6 x7 (wrap64 (rd x0 x7)) false))) else (none)) else (some (x6, 0))
def pack_Unpack.j1 : Nat → List Int → Int → List Int → Int → Int → Bool → Option (List Int × Int)
 | 0, _, _, _, _, _, _ => none
 | k + 1, x0, x1, x6, x7, x8, x51 => if x51 = true then (some (([] : List Int), 9)) else (if x8 < 128 then (if 0 ≤ (wrap64 (x7 + 1)) then (if (wrap64 (x7 + 1)) ≤ (wrap64 ((wrap64 (x7 + x8)) + 2)) then (if (wrap64 ((wrap64 (x7 + x8)) + 2)) ≤ (x0.length : Int) then (if x6.length + ((x0.take ((wrap64 ((wrap64 (x7 + x8)) + 2)) : Int).toNat).drop ((wrap64 (x7 + 1)) : Int).toNat).length < 140737488355328 then ((some (x6 ++ ((x0.take ((wrap64 ((wrap64 (x7 + x8)) + 2)) : Int).toNat).drop ((wrap64 (x7 + 1)) : Int).toNat) : List Int)).bind fun y517 => (if (y517.length : Int) > x1 then (some (([] : List Int), 2)) else (pack_Unpack.l0 k x0 x1 y517 (wrap64 (x7 + (wrap64 (x8 + 2))))))) else (none)) else (none)) else (none)) else (none)) else (if 0 ≤ (wrap64 (x7 + 1)) then (if (wrap64 (x7 + 1)) < (x0.length : Int) then (if (wrap64 (rd x0 (wrap64 (x7 + 1)))) = 0 then (pack_Unpack.j2 k x0 x1 x6 x7 x8 (wrap64 (rd x0 (wrap64 (x7 + 1)))) true) else (pack_Unpack.j2 k x0 x1 x6 x7 x8 (wrap64 (rd x0 (wrap64 (x7 + 1)))) (decide ((wrap64 (rd x0 (wrap64 (x7 + 1)))) > (x6.length : Int))))) else (none)) else (none)))
def pack_Unpack.j2 : Nat → List Int → Int → List Int → Int → Int → Int → Bool → Option (List Int × Int)
 | 0, _, _, _, _, _, _, _ => none
 | k + 1, x0, x1, x6, x7, x8, x9, x32 => if x32 = true then (some (([] : List Int), 11)) else (pack_Unpack.l1 k x0 x1 x6 x7 x9 (wrap64 ((wrap64 (x8 - 128)) + 3)) 0)
def pack_Unpack.l1 : Nat → List Int → Int → List Int → Int → Int → Int → Int → Option (List Int × Int)
 | 0, _, _, _, _, _, _, _ => none
 | k + 1, x0, x1, x6, x7, x9, x35, x36 => if x36 < x35 then (if 0 ≤ (wrap64 ((x6.length : Int) - x9)) then (if (wrap64 ((x6.length : Int) - x9)) < (x6.length : Int) then (if x6.length < 140737488355328 then (pack_Unpack.l1 k x0 x1 (x6 ++ [rd x6 (wrap64 ((x6.length : Int) - x9))]) x7 x9 x35 (wrap64 (x36 + 1))) else (none)) else (none)) else (none)) else (if (x6.length : Int) > x1 then (some (([] : List Int), 2)) else (pack_Unpack.l0 k x0 x1 x6 (wrap64 (x7 + 2))))
end
def pack_Unpack.f (k : Nat) (l0 : List Int) (a1 : Int) : Option (List Int × Int) := pack_Unpack.l0 k l0 a1 ([] : List Int) 0
theorem pack_Unpack.mono_l : ∀ k, (∀ y0 y1 y2 y3, LeO (pack_Unpack.l0 k y0 y1 y2 y3) (pack_Unpack.l0 (k + 1) y0 y1 y2 y3)) ∧ (∀ y0 y1 y2 y3 y4 y5, LeO (pack_Unpack.j1 k y0 y1 y2 y3 y4 y5) (pack_Unpack.j1 (k + 1) y0 y1 y2 y3 y4 y5)) ∧ (∀ y0 y1 y2 y3 y4 y5 y6, LeO (pack_Unpack.j2 k y0 y1 y2 y3 y4 y5 y6) (pack_Unpack.j2 (k + 1) y0 y1 y2 y3 y4 y5 y6)) ∧ (∀ y0 y1 y2 y3 y4 y5 y6, LeO (pack_Unpack.l1 k y0 y1 y2 y3 y4 y5 y6) (pack_Unpack.l1 (k + 1) y0 y1 y2 y3 y4 y5 y6))
 | 0 => ⟨fun _ _ _ _ r h => by simp [pack_Unpack.l0] at h, fun _ _ _ _ _ _ r h => by simp [pack_Unpack.j1] at h, fun _ _ _ _ _ _ _ r h => by simp [pack_Unpack.j2] at h, fun _ _ _ _ _ _ _ r h => by simp [pack_Unpack.l1] at h⟩
 | k + 1 => by
  obtain ⟨ih0, ih1, ih2, ih3⟩ := pack_Unpack.mono_l k
  refine ⟨?_, ?_, ?_, ?_⟩
  ·
   intro y0 y1 y2 y3
   unfold pack_Unpack.l0
   exact zM
  ·
   intro y0 y1 y2 y3 y4 y5
   unfold pack_Unpack.j1
   exact zM
  ·
   intro y0 y1 y2 y3 y4 y5 y6
   unfold pack_Unpack.j2
   exact zM
  ·
   intro y0 y1 y2 y3 y4 y5 y6
   unfold pack_Unpack.l1
   exact zM
theorem pack_Unpack.mono : ∀ a0 a1 k, LeO (pack_Unpack.f k a0 a1) (pack_Unpack.f (k + 1) a0 a1) := by
 intro a0 a1 k
 obtain ⟨ih0, ih1, ih2, ih3⟩ := pack_Unpack.mono_l k
 unfold pack_Unpack.f
 exact zM
set_option maxHeartbeats 8000000 in
set_option maxRecDepth 100000 in
theorem pack_Unpack.calls (k : Nat) (A0 : Option Addr) (c0 : Nat) (l0 : List Int) (a1 : Int) (r1 : List Int) (r2 : Int) (w : World) (hr0 : Kd.C (Kd.int .u8) w A0 l0.length l0) (hc0 : l0.length ≤ c0) (h : pack_Unpack.f k l0 a1 = some (r1, r2)) :
  Calls Try.prog 83 #[.slice A0 l0.length c0, .int .i64 a1] w fun e w' => ∃ v0_ : Value, e = .returned (.tuple #[v0_, .int .i64 r2]) ∧ Kd.R (Kd.int .u8) 5 w' w.heap.size (fun _ => True) v0_ r1 ∧ Below w.heap.size w w' := by
 have HR0 := am hr0
 have HC0 := am hc0
 clear hr0 hc0
 have HB := am (Below.refl w.heap.size w)
 have H : (pack_Unpack.l0 k l0 a1 ([] : List Int) 0) = some (r1, r2) := h
 clear h
 have H' := am H
 clear H
 go_enter Try.func83, Try.ntmps83
 go_wp2
 go_loopg [6, 7] k (fun kq v6 v7 w' => ∃ (x6_1 : List Int) (x7_1 : Int), v7 = .int .i64 x7_1 ∧ Aside0 (pack_Unpack.l0 kq l0 a1 x6_1 x7_1 = some (r1, r2)) ∧ Aside0 (kq ≤ k) ∧ Aside0 (Kd.R (Kd.int .u8) 5 w' w.heap.size (fun _ => True) v6 x6_1) ∧ Aside0 (Below w.heap.size w w'))
 case atStart => exact ⟨(([] : List Int)), (0), zr, H', ⟨Nat.le_refl _⟩, ⟨by first | exact Kd.R_nil _ _ _ _ _ | exact Kd.N_nil _ _ _ _ _ | exact Kd.V_nil _ _ _ _ _ | exact Kd.Q_nil _ _ _ _ _ | exact Kd.S_nil _ _ _ _ _⟩, ⟨zb HB⟩⟩
 case round =>
  clear H'
  try clear p2
  obtain ⟨x6_1, x7_1, rfl, HA, HK1, HO_6, HB⟩ := hrel
  cases gk with
  | zero => exact absurd HA.out (by simp [pack_Unpack.l0])
  | succ k1 =>
   have H := HA.out
   clear HA
   simp only [pack_Unpack.l0] at H
   by_cases c3 : x7_1 < (l0.length : Int)
   ·
    rw [if_pos c3] at H
    have c3b0 := decide_eq_true c3
    clear c3
    by_cases c4 : 0 ≤ x7_1
    ·
     rw [if_pos c4] at H
     have c4b0 := decide_eq_true c4
     clear c4
     have HC5 := am H
     clear H
     have p515 : 0 ≤ (x7_1 : Int) := zo
     have q515 : x7_1 < (l0.length : Int) := zo
     obtain ⟨ad515, e515, hx515_0⟩ := Kd.at_int HR0.out x7_1 p515 q515
     cases e515
     replace hx515_0 := zx HB hx515_0
     replace p515 := eq_true p515
     replace q515 := eq_true q515
     go_upto_region 13 with (fail)
     go_cut [51] (fun v51 wc => ∃ (kq : Nat) (x51_4 : Bool), v51 = .bool x51_4 ∧ Aside0 (pack_Unpack.j1 kq l0 a1 x6_1 x7_1 (wrap64 (rd l0 x7_1)) x51_4 = some (r1, r2)) ∧ Aside0 (kq ≤ k1) ∧ Aside0 (Kd.R (Kd.int .u8) 5 wc w.heap.size (fun _ => True) u6 x6_1) ∧ Aside0 (Below w.heap.size w wc))
     case first =>
      have H := HC5.out
      clear HC5
      by_cases c6 : (wrap64 (rd l0 x7_1)) < 128
      ·
       rw [if_pos c6] at H
       have c6b0 := decide_eq_true c6
       clear c6
       (first | rw [c6b0] | (simp only [i64_w, i32_w]; rw [c6b0]) | skip)
       by_cases c7 : (wrap64 ((wrap64 (x7_1 + (wrap64 (rd l0 x7_1)))) + 1)) ≥ (l0.length : Int)
       ·
        rw [if_pos c7] at H
        have c7b0 : decide ((l0.length : Int) ≤ (wrap64 ((wrap64 (x7_1 + (wrap64 (rd l0 x7_1)))) + 1))) = true := decide_eq_true c7
        clear c7
        have H' := am H
        clear H
        go_wp2
        go_meet
        case rel => exact y61
       ·
        rw [if_neg c7] at H
        have c7b0 : decide ((l0.length : Int) ≤ (wrap64 ((wrap64 (x7_1 + (wrap64 (rd l0 x7_1)))) + 1))) = false := decide_eq_false c7
        clear c7
        by_cases c8 : (wrap64 (rd l0 x7_1)) ≥ 128
        ·
         rw [if_pos c8] at H
         have c8b0 : decide (128 ≤ (wrap64 (rd l0 x7_1))) = true := decide_eq_true c8
         clear c8
         have H' := am H
         clear H
         go_wp2
         go_meet
         case rel => exact y56
        ·
         rw [if_neg c8] at H
         have c8b0 : decide (128 ≤ (wrap64 (rd l0 x7_1))) = false := decide_eq_false c8
         clear c8
         have H' := am H
         clear H
         go_wp2
         go_meet
         case rel => exact y60
      ·
       rw [if_neg c6] at H
       have c6b0 := decide_eq_false c6
       clear c6
       (first | rw [c6b0] | (simp only [i64_w, i32_w]; rw [c6b0]) | skip)
       by_cases c9 : (wrap64 (rd l0 x7_1)) ≥ 128
       ·
        rw [if_pos c9] at H
        have c9b0 : decide (128 ≤ (wrap64 (rd l0 x7_1))) = true := decide_eq_true c9
        clear c9
        have H' := am H
        clear H
        go_wp2
        go_meet
        case rel => exact y56
       ·
        rw [if_neg c9] at H
        have c9b0 : decide (128 ≤ (wrap64 (rd l0 x7_1))) = false := decide_eq_false c9
        clear c9
        have H' := am H
        clear H
        go_wp2
        go_meet
        case rel => exact y60
     case rest =>
      clear HC5
      obtain ⟨kq, x51_4, rfl, HA, HJ4, HO_6, HB⟩ := hcut
      cases kq with
      | zero => exact absurd HA.out (by simp [pack_Unpack.j1])
      | succ kj4 =>
       have H := HA.out
       clear HA
       simp only [pack_Unpack.j1] at H
       by_cases c10 : x51_4 = true
       ·
        subst c10
        have H1 : (some (([] : List Int), 9)) = some (r1, r2) := by rw [if_pos rfl] at H; exact H
        clear H
        have H := H1
        clear H1
        simp only [Option.some.injEq, Prod.mk.injEq] at H
        obtain ⟨rfl, rfl⟩ := H
        go_wp2
        go_ret2
        exact y24
       ·
        replace c10 := Bool.eq_false_iff.mpr c10
        subst c10
        have H1 : (if (wrap64 (rd l0 x7_1)) < 128 then (if 0 ≤ (wrap64 (x7_1 + 1)) then (if (wrap64 (x7_1 + 1)) ≤ (wrap64 ((wrap64 (x7_1 + (wrap64 (rd l0 x7_1)))) + 2)) then (if (wrap64 ((wrap64 (x7_1 + (wrap64 (rd l0 x7_1)))) + 2)) ≤ (l0.length : Int) then (if x6_1.length + ((l0.take ((wrap64 ((wrap64 (x7_1 + (wrap64 (rd l0 x7_1)))) + 2)) : Int).toNat).drop ((wrap64 (x7_1 + 1)) : Int).toNat).length < 140737488355328 then ((some (x6_1 ++ ((l0.take ((wrap64 ((wrap64 (x7_1 + (wrap64 (rd l0 x7_1)))) + 2)) : Int).toNat).drop ((wrap64 (x7_1 + 1)) : Int).toNat) : List Int)).bind fun y517 => (if (y517.length : Int) > a1 then (some (([] : List Int), 2)) else (pack_Unpack.l0 kj4 l0 a1 y517 (wrap64 (x7_1 + (wrap64 ((wrap64 (rd l0 x7_1)) + 2))))))) else (none)) else (none)) else (none)) else (none)) else (if 0 ≤ (wrap64 (x7_1 + 1)) then (if (wrap64 (x7_1 + 1)) < (l0.length : Int) then (if (wrap64 (rd l0 (wrap64 (x7_1 + 1)))) = 0 then (pack_Unpack.j2 kj4 l0 a1 x6_1 x7_1 (wrap64 (rd l0 x7_1)) (wrap64 (rd l0 (wrap64 (x7_1 + 1)))) true) else (pack_Unpack.j2 kj4 l0 a1 x6_1 x7_1 (wrap64 (rd l0 x7_1)) (wrap64 (rd l0 (wrap64 (x7_1 + 1)))) (decide ((wrap64 (rd l0 (wrap64 (x7_1 + 1)))) > (x6_1.length : Int))))) else (none)) else (none))) = some (r1, r2) := by rw [if_neg (show ¬ (false = true) by decide)] at H; exact H
        clear H
        have H := H1
        clear H1
        by_cases c11 : (wrap64 (rd l0 x7_1)) < 128
        ·
         rw [if_pos c11] at H
         have c11b0 := decide_eq_true c11
         clear c11
         obtain ⟨ji12, hji12⟩ : ∃ j_ : Int, (wrap64 (x7_1 + 1)) = j_ := ⟨_, rfl⟩
         (first | rw [hji12] at H | simp only [hji12] at H)
         have hji12w : (IntKind.i64.wrap (x7_1 + 1)) = ji12 := (i64_w _).trans hji12
         by_cases c13 : 0 ≤ (ji12)
         ·
          rw [if_pos c13] at H
          have c13b0 := eq_true c13
          have c13b1 : decide (0 ≤ (ji12)) = true := decide_eq_true c13
          clear c13
          by_cases c14 : (ji12) ≤ (wrap64 ((wrap64 (x7_1 + (wrap64 (rd l0 x7_1)))) + 2))
          ·
           rw [if_pos c14] at H
           have c14b0 := eq_true c14
           have c14b1 : decide ((ji12) ≤ (wrap64 ((wrap64 (x7_1 + (wrap64 (rd l0 x7_1)))) + 2))) = true := decide_eq_true c14
           by_cases c15 : (wrap64 ((wrap64 (x7_1 + (wrap64 (rd l0 x7_1)))) + 2)) ≤ (l0.length : Int)
           ·
            rw [if_pos c15] at H
            have c15b0 := eq_true c15
            have c15b1 : decide ((wrap64 ((wrap64 (x7_1 + (wrap64 (rd l0 x7_1)))) + 2)) ≤ (l0.length : Int)) = true := decide_eq_true c15
            by_cases c16 : x6_1.length + ((l0.take ((wrap64 ((wrap64 (x7_1 + (wrap64 (rd l0 x7_1)))) + 2)) : Int).toNat).drop ((ji12) : Int).toNat).length < 140737488355328
            ·
             rw [if_pos c16] at H
             have LMc16 := am c16
             clear c16
             obtain ⟨y517, hy517⟩ : ∃ y_ : List Int, y_ = (x6_1 ++ ((l0.take ((wrap64 ((wrap64 (x7_1 + (wrap64 (rd l0 x7_1)))) + 2)) : Int).toNat).drop ((ji12) : Int).toNat)) := ⟨_, rfl⟩
             replace H : (if (y517.length : Int) > a1 then (some (([] : List Int), 2)) else (pack_Unpack.l0 kj4 l0 a1 y517 (wrap64 (x7_1 + (wrap64 ((wrap64 (rd l0 x7_1)) + 2)))))) = some (r1, r2) := by first | (rw [hy517]; with_reducible exact H) | (have H2_ := (Option.bind_some _ _).symm.trans H; rw [hy517]; with_reducible exact H2_) | (have H2_ := (Option.bind_some _ _).symm.trans H; with_reducible exact H2_) | with_reducible exact H | (rw [hy517]; exact H) | exact H
             have Ny517 := am hy517
             clear hy517
             by_cases c17 : (y517.length : Int) > a1
             ·
              rw [if_pos c17] at H
              have c17b0 : decide (a1 < (y517.length : Int)) = true := decide_eq_true c17
              clear c17
              simp only [Option.some.injEq, Prod.mk.injEq] at H
              obtain ⟨rfl, rfl⟩ := H
              obtain ⟨i018, hi018, _, hsz18, _⟩ := info_parts info5
              obtain ⟨A18, hcut18, hA18, hC18⟩ := print_mid_of (P := Try.prog) (Value.int .u8) 0 27 5 .i64 .i64 Try.underlying27 hi018 hsz18 (some ad515) c0 l0 (ji12) (wrap64 ((wrap64 (x7_1 + (wrap64 (rd l0 x7_1)))) + 2)) zo (by first | omega | exact zo) zo HC0.out
              have HR516 := am (Kd.C_of_reads (h1 := fun _ => rfl) (hA18 _ (Kd.reads_of_C HR0.out)))
              have HC516 := am hC18
              clear hA18 hC18 hi018 hsz18
              go_wp2_with (first | ((with_reducible refine gate_builtin (b := .append) (xs := #[.tmp 77, .tmp 85]) rfl ?_); (try (refine gate_guard (by rfl) ?_; dsimp only)); at_builtin; refine Kd.R_append_rows (Kd.int .u8) (w0 := w) w.heap.size rfl (.tmp 77) (.tmp 85) 27 5 (.int .u8 0) 1 rfl Try.underlying27 info5 rfl (by decide) (by omega) u6 x6_1 ((l0.take ((wrap64 ((wrap64 (x7_1 + (wrap64 (rd l0 x7_1)))) + 2)) : Int).toNat).drop ((ji12) : Int).toNat) _ _ _ (fun _ => True) (fun _ => False) rfl rfl ?aO ?aR (fun _ _ h => h) (fun _ h => h.elim) ?aF ?aB ?aS ?aL ?_; (case aR => exact y14); (case aB => exact (zb HB)); (case aF => exact y69); (case aO => exact (zR HO_6.out)); (case aS => exact y44); (case aL => exact y32); intro v518 w19 ho hb hg hat; rw [← Ny517.out] at ho; have n0_ := am (hb); have n1_ := am (ho); clear HB; clear HO_6; have HB := n0_; have HO519 := n1_; clear n0_ n1_; clear ho hb hg hat; obtain ⟨Ao20, co20, eo20⟩ := Kd.R_slice HO519.out; subst eo20))
              go_ret2
              exact ⟨_, by first | rfl | (simp [errW_none, errW_some] <;> rfl) | (simp only [← hji12]; first | rfl | (simp [errW_none, errW_some] <;> rfl)) | (simp [*, errW_none, errW_some] <;> rfl), by first | exact Kd.R_nil _ _ _ _ _ | exact Kd.N_nil _ _ _ _ _ | exact Kd.V_nil _ _ _ _ _ | exact Kd.Q_nil _ _ _ _ _ | exact Kd.S_nil _ _ _ _ _, zb HB⟩
             ·
              rw [if_neg c17] at H
              have c17b0 : decide (a1 < (y517.length : Int)) = false := decide_eq_false c17
              clear c17
              have H' := am H
              clear H
              obtain ⟨i021, hi021, _, hsz21, _⟩ := info_parts info5
              obtain ⟨A21, hcut21, hA21, hC21⟩ := print_mid_of (P := Try.prog) (Value.int .u8) 0 27 5 .i64 .i64 Try.underlying27 hi021 hsz21 (some ad515) c0 l0 (ji12) (wrap64 ((wrap64 (x7_1 + (wrap64 (rd l0 x7_1)))) + 2)) zo (by first | omega | exact zo) zo HC0.out
              have HR516 := am (Kd.C_of_reads (h1 := fun _ => rfl) (hA21 _ (Kd.reads_of_C HR0.out)))
              have HC516 := am hC21
              clear hA21 hC21 hi021 hsz21
              go_wp2_with (first | ((with_reducible refine gate_builtin (b := .append) (xs := #[.tmp 77, .tmp 85]) rfl ?_); (try (refine gate_guard (by rfl) ?_; dsimp only)); at_builtin; refine Kd.R_append_rows (Kd.int .u8) (w0 := w) w.heap.size rfl (.tmp 77) (.tmp 85) 27 5 (.int .u8 0) 1 rfl Try.underlying27 info5 rfl (by decide) (by omega) u6 x6_1 ((l0.take ((wrap64 ((wrap64 (x7_1 + (wrap64 (rd l0 x7_1)))) + 2)) : Int).toNat).drop ((ji12) : Int).toNat) _ _ _ (fun _ => True) (fun _ => False) rfl rfl ?aO ?aR (fun _ _ h => h) (fun _ h => h.elim) ?aF ?aB ?aS ?aL ?_; (case aR => exact y14); (case aB => exact (zb HB)); (case aF => exact y69); (case aO => exact (zR HO_6.out)); (case aS => exact y44); (case aL => exact y32); intro v518 w22 ho hb hg hat; rw [← Ny517.out] at ho; have n0_ := am (hb); have n1_ := am (ho); clear HB; clear HO_6; have HB := n0_; have HO519 := n1_; clear n0_ n1_; clear ho hb hg hat; obtain ⟨Ao23, co23, eo23⟩ := Kd.R_slice HO519.out; subst eo23))
              go_roundg kj4
              case measure => have := HK1.out; have := HJ4.out; omega
              case rel => exact ⟨(y517), (wrap64 (x7_1 + (wrap64 ((wrap64 (rd l0 x7_1)) + 2)))), zr, H', ⟨by have := HK1.out; have := HJ4.out; omega⟩, ⟨by (with_reducible repeat (first | apply Kd.R_alloc | apply Kd.R_drewN | apply Kd.R_drew)); exact HO519.out⟩, ⟨zb HB⟩⟩
            ·
             rw [if_neg c16] at H
             exact absurd H (by simp)
           ·
            rw [if_neg c15] at H
            exact absurd H (by simp)
          ·
           rw [if_neg c14] at H
           exact absurd H (by simp)
         ·
          rw [if_neg c13] at H
          exact absurd H (by simp)
        ·
         rw [if_neg c11] at H
         have c11b0 := decide_eq_false c11
         clear c11
         obtain ⟨ji24, hji24⟩ : ∃ j_ : Int, (wrap64 (x7_1 + 1)) = j_ := ⟨_, rfl⟩
         (first | rw [hji24] at H | simp only [hji24] at H)
         have hji24w : (IntKind.i64.wrap (x7_1 + 1)) = ji24 := (i64_w _).trans hji24
         by_cases c25 : 0 ≤ (ji24)
         ·
          rw [if_pos c25] at H
          have c25b0 := decide_eq_true c25
          clear c25
          by_cases c26 : (ji24) < (l0.length : Int)
          ·
           rw [if_pos c26] at H
           have c26b0 := decide_eq_true c26
           clear c26
           have HC27 := am H
           clear H
           have p520 : 0 ≤ ((ji24) : Int) := zo
           have q520 : (ji24) < (l0.length : Int) := zo
           obtain ⟨ad520, e520, hx520_0⟩ := Kd.at_int HR0.out (ji24) p520 q520
           obtain rfl : ad515 = ad520 := (by injection e520)
           replace hx520_0 := zx HB hx520_0
           replace p520 := eq_true p520
           replace q520 := eq_true q520
           go_upto_region 6 with (fail)
           go_cut [32] (fun v32 wc => ∃ (kq : Nat) (x32_26 : Bool), v32 = .bool x32_26 ∧ Aside0 (pack_Unpack.j2 kq l0 a1 x6_1 x7_1 (wrap64 (rd l0 x7_1)) (wrap64 (rd l0 (ji24))) x32_26 = some (r1, r2)) ∧ Aside0 (kq ≤ kj4) ∧ Aside0 (Kd.R (Kd.int .u8) 5 wc w.heap.size (fun _ => True) u6 x6_1) ∧ Aside0 (Below w.heap.size w wc))
           case first =>
            have H := HC27.out
            clear HC27
            by_cases c28 : (wrap64 (rd l0 (ji24))) = 0
            ·
             rw [if_pos c28] at H
             obtain ⟨c28b0, c28b1⟩ := zt c28
             clear c28
             (first | rw [c28b0] | (simp only [i64_w, i32_w]; rw [c28b0]) | skip)
             have H' := am H
             clear H
             go_wp2
             go_meet
             case rel => exact ⟨_, (true), zr, H', ⟨by have := HK1.out; have := HJ4.out; first | omega | exact Nat.le_refl _⟩, ⟨by (with_reducible repeat (first | apply Kd.R_alloc | apply Kd.R_drewN | apply Kd.R_drew)); exact HO_6.out⟩, ⟨zb HB⟩⟩
            ·
             rw [if_neg c28] at H
             obtain ⟨c28b0, c28b1⟩ := zs c28
             (first | rw [c28b0] | (simp only [i64_w, i32_w]; rw [c28b0]) | skip)
             have H' := am H
             clear H
             obtain ⟨Ao29, co29, eo29⟩ := Kd.R_slice HO_6.out
             subst eo29
             go_wp2
             go_meet
             case rel => exact ⟨_, (decide ((wrap64 (rd l0 (ji24))) > (x6_1.length : Int))), (by first | rfl | (simp; done) | (simp only [← hji24] <;> (first | rfl | simp)) | (simp [*]; done)), H', ⟨by have := HK1.out; have := HJ4.out; first | omega | exact Nat.le_refl _⟩, ⟨by (with_reducible repeat (first | apply Kd.R_alloc | apply Kd.R_drewN | apply Kd.R_drew)); exact HO_6.out⟩, ⟨zb HB⟩⟩
           case rest =>
            clear HC27
            obtain ⟨kq, x32_26, rfl, HA, HJ26, HO_6, HB⟩ := hcut
            cases kq with
            | zero => exact absurd HA.out (by simp [pack_Unpack.j2])
            | succ kj26 =>
             have H := HA.out
             clear HA
             simp only [pack_Unpack.j2] at H
             by_cases c30 : x32_26 = true
             ·
              subst c30
              have H1 : (some (([] : List Int), 11)) = some (r1, r2) := by rw [if_pos rfl] at H; exact H
              clear H
              have H := H1
              clear H1
              simp only [Option.some.injEq, Prod.mk.injEq] at H
              obtain ⟨rfl, rfl⟩ := H
              go_wp2
              go_ret2
              exact y40
             ·
              replace c30 := Bool.eq_false_iff.mpr c30
              subst c30
              have H1 : (pack_Unpack.l1 kj26 l0 a1 x6_1 x7_1 (wrap64 (rd l0 (ji24))) (wrap64 ((wrap64 ((wrap64 (rd l0 x7_1)) - 128)) + 3)) 0) = some (r1, r2) := by rw [if_neg (show ¬ (false = true) by decide)] at H; exact H
              clear H
              have H := H1
              clear H1
              have H' := am H
              clear H
              go_wp2
              go_loopg [6, 36] kj26 (fun kq v6 v36 w' => ∃ (x6_4 : List Int) (x36_4 : Int), v36 = .int .i64 x36_4 ∧ Aside0 (pack_Unpack.l1 kq l0 a1 x6_4 x7_1 (wrap64 (rd l0 (ji24))) (wrap64 ((wrap64 ((wrap64 (rd l0 x7_1)) - 128)) + 3)) x36_4 = some (r1, r2)) ∧ Aside0 (kq ≤ kj26) ∧ Aside0 (Kd.R (Kd.int .u8) 5 w' w.heap.size (fun _ => True) v6 x6_4) ∧ Aside0 (Below w.heap.size w w'))
              case atStart => exact ⟨(x6_1), (0), zr, H', ⟨Nat.le_refl _⟩, ⟨by (with_reducible repeat (first | apply Kd.R_alloc | apply Kd.R_drewN | apply Kd.R_drew)); exact HO_6.out⟩, ⟨zb HB⟩⟩
              case round =>
               clear H'
               obtain ⟨x6_4, x36_4, rfl, HA, HK4, HO_6, HB⟩ := hrel
               cases gk with
               | zero => exact absurd HA.out (by simp [pack_Unpack.l1])
               | succ k4 =>
                have H := HA.out
                clear HA
                simp only [pack_Unpack.l1] at H
                by_cases c31 : x36_4 < (wrap64 ((wrap64 ((wrap64 (rd l0 x7_1)) - 128)) + 3))
                ·
                 rw [if_pos c31] at H
                 have c31b0 := decide_eq_true c31
                 clear c31
                 obtain ⟨ji32, hji32⟩ : ∃ j_ : Int, (wrap64 ((x6_4.length : Int) - (wrap64 (rd l0 (ji24))))) = j_ := ⟨_, rfl⟩
                 (first | rw [hji32] at H | simp only [hji32] at H)
                 have hji32w : (IntKind.i64.wrap ((x6_4.length : Int) - (wrap64 (rd l0 (ji24))))) = ji32 := (i64_w _).trans hji32
                 by_cases c33 : 0 ≤ (ji32)
                 ·
                  rw [if_pos c33] at H
                  have c33b0 := decide_eq_true c33
                  clear c33
                  by_cases c34 : (ji32) < (x6_4.length : Int)
                  ·
                   rw [if_pos c34] at H
                   have c34b0 := decide_eq_true c34
                   clear c34
                   by_cases c35 : x6_4.length < 140737488355328
                   ·
                    rw [if_pos c35] at H
                    have LMc35 := am c35
                    clear c35
                    obtain ⟨y522, hy522⟩ : ∃ y_ : List Int, y_ = (x6_4 ++ [rd x6_4 (ji32)]) := ⟨_, rfl⟩
                    replace H : (pack_Unpack.l1 k4 l0 a1 y522 x7_1 (wrap64 (rd l0 (ji24))) (wrap64 ((wrap64 ((wrap64 (rd l0 x7_1)) - 128)) + 3)) (wrap64 (x36_4 + 1))) = some (r1, r2) := by first | (rw [hy522]; with_reducible exact H) | (have H2_ := (Option.bind_some _ _).symm.trans H; rw [hy522]; with_reducible exact H2_) | (have H2_ := (Option.bind_some _ _).symm.trans H; with_reducible exact H2_) | with_reducible exact H | (rw [hy522]; exact H) | exact H
                    have Ny522 := am hy522
                    clear hy522
                    have H' := am H
                    clear H
                    obtain ⟨Ao36, co36, eo36⟩ := Kd.R_slice HO_6.out
                    subst eo36
                    have p521 : 0 ≤ ((ji32) : Int) := zo
                    have q521 : (ji32) < (x6_4.length : Int) := zo
                    obtain ⟨ad521, e521, hx521_0⟩ := Kd.at_int (Kd.R_reads' HO_6.out).2.2 (ji32) p521 q521
                    cases e521
                    replace p521 := eq_true p521
                    replace q521 := eq_true q521
                    go_wp2_with (first | ((with_reducible refine gate_builtin (b := .append) (xs := #[.tmp 38, .tmp 46]) rfl ?_); (try (refine gate_guard (by rfl) ?_; dsimp only)); at_builtin; refine Kd.R_append (Kd.int .u8) (w0 := w) w.heap.size rfl (.tmp 38) (.tmp 46) 27 5 (.int .u8 0) 1 rfl Try.underlying27 info5 rfl (by decide) (by omega) (.slice (some ad521) x6_4.length co36) x6_4 (rd x6_4 (ji32)) [.int .u8 (rd x6_4 (ji32))] (fun _ => True) (fun _ => False) rfl rfl ?aP (fun _ hk => hk.elim) ?aF ?aO ?aB ?aS ?aL ?_; (case aP => exact rfl); (case aB => exact (zb HB)); (case aF => exact y69); (case aO => exact (zR HO_6.out)); (case aS => exact y44); (case aL => have := LMc35.out; omega); intro v523 w37 ho hb hg hat; rw [← Ny522.out] at ho; have n0_ := am (hb); have n1_ := am (ho); clear HB; clear HO_6; have HB := n0_; have HO524 := n1_; clear n0_ n1_; clear ho hb hg hat))
                    go_roundg k4
                    case measure => have := HK1.out; have := HJ4.out; have := HJ26.out; have := HK4.out; omega
                    case rel => exact ⟨(y522), (wrap64 (x36_4 + 1)), zr, H', ⟨by have := HK1.out; have := HJ4.out; have := HJ26.out; have := HK4.out; omega⟩, ⟨by (with_reducible repeat (first | apply Kd.R_alloc | apply Kd.R_drewN | apply Kd.R_drew)); exact HO524.out⟩, ⟨zb HB⟩⟩
                   ·
                    rw [if_neg c35] at H
                    exact absurd H (by simp)
                  ·
                   rw [if_neg c34] at H
                   exact absurd H (by simp)
                 ·
                  rw [if_neg c33] at H
                  exact absurd H (by simp)
                ·
                 rw [if_neg c31] at H
                 have c31b0 := decide_eq_false c31
                 clear c31
                 by_cases c38 : (x6_4.length : Int) > a1
                 ·
                  rw [if_pos c38] at H
                  have c38b0 : decide (a1 < (x6_4.length : Int)) = true := decide_eq_true c38
                  clear c38
                  simp only [Option.some.injEq, Prod.mk.injEq] at H
                  obtain ⟨rfl, rfl⟩ := H
                  obtain ⟨Ao39, co39, eo39⟩ := Kd.R_slice HO_6.out
                  subst eo39
                  go_wp2
                  go_ret2
                  exact y40
                 ·
                  rw [if_neg c38] at H
                  have c38b0 : decide (a1 < (x6_4.length : Int)) = false := decide_eq_false c38
                  clear c38
                  have H' := am H
                  clear H
                  obtain ⟨Ao40, co40, eo40⟩ := Kd.R_slice HO_6.out
                  subst eo40
                  go_wp2
                  go_roundg k4
                  case measure => have := HK1.out; have := HJ4.out; have := HJ26.out; have := HK4.out; omega
                  case rel => exact ⟨(x6_4), (wrap64 (x7_1 + 2)), zr, H', ⟨by have := HK1.out; have := HJ4.out; have := HJ26.out; have := HK4.out; omega⟩, ⟨by (with_reducible repeat (first | apply Kd.R_alloc | apply Kd.R_drewN | apply Kd.R_drew)); exact HO_6.out⟩, ⟨zb HB⟩⟩
          ·
           rw [if_neg c26] at H
           exact absurd H (by simp)
         ·
          rw [if_neg c25] at H
          exact absurd H (by simp)
    ·
     rw [if_neg c4] at H
     exact absurd H (by simp)
   ·
    rw [if_neg c3] at H
    have c3b0 := decide_eq_false c3
    clear c3
    simp only [Option.some.injEq, Prod.mk.injEq] at H
    obtain ⟨rfl, rfl⟩ := H
    go_wp2
    go_ret2
    exact y73
end Go.Proofs.Ytnmmkgagbfniiaa.A
end
