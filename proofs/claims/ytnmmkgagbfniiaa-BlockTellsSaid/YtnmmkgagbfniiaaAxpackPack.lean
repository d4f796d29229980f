/- Made by a program of this session (drv.py) over the kit's printer: plain functions, and the proofs that the program's functions come to their answers. No condition. -/
import Derived.Test.YtnmmkgagbfniiaaAx0
import Derived.Test.YtnmmkgagbfniiaaAxownwords
import Derived.Test.YtnmmkgagbfniiaaAxpacklongest
namespace Go.Proofs.Ytnmmkgagbfniiaa.A
open Go.RowKit Go.Proofs.YtnmmkgagbfniiaaW.PrintWords Go.Proofs.YtnmmkgagbfniiaaW.PrintLast Go.Proofs.YtnmmkgagbfniiaaW.PrintMore
attribute [local go_sem] max2_int min2_int max_two min_two max_three min_three max_four min_four   -- for this text's walks alone
set_option linter.unusedVariables false
set_option linter.unusedSimpArgs false

/-! HAND pack_Pack: function 51 -/
/-- What 'flush' leaves in 'out'. -/
def pack_Pack.flush (l0 out : List Int) (beg fin : Int) : Option (List Int) :=
  if beg < fin then (if out.length + (fin - beg).toNat + 1 < 140737488355328 then some ((out ++ [(fin - beg - 1) % 256]) ++ ((l0.take fin.toNat).drop beg.toNat)) else none) else some out
/-- The three variables that 'flush' captures: b, out, begin. -/
structure pack_Pack.St (w0 w : World) (g : Nat) (v : Value) (A0 : Option Addr) (c0 : Nat) (l0 out : List Int) (beg : Int) : Prop where
  b : w.heap[g]? = some (.cells #[.slice A0 l0.length c0] 27 (0, 0))
  o : w.heap[g + 1]? = some (.cells #[v] 27 (0, 0))
  r : Kd.R (Kd.int .u8) 5 w w0.heap.size (fun k_ => g + 3 ≤ k_) v out
  n : w.heap[g + 2]? = some (.cells #[.int .i64 beg] 3 (0, 0))
  B : Below w0.heap.size w0 w
  g0 : w0.heap.size ≤ g
section
variable {w0 w w1 : World} {g : Nat} {v v1 : Value} {A0 : Option Addr} {c0 : Nat} {l0 out out1 : List Int} {beg : Int}
theorem pack_Pack.St.drewN (S : pack_Pack.St w0 w g v A0 c0 l0 out beg) (m : Nat) : pack_Pack.St w0 (w.drewN m) g v A0 c0 l0 out beg := ⟨S.b, S.o, Kd.R_drewN S.r m, S.n, pw_below_drewN S.B m, S.g0⟩
theorem pack_Pack.St.drew (S : pack_Pack.St w0 w g v A0 c0 l0 out beg) : pack_Pack.St w0 w.drew g v A0 c0 l0 out beg := ⟨S.b, S.o, Kd.R_drew S.r, S.n, S.B.drew, S.g0⟩
theorem pack_Pack.St.below (S : pack_Pack.St w0 w g v A0 c0 l0 out beg) (h : Below w.heap.size w w1) : pack_Pack.St w0 w1 g v A0 c0 l0 out beg := by
  have lb := lt_of_block S.b
  have lo := lt_of_block S.o
  have ln := lt_of_block S.n
  exact ⟨(h.block _ lb).trans S.b, (h.block _ lo).trans S.o, Kd.R_below S.r h, (h.block _ ln).trans S.n, below_then S.B S.B.size h, S.g0⟩
theorem pack_Pack.St.grown (S : pack_Pack.St w0 w g v A0 c0 l0 out beg) (hg : w.grownBy w1 v.ownBlock) (hb : Below w0.heap.size w0 w1) (hr : Kd.R (Kd.int .u8) 5 w1 w0.heap.size (fun k_ => g + 3 ≤ k_) v1 out1) : pack_Pack.St w0 (w1.setCell ⟨g + 1, 0, none⟩ v1) g v1 A0 c0 l0 out1 beg := by
  have lb := lt_of_block S.b
  have lo := lt_of_block S.o
  have ln := lt_of_block S.n
  have hne : ∀ k, k < g + 3 → some k ≠ v.ownBlock := fun k hk he => by have := S.r.1 k he.symm; omega
  refine ⟨?_, ?_, ?_, ?_, ?_, S.g0⟩
  · rw [Below.heap_setCell _ _ _ _ (by show g ≠ g + 1; omega)]; exact (hg.block _ lb (hne _ (by omega))).trans S.b
  · exact one_setCell ((hg.block _ lo (hne _ (by omega))).trans S.o)
  · exact Kd.R_far hr (fun k hk => by show k ≠ g + 1; omega) _
  · rw [Below.heap_setCell _ _ _ _ (by show g + 2 ≠ g + 1; omega)]; exact (hg.block _ ln (hne _ (by omega))).trans S.n
  · exact below_set hb (by have := S.g0; omega)
theorem pack_Pack.St.grown_o (S : pack_Pack.St w0 w g v A0 c0 l0 out beg) (hg : w.grownBy w1 v.ownBlock) : w1.cell? ⟨g + 1, 0, none⟩ = some v ∧ w1.frozen? ⟨g + 1, 0, none⟩ = false := by
  have lo := lt_of_block S.o
  have hb := (hg.block _ lo (fun he => by have := S.r.1 _ he.symm; omega)).trans S.o
  exact ⟨cell_of_one hb, free_of_one hb⟩
theorem pack_Pack.St.setBeg (S : pack_Pack.St w0 w g v A0 c0 l0 out beg) (z : Int) : pack_Pack.St w0 (w.setCell ⟨g + 2, 0, none⟩ (.int .i64 z)) g v A0 c0 l0 out z :=
  ⟨by rw [Below.heap_setCell _ _ _ _ (by show g ≠ g + 2; omega)]; exact S.b, by rw [Below.heap_setCell _ _ _ _ (by show g + 1 ≠ g + 2; omega)]; exact S.o, Kd.R_far S.r (fun k hk => by show k ≠ g + 2; omega) _, one_setCell S.n, below_set S.B (by have := S.g0; omega), S.g0⟩
end
set_option maxHeartbeats 4000000 in
set_option maxRecDepth 100000 in
theorem pack_Pack.flush_calls (w0 w : World) (g : Nat) (v : Value) (A0 : Option Addr) (c0 : Nat) (l0 out r : List Int) (beg fin : Int) (S : pack_Pack.St w0 w g v A0 c0 l0 out beg) (hb0 : 0 ≤ beg) (hf : fin ≤ l0.length) (hr0 : Kd.C (Kd.int .u8) w0 A0 l0.length l0) (hc0 : l0.length ≤ c0) (h : pack_Pack.flush l0 out beg fin = some r) :
    Calls Try.prog 77 #[.int .i64 fin, .pointer (some ⟨g + 2, 0, none⟩), .pointer (some ⟨g + 1, 0, none⟩), .pointer (some ⟨g, 0, none⟩)] w fun e w' => e = .returned (.tuple #[]) ∧ ∃ v', pack_Pack.St w0 w' g v' A0 c0 l0 r fin := by
  have HS := Aside0.mk S
  have HR0 := Aside0.mk hr0
  have HC0 := Aside0.mk hc0
  have q1 := cell_of_one S.b
  have q2 := cell_of_one S.o
  have q3 := cell_of_one S.n
  have f2 := free_of_one S.o
  have f3 := free_of_one S.n
  clear S hr0 hc0
  unfold pack_Pack.flush at h
  obtain ⟨Ao, co, eo⟩ := Kd.R_slice HS.out.r
  subst eo
  by_cases c : beg < fin
  · rw [if_pos c] at h
    by_cases c1 : out.length + (fin - beg).toNat + 1 < 140737488355328
    · rw [if_pos c1] at h
      obtain rfl := Option.some.inj h
      obtain ⟨y, hy⟩ : ∃ y : List Int, y = out ++ [(fin - beg - 1) % 256] := ⟨_, rfl⟩
      have HYL := Aside0.mk (show y.length = out.length + 1 by rw [hy]; simp)
      have HYE := Aside0.mk hy
      obtain ⟨i0, hi0, _, hsz, _⟩ := info_parts info5
      obtain ⟨A1, hcut, hA, hC⟩ := print_mid_of (P := Try.prog) (Value.int .u8) 0 27 5 .i64 .i64 Try.underlying27 hi0 hsz A0 c0 l0 beg fin hb0 (by omega) hf HC0.out
      have HR1 : Aside0 (Kd.C (Kd.int .u8) w0 A1 ((l0.take fin.toNat).drop beg.toNat).length ((l0.take fin.toNat).drop beg.toNat)) := Aside0.mk (Kd.C_of_reads (h1 := fun _ => rfl) (hA _ (Kd.reads_of_C HR0.out)))
      obtain ⟨zs, hz⟩ : ∃ zs : List Int, zs = (l0.take fin.toNat).drop beg.toNat := ⟨_, rfl⟩
      have HZL := Aside0.mk (show zs.length = (fin - beg).toNat by rw [hz, List.length_drop, List.length_take]; omega)
      rw [← hz] at hcut HR1
      rw [← hy, ← hz]
      obtain ⟨yz, hyz⟩ : ∃ yz : List Int, yz = y ++ zs := ⟨_, rfl⟩
      have HYZ := Aside0.mk hyz
      rw [← hyz]
      clear hyz
      clear hA hC hy hz
      go_enter Try.func77, Try.ntmps77
      go_wp2_with (first | ((with_reducible refine gate_builtin (b := .append) (xs := #[.tmp 8, .tmp 14]) rfl ?_); at_builtin; refine Kd.R_append (Kd.int .u8) (w0 := w0) w0.heap.size rfl (.tmp 8) (.tmp 14) 27 5 (.int .u8 0) 1 rfl Try.underlying27 info5 rfl (by decide) (by omega) (.slice Ao out.length co) out ((fin - beg - 1) % 256) [.int .u8 ((fin - beg - 1) % 256)] (fun k_ => g + 3 ≤ k_) (fun _ => False) rfl rfl ?aP (fun _ hk => hk.elim) ?aF ?aO ?aB ?aS ?aL ?_; (case aP => exact rfl); (case aB => exact HS.out.B); (case aF => exact (fun k_ hk => by have := lt_of_block HS.out.n; omega)); (case aO => exact HS.out.r); (case aS => exact HS.out.B.size); (case aL => omega); intro v1 w1 ho hb hg hat; rw [← HYE.out] at ho; have HX := Aside0.mk (HS.out.grown hg hb ho); obtain ⟨z1, z2⟩ := HS.out.grown_o hg; clear ho hb hg hat; obtain ⟨A2, c2, e2⟩ := Kd.R_slice HX.out.r; subst e2; have q4 := cell_of_one HX.out.b; have q5 := cell_of_one HX.out.o; have q6 := cell_of_one HX.out.n))
      refine start_ (n := 7) (S := fun w' => w'.cell? ⟨g, 0, none⟩ = some (.slice A0 l0.length c0) ∧ w'.cell? ⟨g + 1, 0, none⟩ = some (.slice A2 y.length c2) ∧ w'.cell? ⟨g + 2, 0, none⟩ = some (.int .i64 beg)) (ds := [5, 6]) #[false, false, false, false, false, false, false] (by kernel_rfl) rfl rfl ⟨q4, q5, q6⟩ (fun hHeld => ?_)
      have HX2 := Aside0.mk HX.out.drew
      generalize (w1.setCell ⟨g + 1, 0, none⟩ (.slice A2 y.length c2)).drew = w3 at HX2 hHeld ⊢
      have HR2 := Aside0.mk (Kd.C_below HR1.out HX2.out.B)
      refine pure_ (i := 3) (N := some 19) (v := ?_) (a' := ?_) #[false, false, false, true, false, false, false] rfl rfl (by kernel_rfl) (fun _ _ _ h => h) (Or.inl ⟨by rfl, ?_⟩) ?_ ?_
      rotate_left
      · intro w'
        go_simp
        with_reducible rfl
      rotate_left
      · simp only [Act.put, List.setIfInBounds_toArray, List.set_cons_zero, List.set_cons_succ, i64_w, i32_w]
        rfl
      refine take_ (i := 0) (N := some 16) (v := ?_) (a' := ?_) #[true, false, false, true, false, false, false] rfl rfl (by kernel_rfl) (fun _ _ _ h => h) (Or.inl ⟨by rfl, ?_⟩) hHeld ?_ ?_
      rotate_left
      · rintro w' ⟨s0, s1, s2⟩
        go_simp
        with_reducible rfl
      rotate_left
      · simp only [Act.put, List.setIfInBounds_toArray, List.set_cons_zero, List.set_cons_succ, i64_w, i32_w]
        rfl
      refine take_ (i := 1) (N := some 17) (v := ?_) (a' := ?_) #[true, true, false, true, false, false, false] rfl rfl (by kernel_rfl) (fun _ _ _ h => h) (Or.inl ⟨by rfl, ?_⟩) hHeld ?_ ?_
      rotate_left
      · rintro w' ⟨s0, s1, s2⟩
        go_simp
        with_reducible rfl
      rotate_left
      · simp only [Act.put, List.setIfInBounds_toArray, List.set_cons_zero, List.set_cons_succ, i64_w, i32_w]
        rfl
      refine take_ (i := 2) (N := some 18) (v := ?_) (a' := ?_) #[true, true, true, true, false, false, false] rfl rfl (by kernel_rfl) (fun _ _ _ h => h) (Or.inl ⟨by rfl, ?_⟩) hHeld ?_ ?_
      rotate_left
      · rintro w' ⟨s0, s1, s2⟩
        go_simp
        with_reducible rfl
      rotate_left
      · simp only [Act.put, List.setIfInBounds_toArray, List.set_cons_zero, List.set_cons_succ, i64_w, i32_w]
        rfl
      refine pure_ (i := 4) (N := some 20) (v := ?_) (a' := ?_) #[true, true, true, true, true, false, false] rfl rfl (by kernel_rfl) (fun _ _ _ h => h) (Or.inl ⟨by rfl, ?_⟩) ?_ ?_
      rotate_left
      · intro w'
        go_simp
        with_reducible rfl
      rotate_left
      · simp only [Act.put, List.setIfInBounds_toArray, List.set_cons_zero, List.set_cons_succ, i64_w, i32_w]
        rfl
      refine last_ (i := 5) (N := some 21) #[true, true, true, true, true, true, false] rfl rfl (by kernel_rfl) (by decide) (fun K hK => ?_)
      refine Kd.R_append_rows_step (Kd.int .u8) (w0 := w0) w0.heap.size (by rfl) (.tmp 16) (.tmp 20) 27 5 (.int .u8 0) 1 rfl Try.underlying27 info5 rfl (by decide) (by omega) _ y zs _ _ _ (fun k_ => g + 3 ≤ k_) (fun _ => False) rfl rfl ?bO ?bR (fun _ _ h => h) (fun _ h => h.elim) ?bF ?bB ?bS ?bL ?_
      case bR => exact HR2.out
      case bB => exact HX2.out.B
      case bF => exact (fun k_ hk => by have := lt_of_block HX2.out.n; omega)
      case bO => exact HX2.out.r
      case bS => exact HX2.out.B.size
      case bL => have := HYL.out; have := HZL.out; omega
      intro v2 w2 ho hb hg hat
      rw [← HYZ.out] at ho
      have HY := Aside0.mk (HX2.out.grown hg hb ho)
      obtain ⟨y1, y2⟩ := HX2.out.grown_o hg
      clear ho hb hg hat
      obtain ⟨A3, c3, e3⟩ := Kd.R_slice HY.out.r
      subst e3
      refine hK.out _ _ ?_
      clear hK K
      refine norm_ (a' := ?_) ?_ ?_
      rotate_left
      · show Act.put _ (some 21) _ = _
        simp only [Act.put, List.setIfInBounds_toArray, List.set_cons_zero, List.set_cons_succ, i64_w, i32_w]
        rfl
      refine last_ (i := 6) (N := none) #[true, true, true, true, true, true, true] rfl rfl (by kernel_rfl) (by decide) (fun K hK => ?_)
      refine skip_ (w1 := ?_) (by rfl) rfl ?_ ?_
      rotate_left
      · go_simp
        rfl
      refine hK.out _ _ ?_
      clear hK K
      refine done_ (by kernel_rfl) ?_
      have q7 := cell_of_one HY.out.b
      have q8 := cell_of_one HY.out.n
      have y3 := free_of_one HY.out.n
      go_wp2
      go_end0
      exact ⟨rfl, _, HY.out.setBeg fin⟩
    · rw [if_neg c1] at h
      exact absurd h (by simp)
  · rw [if_neg c] at h
    obtain rfl := Option.some.inj h
    go_enter Try.func77, Try.ntmps77
    go_wp2
    go_end0
    exact ⟨rfl, _, HS.out.setBeg fin⟩
/-- Pack's loop. -/
def pack_Pack.go (k : Nat) (l0 : List Int) : Nat → Int → Int → List Int → Option (List Int)
  | 0, _, _, _ => none
  | n + 1, i, beg, out =>
    if i < (l0.length : Int) then
      (pack_longest.f k l0 i).bind fun p =>
        if p.1 < 3 then
          (if i + 1 - beg = 128 then (pack_Pack.flush l0 out beg (i + 1)).bind fun o => pack_Pack.go k l0 n (i + 1) (i + 1) o else pack_Pack.go k l0 n (i + 1) beg out)
        else
          (if p.1 ≤ 130 ∧ i + p.1 ≤ (l0.length : Int) then
            (pack_Pack.flush l0 out beg i).bind fun o => if o.length + 2 < 140737488355328 then pack_Pack.go k l0 n (i + p.1) (i + p.1) (o ++ [p.1 - 3 + 128, p.2 % 256]) else none
          else none)
    else pack_Pack.flush l0 out beg (l0.length : Int)
def pack_Pack.f (k : Nat) (l0 : List Int) : Option (List Int) := pack_Pack.go k l0 k 0 0 []
theorem pack_Pack.mono_go (l0 : List Int) : ∀ n k i beg out, LeO (pack_Pack.go k l0 n i beg out) (pack_Pack.go (k + 1) l0 (n + 1) i beg out) := by
  intro n
  induction n with
  | zero => intro k i beg out; exact fun r h => by simp [pack_Pack.go] at h
  | succ n ih =>
    intro k i beg out
    rw [pack_Pack.go, pack_Pack.go]
    by_cases c : i < (l0.length : Int)
    · rw [if_pos c, if_pos c]
      refine LeO.bind (pack_longest.mono _ _ _) fun p => ?_
      by_cases c1 : p.1 < 3
      · rw [if_pos c1, if_pos c1]
        by_cases c2 : i + 1 - beg = 128
        · rw [if_pos c2, if_pos c2]
          exact LeO.bind (LeO.refl _) fun o => ih _ _ _ _
        · rw [if_neg c2, if_neg c2]
          exact ih _ _ _ _
      · rw [if_neg c1, if_neg c1]
        by_cases c2 : p.1 ≤ 130 ∧ i + p.1 ≤ (l0.length : Int)
        · rw [if_pos c2, if_pos c2]
          refine LeO.bind (LeO.refl _) fun o => ?_
          by_cases c3 : o.length + 2 < 140737488355328
          · rw [if_pos c3, if_pos c3]
            exact ih _ _ _ _
          · rw [if_neg c3, if_neg c3]
            exact LeO.refl _
        · rw [if_neg c2, if_neg c2]
          exact LeO.refl _
    · rw [if_neg c, if_neg c]
      exact LeO.refl _
theorem pack_Pack.mono : ∀ a0 k, LeO (pack_Pack.f k a0) (pack_Pack.f (k + 1) a0) := fun a0 k => pack_Pack.mono_go a0 k k 0 0 []
set_option maxHeartbeats 4000000 in
set_option maxRecDepth 100000 in
theorem pack_Pack.calls (k : Nat) (A0 : Option Addr) (c0 : Nat) (l0 : List Int) (r : List Int) (w : World) (hr0 : Kd.C (Kd.int .u8) w A0 l0.length l0) (hc0 : l0.length ≤ c0) (h : pack_Pack.f k l0 = some r) :
    Calls Try.prog 51 #[.slice A0 l0.length c0] w fun e w' => ∃ v0_ : Value, e = .returned (v0_) ∧ Kd.R (Kd.int .u8) 5 w' w.heap.size (fun _ => True) v0_ r ∧ Below w.heap.size w w' := by
  have HR0 := Aside0.mk hr0
  have hc0' := hc0
  have HC0 := Aside0.mk hc0
  have hmax : l0.length ≤ 9223372036854775807 := hr0.2.1
  have H' := Aside0.mk h
  obtain ⟨W3, hW3⟩ : ∃ W3 : World, W3 = ((w.alloc (.cells #[.slice A0 l0.length c0] 27)).alloc (.cells #[.slice none 0 0] 27)).alloc (.cells #[.int .i64 0] 3) := ⟨_, rfl⟩
  have HS := Aside0.mk (show pack_Pack.St w W3 w.heap.size (.slice none 0 0) A0 c0 l0 [] 0 by
    subst hW3
    refine ⟨?_, ?_, Kd.R_nil _ _ _ _ _, ?_, below_alloc (below_alloc (below_alloc (Below.refl _ _) _) _) _, Nat.le_refl _⟩
    · rw [heap_alloc_old _ _ (by simp; omega), heap_alloc_old _ _ (by simp), heap_alloc_new]
    · rw [heap_alloc_old _ _ (by simp), show w.heap.size + 1 = (w.alloc (.cells #[.slice A0 l0.length c0] 27)).heap.size by simp, heap_alloc_new]
    · rw [show w.heap.size + 2 = ((w.alloc (.cells #[.slice A0 l0.length c0] 27)).alloc (.cells #[.slice none 0 0] 27)).heap.size by simp, heap_alloc_new])
  clear hr0 hc0 h
  have hmf : ∀ (fn : Fn) (first cap : Array Value) (w : World), (Instr.makeFunc fn first cap).run Try.prog w = .ok (.func fn first cap) w := fun _ _ _ _ => rfl
  go_enter Try.func51, Try.ntmps51
  go_wp2
  rw [← hW3]
  clear hW3
  go_loopg [6] k (fun kq v6 w' => ∃ (i beg : Int) (v : Value) (out : List Int), v6 = .int .i64 i ∧ 0 ≤ beg ∧ beg ≤ i ∧ i ≤ (l0.length : Int) ∧ Aside0 (pack_Pack.go k l0 kq i beg out = some r) ∧ Aside0 (pack_Pack.St w w' w.heap.size v A0 c0 l0 out beg))
  case atStart => exact ⟨0, 0, _, [], rfl, by omega, by omega, by omega, H', HS⟩
  case round =>
    clear H' HS
    obtain ⟨i, beg, v, out, rfl, hb0, hbi, hil, HA, HS⟩ := hrel
    have q1 := cell_of_one HS.out.b
    have q3 : wr.cell? ⟨w.heap.size + 1 + 1, 0, none⟩ = some (.int .i64 beg) := cell_of_one HS.out.n
    cases gk with
    | zero => exact absurd HA.out (by simp [pack_Pack.go])
    | succ k1 =>
      have H := HA.out
      clear HA
      rw [pack_Pack.go] at H
      by_cases c : i < (l0.length : Int)
      · rw [if_pos c] at H
        obtain ⟨p, hp, H⟩ := Option.bind_eq_some_iff.mp H
        obtain ⟨l, d⟩ := p
        have HP := Aside0.mk hp
        clear hp
        by_cases c1 : l < 3
        · rw [if_pos c1] at H
          by_cases c2 : i + 1 - beg = 128
          · rw [if_pos c2] at H
            obtain ⟨o, ho, H⟩ := Option.bind_eq_some_iff.mp H
            have HF := Aside0.mk ho
            have H' := Aside0.mk H
            clear ho H
            go_wp2_with (first | (go_at_call 78; refine (pack_longest.calls k A0 c0 l0 i l d _ (Kd.C_below HR0.out HS.out.B) HC0.out HP.out).mono ?_; rintro e w5 ⟨rfl, hb⟩; have HS1 := Aside0.mk (HS.out.below hb); clear hb; have q4 := cell_of_one HS1.out.b; have q5 := cell_of_one HS1.out.n) | (go_at_call 77; refine (pack_Pack.flush_calls w _ w.heap.size v A0 c0 l0 out o beg (i + 1) HS1.out hb0 (by omega) HR0.out HC0.out HF.out).mono ?_; rintro e w6 ⟨rfl, v', hs⟩; have HS2 := Aside0.mk hs; clear hs))
            go_roundg k1
            case measure => omega
            case rel => exact ⟨i + 1, i + 1, v', o, rfl, by omega, by omega, by omega, H', HS2⟩
          · rw [if_neg c2] at H
            have H' := Aside0.mk H
            clear H
            go_wp2_with (go_at_call 78; refine (pack_longest.calls k A0 c0 l0 i l d _ (Kd.C_below HR0.out HS.out.B) HC0.out HP.out).mono ?_; rintro e w5 ⟨rfl, hb⟩; have HS1 := Aside0.mk (HS.out.below hb); clear hb; have q4 := cell_of_one HS1.out.b; have q5 := cell_of_one HS1.out.n)
            go_roundg k1
            case measure => omega
            case rel => exact ⟨i + 1, beg, v, out, rfl, by omega, by omega, by omega, H', HS1⟩
        · rw [if_neg c1] at H
          by_cases c2 : l ≤ 130 ∧ i + l ≤ (l0.length : Int)
          · rw [if_pos c2] at H
            obtain ⟨o, ho, H⟩ := Option.bind_eq_some_iff.mp H
            have HF := Aside0.mk ho
            clear ho
            obtain ⟨c3, c4⟩ := c2
            by_cases c5 : o.length + 2 < 140737488355328
            · rw [if_pos c5] at H
              have HL := Aside0.mk c5
              obtain ⟨oz, hoz⟩ : ∃ oz : List Int, oz = o ++ [l - 3 + 128, d % 256] := ⟨_, rfl⟩
              rw [← hoz] at H
              have HOZ := Aside0.mk hoz
              clear hoz
              have H' := Aside0.mk H
              clear H c5
              go_wp2_with (first | (go_at_call 78; refine (pack_longest.calls k A0 c0 l0 i l d _ (Kd.C_below HR0.out HS.out.B) HC0.out HP.out).mono ?_; rintro e w5 ⟨rfl, hb⟩; have HS1 := Aside0.mk (HS.out.below hb); clear hb; have q4 := cell_of_one HS1.out.b; have q5 := cell_of_one HS1.out.n) | (go_at_call 77; refine (pack_Pack.flush_calls w _ w.heap.size v A0 c0 l0 out o beg i HS1.out hb0 (by omega) HR0.out HC0.out HF.out).mono ?_; rintro e w6 ⟨rfl, v', hs⟩; have HS2 := Aside0.mk hs; clear hs; obtain ⟨A2, c2, e2⟩ := Kd.R_slice HS2.out.r; subst e2; have q6 := cell_of_one HS2.out.b; have q7 := cell_of_one HS2.out.o; have q8 : World.cell? w6 ⟨w.heap.size + 1 + 1, 0, none⟩ = some (.int .i64 i) := cell_of_one HS2.out.n; have f7 := free_of_one HS2.out.o; have f8 : World.frozen? w6 ⟨w.heap.size + 1 + 1, 0, none⟩ = false := free_of_one HS2.out.n) | ((with_reducible refine gate_builtin (b := .append) (xs := #[.tmp 34, .tmp 41]) rfl ?_); at_builtin; refine Kd.R_append_rows (Kd.int .u8) (w0 := w) w.heap.size rfl (.tmp 34) (.tmp 41) 27 5 (.int .u8 0) 1 rfl Try.underlying27 info5 rfl (by decide) (by omega) _ o [l - 3 + 128, d % 256] (some ⟨w6.heap.size, 0, none⟩) 2 2 (fun k_ => w.heap.size + 3 ≤ k_) (fun _ => False) rfl rfl ?aO ?aR (fun _ _ h => h) (fun _ h => h.elim) ?aF ?aB ?aS ?aL ?_; (case aR => exact ow_reads_new w6 .u8 [l - 3 + 128, d % 256] 5 (0, 0) (by simp)); (case aB => exact below_alloc HS2.out.B _); (case aF => exact (fun k_ hk => by have := lt_of_block HS2.out.n; simp at hk; omega)); (case aO => exact Kd.R_alloc HS2.out.r _); (case aS => exact (below_alloc HS2.out.B _).size); (case aL => have := HL.out; omega); intro v3 w7 ho hb hg hat; rw [← HOZ.out] at ho; obtain ⟨A3, c3_, e3⟩ := Kd.R_slice ho; subst e3; have HS3 := Aside0.mk ((HS2.out.below (below_alloc (Below.refl _ _) _)).grown hg hb ho); obtain ⟨z1, z2⟩ := (HS2.out.below (below_alloc (Below.refl _ _) _)).grown_o hg; clear ho hb hg hat; have q9 : World.cell? _ ⟨w.heap.size + 1 + 1, 0, none⟩ = _ := cell_of_one HS3.out.n; have f9 : World.frozen? _ ⟨w.heap.size + 1 + 1, 0, none⟩ = false := free_of_one HS3.out.n))
              go_roundg k1
              case measure => omega
              case rel => exact ⟨i + l, i + l, _, _, rfl, by omega, by omega, by omega, H', ⟨HS3.out.setBeg (i + l)⟩⟩
            · rw [if_neg c5] at H
              exact absurd H (by simp)
          · rw [if_neg c2] at H
            exact absurd H (by simp)
      · rw [if_neg c] at H
        obtain rfl : i = (l0.length : Int) := by omega
        have HF := Aside0.mk H
        clear H
        go_wp2_with (go_at_call 77; refine (pack_Pack.flush_calls w _ w.heap.size v A0 c0 l0 out r beg (l0.length : Int) HS.out hb0 (by omega) HR0.out HC0.out HF.out).mono ?_; rintro e w6 ⟨rfl, v', hs⟩; have HS2 := Aside0.mk hs; clear hs; obtain ⟨A2, c2, e2⟩ := Kd.R_slice HS2.out.r; subst e2; have q7 := cell_of_one HS2.out.o)
        go_ret
        exact ⟨_, rfl, Kd.R_mono HS2.out.r (fun _ _ => trivial), HS2.out.B⟩

end Go.Proofs.Ytnmmkgagbfniiaa.A
