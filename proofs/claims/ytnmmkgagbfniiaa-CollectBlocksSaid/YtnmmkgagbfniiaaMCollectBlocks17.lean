/- MCollectBlocks17: texts of this session and of the kit's printer on the road to the statement CollectBlocks, laid into one and rid of what it doesn't need. No condition beyond what each fact names. -/
import Derived.Test.YtnmmkgagbfniiaaMCollectBlocks16
import Derived.Test.YtnmmkgagbfniiaaMCollectBlocks7
import Derived.Test.YtnmmkgagbfniiaaMCollectBlocks12
import Derived.Test.YtnmmkgagbfniiaaMCollectBlocks9
import Derived.Test.YtnmmkgagbfniiaaMCollectBlocks13
import Derived.Test.YtnmmkgagbfniiaaMCollectBlocks6
import Derived.Test.YtnmmkgagbfniiaaMCollectBlocks4
import Derived.Test.YtnmmkgagbfniiaaMCollectBlocks5
import Derived.Test.YtnmmkgagbfniiaaMCollectBlocks2
import Derived.Test.YtnmmkgagbfniiaaMCollectBlocks3
import Derived.Lib.SlBytesConst
section
namespace Go.Proofs.Ytnmmkgagbfniiaa.Pl
open Go.RowKit Go.Proofs.YtnmmkgagbfniiaaW.PrintWords Go.Proofs.YtnmmkgagbfniiaaW.PrintMore Go.Proofs.Ytnmmkgagbfniiaa.A
set_option linter.unusedVariables false
theorem gather {u c : Int} {i : Nat} (hi : i < 10) (h0 : 0 ≤ u) (h1 : u < 2 ^ (7 * i)) (hc0 : 0 ≤ c) (hc1 : c < 256) (h9 : i = 9 → c % 128 ≤ 1) (y : Int) (hy : y = 7 * (i : Int)) :
  bits .or .u64 u (shl .u64 (IntKind.u64.wrap (bits .and .u8 c 127)) y) = u + (c % 128) * 2 ^ (7 * i) := by
 subst hy
 rw [u8_and127 c hc0 hc1, u64_wrap]
 unfold shl
 rw [show min (7 * (i : Int)).toNat IntKind.u64.bits = 7 * i by simp [IntKind.bits]; omega, u64_wrap, show c % 128 % 18446744073709551616 = c % 128 by omega]
 have hp : ((2 : Int) ^ (7 * i)) = ((2 ^ (7 * i) : Nat) : Int) := by simp
 have hb : (c % 128) * 2 ^ (7 * i) < 18446744073709551616 := by
  rw [hp]
  by_cases h : i = 9
  ·
   subst h
   have := h9 rfl
   have h2 : ((2 ^ (7 * 9) : Nat) : Int) = 9223372036854775808 := by decide
   rw [h2]
   omega
  ·
   have h3 : 2 ^ (7 * i) ≤ 2 ^ 56 := Nat.pow_le_pow_right (by decide) (by omega)
   have h4 : (c % 128) * ((2 ^ (7 * i) : Nat) : Int) ≤ 127 * ((2 ^ (7 * i) : Nat) : Int) := Int.mul_le_mul_of_nonneg_right (by omega) (by omega)
   omega
 have hb0 : 0 ≤ (c % 128) * 2 ^ (7 * i) := Int.mul_nonneg (by omega) (by rw [hp]; omega)
 rw [show (c % 128) * 2 ^ (7 * i) % 18446744073709551616 = (c % 128) * 2 ^ (7 * i) by omega]
 exact u64_join u (c % 128) (7 * i) h0 h1 (by omega) hb (by omega)
theorem gather_range {u c : Int} {i : Nat} (h0 : 0 ≤ u) (h1 : u < 2 ^ (7 * i)) : 0 ≤ u + (c % 128) * 2 ^ (7 * i) ∧ u + (c % 128) * 2 ^ (7 * i) < 2 ^ (7 * (i + 1)) := by
 have hp : ((2 : Int) ^ (7 * i)) = ((2 ^ (7 * i) : Nat) : Int) := by simp
 have hp2 : ((2 : Int) ^ (7 * (i + 1))) = 128 * ((2 ^ (7 * i) : Nat) : Int) := by
  rw [Nat.mul_add, Int.pow_add, hp, Int.mul_comm]
  rfl
 rw [hp2]
 rw [hp] at h1 ⊢
 have h4 : (c % 128) * ((2 ^ (7 * i) : Nat) : Int) ≤ 127 * ((2 ^ (7 * i) : Nat) : Int) := Int.mul_le_mul_of_nonneg_right (by omega) (by omega)
 have hb0 : 0 ≤ (c % 128) * ((2 ^ (7 * i) : Nat) : Int) := Int.mul_nonneg (by omega) (by omega)
 omega
theorem int_loop (x : List Int) (hm : x.length ≤ 140737488355328) (hx : ∀ c ∈ x, 0 ≤ c ∧ c < 256) : ∀ (d i : Nat) (u : Int), i + d = 10 → i ≤ x.length → (d ≠ 0 → 0 ≤ u ∧ u < 2 ^ (7 * i)) →
  Ev (fun k => event_Int.l0 k x u (i : Int)) (dec d u (x.drop i)) := by
 intro d
 induction d with
 | zero =>
  intro i u hi _ _
  refine Ev.step (f := fun _ => some _) (fun k => ?_) (Ev.now _)
  simp only [event_Int.l0]
  rw [if_neg (by omega)]
  rfl
 | succ d ih =>
  intro i u hi hxl hu
  obtain ⟨h0, h1⟩ := hu (by omega)
  by_cases he : i = x.length
  ·
   refine Ev.step (f := fun _ => some _) (fun k => ?_) (Ev.now _)
   simp only [event_Int.l0]
   rw [if_pos (by omega), if_pos (by omega), List.drop_of_length_le (by omega)]
   rfl
  ·
   have hlt : i < x.length := by omega
   have hc := hx x[i] (List.getElem_mem hlt)
   have e7 : wrap64 (7 * (i : Int)) = 7 * (i : Int) := wrap64_id (by omega) (by omega)
   have e1 : wrap64 ((i : Int) + 1) = ((i + 1 : Nat) : Int) := by rw [wrap64_id (by omega) (by omega)]; omega
   have ed : 9 - d = i := by omega
   rw [List.drop_eq_getElem_cons hlt]
   simp only [dec]
   rw [ed]
   generalize hcc : x[i] = c at hc ⊢
   by_cases hb : c ≥ 128
   ·
    rw [if_pos hb]
    by_cases h9 : i = 9
    ·
     have hd : d = 0 := by omega
     subst hd
     refine Ev.step (f := fun k => event_Int.l0 k x (bits .or .u64 u (shl .u64 (IntKind.u64.wrap (bits .and .u8 c 127)) (7 * (i : Int)))) ((i + 1 : Nat) : Int)) (fun k => ?_) ?_
     ·
      simp only [event_Int.l0]
      rw [if_pos (by omega), if_neg (by omega), if_pos (by omega), if_pos (by omega), rd_at hlt, hcc, e7, if_pos (by omega), if_pos hb, e1]
     ·
      exact ih (i + 1) _ (by omega) (by omega) (fun h => absurd rfl h)
    ·
     have hg := gather (i := i) (u := u) (c := c) (by omega) h0 h1 hc.1 hc.2 (fun h => absurd h h9) (7 * (i : Int)) rfl
     refine Ev.step (f := fun k => event_Int.l0 k x (u + c % 128 * 2 ^ (7 * i)) ((i + 1 : Nat) : Int)) (fun k => ?_) ?_
     ·
      simp only [event_Int.l0]
      rw [if_pos (by omega), if_neg (by omega), if_pos (by omega), if_pos (by omega), rd_at hlt, hcc, e7, if_pos (by omega), if_pos hb, e1, hg]
     ·
      exact ih (i + 1) _ (by omega) (by omega) (fun _ => gather_range h0 h1)
   ·
    rw [if_neg (by omega)]
    by_cases hbad : d = 0 ∧ 1 < c ∨ d < 9 ∧ c = 0
    ·
     rw [if_pos hbad]
     refine Ev.step (f := fun _ => some _) (fun k => ?_) (Ev.now _)
     simp only [event_Int.l0]
     rw [if_pos (by omega), if_neg (by omega), if_pos (by omega), if_pos (by omega), rd_at hlt, hcc, e7, if_pos (by omega), if_neg hb]
     by_cases h9 : (i : Int) = 9
     ·
      rw [if_pos h9]
      by_cases hc1 : c > 1
      ·
       rw [if_pos hc1]
      ·
       rw [if_neg hc1, if_pos (by omega), if_pos (by omega)]
     ·
      rw [if_neg h9, if_pos (by omega), if_pos (by omega)]
    ·
     rw [if_neg hbad]
     have hm7 : c % 128 = c := by omega
     have hg := gather (i := i) (u := u) (c := c) (by omega) h0 h1 hc.1 hc.2 (fun h => by omega) (7 * (i : Int)) rfl
     rw [hm7] at hg
     have hr := gather_range (i := i) (u := u) (c := c) h0 h1
     rw [hm7] at hr
     have h64 : u + c * 2 ^ (7 * i) < 18446744073709551616 := by
      by_cases h9 : i = 9
      ·
       subst h9
       have hc1 : c ≤ 1 := by omega
       have e2 : ((2 : Int) ^ (7 * 9)) = 9223372036854775808 := by decide
       rw [e2] at h1 ⊢
       omega
      ·
       have h3 : ((2 ^ (7 * (i + 1)) : Nat) : Int) ≤ ((2 ^ 63 : Nat) : Int) := by exact_mod_cast Nat.pow_le_pow_right (by decide) (by omega)
       have h5 : ((2 : Int) ^ (7 * (i + 1))) = ((2 ^ (7 * (i + 1)) : Nat) : Int) := by simp
       have h6 : ((2 ^ 63 : Nat) : Int) = 9223372036854775808 := by decide
       omega
     refine Ev.step (f := fun _ => some _) (fun k => ?_) (Ev.now _)
     simp only [event_Int.l0]
     rw [if_pos (by omega), if_neg (by omega), if_pos (by omega), if_pos (by omega), rd_at hlt, hcc, e7, if_pos (by omega), if_neg hb, hg, e1, unzz_impl hr.1 h64]
     have es : ((i + 1 : Nat) : Int) = 10 - (d : Int) := by omega
     rw [es]
     by_cases h9 : (i : Int) = 9
     ·
      rw [if_pos h9, if_neg (by omega), if_pos (by omega), if_neg (by omega)]
     ·
      rw [if_neg h9]
      by_cases hi0 : (i : Int) > 0
      ·
       rw [if_pos hi0, if_neg (by omega)]
      ·
       rw [if_neg hi0]
theorem int_f (x : List Int) (hm : x.length ≤ 140737488355328) (hx : ∀ c ∈ x, 0 ≤ c ∧ c < 256) : Ev (fun k => event_Int.f k x) (dec 10 0 x) := by
 have := int_loop x hm hx 10 0 0 rfl (Nat.zero_le _) (fun _ => by simp)
 simpa [event_Int.f] using this
theorem refInt_j2 (u : Int) (i : Nat) (h0 : 0 ≤ u) (h1 : u < 18446744073709551616) (hi : i < 10) (b : Bool) :
  Ev (fun k => j11_Int.j2 k u (i : Int) b) (if b = true then (0, 0, 11) else (unzz u, (i : Int) + 1, 0)) := by
 refine Ev.step (f := fun _ => some _) (fun k => ?_) (Ev.now _)
 simp only [j11_Int.j2]
 by_cases hb : b = true
 ·
  rw [if_pos hb, if_pos hb]
 ·
  rw [if_neg hb, if_neg hb, u64_and1 u h0 h1, wrap64_id (x := u / 2) (by omega) (by omega), wrap64_id (x := (i : Int) + 1) (by omega) (by omega)]
  unfold unzz
  by_cases h : u % 2 = 1
  ·
   rw [if_pos h, if_pos h, (i64_xor_ones _ (by omega) (by omega)).1]
  ·
   rw [if_neg h, if_neg h]
theorem refInt_loop (x : List Int) (hm : x.length ≤ 140737488355328) (hx : ∀ c ∈ x, 0 ≤ c ∧ c < 256) : ∀ (d i : Nat) (u : Int), i + d = 10 → i ≤ x.length → (d ≠ 0 → 0 ≤ u ∧ u < 2 ^ (7 * i)) →
  Ev (fun k => j11_Int.l0 k x u (i : Int)) (dec d u (x.drop i)) := by
 intro d
 induction d with
 | zero =>
  intro i u hi _ _
  refine Ev.step (f := fun _ => some _) (fun k => ?_) (Ev.now _)
  simp only [j11_Int.l0]
  rw [if_neg (by omega)]
  rfl
 | succ d ih =>
  intro i u hi hxl hu
  obtain ⟨h0, h1⟩ := hu (by omega)
  by_cases he : i = x.length
  ·
   refine Ev.step (f := fun _ => some _) (fun k => ?_) (Ev.now _)
   simp only [j11_Int.l0]
   rw [if_pos (by omega), if_pos (by omega), List.drop_of_length_le (by omega)]
   rfl
  ·
   have hlt : i < x.length := by omega
   have hc := hx x[i] (List.getElem_mem hlt)
   have e7 : IntKind.u64.wrap (wrap64 (7 * (i : Int))) = 7 * (i : Int) := by rw [wrap64_id (by omega) (by omega), u64_wrap]; omega
   have e1 : wrap64 ((i : Int) + 1) = ((i + 1 : Nat) : Int) := by rw [wrap64_id (by omega) (by omega)]; omega
   have ed : 9 - d = i := by omega
   rw [List.drop_eq_getElem_cons hlt]
   simp only [dec]
   rw [ed]
   generalize hcc : x[i] = c at hc ⊢
   refine Ev.step (f := fun k => j11_Int.j1 k x u (i : Int) (decide (i = 9 ∧ c > 1))) (fun k => ?_) ?_
   ·
    simp only [j11_Int.l0]
    rw [if_pos (by omega), if_neg (by omega)]
    by_cases h9 : (i : Int) = 9
    ·
     rw [if_pos h9, if_pos (by omega), if_pos (by omega), rd_at hlt, hcc]
     congr 1
     apply decide_eq_decide.mpr
     omega
    ·
     rw [if_neg h9]
     congr 1
     symm
     apply decide_eq_false
     omega
   by_cases hten : i = 9 ∧ c > 1
   ·
    rw [show decide (i = 9 ∧ c > 1) = true from decide_eq_true hten]
    have hr : (if 128 ≤ c then dec d (u + c % 128 * 2 ^ (7 * i)) (List.drop (i + 1) x) else if d = 0 ∧ 1 < c ∨ d < 9 ∧ c = 0 then (0, 0, 11) else (unzz (u + c * 2 ^ (7 * i)), 10 - (d : Int), 0)) = (0, 0, 11) := by
     have hd : d = 0 := by omega
     subst hd
     by_cases hb : 128 ≤ c
     ·
      rw [if_pos hb]; rfl
     ·
      rw [if_neg hb, if_pos (by omega)]
    rw [hr]
    refine Ev.step (f := fun _ => some _) (fun k => ?_) (Ev.now _)
    simp only [j11_Int.j1]
    rw [if_pos trivial]
   ·
    rw [show decide (i = 9 ∧ c > 1) = false from decide_eq_false hten]
    have hm9 : i = 9 → c % 128 ≤ 1 := by omega
    have hg := gather (i := i) (u := u) (c := c) (by omega) h0 h1 hc.1 hc.2 hm9 (7 * (i : Int)) rfl
    have hr := gather_range (i := i) (u := u) (c := c) h0 h1
    by_cases hb : 128 ≤ c
    ·
     rw [if_pos hb]
     refine Ev.step (f := fun k => j11_Int.l0 k x (u + c % 128 * 2 ^ (7 * i)) ((i + 1 : Nat) : Int)) (fun k => ?_) ?_
     ·
      simp only [j11_Int.j1]
      rw [if_neg (by decide), if_pos (by omega), if_pos (by omega), rd_at hlt, hcc, e7, if_pos (by omega), if_neg (by omega), e1, hg]
     ·
      exact ih (i + 1) _ (by omega) (by omega) (fun _ => hr)
    ·
     rw [if_neg hb]
     have hm7 : c % 128 = c := by omega
     rw [hm7] at hg hr
     have h64 : u + c * 2 ^ (7 * i) < 18446744073709551616 := by
      by_cases h9 : i = 9
      ·
       subst h9
       have hc1 : c ≤ 1 := by omega
       have e2 : ((2 : Int) ^ (7 * 9)) = 9223372036854775808 := by decide
       rw [e2] at h1 ⊢
       omega
      ·
       have h3 : ((2 ^ (7 * (i + 1)) : Nat) : Int) ≤ ((2 ^ 63 : Nat) : Int) := by exact_mod_cast Nat.pow_le_pow_right (by decide) (by omega)
       have h5 : ((2 : Int) ^ (7 * (i + 1))) = ((2 ^ (7 * (i + 1)) : Nat) : Int) := by simp
       have h6 : ((2 ^ 63 : Nat) : Int) = 9223372036854775808 := by decide
       omega
     refine Ev.step (f := fun k => j11_Int.j2 k (u + c * 2 ^ (7 * i)) (i : Int) (decide (0 < i ∧ c = 0))) (fun k => ?_) ?_
     ·
      simp only [j11_Int.j1]
      rw [if_neg (by decide), if_pos (by omega), if_pos (by omega), rd_at hlt, hcc, e7, if_pos (by omega), if_pos (by omega), hg]
      by_cases hi0 : (i : Int) > 0
      ·
       rw [if_pos hi0]
       congr 1
       rw [show (c == 0) = decide (c = 0) from rfl]
       apply decide_eq_decide.mpr
       omega
      ·
       rw [if_neg hi0]
       congr 1
       symm
       apply decide_eq_false
       omega
     ·
      have := refInt_j2 (u + c * 2 ^ (7 * i)) i hr.1 h64 (by omega) (decide (0 < i ∧ c = 0))
      by_cases hz : 0 < i ∧ c = 0
      ·
       rw [show decide (0 < i ∧ c = 0) = true from decide_eq_true hz] at this ⊢
       rw [if_pos rfl] at this
       rw [if_pos (by omega)]
       exact this
      ·
       rw [show decide (0 < i ∧ c = 0) = false from decide_eq_false hz] at this ⊢
       rw [if_neg (by decide)] at this
       rw [if_neg (by omega), show (10 : Int) - (d : Int) = (i : Int) + 1 by omega]
       exact this
theorem refInt_f (x : List Int) (hm : x.length ≤ 140737488355328) (hx : ∀ c ∈ x, 0 ≤ c ∧ c < 256) : Ev (fun k => j11_Int.f k x) (dec 10 0 x) := by
 have := refInt_loop x hm hx 10 0 0 rfl (Nat.zero_le _) (fun _ => by simp)
 simpa [j11_Int.f] using this
def nx (l : List Int) (at_ : Nat) (e : Int) : Int × Nat × Int :=
 if e = 0 then ((dec 10 0 (l.drop at_)).1, at_ + (dec 10 0 (l.drop at_)).2.1.toNat, (dec 10 0 (l.drop at_)).2.2) else (0, at_, e)
def c3 (r : Int × Nat × Int) : Int × Int × Int := (r.1, (r.2.1 : Int), r.2.2)
theorem dec_size : ∀ (d : Nat) (u : Int) (l : List Int), d ≤ 10 → 0 ≤ (dec d u l).2.1 ∧ (dec d u l).2.1 ≤ (l.length : Int) + (10 - (d : Int)) ∧ ((dec d u l).2.2 ≠ 0 → (dec d u l).1 = 0 ∧ (dec d u l).2.1 = 0) := by
 intro d
 induction d with
 | zero => intro u l _; simp [dec]; omega
 | succ d ih =>
  intro u l hd
  rcases l with _ | ⟨c, t⟩
  ·
   simp [dec]; omega
  ·
   rw [dec]
   split
   ·
    obtain ⟨h1, h2, h3⟩ := ih (u + (c % 128) * 2 ^ (7 * (9 - d))) t (by omega)
    refine ⟨h1, ?_, h3⟩
    rw [List.length_cons]
    omega
   ·
    split
    ·
     simp; omega
    ·
     rw [List.length_cons]
     refine ⟨by show 0 ≤ 10 - (d : Int); omega, by show 10 - (d : Int) ≤ _; omega, fun h => absurd rfl h⟩
theorem nx_le {l : List Int} {at_ : Nat} {e : Int} (h : at_ ≤ l.length) : (nx l at_ e).2.1 ≤ l.length := by
 unfold nx
 split
 ·
  obtain ⟨h1, h2, _⟩ := dec_size 10 0 (l.drop at_) (by omega)
  rw [List.length_drop] at h2
  show at_ + (dec 10 0 (l.drop at_)).2.1.toNat ≤ _
  omega
 ·
  exact h
section
variable {l : List Int} (hm : l.length ≤ 1000000) (hx : ∀ c ∈ l, 0 ≤ c ∧ c < 256)
include hm hx
theorem next_f (at_ : Nat) (e : Int) (h : at_ ≤ l.length) : Ev (fun k => event_reader_next.f k l (at_ : Int) e) (c3 (nx l at_ e)) := by
 unfold nx
 by_cases c : e = 0
 ·
  rw [if_pos c]
  have hd := int_f (l.drop at_) (by rw [List.length_drop]; omega) (fun z hz => hx z (List.mem_of_mem_drop hz))
  obtain ⟨h1, h2, _⟩ := dec_size 10 0 (l.drop at_) (by omega)
  rw [List.length_drop] at h2
  generalize dec 10 0 (l.drop at_) = p at hd h1 h2 ⊢
  obtain ⟨n, z, e'⟩ := p
  dsimp only at h1 h2
  refine Ev.congr (fun k => by unfold event_reader_next.f; rw [if_pos c, if_pos (by omega), Int.toNat_natCast]) (Ev.bind hd ?_)
  refine Ev.congr (fun k => ?_) (Ev.now _)
  show some (n, wrap64 ((at_ : Int) + z), e') = some (n, ((at_ + z.toNat : Nat) : Int), e')
  rw [wrap64_id (by omega) (by omega), show (at_ : Int) + z = ((at_ + z.toNat : Nat) : Int) by omega]
 ·
  rw [if_neg c]
  exact Ev.congr (fun k => by unfold event_reader_next.f; rw [if_neg c]; rfl) (Ev.now _)
theorem num_f (at_ : Nat) (e : Int) (h : at_ ≤ l.length) : Ev (fun k => j11_reader_num.f k l (at_ : Int) e) (c3 (nx l at_ e)) := by
 unfold nx
 by_cases c : e = 0
 ·
  rw [if_pos c]
  have hd := refInt_f (l.drop at_) (by rw [List.length_drop]; omega) (fun z hz => hx z (List.mem_of_mem_drop hz))
  obtain ⟨h1, h2, h3⟩ := dec_size 10 0 (l.drop at_) (by omega)
  rw [List.length_drop] at h2
  generalize dec 10 0 (l.drop at_) = p at hd h1 h2 h3 ⊢
  obtain ⟨n, z, e'⟩ := p
  dsimp only at h1 h2 h3
  refine Ev.congr (fun k => by unfold j11_reader_num.f; rw [if_pos c, if_pos (by omega), Int.toNat_natCast]) (Ev.bind hd ?_)
  refine Ev.congr (fun k => ?_) (Ev.now _)
  show (if e' = 0 then some (n, wrap64 ((at_ : Int) + z), e) else some (0, (at_ : Int), e')) = some (n, ((at_ + z.toNat : Nat) : Int), e')
  by_cases c2 : e' = 0
  ·
   rw [if_pos c2, wrap64_id (by omega) (by omega), show (at_ : Int) + z = ((at_ + z.toNat : Nat) : Int) by omega, c, c2]
  ·
   obtain ⟨h4, h5⟩ := h3 c2
   rw [if_neg c2, h4, h5]
   rfl
 ·
  rw [if_neg c]
  exact Ev.congr (fun k => by unfold j11_reader_num.f; rw [if_neg c]; rfl) (Ev.now _)
end
def ls (l : List Int) : Nat → Int → List Int → Nat → Int → List Int × Nat × Int
 | 0, _, acc, at_, e => (acc, at_, e)
 | m + 1, last, acc, at_, e => if e = 0 then ls l m (wrap64 (last + (nx l at_ e).1)) (acc ++ [wrap64 (last + (nx l at_ e).1)]) (nx l at_ e).2.1 (nx l at_ e).2.2 else (acc, at_, e)
theorem ls_err (l : List Int) {m : Nat} {last : Int} {acc : List Int} {at_ : Nat} {e : Int} (h : e ≠ 0) : ls l m last acc at_ e = (acc, at_, e) := by
 cases m with
 | zero => rfl
 | succ m => rw [ls, if_neg h]
def l3 (r : List Int × Nat × Int) : List Int × Int × Int := (r.1, (r.2.1 : Int), r.2.2)
def li (l : List Int) (at_ : Nat) (e : Int) : List Int × Nat × Int :=
 let r := nx l at_ e
 if r.2.2 = 0 then (if r.1 < 0 ∨ r.1 > 400 then ([], r.2.1, 11) else ls l r.1.toNat 0 [] r.2.1 r.2.2) else ([], r.2.1, r.2.2)
section
variable {l : List Int} (hm : l.length ≤ 1000000) (hx : ∀ c ∈ l, 0 ≤ c ∧ c < 256)
include hm hx
theorem list_l0 (N : Nat) : ∀ m i (last : Int) (acc : List Int) (at_ : Nat) (e : Int), i + m = N → N ≤ 1000 → at_ ≤ l.length → acc.length ≤ i →
  Ev (fun k => event_reader_list.l0 k (N : Int) acc last (i : Int) l (at_ : Int) e) (l3 (ls l m last acc at_ e)) := by
 intro m
 induction m with
 | zero =>
  intro i last acc at_ e hi hN hat ha
  refine Ev.step (f := fun _ => some _) (fun k => ?_) (Ev.now _)
  simp only [event_reader_list.l0]
  rw [if_neg (by omega)]
  rfl
 | succ m ih =>
  intro i last acc at_ e hi hN hat ha
  rw [ls]
  by_cases c : e = 0
  ·
   rw [if_pos c]
   refine Ev.step (fun k => by simp only [event_reader_list.l0]; rw [if_pos (by omega), if_pos c]) (Ev.bind (next_f hm hx at_ e hat) ?_)
   refine Ev.congr (fun k => ?_) (ih (i + 1) (wrap64 (last + (nx l at_ e).1)) (acc ++ [wrap64 (last + (nx l at_ e).1)]) (nx l at_ e).2.1 (nx l at_ e).2.2 (by omega) hN (nx_le hat) (by rw [List.length_append, List.length_singleton]; omega))
   rw [if_pos (by omega), wrap64_id (x := (i : Int) + 1) (by omega) (by omega)]
   rfl
  ·
   rw [if_neg c]
   refine Ev.step (f := fun _ => some _) (fun k => ?_) (Ev.now _)
   simp only [event_reader_list.l0]
   rw [if_pos (by omega), if_neg c]
   rfl
theorem refList_l0 (N : Nat) : ∀ m i (last : Int) (acc : List Int) (at_ : Nat) (e : Int), i + m = N → N ≤ 1000 → at_ ≤ l.length → acc.length ≤ i →
  Ev (fun k => j11_reader_list.l0 k (N : Int) acc last (i : Int) l (at_ : Int) e) (l3 (ls l m last acc at_ e)) := by
 intro m
 induction m with
 | zero =>
  intro i last acc at_ e hi hN hat ha
  refine Ev.step (f := fun _ => some _) (fun k => ?_) (Ev.now _)
  simp only [j11_reader_list.l0]
  rw [if_neg (by omega)]
  rfl
 | succ m ih =>
  intro i last acc at_ e hi hN hat ha
  rw [ls]
  by_cases c : e = 0
  ·
   rw [if_pos c]
   refine Ev.step (fun k => by simp only [j11_reader_list.l0]; rw [if_pos (by omega), if_pos c]) (Ev.bind (num_f hm hx at_ e hat) ?_)
   refine Ev.congr (fun k => ?_) (ih (i + 1) (wrap64 (last + (nx l at_ e).1)) (acc ++ [wrap64 (last + (nx l at_ e).1)]) (nx l at_ e).2.1 (nx l at_ e).2.2 (by omega) hN (nx_le hat) (by rw [List.length_append, List.length_singleton]; omega))
   rw [if_pos (by omega), wrap64_id (x := (i : Int) + 1) (by omega) (by omega)]
   rfl
  ·
   rw [if_neg c]
   refine Ev.step (f := fun _ => some _) (fun k => ?_) (Ev.now _)
   simp only [j11_reader_list.l0]
   rw [if_pos (by omega), if_neg c]
   rfl
end
theorem ls_le {l : List Int} : ∀ m (last : Int) (acc : List Int) (at_ : Nat) (e : Int), at_ ≤ l.length → (ls l m last acc at_ e).2.1 ≤ l.length ∧ (ls l m last acc at_ e).1.length ≤ acc.length + m := by
 intro m
 induction m with
 | zero => intro last acc at_ e h; exact ⟨h, Nat.le_refl _⟩
 | succ m ih =>
  intro last acc at_ e h
  rw [ls]
  split
  ·
   obtain ⟨h1, h2⟩ := ih (wrap64 (last + (nx l at_ e).1)) (acc ++ [wrap64 (last + (nx l at_ e).1)]) (nx l at_ e).2.1 (nx l at_ e).2.2 (nx_le h)
   rw [List.length_append, List.length_singleton] at h2
   exact ⟨h1, by omega⟩
  ·
   exact ⟨h, by show acc.length ≤ _; omega⟩
theorem list_err {l : List Int} {n : Int} {at_ : Nat} {e : Int} (h : e ≠ 0) : Ev (fun k => event_reader_list.l0 k n [] 0 0 l (at_ : Int) e) (l3 ([], at_, e)) := by
 refine Ev.step (f := fun _ => some _) (fun k => ?_) (Ev.now _)
 simp only [event_reader_list.l0]
 rw [if_neg h]
 split <;> rfl
theorem list {l : List Int} (hm : l.length ≤ 1000000) (hx : ∀ c ∈ l, 0 ≤ c ∧ c < 256) (at_ : Nat) (e : Int) (h : at_ ≤ l.length) : Ev (fun k => event_reader_list.f k l (at_ : Int) e) (l3 (li l at_ e)) := by
 have hn := next_f hm hx at_ e h
 have hle := nx_le (l := l) (e := e) h
 unfold li
 generalize nx l at_ e = p at hn hle ⊢
 obtain ⟨n, a, e'⟩ := p
 dsimp only at hle ⊢
 refine Ev.bind hn ?_
 have j1 : ∀ {e2 : Int} {r : List Int × Int × Int}, Ev (fun k => event_reader_list.l0 k n [] 0 0 l (a : Int) e2) r → Ev (fun k => event_reader_list.j1 k n l (a : Int) e2) r := fun hh => Ev.step (fun k => by simp only [event_reader_list.j1]) hh
 have j0t : ∀ {r : List Int × Int × Int}, Ev (fun k => event_reader_list.l0 k n [] 0 0 l (a : Int) 11) r → Ev (fun k => event_reader_list.j0 k n true l (a : Int) e') r := fun hh => Ev.step (fun k => by simp only [event_reader_list.j0]; rw [if_pos trivial]) (j1 hh)
 have j0f : ∀ {r : List Int × Int × Int}, Ev (fun k => event_reader_list.l0 k n [] 0 0 l (a : Int) e') r → Ev (fun k => event_reader_list.j0 k n false l (a : Int) e') r := fun hh => Ev.step (fun k => by simp only [event_reader_list.j0]; rw [if_neg (by simp)]) (j1 hh)
 by_cases c : e' = 0
 ·
  rw [if_pos c]
  by_cases c1 : n < 0
  ·
   rw [if_pos (.inl c1)]
   exact Ev.congr (fun k => by show (if e' = 0 then _ else _) = _; rw [if_pos c]; show (if n < 0 then _ else _) = _; rw [if_pos c1]; rfl) (j0t (list_err (by decide)))
  ·
   by_cases c2 : n > 400
   ·
    rw [if_pos (.inr c2)]
    exact Ev.congr (fun k => by show (if e' = 0 then _ else _) = _; rw [if_pos c]; show (if n < 0 then _ else _) = _; rw [if_neg c1]; show event_reader_list.j0 k n (decide (n > 400)) l (a : Int) e' = _; rw [decide_eq_true c2]) (j0t (list_err (by decide)))
   ·
    rw [if_neg (by omega)]
    obtain ⟨N, rfl⟩ := Int.eq_ofNat_of_zero_le (show 0 ≤ n by omega)
    have := list_l0 hm hx N N 0 0 [] a e' (by omega) (by omega) hle (Nat.le_refl _)
    exact Ev.congr (fun k => by show (if e' = 0 then _ else _) = _; rw [if_pos c]; show (if (N : Int) < 0 then _ else _) = _; rw [if_neg c1]; show event_reader_list.j0 k (N : Int) (decide ((N : Int) > 400)) l (a : Int) e' = _; rw [decide_eq_false c2]) (j0f this)
 ·
  rw [if_neg c]
  exact Ev.congr (fun k => by show (if e' = 0 then _ else _) = _; rw [if_neg c]; rfl) (j0f (list_err c))
theorem refList_err {l : List Int} {n : Int} {at_ : Nat} {e : Int} (h : e ≠ 0) : Ev (fun k => j11_reader_list.l0 k n [] 0 0 l (at_ : Int) e) (l3 ([], at_, e)) := by
 refine Ev.step (f := fun _ => some _) (fun k => ?_) (Ev.now _)
 simp only [j11_reader_list.l0]
 rw [if_neg h]
 split <;> rfl
theorem refList {l : List Int} (hm : l.length ≤ 1000000) (hx : ∀ c ∈ l, 0 ≤ c ∧ c < 256) (at_ : Nat) (e : Int) (h : at_ ≤ l.length) : Ev (fun k => j11_reader_list.f k l (at_ : Int) e) (l3 (li l at_ e)) := by
 have hn := num_f hm hx at_ e h
 have hle := nx_le (l := l) (e := e) h
 unfold li
 generalize nx l at_ e = p at hn hle ⊢
 obtain ⟨n, a, e'⟩ := p
 dsimp only at hle ⊢
 refine Ev.bind hn ?_
 have j1 : ∀ {e2 : Int} {r : List Int × Int × Int}, Ev (fun k => j11_reader_list.l0 k n [] 0 0 l (a : Int) e2) r → Ev (fun k => j11_reader_list.j1 k n l (a : Int) e2) r := fun hh => Ev.step (fun k => by simp only [j11_reader_list.j1]) hh
 have j0t : ∀ {r : List Int × Int × Int}, Ev (fun k => j11_reader_list.l0 k n [] 0 0 l (a : Int) 11) r → Ev (fun k => j11_reader_list.j0 k n true l (a : Int) e') r := fun hh => Ev.step (fun k => by simp only [j11_reader_list.j0]; rw [if_pos trivial]) (j1 hh)
 have j0f : ∀ {r : List Int × Int × Int}, Ev (fun k => j11_reader_list.l0 k n [] 0 0 l (a : Int) e') r → Ev (fun k => j11_reader_list.j0 k n false l (a : Int) e') r := fun hh => Ev.step (fun k => by simp only [j11_reader_list.j0]; rw [if_neg (by simp)]) (j1 hh)
 by_cases c : e' = 0
 ·
  rw [if_pos c]
  by_cases c1 : n < 0
  ·
   rw [if_pos (.inl c1)]
   exact Ev.congr (fun k => by show (if e' = 0 then _ else _) = _; rw [if_pos c]; show (if n < 0 then _ else _) = _; rw [if_pos c1]; rfl) (j0t (refList_err (by decide)))
  ·
   by_cases c2 : n > 400
   ·
    rw [if_pos (.inr c2)]
    exact Ev.congr (fun k => by show (if e' = 0 then _ else _) = _; rw [if_pos c]; show (if n < 0 then _ else _) = _; rw [if_neg c1]; show j11_reader_list.j0 k n (decide (n > 400)) l (a : Int) e' = _; rw [decide_eq_true c2]) (j0t (refList_err (by decide)))
   ·
    rw [if_neg (by omega)]
    obtain ⟨N, rfl⟩ := Int.eq_ofNat_of_zero_le (show 0 ≤ n by omega)
    have := refList_l0 hm hx N N 0 0 [] a e' (by omega) (by omega) hle (Nat.le_refl _)
    exact Ev.congr (fun k => by show (if e' = 0 then _ else _) = _; rw [if_pos c]; show (if (N : Int) < 0 then _ else _) = _; rw [if_neg c1]; show j11_reader_list.j0 k (N : Int) (decide ((N : Int) > 400)) l (a : Int) e' = _; rw [decide_eq_false c2]) (j0f this)
 ·
  rw [if_neg c]
  exact Ev.congr (fun k => by show (if e' = 0 then _ else _) = _; rw [if_neg c]; rfl) (j0f (refList_err c))
theorem li_le {l : List Int} {at_ : Nat} {e : Int} (h : at_ ≤ l.length) : (li l at_ e).2.1 ≤ l.length ∧ (li l at_ e).1.length ≤ 400 := by
 have hle := nx_le (l := l) (e := e) h
 unfold li
 dsimp only
 split
 ·
  split
  ·
   exact ⟨hle, by simp⟩
  ·
   obtain ⟨h1, h2⟩ := ls_le (l := l) (nx l at_ e).1.toNat 0 [] (nx l at_ e).2.1 (nx l at_ e).2.2 hle
   rw [List.length_nil] at h2
   exact ⟨h1, by omega⟩
 ·
  exact ⟨hle, by simp⟩
def r0 (l : List Int) := nx l 0 0
def r1 (l : List Int) := nx l (r0 l).2.1 (r0 l).2.2
def r2 (l : List Int) := nx l (r1 l).2.1 (r1 l).2.2
def r3 (l : List Int) := nx l (r2 l).2.1 (r2 l).2.2
def r4 (l : List Int) := nx l (r3 l).2.1 (r3 l).2.2
def r5 (l : List Int) := li l (r4 l).2.1 (r4 l).2.2
def r6 (l : List Int) := li l (r5 l).2.1 (r5 l).2.2
def rdS (l : List Int) (th sq : Int) : Int × Int × Int × Int × Int × Int × List Int × List Int × Int × Int :=
 if (r6 l).2.2 = 0 then (wrap64 ((r0 l).1 + sq), th, (r1 l).1, (r2 l).1, (r3 l).1, (r4 l).1, (r5 l).1, (r6 l).1, ((r6 l).2.1 : Int), 0) else (0, 0, 0, 0, 0, 0, [], [], 0, (r6 l).2.2)
theorem r_le (l : List Int) : (r0 l).2.1 ≤ l.length ∧ (r1 l).2.1 ≤ l.length ∧ (r2 l).2.1 ≤ l.length ∧ (r3 l).2.1 ≤ l.length ∧ (r4 l).2.1 ≤ l.length ∧ (r5 l).2.1 ≤ l.length ∧ (r6 l).2.1 ≤ l.length := by
 have h0 : (r0 l).2.1 ≤ l.length := nx_le (Nat.zero_le _)
 have h1 : (r1 l).2.1 ≤ l.length := nx_le h0
 have h2 : (r2 l).2.1 ≤ l.length := nx_le h1
 have h3 : (r3 l).2.1 ≤ l.length := nx_le h2
 have h4 : (r4 l).2.1 ≤ l.length := nx_le h3
 have h5 : (r5 l).2.1 ≤ l.length := (li_le h4).1
 exact ⟨h0, h1, h2, h3, h4, h5, (li_le h5).1⟩
theorem read_f {l : List Int} (hm : l.length ≤ 1000000) (hx : ∀ c ∈ l, 0 ≤ c ∧ c < 256) (th sq : Int) : Ev (fun k => event_Read.f k l th sq) (rdS l th sq) := by
 obtain ⟨h0, h1, h2, h3, h4, h5, h6⟩ := r_le l
 refine Ev.bind (next_f hm hx 0 0 (Nat.zero_le _)) (Ev.bind (next_f hm hx (r0 l).2.1 (r0 l).2.2 h0) (Ev.bind (next_f hm hx (r1 l).2.1 (r1 l).2.2 h1) (Ev.bind (next_f hm hx (r2 l).2.1 (r2 l).2.2 h2) (Ev.bind (next_f hm hx (r3 l).2.1 (r3 l).2.2 h3) (Ev.bind (list hm hx (r4 l).2.1 (r4 l).2.2 h4) (Ev.bind (list hm hx (r5 l).2.1 (r5 l).2.2 h5) ?_))))))
 refine Ev.congr (fun k => ?_) (Ev.now _)
 unfold rdS
 show (if (r6 l).2.2 = 0 then _ else _) = some (if (r6 l).2.2 = 0 then _ else _)
 split <;> rfl
theorem refRead_f {l : List Int} (hm : l.length ≤ 1000000) (hx : ∀ c ∈ l, 0 ≤ c ∧ c < 256) (th sq : Int) : Ev (fun k => j11_Read.f k l th sq) (rdS l th sq) := by
 obtain ⟨h0, h1, h2, h3, h4, h5, h6⟩ := r_le l
 refine Ev.bind (num_f hm hx 0 0 (Nat.zero_le _)) (Ev.bind (num_f hm hx (r0 l).2.1 (r0 l).2.2 h0) (Ev.bind (num_f hm hx (r1 l).2.1 (r1 l).2.2 h1) (Ev.bind (num_f hm hx (r2 l).2.1 (r2 l).2.2 h2) (Ev.bind (num_f hm hx (r3 l).2.1 (r3 l).2.2 h3) (Ev.bind (refList hm hx (r4 l).2.1 (r4 l).2.2 h4) (Ev.bind (refList hm hx (r5 l).2.1 (r5 l).2.2 h5) ?_))))))
 refine Ev.congr (fun k => ?_) (Ev.now _)
 unfold rdS
 show (if (r6 l).2.2 = 0 then some (wrap64 (sq + (r0 l).1), _) else _) = some (if (r6 l).2.2 = 0 then (wrap64 ((r0 l).1 + sq), _) else _)
 rw [Int.add_comm sq]
 split <;> rfl
def I64 (a : Int) : Prop := -9223372036854775808 ≤ a ∧ a < 9223372036854775808
theorem wrap64_I64 (x : Int) : I64 (wrap64 x) := by unfold I64 wrap64; omega
def encDiffs : Int → List Int → List Int
 | _, [] => []
 | last, n :: t => enc (wrap64 (n - last)) ++ encDiffs n t
def encL (l : List Int) : List Int := enc (l.length : Int) ++ encDiffs 0 l
def encR (d kind obj val site : Int) (deps frm : List Int) : List Int := enc d ++ (enc kind ++ (enc obj ++ (enc val ++ (enc site ++ (encL deps ++ encL frm)))))
theorem enc_le {a : Int} (h : I64 a) : (enc a).length ≤ 10 := (enc_len h.1 h.2).2
theorem encDiffs_len : ∀ (l : List Int) (last : Int), (encDiffs last l).length ≤ 10 * l.length
 | [], _ => by simp [encDiffs]
 | n :: t, last => by
  have h1 := enc_le (wrap64_I64 (n - last))
  have h2 := encDiffs_len t n
  simp only [encDiffs, List.length_append, List.length_cons]
  omega
theorem encL_len (l : List Int) (hl : l.length ≤ 400) : (encL l).length ≤ 10 * l.length + 10 := by
 have h1 := encDiffs_len l 0
 have h2 := enc_le (a := (l.length : Int)) ⟨by omega, by omega⟩
 unfold encL
 rw [List.length_append]
 omega
theorem encDiffs_bytes : ∀ (l : List Int) (last : Int), ∀ x ∈ encDiffs last l, 0 ≤ x ∧ x < 256
 | [], _ => fun x hx => by simp [encDiffs] at hx
 | n :: t, last => fun x hx => by
  simp only [encDiffs, List.mem_append] at hx
  rcases hx with hx | hx
  ·
   exact enc_bytes _ x hx
  ·
   exact encDiffs_bytes t n x hx
theorem encL_bytes (l : List Int) : ∀ x ∈ encL l, 0 ≤ x ∧ x < 256 := fun x hx => by
 rcases List.mem_append.1 hx with hx | hx
 ·
  exact enc_bytes _ x hx
 ·
  exact encDiffs_bytes _ _ x hx
theorem encR_bytes (d kind obj val site : Int) (deps frm : List Int) : ∀ x ∈ encR d kind obj val site deps frm, 0 ≤ x ∧ x < 256 := fun x hx => by
 simp only [encR, List.mem_append] at hx
 rcases hx with hx | hx | hx | hx | hx | hx | hx
 ·
  exact enc_bytes _ x hx
 ·
  exact enc_bytes _ x hx
 ·
  exact enc_bytes _ x hx
 ·
  exact enc_bytes _ x hx
 ·
  exact enc_bytes _ x hx
 ·
  exact encL_bytes _ x hx
 ·
  exact encL_bytes _ x hx
theorem encR_len (d kind obj val site : Int) (deps frm : List Int) (h0 : I64 d) (h1 : I64 kind) (h2 : I64 obj) (h3 : I64 val) (h4 : I64 site) (h5 : deps.length ≤ 400) (h6 : frm.length ≤ 400) : (encR d kind obj val site deps frm).length ≤ 10 * (deps.length + frm.length) + 70 := by
 have a0 := enc_le h0
 have a1 := enc_le h1
 have a2 := enc_le h2
 have a3 := enc_le h3
 have a4 := enc_le h4
 have a5 := encL_len deps h5
 have a6 := encL_len frm h6
 unfold encR
 simp only [List.length_append]
 omega
theorem appendList_loop (l : List Int) (hl : l.length ≤ 140737488355328) : ∀ (d i : Nat) (x : List Int) (last : Int), i + d = l.length → x.length + 10 * d ≤ 140737488355318 →
  Ev (fun k => event_appendList.l0 k x last l (l.length : Int) (i : Int)) (x ++ encDiffs last (l.drop i)) := by
 intro d
 induction d with
 | zero =>
  intro i x last hi hx
  refine Ev.step (f := fun _ => some _) (fun k => ?_) (Ev.now _)
  simp only [event_appendList.l0]
  rw [if_neg (by omega), List.drop_of_length_le (by omega)]
  simp [encDiffs]
 | succ d ih =>
  intro i x last hi hx
  have hlt : i < l.length := by omega
  have hw := wrap64_I64 (l[i] - last)
  refine Ev.step (f := fun k => (event_appendInt.f k x (wrap64 (l[i] - last))).bind fun t => event_appendList.l0 k t l[i] l (l.length : Int) ((i + 1 : Nat) : Int)) (fun k => ?_) ?_
  ·
   simp only [event_appendList.l0]
   rw [if_pos (by omega), if_pos (by omega), if_pos (by omega), rd_at hlt, wrap64_id (x := (i : Int) + 1) (by omega) (by omega)]
   rfl
  ·
   refine Ev.bind (appendInt_f hw.1 hw.2 x (by omega)) ?_
   have h10 := enc_le hw
   have := ih (i + 1) (x ++ enc (wrap64 (l[i] - last))) l[i] (by omega) (by rw [List.length_append]; omega)
   rw [List.drop_eq_getElem_cons hlt]
   simpa [encDiffs] using this
theorem appendList_f (l x : List Int) (hl : l.length ≤ 400) (hx : x.length ≤ 140737488300000) : Ev (fun k => event_appendList.f k x l) (x ++ encL l) := by
 have h10 := enc_le (a := (l.length : Int)) ⟨by omega, by omega⟩
 refine Ev.bind (appendInt_f (a := (l.length : Int)) (by omega) (by omega) x (by omega)) ?_
 have := appendList_loop l (by omega) l.length 0 (x ++ enc (l.length : Int)) 0 (by omega) (by rw [List.length_append]; omega)
 simpa [encL] using this
theorem putList_loop (l : List Int) (hl : l.length ≤ 140737488355328) : ∀ (d i : Nat) (x : List Int) (last : Int), i + d = l.length → x.length + 10 * d ≤ 140737488355318 →
  Ev (fun k => j11_putList.l0 k x l last (i : Int)) (x ++ encDiffs last (l.drop i)) := by
 intro d
 induction d with
 | zero =>
  intro i x last hi hx
  refine Ev.step (f := fun _ => some _) (fun k => ?_) (Ev.now _)
  simp only [j11_putList.l0]
  rw [if_neg (by omega), List.drop_of_length_le (by omega)]
  simp [encDiffs]
 | succ d ih =>
  intro i x last hi hx
  have hlt : i < l.length := by omega
  have hw := wrap64_I64 (l[i] - last)
  refine Ev.step (f := fun k => (j11_PutInt.f k x (wrap64 (l[i] - last))).bind fun t => j11_putList.l0 k t l l[i] ((i + 1 : Nat) : Int)) (fun k => ?_) ?_
  ·
   simp only [j11_putList.l0]
   rw [if_pos (by omega), if_pos (by omega), rd_at hlt, wrap64_id (x := (i : Int) + 1) (by omega) (by omega)]
   rfl
  ·
   refine Ev.bind (refPutInt_f hw.1 hw.2 x (by omega)) ?_
   have h10 := enc_le hw
   have := ih (i + 1) (x ++ enc (wrap64 (l[i] - last))) l[i] (by omega) (by rw [List.length_append]; omega)
   rw [List.drop_eq_getElem_cons hlt]
   simpa [encDiffs] using this
theorem putList_f (l x : List Int) (hl : l.length ≤ 400) (hx : x.length ≤ 140737488300000) : Ev (fun k => j11_putList.f k x l) (x ++ encL l) := by
 have h10 := enc_le (a := (l.length : Int)) ⟨by omega, by omega⟩
 refine Ev.bind (refPutInt_f (a := (l.length : Int)) (by omega) (by omega) x (by omega)) ?_
 have := putList_loop l (by omega) l.length 0 (x ++ enc (l.length : Int)) 0 (by omega) (by rw [List.length_append]; omega)
 simpa [encL] using this
theorem append_f (x : List Int) (seq thread kind obj val site : Int) (deps frm : List Int) (q : Int) (hx : x.length ≤ 140737488200000) (h1 : I64 kind) (h2 : I64 obj) (h3 : I64 val) (h4 : I64 site) (h5 : deps.length ≤ 400) (h6 : frm.length ≤ 400) :
  Ev (fun k => event_Append.f k x seq thread kind obj val site deps frm q) (x ++ encR (wrap64 (seq - q)) kind obj val site deps frm) := by
 have hw := wrap64_I64 (seq - q)
 have a0 := enc_le hw
 have a1 := enc_le h1
 have a2 := enc_le h2
 have a3 := enc_le h3
 have a4 := enc_le h4
 have a5 := encL_len deps h5
 refine Ev.bind (appendInt_f hw.1 hw.2 x (by omega)) ?_
 refine Ev.bind (appendInt_f h1.1 h1.2 _ (by rw [List.length_append]; omega)) ?_
 refine Ev.bind (appendInt_f h2.1 h2.2 _ (by simp only [List.length_append]; omega)) ?_
 refine Ev.bind (appendInt_f h3.1 h3.2 _ (by simp only [List.length_append]; omega)) ?_
 refine Ev.bind (appendInt_f h4.1 h4.2 _ (by simp only [List.length_append]; omega)) ?_
 refine Ev.bind (appendList_f deps _ h5 (by simp only [List.length_append]; omega)) ?_
 have := appendList_f frm (x ++ enc (wrap64 (seq - q)) ++ enc kind ++ enc obj ++ enc val ++ enc site ++ encL deps) h6 (by simp only [List.length_append]; omega)
 simpa [encR, List.append_assoc] using this
theorem refAppend_f (x : List Int) (seq thread kind obj val site : Int) (deps frm : List Int) (q : Int) (hx : x.length ≤ 140737488200000) (h1 : I64 kind) (h2 : I64 obj) (h3 : I64 val) (h4 : I64 site) (h5 : deps.length ≤ 400) (h6 : frm.length ≤ 400) :
  Ev (fun k => j11_Append.f k x seq thread kind obj val site deps frm q) (x ++ encR (wrap64 (seq - q)) kind obj val site deps frm) := by
 have hw := wrap64_I64 (seq - q)
 have a0 := enc_le hw
 have a1 := enc_le h1
 have a2 := enc_le h2
 have a3 := enc_le h3
 have a4 := enc_le h4
 have a5 := encL_len deps h5
 refine Ev.bind (refPutInt_f hw.1 hw.2 x (by omega)) ?_
 refine Ev.bind (refPutInt_f h1.1 h1.2 _ (by rw [List.length_append]; omega)) ?_
 refine Ev.bind (refPutInt_f h2.1 h2.2 _ (by simp only [List.length_append]; omega)) ?_
 refine Ev.bind (refPutInt_f h3.1 h3.2 _ (by simp only [List.length_append]; omega)) ?_
 refine Ev.bind (refPutInt_f h4.1 h4.2 _ (by simp only [List.length_append]; omega)) ?_
 refine Ev.bind (putList_f deps _ h5 (by simp only [List.length_append]; omega)) ?_
 have := putList_f frm (x ++ enc (wrap64 (seq - q)) ++ enc kind ++ enc obj ++ enc val ++ enc site ++ encL deps) h6 (by simp only [List.length_append]; omega)
 refine Ev.bind this ?_
 simpa [encR, List.append_assoc] using Ev.now (x ++ encR (wrap64 (seq - q)) kind obj val site deps frm)
theorem nx_zero {l : List Int} {at_ : Nat} {e : Int} (h : (nx l at_ e).2.2 = 0) : e = 0 := by
 unfold nx at h
 by_cases c : e = 0
 ·
  exact c
 ·
  rw [if_neg c] at h
  exact h
theorem nx_once {l : List Int} (hx : ∀ c ∈ l, 0 ≤ c ∧ c < 256) {at_ : Nat} (hat : at_ ≤ l.length) {e : Int} (h : (nx l at_ e).2.2 = 0) :
  e = 0 ∧ I64 (nx l at_ e).1 ∧ l.take (nx l at_ e).2.1 = l.take at_ ++ enc (nx l at_ e).1 := by
 have he := nx_zero h
 unfold nx at h ⊢
 rw [if_pos he] at h ⊢
 dsimp only at h ⊢
 obtain ⟨h1, h2, rest, h3, h4⟩ := dec_once (l := l.drop at_) (n := (dec 10 0 (l.drop at_)).1) (s := (dec 10 0 (l.drop at_)).2.1) (fun z hz => hx z (List.mem_of_mem_drop hz)) (Prod.ext rfl (Prod.ext rfl h))
 refine ⟨he, ⟨h1, h2⟩, ?_⟩
 rw [h4, Int.toNat_natCast, List.take_add]
 congr 1
 generalize (dec 10 0 (l.drop at_)).1 = n at h3
 rw [h3, List.take_left]
theorem wrap_back {last d : Int} (hd : I64 d) : wrap64 (wrap64 (last + d) - last) = d := by
 unfold I64 at hd
 unfold wrap64
 omega
theorem ls_once {l : List Int} (hx : ∀ c ∈ l, 0 ≤ c ∧ c < 256) : ∀ m (last : Int) (acc : List Int) (at_ : Nat) (e : Int), at_ ≤ l.length → (ls l m last acc at_ e).2.2 = 0 →
  e = 0 ∧ ∃ ys, (ls l m last acc at_ e).1 = acc ++ ys ∧ ys.length = m ∧ l.take (ls l m last acc at_ e).2.1 = l.take at_ ++ encDiffs last ys := by
 intro m
 induction m with
 | zero =>
  intro last acc at_ e hat h
  exact ⟨h, [], by simp [ls], rfl, by simp [ls, encDiffs]⟩
 | succ m ih =>
  intro last acc at_ e hat h
  by_cases c : e = 0
  ·
   rw [ls, if_pos c] at h ⊢
   obtain ⟨h1, ys, h2, h3, h4⟩ := ih _ _ _ _ (nx_le hat) h
   obtain ⟨_, h5, h6⟩ := nx_once hx hat h1
   refine ⟨c, wrap64 (last + (nx l at_ e).1) :: ys, by rw [h2, List.append_assoc]; rfl, by rw [List.length_cons, h3], ?_⟩
   rw [h4, h6, encDiffs, wrap_back h5, List.append_assoc]
  ·
   rw [ls_err l c] at h
   exact absurd h c
theorem li_once {l : List Int} (hx : ∀ c ∈ l, 0 ≤ c ∧ c < 256) {at_ : Nat} (hat : at_ ≤ l.length) {e : Int} (h : (li l at_ e).2.2 = 0) :
  e = 0 ∧ l.take (li l at_ e).2.1 = l.take at_ ++ encL (li l at_ e).1 := by
 unfold li at h ⊢
 dsimp only at h ⊢
 by_cases c : (nx l at_ e).2.2 = 0
 ·
  rw [if_pos c] at h ⊢
  obtain ⟨h1, h2, h3⟩ := nx_once hx hat c
  by_cases c1 : (nx l at_ e).1 < 0 ∨ (nx l at_ e).1 > 400
  ·
   rw [if_pos c1] at h
   exact absurd h (by simp)
  ·
   rw [if_neg c1] at h ⊢
   obtain ⟨_, ys, h4, h5, h6⟩ := ls_once hx _ _ _ _ _ (nx_le hat) h
   refine ⟨h1, ?_⟩
   rw [h6, h4, List.nil_append, h3]
   unfold encL
   rw [List.append_assoc, show (ys.length : Int) = (nx l at_ e).1 by omega]
 ·
  rw [if_neg c] at h
  exact absurd h c
theorem nx_enc {a : Int} (ha : I64 a) (pre rest : List Int) : nx (pre ++ (enc a ++ rest)) pre.length 0 = (a, (pre ++ enc a).length, 0) := by
 unfold nx
 rw [if_pos rfl, List.drop_left, dec_enc ha.1 ha.2 rest, List.length_append]
 rfl
def ml (b : List Int) (i d : Nat) : Nat → Nat → Nat
 | 0, n => n
 | m + 1, n => if i + n < b.length ∧ rd b ((i + n : Nat) : Int) = rd b ((i + n - d : Nat) : Int) then ml b i d m (n + 1) else n
def up (p : Nat × Nat) (r d : Nat) : Nat × Nat := if p.1 < r then (r, d) else p
def bs (b : List Int) (i : Nat) : Nat → Nat → Nat × Nat → Nat × Nat
 | 0, _, p => p
 | f + 1, d, p => bs b i f (d + 1) (up p (ml b i d 130 0) d)
def lg (b : List Int) (i : Nat) : Nat × Nat := bs b i (min i 255) 1 (0, 0)
theorem ml_zero (b : List Int) (i d n : Nat) : ml b i d 0 n = n := rfl
theorem ml_succ (b : List Int) (i d m n : Nat) : ml b i d (m + 1) n = if i + n < b.length ∧ rd b ((i + n : Nat) : Int) = rd b ((i + n - d : Nat) : Int) then ml b i d m (n + 1) else n := rfl
theorem bs_zero (b : List Int) (i d : Nat) (p : Nat × Nat) : bs b i 0 d p = p := rfl
theorem bs_succ (b : List Int) (i f d : Nat) (p : Nat × Nat) : bs b i (f + 1) d p = bs b i f (d + 1) (up p (ml b i d 130 0) d) := rfl
theorem up_def (p : Nat × Nat) (r d : Nat) : up p r d = if p.1 < r then (r, d) else p := rfl
theorem lg_def (b : List Int) (i : Nat) : lg b i = bs b i (min i 255) 1 (0, 0) := rfl
attribute [irreducible] ml up bs lg
theorem ml_le (b : List Int) (i d : Nat) : ∀ m n, n ≤ ml b i d m n ∧ ml b i d m n ≤ n + m ∧ (i + n ≤ b.length → i + ml b i d m n ≤ b.length) ∧ (∀ j, n ≤ j → j < ml b i d m n → rd b ((i + j : Nat) : Int) = rd b ((i + j - d : Nat) : Int)) := by
 intro m
 induction m with
 | zero => intro n; exact ⟨by simp [ml_zero], by simp [ml_zero], by simp [ml_zero], fun j h h1 => by rw [ml_zero] at h1; omega⟩
 | succ m ih =>
  intro n
  rw [ml_succ]
  by_cases h : i + n < b.length ∧ rd b ((i + n : Nat) : Int) = rd b ((i + n - d : Nat) : Int)
  ·
   rw [if_pos h]
   obtain ⟨h1, h2, h3, h4⟩ := ih (n + 1)
   refine ⟨by omega, by omega, fun _ => h3 (by omega), fun j hj hj2 => ?_⟩
   by_cases e : j = n
   ·
    subst e
    exact h.2
   ·
    exact h4 j (by omega) hj2
  ·
   rw [if_neg h]
   exact ⟨by omega, by omega, fun h => h, fun j h1 h2 => by omega⟩
def Good (b : List Int) (i : Nat) (p : Nat × Nat) : Prop := p.1 = 0 ∨ (p.1 ≤ 130 ∧ i + p.1 ≤ b.length ∧ 1 ≤ p.2 ∧ p.2 ≤ 255 ∧ p.2 ≤ i ∧ ∀ j, j < p.1 → rd b ((i + j : Nat) : Int) = rd b ((i + j - p.2 : Nat) : Int))
theorem bs_good {b : List Int} {i : Nat} (hi : i ≤ b.length) : ∀ f d p, 1 ≤ d → d + f ≤ min i 255 + 1 → Good b i p → Good b i (bs b i f d p) := by
 intro f
 induction f with
 | zero => intro d p _ _ h; rw [bs_zero]; exact h
 | succ f ih =>
  intro d p h1 h2 h
  rw [bs_succ]
  refine ih (d + 1) _ (by omega) (by omega) ?_
  rw [up_def]
  split
  ·
   obtain ⟨m1, m2, m3, m4⟩ := ml_le b i d 130 0
   exact .inr ⟨by simpa using m2, by simpa using m3 (by omega), h1, by show d ≤ 255; omega, by show d ≤ i; omega, fun j hj => m4 j (by omega) hj⟩
  ·
   exact h
theorem lg_good {b : List Int} {i : Nat} (hi : i ≤ b.length) : Good b i (lg b i) := lg_def b i ▸ bs_good hi _ _ _ (by omega) (by omega) (.inl rfl)
section
variable (b : List Int) (hm : b.length ≤ 1000000000000) (i : Nat) (hi : i ≤ b.length)
include hm hi
theorem longest_in (p : Nat × Nat) (d : Nat) (h1 : 1 ≤ d) (hd : d ≤ i) {r : Int × Int} {R : Nat} (h : Ev (fun k => pack_longest.l0 k b (i : Int) ((up p R d).1 : Int) ((up p R d).2 : Int) ((d + 1 : Nat) : Int)) r) (hd2 : d ≤ 255) :
  ∀ m n, n + m = 130 → Aside0 (ml b i d m n = R) → Ev (fun k => pack_longest.l1 k b (i : Int) (p.1 : Int) (p.2 : Int) (d : Int) (n : Int)) r := by
 have ed : wrap64 ((d : Int) + 1) = ((d + 1 : Nat) : Int) := by rw [wrap64_id (by omega) (by omega)]; omega
 have fin : ∀ n : Nat, n = R → Ev (fun k => if (n : Int) > (p.1 : Int) then (pack_longest.l0 k b (i : Int) (n : Int) (d : Int) (wrap64 ((d : Int) + 1))) else (pack_longest.l0 k b (i : Int) (p.1 : Int) (p.2 : Int) (wrap64 ((d : Int) + 1)))) r := by
  intro n hn
  rw [ed]
  rw [← hn] at h
  rw [up_def] at h
  by_cases c : p.1 < n
  ·
   rw [if_pos c] at h
   exact Ev.congr (fun k => by rw [if_pos (by omega)]) h
  ·
   rw [if_neg c] at h
   exact Ev.congr (fun k => by rw [if_neg (by omega)]) h
 intro m
 induction m with
 | zero =>
  intro n hn e
  have e := e.out
  rw [ml_zero] at e
  refine Ev.step (fun k => ?_) (fin n e)
  simp only [pack_longest.l1]
  rw [if_neg (by omega)]
 | succ m ih =>
  intro n hn e
  have e1 : wrap64 ((i : Int) + (n : Int)) = ((i + n : Nat) : Int) := by rw [wrap64_id (by omega) (by omega)]; omega
  have e2 : wrap64 (((i + n : Nat) : Int) - (d : Int)) = ((i + n - d : Nat) : Int) := by rw [wrap64_id (by omega) (by omega)]; omega
  have e3 : wrap64 ((n : Int) + 1) = ((n + 1 : Nat) : Int) := by rw [wrap64_id (by omega) (by omega)]; omega
  have e' := Aside0.mk ((ml_succ b i d m n).symm.trans e.out)
  clear e
  by_cases c : i + n < b.length
  ·
   by_cases c2 : rd b ((i + n : Nat) : Int) = rd b ((i + n - d : Nat) : Int)
   ·
    have e := Aside0.mk ((if_pos ⟨c, c2⟩).symm.trans e'.out)
    refine Ev.step (fun k => ?_) (ih (n + 1) (by omega) e)
    simp only [pack_longest.l1]
    rw [if_pos (by omega), e1, if_pos (by omega), if_pos (by omega), e2, if_pos (by omega), if_pos (by omega), if_pos c2, e3]
   ·
    have e := (if_neg (fun h => c2 h.2)).symm.trans e'.out
    refine Ev.step (fun k => ?_) (fin n e)
    simp only [pack_longest.l1]
    rw [if_pos (by omega), e1, if_pos (by omega), if_pos (by omega), e2, if_pos (by omega), if_pos (by omega), if_neg c2]
  ·
   have e := (if_neg (fun h => c h.1)).symm.trans e'.out
   refine Ev.step (fun k => ?_) (fin n e)
   simp only [pack_longest.l1]
   rw [if_pos (by omega), e1, if_neg (by omega)]
theorem longest_out : ∀ f d p, 1 ≤ d → d + f = min i 255 + 1 → Ev (fun k => pack_longest.l0 k b (i : Int) ((p : Nat × Nat).1 : Int) (p.2 : Int) ((d : Nat) : Int)) (((bs b i f d p).1 : Int), ((bs b i f d p).2 : Int)) := by
 have em : mn (i : Int) 255 = ((min i 255 : Nat) : Int) := by unfold mn; split <;> omega
 intro f
 induction f with
 | zero =>
  intro d p h1 h
  refine Ev.step (f := fun _ => some _) (fun k => ?_) (Ev.now _)
  simp only [pack_longest.l0, bs_zero]
  rw [em, if_neg (by omega)]
 | succ f ih =>
  intro d p h1 h
  rw [bs_succ]
  have := longest_in b hm i hi p d h1 (by omega) (ih (d + 1) (up p (ml b i d 130 0) d) (by omega) (by omega)) (by omega) 130 0 rfl ⟨rfl⟩
  refine Ev.step (fun k => ?_) this
  simp only [pack_longest.l0]
  rw [em, if_pos (by omega)]
  rfl
theorem longest_f : Ev (fun k => pack_longest.f k b (i : Int)) (((lg b i).1 : Int), ((lg b i).2 : Int)) := by
 rw [lg_def]
 exact longest_out b hm i hi (min i 255) 1 (0, 0) (by omega) (by omega)
theorem match_in (p : Nat × Nat) (d : Nat) (h1 : 1 ≤ d) (hd : d ≤ i) {r : Int × Int} {R : Nat} (h : Ev (fun k => j11_Match.l0 k b (i : Int) ((up p R d).1 : Int) ((up p R d).2 : Int) ((d + 1 : Nat) : Int)) r) (hd2 : d ≤ 255) :
  ∀ m n, n + m = 130 → Aside0 (ml b i d m n = R) → Ev (fun k => j11_Match.l1 k b (i : Int) (p.1 : Int) (p.2 : Int) (d : Int) (n : Int)) r := by
 have ed : wrap64 ((d : Int) + 1) = ((d + 1 : Nat) : Int) := by rw [wrap64_id (by omega) (by omega)]; omega
 have fin : ∀ n : Nat, n = R → Ev (fun k => if (n : Int) > (p.1 : Int) then (j11_Match.l0 k b (i : Int) (n : Int) (d : Int) (wrap64 ((d : Int) + 1))) else (j11_Match.l0 k b (i : Int) (p.1 : Int) (p.2 : Int) (wrap64 ((d : Int) + 1)))) r := by
  intro n hn
  rw [ed]
  rw [← hn] at h
  rw [up_def] at h
  by_cases c : p.1 < n
  ·
   rw [if_pos c] at h
   exact Ev.congr (fun k => by rw [if_pos (by omega)]) h
  ·
   rw [if_neg c] at h
   exact Ev.congr (fun k => by rw [if_neg (by omega)]) h
 intro m
 induction m with
 | zero =>
  intro n hn e
  have e := e.out
  rw [ml_zero] at e
  refine Ev.step (fun k => ?_) (fin n e)
  simp only [j11_Match.l1]
  rw [if_neg (by omega)]
 | succ m ih =>
  intro n hn e
  have e1 : wrap64 ((i : Int) + (n : Int)) = ((i + n : Nat) : Int) := by rw [wrap64_id (by omega) (by omega)]; omega
  have e2 : wrap64 (((i + n : Nat) : Int) - (d : Int)) = ((i + n - d : Nat) : Int) := by rw [wrap64_id (by omega) (by omega)]; omega
  have e3 : wrap64 ((n : Int) + 1) = ((n + 1 : Nat) : Int) := by rw [wrap64_id (by omega) (by omega)]; omega
  have e' := Aside0.mk ((ml_succ b i d m n).symm.trans e.out)
  clear e
  by_cases c : i + n < b.length
  ·
   by_cases c2 : rd b ((i + n : Nat) : Int) = rd b ((i + n - d : Nat) : Int)
   ·
    have e := Aside0.mk ((if_pos ⟨c, c2⟩).symm.trans e'.out)
    refine Ev.step (fun k => ?_) (ih (n + 1) (by omega) e)
    simp only [j11_Match.l1]
    rw [if_pos (by omega), e1, if_pos (by omega), if_pos (by omega), e2, if_pos (by omega), if_pos (by omega), if_pos c2, e3]
   ·
    have e := (if_neg (fun h => c2 h.2)).symm.trans e'.out
    refine Ev.step (fun k => ?_) (fin n e)
    simp only [j11_Match.l1]
    rw [if_pos (by omega), e1, if_pos (by omega), if_pos (by omega), e2, if_pos (by omega), if_pos (by omega), if_neg c2]
  ·
   have e := (if_neg (fun h => c h.1)).symm.trans e'.out
   refine Ev.step (fun k => ?_) (fin n e)
   simp only [j11_Match.l1]
   rw [if_pos (by omega), e1, if_neg (by omega)]
def mt (p : Nat × Nat) : Nat × Nat := if p.1 < 3 then (0, 0) else p
omit hm hi in
theorem match_end (p : Nat × Nat) (d : Int) : Ev (fun k => j11_Match.j1 k b (i : Int) (p.1 : Int) (p.2 : Int) d false) (((mt p).1 : Int), ((mt p).2 : Int)) := by
 refine Ev.step (f := fun _ => some _) (fun k => ?_) (Ev.now _)
 simp only [j11_Match.j1]
 rw [if_neg (by simp)]
 unfold mt
 by_cases c : p.1 < 3
 ·
  rw [if_pos (by omega), if_pos c]
  rfl
 ·
  rw [if_neg (by omega), if_neg c]
theorem match_out : ∀ f d p, 1 ≤ d → d + f = min i 255 + 1 → Ev (fun k => j11_Match.l0 k b (i : Int) ((p : Nat × Nat).1 : Int) (p.2 : Int) ((d : Nat) : Int)) (((mt (bs b i f d p)).1 : Int), ((mt (bs b i f d p)).2 : Int)) := by
 intro f
 induction f with
 | zero =>
  intro d p h1 h
  refine Ev.step (fun k => ?_) (by rw [bs_zero]; exact match_end b i p (d : Int))
  simp only [j11_Match.l0]
  by_cases c : (d : Int) ≤ 255
  ·
   rw [if_pos c, show decide ((d : Int) ≤ (i : Int)) = false from decide_eq_false (by omega)]
  ·
   rw [if_neg c]
 | succ f ih =>
  intro d p h1 h
  rw [bs_succ]
  have := match_in b hm i hi p d h1 (by omega) (ih (d + 1) (up p (ml b i d 130 0) d) (by omega) (by omega)) (by omega) 130 0 rfl ⟨rfl⟩
  refine Ev.step (f := fun k => j11_Match.j1 k b (i : Int) (p.1 : Int) (p.2 : Int) (d : Int) true) (fun k => ?_) (Ev.step (fun k => ?_) this)
  ·
   simp only [j11_Match.l0]
   rw [if_pos (by omega), show decide ((d : Int) ≤ (i : Int)) = true from decide_eq_true (by omega)]
  ·
   simp only [j11_Match.j1]
   rw [if_pos trivial]
   rfl
theorem match_f : Ev (fun k => j11_Match.f k b (i : Int)) (((mt (lg b i)).1 : Int), ((mt (lg b i)).2 : Int)) := by
 rw [lg_def]
 exact match_out b hm i hi (min i 255) 1 (0, 0) (by omega) (by omega)
end
def lit (b : List Int) (s e : Nat) : List Int := if s < e then (((e - s - 1 : Nat) : Int)) :: (b.take e).drop s else []
def pk (b : List Int) : Nat → Nat → Nat → List Int
 | 0, _, _ => []
 | n + 1, i, s =>
  if i < b.length then
   (if (lg b i).1 < 3 then (if i + 1 - s = 128 then lit b s (i + 1) ++ pk b n (i + 1) (i + 1) else pk b n (i + 1) s)
   else lit b s i ++ ([((((lg b i).1 + 125 : Nat)) : Int), ((lg b i).2 : Int)] ++ pk b n (i + (lg b i).1) (i + (lg b i).1)))
  else lit b s b.length
def packS (b : List Int) : List Int := pk b (b.length + 1) 0 0
theorem lit_length {b : List Int} {s e : Nat} (he : e ≤ b.length) : (lit b s e).length = if s < e then e - s + 1 else 0 := by
 unfold lit
 split
 ·
  rw [List.length_cons, List.length_drop, List.length_take]; omega
 ·
  rfl
theorem lg_bounds {b : List Int} {i : Nat} (hi : i ≤ b.length) (h : ¬ (lg b i).1 < 3) : (lg b i).1 ≤ 130 ∧ i + (lg b i).1 ≤ b.length ∧ 1 ≤ (lg b i).2 ∧ (lg b i).2 ≤ 255 ∧ (lg b i).2 ≤ i := by
 rcases lg_good hi with h0 | ⟨h1, h2, h3, h4, h5, _⟩
 ·
  omega
 ·
  exact ⟨h1, h2, h3, h4, h5⟩
theorem pk_length (b : List Int) : ∀ n i s, s ≤ i → i ≤ b.length → i - s < 128 → b.length - i < n → (pk b n i s).length ≤ (b.length - s) + (b.length - s + 127) / 128 := by
 intro n
 induction n with
 | zero => intro i s _ _ _ h; omega
 | succ n ih =>
  intro i s hs hi hp hn
  rw [pk]
  by_cases c : i < b.length
  ·
   rw [if_pos c]
   by_cases c1 : (lg b i).1 < 3
   ·
    rw [if_pos c1]
    by_cases c2 : i + 1 - s = 128
    ·
     rw [if_pos c2, List.length_append, lit_length (by omega), if_pos (by omega)]
     have := ih (i + 1) (i + 1) (by omega) (by omega) (by omega) (by omega)
     omega
    ·
     rw [if_neg c2]
     have := ih (i + 1) s (by omega) (by omega) (by omega) (by omega)
     omega
   ·
    rw [if_neg c1, List.length_append, List.length_append, lit_length (by omega)]
    obtain ⟨g1, g2, _⟩ := lg_bounds (by omega) c1
    have := ih (i + (lg b i).1) (i + (lg b i).1) (by omega) (by omega) (by omega) (by omega)
    simp only [List.length_cons, List.length_nil]
    generalize (lg b i).1 = l at *
    split <;> omega
  ·
   rw [if_neg c, lit_length (by omega)]
   split <;> omega
theorem packS_length (b : List Int) : (packS b).length ≤ b.length + (b.length + 127) / 128 := by
 have := pk_length b (b.length + 1) 0 0 (by omega) (by omega) (by omega) (by omega)
 simpa [packS] using this
theorem flush_is {b out : List Int} {s e : Nat} (he : e ≤ b.length) (h1 : e - s ≤ 128) (hl : out.length + (lit b s e).length < 140737488355328) : pack_Pack.flush b out (s : Int) (e : Int) = some (out ++ lit b s e) := by
 rw [lit_length he] at hl
 unfold pack_Pack.flush lit
 by_cases c : s < e
 ·
  rw [if_pos c] at hl
  rw [if_pos (by omega), if_pos (by omega), if_pos c]
  rw [show ((e : Int) - (s : Int) - 1) % 256 = ((e - s - 1 : Nat) : Int) by omega]
  simp
 ·
  rw [if_neg (by omega), if_neg c, List.append_nil]
theorem ev_all {α : Type} {f : Nat → Nat → Option α} {r : Nat → α} : ∀ n, (∀ i, i < n → Ev (fun k => f k i) (r i)) → ∃ K, ∀ k, K ≤ k → ∀ i, i < n → f k i = some (r i) := by
 intro n
 induction n with
 | zero => intro _; exact ⟨0, fun k _ i h => by omega⟩
 | succ n ih =>
  intro h
  obtain ⟨K, hK⟩ := ih (fun i hi => h i (by omega))
  obtain ⟨K2, hK2⟩ := h n (by omega)
  refine ⟨max K K2, fun k hk i hi => ?_⟩
  by_cases e : i = n
  ·
   subst e
   exact hK2 k (by omega)
  ·
   exact hK k (by omega) i (by omega)
theorem go_is {b : List Int} {k : Nat} (hK : ∀ i, i < b.length → pack_longest.f k b (i : Int) = some (((lg b i).1 : Int), ((lg b i).2 : Int))) :
  ∀ n m i s out, s ≤ i → i ≤ b.length → i - s < 128 → b.length - i < n → n ≤ m → out.length + (pk b n i s).length + 3 < 140737488355328 →
   pack_Pack.go k b m (i : Int) (s : Int) out = some (out ++ pk b n i s) := by
 intro n
 induction n with
 | zero => intro m i s out _ _ _ h; omega
 | succ n ih =>
  intro m i s out hs hi hp hn hm hl
  obtain ⟨m, rfl⟩ : ∃ m', m = m' + 1 := ⟨m - 1, by omega⟩
  rw [pack_Pack.go]
  rw [pk] at hl ⊢
  by_cases c : i < b.length
  ·
   rw [if_pos c] at hl ⊢
   rw [if_pos (by omega), hK i c, Option.bind_some]
   have e1 : (i : Int) + 1 = ((i + 1 : Nat) : Int) := by omega
   by_cases c1 : (lg b i).1 < 3
   ·
    rw [if_pos c1] at hl ⊢
    rw [if_pos (by show ((lg b i).1 : Int) < 3; omega), e1]
    by_cases c2 : i + 1 - s = 128
    ·
     rw [if_pos c2] at hl ⊢
     rw [List.length_append] at hl
     rw [if_pos (by omega), flush_is (by omega) (by omega) (by omega), Option.bind_some, ih m (i + 1) (i + 1) _ (by omega) (by omega) (by omega) (by omega) (by omega) (by rw [List.length_append]; omega), List.append_assoc]
    ·
     rw [if_neg c2] at hl ⊢
     rw [if_neg (by omega)]
     exact ih m (i + 1) s out (by omega) (by omega) (by omega) (by omega) (by omega) (by omega)
   ·
    rw [if_neg c1] at hl ⊢
    obtain ⟨g1, g2, _, g4, _⟩ := lg_bounds (by omega) c1
    rw [List.length_append, List.length_append] at hl
    simp only [List.length_cons, List.length_nil] at hl
    have e2 : (i : Int) + ((lg b i).1 : Int) = ((i + (lg b i).1 : Nat) : Int) := by omega
    have e3 : ((lg b i).1 : Int) - 3 + 128 = (((lg b i).1 + 125 : Nat) : Int) := by omega
    have e4 : ((lg b i).2 : Int) % 256 = ((lg b i).2 : Int) := by omega
    rw [if_neg (by show ¬ ((lg b i).1 : Int) < 3; omega), if_pos (by constructor <;> (show ((_ : Int) ≤ _); omega)), flush_is (by omega) (by omega) (by omega), Option.bind_some, if_pos (by rw [List.length_append]; omega)]
    show pack_Pack.go k b m ((i : Int) + ((lg b i).1 : Int)) ((i : Int) + ((lg b i).1 : Int)) (out ++ lit b s i ++ [((lg b i).1 : Int) - 3 + 128, ((lg b i).2 : Int) % 256]) = _
    rw [e2, e3, e4, ih m _ _ _ (by omega) (by omega) (by omega) (by omega) (by omega) (by rw [List.length_append, List.length_append]; simp only [List.length_cons, List.length_nil]; omega), List.append_assoc, List.append_assoc]
  ·
   rw [if_neg c] at hl ⊢
   obtain rfl : i = b.length := by omega
   rw [if_neg (by omega), flush_is (by omega) (by omega) (by omega)]
theorem pack_f (b : List Int) (hm : b.length ≤ 1000000000000) : Ev (fun k => pack_Pack.f k b) (packS b) := by
 obtain ⟨K, hK⟩ := ev_all (f := fun k i => pack_longest.f k b (i : Int)) (r := fun i => (((lg b i).1 : Int), ((lg b i).2 : Int))) b.length (fun i hi => longest_f b hm i (by omega))
 refine ⟨max K (b.length + 1), fun k hk => ?_⟩
 have h1 := packS_length b
 have := go_is (hK k (by omega)) (b.length + 1) k 0 0 [] (by omega) (by omega) (by omega) (by omega) (by omega) (by simp only [List.length_nil]; unfold packS at h1; omega)
 exact this
theorem refLit_is {b out : List Int} {s e : Nat} (hs : s ≤ e) (he : e ≤ b.length) (h1 : e - s ≤ 128) (hl : out.length + (lit b s e).length < 140737488355328) : j11_literal.f out ((b.take e).drop s) = some (out ++ lit b s e) := by
 have hlen : ((b.take e).drop s).length = e - s := by rw [List.length_drop, List.length_take]; omega
 rw [lit_length he] at hl
 unfold j11_literal.f lit
 rw [hlen]
 by_cases c : s < e
 ·
  rw [if_pos c] at hl
  rw [if_neg (by omega), if_pos (by omega), if_pos c, wrap64_id (by omega) (by omega)]
  show (if (out ++ [(((e - s : Nat) : Int) - 1) % 256]).length + (e - s) < 140737488355328 then _ else _) = _
  rw [if_pos (by simp; omega), show (((e - s : Nat) : Int) - 1) % 256 = ((e - s - 1 : Nat) : Int) by omega]
  simp
 ·
  rw [if_pos (by omega), if_neg c, List.append_nil]
theorem take_snoc {b : List Int} {i s : Nat} (hi : i < b.length) (hs : s ≤ i) : (b.take i).drop s ++ [rd b (i : Int)] = (b.take (i + 1)).drop s := by
 rw [List.take_add_one, List.getElem?_eq_getElem hi, List.drop_append_of_le_length (by rw [List.length_take]; omega), rd_at hi]
 rfl
theorem wrap_add {i l : Nat} (h : i + l ≤ 1000000000000) : wrap64 ((i : Int) + (l : Int)) = ((i + l : Nat) : Int) := by rw [wrap64_id (by omega) (by omega)]; omega
theorem wrap_125 {l : Nat} (h : l ≤ 130) : wrap64 ((l : Int) + 125) % 256 = ((l + 125 : Nat) : Int) := by rw [wrap64_id (by omega) (by omega)]; omega
theorem mod_byte {d : Nat} (h : d ≤ 255) : (d : Int) % 256 = (d : Int) := by omega
theorem refPack_l0 {b : List Int} (hm : b.length ≤ 1000000000000) :
  ∀ n i s out, s ≤ i → i ≤ b.length → i - s < 128 → b.length - i < n → out.length + (pk b n i s).length + 3 < 140737488355328 →
   Ev (fun k => j11_Pack.l0 k b out ((b.take i).drop s) (i : Int)) (out ++ pk b n i s) := by
 intro n
 induction n with
 | zero => intro i s out _ _ _ h; omega
 | succ n ih =>
  intro i s out hs hi hp hn hl
  rw [pk] at hl ⊢
  by_cases c : i < b.length
  ·
   rw [if_pos c] at hl ⊢
   have hM := match_f b hm i (by omega)
   have e1 : Aside0 (wrap64 ((i : Int) + 1) = ((i + 1 : Nat) : Int)) := ⟨by rw [wrap64_id (by omega) (by omega)]; omega⟩
   refine Ev.step (fun k => by simp only [j11_Pack.l0]; rw [if_pos (by omega)]) (Ev.bind hM ?_)
   have hG := lg_bounds (b := b) (i := i) (by omega)
   clear hM
   generalize lg b i = p at hG hl ⊢
   obtain ⟨l, d⟩ := p
   dsimp only at hG hl ⊢
   by_cases c1 : l < 3
   ·
    rw [if_pos c1] at hl ⊢
    rw [show mt (l, d) = (0, 0) from if_pos c1]
    refine Ev.congr (f := fun k => (if ((b.take (i + 1)).drop s).length = 128 then ((j11_literal.f out ((b.take (i + 1)).drop s)).bind fun t269 => (j11_Pack.l0 k b t269 ([] : List Int) ((i + 1 : Nat) : Int))) else (j11_Pack.l0 k b out ((b.take (i + 1)).drop s) ((i + 1 : Nat) : Int)))) (fun k => ?_) ?_
    ·
     show (if ((0 : Nat) : Int) > 0 then _ else _) = _
     rw [if_neg (by omega), if_pos (by omega), if_pos (by rw [List.length_drop, List.length_take]; omega), take_snoc c hs, e1.out, Option.bind_some]
     by_cases c3 : ((b.take (i + 1)).drop s).length = 128
     ·
      rw [if_pos (by omega), if_pos c3]
     ·
      rw [if_neg (by omega), if_neg c3]
    ·
     have hlen : ((b.take (i + 1)).drop s).length = i + 1 - s := by rw [List.length_drop, List.length_take]; omega
     rw [hlen]
     by_cases c2 : i + 1 - s = 128
     ·
      rw [if_pos c2] at hl ⊢
      rw [List.length_append] at hl
      refine Ev.congr (fun k => by rw [if_pos c2, refLit_is (by omega) (by omega) (by omega) (by omega), Option.bind_some]) ?_
      have := ih (i + 1) (i + 1) (out ++ lit b s (i + 1)) (by omega) (by omega) (by omega) (by omega) (by rw [List.length_append]; omega)
      rw [List.drop_of_length_le (by rw [List.length_take]; omega), List.append_assoc] at this
      exact this
     ·
      rw [if_neg c2] at hl ⊢
      exact Ev.congr (fun k => by rw [if_neg c2]) (ih (i + 1) s out (by omega) (by omega) (by omega) (by omega) (by omega))
   ·
    rw [if_neg c1] at hl ⊢
    obtain ⟨g1, g2, _, g4, _⟩ := hG c1
    rw [show mt (l, d) = (l, d) from if_neg c1]
    rw [List.length_append, List.length_append] at hl
    simp only [List.length_cons, List.length_nil] at hl
    have e2 := Aside0.mk (wrap_add (i := i) (l := l) (by omega))
    have e3 := Aside0.mk (wrap_125 g1)
    have e4 := Aside0.mk (mod_byte g4)
    have := Aside0.mk (ih (i + l) (i + l) (out ++ lit b s i ++ [((l + 125 : Nat) : Int), (d : Int)]) (by omega) (by omega) (by omega) (by omega) (by rw [List.length_append, List.length_append]; simp only [List.length_cons, List.length_nil]; omega))
    have this := this.out
    rw [List.drop_of_length_le (by rw [List.length_take]; omega)] at this
    rw [show out ++ (lit b s i ++ ([((l + 125 : Nat) : Int), (d : Int)] ++ pk b n (i + l) (i + l))) = out ++ lit b s i ++ [((l + 125 : Nat) : Int), (d : Int)] ++ pk b n (i + l) (i + l) by simp only [List.append_assoc]]
    refine Ev.congr (fun k => ?_) this
    clear this
    show (if (l : Int) > 0 then _ else _) = _
    rw [if_pos (by omega), refLit_is (by omega) (by omega) (by omega) (by omega), Option.bind_some, Option.bind_some, if_pos (by rw [List.length_append]; simp only [List.length_cons, List.length_nil]; omega)]
    show j11_Pack.l0 k b (out ++ lit b s i ++ [wrap64 ((l : Int) + 125) % 256, (d : Int) % 256]) [] (wrap64 ((i : Int) + (l : Int))) = _
    rw [e2.out, e3.out, e4.out]
  ·
   rw [if_neg c] at hl ⊢
   obtain rfl : i = b.length := by omega
   refine Ev.step (f := fun _ => some _) (fun k => ?_) (Ev.now _)
   simp only [j11_Pack.l0]
   rw [if_neg (by omega), refLit_is (by omega) (by omega) (by omega) (by omega)]
   rfl
theorem refPack_f (b : List Int) (hm : b.length ≤ 1000000000000) : Ev (fun k => j11_Pack.f k b) (packS b) := by
 have h1 := packS_length b
 exact refPack_l0 hm (b.length + 1) 0 0 [] (by omega) (by omega) (by omega) (by omega) (by simp only [List.length_nil]; unfold packS at h1; omega)
inductive Ch (b : List Int) : Nat → List Int → Prop
 | done : Ch b b.length []
 | lit (s e : Nat) (t : List Int) : s < e → e ≤ b.length → e - s ≤ 128 → Ch b e t → Ch b s (((e - s - 1 : Nat) : Int) :: ((b.take e).drop s ++ t))
 | copy (s l d : Nat) (t : List Int) : 3 ≤ l → l ≤ 130 → 1 ≤ d → d ≤ 255 → d ≤ s → s + l ≤ b.length → (∀ j, j < l → rd b ((s + j : Nat) : Int) = rd b ((s + j - d : Nat) : Int)) → Ch b (s + l) t → Ch b s (((l + 125 : Nat) : Int) :: (d : Int) :: t)
theorem lit_ch {b t : List Int} {s e : Nat} (hs : s ≤ e) (he : e ≤ b.length) (h1 : e - s ≤ 128) (h : Ch b e t) : Ch b s (lit b s e ++ t) := by
 unfold lit
 by_cases c : s < e
 ·
  rw [if_pos c]
  exact .lit s e t c he h1 h
 ·
  rw [if_neg c]
  obtain rfl : s = e := by omega
  exact h
theorem pk_ch (b : List Int) : ∀ n i s, s ≤ i → i ≤ b.length → i - s < 128 → b.length - i < n → Ch b s (pk b n i s) := by
 intro n
 induction n with
 | zero => intro i s _ _ _ h; omega
 | succ n ih =>
  intro i s hs hi hp hn
  have hG := lg_good hi
  rw [pk]
  generalize lg b i = p at hG ⊢
  obtain ⟨l, d⟩ := p
  unfold Good at hG
  dsimp only at hG ⊢
  by_cases c : i < b.length
  ·
   rw [if_pos c]
   by_cases c1 : l < 3
   ·
    rw [if_pos c1]
    by_cases c2 : i + 1 - s = 128
    ·
     rw [if_pos c2]
     exact lit_ch (by omega) (by omega) (by omega) (ih (i + 1) (i + 1) (by omega) (by omega) (by omega) (by omega))
    ·
     rw [if_neg c2]
     exact ih (i + 1) s (by omega) (by omega) (by omega) (by omega)
   ·
    rw [if_neg c1]
    rcases hG with h0 | ⟨h1, h2, h3, h4, h5, h6⟩
    ·
     omega
    ·
     refine lit_ch (by omega) (by omega) (by omega) ?_
     exact .copy i l d _ (by omega) h1 h3 h4 h5 h2 h6 (ih (i + l) (i + l) (by omega) (by omega) (by omega) (by omega))
  ·
   rw [if_neg c]
   obtain rfl : i = b.length := by omega
   have := lit_ch (b := b) (t := []) hs (by omega) (by omega) .done
   rwa [List.append_nil] at this
theorem packS_ch (b : List Int) : Ch b 0 (packS b) := pk_ch b (b.length + 1) 0 0 (by omega) (by omega) (by omega) (by omega)
theorem ch_bytes {b : List Int} (hb : ∀ c ∈ b, 0 ≤ c ∧ c < 256) {s : Nat} {t : List Int} (h : Ch b s t) : ∀ c ∈ t, 0 ≤ c ∧ c < 256 := by
 induction h with
 | done => intro c hc; simp at hc
 | lit s e t h1 h2 h3 _ ih =>
  intro c hc
  rcases List.mem_cons.1 hc with rfl | hc
  ·
   omega
  ·
   rcases List.mem_append.1 hc with hc | hc
   ·
    exact hb c (List.mem_of_mem_take (List.mem_of_mem_drop hc))
   ·
    exact ih c hc
 | copy s l d t h1 h2 h3 h4 h5 h6 h7 _ ih =>
  intro c hc
  rcases List.mem_cons.1 hc with rfl | hc
  ·
   omega
  ·
   rcases List.mem_cons.1 hc with rfl | hc
   ·
    omega
   ·
    exact ih c hc
end Go.Proofs.Ytnmmkgagbfniiaa.Pl
end
section
namespace Go.Proofs.Ytnmmkgagbfniiaa.Pl
open Go.RowKit Go.Proofs.YtnmmkgagbfniiaaW.PrintWords Go.Proofs.YtnmmkgagbfniiaaW.PrintMore
set_option linter.unusedVariables false
def crcBit (c : Nat) : Nat := if c % 2 = 1 then (c / 2) ^^^ 3988292384 else c / 2
def crcBits : Nat → Nat → Nat
 | 0, c => c
 | n + 1, c => crcBits n (crcBit c)
def crcByte (c : Nat) (x : Int) : Nat := crcBits 8 (c ^^^ x.toNat)
def crc (c : Nat) (l : List Int) : Nat := l.foldl crcByte c
def sumS (l : List Int) : Nat := 4294967295 ^^^ crc 4294967295 l
theorem crcBit_lt {c : Nat} (h : c < 4294967296) : crcBit c < 4294967296 := by
 unfold crcBit
 split
 ·
  have : (c / 2) ^^^ 3988292384 < 2 ^ 32 := Nat.xor_lt_two_pow (by omega) (by omega)
  omega
 ·
  omega
theorem crcBits_lt : ∀ (n : Nat) {c : Nat}, c < 4294967296 → crcBits n c < 4294967296
 | 0, _, h => h
 | n + 1, _, h => crcBits_lt n (crcBit_lt h)
theorem xor_byte_lt {c : Nat} {x : Int} (h : c < 4294967296) (hx : x < 256) : c ^^^ x.toNat < 4294967296 := by
 have : c ^^^ x.toNat < 2 ^ 32 := Nat.xor_lt_two_pow (by omega) (by omega)
 omega
theorem crcByte_lt {c : Nat} {x : Int} (h : c < 4294967296) (hx : x < 256) : crcByte c x < 4294967296 := crcBits_lt 8 (xor_byte_lt h hx)
end Go.Proofs.Ytnmmkgagbfniiaa.Pl
end
section
namespace Go.Proofs.Ytnmmkgagbfniiaa.A
open Go.RowKit Go.Proofs.YtnmmkgagbfniiaaW.PrintWords Go.Proofs.YtnmmkgagbfniiaaW.PrintLast Go.Proofs.YtnmmkgagbfniiaaW.PrintMore
attribute [local go_sem] max2_int min2_int max_two min_two max_three min_three max_four min_four
set_option linter.unusedVariables false
set_option linter.unusedSimpArgs false
end Go.Proofs.Ytnmmkgagbfniiaa.A
end
section
namespace Go.Proofs.Ytnmmkgagbfniiaa.Pl
open Go.RowKit Go.Proofs.YtnmmkgagbfniiaaW.PrintWords Go.Proofs.YtnmmkgagbfniiaaW.PrintMore Go.Proofs.Ytnmmkgagbfniiaa.A
set_option linter.unusedVariables false
theorem crcBit_int (c : Nat) (h : c < 4294967296) : (if bits .and .u32 (c : Int) 1 = 1 then bits .xor .u32 ((c : Int) / 2) 3988292384 else (c : Int) / 2) = ((crcBit c : Nat) : Int) := by
 have e1 : bits .and .u32 (c : Int) 1 = ((c % 2 : Nat) : Int) := by
  have := u32_and_nat c 1 h (by omega)
  rw [nat_mask1] at this
  exact this
 have e2 : bits .xor .u32 ((c : Int) / 2) 3988292384 = (((c / 2) ^^^ 3988292384 : Nat) : Int) := by
  have := u32_xor_nat (c / 2) 3988292384 (by omega) (by omega)
  rw [show ((c / 2 : Nat) : Int) = (c : Int) / 2 by omega] at this
  exact this
 rw [e1, e2]
 unfold crcBit
 by_cases hc : c % 2 = 1
 ·
  rw [if_pos (by omega), if_pos hc]
 ·
  rw [if_neg (by omega), if_neg hc]
  omega
theorem sum_bits {xs : List Int} {n i r : Int} : ∀ (d j c : Nat), j + d = 8 → c < 4294967296 → Ev (fun k => block_Sum.l0 k ((crcBits d c : Nat) : Int) xs n (wrap64 (i + 1))) r → Ev (fun k => block_Sum.l1 k (c : Int) xs n i (j : Int)) r := by
 intro d
 induction d with
 | zero =>
  intro j c hj hc h
  refine Ev.step (fun k => ?_) h
  simp only [block_Sum.l1]
  rw [if_neg (by omega)]
  rfl
 | succ d ih =>
  intro j c hj hc h
  refine Ev.step (f := fun k => block_Sum.l1 k ((crcBit c : Nat) : Int) xs n i ((j + 1 : Nat) : Int)) (fun k => ?_) (ih (j + 1) (crcBit c) (by omega) (crcBit_lt hc) h)
  simp only [block_Sum.l1]
  rw [if_pos (by omega), wrap64_id (x := (j : Int) + 1) (by omega) (by omega), ← crcBit_int c hc]
  split <;> rfl
theorem sum_loop (xs : List Int) (hm : xs.length ≤ 140737488355328) (hx : ∀ c ∈ xs, 0 ≤ c ∧ c < 256) : ∀ (d i c : Nat), i + d = xs.length → c < 4294967296 →
  Ev (fun k => block_Sum.l0 k (c : Int) xs (xs.length : Int) (i : Int)) ((4294967295 ^^^ crc c (xs.drop i) : Nat) : Int) := by
 intro d
 induction d with
 | zero =>
  intro i c hi hc
  refine Ev.step (f := fun _ => some _) (fun k => ?_) (Ev.now _)
  simp only [block_Sum.l0]
  rw [if_neg (by omega), List.drop_of_length_le (by omega)]
  have := u32_xor_nat 4294967295 c (by omega) hc
  exact congrArg some this
 | succ d ih =>
  intro i c hi hc
  have hlt : i < xs.length := by omega
  have hb := hx xs[i] (List.getElem_mem hlt)
  have e : bits .xor .u32 (c : Int) ((rd xs (i : Int)) % 4294967296) = ((c ^^^ xs[i].toNat : Nat) : Int) := by
   rw [show rd xs (i : Int) = xs[i] by simp [rd, List.getD_eq_getElem?_getD, List.getElem?_eq_getElem hlt]]
   have := u32_xor_nat c xs[i].toNat hc (by omega)
   rw [show ((xs[i].toNat : Nat) : Int) = xs[i] % 4294967296 by omega] at this
   exact this
  refine Ev.step (f := fun k => block_Sum.l1 k ((c ^^^ xs[i].toNat : Nat) : Int) xs (xs.length : Int) (i : Int) ((0 : Nat) : Int)) (fun k => ?_) ?_
  ·
   simp only [block_Sum.l0]
   rw [if_pos (by omega), if_pos (by omega), if_pos (by omega), e]
   rfl
  ·
   refine sum_bits 8 0 _ rfl (xor_byte_lt hc hb.2) ?_
   have := ih (i + 1) (crcByte c xs[i]) (by omega) (crcByte_lt hc hb.2)
   rw [List.drop_eq_getElem_cons hlt, wrap64_id (x := (i : Int) + 1) (by omega) (by omega)]
   exact this
theorem sum_f (xs : List Int) (hm : xs.length ≤ 140737488355328) (hx : ∀ c ∈ xs, 0 ≤ c ∧ c < 256) : Ev (fun k => block_Sum.f k xs) ((sumS xs : Nat) : Int) := by
 have := sum_loop xs hm hx xs.length 0 4294967295 (by omega) (by omega)
 exact this
theorem refSum_bits {xs : List Int} {i r : Int} : ∀ (d j c : Nat), j + d = 8 → c < 4294967296 → Ev (fun k => j11_Sum.l0 k xs ((crcBits d c : Nat) : Int) (wrap64 (i + 1))) r → Ev (fun k => j11_Sum.l1 k xs (c : Int) i (j : Int)) r := by
 intro d
 induction d with
 | zero =>
  intro j c hj hc h
  refine Ev.step (fun k => ?_) h
  simp only [j11_Sum.l1]
  rw [if_neg (by omega)]
  rfl
 | succ d ih =>
  intro j c hj hc h
  refine Ev.step (f := fun k => j11_Sum.l1 k xs ((crcBit c : Nat) : Int) i ((j + 1 : Nat) : Int)) (fun k => ?_) (ih (j + 1) (crcBit c) (by omega) (crcBit_lt hc) h)
  simp only [j11_Sum.l1]
  rw [if_pos (by omega), wrap64_id (x := (j : Int) + 1) (by omega) (by omega), ← crcBit_int c hc]
  split <;> rfl
theorem refSum_loop (xs : List Int) (hm : xs.length ≤ 140737488355328) (hx : ∀ c ∈ xs, 0 ≤ c ∧ c < 256) : ∀ (d i c : Nat), i + d = xs.length → c < 4294967296 →
  Ev (fun k => j11_Sum.l0 k xs (c : Int) (i : Int)) ((4294967295 ^^^ crc c (xs.drop i) : Nat) : Int) := by
 intro d
 induction d with
 | zero =>
  intro i c hi hc
  refine Ev.step (f := fun _ => some _) (fun k => ?_) (Ev.now _)
  simp only [j11_Sum.l0]
  rw [if_neg (by omega), List.drop_of_length_le (by omega)]
  have := u32_xor_nat c 4294967295 hc (by omega)
  rw [Nat.xor_comm] at this
  exact congrArg some this
 | succ d ih =>
  intro i c hi hc
  have hlt : i < xs.length := by omega
  have hb := hx xs[i] (List.getElem_mem hlt)
  have e : bits .xor .u32 (c : Int) ((rd xs (i : Int)) % 4294967296) = ((c ^^^ xs[i].toNat : Nat) : Int) := by
   rw [show rd xs (i : Int) = xs[i] by simp [rd, List.getD_eq_getElem?_getD, List.getElem?_eq_getElem hlt]]
   have := u32_xor_nat c xs[i].toNat hc (by omega)
   rw [show ((xs[i].toNat : Nat) : Int) = xs[i] % 4294967296 by omega] at this
   exact this
  refine Ev.step (f := fun k => j11_Sum.l1 k xs ((c ^^^ xs[i].toNat : Nat) : Int) (i : Int) ((0 : Nat) : Int)) (fun k => ?_) ?_
  ·
   simp only [j11_Sum.l0]
   rw [if_pos (by omega), if_pos (by omega), e]
   rfl
  ·
   refine refSum_bits 8 0 _ rfl (xor_byte_lt hc hb.2) ?_
   have := ih (i + 1) (crcByte c xs[i]) (by omega) (crcByte_lt hc hb.2)
   rw [List.drop_eq_getElem_cons hlt, wrap64_id (x := (i : Int) + 1) (by omega) (by omega)]
   exact this
theorem refSum_f (xs : List Int) (hm : xs.length ≤ 140737488355328) (hx : ∀ c ∈ xs, 0 ≤ c ∧ c < 256) : Ev (fun k => j11_Sum.f k xs) ((sumS xs : Nat) : Int) := by
 have := refSum_loop xs hm hx xs.length 0 4294967295 (by omega) (by omega)
 exact this
end Go.Proofs.Ytnmmkgagbfniiaa.Pl
end
section
namespace Go.Proofs.Ytnmmkgagbfniiaa.A
open Go.RowKit Go.Proofs.YtnmmkgagbfniiaaW.PrintWords Go.Proofs.YtnmmkgagbfniiaaW.PrintLast Go.Proofs.YtnmmkgagbfniiaaW.PrintMore
attribute [local go_sem] max2_int min2_int max_two min_two max_three min_three max_four min_four
set_option linter.unusedVariables false
set_option linter.unusedSimpArgs false
end Go.Proofs.Ytnmmkgagbfniiaa.A
end
