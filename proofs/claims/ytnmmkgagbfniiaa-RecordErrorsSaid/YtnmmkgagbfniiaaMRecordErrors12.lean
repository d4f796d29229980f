/- MRecordErrors12: texts of this session and of the kit's printer on the road to the statement RecordErrors, laid into one and rid of what it doesn't need. No condition beyond what each fact names. -/
import Derived.Laws.BitsAllLaws
import Derived.Test.YtnmmkgagbfniiaaMRecordErrors1
import Derived.Test.YtnmmkgagbfniiaaMRecordErrors2
import Derived.Test.YtnmmkgagbfniiaaMRecordErrors3
import Derived.Test.YtnmmkgagbfniiaaMRecordErrors5
import Derived.Test.YtnmmkgagbfniiaaMRecordErrors7
import Derived.Test.YtnmmkgagbfniiaaMRecordErrors4
import Derived.Lib.SlBytesConst
import Derived.Test.YtnmmkgagbfniiaaMRecordErrors6
import Derived.Deep.Slices
import Derived.ChangeOld
import Derived.SizedLaws
import Derived.WideShapes
import Derived.Carry
import Derived.KernelRfl
import Derived.Test.YtnmmkgagbfniiaaMRecordErrors9
import Derived.Test.YtnmmkgagbfniiaaMRecordErrors10
import Derived.Test.YtnmmkgagbfniiaaMRecordErrors11
section
namespace Go.Proofs.Ytnmmkgagbfniiaa.Pl
open Go.RowKit Go.Proofs.YtnmmkgagbfniiaaW.PrintWords Go.Proofs.YtnmmkgagbfniiaaW.PrintMore
theorem wrap64_id {x : Int} (h0 : -9223372036854775808 ≤ x) (h1 : x < 9223372036854775808) : wrap64 x = x := by unfold wrap64; omega
theorem u64_wrap (x : Int) : IntKind.u64.wrap x = x % 18446744073709551616 := IntKind.wrap_u64 x
theorem nat_xor_ones (x : Nat) (h : x < 18446744073709551616) : x ^^^ 18446744073709551615 = 18446744073709551615 - x := by
 have h1 := congrArg BitVec.toNat (BitVec.xor_allOnes (x := BitVec.ofNat 64 x))
 rw [BitVec.toNat_xor, BitVec.toNat_not, BitVec.toNat_allOnes, BitVec.toNat_ofNat, Nat.mod_eq_of_lt (by omega)] at h1
 simpa using h1
theorem u64_xor_zero (x : Int) (h0 : 0 ≤ x) (h1 : x < 18446744073709551616) : bits .xor .u64 x 0 = x := by
 rw [u64_xor _ _ h0 h1 (by omega) (by omega)]
 simp
 omega
def zz (a : Int) : Int := if 0 ≤ a then 2 * a else -2 * a - 1
theorem zz_range {a : Int} (h0 : -9223372036854775808 ≤ a) (h1 : a < 9223372036854775808) : 0 ≤ zz a ∧ zz a < 18446744073709551616 := by unfold zz; split <;> omega
theorem zz_impl {a : Int} (h0 : -9223372036854775808 ≤ a) (h1 : a < 9223372036854775808) :
  bits .xor .u64 (IntKind.u64.wrap ((IntKind.u64.wrap a) * 2)) (IntKind.u64.wrap (a / 9223372036854775808)) = zz a := by
 simp only [u64_wrap]
 by_cases h : 0 ≤ a
 ·
  rw [show a / 9223372036854775808 = 0 by omega, show (0 : Int) % 18446744073709551616 = 0 by omega, u64_xor_zero _ (by omega) (by omega)]
  unfold zz
  rw [if_pos h]
  omega
 ·
  rw [show a / 9223372036854775808 = -1 by omega, show (-1 : Int) % 18446744073709551616 = 18446744073709551615 by omega]
  rw [u64_xor _ _ (by omega) (by omega) (by omega) (by omega)]
  have := nat_xor_ones (a % 18446744073709551616 * 2 % 18446744073709551616).toNat (by omega)
  simp only [Int.reduceToNat]
  rw [this]
  unfold zz
  rw [if_neg h]
  omega
theorem nat_or128 : ∀ n < 256, n ||| 128 = n % 128 + 128 := by decide +kernel
theorem u8_or128' (x : Int) : bits .or .u8 (x % 256) 128 = x % 128 + 128 := by
 rw [u8_or _ _ (by omega) (by omega) (by omega) (by omega)]
 have := nat_or128 (x % 256).toNat (by omega)
 simp only [Int.reduceToNat]
 rw [this]
 omega
end Go.Proofs.Ytnmmkgagbfniiaa.Pl
end
section
namespace Go.Proofs.Ytnmmkgagbfniiaa.Pl
open Go.RowKit Go.Proofs.YtnmmkgagbfniiaaW.PrintWords Go.Proofs.YtnmmkgagbfniiaaW.PrintMore
set_option linter.unusedVariables false
def encN (u : Nat) : List Int := if u < 128 then [(u : Int)] else ((u % 128 + 128 : Nat) : Int) :: encN (u / 128)
 termination_by u
 decreasing_by omega
def enc (a : Int) : List Int := encN (zz a).toNat
theorem encN_small {u : Nat} (h : u < 128) : encN u = [(u : Int)] := by rw [encN, if_pos h]
theorem encN_big {u : Nat} (h : ¬ u < 128) : encN u = ((u % 128 + 128 : Nat) : Int) :: encN (u / 128) := by rw [encN, if_neg h]
theorem encN_pos (u : Nat) : 0 < (encN u).length := by
 by_cases h : u < 128
 ·
  rw [encN_small h]; simp
 ·
  rw [encN_big h]; simp
theorem encN_le : ∀ (n u : Nat), u < 128 ^ (n + 1) → (encN u).length ≤ n + 1 := by
 intro n
 induction n with
 | zero => intro u h; rw [encN_small (by simpa using h)]; simp
 | succ n ih =>
  intro u h
  by_cases hs : u < 128
  ·
   rw [encN_small hs]; simp
  ·
   rw [encN_big hs, List.length_cons]
   have := ih (u / 128) (by rw [Nat.div_lt_iff_lt_mul (by omega)]; rw [Nat.pow_succ] at h; exact h)
   omega
theorem encN_len10 {u : Nat} (h : u < 18446744073709551616) : (encN u).length ≤ 10 := encN_le 9 u (by omega)
theorem enc_len {a : Int} (h0 : -9223372036854775808 ≤ a) (h1 : a < 9223372036854775808) : 0 < (enc a).length ∧ (enc a).length ≤ 10 := by
 have := zz_range h0 h1
 exact ⟨encN_pos _, encN_len10 (by omega)⟩
theorem encN_bytes : ∀ (u : Nat), ∀ x ∈ encN u, 0 ≤ x ∧ x < 256 := by
 intro u
 induction u using Nat.strongRecOn with
 | _ u ih =>
  by_cases h : u < 128
  ·
   rw [encN_small h]
   intro x hx
   rw [List.mem_singleton] at hx
   omega
  ·
   rw [encN_big h]
   intro x hx
   rcases List.mem_cons.1 hx with rfl | hx
   ·
    omega
   ·
    exact ih _ (by omega) x hx
theorem enc_bytes (a : Int) : ∀ x ∈ enc a, 0 ≤ x ∧ x < 256 := encN_bytes _
end Go.Proofs.Ytnmmkgagbfniiaa.Pl
end
section
namespace Go.Proofs.Ytnmmkgagbfniiaa.A
open Go.RowKit Go.Proofs.YtnmmkgagbfniiaaW.PrintWords Go.Proofs.YtnmmkgagbfniiaaW.PrintLast Go.Proofs.YtnmmkgagbfniiaaW.PrintMore
attribute [local go_sem] max2_int min2_int max_two min_two max_three min_three max_four min_four
set_option linter.unusedVariables false
set_option linter.unusedSimpArgs false
end Go.Proofs.Ytnmmkgagbfniiaa.A
end
section
namespace Go.Proofs.Ytnmmkgagbfniiaa.Pl
open Go.RowKit Go.Proofs.YtnmmkgagbfniiaaW.PrintWords Go.Proofs.YtnmmkgagbfniiaaW.PrintMore Go.Proofs.Ytnmmkgagbfniiaa.A
set_option linter.unusedVariables false
theorem appendInt_ev : ∀ (u : Nat) (x : List Int), x.length + (encN u).length ≤ 140737488355328 → Ev (fun k => event_appendInt.l0 k x (u : Int)) (x ++ encN u) := by
 intro u
 induction u using Nat.strongRecOn with
 | _ u ih =>
  intro x hx
  by_cases h : u < 128
  ·
   rw [encN_small h] at hx ⊢
   refine Ev.step (f := fun _ => some (x ++ [(u : Int)])) (fun k => ?_) (Ev.now _)
   simp only [List.length_singleton] at hx
   simp only [event_appendInt.l0]
   rw [if_neg (by omega), if_pos (by omega), show (u : Int) % 256 = u by omega]
  ·
   rw [encN_big h] at hx ⊢
   simp only [List.length_cons] at hx
   refine Ev.step (f := fun k => event_appendInt.l0 k (x ++ [((u % 128 + 128 : Nat) : Int)]) ((u / 128 : Nat) : Int)) (fun k => ?_) ?_
   ·
    simp only [event_appendInt.l0]
    rw [if_pos (by omega), if_pos (by omega), u8_or128', show (u : Int) % 128 + 128 = ((u % 128 + 128 : Nat) : Int) by omega, show (u : Int) / 128 = ((u / 128 : Nat) : Int) by omega]
   ·
    have := ih (u / 128) (by omega) (x ++ [((u % 128 + 128 : Nat) : Int)]) (by rw [List.length_append, List.length_singleton]; omega)
    simpa using this
theorem appendInt_f {a : Int} (h0 : -9223372036854775808 ≤ a) (h1 : a < 9223372036854775808) (x : List Int) (hx : x.length ≤ 140737488355318) : Ev (fun k => event_appendInt.f k x a) (x ++ enc a) := by
 have hz := zz_range h0 h1
 have hl := enc_len h0 h1
 have := appendInt_ev (zz a).toNat x (by unfold enc at hl; omega)
 refine Ev.congr (fun k => ?_) this
 unfold event_appendInt.f
 rw [zz_impl h0 h1, show ((zz a).toNat : Int) = zz a by omega]
theorem putInt_f {a : Int} (h0 : -9223372036854775808 ≤ a) (h1 : a < 9223372036854775808) (x : List Int) (hx : x.length ≤ 140737488355318) : Ev (fun k => event_PutInt.f k x a) (x ++ enc a) := appendInt_f h0 h1 x hx
theorem rd_at {x : List Int} {i : Nat} (h : i < x.length) : rd x (i : Int) = x[i] := by simp [rd, List.getD_eq_getElem?_getD, List.getElem?_eq_getElem h]
def badE (a1 : Int) (e : S24) : Bool := decide (e.f0 < 0) || decide (e.f0 ≥ a1) || decide ((e.f5.length : Int) > 400) || decide ((e.f6.length : Int) > 400)
def badF (a1 : Int) (f : S57) : Bool := decide (f.f0 < 0) || decide (f.f1 < 0) || decide (f.f1 ≥ a1)
def chE (a1 : Int) (l : List S24) : Int := if l.any (badE a1) then 1 else 0
def chL (a1 : Int) (l : List S24) : Int := if (l.length : Int) > 400 then 2 else chE a1 l
def chC (a1 : Int) (l : List S24) (cs : List Int) : Int := if cs.any (fun c => decide (c < 0)) then 1 else chL a1 l
def chF (a1 : Int) (l : List S24) (cs : List Int) (fs : List S57) : Int := if fs.any (badF a1) then 1 else chC a1 l cs
def chS (l : List S24) (a1 cap : Int) (fs : List S57) (stop : Int) (cs : List Int) : Int := if a1 < 1 ∨ a1 > 4 ∨ cap < 1 ∨ cap > 64 ∨ stop < 0 ∨ (cs.length : Int) > a1 then 1 else chF a1 l cs fs
theorem at24 {l : List S24} {i : Nat} (h : i < l.length) : rd_T24 l (i : Int) = l[i] := by simp [rd_T24, List.getD_eq_getElem?_getD, List.getElem?_eq_getElem h]
theorem at57 {l : List S57} {i : Nat} (h : i < l.length) : rd_T57 l (i : Int) = l[i] := by simp [rd_T57, List.getD_eq_getElem?_getD, List.getElem?_eq_getElem h]
theorem any_step {α : Type} (p : α → Bool) {l : List α} {i : Nat} (h : i < l.length) : (l.drop i).any p = (p l[i] || (l.drop (i + 1)).any p) := by rw [List.drop_eq_getElem_cons h, List.any_cons]
theorem any_end {α : Type} (p : α → Bool) {l : List α} {i : Nat} (h : l.length ≤ i) : (l.drop i).any p = false := by rw [List.drop_of_length_le h]; rfl
section
variable (a1 : Int) (l : List S24) (hl : l.length ≤ 140737488355328)
theorem rec_l2 (hl : l.length ≤ 140737488355328) : ∀ (d i : Nat), i + d = l.length → Ev (fun k => record_check.l2 k a1 l (l.length : Int) (i : Int)) (if (l.drop i).any (badE a1) then 1 else 0) := by
 intro d
 induction d with
 | zero =>
  intro i hi
  rw [any_end _ (by omega)]
  refine Ev.step (f := fun _ => some _) (fun k => ?_) (Ev.now _)
  simp only [record_check.l2]
  rw [if_neg (by omega)]
  rfl
 | succ d ih =>
  intro i hi
  have hw : wrap64 ((i : Int) + 1) = ((i + 1 : Nat) : Int) := by rw [wrap64_id (by omega) (by omega)]; omega
  have hlt : i < l.length := by omega
  have h0 : ∀ k, record_check.l2 (k + 1) a1 l (l.length : Int) (i : Int) = (if (l[i].f0) < 0 then (some 1) else (if (l[i].f0) ≥ a1 then (some 1) else (if ((l[i].f5).length : Int) > 400 then (some 1) else (if ((l[i].f6).length : Int) > 400 then (some 1) else (record_check.l2 k a1 l (l.length : Int) ((i + 1 : Nat) : Int)))))) := fun k => by
   simp only [record_check.l2]
   rw [if_pos (by omega), if_pos (by omega), if_pos (by omega), at24 hlt, hw]
  rw [any_step _ hlt]
  obtain ⟨e, he⟩ : ∃ e, l[i] = e := ⟨_, rfl⟩
  rw [he] at h0 ⊢
  refine Ev.step h0 ?_
  unfold badE
  by_cases x1 : e.f0 < 0
  ·
   rw [decide_eq_true x1]; exact Ev.congr (fun k => if_pos x1) (Ev.now _)
  rw [decide_eq_false x1]
  refine Ev.congr (fun k => if_neg x1) ?_
  by_cases x2 : e.f0 ≥ a1
  ·
   rw [decide_eq_true x2]; exact Ev.congr (fun k => if_pos x2) (Ev.now _)
  rw [decide_eq_false x2]
  refine Ev.congr (fun k => if_neg x2) ?_
  by_cases x3 : (e.f5.length : Int) > 400
  ·
   rw [decide_eq_true x3]; exact Ev.congr (fun k => if_pos x3) (Ev.now _)
  rw [decide_eq_false x3]
  refine Ev.congr (fun k => if_neg x3) ?_
  by_cases x4 : (e.f6.length : Int) > 400
  ·
   rw [decide_eq_true x4]; exact Ev.congr (fun k => if_pos x4) (Ev.now _)
  rw [decide_eq_false x4]
  exact Ev.congr (fun k => if_neg x4) (ih (i + 1) (by omega))
theorem rec_l1 (cs : List Int) (hl : l.length ≤ 140737488355328) (hc : cs.length ≤ 140737488355328) : ∀ (d i : Nat), i + d = cs.length → Ev (fun k => record_check.l1 k l a1 cs (cs.length : Int) (i : Int)) (if (cs.drop i).any (fun c => decide (c < 0)) then 1 else chL a1 l) := by
 intro d
 induction d with
 | zero =>
  intro i hi
  rw [any_end _ (by omega)]
  have h0 : ∀ k, record_check.l1 (k + 1) l a1 cs (cs.length : Int) (i : Int) = (if (l.length : Int) > 400 then (some 2) else (record_check.l2 k a1 l (l.length : Int) 0)) := fun k => by
   simp only [record_check.l1]
   rw [if_neg (by omega)]
  refine Ev.step h0 ?_
  show Ev _ (chL a1 l)
  unfold chL
  by_cases x : (l.length : Int) > 400
  ·
   rw [if_pos x]; exact Ev.congr (fun k => if_pos x) (Ev.now _)
  rw [if_neg x]
  have := rec_l2 a1 l hl l.length 0 (by omega)
  rw [List.drop_zero] at this
  exact Ev.congr (fun k => if_neg x) this
 | succ d ih =>
  intro i hi
  have hw : wrap64 ((i : Int) + 1) = ((i + 1 : Nat) : Int) := by rw [wrap64_id (by omega) (by omega)]; omega
  have hlt : i < cs.length := by omega
  have h0 : ∀ k, record_check.l1 (k + 1) l a1 cs (cs.length : Int) (i : Int) = (if cs[i] < 0 then (some 1) else (record_check.l1 k l a1 cs (cs.length : Int) ((i + 1 : Nat) : Int))) := fun k => by
   simp only [record_check.l1]
   rw [if_pos (by omega), if_pos (by omega), if_pos (by omega), rd_at hlt, hw]
  rw [any_step _ hlt]
  obtain ⟨e, he⟩ : ∃ e, cs[i] = e := ⟨_, rfl⟩
  rw [he] at h0 ⊢
  refine Ev.step h0 ?_
  by_cases x1 : e < 0
  ·
   rw [decide_eq_true x1]; exact Ev.congr (fun k => if_pos x1) (Ev.now _)
  rw [decide_eq_false x1]
  exact Ev.congr (fun k => if_neg x1) (ih (i + 1) (by omega))
theorem rec_l0 (cs : List Int) (fs : List S57) (hl : l.length ≤ 140737488355328) (hc : cs.length ≤ 140737488355328) (hf : fs.length ≤ 140737488355328) (b c : Int) : ∀ (d i : Nat), i + d = fs.length → Ev (fun k => record_check.l0 k l a1 fs (fs.length : Int) (i : Int) b fs c cs) (if (fs.drop i).any (badF a1) then 1 else chC a1 l cs) := by
 intro d
 induction d with
 | zero =>
  intro i hi
  rw [any_end _ (by omega)]
  have h0 : ∀ k, record_check.l0 (k + 1) l a1 fs (fs.length : Int) (i : Int) b fs c cs = record_check.l1 k l a1 cs (cs.length : Int) 0 := fun k => by
   simp only [record_check.l0]
   rw [if_neg (by omega)]
  have := rec_l1 a1 l cs hl hc cs.length 0 (by omega)
  rw [List.drop_zero] at this
  exact Ev.step h0 this
 | succ d ih =>
  intro i hi
  have hw : wrap64 ((i : Int) + 1) = ((i + 1 : Nat) : Int) := by rw [wrap64_id (by omega) (by omega)]; omega
  have hlt : i < fs.length := by omega
  have h0 : ∀ k, record_check.l0 (k + 1) l a1 fs (fs.length : Int) (i : Int) b fs c cs = (if fs[i].f0 < 0 then (some 1) else (if fs[i].f1 < 0 then (some 1) else (if fs[i].f1 ≥ a1 then (some 1) else (record_check.l0 k l a1 fs (fs.length : Int) ((i + 1 : Nat) : Int) b fs c cs)))) := fun k => by
   simp only [record_check.l0]
   rw [if_pos (by omega), if_pos (by omega), if_pos (by omega), at57 hlt, hw]
  rw [any_step _ hlt]
  obtain ⟨e, he⟩ : ∃ e, fs[i] = e := ⟨_, rfl⟩
  rw [he] at h0 ⊢
  refine Ev.step h0 ?_
  unfold badF
  by_cases x1 : e.f0 < 0
  ·
   rw [decide_eq_true x1]; exact Ev.congr (fun k => if_pos x1) (Ev.now _)
  rw [decide_eq_false x1]
  refine Ev.congr (fun k => if_neg x1) ?_
  by_cases x2 : e.f1 < 0
  ·
   rw [decide_eq_true x2]; exact Ev.congr (fun k => if_pos x2) (Ev.now _)
  rw [decide_eq_false x2]
  refine Ev.congr (fun k => if_neg x2) ?_
  by_cases x3 : e.f1 ≥ a1
  ·
   rw [decide_eq_true x3]; exact Ev.congr (fun k => if_pos x3) (Ev.now _)
  rw [decide_eq_false x3]
  exact Ev.congr (fun k => if_neg x3) (ih (i + 1) (by omega))
theorem rec_check (cap stop : Int) (cs : List Int) (fs : List S57) (hl : l.length ≤ 140737488355328) (hc : cs.length ≤ 140737488355328) (hf : fs.length ≤ 140737488355328) : Ev (fun k => record_check.f k l a1 cap fs stop cs) (chS l a1 cap fs stop cs) := by
 have ht : Ev (fun k => record_check.j0 k l a1 true cap fs stop cs) 1 := Ev.step (f := fun _ => some _) (fun k => by simp only [record_check.j0]; rw [if_pos trivial]) (Ev.now _)
 have hn : Ev (fun k => record_check.j0 k l a1 false cap fs stop cs) (chF a1 l cs fs) := by
  have := rec_l0 a1 l cs fs hl hc hf cap stop fs.length 0 (by omega)
  rw [List.drop_zero] at this
  exact Ev.step (fun k => by simp only [record_check.j0]; rw [if_neg (by decide)]; rfl) this
 unfold record_check.f chS
 by_cases x1 : a1 < 1
 ·
  rw [if_pos (.inl x1)]; exact Ev.congr (fun k => if_pos x1) ht
 refine Ev.congr (fun k => if_neg x1) ?_
 by_cases x2 : a1 > 4
 ·
  rw [if_pos (.inr (.inl x2))]; exact Ev.congr (fun k => if_pos x2) ht
 refine Ev.congr (fun k => if_neg x2) ?_
 by_cases x3 : cap < 1
 ·
  rw [if_pos (.inr (.inr (.inl x3)))]; exact Ev.congr (fun k => if_pos x3) ht
 refine Ev.congr (fun k => if_neg x3) ?_
 by_cases x4 : cap > 64
 ·
  rw [if_pos (.inr (.inr (.inr (.inl x4))))]; exact Ev.congr (fun k => if_pos x4) ht
 refine Ev.congr (fun k => if_neg x4) ?_
 by_cases x5 : stop < 0
 ·
  rw [if_pos (.inr (.inr (.inr (.inr (.inl x5)))))]; exact Ev.congr (fun k => if_pos x5) ht
 refine Ev.congr (fun k => if_neg x5) ?_
 by_cases x6 : (cs.length : Int) > a1
 ·
  rw [if_pos (.inr (.inr (.inr (.inr (.inr x6))))), decide_eq_true x6]; exact ht
 rw [if_neg (by simp only [not_or]; exact ⟨x1, x2, x3, x4, x5, x6⟩), decide_eq_false x6]
 exact hn
end
def ml (b : List Int) (i d : Nat) : Nat → Nat → Nat
 | 0, n => n
 | m + 1, n => if i + n < b.length ∧ rd b ((i + n : Nat) : Int) = rd b ((i + n - d : Nat) : Int) then ml b i d m (n + 1) else n
def up (p : Nat × Nat) (r d : Nat) : Nat × Nat := if p.1 < r then (r, d) else p
def bs (b : List Int) (i : Nat) : Nat → Nat → Nat × Nat → Nat × Nat
 | 0, _, p => p
 | f + 1, d, p => bs b i f (d + 1) (up p (ml b i d 130 0) d)
def lg (b : List Int) (i : Nat) : Nat × Nat := bs b i (min i 255) 1 (0, 0)
theorem ml_zero (b : List Int) (i d n : Nat) : ml b i d 0 n = n := rfl
theorem ml_succ (b : List Int) (i d m n : Nat) : ml b i d (m + 1) n = if i + n < b.length ∧ rd b ((i + n : Nat) : Int) = rd b ((i + n - d : Nat) : Int) then ml b i d m (n + 1) else n := rfl
theorem bs_zero (b : List Int) (i d : Nat) (p : Nat × Nat) : bs b i 0 d p = p := rfl
theorem bs_succ (b : List Int) (i f d : Nat) (p : Nat × Nat) : bs b i (f + 1) d p = bs b i f (d + 1) (up p (ml b i d 130 0) d) := rfl
theorem up_def (p : Nat × Nat) (r d : Nat) : up p r d = if p.1 < r then (r, d) else p := rfl
theorem lg_def (b : List Int) (i : Nat) : lg b i = bs b i (min i 255) 1 (0, 0) := rfl
attribute [irreducible] ml up bs lg
theorem ml_le (b : List Int) (i d : Nat) : ∀ m n, n ≤ ml b i d m n ∧ ml b i d m n ≤ n + m ∧ (i + n ≤ b.length → i + ml b i d m n ≤ b.length) ∧ (∀ j, n ≤ j → j < ml b i d m n → rd b ((i + j : Nat) : Int) = rd b ((i + j - d : Nat) : Int)) := by
 intro m
 induction m with
 | zero => intro n; exact ⟨by simp [ml_zero], by simp [ml_zero], by simp [ml_zero], fun j h h1 => by rw [ml_zero] at h1; omega⟩
 | succ m ih =>
  intro n
  rw [ml_succ]
  by_cases h : i + n < b.length ∧ rd b ((i + n : Nat) : Int) = rd b ((i + n - d : Nat) : Int)
  ·
   rw [if_pos h]
   obtain ⟨h1, h2, h3, h4⟩ := ih (n + 1)
   refine ⟨by omega, by omega, fun _ => h3 (by omega), fun j hj hj2 => ?_⟩
   by_cases e : j = n
   ·
    subst e
    exact h.2
   ·
    exact h4 j (by omega) hj2
  ·
   rw [if_neg h]
   exact ⟨by omega, by omega, fun h => h, fun j h1 h2 => by omega⟩
def Good (b : List Int) (i : Nat) (p : Nat × Nat) : Prop := p.1 = 0 ∨ (p.1 ≤ 130 ∧ i + p.1 ≤ b.length ∧ 1 ≤ p.2 ∧ p.2 ≤ 255 ∧ p.2 ≤ i ∧ ∀ j, j < p.1 → rd b ((i + j : Nat) : Int) = rd b ((i + j - p.2 : Nat) : Int))
theorem bs_good {b : List Int} {i : Nat} (hi : i ≤ b.length) : ∀ f d p, 1 ≤ d → d + f ≤ min i 255 + 1 → Good b i p → Good b i (bs b i f d p) := by
 intro f
 induction f with
 | zero => intro d p _ _ h; rw [bs_zero]; exact h
 | succ f ih =>
  intro d p h1 h2 h
  rw [bs_succ]
  refine ih (d + 1) _ (by omega) (by omega) ?_
  rw [up_def]
  split
  ·
   obtain ⟨m1, m2, m3, m4⟩ := ml_le b i d 130 0
   exact .inr ⟨by simpa using m2, by simpa using m3 (by omega), h1, by show d ≤ 255; omega, by show d ≤ i; omega, fun j hj => m4 j (by omega) hj⟩
  ·
   exact h
theorem lg_good {b : List Int} {i : Nat} (hi : i ≤ b.length) : Good b i (lg b i) := lg_def b i ▸ bs_good hi _ _ _ (by omega) (by omega) (.inl rfl)
section
variable (b : List Int) (hm : b.length ≤ 1000000000000) (i : Nat) (hi : i ≤ b.length)
include hm hi
theorem longest_in (p : Nat × Nat) (d : Nat) (h1 : 1 ≤ d) (hd : d ≤ i) {r : Int × Int} {R : Nat} (h : Ev (fun k => pack_longest.l0 k b (i : Int) ((up p R d).1 : Int) ((up p R d).2 : Int) ((d + 1 : Nat) : Int)) r) (hd2 : d ≤ 255) :
  ∀ m n, n + m = 130 → Aside0 (ml b i d m n = R) → Ev (fun k => pack_longest.l1 k b (i : Int) (p.1 : Int) (p.2 : Int) (d : Int) (n : Int)) r := by
 have ed : wrap64 ((d : Int) + 1) = ((d + 1 : Nat) : Int) := by rw [wrap64_id (by omega) (by omega)]; omega
 have fin : ∀ n : Nat, n = R → Ev (fun k => if (n : Int) > (p.1 : Int) then (pack_longest.l0 k b (i : Int) (n : Int) (d : Int) (wrap64 ((d : Int) + 1))) else (pack_longest.l0 k b (i : Int) (p.1 : Int) (p.2 : Int) (wrap64 ((d : Int) + 1)))) r := by
  intro n hn
  rw [ed]
  rw [← hn] at h
  rw [up_def] at h
  by_cases c : p.1 < n
  ·
   rw [if_pos c] at h
   exact Ev.congr (fun k => by rw [if_pos (by omega)]) h
  ·
   rw [if_neg c] at h
   exact Ev.congr (fun k => by rw [if_neg (by omega)]) h
 intro m
 induction m with
 | zero =>
  intro n hn e
  have e := e.out
  rw [ml_zero] at e
  refine Ev.step (fun k => ?_) (fin n e)
  simp only [pack_longest.l1]
  rw [if_neg (by omega)]
 | succ m ih =>
  intro n hn e
  have e1 : wrap64 ((i : Int) + (n : Int)) = ((i + n : Nat) : Int) := by rw [wrap64_id (by omega) (by omega)]; omega
  have e2 : wrap64 (((i + n : Nat) : Int) - (d : Int)) = ((i + n - d : Nat) : Int) := by rw [wrap64_id (by omega) (by omega)]; omega
  have e3 : wrap64 ((n : Int) + 1) = ((n + 1 : Nat) : Int) := by rw [wrap64_id (by omega) (by omega)]; omega
  have e' := Aside0.mk ((ml_succ b i d m n).symm.trans e.out)
  clear e
  by_cases c : i + n < b.length
  ·
   by_cases c2 : rd b ((i + n : Nat) : Int) = rd b ((i + n - d : Nat) : Int)
   ·
    have e := Aside0.mk ((if_pos ⟨c, c2⟩).symm.trans e'.out)
    refine Ev.step (fun k => ?_) (ih (n + 1) (by omega) e)
    simp only [pack_longest.l1]
    rw [if_pos (by omega), e1, if_pos (by omega), if_pos (by omega), e2, if_pos (by omega), if_pos (by omega), if_pos c2, e3]
   ·
    have e := (if_neg (fun h => c2 h.2)).symm.trans e'.out
    refine Ev.step (fun k => ?_) (fin n e)
    simp only [pack_longest.l1]
    rw [if_pos (by omega), e1, if_pos (by omega), if_pos (by omega), e2, if_pos (by omega), if_pos (by omega), if_neg c2]
  ·
   have e := (if_neg (fun h => c h.1)).symm.trans e'.out
   refine Ev.step (fun k => ?_) (fin n e)
   simp only [pack_longest.l1]
   rw [if_pos (by omega), e1, if_neg (by omega)]
theorem longest_out : ∀ f d p, 1 ≤ d → d + f = min i 255 + 1 → Ev (fun k => pack_longest.l0 k b (i : Int) ((p : Nat × Nat).1 : Int) (p.2 : Int) ((d : Nat) : Int)) (((bs b i f d p).1 : Int), ((bs b i f d p).2 : Int)) := by
 have em : mn (i : Int) 255 = ((min i 255 : Nat) : Int) := by unfold mn; split <;> omega
 intro f
 induction f with
 | zero =>
  intro d p h1 h
  refine Ev.step (f := fun _ => some _) (fun k => ?_) (Ev.now _)
  simp only [pack_longest.l0, bs_zero]
  rw [em, if_neg (by omega)]
 | succ f ih =>
  intro d p h1 h
  rw [bs_succ]
  have := longest_in b hm i hi p d h1 (by omega) (ih (d + 1) (up p (ml b i d 130 0) d) (by omega) (by omega)) (by omega) 130 0 rfl ⟨rfl⟩
  refine Ev.step (fun k => ?_) this
  simp only [pack_longest.l0]
  rw [em, if_pos (by omega)]
  rfl
theorem longest_f : Ev (fun k => pack_longest.f k b (i : Int)) (((lg b i).1 : Int), ((lg b i).2 : Int)) := by
 rw [lg_def]
 exact longest_out b hm i hi (min i 255) 1 (0, 0) (by omega) (by omega)
omit hm hi in
end
def lit (b : List Int) (s e : Nat) : List Int := if s < e then (((e - s - 1 : Nat) : Int)) :: (b.take e).drop s else []
def pk (b : List Int) : Nat → Nat → Nat → List Int
 | 0, _, _ => []
 | n + 1, i, s =>
  if i < b.length then
   (if (lg b i).1 < 3 then (if i + 1 - s = 128 then lit b s (i + 1) ++ pk b n (i + 1) (i + 1) else pk b n (i + 1) s)
   else lit b s i ++ ([((((lg b i).1 + 125 : Nat)) : Int), ((lg b i).2 : Int)] ++ pk b n (i + (lg b i).1) (i + (lg b i).1)))
  else lit b s b.length
def packS (b : List Int) : List Int := pk b (b.length + 1) 0 0
theorem lit_length {b : List Int} {s e : Nat} (he : e ≤ b.length) : (lit b s e).length = if s < e then e - s + 1 else 0 := by
 unfold lit
 split
 ·
  rw [List.length_cons, List.length_drop, List.length_take]; omega
 ·
  rfl
theorem lg_bounds {b : List Int} {i : Nat} (hi : i ≤ b.length) (h : ¬ (lg b i).1 < 3) : (lg b i).1 ≤ 130 ∧ i + (lg b i).1 ≤ b.length ∧ 1 ≤ (lg b i).2 ∧ (lg b i).2 ≤ 255 ∧ (lg b i).2 ≤ i := by
 rcases lg_good hi with h0 | ⟨h1, h2, h3, h4, h5, _⟩
 ·
  omega
 ·
  exact ⟨h1, h2, h3, h4, h5⟩
theorem pk_length (b : List Int) : ∀ n i s, s ≤ i → i ≤ b.length → i - s < 128 → b.length - i < n → (pk b n i s).length ≤ (b.length - s) + (b.length - s + 127) / 128 := by
 intro n
 induction n with
 | zero => intro i s _ _ _ h; omega
 | succ n ih =>
  intro i s hs hi hp hn
  rw [pk]
  by_cases c : i < b.length
  ·
   rw [if_pos c]
   by_cases c1 : (lg b i).1 < 3
   ·
    rw [if_pos c1]
    by_cases c2 : i + 1 - s = 128
    ·
     rw [if_pos c2, List.length_append, lit_length (by omega), if_pos (by omega)]
     have := ih (i + 1) (i + 1) (by omega) (by omega) (by omega) (by omega)
     omega
    ·
     rw [if_neg c2]
     have := ih (i + 1) s (by omega) (by omega) (by omega) (by omega)
     omega
   ·
    rw [if_neg c1, List.length_append, List.length_append, lit_length (by omega)]
    obtain ⟨g1, g2, _⟩ := lg_bounds (by omega) c1
    have := ih (i + (lg b i).1) (i + (lg b i).1) (by omega) (by omega) (by omega) (by omega)
    simp only [List.length_cons, List.length_nil]
    generalize (lg b i).1 = l at *
    split <;> omega
  ·
   rw [if_neg c, lit_length (by omega)]
   split <;> omega
theorem packS_length (b : List Int) : (packS b).length ≤ b.length + (b.length + 127) / 128 := by
 have := pk_length b (b.length + 1) 0 0 (by omega) (by omega) (by omega) (by omega)
 simpa [packS] using this
theorem flush_is {b out : List Int} {s e : Nat} (he : e ≤ b.length) (h1 : e - s ≤ 128) (hl : out.length + (lit b s e).length < 140737488355328) : pack_Pack.flush b out (s : Int) (e : Int) = some (out ++ lit b s e) := by
 rw [lit_length he] at hl
 unfold pack_Pack.flush lit
 by_cases c : s < e
 ·
  rw [if_pos c] at hl
  rw [if_pos (by omega), if_pos (by omega), if_pos c]
  rw [show ((e : Int) - (s : Int) - 1) % 256 = ((e - s - 1 : Nat) : Int) by omega]
  simp
 ·
  rw [if_neg (by omega), if_neg c, List.append_nil]
theorem ev_all {α : Type} {f : Nat → Nat → Option α} {r : Nat → α} : ∀ n, (∀ i, i < n → Ev (fun k => f k i) (r i)) → ∃ K, ∀ k, K ≤ k → ∀ i, i < n → f k i = some (r i) := by
 intro n
 induction n with
 | zero => intro _; exact ⟨0, fun k _ i h => by omega⟩
 | succ n ih =>
  intro h
  obtain ⟨K, hK⟩ := ih (fun i hi => h i (by omega))
  obtain ⟨K2, hK2⟩ := h n (by omega)
  refine ⟨max K K2, fun k hk i hi => ?_⟩
  by_cases e : i = n
  ·
   subst e
   exact hK2 k (by omega)
  ·
   exact hK k (by omega) i (by omega)
theorem go_is {b : List Int} {k : Nat} (hK : ∀ i, i < b.length → pack_longest.f k b (i : Int) = some (((lg b i).1 : Int), ((lg b i).2 : Int))) :
  ∀ n m i s out, s ≤ i → i ≤ b.length → i - s < 128 → b.length - i < n → n ≤ m → out.length + (pk b n i s).length + 3 < 140737488355328 →
   pack_Pack.go k b m (i : Int) (s : Int) out = some (out ++ pk b n i s) := by
 intro n
 induction n with
 | zero => intro m i s out _ _ _ h; omega
 | succ n ih =>
  intro m i s out hs hi hp hn hm hl
  obtain ⟨m, rfl⟩ : ∃ m', m = m' + 1 := ⟨m - 1, by omega⟩
  rw [pack_Pack.go]
  rw [pk] at hl ⊢
  by_cases c : i < b.length
  ·
   rw [if_pos c] at hl ⊢
   rw [if_pos (by omega), hK i c, Option.bind_some]
   have e1 : (i : Int) + 1 = ((i + 1 : Nat) : Int) := by omega
   by_cases c1 : (lg b i).1 < 3
   ·
    rw [if_pos c1] at hl ⊢
    rw [if_pos (by show ((lg b i).1 : Int) < 3; omega), e1]
    by_cases c2 : i + 1 - s = 128
    ·
     rw [if_pos c2] at hl ⊢
     rw [List.length_append] at hl
     rw [if_pos (by omega), flush_is (by omega) (by omega) (by omega), Option.bind_some, ih m (i + 1) (i + 1) _ (by omega) (by omega) (by omega) (by omega) (by omega) (by rw [List.length_append]; omega), List.append_assoc]
    ·
     rw [if_neg c2] at hl ⊢
     rw [if_neg (by omega)]
     exact ih m (i + 1) s out (by omega) (by omega) (by omega) (by omega) (by omega) (by omega)
   ·
    rw [if_neg c1] at hl ⊢
    obtain ⟨g1, g2, _, g4, _⟩ := lg_bounds (by omega) c1
    rw [List.length_append, List.length_append] at hl
    simp only [List.length_cons, List.length_nil] at hl
    have e2 : (i : Int) + ((lg b i).1 : Int) = ((i + (lg b i).1 : Nat) : Int) := by omega
    have e3 : ((lg b i).1 : Int) - 3 + 128 = (((lg b i).1 + 125 : Nat) : Int) := by omega
    have e4 : ((lg b i).2 : Int) % 256 = ((lg b i).2 : Int) := by omega
    rw [if_neg (by show ¬ ((lg b i).1 : Int) < 3; omega), if_pos (by constructor <;> (show ((_ : Int) ≤ _); omega)), flush_is (by omega) (by omega) (by omega), Option.bind_some, if_pos (by rw [List.length_append]; omega)]
    show pack_Pack.go k b m ((i : Int) + ((lg b i).1 : Int)) ((i : Int) + ((lg b i).1 : Int)) (out ++ lit b s i ++ [((lg b i).1 : Int) - 3 + 128, ((lg b i).2 : Int) % 256]) = _
    rw [e2, e3, e4, ih m _ _ _ (by omega) (by omega) (by omega) (by omega) (by omega) (by rw [List.length_append, List.length_append]; simp only [List.length_cons, List.length_nil]; omega), List.append_assoc, List.append_assoc]
  ·
   rw [if_neg c] at hl ⊢
   obtain rfl : i = b.length := by omega
   rw [if_neg (by omega), flush_is (by omega) (by omega) (by omega)]
theorem pack_f (b : List Int) (hm : b.length ≤ 1000000000000) : Ev (fun k => pack_Pack.f k b) (packS b) := by
 obtain ⟨K, hK⟩ := ev_all (f := fun k i => pack_longest.f k b (i : Int)) (r := fun i => (((lg b i).1 : Int), ((lg b i).2 : Int))) b.length (fun i hi => longest_f b hm i (by omega))
 refine ⟨max K (b.length + 1), fun k hk => ?_⟩
 have h1 := packS_length b
 have := go_is (hK k (by omega)) (b.length + 1) k 0 0 [] (by omega) (by omega) (by omega) (by omega) (by omega) (by simp only [List.length_nil]; unfold packS at h1; omega)
 exact this
inductive Ch (b : List Int) : Nat → List Int → Prop
 | done : Ch b b.length []
 | lit (s e : Nat) (t : List Int) : s < e → e ≤ b.length → e - s ≤ 128 → Ch b e t → Ch b s (((e - s - 1 : Nat) : Int) :: ((b.take e).drop s ++ t))
 | copy (s l d : Nat) (t : List Int) : 3 ≤ l → l ≤ 130 → 1 ≤ d → d ≤ 255 → d ≤ s → s + l ≤ b.length → (∀ j, j < l → rd b ((s + j : Nat) : Int) = rd b ((s + j - d : Nat) : Int)) → Ch b (s + l) t → Ch b s (((l + 125 : Nat) : Int) :: (d : Int) :: t)
theorem lit_ch {b t : List Int} {s e : Nat} (hs : s ≤ e) (he : e ≤ b.length) (h1 : e - s ≤ 128) (h : Ch b e t) : Ch b s (lit b s e ++ t) := by
 unfold lit
 by_cases c : s < e
 ·
  rw [if_pos c]
  exact .lit s e t c he h1 h
 ·
  rw [if_neg c]
  obtain rfl : s = e := by omega
  exact h
theorem pk_ch (b : List Int) : ∀ n i s, s ≤ i → i ≤ b.length → i - s < 128 → b.length - i < n → Ch b s (pk b n i s) := by
 intro n
 induction n with
 | zero => intro i s _ _ _ h; omega
 | succ n ih =>
  intro i s hs hi hp hn
  have hG := lg_good hi
  rw [pk]
  generalize lg b i = p at hG ⊢
  obtain ⟨l, d⟩ := p
  unfold Good at hG
  dsimp only at hG ⊢
  by_cases c : i < b.length
  ·
   rw [if_pos c]
   by_cases c1 : l < 3
   ·
    rw [if_pos c1]
    by_cases c2 : i + 1 - s = 128
    ·
     rw [if_pos c2]
     exact lit_ch (by omega) (by omega) (by omega) (ih (i + 1) (i + 1) (by omega) (by omega) (by omega) (by omega))
    ·
     rw [if_neg c2]
     exact ih (i + 1) s (by omega) (by omega) (by omega) (by omega)
   ·
    rw [if_neg c1]
    rcases hG with h0 | ⟨h1, h2, h3, h4, h5, h6⟩
    ·
     omega
    ·
     refine lit_ch (by omega) (by omega) (by omega) ?_
     exact .copy i l d _ (by omega) h1 h3 h4 h5 h2 h6 (ih (i + l) (i + l) (by omega) (by omega) (by omega) (by omega))
  ·
   rw [if_neg c]
   obtain rfl : i = b.length := by omega
   have := lit_ch (b := b) (t := []) hs (by omega) (by omega) .done
   rwa [List.append_nil] at this
theorem packS_ch (b : List Int) : Ch b 0 (packS b) := pk_ch b (b.length + 1) 0 0 (by omega) (by omega) (by omega) (by omega)
theorem ch_bytes {b : List Int} (hb : ∀ c ∈ b, 0 ≤ c ∧ c < 256) {s : Nat} {t : List Int} (h : Ch b s t) : ∀ c ∈ t, 0 ≤ c ∧ c < 256 := by
 induction h with
 | done => intro c hc; simp at hc
 | lit s e t h1 h2 h3 _ ih =>
  intro c hc
  rcases List.mem_cons.1 hc with rfl | hc
  ·
   omega
  ·
   rcases List.mem_append.1 hc with hc | hc
   ·
    exact hb c (List.mem_of_mem_take (List.mem_of_mem_drop hc))
   ·
    exact ih c hc
 | copy s l d t h1 h2 h3 h4 h5 h6 h7 _ ih =>
  intro c hc
  rcases List.mem_cons.1 hc with rfl | hc
  ·
   omega
  ·
   rcases List.mem_cons.1 hc with rfl | hc
   ·
    omega
   ·
    exact ih c hc
end Go.Proofs.Ytnmmkgagbfniiaa.Pl
end
section
namespace Go.Proofs.Ytnmmkgagbfniiaa.Pl
open Go.RowKit Go.Proofs.YtnmmkgagbfniiaaW.PrintWords Go.Proofs.YtnmmkgagbfniiaaW.PrintMore
set_option linter.unusedVariables false
def crcBit (c : Nat) : Nat := if c % 2 = 1 then (c / 2) ^^^ 3988292384 else c / 2
def crcBits : Nat → Nat → Nat
 | 0, c => c
 | n + 1, c => crcBits n (crcBit c)
def crcByte (c : Nat) (x : Int) : Nat := crcBits 8 (c ^^^ x.toNat)
def crc (c : Nat) (l : List Int) : Nat := l.foldl crcByte c
def sumS (l : List Int) : Nat := 4294967295 ^^^ crc 4294967295 l
theorem crcBit_lt {c : Nat} (h : c < 4294967296) : crcBit c < 4294967296 := by
 unfold crcBit
 split
 ·
  have : (c / 2) ^^^ 3988292384 < 2 ^ 32 := Nat.xor_lt_two_pow (by omega) (by omega)
  omega
 ·
  omega
theorem crcBits_lt : ∀ (n : Nat) {c : Nat}, c < 4294967296 → crcBits n c < 4294967296
 | 0, _, h => h
 | n + 1, _, h => crcBits_lt n (crcBit_lt h)
theorem xor_byte_lt {c : Nat} {x : Int} (h : c < 4294967296) (hx : x < 256) : c ^^^ x.toNat < 4294967296 := by
 have : c ^^^ x.toNat < 2 ^ 32 := Nat.xor_lt_two_pow (by omega) (by omega)
 omega
theorem crcByte_lt {c : Nat} {x : Int} (h : c < 4294967296) (hx : x < 256) : crcByte c x < 4294967296 := crcBits_lt 8 (xor_byte_lt h hx)
end Go.Proofs.Ytnmmkgagbfniiaa.Pl
end
section
namespace Go.Proofs.Ytnmmkgagbfniiaa.A
open Go.RowKit Go.Proofs.YtnmmkgagbfniiaaW.PrintWords Go.Proofs.YtnmmkgagbfniiaaW.PrintLast Go.Proofs.YtnmmkgagbfniiaaW.PrintMore
attribute [local go_sem] max2_int min2_int max_two min_two max_three min_three max_four min_four
set_option linter.unusedVariables false
set_option linter.unusedSimpArgs false
end Go.Proofs.Ytnmmkgagbfniiaa.A
end
section
namespace Go.Proofs.Ytnmmkgagbfniiaa.Pl
open Go.RowKit Go.Proofs.YtnmmkgagbfniiaaW.PrintWords Go.Proofs.YtnmmkgagbfniiaaW.PrintMore Go.Proofs.Ytnmmkgagbfniiaa.A
set_option linter.unusedVariables false
theorem crcBit_int (c : Nat) (h : c < 4294967296) : (if bits .and .u32 (c : Int) 1 = 1 then bits .xor .u32 ((c : Int) / 2) 3988292384 else (c : Int) / 2) = ((crcBit c : Nat) : Int) := by
 have e1 : bits .and .u32 (c : Int) 1 = ((c % 2 : Nat) : Int) := by
  have := u32_and_nat c 1 h (by omega)
  rw [nat_mask1] at this
  exact this
 have e2 : bits .xor .u32 ((c : Int) / 2) 3988292384 = (((c / 2) ^^^ 3988292384 : Nat) : Int) := by
  have := u32_xor_nat (c / 2) 3988292384 (by omega) (by omega)
  rw [show ((c / 2 : Nat) : Int) = (c : Int) / 2 by omega] at this
  exact this
 rw [e1, e2]
 unfold crcBit
 by_cases hc : c % 2 = 1
 ·
  rw [if_pos (by omega), if_pos hc]
 ·
  rw [if_neg (by omega), if_neg hc]
  omega
theorem sum_bits {xs : List Int} {n i r : Int} : ∀ (d j c : Nat), j + d = 8 → c < 4294967296 → Ev (fun k => block_Sum.l0 k ((crcBits d c : Nat) : Int) xs n (wrap64 (i + 1))) r → Ev (fun k => block_Sum.l1 k (c : Int) xs n i (j : Int)) r := by
 intro d
 induction d with
 | zero =>
  intro j c hj hc h
  refine Ev.step (fun k => ?_) h
  simp only [block_Sum.l1]
  rw [if_neg (by omega)]
  rfl
 | succ d ih =>
  intro j c hj hc h
  refine Ev.step (f := fun k => block_Sum.l1 k ((crcBit c : Nat) : Int) xs n i ((j + 1 : Nat) : Int)) (fun k => ?_) (ih (j + 1) (crcBit c) (by omega) (crcBit_lt hc) h)
  simp only [block_Sum.l1]
  rw [if_pos (by omega), wrap64_id (x := (j : Int) + 1) (by omega) (by omega), ← crcBit_int c hc]
  split <;> rfl
theorem sum_loop (xs : List Int) (hm : xs.length ≤ 140737488355328) (hx : ∀ c ∈ xs, 0 ≤ c ∧ c < 256) : ∀ (d i c : Nat), i + d = xs.length → c < 4294967296 →
  Ev (fun k => block_Sum.l0 k (c : Int) xs (xs.length : Int) (i : Int)) ((4294967295 ^^^ crc c (xs.drop i) : Nat) : Int) := by
 intro d
 induction d with
 | zero =>
  intro i c hi hc
  refine Ev.step (f := fun _ => some _) (fun k => ?_) (Ev.now _)
  simp only [block_Sum.l0]
  rw [if_neg (by omega), List.drop_of_length_le (by omega)]
  have := u32_xor_nat 4294967295 c (by omega) hc
  exact congrArg some this
 | succ d ih =>
  intro i c hi hc
  have hlt : i < xs.length := by omega
  have hb := hx xs[i] (List.getElem_mem hlt)
  have e : bits .xor .u32 (c : Int) ((rd xs (i : Int)) % 4294967296) = ((c ^^^ xs[i].toNat : Nat) : Int) := by
   rw [show rd xs (i : Int) = xs[i] by simp [rd, List.getD_eq_getElem?_getD, List.getElem?_eq_getElem hlt]]
   have := u32_xor_nat c xs[i].toNat hc (by omega)
   rw [show ((xs[i].toNat : Nat) : Int) = xs[i] % 4294967296 by omega] at this
   exact this
  refine Ev.step (f := fun k => block_Sum.l1 k ((c ^^^ xs[i].toNat : Nat) : Int) xs (xs.length : Int) (i : Int) ((0 : Nat) : Int)) (fun k => ?_) ?_
  ·
   simp only [block_Sum.l0]
   rw [if_pos (by omega), if_pos (by omega), if_pos (by omega), e]
   rfl
  ·
   refine sum_bits 8 0 _ rfl (xor_byte_lt hc hb.2) ?_
   have := ih (i + 1) (crcByte c xs[i]) (by omega) (crcByte_lt hc hb.2)
   rw [List.drop_eq_getElem_cons hlt, wrap64_id (x := (i : Int) + 1) (by omega) (by omega)]
   exact this
theorem sum_f (xs : List Int) (hm : xs.length ≤ 140737488355328) (hx : ∀ c ∈ xs, 0 ≤ c ∧ c < 256) : Ev (fun k => block_Sum.f k xs) ((sumS xs : Nat) : Int) := by
 have := sum_loop xs hm hx xs.length 0 4294967295 (by omega) (by omega)
 exact this
def I64 (a : Int) : Prop := -9223372036854775808 ≤ a ∧ a < 9223372036854775808
theorem wrap64_I64 (x : Int) : I64 (wrap64 x) := by unfold I64 wrap64; omega
def encDiffs : Int → List Int → List Int
 | _, [] => []
 | last, n :: t => enc (wrap64 (n - last)) ++ encDiffs n t
def encL (l : List Int) : List Int := enc (l.length : Int) ++ encDiffs 0 l
def encR (d kind obj val site : Int) (deps frm : List Int) : List Int := enc d ++ (enc kind ++ (enc obj ++ (enc val ++ (enc site ++ (encL deps ++ encL frm)))))
theorem enc_le {a : Int} (h : I64 a) : (enc a).length ≤ 10 := (enc_len h.1 h.2).2
theorem encDiffs_len : ∀ (l : List Int) (last : Int), (encDiffs last l).length ≤ 10 * l.length
 | [], _ => by simp [encDiffs]
 | n :: t, last => by
  have h1 := enc_le (wrap64_I64 (n - last))
  have h2 := encDiffs_len t n
  simp only [encDiffs, List.length_append, List.length_cons]
  omega
theorem encL_len (l : List Int) (hl : l.length ≤ 400) : (encL l).length ≤ 10 * l.length + 10 := by
 have h1 := encDiffs_len l 0
 have h2 := enc_le (a := (l.length : Int)) ⟨by omega, by omega⟩
 unfold encL
 rw [List.length_append]
 omega
theorem encDiffs_bytes : ∀ (l : List Int) (last : Int), ∀ x ∈ encDiffs last l, 0 ≤ x ∧ x < 256
 | [], _ => fun x hx => by simp [encDiffs] at hx
 | n :: t, last => fun x hx => by
  simp only [encDiffs, List.mem_append] at hx
  rcases hx with hx | hx
  ·
   exact enc_bytes _ x hx
  ·
   exact encDiffs_bytes t n x hx
theorem encL_bytes (l : List Int) : ∀ x ∈ encL l, 0 ≤ x ∧ x < 256 := fun x hx => by
 rcases List.mem_append.1 hx with hx | hx
 ·
  exact enc_bytes _ x hx
 ·
  exact encDiffs_bytes _ _ x hx
theorem encR_bytes (d kind obj val site : Int) (deps frm : List Int) : ∀ x ∈ encR d kind obj val site deps frm, 0 ≤ x ∧ x < 256 := fun x hx => by
 simp only [encR, List.mem_append] at hx
 rcases hx with hx | hx | hx | hx | hx | hx | hx
 ·
  exact enc_bytes _ x hx
 ·
  exact enc_bytes _ x hx
 ·
  exact enc_bytes _ x hx
 ·
  exact enc_bytes _ x hx
 ·
  exact enc_bytes _ x hx
 ·
  exact encL_bytes _ x hx
 ·
  exact encL_bytes _ x hx
theorem encR_len (d kind obj val site : Int) (deps frm : List Int) (h0 : I64 d) (h1 : I64 kind) (h2 : I64 obj) (h3 : I64 val) (h4 : I64 site) (h5 : deps.length ≤ 400) (h6 : frm.length ≤ 400) : (encR d kind obj val site deps frm).length ≤ 10 * (deps.length + frm.length) + 70 := by
 have a0 := enc_le h0
 have a1 := enc_le h1
 have a2 := enc_le h2
 have a3 := enc_le h3
 have a4 := enc_le h4
 have a5 := encL_len deps h5
 have a6 := encL_len frm h6
 unfold encR
 simp only [List.length_append]
 omega
theorem appendList_loop (l : List Int) (hl : l.length ≤ 140737488355328) : ∀ (d i : Nat) (x : List Int) (last : Int), i + d = l.length → x.length + 10 * d ≤ 140737488355318 →
  Ev (fun k => event_appendList.l0 k x last l (l.length : Int) (i : Int)) (x ++ encDiffs last (l.drop i)) := by
 intro d
 induction d with
 | zero =>
  intro i x last hi hx
  refine Ev.step (f := fun _ => some _) (fun k => ?_) (Ev.now _)
  simp only [event_appendList.l0]
  rw [if_neg (by omega), List.drop_of_length_le (by omega)]
  simp [encDiffs]
 | succ d ih =>
  intro i x last hi hx
  have hlt : i < l.length := by omega
  have hw := wrap64_I64 (l[i] - last)
  refine Ev.step (f := fun k => (event_appendInt.f k x (wrap64 (l[i] - last))).bind fun t => event_appendList.l0 k t l[i] l (l.length : Int) ((i + 1 : Nat) : Int)) (fun k => ?_) ?_
  ·
   simp only [event_appendList.l0]
   rw [if_pos (by omega), if_pos (by omega), if_pos (by omega), rd_at hlt, wrap64_id (x := (i : Int) + 1) (by omega) (by omega)]
   rfl
  ·
   refine Ev.bind (appendInt_f hw.1 hw.2 x (by omega)) ?_
   have h10 := enc_le hw
   have := ih (i + 1) (x ++ enc (wrap64 (l[i] - last))) l[i] (by omega) (by rw [List.length_append]; omega)
   rw [List.drop_eq_getElem_cons hlt]
   simpa [encDiffs] using this
theorem appendList_f (l x : List Int) (hl : l.length ≤ 400) (hx : x.length ≤ 140737488300000) : Ev (fun k => event_appendList.f k x l) (x ++ encL l) := by
 have h10 := enc_le (a := (l.length : Int)) ⟨by omega, by omega⟩
 refine Ev.bind (appendInt_f (a := (l.length : Int)) (by omega) (by omega) x (by omega)) ?_
 have := appendList_loop l (by omega) l.length 0 (x ++ enc (l.length : Int)) 0 (by omega) (by rw [List.length_append]; omega)
 simpa [encL] using this
theorem append_f (x : List Int) (seq thread kind obj val site : Int) (deps frm : List Int) (q : Int) (hx : x.length ≤ 140737488200000) (h1 : I64 kind) (h2 : I64 obj) (h3 : I64 val) (h4 : I64 site) (h5 : deps.length ≤ 400) (h6 : frm.length ≤ 400) :
  Ev (fun k => event_Append.f k x seq thread kind obj val site deps frm q) (x ++ encR (wrap64 (seq - q)) kind obj val site deps frm) := by
 have hw := wrap64_I64 (seq - q)
 have a0 := enc_le hw
 have a1 := enc_le h1
 have a2 := enc_le h2
 have a3 := enc_le h3
 have a4 := enc_le h4
 have a5 := encL_len deps h5
 refine Ev.bind (appendInt_f hw.1 hw.2 x (by omega)) ?_
 refine Ev.bind (appendInt_f h1.1 h1.2 _ (by rw [List.length_append]; omega)) ?_
 refine Ev.bind (appendInt_f h2.1 h2.2 _ (by simp only [List.length_append]; omega)) ?_
 refine Ev.bind (appendInt_f h3.1 h3.2 _ (by simp only [List.length_append]; omega)) ?_
 refine Ev.bind (appendInt_f h4.1 h4.2 _ (by simp only [List.length_append]; omega)) ?_
 refine Ev.bind (appendList_f deps _ h5 (by simp only [List.length_append]; omega)) ?_
 have := appendList_f frm (x ++ enc (wrap64 (seq - q)) ++ enc kind ++ enc obj ++ enc val ++ enc site ++ encL deps) h6 (by simp only [List.length_append]; omega)
 simpa [encR, List.append_assoc] using this
end Go.Proofs.Ytnmmkgagbfniiaa.Pl
end
section
namespace Go.Proofs.Ytnmmkgagbfniiaa.A
open Go.RowKit Go.Proofs.YtnmmkgagbfniiaaW.PrintWords Go.Proofs.YtnmmkgagbfniiaaW.PrintLast Go.Proofs.YtnmmkgagbfniiaaW.PrintMore
attribute [local go_sem] max2_int min2_int max_two min_two max_three min_three max_four min_four
set_option linter.unusedVariables false
set_option linter.unusedSimpArgs false
end Go.Proofs.Ytnmmkgagbfniiaa.A
end
section
namespace Go.Proofs.Ytnmmkgagbfniiaa.Pl
open Go.RowKit Go.Proofs.YtnmmkgagbfniiaaW.PrintWords Go.Proofs.YtnmmkgagbfniiaaW.PrintMore Go.Proofs.Ytnmmkgagbfniiaa.A
set_option linter.unusedVariables false
theorem rdT {l : List S26} {i : Nat} (h : i < l.length) : rd_T26 l (i : Int) = l[i] := by simp [rd_T26, List.getD_eq_getElem?_getD, List.getElem?_eq_getElem h]
def recB (r : S26) (q : Int) : List Int := encR (wrap64 (r.f0 - q)) r.f1.f1 r.f1.f2 r.f1.f3 r.f1.f4 r.f1.f5 r.f1.f6
def payS : Int → List S26 → List Int
 | _, [] => []
 | q, r :: rs => recB r q ++ payS r.f0 rs
def fit (th : Int) : Int → List S26 → Bool
 | _, [] => true
 | last, r :: rs => decide (r.f1.f0 = th ∧ last < r.f0 ∧ r.f1.f5.length ≤ 400 ∧ r.f1.f6.length ≤ 400) && fit th r.f0 rs
def chk (th first : Int) (l : List S26) : Int :=
 if 64 < l.length then 2 else if l.length = 0 ∨ th < 0 ∨ 4 ≤ th ∨ first < 0 ∨ 400 < first then 1 else if fit th (-1) l then 0 else 1
def RecOk (r : S26) : Prop := I64 r.f0 ∧ I64 r.f1.f1 ∧ I64 r.f1.f2 ∧ I64 r.f1.f3 ∧ I64 r.f1.f4
theorem check_loop (th first : Int) (l : List S26) (hl : l.length ≤ 140737488355328) : ∀ (d i : Nat) (last : Int), i + d = l.length →
  Ev (fun k => block_check.l0 k last l (l.length : Int) (i : Int) th first l) (if fit th last (l.drop i) then 0 else 1) := by
 intro d
 induction d with
 | zero =>
  intro i last hi
  refine Ev.step (f := fun _ => some _) (fun k => ?_) (Ev.now _)
  simp only [block_check.l0]
  rw [if_neg (by omega), List.drop_of_length_le (by omega)]
  rfl
 | succ d ih =>
  intro i last hi
  have hlt : i < l.length := by omega
  have hw : wrap64 ((i : Int) + 1) = ((i + 1 : Nat) : Int) := by rw [wrap64_id (by omega) (by omega)]; omega
  rw [List.drop_eq_getElem_cons hlt, fit]
  by_cases c : (l[i].f1.f0 = th ∧ last < l[i].f0 ∧ l[i].f1.f5.length ≤ 400 ∧ l[i].f1.f6.length ≤ 400)
  ·
   rw [decide_eq_true c, Bool.true_and]
   obtain ⟨c1, c2, c3, c4⟩ := c
   refine Ev.step (fun k => ?_) (ih (i + 1) l[i].f0 (by omega))
   simp only [block_check.l0]
   rw [if_pos (by omega), if_pos (by omega), if_pos (by omega), rdT hlt, if_pos c1, if_neg (by omega), if_neg (by omega), if_neg (by omega), hw]
  ·
   simp only [decide_eq_false c, Bool.false_and, Bool.false_eq_true, if_false]
   refine Ev.step (f := fun _ => some 1) (fun k => ?_) (Ev.now _)
   simp only [block_check.l0]
   rw [if_pos (by omega), if_pos (by omega), if_pos (by omega), rdT hlt]
   by_cases c1 : l[i].f1.f0 = th
   ·
    rw [if_pos c1]
    by_cases c2 : l[i].f0 ≤ last
    ·
     rw [if_pos c2]
    ·
     rw [if_neg c2]
     by_cases c3 : (l[i].f1.f5.length : Int) > 400
     ·
      rw [if_pos c3]
     ·
      rw [if_neg c3, if_pos (Decidable.byContradiction fun c4 => c ⟨c1, by omega, by omega, by omega⟩)]
   ·
    rw [if_neg c1]
theorem check_f (th first : Int) (l : List S26) : Ev (fun k => block_check.f k th first l) (chk th first l) := by
 unfold chk
 by_cases c0 : 64 < l.length
 ·
  rw [if_pos c0]
  refine Ev.congr (f := fun _ => some 2) (fun k => ?_) (Ev.now _)
  unfold block_check.f
  rw [if_pos (by omega)]
 ·
  rw [if_neg c0]
  have hb : Ev (fun k => block_check.j0 k true th first l) 1 := Ev.step (f := fun _ => some 1) (fun k => by simp only [block_check.j0]; exact if_pos trivial) (Ev.now _)
  by_cases c : l.length = 0 ∨ th < 0 ∨ 4 ≤ th ∨ first < 0 ∨ 400 < first
  ·
   rw [if_pos c]
   refine Ev.congr (fun k => ?_) hb
   unfold block_check.f
   rw [if_neg (by omega)]
   by_cases a1 : (l.length : Int) = 0
   ·
    rw [if_pos a1]
   ·
    rw [if_neg a1]
    by_cases a2 : th < 0
    ·
     rw [if_pos a2]
    ·
     rw [if_neg a2]
     by_cases a3 : th ≥ 4
     ·
      rw [if_pos a3]
     ·
      rw [if_neg a3]
      by_cases a4 : first < 0
      ·
       rw [if_pos a4]
      ·
       rw [if_neg a4, decide_eq_true (by omega)]
  ·
   rw [if_neg c]
   have := check_loop th first l (by omega) l.length 0 (-1) (by omega)
   rw [List.drop_zero] at this
   refine Ev.congr (f := fun k => block_check.j0 k false th first l) (fun k => ?_) (Ev.step (fun k => ?_) this)
   ·
    unfold block_check.f
    rw [if_neg (by omega), if_neg (by omega), if_neg (by omega), if_neg (by omega), if_neg (by omega), decide_eq_false (by omega)]
   ·
    simp only [block_check.j0]
    exact if_neg (by decide)
theorem recB_len {r : S26} (q : Int) (h : RecOk r) (h5 : r.f1.f5.length ≤ 400) (h6 : r.f1.f6.length ≤ 400) : (recB r q).length ≤ 8070 := by
 have := encR_len (wrap64 (r.f0 - q)) r.f1.f1 r.f1.f2 r.f1.f3 r.f1.f4 r.f1.f5 r.f1.f6 (wrap64_I64 _) h.2.1 h.2.2.1 h.2.2.2.1 h.2.2.2.2 h5 h6
 unfold recB
 omega
theorem fit_cons {th last : Int} {r : S26} {rs : List S26} (h : fit th last (r :: rs) = true) : (r.f1.f0 = th ∧ last < r.f0 ∧ r.f1.f5.length ≤ 400 ∧ r.f1.f6.length ≤ 400) ∧ fit th r.f0 rs = true := by
 rw [fit, Bool.and_eq_true] at h
 exact ⟨of_decide_eq_true h.1, h.2⟩
theorem payS_len {th : Int} : ∀ {l : List S26} {q : Int}, fit th q l = true → (∀ r ∈ l, RecOk r) → (payS q l).length ≤ 8070 * l.length
 | [], _, _, _ => by simp [payS]
 | r :: rs, q, h, hr => by
  obtain ⟨⟨_, _, h5, h6⟩, h'⟩ := fit_cons h
  have h1 := recB_len q (hr r (by simp)) h5 h6
  have h2 := payS_len h' (fun r' h' => hr r' (by simp [h']))
  rw [payS, List.length_append, List.length_cons]
  omega
theorem payS_bytes : ∀ (l : List S26) (q : Int), ∀ c ∈ payS q l, 0 ≤ c ∧ c < 256
 | [], _, c, hc => by simp [payS] at hc
 | r :: rs, q, c, hc => by
  rw [payS] at hc
  rcases List.mem_append.1 hc with hc | hc
  ·
   exact encR_bytes _ _ _ _ _ _ _ c hc
  ·
   exact payS_bytes rs _ c hc
def encs : List Int → List Int
 | [] => []
 | a :: t => enc a ++ encs t
def headS (th first n : Int) (p : List Int) : List Int := [84, th % 256] ++ encs [first, n, (p.length : Int), ((packS p).length : Int)]
def bodyS (th first : Int) (l : List S26) : List Int := headS th first (l.length : Int) (payS (-1) l) ++ packS (payS (-1) l)
def sumB (b : List Int) : List Int := [((sumS b : Nat) : Int) / 16777216 % 256, ((sumS b : Nat) : Int) / 65536 % 256, ((sumS b : Nat) : Int) / 256 % 256, ((sumS b : Nat) : Int) % 256]
def encS (th first : Int) (l : List S26) : List Int × Int := if chk th first l = 0 then (bodyS th first l ++ sumB (bodyS th first l), 0) else ([], chk th first l)
theorem encs_len : ∀ (l : List Int), (∀ a ∈ l, I64 a) → (encs l).length ≤ 10 * l.length
 | [], _ => by simp [encs]
 | a :: t, h => by
  have h1 := enc_le (h a (by simp))
  have h2 := encs_len t (fun b hb => h b (by simp [hb]))
  rw [encs, List.length_append, List.length_cons]
  omega
theorem encs_bytes : ∀ (l : List Int), ∀ c ∈ encs l, 0 ≤ c ∧ c < 256
 | [], c, hc => by simp [encs] at hc
 | a :: t, c, hc => by
  rw [encs] at hc
  rcases List.mem_append.1 hc with hc | hc
  ·
   exact enc_bytes _ c hc
  ·
   exact encs_bytes t c hc
theorem chk_zero {th first : Int} {l : List S26} (h : chk th first l = 0) : l.length ≤ 64 ∧ 0 < l.length ∧ 0 ≤ th ∧ th < 4 ∧ 0 ≤ first ∧ first ≤ 400 ∧ fit th (-1) l = true := by
 unfold chk at h
 by_cases c0 : 64 < l.length
 ·
  rw [if_pos c0] at h
  omega
 ·
  rw [if_neg c0] at h
  by_cases c : l.length = 0 ∨ th < 0 ∨ 4 ≤ th ∨ first < 0 ∨ 400 < first
  ·
   rw [if_pos c] at h
   omega
  ·
   rw [if_neg c] at h
   cases hf : fit th (-1) l with
   | true => exact ⟨by omega, by omega, by omega, by omega, by omega, by omega, rfl⟩
   | false => rw [hf] at h; exact absurd h (by decide)
theorem packS_bytes {p : List Int} (hp : ∀ c ∈ p, 0 ≤ c ∧ c < 256) : ∀ c ∈ packS p, 0 ≤ c ∧ c < 256 := ch_bytes hp (packS_ch p)
theorem bodyS_bytes (th first : Int) (l : List S26) : ∀ c ∈ bodyS th first l, 0 ≤ c ∧ c < 256 := by
 intro c hc
 unfold bodyS headS at hc
 rcases List.mem_append.1 hc with hc | hc
 ·
  rcases List.mem_append.1 hc with hc | hc
  ·
   simp only [List.mem_cons, List.not_mem_nil, or_false] at hc
   omega
  ·
   exact encs_bytes _ c hc
 ·
  exact packS_bytes (payS_bytes l (-1)) c hc
theorem headS_len {th first n : Int} {p : List Int} (h1 : I64 first) (h2 : I64 n) (h3 : p.length ≤ 1000000) : (headS th first n p).length ≤ 42 := by
 have h4 := packS_length p
 have := encs_len [first, n, (p.length : Int), ((packS p).length : Int)] (fun a ha => by
  simp only [List.mem_cons, List.not_mem_nil, or_false] at ha
  rcases ha with rfl | rfl | rfl | rfl
  ·
   exact h1
  ·
   exact h2
  ·
   unfold I64; omega
  ·
   unfold I64; omega)
 unfold headS
 rw [List.length_append]
 simp only [List.length_cons, List.length_nil] at this ⊢
 omega
theorem bodyS_len {th first : Int} {l : List S26} (hr : ∀ r ∈ l, RecOk r) (h : chk th first l = 0) : (bodyS th first l).length ≤ 1100000 := by
 obtain ⟨h1, _, h2, h3, h4, h5, h6⟩ := chk_zero h
 have h7 := payS_len h6 hr
 have h8 := packS_length (payS (-1) l)
 have h9 := headS_len (th := th) (first := first) (n := (l.length : Int)) (p := payS (-1) l) (by unfold I64; omega) (by unfold I64; omega) (by omega)
 unfold bodyS
 rw [List.length_append]
 omega
theorem seal_f (b : List Int) (hm : b.length ≤ 1100000) (hb : ∀ c ∈ b, 0 ≤ c ∧ c < 256) : Ev (fun k => block_seal.f k b) (((sumS b : Nat) : Int) / 16777216 % 256, ((sumS b : Nat) : Int) / 65536 % 256, ((sumS b : Nat) : Int) / 256 % 256, ((sumS b : Nat) : Int) % 256) :=
 Ev.bind (sum_f b (by omega) hb) (Ev.now _)
theorem heads_loop {pkd vals : List Int} {R : List Int × Int} (hv : ∀ a ∈ vals, I64 a) (hl : vals.length ≤ 1000) : ∀ (d i : Nat) (x : List Int), i + d = vals.length → x.length + 10 * d ≤ 1000000 →
  Ev (fun k => if (x ++ encs (vals.drop i)).length + pkd.length < 140737488355328 then ((some (x ++ encs (vals.drop i) ++ pkd : List Int)).bind fun y => ((block_seal.f k y).bind fun bt => (if y.length + [bt.1, bt.2.1, bt.2.2.1, bt.2.2.2].length < 140737488355328 then (some ((y ++ [bt.1, bt.2.1, bt.2.2.1, bt.2.2.2]), 0)) else (none)))) else (none)) R →
  Ev (fun k => block_Encode.l1 k pkd x vals (vals.length : Int) (i : Int)) R := by
 intro d
 induction d with
 | zero =>
  intro i x hi _ h
  rw [List.drop_of_length_le (by omega), encs, List.append_nil] at h
  refine Ev.step (fun k => ?_) h
  simp only [block_Encode.l1]
  rw [if_neg (by omega)]
 | succ d ih =>
  intro i x hi hx h
  have hlt : i < vals.length := by omega
  have hw : wrap64 ((i : Int) + 1) = ((i + 1 : Nat) : Int) := by rw [wrap64_id (by omega) (by omega)]; omega
  have hq := hv vals[i] (List.getElem_mem hlt)
  have h10 := enc_le hq
  rw [List.drop_eq_getElem_cons hlt, encs, ← List.append_assoc] at h
  refine Ev.step (f := fun k => (event_PutInt.f k x vals[i]).bind fun t => block_Encode.l1 k pkd t vals (vals.length : Int) ((i + 1 : Nat) : Int)) (fun k => ?_) ?_
  ·
   simp only [block_Encode.l1]
   rw [if_pos (by omega), if_pos (by omega), if_pos (by omega), rd_at hlt, hw]
  ·
   exact Ev.bind (putInt_f hq.1 hq.2 x (by omega)) (ih (i + 1) (x ++ enc vals[i]) (by omega) (by rw [List.length_append]; omega) h)
theorem encode_loop (th first : Int) (l : List S26) (hl : l.length ≤ 64) (hr : ∀ r ∈ l, RecOk r) {R : List Int × Int} : ∀ (d i : Nat) (x : List Int) (q : Int), i + d = l.length → fit th q (l.drop i) = true → x.length + 8070 * d ≤ 1000000 →
  Ev (fun k => (pack_Pack.f k (x ++ payS q (l.drop i))).bind fun t => ((some (([first, (l.length : Int), ((x ++ payS q (l.drop i)).length : Int), (t.length : Int)] : List Int) : List Int)).bind fun y => (block_Encode.l1 k t (([84, th % 256] : List Int)) y (y.length : Int) 0))) R →
  Ev (fun k => block_Encode.l0 k x q l (l.length : Int) (i : Int) th first l) R := by
 intro d
 induction d with
 | zero =>
  intro i x q hi _ _ h
  rw [List.drop_of_length_le (by omega), payS, List.append_nil] at h
  refine Ev.step (fun k => ?_) h
  simp only [block_Encode.l0]
  rw [if_neg (by omega)]
 | succ d ih =>
  intro i x q hi hf hx h
  have hlt : i < l.length := by omega
  have hw : wrap64 ((i : Int) + 1) = ((i + 1 : Nat) : Int) := by rw [wrap64_id (by omega) (by omega)]; omega
  rw [List.drop_eq_getElem_cons hlt] at hf h
  obtain ⟨⟨_, _, h5, h6⟩, hf'⟩ := fit_cons hf
  have hk := hr l[i] (List.getElem_mem hlt)
  have hlen := recB_len q hk h5 h6
  rw [payS, ← List.append_assoc] at h
  refine Ev.step (f := fun k => (event_Append.f k [] l[i].f0 l[i].f1.f0 l[i].f1.f1 l[i].f1.f2 l[i].f1.f3 l[i].f1.f4 l[i].f1.f5 l[i].f1.f6 q).bind fun t => if x.length + t.length < 140737488355328 then block_Encode.l0 k (x ++ t) l[i].f0 l (l.length : Int) ((i + 1 : Nat) : Int) th first l else none) (fun k => ?_) ?_
  ·
   simp only [block_Encode.l0]
   rw [if_pos (by omega), if_pos (by omega), if_pos (by omega), rdT hlt, hw]
  ·
   refine Ev.bind (append_f [] l[i].f0 l[i].f1.f0 l[i].f1.f1 l[i].f1.f2 l[i].f1.f3 l[i].f1.f4 l[i].f1.f5 l[i].f1.f6 q (by simp) hk.2.1 hk.2.2.1 hk.2.2.2.1 hk.2.2.2.2 h5 h6) ?_
   show Ev (fun k => if x.length + ([] ++ recB l[i] q).length < 140737488355328 then block_Encode.l0 k (x ++ ([] ++ recB l[i] q)) l[i].f0 l (l.length : Int) ((i + 1 : Nat) : Int) th first l else none) R
   rw [List.nil_append]
   refine Ev.congr (fun k => if_pos (by omega)) (ih (i + 1) (x ++ recB l[i] q) l[i].f0 (by omega) hf' (by rw [List.length_append]; omega) h)
theorem encode_f (th first : Int) (l : List S26) (hr : ∀ r ∈ l, RecOk r) : Ev (fun k => block_Encode.f k th first l) (encS th first l) := by
 unfold encS
 refine Ev.bind (check_f th first l) ?_
 by_cases c : chk th first l = 0
 ·
  rw [if_pos c]
  simp only [if_pos c]
  obtain ⟨h1, _, h2, h3, h4, h5, h6⟩ := chk_zero c
  have h7 := payS_len h6 hr
  have h8 := packS_length (payS (-1) l)
  have hB := bodyS_len hr c
  refine encode_loop th first l h1 hr l.length 0 [] (-1) (by omega) (by rw [List.drop_zero]; exact h6) (by simp only [List.length_nil]; omega) ?_
  rw [List.drop_zero, List.nil_append]
  refine Ev.bind (pack_f _ (by omega)) (Ev.bind (Ev.now _) ?_)
  refine heads_loop (pkd := packS (payS (-1) l)) (vals := [first, (l.length : Int), ((payS (-1) l).length : Int), ((packS (payS (-1) l)).length : Int)]) (fun a ha => ?_) (by simp) 4 0 [84, th % 256] (by simp) (by simp) ?_
  ·
   simp only [List.mem_cons, List.not_mem_nil, or_false] at ha
   unfold I64
   omega
  ·
   rw [List.drop_zero]
   show Ev (fun k => if (headS th first (l.length : Int) (payS (-1) l)).length + (packS (payS (-1) l)).length < 140737488355328 then _ else none) _
   have e : bodyS th first l = headS th first (l.length : Int) (payS (-1) l) ++ packS (payS (-1) l) := rfl
   refine Ev.congr (fun k => if_pos (by rw [e, List.length_append] at hB; omega)) ?_
   refine Ev.bind (Ev.now (bodyS th first l)) ?_
   refine Ev.bind (seal_f _ hB (bodyS_bytes th first l)) ?_
   refine Ev.congr (f := fun _ => some (bodyS th first l ++ sumB (bodyS th first l), 0)) (fun k => ?_) (Ev.now _)
   rw [if_pos (by simp only [List.length_cons, List.length_nil]; omega)]
   rfl
 ·
  rw [if_neg c]
  simp only [if_neg c]
  exact Ev.now _
end Go.Proofs.Ytnmmkgagbfniiaa.Pl
end
section
namespace Go.Proofs.Ytnmmkgagbfniiaa.A
open Go.RowKit Go.Proofs.YtnmmkgagbfniiaaW.PrintWords Go.Proofs.YtnmmkgagbfniiaaW.PrintLast Go.Proofs.YtnmmkgagbfniiaaW.PrintMore
attribute [local go_sem] max2_int min2_int max_two min_two max_three min_three max_four min_four
set_option linter.unusedVariables false
set_option linter.unusedSimpArgs false
end Go.Proofs.Ytnmmkgagbfniiaa.A
end
section
namespace Go.Proofs.Ytnmmkgagbfniiaa.Pl
open Go.RowKit Go.Proofs.YtnmmkgagbfniiaaW.PrintWords Go.Proofs.YtnmmkgagbfniiaaW.PrintMore Go.Proofs.Ytnmmkgagbfniiaa.A
set_option linter.unusedVariables false
structure Inv (N n m : Nat) (b : List (List S26)) (z : List Int) (s : List (List Int)) : Prop where
 lb : b.length = N
 lz : z.length = N
 ls : s.length = N
 hb : ∀ x ∈ b, x.length ≤ n ∧ ∀ r ∈ x, RecOk r
 hs : ∀ x ∈ s, x.length ≤ 1100004 * m
theorem Inv.up {N n m m' : Nat} {b : List (List S26)} {z : List Int} {s : List (List Int)} (I : Inv N n m b z s) (h : m ≤ m') : Inv N n m' b z s := ⟨I.lb, I.lz, I.ls, I.hb, fun x hx => Nat.le_trans (I.hs x hx) (Nat.mul_le_mul_left _ h)⟩
theorem files_err {l : List S24} {a1 cap stop : Int} {fl : List S57} {cuts : List Int} {e : Int} (hl : l.length ≤ 140737488355328) (hc : cuts.length ≤ 140737488355328) (hf : fl.length ≤ 140737488355328) (h : chS l a1 cap fl stop cuts = e) (h0 : e ≠ 0) : Ev (fun k => record_Files.f k l a1 cap fl stop cuts) ([], e) := by
 have := rec_check a1 l cap stop cuts fl hl hc hf
 rw [h] at this
 exact Ev.bind this (Ev.congr (fun k => if_neg h0) (Ev.now _))
def awE : S24 := (⟨0, 2, 0, 0, 0, ([] : List Int), ([] : List Int)⟩ : S24)
def awB : List S26 := [] ++ [(⟨0, awE⟩ : S26)]
theorem awB_ok : ∀ r ∈ awB, RecOk r := by
 intro r hr
 rw [List.mem_singleton.1 hr]
 unfold RecOk I64 awE
 decide
theorem aw_check : chS [awE] 1 1 [] 1 [] = 0 := by decide +kernel
theorem aw_len : 10 < (encS 0 0 awB).1.length ∧ (encS 0 0 awB).1.length < 1000 := by decide +kernel
theorem aw_files : Ev (fun k => record_Files.f k [awE] 1 1 [] 1 []) ([[] ++ (encS 0 0 awB).1], 0) := by
 have hr := rec_check 1 [awE] 1 1 [] [] (by decide) (by decide) (by decide)
 rw [aw_check] at hr
 have hl := aw_len
 have hw : Ev (fun k => wrF block_Encode.f k 0 [awB] [0] [[]]) (([[]], [wrap64 (0 + 1)], [[] ++ (encS 0 0 awB).1]) : List (List S26) × List Int × List (List Int)) := by
  have hc : ([] : List Int).length + (encS 0 0 awB).1.length < 140737488355328 := by rw [List.length_nil]; omega
  exact Ev.congr (fun k => if_neg (by decide)) (Ev.bind (encode_f 0 0 awB awB_ok) (Ev.congr (fun k => if_pos hc) (Ev.now _)))
 have ha : Ev (fun k => adF block_Encode.f k awE 0 1 [[]] [0] [[]]) (([[]], [wrap64 (0 + 1)], [[] ++ (encS 0 0 awB).1]) : List (List S26) × List Int × List (List Int)) :=
  Ev.congr (fun k => (if_pos (by decide)).trans (if_pos (by decide))) hw
 refine Ev.bind hr (Ev.congr (fun k => (if_pos rfl).trans (if_pos (by decide))) ?_)
 refine Ev.bind (Ev.now (([[]], [0], [[]]) : List (List S26) × List Int × List (List Int))) ?_
 refine Ev.bind (a := (([[]], [wrap64 (0 + 1)], [[] ++ (encS 0 0 awB).1]) : List (List S26) × List Int × List (List Int))) (Ev.congr (f := fun k => (adF block_Encode.f k awE 0 1 [[]] [0] [[]]).bind fun q => some q) (fun k => ?_) (Ev.bind ha (Ev.now _))) (Ev.now _)
 rfl
theorem record_awake : Ev (fun k => l14_awake.f k) true := by
 have hl := aw_len
 have hd : decide (((rd_L5 [[] ++ (encS 0 0 awB).1] 0).length : Int) > 10) = true := decide_eq_true (by rw [show rd_L5 [[] ++ (encS 0 0 awB).1] 0 = [] ++ (encS 0 0 awB).1 from rfl, List.nil_append]; omega)
 refine Ev.bind aw_files (Ev.congr (fun k => (if_pos rfl).trans ((if_pos rfl).trans (if_pos (by show (0 : Int) < 1; decide)))) ?_)
 show Ev (fun _ => some (decide (((rd_L5 [[] ++ (encS 0 0 awB).1] 0).length : Int) > 10))) true
 rw [hd]
 exact Ev.now _
theorem rep401 : List.replicate 401 z24 = z24 :: List.replicate 400 z24 := List.replicate_succ
theorem len401 : (List.replicate 401 z24).length = 401 := List.length_replicate
theorem err1 (l : List S24) (hl : l.length ≤ 500) : Ev (fun k => record_Files.f k l 0 1 [] 0 []) ([], 1) := files_err (by omega) (by decide) (by decide) (by unfold chS; exact if_pos (.inl (by decide))) (by decide)
theorem err2 (l : List S24) (h : l.length = 401) : Ev (fun k => record_Files.f k l 1 1 [] 0 []) ([], 2) := files_err (by omega) (by decide) (by decide) (by unfold chS; rw [if_neg (by decide)]; unfold chF; rw [if_neg (by decide)]; unfold chC; rw [if_neg (by decide)]; unfold chL; exact if_pos (by omega)) (by decide)
theorem err3 (e : S24) (h : e.f0 = 9) : Ev (fun k => record_Files.f k [e] 1 1 [] 0 []) ([], 1) := files_err (by show 1 ≤ _; decide) (by decide) (by decide) (by
 unfold chS; rw [if_neg (by decide)]; unfold chF; rw [if_neg (by decide)]; unfold chC; rw [if_neg (by decide)]; unfold chL; rw [if_neg (by show ¬ (1 : Int) > 400; decide)]; unfold chE
 exact if_pos (List.any_eq_true.2 ⟨e, List.mem_singleton.2 rfl, by unfold badE; rw [h]; rfl⟩)) (by decide)
theorem err4 : Ev (fun k => record_Files.f k [] 1 65 [] 0 []) ([], 1) := files_err (by decide) (by decide) (by decide) (by decide +kernel) (by decide)
theorem err5 : Ev (fun k => record_Files.f k [] 1 1 [⟨-1, 0⟩] 0 []) ([], 1) := files_err (by decide) (by decide) (by decide) (by decide +kernel) (by decide)
theorem err6 : Ev (fun k => record_Files.f k [] 1 1 [] 0 [0, 0]) ([], 1) := files_err (by decide) (by decide) (by decide) (by decide +kernel) (by decide)
theorem errs (l : List S24) (hl : l.length = 401) (e : S24) (he : e.f0 = 9) (ht : (l.set (0 : Int).toNat e).take 1 = [e]) : Ev (fun k => (record_Files.f k (l.set (0 : Int).toNat e) 0 1 ([] : List (S57)) 0 ([] : List Int)).bind fun bt503 => ((record_Files.f k (l.set (0 : Int).toNat e) 1 1 ([] : List (S57)) 0 ([] : List Int)).bind fun bt507 => (if 1 ≤ (l.length : Int) then ((record_Files.f k ((l.set (0 : Int).toNat e).take 1) 1 1 ([] : List (S57)) 0 ([] : List Int)).bind fun bt515 => ((record_Files.f k ([] : List (S24)) 1 65 ([] : List (S57)) 0 ([] : List Int)).bind fun bt519 => ((record_Files.f k ([] : List (S24)) 1 1 (([(⟨(-1), 0⟩ : S57)] : List (S57))) 0 ([] : List Int)).bind fun bt526 => ((record_Files.f k ([] : List (S24)) 1 1 ([] : List (S57)) 0 (([0, 0] : List Int))).bind fun bt533 => (if bt503.2 = 1 then (if bt507.2 = 2 then (if bt515.2 = 1 then (if bt519.2 = 1 then (if bt526.2 = 1 then (if bt533.2 = 1 then ((l14_awake.f k).bind fun t537 => (some t537)) else (some false)) else (some false)) else (some false)) else (some false)) else (some false)) else (some false)))))) else (none)))) true := by
 refine Ev.bind (err1 _ (by rw [List.length_set]; omega)) (Ev.bind (err2 _ (by rw [List.length_set]; exact hl)) (Ev.congr (fun k => if_pos (by omega)) ?_))
 rw [ht]
 refine Ev.bind (err3 e he) (Ev.bind err4 (Ev.bind err5 (Ev.bind err6 ?_)))
 exact Ev.congr (fun k => (if_pos rfl).trans ((if_pos rfl).trans ((if_pos rfl).trans ((if_pos rfl).trans ((if_pos rfl).trans (if_pos rfl)))))) (Ev.bind record_awake (Ev.now _))
end Go.Proofs.Ytnmmkgagbfniiaa.Pl
namespace Go.Proofs.Ytnmmkgagbfniiaa.Pure
open Go.RowKit Go.Proofs.YtnmmkgagbfniiaaW.PrintWords Go.Proofs.YtnmmkgagbfniiaaW.PrintMore Go.Proofs.Ytnmmkgagbfniiaa.A Go.Proofs.Ytnmmkgagbfniiaa.Pl
set_option linter.unusedVariables false
theorem RecordErrors : l14_RecordErrors.Pure := by
 have hl := len401
 refine Ev.rounds (Ev.congr (fun k => if_pos (by decide)) (Ev.bind (Ev.now _) (Ev.congr (fun k => if_pos (by rw [hl]; decide)) (Ev.bind (Ev.now _) (errs _ hl _ ?_ ?_)))))
 ·
  rfl
 ·
  rw [rep401]
  rfl
end Go.Proofs.Ytnmmkgagbfniiaa.Pure
end
