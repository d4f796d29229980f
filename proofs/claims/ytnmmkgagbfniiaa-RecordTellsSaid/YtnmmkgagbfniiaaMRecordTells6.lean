/- MRecordTells6: texts of this session and of the kit's printer on the road to the statement RecordTells, laid into one and rid of what it doesn't need. No condition beyond what each fact names. -/
import Derived.Test.YtnmmkgagbfniiaaMRecordTells4
import Derived.Test.YtnmmkgagbfniiaaMRecordTells5
import Derived.Test.YtnmmkgagbfniiaaMRecordTells3
section
namespace Go.Proofs.Ytnmmkgagbfniiaa.Pl
open Go.RowKit Go.Proofs.YtnmmkgagbfniiaaW.PrintWords Go.Proofs.YtnmmkgagbfniiaaW.PrintMore Go.Proofs.Ytnmmkgagbfniiaa.A
set_option linter.unusedVariables false
def badE (a1 : Int) (e : S24) : Bool := decide (e.f0 < 0) || decide (e.f0 ≥ a1) || decide ((e.f5.length : Int) > 400) || decide ((e.f6.length : Int) > 400)
def badF (a1 : Int) (f : S57) : Bool := decide (f.f0 < 0) || decide (f.f1 < 0) || decide (f.f1 ≥ a1)
def chE (a1 : Int) (l : List S24) : Int := if l.any (badE a1) then 1 else 0
def chL (a1 : Int) (l : List S24) : Int := if (l.length : Int) > 400 then 2 else chE a1 l
def chC (a1 : Int) (l : List S24) (cs : List Int) : Int := if cs.any (fun c => decide (c < 0)) then 1 else chL a1 l
def chF (a1 : Int) (l : List S24) (cs : List Int) (fs : List S57) : Int := if fs.any (badF a1) then 1 else chC a1 l cs
def chS (l : List S24) (a1 cap : Int) (fs : List S57) (stop : Int) (cs : List Int) : Int := if a1 < 1 ∨ a1 > 4 ∨ cap < 1 ∨ cap > 64 ∨ stop < 0 ∨ (cs.length : Int) > a1 then 1 else chF a1 l cs fs
theorem at24 {l : List S24} {i : Nat} (h : i < l.length) : rd_T24 l (i : Int) = l[i] := by simp [rd_T24, List.getD_eq_getElem?_getD, List.getElem?_eq_getElem h]
theorem at57 {l : List S57} {i : Nat} (h : i < l.length) : rd_T57 l (i : Int) = l[i] := by simp [rd_T57, List.getD_eq_getElem?_getD, List.getElem?_eq_getElem h]
theorem any_step {α : Type} (p : α → Bool) {l : List α} {i : Nat} (h : i < l.length) : (l.drop i).any p = (p l[i] || (l.drop (i + 1)).any p) := by rw [List.drop_eq_getElem_cons h, List.any_cons]
theorem any_end {α : Type} (p : α → Bool) {l : List α} {i : Nat} (h : l.length ≤ i) : (l.drop i).any p = false := by rw [List.drop_of_length_le h]; rfl
section
variable (a1 : Int) (l : List S24) (hl : l.length ≤ 140737488355328)
theorem rec_l2 (hl : l.length ≤ 140737488355328) : ∀ (d i : Nat), i + d = l.length → Ev (fun k => record_check.l2 k a1 l (l.length : Int) (i : Int)) (if (l.drop i).any (badE a1) then 1 else 0) := by
 intro d
 induction d with
 | zero =>
  intro i hi
  rw [any_end _ (by omega)]
  refine Ev.step (f := fun _ => some _) (fun k => ?_) (Ev.now _)
  simp only [record_check.l2]
  rw [if_neg (by omega)]
  rfl
 | succ d ih =>
  intro i hi
  have hw : wrap64 ((i : Int) + 1) = ((i + 1 : Nat) : Int) := by rw [wrap64_id (by omega) (by omega)]; omega
  have hlt : i < l.length := by omega
  have h0 : ∀ k, record_check.l2 (k + 1) a1 l (l.length : Int) (i : Int) = (if (l[i].f0) < 0 then (some 1) else (if (l[i].f0) ≥ a1 then (some 1) else (if ((l[i].f5).length : Int) > 400 then (some 1) else (if ((l[i].f6).length : Int) > 400 then (some 1) else (record_check.l2 k a1 l (l.length : Int) ((i + 1 : Nat) : Int)))))) := fun k => by
   simp only [record_check.l2]
   rw [if_pos (by omega), if_pos (by omega), if_pos (by omega), at24 hlt, hw]
  rw [any_step _ hlt]
  obtain ⟨e, he⟩ : ∃ e, l[i] = e := ⟨_, rfl⟩
  rw [he] at h0 ⊢
  refine Ev.step h0 ?_
  unfold badE
  by_cases x1 : e.f0 < 0
  ·
   rw [decide_eq_true x1]; exact Ev.congr (fun k => if_pos x1) (Ev.now _)
  rw [decide_eq_false x1]
  refine Ev.congr (fun k => if_neg x1) ?_
  by_cases x2 : e.f0 ≥ a1
  ·
   rw [decide_eq_true x2]; exact Ev.congr (fun k => if_pos x2) (Ev.now _)
  rw [decide_eq_false x2]
  refine Ev.congr (fun k => if_neg x2) ?_
  by_cases x3 : (e.f5.length : Int) > 400
  ·
   rw [decide_eq_true x3]; exact Ev.congr (fun k => if_pos x3) (Ev.now _)
  rw [decide_eq_false x3]
  refine Ev.congr (fun k => if_neg x3) ?_
  by_cases x4 : (e.f6.length : Int) > 400
  ·
   rw [decide_eq_true x4]; exact Ev.congr (fun k => if_pos x4) (Ev.now _)
  rw [decide_eq_false x4]
  exact Ev.congr (fun k => if_neg x4) (ih (i + 1) (by omega))
theorem rec_l1 (cs : List Int) (hl : l.length ≤ 140737488355328) (hc : cs.length ≤ 140737488355328) : ∀ (d i : Nat), i + d = cs.length → Ev (fun k => record_check.l1 k l a1 cs (cs.length : Int) (i : Int)) (if (cs.drop i).any (fun c => decide (c < 0)) then 1 else chL a1 l) := by
 intro d
 induction d with
 | zero =>
  intro i hi
  rw [any_end _ (by omega)]
  have h0 : ∀ k, record_check.l1 (k + 1) l a1 cs (cs.length : Int) (i : Int) = (if (l.length : Int) > 400 then (some 2) else (record_check.l2 k a1 l (l.length : Int) 0)) := fun k => by
   simp only [record_check.l1]
   rw [if_neg (by omega)]
  refine Ev.step h0 ?_
  show Ev _ (chL a1 l)
  unfold chL
  by_cases x : (l.length : Int) > 400
  ·
   rw [if_pos x]; exact Ev.congr (fun k => if_pos x) (Ev.now _)
  rw [if_neg x]
  have := rec_l2 a1 l hl l.length 0 (by omega)
  rw [List.drop_zero] at this
  exact Ev.congr (fun k => if_neg x) this
 | succ d ih =>
  intro i hi
  have hw : wrap64 ((i : Int) + 1) = ((i + 1 : Nat) : Int) := by rw [wrap64_id (by omega) (by omega)]; omega
  have hlt : i < cs.length := by omega
  have h0 : ∀ k, record_check.l1 (k + 1) l a1 cs (cs.length : Int) (i : Int) = (if cs[i] < 0 then (some 1) else (record_check.l1 k l a1 cs (cs.length : Int) ((i + 1 : Nat) : Int))) := fun k => by
   simp only [record_check.l1]
   rw [if_pos (by omega), if_pos (by omega), if_pos (by omega), rd_at hlt, hw]
  rw [any_step _ hlt]
  obtain ⟨e, he⟩ : ∃ e, cs[i] = e := ⟨_, rfl⟩
  rw [he] at h0 ⊢
  refine Ev.step h0 ?_
  by_cases x1 : e < 0
  ·
   rw [decide_eq_true x1]; exact Ev.congr (fun k => if_pos x1) (Ev.now _)
  rw [decide_eq_false x1]
  exact Ev.congr (fun k => if_neg x1) (ih (i + 1) (by omega))
theorem rec_l0 (cs : List Int) (fs : List S57) (hl : l.length ≤ 140737488355328) (hc : cs.length ≤ 140737488355328) (hf : fs.length ≤ 140737488355328) (b c : Int) : ∀ (d i : Nat), i + d = fs.length → Ev (fun k => record_check.l0 k l a1 fs (fs.length : Int) (i : Int) b fs c cs) (if (fs.drop i).any (badF a1) then 1 else chC a1 l cs) := by
 intro d
 induction d with
 | zero =>
  intro i hi
  rw [any_end _ (by omega)]
  have h0 : ∀ k, record_check.l0 (k + 1) l a1 fs (fs.length : Int) (i : Int) b fs c cs = record_check.l1 k l a1 cs (cs.length : Int) 0 := fun k => by
   simp only [record_check.l0]
   rw [if_neg (by omega)]
  have := rec_l1 a1 l cs hl hc cs.length 0 (by omega)
  rw [List.drop_zero] at this
  exact Ev.step h0 this
 | succ d ih =>
  intro i hi
  have hw : wrap64 ((i : Int) + 1) = ((i + 1 : Nat) : Int) := by rw [wrap64_id (by omega) (by omega)]; omega
  have hlt : i < fs.length := by omega
  have h0 : ∀ k, record_check.l0 (k + 1) l a1 fs (fs.length : Int) (i : Int) b fs c cs = (if fs[i].f0 < 0 then (some 1) else (if fs[i].f1 < 0 then (some 1) else (if fs[i].f1 ≥ a1 then (some 1) else (record_check.l0 k l a1 fs (fs.length : Int) ((i + 1 : Nat) : Int) b fs c cs)))) := fun k => by
   simp only [record_check.l0]
   rw [if_pos (by omega), if_pos (by omega), if_pos (by omega), at57 hlt, hw]
  rw [any_step _ hlt]
  obtain ⟨e, he⟩ : ∃ e, fs[i] = e := ⟨_, rfl⟩
  rw [he] at h0 ⊢
  refine Ev.step h0 ?_
  unfold badF
  by_cases x1 : e.f0 < 0
  ·
   rw [decide_eq_true x1]; exact Ev.congr (fun k => if_pos x1) (Ev.now _)
  rw [decide_eq_false x1]
  refine Ev.congr (fun k => if_neg x1) ?_
  by_cases x2 : e.f1 < 0
  ·
   rw [decide_eq_true x2]; exact Ev.congr (fun k => if_pos x2) (Ev.now _)
  rw [decide_eq_false x2]
  refine Ev.congr (fun k => if_neg x2) ?_
  by_cases x3 : e.f1 ≥ a1
  ·
   rw [decide_eq_true x3]; exact Ev.congr (fun k => if_pos x3) (Ev.now _)
  rw [decide_eq_false x3]
  exact Ev.congr (fun k => if_neg x3) (ih (i + 1) (by omega))
theorem rec_check (cap stop : Int) (cs : List Int) (fs : List S57) (hl : l.length ≤ 140737488355328) (hc : cs.length ≤ 140737488355328) (hf : fs.length ≤ 140737488355328) : Ev (fun k => record_check.f k l a1 cap fs stop cs) (chS l a1 cap fs stop cs) := by
 have ht : Ev (fun k => record_check.j0 k l a1 true cap fs stop cs) 1 := Ev.step (f := fun _ => some _) (fun k => by simp only [record_check.j0]; rw [if_pos trivial]) (Ev.now _)
 have hn : Ev (fun k => record_check.j0 k l a1 false cap fs stop cs) (chF a1 l cs fs) := by
  have := rec_l0 a1 l cs fs hl hc hf cap stop fs.length 0 (by omega)
  rw [List.drop_zero] at this
  exact Ev.step (fun k => by simp only [record_check.j0]; rw [if_neg (by decide)]; rfl) this
 unfold record_check.f chS
 by_cases x1 : a1 < 1
 ·
  rw [if_pos (.inl x1)]; exact Ev.congr (fun k => if_pos x1) ht
 refine Ev.congr (fun k => if_neg x1) ?_
 by_cases x2 : a1 > 4
 ·
  rw [if_pos (.inr (.inl x2))]; exact Ev.congr (fun k => if_pos x2) ht
 refine Ev.congr (fun k => if_neg x2) ?_
 by_cases x3 : cap < 1
 ·
  rw [if_pos (.inr (.inr (.inl x3)))]; exact Ev.congr (fun k => if_pos x3) ht
 refine Ev.congr (fun k => if_neg x3) ?_
 by_cases x4 : cap > 64
 ·
  rw [if_pos (.inr (.inr (.inr (.inl x4))))]; exact Ev.congr (fun k => if_pos x4) ht
 refine Ev.congr (fun k => if_neg x4) ?_
 by_cases x5 : stop < 0
 ·
  rw [if_pos (.inr (.inr (.inr (.inr (.inl x5)))))]; exact Ev.congr (fun k => if_pos x5) ht
 refine Ev.congr (fun k => if_neg x5) ?_
 by_cases x6 : (cs.length : Int) > a1
 ·
  rw [if_pos (.inr (.inr (.inr (.inr (.inr x6))))), decide_eq_true x6]; exact ht
 rw [if_neg (by simp only [not_or]; exact ⟨x1, x2, x3, x4, x5, x6⟩), decide_eq_false x6]
 exact hn
theorem ref_l2 (hl : l.length ≤ 140737488355328) : ∀ (d i : Nat), i + d = l.length → Ev (fun k => j14_plan.l2 k l a1 (i : Int)) (if (l.drop i).any (badE a1) then 1 else 0) := by
 intro d
 induction d with
 | zero =>
  intro i hi
  rw [any_end _ (by omega)]
  refine Ev.step (f := fun _ => some _) (fun k => ?_) (Ev.now _)
  simp only [j14_plan.l2]
  rw [if_neg (by omega)]
  rfl
 | succ d ih =>
  intro i hi
  have hw : wrap64 ((i : Int) + 1) = ((i + 1 : Nat) : Int) := by rw [wrap64_id (by omega) (by omega)]; omega
  have hlt : i < l.length := by omega
  have h0 : ∀ k, j14_plan.l2 (k + 1) l a1 (i : Int) = (if (l[i].f0) < 0 then (some 1) else (if (l[i].f0) ≥ a1 then (some 1) else (if ((l[i].f5).length : Int) > 400 then (some 1) else (if ((l[i].f6).length : Int) > 400 then (some 1) else (j14_plan.l2 k l a1 ((i + 1 : Nat) : Int)))))) := fun k => by
   simp only [j14_plan.l2]
   rw [if_pos (by omega), if_pos (by omega), at24 hlt, hw]
  rw [any_step _ hlt]
  obtain ⟨e, he⟩ : ∃ e, l[i] = e := ⟨_, rfl⟩
  rw [he] at h0 ⊢
  refine Ev.step h0 ?_
  unfold badE
  by_cases x1 : e.f0 < 0
  ·
   rw [decide_eq_true x1]; exact Ev.congr (fun k => if_pos x1) (Ev.now _)
  rw [decide_eq_false x1]
  refine Ev.congr (fun k => if_neg x1) ?_
  by_cases x2 : e.f0 ≥ a1
  ·
   rw [decide_eq_true x2]; exact Ev.congr (fun k => if_pos x2) (Ev.now _)
  rw [decide_eq_false x2]
  refine Ev.congr (fun k => if_neg x2) ?_
  by_cases x3 : (e.f5.length : Int) > 400
  ·
   rw [decide_eq_true x3]; exact Ev.congr (fun k => if_pos x3) (Ev.now _)
  rw [decide_eq_false x3]
  refine Ev.congr (fun k => if_neg x3) ?_
  by_cases x4 : (e.f6.length : Int) > 400
  ·
   rw [decide_eq_true x4]; exact Ev.congr (fun k => if_pos x4) (Ev.now _)
  rw [decide_eq_false x4]
  exact Ev.congr (fun k => if_neg x4) (ih (i + 1) (by omega))
theorem ref_l1 (cs : List Int) (fs : List S57) (b c : Int) (hl : l.length ≤ 140737488355328) (hc : cs.length ≤ 140737488355328) : ∀ (d i : Nat), i + d = cs.length → Ev (fun k => j14_plan.l1 k l a1 (i : Int) b fs c cs) (if (cs.drop i).any (fun c => decide (c < 0)) then 1 else chL a1 l) := by
 intro d
 induction d with
 | zero =>
  intro i hi
  rw [any_end _ (by omega)]
  have h0 : ∀ k, j14_plan.l1 (k + 1) l a1 (i : Int) b fs c cs = (if (l.length : Int) > 400 then (some 2) else (j14_plan.l2 k l a1 0)) := fun k => by
   simp only [j14_plan.l1]
   rw [if_neg (by omega)]
  refine Ev.step h0 ?_
  show Ev _ (chL a1 l)
  unfold chL
  by_cases x : (l.length : Int) > 400
  ·
   rw [if_pos x]; exact Ev.congr (fun k => if_pos x) (Ev.now _)
  rw [if_neg x]
  have := ref_l2 a1 l hl l.length 0 (by omega)
  rw [List.drop_zero] at this
  exact Ev.congr (fun k => if_neg x) this
 | succ d ih =>
  intro i hi
  have hw : wrap64 ((i : Int) + 1) = ((i + 1 : Nat) : Int) := by rw [wrap64_id (by omega) (by omega)]; omega
  have hlt : i < cs.length := by omega
  have h0 : ∀ k, j14_plan.l1 (k + 1) l a1 (i : Int) b fs c cs = (if cs[i] < 0 then (some 1) else (j14_plan.l1 k l a1 ((i + 1 : Nat) : Int) b fs c cs)) := fun k => by
   simp only [j14_plan.l1]
   rw [if_pos (by omega), if_pos (by omega), rd_at hlt, hw]
  rw [any_step _ hlt]
  obtain ⟨e, he⟩ : ∃ e, cs[i] = e := ⟨_, rfl⟩
  rw [he] at h0 ⊢
  refine Ev.step h0 ?_
  by_cases x1 : e < 0
  ·
   rw [decide_eq_true x1]; exact Ev.congr (fun k => if_pos x1) (Ev.now _)
  rw [decide_eq_false x1]
  exact Ev.congr (fun k => if_neg x1) (ih (i + 1) (by omega))
theorem ref_l0 (cs : List Int) (fs : List S57) (hl : l.length ≤ 140737488355328) (hc : cs.length ≤ 140737488355328) (hf : fs.length ≤ 140737488355328) (b c : Int) : ∀ (d i : Nat), i + d = fs.length → Ev (fun k => j14_plan.l0 k l a1 (i : Int) b fs c cs) (if (fs.drop i).any (badF a1) then 1 else chC a1 l cs) := by
 intro d
 induction d with
 | zero =>
  intro i hi
  rw [any_end _ (by omega)]
  have h0 : ∀ k, j14_plan.l0 (k + 1) l a1 (i : Int) b fs c cs = j14_plan.l1 k l a1 0 b fs c cs := fun k => by
   simp only [j14_plan.l0]
   rw [if_neg (by omega)]
  have := ref_l1 a1 l cs fs b c hl hc cs.length 0 (by omega)
  rw [List.drop_zero] at this
  exact Ev.step h0 this
 | succ d ih =>
  intro i hi
  have hw : wrap64 ((i : Int) + 1) = ((i + 1 : Nat) : Int) := by rw [wrap64_id (by omega) (by omega)]; omega
  have hlt : i < fs.length := by omega
  have h0 : ∀ k, j14_plan.l0 (k + 1) l a1 (i : Int) b fs c cs = (if fs[i].f0 < 0 then (some 1) else (if fs[i].f1 < 0 then (some 1) else (if fs[i].f1 ≥ a1 then (some 1) else (j14_plan.l0 k l a1 ((i + 1 : Nat) : Int) b fs c cs)))) := fun k => by
   simp only [j14_plan.l0]
   rw [if_pos (by omega), if_pos (by omega), at57 hlt, hw]
  rw [any_step _ hlt]
  obtain ⟨e, he⟩ : ∃ e, fs[i] = e := ⟨_, rfl⟩
  rw [he] at h0 ⊢
  refine Ev.step h0 ?_
  unfold badF
  by_cases x1 : e.f0 < 0
  ·
   rw [decide_eq_true x1]; exact Ev.congr (fun k => if_pos x1) (Ev.now _)
  rw [decide_eq_false x1]
  refine Ev.congr (fun k => if_neg x1) ?_
  by_cases x2 : e.f1 < 0
  ·
   rw [decide_eq_true x2]; exact Ev.congr (fun k => if_pos x2) (Ev.now _)
  rw [decide_eq_false x2]
  refine Ev.congr (fun k => if_neg x2) ?_
  by_cases x3 : e.f1 ≥ a1
  ·
   rw [decide_eq_true x3]; exact Ev.congr (fun k => if_pos x3) (Ev.now _)
  rw [decide_eq_false x3]
  exact Ev.congr (fun k => if_neg x3) (ih (i + 1) (by omega))
theorem ref_plan (cap stop : Int) (cs : List Int) (fs : List S57) (hl : l.length ≤ 140737488355328) (hc : cs.length ≤ 140737488355328) (hf : fs.length ≤ 140737488355328) : Ev (fun k => j14_plan.f k l a1 cap fs stop cs) (chS l a1 cap fs stop cs) := by
 have ht : Ev (fun k => j14_plan.j0 k l a1 true cap fs stop cs) 1 := Ev.step (f := fun _ => some _) (fun k => by simp only [j14_plan.j0]; rw [if_pos trivial]) (Ev.now _)
 have hn : Ev (fun k => j14_plan.j0 k l a1 false cap fs stop cs) (chF a1 l cs fs) := by
  have := ref_l0 a1 l cs fs hl hc hf cap stop fs.length 0 (by omega)
  rw [List.drop_zero] at this
  exact Ev.step (fun k => by simp only [j14_plan.j0]; rw [if_neg (by decide)]; rfl) this
 unfold j14_plan.f chS
 by_cases x1 : a1 < 1
 ·
  rw [if_pos (.inl x1)]; exact Ev.congr (fun k => if_pos x1) ht
 refine Ev.congr (fun k => if_neg x1) ?_
 by_cases x2 : a1 > 4
 ·
  rw [if_pos (.inr (.inl x2))]; exact Ev.congr (fun k => if_pos x2) ht
 refine Ev.congr (fun k => if_neg x2) ?_
 by_cases x3 : cap < 1
 ·
  rw [if_pos (.inr (.inr (.inl x3)))]; exact Ev.congr (fun k => if_pos x3) ht
 refine Ev.congr (fun k => if_neg x3) ?_
 by_cases x4 : cap > 64
 ·
  rw [if_pos (.inr (.inr (.inr (.inl x4))))]; exact Ev.congr (fun k => if_pos x4) ht
 refine Ev.congr (fun k => if_neg x4) ?_
 by_cases x5 : stop < 0
 ·
  rw [if_pos (.inr (.inr (.inr (.inr (.inl x5)))))]; exact Ev.congr (fun k => if_pos x5) ht
 refine Ev.congr (fun k => if_neg x5) ?_
 by_cases x6 : (cs.length : Int) > a1
 ·
  rw [if_pos (.inr (.inr (.inr (.inr (.inr x6))))), decide_eq_true x6]; exact ht
 rw [if_neg (by simp only [not_or]; exact ⟨x1, x2, x3, x4, x5, x6⟩), decide_eq_false x6]
 exact hn
end
end Go.Proofs.Ytnmmkgagbfniiaa.Pl
end
section
namespace Go.Proofs.Ytnmmkgagbfniiaa.A
open Go.RowKit Go.Proofs.YtnmmkgagbfniiaaW.PrintWords Go.Proofs.YtnmmkgagbfniiaaW.PrintLast Go.Proofs.YtnmmkgagbfniiaaW.PrintMore
attribute [local go_sem] max2_int min2_int max_two min_two max_three min_three max_four min_four
set_option linter.unusedVariables false
set_option linter.unusedSimpArgs false
mutual
def pack_longest.l0 : Nat → List Int → Int → Int → Int → Int → Option (Int × Int)
 | 0, _, _, _, _, _ => none
 | k + 1, x0, x1, x6, x7, x8 => if x8 ≤ (mn x1 255) then (pack_longest.l1 k x0 x1 x6 x7 x8 0) else (some (x6, x7))
def pack_longest.l1 : Nat → List Int → Int → Int → Int → Int → Int → Option (Int × Int)
 | 0, _, _, _, _, _, _ => none
 | k + 1, x0, x1, x6, x7, x8, x9 => if x9 < 130 then (if (wrap64 (x1 + x9)) < (x0.length : Int) then (if 0 ≤ (wrap64 (x1 + x9)) then (if 0 ≤ (wrap64 ((wrap64 (x1 + x9)) - x8)) then (if (wrap64 ((wrap64 (x1 + x9)) - x8)) < (x0.length : Int) then (if (rd x0 (wrap64 (x1 + x9))) = (rd x0 (wrap64 ((wrap64 (x1 + x9)) - x8))) then (pack_longest.l1 k x0 x1 x6 x7 x8 (wrap64 (x9 + 1))) else (if x9 > x6 then (pack_longest.l0 k x0 x1 x9 x8 (wrap64 (x8 + 1))) else (pack_longest.l0 k x0 x1 x6 x7 (wrap64 (x8 + 1))))) else (none)) else (none)) else (none)) else (if x9 > x6 then (pack_longest.l0 k x0 x1 x9 x8 (wrap64 (x8 + 1))) else (pack_longest.l0 k x0 x1 x6 x7 (wrap64 (x8 + 1))))) else (if x9 > x6 then (pack_longest.l0 k x0 x1 x9 x8 (wrap64 (x8 + 1))) else (pack_longest.l0 k x0 x1 x6 x7 (wrap64 (x8 + 1))))
end
def pack_longest.f (k : Nat) (l0 : List Int) (a1 : Int) : Option (Int × Int) := pack_longest.l0 k l0 a1 0 0 1
theorem pack_longest.mono_l : ∀ k, (∀ y0 y1 y2 y3 y4, LeO (pack_longest.l0 k y0 y1 y2 y3 y4) (pack_longest.l0 (k + 1) y0 y1 y2 y3 y4)) ∧ (∀ y0 y1 y2 y3 y4 y5, LeO (pack_longest.l1 k y0 y1 y2 y3 y4 y5) (pack_longest.l1 (k + 1) y0 y1 y2 y3 y4 y5))
 | 0 => ⟨fun _ _ _ _ _ r h => by simp [pack_longest.l0] at h, fun _ _ _ _ _ _ r h => by simp [pack_longest.l1] at h⟩
 | k + 1 => by
  obtain ⟨ih0, ih1⟩ := pack_longest.mono_l k
  refine ⟨?_, ?_⟩
  ·
   intro y0 y1 y2 y3 y4
   unfold pack_longest.l0
   exact zM
  ·
   intro y0 y1 y2 y3 y4 y5
   unfold pack_longest.l1
   exact zM
theorem pack_longest.mono : ∀ a0 a1 k, LeO (pack_longest.f k a0 a1) (pack_longest.f (k + 1) a0 a1) := by
 intro a0 a1 k
 obtain ⟨ih0, ih1⟩ := pack_longest.mono_l k
 unfold pack_longest.f
 exact zM
set_option maxHeartbeats 8000000 in
set_option maxRecDepth 100000 in
theorem pack_longest.calls (k : Nat) (A0 : Option Addr) (c0 : Nat) (l0 : List Int) (a1 : Int) (r1 : Int) (r2 : Int) (w : World) (hr0 : Kd.C (Kd.int .u8) w A0 l0.length l0) (hc0 : l0.length ≤ c0) (h : pack_longest.f k l0 a1 = some (r1, r2)) :
  Calls Try.prog 78 #[.slice A0 l0.length c0, .int .i64 a1] w fun e w' => e = .returned (.tuple #[.int .i64 r1, .int .i64 r2]) ∧ Below w.heap.size w w' := by
 have HR0 := am hr0
 have HC0 := am hc0
 clear hr0 hc0
 have HB := am (Below.refl w.heap.size w)
 have H : (pack_longest.l0 k l0 a1 0 0 1) = some (r1, r2) := h
 clear h
 have H' := am H
 clear H
 go_enter Try.func78, Try.ntmps78
 go_wp2
 repeat (go_quiet (fail); try go_wp2)
 go_loopg [6, 7, 8] k (fun kq v6 v7 v8 w' => ∃ (x6_1 : Int) (x7_1 : Int) (x8_1 : Int), v6 = .int .i64 x6_1 ∧ v7 = .int .i64 x7_1 ∧ v8 = .int .i64 x8_1 ∧ Aside0 (pack_longest.l0 kq l0 a1 x6_1 x7_1 x8_1 = some (r1, r2)) ∧ Aside0 (kq ≤ k) ∧ Aside0 (Below w.heap.size w w'))
 case atStart => exact ⟨(0), (0), (1), zr, zr, zr, H', ⟨Nat.le_refl _⟩, ⟨zb HB⟩⟩
 case round =>
  clear H'
  try clear p2
  obtain ⟨x6_1, x7_1, x8_1, rfl, rfl, rfl, HA, HK1, HB⟩ := hrel
  cases gk with
  | zero => exact absurd HA.out (by simp [pack_longest.l0])
  | succ k1 =>
   have H := HA.out
   clear HA
   simp only [pack_longest.l0] at H
   obtain ⟨ji3, hji3⟩ : ∃ j_ : Int, (mn a1 255) = j_ := ⟨_, rfl⟩
   (first | rw [hji3] at H | simp only [hji3] at H)
   have hji3_ : (if 255 < a1 then 255 else a1) = ji3 := hji3
   by_cases c4 : x8_1 ≤ (ji3)
   ·
    rw [if_pos c4] at H
    have c4b0 := decide_eq_true c4
    clear c4
    have H' := am H
    clear H
    go_wp2
    repeat (go_quiet (fail); try go_wp2)
    go_loopg [9] k1 (fun kq v9 w' => ∃ (x9_2 : Int), v9 = .int .i64 x9_2 ∧ Aside0 (pack_longest.l1 kq l0 a1 x6_1 x7_1 x8_1 x9_2 = some (r1, r2)) ∧ Aside0 (kq ≤ k1) ∧ Aside0 (Below w.heap.size w w'))
    case atStart => exact ⟨(0), zr, H', ⟨Nat.le_refl _⟩, ⟨zb HB⟩⟩
    case round =>
     clear H'
     obtain ⟨x9_2, rfl, HA, HK2, HB⟩ := hrel
     cases gk with
     | zero => exact absurd HA.out (by simp [pack_longest.l1])
     | succ k2 =>
      have H := HA.out
      clear HA
      simp only [pack_longest.l1] at H
      by_cases c5 : x9_2 < 130
      ·
       rw [if_pos c5] at H
       have c5b0 := decide_eq_true c5
       clear c5
       by_cases c6 : (wrap64 (a1 + x9_2)) < (l0.length : Int)
       ·
        rw [if_pos c6] at H
        have c6b0 := decide_eq_true c6
        clear c6
        obtain ⟨ji7, hji7⟩ : ∃ j_ : Int, (wrap64 (a1 + x9_2)) = j_ := ⟨_, rfl⟩
        (first | rw [hji7] at H | simp only [hji7] at H)
        (try rw [hji7] at c6b0)
        have hji7w : (IntKind.i64.wrap (a1 + x9_2)) = ji7 := (i64_w _).trans hji7
        by_cases c8 : 0 ≤ (ji7)
        ·
         rw [if_pos c8] at H
         have c8b0 := decide_eq_true c8
         clear c8
         obtain ⟨ji9, hji9⟩ : ∃ j_ : Int, (wrap64 ((ji7) - x8_1)) = j_ := ⟨_, rfl⟩
         (first | rw [hji9] at H | simp only [hji9] at H)
         have hji9w : (IntKind.i64.wrap ((ji7) - x8_1)) = ji9 := (i64_w _).trans hji9
         by_cases c10 : 0 ≤ (ji9)
         ·
          rw [if_pos c10] at H
          have c10b0 := decide_eq_true c10
          clear c10
          by_cases c11 : (ji9) < (l0.length : Int)
          ·
           rw [if_pos c11] at H
           have c11b0 := decide_eq_true c11
           clear c11
           by_cases c12 : (rd l0 (ji7)) = (rd l0 (ji9))
           ·
            rw [if_pos c12] at H
            obtain ⟨c12b0, c12b1⟩ := zt c12
            clear c12
            have H' := am H
            clear H
            have p305 : 0 ≤ ((ji7) : Int) := zo
            have q305 : (ji7) < (l0.length : Int) := zo
            obtain ⟨ad305, e305, hx305_0⟩ := Kd.at_int HR0.out (ji7) p305 q305
            cases e305
            replace hx305_0 := zx HB hx305_0
            replace p305 := eq_true p305
            replace q305 := eq_true q305
            have p306 : 0 ≤ ((ji9) : Int) := zo
            have q306 : (ji9) < (l0.length : Int) := zo
            obtain ⟨ad306, e306, hx306_0⟩ := Kd.at_int HR0.out (ji9) p306 q306
            obtain rfl : ad305 = ad306 := (by injection e306)
            replace hx306_0 := zx HB hx306_0
            replace p306 := eq_true p306
            replace q306 := eq_true q306
            go_wp2
            repeat (go_quiet (fail); try go_wp2)
            go_roundg k2
            case measure => have := HK1.out; have := HK2.out; omega
            case rel => exact ⟨(wrap64 (x9_2 + 1)), zr, H', ⟨by have := HK1.out; have := HK2.out; omega⟩, ⟨zb HB⟩⟩
           ·
            rw [if_neg c12] at H
            obtain ⟨c12b0, c12b1⟩ := zs c12
            by_cases c13 : x9_2 > x6_1
            ·
             rw [if_pos c13] at H
             have c13b0 : decide (x6_1 < x9_2) = true := decide_eq_true c13
             clear c13
             have H' := am H
             clear H
             have p305 : 0 ≤ ((ji7) : Int) := zo
             have q305 : (ji7) < (l0.length : Int) := zo
             obtain ⟨ad305, e305, hx305_0⟩ := Kd.at_int HR0.out (ji7) p305 q305
             cases e305
             replace hx305_0 := zx HB hx305_0
             replace p305 := eq_true p305
             replace q305 := eq_true q305
             have p306 : 0 ≤ ((ji9) : Int) := zo
             have q306 : (ji9) < (l0.length : Int) := zo
             obtain ⟨ad306, e306, hx306_0⟩ := Kd.at_int HR0.out (ji9) p306 q306
             obtain rfl : ad305 = ad306 := (by injection e306)
             replace hx306_0 := zx HB hx306_0
             replace p306 := eq_true p306
             replace q306 := eq_true q306
             go_wp2
             repeat (go_quiet (fail); try go_wp2)
             go_roundg k2
             case measure => have := HK1.out; have := HK2.out; omega
             case rel => exact y28
            ·
             rw [if_neg c13] at H
             have c13b0 : decide (x6_1 < x9_2) = false := decide_eq_false c13
             clear c13
             have H' := am H
             clear H
             have p305 : 0 ≤ ((ji7) : Int) := zo
             have q305 : (ji7) < (l0.length : Int) := zo
             obtain ⟨ad305, e305, hx305_0⟩ := Kd.at_int HR0.out (ji7) p305 q305
             cases e305
             replace hx305_0 := zx HB hx305_0
             replace p305 := eq_true p305
             replace q305 := eq_true q305
             have p306 : 0 ≤ ((ji9) : Int) := zo
             have q306 : (ji9) < (l0.length : Int) := zo
             obtain ⟨ad306, e306, hx306_0⟩ := Kd.at_int HR0.out (ji9) p306 q306
             obtain rfl : ad305 = ad306 := (by injection e306)
             replace hx306_0 := zx HB hx306_0
             replace p306 := eq_true p306
             replace q306 := eq_true q306
             go_wp2
             repeat (go_quiet (fail); try go_wp2)
             go_roundg k2
             case measure => have := HK1.out; have := HK2.out; omega
             case rel => exact y29
          ·
           rw [if_neg c11] at H
           exact absurd H (by simp)
         ·
          rw [if_neg c10] at H
          exact absurd H (by simp)
        ·
         rw [if_neg c8] at H
         exact absurd H (by simp)
       ·
        rw [if_neg c6] at H
        have c6b0 := decide_eq_false c6
        clear c6
        by_cases c14 : x9_2 > x6_1
        ·
         rw [if_pos c14] at H
         have c14b0 : decide (x6_1 < x9_2) = true := decide_eq_true c14
         clear c14
         have H' := am H
         clear H
         go_wp2
         repeat (go_quiet (fail); try go_wp2)
         go_roundg k2
         case measure => have := HK1.out; have := HK2.out; omega
         case rel => exact y28
        ·
         rw [if_neg c14] at H
         have c14b0 : decide (x6_1 < x9_2) = false := decide_eq_false c14
         clear c14
         have H' := am H
         clear H
         go_wp2
         repeat (go_quiet (fail); try go_wp2)
         go_roundg k2
         case measure => have := HK1.out; have := HK2.out; omega
         case rel => exact y29
      ·
       rw [if_neg c5] at H
       have c5b0 := decide_eq_false c5
       clear c5
       by_cases c15 : x9_2 > x6_1
       ·
        rw [if_pos c15] at H
        have c15b0 : decide (x6_1 < x9_2) = true := decide_eq_true c15
        clear c15
        have H' := am H
        clear H
        go_wp2
        repeat (go_quiet (fail); try go_wp2)
        go_roundg k2
        case measure => have := HK1.out; have := HK2.out; omega
        case rel => exact y28
       ·
        rw [if_neg c15] at H
        have c15b0 : decide (x6_1 < x9_2) = false := decide_eq_false c15
        clear c15
        have H' := am H
        clear H
        go_wp2
        repeat (go_quiet (fail); try go_wp2)
        go_roundg k2
        case measure => have := HK1.out; have := HK2.out; omega
        case rel => exact y29
   ·
    rw [if_neg c4] at H
    have c4b0 := decide_eq_false c4
    clear c4
    simp only [Option.some.injEq, Prod.mk.injEq] at H
    obtain ⟨rfl, rfl⟩ := H
    go_wp2
    repeat (go_quiet (fail); try go_wp2)
    go_ret2
    exact ⟨by first | rfl | (simp [errW_none, errW_some] <;> rfl) | (simp only [← hji3]; first | rfl | (simp [errW_none, errW_some] <;> rfl)) | (simp [*, errW_none, errW_some] <;> rfl), zb HB⟩
def pack_Pack.flush (l0 out : List Int) (beg fin : Int) : Option (List Int) :=
 if beg < fin then (if out.length + (fin - beg).toNat + 1 < 140737488355328 then some ((out ++ [(fin - beg - 1) % 256]) ++ ((l0.take fin.toNat).drop beg.toNat)) else none) else some out
structure pack_Pack.St (w0 w : World) (g : Nat) (v : Value) (A0 : Option Addr) (c0 : Nat) (l0 out : List Int) (beg : Int) : Prop where
 b : w.heap[g]? = some (.cells #[.slice A0 l0.length c0] 27 (0, 0))
 o : w.heap[g + 1]? = some (.cells #[v] 27 (0, 0))
 r : Kd.R (Kd.int .u8) 5 w w0.heap.size (fun k_ => g + 3 ≤ k_) v out
 n : w.heap[g + 2]? = some (.cells #[.int .i64 beg] 3 (0, 0))
 B : Below w0.heap.size w0 w
 g0 : w0.heap.size ≤ g
section
variable {w0 w w1 : World} {g : Nat} {v v1 : Value} {A0 : Option Addr} {c0 : Nat} {l0 out out1 : List Int} {beg : Int}
theorem pack_Pack.St.drewN (S : pack_Pack.St w0 w g v A0 c0 l0 out beg) (m : Nat) : pack_Pack.St w0 (w.drewN m) g v A0 c0 l0 out beg := ⟨S.b, S.o, Kd.R_drewN S.r m, S.n, pw_below_drewN S.B m, S.g0⟩
theorem pack_Pack.St.drew (S : pack_Pack.St w0 w g v A0 c0 l0 out beg) : pack_Pack.St w0 w.drew g v A0 c0 l0 out beg := ⟨S.b, S.o, Kd.R_drew S.r, S.n, S.B.drew, S.g0⟩
theorem pack_Pack.St.below (S : pack_Pack.St w0 w g v A0 c0 l0 out beg) (h : Below w.heap.size w w1) : pack_Pack.St w0 w1 g v A0 c0 l0 out beg := by
 have lb := lt_of_block S.b
 have lo := lt_of_block S.o
 have ln := lt_of_block S.n
 exact ⟨(h.block _ lb).trans S.b, (h.block _ lo).trans S.o, Kd.R_below S.r h, (h.block _ ln).trans S.n, below_then S.B S.B.size h, S.g0⟩
theorem pack_Pack.St.grown (S : pack_Pack.St w0 w g v A0 c0 l0 out beg) (hg : w.grownBy w1 v.ownBlock) (hb : Below w0.heap.size w0 w1) (hr : Kd.R (Kd.int .u8) 5 w1 w0.heap.size (fun k_ => g + 3 ≤ k_) v1 out1) : pack_Pack.St w0 (w1.setCell ⟨g + 1, 0, none⟩ v1) g v1 A0 c0 l0 out1 beg := by
 have lb := lt_of_block S.b
 have lo := lt_of_block S.o
 have ln := lt_of_block S.n
 have hne : ∀ k, k < g + 3 → some k ≠ v.ownBlock := fun k hk he => by have := S.r.1 k he.symm; omega
 refine ⟨?_, ?_, ?_, ?_, ?_, S.g0⟩
 ·
  rw [Below.heap_setCell _ _ _ _ (by show g ≠ g + 1; omega)]; exact (hg.block _ lb (hne _ (by omega))).trans S.b
 ·
  exact one_setCell ((hg.block _ lo (hne _ (by omega))).trans S.o)
 ·
  exact Kd.R_far hr (fun k hk => by show k ≠ g + 1; omega) _
 ·
  rw [Below.heap_setCell _ _ _ _ (by show g + 2 ≠ g + 1; omega)]; exact (hg.block _ ln (hne _ (by omega))).trans S.n
 ·
  exact below_set hb (by have := S.g0; omega)
theorem pack_Pack.St.grown_o (S : pack_Pack.St w0 w g v A0 c0 l0 out beg) (hg : w.grownBy w1 v.ownBlock) : w1.cell? ⟨g + 1, 0, none⟩ = some v ∧ w1.frozen? ⟨g + 1, 0, none⟩ = false := by
 have lo := lt_of_block S.o
 have hb := (hg.block _ lo (fun he => by have := S.r.1 _ he.symm; omega)).trans S.o
 exact ⟨cell_of_one hb, free_of_one hb⟩
theorem pack_Pack.St.setBeg (S : pack_Pack.St w0 w g v A0 c0 l0 out beg) (z : Int) : pack_Pack.St w0 (w.setCell ⟨g + 2, 0, none⟩ (.int .i64 z)) g v A0 c0 l0 out z :=
 ⟨by rw [Below.heap_setCell _ _ _ _ (by show g ≠ g + 2; omega)]; exact S.b, by rw [Below.heap_setCell _ _ _ _ (by show g + 1 ≠ g + 2; omega)]; exact S.o, Kd.R_far S.r (fun k hk => by show k ≠ g + 2; omega) _, one_setCell S.n, below_set S.B (by have := S.g0; omega), S.g0⟩
end
set_option maxHeartbeats 4000000 in
set_option maxRecDepth 100000 in
theorem pack_Pack.flush_calls (w0 w : World) (g : Nat) (v : Value) (A0 : Option Addr) (c0 : Nat) (l0 out r : List Int) (beg fin : Int) (S : pack_Pack.St w0 w g v A0 c0 l0 out beg) (hb0 : 0 ≤ beg) (hf : fin ≤ l0.length) (hr0 : Kd.C (Kd.int .u8) w0 A0 l0.length l0) (hc0 : l0.length ≤ c0) (h : pack_Pack.flush l0 out beg fin = some r) :
  Calls Try.prog 77 #[.int .i64 fin, .pointer (some ⟨g + 2, 0, none⟩), .pointer (some ⟨g + 1, 0, none⟩), .pointer (some ⟨g, 0, none⟩)] w fun e w' => e = .returned (.tuple #[]) ∧ ∃ v', pack_Pack.St w0 w' g v' A0 c0 l0 r fin := by
 have HS := am S
 have HR0 := am hr0
 have HC0 := am hc0
 have q1 := cell_of_one S.b
 have q2 := cell_of_one S.o
 have q3 := cell_of_one S.n
 have f2 := free_of_one S.o
 have f3 := free_of_one S.n
 clear S hr0 hc0
 unfold pack_Pack.flush at h
 obtain ⟨Ao, co, eo⟩ := Kd.R_slice HS.out.r
 subst eo
 by_cases c : beg < fin
 ·
  rw [if_pos c] at h
  by_cases c1 : out.length + (fin - beg).toNat + 1 < 140737488355328
  ·
   rw [if_pos c1] at h
   obtain rfl := Option.some.inj h
   obtain ⟨y, hy⟩ : ∃ y : List Int, y = out ++ [(fin - beg - 1) % 256] := ⟨_, rfl⟩
   have HYL := am (show y.length = out.length + 1 by rw [hy]; simp)
   have HYE := am hy
   obtain ⟨i0, hi0, _, hsz, _⟩ := info_parts info5
   obtain ⟨A1, hcut, hA, hC⟩ := print_mid_of (P := Try.prog) (Value.int .u8) 0 27 5 .i64 .i64 Try.underlying27 hi0 hsz A0 c0 l0 beg fin hb0 (by omega) hf HC0.out
   have HR1 : Aside0 (Kd.C (Kd.int .u8) w0 A1 ((l0.take fin.toNat).drop beg.toNat).length ((l0.take fin.toNat).drop beg.toNat)) := am (Kd.C_of_reads (h1 := fun _ => rfl) (hA _ (Kd.reads_of_C HR0.out)))
   obtain ⟨zs, hz⟩ : ∃ zs : List Int, zs = (l0.take fin.toNat).drop beg.toNat := ⟨_, rfl⟩
   have HZL := am (show zs.length = (fin - beg).toNat by rw [hz, List.length_drop, List.length_take]; omega)
   rw [← hz] at hcut HR1
   rw [← hy, ← hz]
   obtain ⟨yz, hyz⟩ : ∃ yz : List Int, yz = y ++ zs := ⟨_, rfl⟩
   have HYZ := am hyz
   rw [← hyz]
   clear hyz
   clear hA hC hy hz
   go_enter Try.func77, Try.ntmps77
   go_wp2_with (first | ((with_reducible refine gate_builtin (b := .append) (xs := #[.tmp 8, .tmp 14]) rfl ?_); at_builtin; refine Kd.R_append (Kd.int .u8) (w0 := w0) w0.heap.size rfl (.tmp 8) (.tmp 14) 27 5 (.int .u8 0) 1 rfl Try.underlying27 info5 rfl (by decide) (by omega) (.slice Ao out.length co) out ((fin - beg - 1) % 256) [.int .u8 ((fin - beg - 1) % 256)] (fun k_ => g + 3 ≤ k_) (fun _ => False) rfl rfl ?aP (fun _ hk => hk.elim) ?aF ?aO ?aB ?aS ?aL ?_; (case aP => exact rfl); (case aB => exact HS.out.B); (case aF => exact (fun k_ hk => by have := lt_of_block HS.out.n; omega)); (case aO => exact HS.out.r); (case aS => exact HS.out.B.size); (case aL => omega); intro v1 w1 ho hb hg hat; rw [← HYE.out] at ho; have HX := am (HS.out.grown hg hb ho); obtain ⟨z1, z2⟩ := HS.out.grown_o hg; clear ho hb hg hat; obtain ⟨A2, c2, e2⟩ := Kd.R_slice HX.out.r; subst e2; have q4 := cell_of_one HX.out.b; have q5 := cell_of_one HX.out.o; have q6 := cell_of_one HX.out.n))
   refine start_ (n := 7) (S := fun w' => w'.cell? ⟨g, 0, none⟩ = some (.slice A0 l0.length c0) ∧ w'.cell? ⟨g + 1, 0, none⟩ = some (.slice A2 y.length c2) ∧ w'.cell? ⟨g + 2, 0, none⟩ = some (.int .i64 beg)) (ds := [5, 6]) #[false, false, false, false, false, false, false] (by kernel_rfl) rfl rfl ⟨q4, q5, q6⟩ (fun hHeld => ?_)
   have HX2 := am HX.out.drew
   generalize (w1.setCell ⟨g + 1, 0, none⟩ (.slice A2 y.length c2)).drew = w3 at HX2 hHeld ⊢
   have HR2 := am (Kd.C_below HR1.out HX2.out.B)
   refine pure_ (i := 3) (N := some 19) (v := ?_) (a' := ?_) #[false, false, false, true, false, false, false] rfl rfl (by kernel_rfl) (fun _ _ _ h => h) (Or.inl ⟨by rfl, ?_⟩) ?_ ?_
   rotate_left
   ·
    intro w'
    go_simp
    with_reducible rfl
   rotate_left
   ·
    simp only [Act.put, List.setIfInBounds_toArray, List.set_cons_zero, List.set_cons_succ, i64_w, i32_w]
    rfl
   refine take_ (i := 0) (N := some 16) (v := ?_) (a' := ?_) #[true, false, false, true, false, false, false] rfl rfl (by kernel_rfl) (fun _ _ _ h => h) (Or.inl ⟨by rfl, ?_⟩) hHeld ?_ ?_
   rotate_left
   ·
    rintro w' ⟨s0, s1, s2⟩
    go_simp
    with_reducible rfl
   rotate_left
   ·
    simp only [Act.put, List.setIfInBounds_toArray, List.set_cons_zero, List.set_cons_succ, i64_w, i32_w]
    rfl
   refine take_ (i := 1) (N := some 17) (v := ?_) (a' := ?_) #[true, true, false, true, false, false, false] rfl rfl (by kernel_rfl) (fun _ _ _ h => h) (Or.inl ⟨by rfl, ?_⟩) hHeld ?_ ?_
   rotate_left
   ·
    rintro w' ⟨s0, s1, s2⟩
    go_simp
    with_reducible rfl
   rotate_left
   ·
    simp only [Act.put, List.setIfInBounds_toArray, List.set_cons_zero, List.set_cons_succ, i64_w, i32_w]
    rfl
   refine take_ (i := 2) (N := some 18) (v := ?_) (a' := ?_) #[true, true, true, true, false, false, false] rfl rfl (by kernel_rfl) (fun _ _ _ h => h) (Or.inl ⟨by rfl, ?_⟩) hHeld ?_ ?_
   rotate_left
   ·
    rintro w' ⟨s0, s1, s2⟩
    go_simp
    with_reducible rfl
   rotate_left
   ·
    simp only [Act.put, List.setIfInBounds_toArray, List.set_cons_zero, List.set_cons_succ, i64_w, i32_w]
    rfl
   refine pure_ (i := 4) (N := some 20) (v := ?_) (a' := ?_) #[true, true, true, true, true, false, false] rfl rfl (by kernel_rfl) (fun _ _ _ h => h) (Or.inl ⟨by rfl, ?_⟩) ?_ ?_
   rotate_left
   ·
    intro w'
    go_simp
    with_reducible rfl
   rotate_left
   ·
    simp only [Act.put, List.setIfInBounds_toArray, List.set_cons_zero, List.set_cons_succ, i64_w, i32_w]
    rfl
   refine last_ (i := 5) (N := some 21) #[true, true, true, true, true, true, false] rfl rfl (by kernel_rfl) (by decide) (fun K hK => ?_)
   refine Kd.R_append_rows_step (Kd.int .u8) (w0 := w0) w0.heap.size (by rfl) (.tmp 16) (.tmp 20) 27 5 (.int .u8 0) 1 rfl Try.underlying27 info5 rfl (by decide) (by omega) _ y zs _ _ _ (fun k_ => g + 3 ≤ k_) (fun _ => False) rfl rfl ?bO ?bR (fun _ _ h => h) (fun _ h => h.elim) ?bF ?bB ?bS ?bL ?_
   case bR => exact HR2.out
   case bB => exact HX2.out.B
   case bF => exact (fun k_ hk => by have := lt_of_block HX2.out.n; omega)
   case bO => exact HX2.out.r
   case bS => exact HX2.out.B.size
   case bL => have := HYL.out; have := HZL.out; omega
   intro v2 w2 ho hb hg hat
   rw [← HYZ.out] at ho
   have HY := am (HX2.out.grown hg hb ho)
   obtain ⟨y1, y2⟩ := HX2.out.grown_o hg
   clear ho hb hg hat
   obtain ⟨A3, c3, e3⟩ := Kd.R_slice HY.out.r
   subst e3
   refine hK.out _ _ ?_
   clear hK K
   refine norm_ (a' := ?_) ?_ ?_
   rotate_left
   ·
    show Act.put _ (some 21) _ = _
    simp only [Act.put, List.setIfInBounds_toArray, List.set_cons_zero, List.set_cons_succ, i64_w, i32_w]
    rfl
   refine last_ (i := 6) (N := none) #[true, true, true, true, true, true, true] rfl rfl (by kernel_rfl) (by decide) (fun K hK => ?_)
   refine skip_ (w1 := ?_) (by rfl) rfl ?_ ?_
   rotate_left
   ·
    go_simp
    rfl
   refine hK.out _ _ ?_
   clear hK K
   refine done_ (by kernel_rfl) ?_
   have q7 := cell_of_one HY.out.b
   have q8 := cell_of_one HY.out.n
   have y3 := free_of_one HY.out.n
   go_wp2
   go_end0
   exact ⟨rfl, _, HY.out.setBeg fin⟩
  ·
   rw [if_neg c1] at h
   exact absurd h (by simp)
 ·
  rw [if_neg c] at h
  obtain rfl := Option.some.inj h
  go_enter Try.func77, Try.ntmps77
  go_wp2
  go_end0
  exact ⟨rfl, _, HS.out.setBeg fin⟩
def pack_Pack.go (k : Nat) (l0 : List Int) : Nat → Int → Int → List Int → Option (List Int)
 | 0, _, _, _ => none
 | n + 1, i, beg, out =>
  if i < (l0.length : Int) then
   (pack_longest.f k l0 i).bind fun p =>
    if p.1 < 3 then
     (if i + 1 - beg = 128 then (pack_Pack.flush l0 out beg (i + 1)).bind fun o => pack_Pack.go k l0 n (i + 1) (i + 1) o else pack_Pack.go k l0 n (i + 1) beg out)
    else
     (if p.1 ≤ 130 ∧ i + p.1 ≤ (l0.length : Int) then
      (pack_Pack.flush l0 out beg i).bind fun o => if o.length + 2 < 140737488355328 then pack_Pack.go k l0 n (i + p.1) (i + p.1) (o ++ [p.1 - 3 + 128, p.2 % 256]) else none
     else none)
  else pack_Pack.flush l0 out beg (l0.length : Int)
def pack_Pack.f (k : Nat) (l0 : List Int) : Option (List Int) := pack_Pack.go k l0 k 0 0 []
theorem pack_Pack.mono_go (l0 : List Int) : ∀ n k i beg out, LeO (pack_Pack.go k l0 n i beg out) (pack_Pack.go (k + 1) l0 (n + 1) i beg out) := by
 intro n
 induction n with
 | zero => intro k i beg out; exact fun r h => by simp [pack_Pack.go] at h
 | succ n ih =>
  intro k i beg out
  rw [pack_Pack.go, pack_Pack.go]
  by_cases c : i < (l0.length : Int)
  ·
   rw [if_pos c, if_pos c]
   refine LeO.bind (pack_longest.mono _ _ _) fun p => ?_
   by_cases c1 : p.1 < 3
   ·
    rw [if_pos c1, if_pos c1]
    by_cases c2 : i + 1 - beg = 128
    ·
     rw [if_pos c2, if_pos c2]
     exact LeO.bind (LeO.refl _) fun o => ih _ _ _ _
    ·
     rw [if_neg c2, if_neg c2]
     exact ih _ _ _ _
   ·
    rw [if_neg c1, if_neg c1]
    by_cases c2 : p.1 ≤ 130 ∧ i + p.1 ≤ (l0.length : Int)
    ·
     rw [if_pos c2, if_pos c2]
     refine LeO.bind (LeO.refl _) fun o => ?_
     by_cases c3 : o.length + 2 < 140737488355328
     ·
      rw [if_pos c3, if_pos c3]
      exact ih _ _ _ _
     ·
      rw [if_neg c3, if_neg c3]
      exact LeO.refl _
    ·
     rw [if_neg c2, if_neg c2]
     exact LeO.refl _
  ·
   rw [if_neg c, if_neg c]
   exact LeO.refl _
theorem pack_Pack.mono : ∀ a0 k, LeO (pack_Pack.f k a0) (pack_Pack.f (k + 1) a0) := fun a0 k => pack_Pack.mono_go a0 k k 0 0 []
set_option maxHeartbeats 4000000 in
set_option maxRecDepth 100000 in
theorem pack_Pack.calls (k : Nat) (A0 : Option Addr) (c0 : Nat) (l0 : List Int) (r : List Int) (w : World) (hr0 : Kd.C (Kd.int .u8) w A0 l0.length l0) (hc0 : l0.length ≤ c0) (h : pack_Pack.f k l0 = some r) :
  Calls Try.prog 51 #[.slice A0 l0.length c0] w fun e w' => ∃ v0_ : Value, e = .returned (v0_) ∧ Kd.R (Kd.int .u8) 5 w' w.heap.size (fun _ => True) v0_ r ∧ Below w.heap.size w w' := by
 have HR0 := am hr0
 have hc0' := hc0
 have HC0 := am hc0
 have hmax : l0.length ≤ 9223372036854775807 := hr0.2.1
 have H' := am h
 obtain ⟨W3, hW3⟩ : ∃ W3 : World, W3 = ((w.alloc (.cells #[.slice A0 l0.length c0] 27)).alloc (.cells #[.slice none 0 0] 27)).alloc (.cells #[.int .i64 0] 3) := ⟨_, rfl⟩
 have HS := am (show pack_Pack.St w W3 w.heap.size (.slice none 0 0) A0 c0 l0 [] 0 by
  subst hW3
  refine ⟨?_, ?_, Kd.R_nil _ _ _ _ _, ?_, below_alloc (below_alloc (below_alloc (Below.refl _ _) _) _) _, Nat.le_refl _⟩
  ·
   rw [heap_alloc_old _ _ (by simp; omega), heap_alloc_old _ _ (by simp), heap_alloc_new]
  ·
   rw [heap_alloc_old _ _ (by simp), show w.heap.size + 1 = (w.alloc (.cells #[.slice A0 l0.length c0] 27)).heap.size by simp, heap_alloc_new]
  ·
   rw [show w.heap.size + 2 = ((w.alloc (.cells #[.slice A0 l0.length c0] 27)).alloc (.cells #[.slice none 0 0] 27)).heap.size by simp, heap_alloc_new])
 clear hr0 hc0 h
 have hmf : ∀ (fn : Fn) (first cap : Array Value) (w : World), (Instr.makeFunc fn first cap).run Try.prog w = .ok (.func fn first cap) w := fun _ _ _ _ => rfl
 go_enter Try.func51, Try.ntmps51
 go_wp2
 rw [← hW3]
 clear hW3
 go_loopg [6] k (fun kq v6 w' => ∃ (i beg : Int) (v : Value) (out : List Int), v6 = .int .i64 i ∧ 0 ≤ beg ∧ beg ≤ i ∧ i ≤ (l0.length : Int) ∧ Aside0 (pack_Pack.go k l0 kq i beg out = some r) ∧ Aside0 (pack_Pack.St w w' w.heap.size v A0 c0 l0 out beg))
 case atStart => exact ⟨0, 0, _, [], rfl, by omega, by omega, by omega, H', HS⟩
 case round =>
  clear H' HS
  obtain ⟨i, beg, v, out, rfl, hb0, hbi, hil, HA, HS⟩ := hrel
  have q1 := cell_of_one HS.out.b
  have q3 : wr.cell? ⟨w.heap.size + 1 + 1, 0, none⟩ = some (.int .i64 beg) := cell_of_one HS.out.n
  cases gk with
  | zero => exact absurd HA.out (by simp [pack_Pack.go])
  | succ k1 =>
   have H := HA.out
   clear HA
   rw [pack_Pack.go] at H
   by_cases c : i < (l0.length : Int)
   ·
    rw [if_pos c] at H
    obtain ⟨p, hp, H⟩ := Option.bind_eq_some_iff.mp H
    obtain ⟨l, d⟩ := p
    have HP := am hp
    clear hp
    by_cases c1 : l < 3
    ·
     rw [if_pos c1] at H
     by_cases c2 : i + 1 - beg = 128
     ·
      rw [if_pos c2] at H
      obtain ⟨o, ho, H⟩ := Option.bind_eq_some_iff.mp H
      have HF := am ho
      have H' := am H
      clear ho H
      go_wp2_with (first | (go_at_call 78; refine (pack_longest.calls k A0 c0 l0 i l d _ (Kd.C_below HR0.out HS.out.B) HC0.out HP.out).mono ?_; rintro e w5 ⟨rfl, hb⟩; have HS1 := am (HS.out.below hb); clear hb; have q4 := cell_of_one HS1.out.b; have q5 := cell_of_one HS1.out.n) | (go_at_call 77; refine (pack_Pack.flush_calls w _ w.heap.size v A0 c0 l0 out o beg (i + 1) HS1.out hb0 (by omega) HR0.out HC0.out HF.out).mono ?_; rintro e w6 ⟨rfl, v', hs⟩; have HS2 := am hs; clear hs))
      go_roundg k1
      case measure => omega
      case rel => exact ⟨i + 1, i + 1, v', o, rfl, by omega, by omega, by omega, H', HS2⟩
     ·
      rw [if_neg c2] at H
      have H' := am H
      clear H
      go_wp2_with (go_at_call 78; refine (pack_longest.calls k A0 c0 l0 i l d _ (Kd.C_below HR0.out HS.out.B) HC0.out HP.out).mono ?_; rintro e w5 ⟨rfl, hb⟩; have HS1 := am (HS.out.below hb); clear hb; have q4 := cell_of_one HS1.out.b; have q5 := cell_of_one HS1.out.n)
      go_roundg k1
      case measure => omega
      case rel => exact ⟨i + 1, beg, v, out, rfl, by omega, by omega, by omega, H', HS1⟩
    ·
     rw [if_neg c1] at H
     by_cases c2 : l ≤ 130 ∧ i + l ≤ (l0.length : Int)
     ·
      rw [if_pos c2] at H
      obtain ⟨o, ho, H⟩ := Option.bind_eq_some_iff.mp H
      have HF := am ho
      clear ho
      obtain ⟨c3, c4⟩ := c2
      by_cases c5 : o.length + 2 < 140737488355328
      ·
       rw [if_pos c5] at H
       have HL := am c5
       obtain ⟨oz, hoz⟩ : ∃ oz : List Int, oz = o ++ [l - 3 + 128, d % 256] := ⟨_, rfl⟩
       rw [← hoz] at H
       have HOZ := am hoz
       clear hoz
       have H' := am H
       clear H c5
       go_wp2_with (first | (go_at_call 78; refine (pack_longest.calls k A0 c0 l0 i l d _ (Kd.C_below HR0.out HS.out.B) HC0.out HP.out).mono ?_; rintro e w5 ⟨rfl, hb⟩; have HS1 := am (HS.out.below hb); clear hb; have q4 := cell_of_one HS1.out.b; have q5 := cell_of_one HS1.out.n) | (go_at_call 77; refine (pack_Pack.flush_calls w _ w.heap.size v A0 c0 l0 out o beg i HS1.out hb0 (by omega) HR0.out HC0.out HF.out).mono ?_; rintro e w6 ⟨rfl, v', hs⟩; have HS2 := am hs; clear hs; obtain ⟨A2, c2, e2⟩ := Kd.R_slice HS2.out.r; subst e2; have q6 := cell_of_one HS2.out.b; have q7 := cell_of_one HS2.out.o; have q8 : World.cell? w6 ⟨w.heap.size + 1 + 1, 0, none⟩ = some (.int .i64 i) := cell_of_one HS2.out.n; have f7 := free_of_one HS2.out.o; have f8 : World.frozen? w6 ⟨w.heap.size + 1 + 1, 0, none⟩ = false := free_of_one HS2.out.n) | ((with_reducible refine gate_builtin (b := .append) (xs := #[.tmp 34, .tmp 41]) rfl ?_); at_builtin; refine Kd.R_append_rows (Kd.int .u8) (w0 := w) w.heap.size rfl (.tmp 34) (.tmp 41) 27 5 (.int .u8 0) 1 rfl Try.underlying27 info5 rfl (by decide) (by omega) _ o [l - 3 + 128, d % 256] (some ⟨w6.heap.size, 0, none⟩) 2 2 (fun k_ => w.heap.size + 3 ≤ k_) (fun _ => False) rfl rfl ?aO ?aR (fun _ _ h => h) (fun _ h => h.elim) ?aF ?aB ?aS ?aL ?_; (case aR => exact ow_reads_new w6 .u8 [l - 3 + 128, d % 256] 5 (0, 0) (by simp)); (case aB => exact below_alloc HS2.out.B _); (case aF => exact (fun k_ hk => by have := lt_of_block HS2.out.n; simp at hk; omega)); (case aO => exact Kd.R_alloc HS2.out.r _); (case aS => exact (below_alloc HS2.out.B _).size); (case aL => have := HL.out; omega); intro v3 w7 ho hb hg hat; rw [← HOZ.out] at ho; obtain ⟨A3, c3_, e3⟩ := Kd.R_slice ho; subst e3; have HS3 := am ((HS2.out.below (below_alloc (Below.refl _ _) _)).grown hg hb ho); obtain ⟨z1, z2⟩ := (HS2.out.below (below_alloc (Below.refl _ _) _)).grown_o hg; clear ho hb hg hat; have q9 : World.cell? _ ⟨w.heap.size + 1 + 1, 0, none⟩ = _ := cell_of_one HS3.out.n; have f9 : World.frozen? _ ⟨w.heap.size + 1 + 1, 0, none⟩ = false := free_of_one HS3.out.n))
       go_roundg k1
       case measure => omega
       case rel => exact ⟨i + l, i + l, _, _, rfl, by omega, by omega, by omega, H', ⟨HS3.out.setBeg (i + l)⟩⟩
      ·
       rw [if_neg c5] at H
       exact absurd H (by simp)
     ·
      rw [if_neg c2] at H
      exact absurd H (by simp)
   ·
    rw [if_neg c] at H
    obtain rfl : i = (l0.length : Int) := by omega
    have HF := am H
    clear H
    go_wp2_with (go_at_call 77; refine (pack_Pack.flush_calls w _ w.heap.size v A0 c0 l0 out r beg (l0.length : Int) HS.out hb0 (by omega) HR0.out HC0.out HF.out).mono ?_; rintro e w6 ⟨rfl, v', hs⟩; have HS2 := am hs; clear hs; obtain ⟨A2, c2, e2⟩ := Kd.R_slice HS2.out.r; subst e2; have q7 := cell_of_one HS2.out.o)
    go_ret
    exact ⟨_, rfl, Kd.R_mono HS2.out.r (fun _ _ => trivial), HS2.out.B⟩
mutual
def j11_Match.l0 : Nat → List Int → Int → Int → Int → Int → Option (Int × Int)
 | 0, _, _, _, _, _ => none
 | k + 1, x0, x1, x6, x7, x8 => if x8 ≤ 255 then (j11_Match.j1 k x0 x1 x6 x7 x8 (decide (x8 ≤ x1))) else (j11_Match.j1 k x0 x1 x6 x7 x8 false)
def j11_Match.j1 : Nat → List Int → Int → Int → Int → Int → Bool → Option (Int × Int)
 | 0, _, _, _, _, _, _ => none
 | k + 1, x0, x1, x6, x7, x8, x16 => if x16 = true then (j11_Match.l1 k x0 x1 x6 x7 x8 0) else (if x6 < 3 then (some (0, 0)) else (some (x6, x7)))
def j11_Match.l1 : Nat → List Int → Int → Int → Int → Int → Int → Option (Int × Int)
 | 0, _, _, _, _, _, _ => none
 | k + 1, x0, x1, x6, x7, x8, x9 => if x9 < 130 then (if (wrap64 (x1 + x9)) < (x0.length : Int) then (if 0 ≤ (wrap64 (x1 + x9)) then (if 0 ≤ (wrap64 ((wrap64 (x1 + x9)) - x8)) then (if (wrap64 ((wrap64 (x1 + x9)) - x8)) < (x0.length : Int) then (if (rd x0 (wrap64 (x1 + x9))) = (rd x0 (wrap64 ((wrap64 (x1 + x9)) - x8))) then (j11_Match.l1 k x0 x1 x6 x7 x8 (wrap64 (x9 + 1))) else (if x9 > x6 then (j11_Match.l0 k x0 x1 x9 x8 (wrap64 (x8 + 1))) else (j11_Match.l0 k x0 x1 x6 x7 (wrap64 (x8 + 1))))) else (none)) else (none)) else (none)) else (if x9 > x6 then (j11_Match.l0 k x0 x1 x9 x8 (wrap64 (x8 + 1))) else (j11_Match.l0 k x0 x1 x6 x7 (wrap64 (x8 + 1))))) else (if x9 > x6 then (j11_Match.l0 k x0 x1 x9 x8 (wrap64 (x8 + 1))) else (j11_Match.l0 k x0 x1 x6 x7 (wrap64 (x8 + 1))))
end
def j11_Match.f (k : Nat) (l0 : List Int) (a1 : Int) : Option (Int × Int) := j11_Match.l0 k l0 a1 0 0 1
theorem j11_Match.mono_l : ∀ k, (∀ y0 y1 y2 y3 y4, LeO (j11_Match.l0 k y0 y1 y2 y3 y4) (j11_Match.l0 (k + 1) y0 y1 y2 y3 y4)) ∧ (∀ y0 y1 y2 y3 y4 y5, LeO (j11_Match.j1 k y0 y1 y2 y3 y4 y5) (j11_Match.j1 (k + 1) y0 y1 y2 y3 y4 y5)) ∧ (∀ y0 y1 y2 y3 y4 y5, LeO (j11_Match.l1 k y0 y1 y2 y3 y4 y5) (j11_Match.l1 (k + 1) y0 y1 y2 y3 y4 y5))
 | 0 => ⟨fun _ _ _ _ _ r h => by simp [j11_Match.l0] at h, fun _ _ _ _ _ _ r h => by simp [j11_Match.j1] at h, fun _ _ _ _ _ _ r h => by simp [j11_Match.l1] at h⟩
 | k + 1 => by
  obtain ⟨ih0, ih1, ih2⟩ := j11_Match.mono_l k
  refine ⟨?_, ?_, ?_⟩
  ·
   intro y0 y1 y2 y3 y4
   unfold j11_Match.l0
   exact zM
  ·
   intro y0 y1 y2 y3 y4 y5
   unfold j11_Match.j1
   exact zM
  ·
   intro y0 y1 y2 y3 y4 y5
   unfold j11_Match.l1
   exact zM
theorem j11_Match.mono : ∀ a0 a1 k, LeO (j11_Match.f k a0 a1) (j11_Match.f (k + 1) a0 a1) := by
 intro a0 a1 k
 obtain ⟨ih0, ih1, ih2⟩ := j11_Match.mono_l k
 unfold j11_Match.f
 exact zM
set_option maxHeartbeats 8000000 in
set_option maxRecDepth 100000 in
theorem j11_Match.calls (k : Nat) (A0 : Option Addr) (c0 : Nat) (l0 : List Int) (a1 : Int) (r1 : Int) (r2 : Int) (w : World) (hr0 : Kd.C (Kd.int .u8) w A0 l0.length l0) (hc0 : l0.length ≤ c0) (h : j11_Match.f k l0 a1 = some (r1, r2)) :
  Calls Try.prog 79 #[.slice A0 l0.length c0, .int .i64 a1] w fun e w' => e = .returned (.tuple #[.int .i64 r1, .int .i64 r2]) ∧ Drawn0 w w' := by
 have HR0 := am hr0
 have HC0 := am hc0
 clear hr0 hc0
 have H : (j11_Match.l0 k l0 a1 0 0 1) = some (r1, r2) := h
 clear h
 have H' := am H
 clear H
 go_enter Try.func79, Try.ntmps79
 go_wp2
 repeat (go_quiet (fail); try go_wp2)
 go_loopg [6, 7, 8] k (fun kq v6 v7 v8 w' => ∃ (x6_1 : Int) (x7_1 : Int) (x8_1 : Int), v6 = .int .i64 x6_1 ∧ v7 = .int .i64 x7_1 ∧ v8 = .int .i64 x8_1 ∧ Aside0 (j11_Match.l0 kq l0 a1 x6_1 x7_1 x8_1 = some (r1, r2)) ∧ Aside0 (kq ≤ k) ∧ Drawn0 w w')
 case atStart => exact ⟨(0), (0), (1), zr, zr, zr, H', ⟨Nat.le_refl _⟩, by repeat (first | exact Drawn0.refl _ | apply Drawn0.step)⟩
 case round =>
  clear H'
  try clear p2
  obtain ⟨x6_1, x7_1, x8_1, rfl, rfl, rfl, HA, HK1, ⟨m1, rfl⟩⟩ := hrel
  cases gk with
  | zero => exact absurd HA.out (by simp [j11_Match.l0])
  | succ k1 =>
   have H := HA.out
   clear HA
   simp only [j11_Match.l0] at H
   have HC3 := am H
   clear H
   go_upto_region 3 with (fail)
   repeat (go_quiet (fail); go_upto_region 3 with (fail))
   go_cut [16] (fun v16 wc => ∃ (kq : Nat) (x16_2 : Bool), v16 = .bool x16_2 ∧ Aside0 (j11_Match.j1 kq l0 a1 x6_1 x7_1 x8_1 x16_2 = some (r1, r2)) ∧ Aside0 (kq ≤ k1) ∧ Drawn0 w wc)
   case first =>
    have H := HC3.out
    clear HC3
    by_cases c4 : x8_1 ≤ 255
    ·
     rw [if_pos c4] at H
     have c4b0 := decide_eq_true c4
     clear c4
     (first | rw [c4b0] | (simp only [i64_w, i32_w]; rw [c4b0]) | skip)
     have H' := am H
     clear H
     go_wp2
     repeat (go_quiet (fail); try go_wp2)
     go_meet
     case rel => exact ⟨_, (decide (x8_1 ≤ a1)), zr, H', ⟨by have := HK1.out; first | omega | exact Nat.le_refl _⟩, by repeat (first | exact Drawn0.refl _ | apply Drawn0.step)⟩
    ·
     rw [if_neg c4] at H
     have c4b0 := decide_eq_false c4
     clear c4
     (first | rw [c4b0] | (simp only [i64_w, i32_w]; rw [c4b0]) | skip)
     have H' := am H
     clear H
     go_wp2
     repeat (go_quiet (fail); try go_wp2)
     go_meet
     case rel => exact ⟨_, (false), zr, H', ⟨by have := HK1.out; first | omega | exact Nat.le_refl _⟩, by repeat (first | exact Drawn0.refl _ | apply Drawn0.step)⟩
   case rest =>
    clear HC3
    obtain ⟨kq, x16_2, rfl, HA, HJ2, ⟨mc2, rfl⟩⟩ := hcut
    cases kq with
    | zero => exact absurd HA.out (by simp [j11_Match.j1])
    | succ kj2 =>
     have H := HA.out
     clear HA
     simp only [j11_Match.j1] at H
     by_cases c5 : x16_2 = true
     ·
      subst c5
      have H1 : (j11_Match.l1 kj2 l0 a1 x6_1 x7_1 x8_1 0) = some (r1, r2) := by rw [if_pos rfl] at H; exact H
      clear H
      have H := H1
      clear H1
      have H' := am H
      clear H
      go_wp2
      repeat (go_quiet (fail); try go_wp2)
      go_loopg [9] kj2 (fun kq v9 w' => ∃ (x9_3 : Int), v9 = .int .i64 x9_3 ∧ Aside0 (j11_Match.l1 kq l0 a1 x6_1 x7_1 x8_1 x9_3 = some (r1, r2)) ∧ Aside0 (kq ≤ kj2) ∧ Drawn0 w w')
      case atStart => exact ⟨(0), zr, H', ⟨Nat.le_refl _⟩, by repeat (first | exact Drawn0.refl _ | apply Drawn0.step)⟩
      case round =>
       clear H'
       obtain ⟨x9_3, rfl, HA, HK3, ⟨m3, rfl⟩⟩ := hrel
       cases gk with
       | zero => exact absurd HA.out (by simp [j11_Match.l1])
       | succ k3 =>
        have H := HA.out
        clear HA
        simp only [j11_Match.l1] at H
        by_cases c6 : x9_3 < 130
        ·
         rw [if_pos c6] at H
         have c6b0 := decide_eq_true c6
         clear c6
         by_cases c7 : (wrap64 (a1 + x9_3)) < (l0.length : Int)
         ·
          rw [if_pos c7] at H
          have c7b0 := decide_eq_true c7
          clear c7
          obtain ⟨ji8, hji8⟩ : ∃ j_ : Int, (wrap64 (a1 + x9_3)) = j_ := ⟨_, rfl⟩
          (first | rw [hji8] at H | simp only [hji8] at H)
          (try rw [hji8] at c7b0)
          have hji8w : (IntKind.i64.wrap (a1 + x9_3)) = ji8 := (i64_w _).trans hji8
          by_cases c9 : 0 ≤ (ji8)
          ·
           rw [if_pos c9] at H
           have c9b0 := decide_eq_true c9
           clear c9
           obtain ⟨ji10, hji10⟩ : ∃ j_ : Int, (wrap64 ((ji8) - x8_1)) = j_ := ⟨_, rfl⟩
           (first | rw [hji10] at H | simp only [hji10] at H)
           have hji10w : (IntKind.i64.wrap ((ji8) - x8_1)) = ji10 := (i64_w _).trans hji10
           by_cases c11 : 0 ≤ (ji10)
           ·
            rw [if_pos c11] at H
            have c11b0 := decide_eq_true c11
            clear c11
            by_cases c12 : (ji10) < (l0.length : Int)
            ·
             rw [if_pos c12] at H
             have c12b0 := decide_eq_true c12
             clear c12
             by_cases c13 : (rd l0 (ji8)) = (rd l0 (ji10))
             ·
              rw [if_pos c13] at H
              obtain ⟨c13b0, c13b1⟩ := zt c13
              clear c13
              have H' := am H
              clear H
              have p354 : 0 ≤ ((ji8) : Int) := zo
              have q354 : (ji8) < (l0.length : Int) := zo
              obtain ⟨ad354, e354, hx354_0⟩ := Kd.at_int HR0.out (ji8) p354 q354
              cases e354
              replace p354 := eq_true p354
              replace q354 := eq_true q354
              have p355 : 0 ≤ ((ji10) : Int) := zo
              have q355 : (ji10) < (l0.length : Int) := zo
              obtain ⟨ad355, e355, hx355_0⟩ := Kd.at_int HR0.out (ji10) p355 q355
              obtain rfl : ad354 = ad355 := (by injection e355)
              replace p355 := eq_true p355
              replace q355 := eq_true q355
              go_wp2
              repeat (go_quiet (fail); try go_wp2)
              go_roundg k3
              case measure => have := HK1.out; have := HJ2.out; have := HK3.out; omega
              case rel => exact ⟨(wrap64 (x9_3 + 1)), zr, H', ⟨by have := HK1.out; have := HJ2.out; have := HK3.out; omega⟩, by repeat (first | exact Drawn0.refl _ | apply Drawn0.step)⟩
             ·
              rw [if_neg c13] at H
              obtain ⟨c13b0, c13b1⟩ := zs c13
              by_cases c14 : x9_3 > x6_1
              ·
               rw [if_pos c14] at H
               have c14b0 : decide (x6_1 < x9_3) = true := decide_eq_true c14
               clear c14
               have H' := am H
               clear H
               have p354 : 0 ≤ ((ji8) : Int) := zo
               have q354 : (ji8) < (l0.length : Int) := zo
               obtain ⟨ad354, e354, hx354_0⟩ := Kd.at_int HR0.out (ji8) p354 q354
               cases e354
               replace p354 := eq_true p354
               replace q354 := eq_true q354
               have p355 : 0 ≤ ((ji10) : Int) := zo
               have q355 : (ji10) < (l0.length : Int) := zo
               obtain ⟨ad355, e355, hx355_0⟩ := Kd.at_int HR0.out (ji10) p355 q355
               obtain rfl : ad354 = ad355 := (by injection e355)
               replace p355 := eq_true p355
               replace q355 := eq_true q355
               go_wp2
               repeat (go_quiet (fail); try go_wp2)
               go_roundg k3
               case measure => have := HK1.out; have := HJ2.out; have := HK3.out; omega
               case rel => exact y15
              ·
               rw [if_neg c14] at H
               have c14b0 : decide (x6_1 < x9_3) = false := decide_eq_false c14
               clear c14
               have H' := am H
               clear H
               have p354 : 0 ≤ ((ji8) : Int) := zo
               have q354 : (ji8) < (l0.length : Int) := zo
               obtain ⟨ad354, e354, hx354_0⟩ := Kd.at_int HR0.out (ji8) p354 q354
               cases e354
               replace p354 := eq_true p354
               replace q354 := eq_true q354
               have p355 : 0 ≤ ((ji10) : Int) := zo
               have q355 : (ji10) < (l0.length : Int) := zo
               obtain ⟨ad355, e355, hx355_0⟩ := Kd.at_int HR0.out (ji10) p355 q355
               obtain rfl : ad354 = ad355 := (by injection e355)
               replace p355 := eq_true p355
               replace q355 := eq_true q355
               go_wp2
               repeat (go_quiet (fail); try go_wp2)
               go_roundg k3
               case measure => have := HK1.out; have := HJ2.out; have := HK3.out; omega
               case rel => exact y16
            ·
             rw [if_neg c12] at H
             exact absurd H (by simp)
           ·
            rw [if_neg c11] at H
            exact absurd H (by simp)
          ·
           rw [if_neg c9] at H
           exact absurd H (by simp)
         ·
          rw [if_neg c7] at H
          have c7b0 := decide_eq_false c7
          clear c7
          by_cases c15 : x9_3 > x6_1
          ·
           rw [if_pos c15] at H
           have c15b0 : decide (x6_1 < x9_3) = true := decide_eq_true c15
           clear c15
           have H' := am H
           clear H
           go_wp2
           repeat (go_quiet (fail); try go_wp2)
           go_roundg k3
           case measure => have := HK1.out; have := HJ2.out; have := HK3.out; omega
           case rel => exact y15
          ·
           rw [if_neg c15] at H
           have c15b0 : decide (x6_1 < x9_3) = false := decide_eq_false c15
           clear c15
           have H' := am H
           clear H
           go_wp2
           repeat (go_quiet (fail); try go_wp2)
           go_roundg k3
           case measure => have := HK1.out; have := HJ2.out; have := HK3.out; omega
           case rel => exact y16
        ·
         rw [if_neg c6] at H
         have c6b0 := decide_eq_false c6
         clear c6
         by_cases c16 : x9_3 > x6_1
         ·
          rw [if_pos c16] at H
          have c16b0 : decide (x6_1 < x9_3) = true := decide_eq_true c16
          clear c16
          have H' := am H
          clear H
          go_wp2
          repeat (go_quiet (fail); try go_wp2)
          go_roundg k3
          case measure => have := HK1.out; have := HJ2.out; have := HK3.out; omega
          case rel => exact y15
         ·
          rw [if_neg c16] at H
          have c16b0 : decide (x6_1 < x9_3) = false := decide_eq_false c16
          clear c16
          have H' := am H
          clear H
          go_wp2
          repeat (go_quiet (fail); try go_wp2)
          go_roundg k3
          case measure => have := HK1.out; have := HJ2.out; have := HK3.out; omega
          case rel => exact y16
     ·
      replace c5 := Bool.eq_false_iff.mpr c5
      subst c5
      have H1 : (if x6_1 < 3 then (some (0, 0)) else (some (x6_1, x7_1))) = some (r1, r2) := by rw [if_neg (show ¬ (false = true) by decide)] at H; exact H
      clear H
      have H := H1
      clear H1
      by_cases c17 : x6_1 < 3
      ·
       rw [if_pos c17] at H
       have c17b0 := decide_eq_true c17
       clear c17
       simp only [Option.some.injEq, Prod.mk.injEq] at H
       obtain ⟨rfl, rfl⟩ := H
       go_wp2
       repeat (go_quiet (fail); try go_wp2)
       go_ret2
       exact y3
      ·
       rw [if_neg c17] at H
       have c17b0 := decide_eq_false c17
       clear c17
       simp only [Option.some.injEq, Prod.mk.injEq] at H
       obtain ⟨rfl, rfl⟩ := H
       go_wp2
       repeat (go_quiet (fail); try go_wp2)
       go_ret2
       exact y3
def j11_literal.f (l0 : List Int) (l1 : List Int) : Option (List Int) := if (l1.length : Int) = 0 then (some l0) else (if l0.length < 140737488355328 then ((some (l0 ++ [(wrap64 ((l1.length : Int) - 1)) % 256] : List Int)).bind fun y356 => (if y356.length + l1.length < 140737488355328 then (some (y356 ++ l1)) else (none))) else (none))
set_option maxHeartbeats 8000000 in
set_option maxRecDepth 100000 in
theorem j11_literal.calls (P0_ : Nat → Prop) (u9000_ : Value) (l0 : List Int) (A1 : Option Addr) (c1 : Nat) (l1 : List Int) (r : List Int) (w0 w : World) (hB : Below w0.heap.size w0 w) (ho0 : Kd.R (Kd.int .u8) 5 w w0.heap.size P0_ u9000_ l0) (hr1 : ∀ W_, Kept w W_ (fun k_ => P0_ k_) → Kd.C (Kd.int .u8) W_ A1 l1.length l1) (hc1 : l1.length ≤ c1) (h : j11_literal.f l0 l1 = some r) :
  Calls Try.prog 80 #[u9000_, .slice A1 l1.length c1] w fun e w' => ∃ v0_ : Value, e = .returned (v0_) ∧ Kd.R (Kd.int .u8) 5 w' w0.heap.size (fun k_ => (P0_ k_ ∨ w.heap.size ≤ k_)) v0_ r ∧ Below w0.heap.size w0 w' ∧ Kept w w' (fun k_ => P0_ k_) := by
 have HO0 := am (show Kd.R (Kd.int .u8) 5 w w0.heap.size (fun k_ => (P0_ k_ ∨ w.heap.size ≤ k_)) u9000_ l0 from Kd.R_mono ho0 (fun k_ hk => (.inl hk)))
 have HR1 := am hr1
 have HC1 := am hc1
 clear hr1 hc1
 have HK := am (Kept.refl w (fun k_ => P0_ k_))
 have HW0 := am hB.size
 have HB := am hB
 clear hB
 have H : (if (l1.length : Int) = 0 then (some l0) else (if l0.length < 140737488355328 then ((some (l0 ++ [(wrap64 ((l1.length : Int) - 1)) % 256] : List Int)).bind fun y356 => (if y356.length + l1.length < 140737488355328 then (some (y356 ++ l1)) else (none))) else (none))) = some r := h
 clear h
 by_cases c3 : (l1.length : Int) = 0
 ·
  rw [if_pos c3] at H
  obtain ⟨c3b0, c3b1⟩ := zt c3
  clear c3
  obtain rfl := Option.some.inj H
  go_enter Try.func80, Try.ntmps80
  go_wp2
  go_ret
  exact ⟨_, ze, by (with_reducible repeat (first | apply Kd.R_alloc | apply Kd.R_drewN | apply Kd.R_drew)); exact HO0.out, zb HB, by repeat (first | (with_reducible first | exact HK.out | apply Kept.alloc | apply Kept.drewN | apply Kept.drew) | exact HK.out)⟩
 ·
  rw [if_neg c3] at H
  obtain ⟨c3b0, c3b1⟩ := zs c3
  have c3b2 : ¬ (l1 = []) := fun h_ => c3 (by rw [h_]; rfl)
  by_cases c4 : l0.length < 140737488355328
  ·
   rw [if_pos c4] at H
   have LMc4 := am c4
   clear c4
   obtain ⟨y356, hy356⟩ : ∃ y_ : List Int, y_ = (l0 ++ [(wrap64 ((l1.length : Int) - 1)) % 256]) := ⟨_, rfl⟩
   replace H : (if y356.length + l1.length < 140737488355328 then (some (y356 ++ l1)) else (none)) = some r := by first | (rw [hy356]; with_reducible exact H) | (have H2_ := (Option.bind_some _ _).symm.trans H; rw [hy356]; with_reducible exact H2_) | (have H2_ := (Option.bind_some _ _).symm.trans H; with_reducible exact H2_) | with_reducible exact H | (rw [hy356]; exact H) | exact H
   have Ny356 := am hy356
   clear hy356
   by_cases c5 : y356.length + l1.length < 140737488355328
   ·
    rw [if_pos c5] at H
    have LMc5 := am c5
    clear c5
    obtain ⟨y359, hy359⟩ : ∃ y_ : List Int, y_ = (y356 ++ l1) := ⟨_, rfl⟩
    replace H : (some y359) = some r := by first | (rw [hy359]; with_reducible exact H) | (have H2_ := (Option.bind_some _ _).symm.trans H; rw [hy359]; with_reducible exact H2_) | (have H2_ := (Option.bind_some _ _).symm.trans H; with_reducible exact H2_) | with_reducible exact H | (rw [hy359]; exact H) | exact H
    have Ny359 := am hy359
    clear hy359
    obtain rfl := Option.some.inj H
    go_enter Try.func80, Try.ntmps80
    go_wp2_with (first | ((with_reducible refine gate_builtin (b := .append) (xs := #[.tmp 9, .tmp 14]) rfl ?_); at_builtin; refine Kd.R_append (Kd.int .u8) (w0 := w0) w0.heap.size rfl (.tmp 9) (.tmp 14) 27 5 (.int .u8 0) 1 rfl Try.underlying27 info5 rfl (by decide) (by omega) u9000_ l0 ((wrap64 ((l1.length : Int) - 1)) % 256) [.int .u8 ((wrap64 ((l1.length : Int) - 1)) % 256)] (fun k_ => (P0_ k_ ∨ w.heap.size ≤ k_)) (fun _ => False) rfl rfl ?aP (fun _ hk => hk.elim) ?aF ?aO ?aB ?aS ?aL ?_; (case aP => exact rfl); (case aB => exact (zb HB)); (case aF => exact y5); (case aO => exact (zR HO0.out)); (case aS => exact y24); (case aL => have := LMc4.out; omega); intro v357 w6 ho hb hg hat; rw [← Ny356.out] at ho; have n0_ := am (hb); have n1_ := am (Kept.of_grown (S := (fun k_ => P0_ k_)) hg y8 (fun k_ e_ => (HO0.out.1 k_ e_))); have n2_ := am (ho); clear HB; clear HK; clear HO0; have HB := n0_; have HK := n1_; have HO358 := n2_; clear n0_ n1_ n2_; clear ho hb hg hat) | ((with_reducible refine gate_builtin (b := .append) (xs := #[.tmp 16, .tmp 17]) rfl ?_); at_builtin; refine Kd.R_append_rows (Kd.int .u8) (w0 := w0) w0.heap.size rfl (.tmp 16) (.tmp 17) 27 5 (.int .u8 0) 1 rfl Try.underlying27 info5 rfl (by decide) (by omega) v357 y356 l1 _ _ _ (fun k_ => (P0_ k_ ∨ w.heap.size ≤ k_)) (fun _ => False) rfl rfl ?aO ?aR (fun _ _ h => h) (fun _ h => h.elim) ?aF ?aB ?aS ?aL ?_; (case aR => exact Kd.C_kept_now HR1.out y8); (case aB => exact (zb HB)); (case aF => exact y5); (case aO => exact (zR HO358.out)); (case aS => exact y24); (case aL => have := LMc5.out; omega); intro v360 w7 ho hb hg hat; rw [← Ny359.out] at ho; have n0_ := am (hb); have n1_ := am (Kept.of_grown (S := (fun k_ => P0_ k_)) hg y8 (fun k_ e_ => (HO358.out.1 k_ e_))); have n2_ := am (ho); clear HB; clear HK; clear HO358; have HB := n0_; have HK := n1_; have HO361 := n2_; clear n0_ n1_ n2_; clear ho hb hg hat))
    go_ret
    exact ⟨_, ze, by (with_reducible repeat (first | apply Kd.R_alloc | apply Kd.R_drewN | apply Kd.R_drew)); exact HO361.out, zb HB, by repeat (first | (with_reducible first | exact HK.out | apply Kept.alloc | apply Kept.drewN | apply Kept.drew) | exact HK.out)⟩
   ·
    rw [if_neg c5] at H
    exact absurd H (by simp)
  ·
   rw [if_neg c4] at H
   exact absurd H (by simp)
end Go.Proofs.Ytnmmkgagbfniiaa.A
end
