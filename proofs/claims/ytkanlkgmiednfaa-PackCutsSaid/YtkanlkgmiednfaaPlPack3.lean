/- What Unpack computes, of the program and of the reference: 'un'. -/
import Derived.Test.YtkanlkgmiednfaaPlPack2
import Derived.Test.YtkanlkgmiednfaaAxpackUnpack
import Derived.Test.YtkanlkgmiednfaaAxinterleaveref11Unpack
namespace Go.Proofs.Ytkanlkgmiednfaa.Pl
open Go.RowKit Go.Proofs.YtkanlkgmiednfaaW.PrintWords Go.Proofs.YtkanlkgmiednfaaW.PrintMore Go.Proofs.Ytkanlkgmiednfaa.A
set_option linter.unusedVariables false
/-- n bytes, each the one d ahead of it. -/
def cp : Nat → Nat → List Int → List Int
  | 0, _, o => o
  | n + 1, d, o => cp n d (o ++ [rd o ((o.length - d : Nat) : Int)])
theorem cp_length : ∀ n d o, (cp n d o).length = o.length + n := by
  intro n
  induction n with
  | zero => intro d o; rfl
  | succ n ih => intro d o; rw [cp, ih]; simp; omega
def un (lim : Int) : Nat → List Int → List Int → List Int × Int
  | 0, _, out => (out, 0)
  | _ + 1, [], out => (out, 0)
  | f + 1, c :: t, out =>
    if c < 128 then
      (if t.length < c.toNat + 1 then ([], 9) else if ((out ++ t.take (c.toNat + 1)).length : Int) > lim then ([], 2) else un lim f (t.drop (c.toNat + 1)) (out ++ t.take (c.toNat + 1)))
    else match t with
      | [] => ([], 9)
      | d :: t' => if d = 0 ∨ d > (out.length : Int) then ([], 11) else if ((cp (c.toNat - 125) d.toNat out).length : Int) > lim then ([], 2) else un lim f t' (cp (c.toNat - 125) d.toNat out)
theorem un_cons (lim : Int) (f : Nat) (c : Int) (t out : List Int) : un lim (f + 1) (c :: t) out =
    if c < 128 then
      (if t.length < c.toNat + 1 then ([], 9) else if ((out ++ t.take (c.toNat + 1)).length : Int) > lim then ([], 2) else un lim f (t.drop (c.toNat + 1)) (out ++ t.take (c.toNat + 1)))
    else match t with
      | [] => ([], 9)
      | d :: t' => if d = 0 ∨ d > (out.length : Int) then ([], 11) else if ((cp (c.toNat - 125) d.toNat out).length : Int) > lim then ([], 2) else un lim f t' (cp (c.toNat - 125) d.toNat out) := rfl
theorem un_nil (lim : Int) (f : Nat) (out : List Int) : un lim f [] out = (out, 0) := by cases f <;> rfl
theorem wrap_nat {n : Nat} {x : Int} (h : x = (n : Int)) (hn : n ≤ 1000000000000000) : wrap64 x = (n : Int) := by rw [h, wrap64_id (by omega) (by omega)]
theorem mid_eq {x : List Int} {i c : Nat} : (x.take (i + c + 2)).drop (i + 1) = (x.drop (i + 1)).take (c + 1) := by
  rw [List.drop_take, show i + c + 2 - (i + 1) = c + 1 by omega]
section
variable {x : List Int} (hm : x.length ≤ 1000000) (hx : ∀ c ∈ x, 0 ≤ c ∧ c < 256) (lim : Int)
include hm hx
omit hm hx in
theorem copy_loop {i d : Nat} {r : List Int × Int} {e : Int} (hd : 1 ≤ d) : ∀ n j (out : List Int), (e = ((j + n : Nat) : Int)) → d ≤ out.length → out.length + n ≤ 1000000000000 → j + n ≤ 200 → i + 2 ≤ 2000000 →
    Ev (fun k => if ((cp n d out).length : Int) > lim then (some (([] : List Int), 2)) else (pack_Unpack.l0 k x lim (cp n d out) ((i + 2 : Nat) : Int))) r →
    Ev (fun k => pack_Unpack.l1 k x lim out (i : Int) (d : Int) e (j : Int)) r := by
  intro n
  induction n with
  | zero =>
    intro j out he hdo ho hj hi h
    refine Ev.step (fun k => ?_) h
    simp only [pack_Unpack.l1, cp]
    rw [if_neg (by omega), wrap_nat (n := i + 2) (by omega) (by omega)]
    rfl
  | succ n ih =>
    intro j out he hdo ho hj hi h
    refine Ev.step (fun k => ?_) (ih (j + 1) (out ++ [rd out ((out.length - d : Nat) : Int)]) (by omega) (by simp; omega) (by simp; omega) (by omega) hi h)
    simp only [pack_Unpack.l1]
    rw [if_pos (by omega), wrap_nat (n := out.length - d) (by omega) (by omega), wrap_nat (x := (j : Int) + 1) (n := j + 1) (by omega) (by omega), if_pos (by omega), if_pos (by omega), if_pos (by omega)]
theorem unpack_l0 : ∀ f i (out : List Int), i ≤ x.length → x.length ≤ i + f → out.length + 200 * f ≤ 1000000000000 →
    Ev (fun k => pack_Unpack.l0 k x lim out (i : Int)) (un lim f (x.drop i) out) := by
  intro f
  induction f with
  | zero =>
    intro i out hi hf ho
    refine Ev.step (f := fun _ => some _) (fun k => ?_) (Ev.now _)
    simp only [pack_Unpack.l0]
    rw [if_neg (by omega)]
    rfl
  | succ f ih =>
    intro i out hi hf ho
    by_cases hlt : i < x.length
    · rw [List.drop_eq_getElem_cons hlt]
      obtain ⟨c, hc⟩ : ∃ c : Nat, x[i] = (c : Int) := ⟨x[i].toNat, by have := hx x[i] (List.getElem_mem hlt); omega⟩
      have hc256 : c < 256 := by have := hx x[i] (List.getElem_mem hlt); omega
      have hrd : wrap64 (rd x (i : Int)) = (c : Int) := wrap_nat ((rd_at hlt).trans hc) (by omega)
      have HRD := Aside0.mk hrd
      clear hrd
      rw [hc]
      have hdl : (x.drop (i + 1)).length = x.length - (i + 1) := by rw [List.length_drop]
      by_cases c1 : c < 128
      · have hu : un lim (f + 1) ((c : Int) :: x.drop (i + 1)) out = if (x.drop (i + 1)).length < c + 1 then ([], 9) else if ((out ++ (x.drop (i + 1)).take (c + 1)).length : Int) > lim then ([], 2) else un lim f ((x.drop (i + 1)).drop (c + 1)) (out ++ (x.drop (i + 1)).take (c + 1)) := by
          rw [un_cons, if_pos (by omega)]
          rfl
        rw [hu, hdl]
        clear hu
        by_cases c2 : x.length - (i + 1) < c + 1
        · rw [if_pos c2]
          refine Ev.step (f := fun k => pack_Unpack.j1 k x lim out (i : Int) (c : Int) true) (fun k => ?_) (Ev.step (f := fun _ => some _) (fun k => ?_) (Ev.now _))
          · simp only [pack_Unpack.l0]
            rw [HRD.out, wrap_nat (x := (i : Int) + (c : Int)) (n := i + c) (by omega) (by omega), wrap_nat (x := ((i + c : Nat) : Int) + 1) (n := i + c + 1) (by omega) (by omega), if_pos (by omega), if_pos (by omega), if_pos (by omega), if_pos (by omega)]
          · simp only [pack_Unpack.j1]
            rw [if_pos trivial]
        · rw [if_neg c2]
          have hl2 : (out ++ (x.drop (i + 1)).take (c + 1)).length = out.length + (c + 1) := by rw [List.length_append, List.length_take, hdl]; omega
          refine Ev.step (f := fun k => pack_Unpack.j1 k x lim out (i : Int) (c : Int) false) (fun k => ?_) (Ev.step (f := fun k => if ((out ++ (x.drop (i + 1)).take (c + 1)).length : Int) > lim then (some (([] : List Int), 2)) else (pack_Unpack.l0 k x lim (out ++ (x.drop (i + 1)).take (c + 1)) ((i + 1 + (c + 1) : Nat) : Int))) (fun k => ?_) ?_)
          · simp only [pack_Unpack.l0]
            rw [HRD.out, wrap_nat (x := (i : Int) + (c : Int)) (n := i + c) (by omega) (by omega), wrap_nat (x := ((i + c : Nat) : Int) + 1) (n := i + c + 1) (by omega) (by omega), if_pos (by omega), if_pos (by omega), if_pos (by omega), if_neg (by omega), if_neg (by omega)]
          · simp only [pack_Unpack.j1]
            rw [if_neg (by simp), if_pos (by omega), wrap_nat (x := (i : Int) + 1) (n := i + 1) (by omega) (by omega), wrap_nat (x := (i : Int) + (c : Int)) (n := i + c) (by omega) (by omega), wrap_nat (x := ((i + c : Nat) : Int) + 2) (n := i + c + 2) (by omega) (by omega), wrap_nat (x := (c : Int) + 2) (n := c + 2) (by omega) (by omega), wrap_nat (x := (i : Int) + ((c + 2 : Nat) : Int)) (n := i + 1 + (c + 1)) (by omega) (by omega)]
            rw [if_pos (by omega), if_pos (by omega), if_pos (by omega), Int.toNat_natCast, Int.toNat_natCast, mid_eq, if_pos (by rw [List.length_take, hdl]; omega)]
            rfl
          · by_cases c3 : ((out ++ (x.drop (i + 1)).take (c + 1)).length : Int) > lim
            · rw [if_pos c3]
              exact Ev.congr (fun k => by rw [if_pos c3]) (Ev.now _)
            · rw [if_neg c3]
              refine Ev.congr (fun k => by rw [if_neg c3]) ?_
              rw [List.drop_drop]
              exact ih (i + 1 + (c + 1)) _ (by omega) (by omega) (by rw [hl2]; omega)
      · by_cases c2 : i + 1 < x.length
        · rw [List.drop_eq_getElem_cons c2]
          obtain ⟨d, hd⟩ : ∃ d : Nat, x[i + 1] = (d : Int) := ⟨x[i + 1].toNat, by have := hx x[i + 1] (List.getElem_mem c2); omega⟩
          have hd256 : d < 256 := by have := hx x[i + 1] (List.getElem_mem c2); omega
          have HRD2 : Aside0 (wrap64 (rd x ((i + 1 : Nat) : Int)) = (d : Int)) := ⟨wrap_nat ((rd_at c2).trans hd) (by omega)⟩
          rw [hd]
          have hu : un lim (f + 1) ((c : Int) :: (d : Int) :: x.drop (i + 1 + 1)) out = if (d : Int) = 0 ∨ (d : Int) > (out.length : Int) then ([], 11) else if ((cp (c - 125) d out).length : Int) > lim then ([], 2) else un lim f (x.drop (i + 1 + 1)) (cp (c - 125) d out) := by
            rw [un_cons, if_neg (by omega)]
            rfl
          rw [hu]
          clear hu
          refine Ev.step (f := fun k => pack_Unpack.j1 k x lim out (i : Int) (c : Int) false) (fun k => ?_) ?_
          · simp only [pack_Unpack.l0]
            rw [HRD.out, if_pos (by omega), if_pos (by omega), if_neg (by omega), if_pos (by omega), wrap_nat (x := (i : Int) + 1) (n := i + 1) (by omega) (by omega), show decide (((i + 1 : Nat) : Int) ≥ (x.length : Int)) = false from decide_eq_false (by omega)]
          · have step2 : ∀ {r : List Int × Int}, Ev (fun k => pack_Unpack.j2 k x lim out (i : Int) (c : Int) (d : Int) (decide ((d : Int) = 0 ∨ (d : Int) > (out.length : Int)))) r → Ev (fun k => pack_Unpack.j1 k x lim out (i : Int) (c : Int) false) r := by
              intro r h
              refine Ev.step (fun k => ?_) h
              simp only [pack_Unpack.j1]
              rw [if_neg (by simp), if_neg (by omega), wrap_nat (x := (i : Int) + 1) (n := i + 1) (by omega) (by omega), if_pos (by omega), if_pos (by omega), HRD2.out]
              by_cases c3 : (d : Int) = 0
              · rw [if_pos c3]
                simp [c3]
              · rw [if_neg c3]
                have c4 : d ≠ 0 := by omega
                simp [c4]
            by_cases c3 : (d : Int) = 0 ∨ (d : Int) > (out.length : Int)
            · rw [if_pos c3]
              refine step2 (Ev.step (f := fun _ => some _) (fun k => ?_) (Ev.now _))
              simp only [pack_Unpack.j2]
              rw [if_pos (decide_eq_true c3)]
            · rw [if_neg c3]
              refine step2 (Ev.step (f := fun k => pack_Unpack.l1 k x lim out (i : Int) (d : Int) ((c - 125 : Nat) : Int) ((0 : Nat) : Int)) (fun k => ?_) ?_)
              · simp only [pack_Unpack.j2]
                rw [if_neg (by rw [decide_eq_false c3]; simp), wrap_nat (x := (c : Int) - 128) (n := c - 128) (by omega) (by omega), wrap_nat (x := ((c - 128 : Nat) : Int) + 3) (n := c - 125) (by omega) (by omega)]
                rfl
              · refine copy_loop lim (by omega) (c - 125) 0 out (by omega) (by omega) (by omega) (by omega) (by omega) ?_
                by_cases c4 : ((cp (c - 125) d out).length : Int) > lim
                · rw [if_pos c4]
                  exact Ev.congr (fun k => by rw [if_pos c4]) (Ev.now _)
                · rw [if_neg c4]
                  refine Ev.congr (fun k => by rw [if_neg c4]) ?_
                  exact ih (i + 1 + 1) _ (by omega) (by omega) (by rw [cp_length]; omega)
        · rw [List.drop_of_length_le (i := i + 1) (by omega)]
          have hu : un lim (f + 1) [(c : Int)] out = ([], 9) := by
            rw [un_cons, if_neg (by omega)]
          rw [hu]
          refine Ev.step (f := fun k => pack_Unpack.j1 k x lim out (i : Int) (c : Int) true) (fun k => ?_) (Ev.step (f := fun _ => some _) (fun k => ?_) (Ev.now _))
          · simp only [pack_Unpack.l0]
            rw [HRD.out, if_pos (by omega), if_pos (by omega), if_neg (by omega), if_pos (by omega), wrap_nat (x := (i : Int) + 1) (n := i + 1) (by omega) (by omega), show decide (((i + 1 : Nat) : Int) ≥ (x.length : Int)) = true from decide_eq_true (by omega)]
          · simp only [pack_Unpack.j1]
            rw [if_pos trivial]
    · refine Ev.step (f := fun _ => some _) (fun k => ?_) (Ev.now _)
      simp only [pack_Unpack.l0]
      rw [if_neg (by omega), List.drop_of_length_le (by omega), un_nil]
theorem unpack_f : Ev (fun k => pack_Unpack.f k x lim) (un lim x.length x []) := unpack_l0 hm hx lim x.length 0 [] (by omega) (by omega) (by simp; omega)
omit hm hx in
theorem refCopy_loop {i d c : Nat} {r : List Int × Int} (hd : 1 ≤ d) (hc : 125 ≤ c) (hc2 : c < 256) : ∀ n j (out : List Int), (c - 125 = j + n) → d ≤ out.length → out.length + n ≤ 1000000000000 → i + 2 ≤ 2000000 →
    Ev (fun k => interleaveref11_Unpack.l0 k x lim (cp n d out) ((i + 2 : Nat) : Int)) r →
    Ev (fun k => interleaveref11_Unpack.l1 k x lim out (i : Int) (c : Int) (d : Int) (j : Int)) r := by
  intro n
  induction n with
  | zero =>
    intro j out he hdo ho hi h
    refine Ev.step (fun k => ?_) h
    simp only [interleaveref11_Unpack.l1, cp]
    rw [wrap_nat (x := (c : Int) - 125) (n := c - 125) (by omega) (by omega), if_neg (by omega), wrap_nat (n := i + 2) (by omega) (by omega)]
  | succ n ih =>
    intro j out he hdo ho hi h
    refine Ev.step (fun k => ?_) (ih (j + 1) (out ++ [rd out ((out.length - d : Nat) : Int)]) (by omega) (by simp; omega) (by simp; omega) hi h)
    simp only [interleaveref11_Unpack.l1]
    rw [wrap_nat (x := (c : Int) - 125) (n := c - 125) (by omega) (by omega), if_pos (by omega), wrap_nat (n := out.length - d) (by omega) (by omega), wrap_nat (x := (j : Int) + 1) (n := j + 1) (by omega) (by omega), if_pos (by omega), if_pos (by omega), if_pos (by omega)]
theorem refUnpack_l0 (hlim0 : -9223372036854775808 ≤ lim) (hlim1 : lim < 9223372036854775808) : ∀ f i (out : List Int), i ≤ x.length → x.length ≤ i + f → out.length + 200 * f ≤ 1000000000000 → (out.length = 0 ∨ (out.length : Int) ≤ lim) →
    Ev (fun k => interleaveref11_Unpack.l0 k x lim out (i : Int)) (un lim f (x.drop i) out) := by
  intro f
  induction f with
  | zero =>
    intro i out hi hf ho hol
    refine Ev.step (f := fun _ => some _) (fun k => ?_) (Ev.now _)
    simp only [interleaveref11_Unpack.l0]
    rw [if_neg (by omega)]
    rfl
  | succ f ih =>
    intro i out hi hf ho hol
    have hw : Aside0 (wrap64 (lim - (out.length : Int)) = lim - (out.length : Int)) := ⟨wrap64_id (by omega) (by omega)⟩
    by_cases hlt : i < x.length
    · rw [List.drop_eq_getElem_cons hlt]
      obtain ⟨c, hc⟩ : ∃ c : Nat, x[i] = (c : Int) := ⟨x[i].toNat, by have := hx x[i] (List.getElem_mem hlt); omega⟩
      have hc256 : c < 256 := by have := hx x[i] (List.getElem_mem hlt); omega
      have HRD : Aside0 (wrap64 (rd x (i : Int)) = (c : Int)) := ⟨wrap_nat ((rd_at hlt).trans hc) (by omega)⟩
      rw [hc]
      have hdl : (x.drop (i + 1)).length = x.length - (i + 1) := by rw [List.length_drop]
      by_cases c1 : c < 128
      · have hu : un lim (f + 1) ((c : Int) :: x.drop (i + 1)) out = if (x.drop (i + 1)).length < c + 1 then ([], 9) else if ((out ++ (x.drop (i + 1)).take (c + 1)).length : Int) > lim then ([], 2) else un lim f ((x.drop (i + 1)).drop (c + 1)) (out ++ (x.drop (i + 1)).take (c + 1)) := by
          rw [un_cons, if_pos (by omega)]
          rfl
        rw [hu, hdl]
        clear hu
        by_cases c2 : x.length - (i + 1) < c + 1
        · rw [if_pos c2]
          refine Ev.step (f := fun _ => some _) (fun k => ?_) (Ev.now _)
          simp only [interleaveref11_Unpack.l0]
          rw [if_pos (by omega), if_pos (by omega), HRD.out, if_pos (by omega), wrap_nat (x := (c : Int) + 1) (n := c + 1) (by omega) (by omega), wrap_nat (x := (x.length : Int) - (i : Int)) (n := x.length - i) (by omega) (by omega), wrap_nat (x := ((x.length - i : Nat) : Int) - 1) (n := x.length - (i + 1)) (by omega) (by omega), if_pos (by omega)]
        · rw [if_neg c2]
          have hl2 : (out ++ (x.drop (i + 1)).take (c + 1)).length = out.length + (c + 1) := by rw [List.length_append, List.length_take, hdl]; omega
          refine Ev.step (f := fun k => if ((out ++ (x.drop (i + 1)).take (c + 1)).length : Int) > lim then (some (([] : List Int), 2)) else (interleaveref11_Unpack.l0 k x lim (out ++ (x.drop (i + 1)).take (c + 1)) ((i + 1 + (c + 1) : Nat) : Int))) (fun k => ?_) ?_
          · simp only [interleaveref11_Unpack.l0]
            rw [if_pos (by omega), if_pos (by omega), HRD.out, if_pos (by omega), wrap_nat (x := (c : Int) + 1) (n := c + 1) (by omega) (by omega), wrap_nat (x := (x.length : Int) - (i : Int)) (n := x.length - i) (by omega) (by omega), wrap_nat (x := ((x.length - i : Nat) : Int) - 1) (n := x.length - (i + 1)) (by omega) (by omega), if_neg (by omega), hw.out]
            by_cases c3 : ((out ++ (x.drop (i + 1)).take (c + 1)).length : Int) > lim
            · rw [if_pos c3, if_pos (by omega)]
            · rw [if_neg c3, if_neg (by omega), wrap_nat (x := (i : Int) + 1) (n := i + 1) (by omega) (by omega), wrap_nat (x := (i : Int) + (c : Int)) (n := i + c) (by omega) (by omega), wrap_nat (x := ((i + c : Nat) : Int) + 2) (n := i + 1 + (c + 1)) (by omega) (by omega)]
              rw [if_pos (by omega), if_pos (by omega), if_pos (by omega), Int.toNat_natCast, Int.toNat_natCast, show i + 1 + (c + 1) = i + c + 2 by omega, mid_eq, if_pos (by rw [List.length_take, hdl]; omega)]
          · by_cases c3 : ((out ++ (x.drop (i + 1)).take (c + 1)).length : Int) > lim
            · rw [if_pos c3]
              exact Ev.congr (fun k => by rw [if_pos c3]) (Ev.now _)
            · rw [if_neg c3]
              refine Ev.congr (fun k => by rw [if_neg c3]) ?_
              rw [List.drop_drop]
              exact ih (i + 1 + (c + 1)) _ (by omega) (by omega) (by rw [hl2]; omega) (.inr (by omega))
      · by_cases c2 : i + 1 < x.length
        · rw [List.drop_eq_getElem_cons c2]
          obtain ⟨d, hd⟩ : ∃ d : Nat, x[i + 1] = (d : Int) := ⟨x[i + 1].toNat, by have := hx x[i + 1] (List.getElem_mem c2); omega⟩
          have hd256 : d < 256 := by have := hx x[i + 1] (List.getElem_mem c2); omega
          have HRD2 : Aside0 (wrap64 (rd x ((i + 1 : Nat) : Int)) = (d : Int)) := ⟨wrap_nat ((rd_at c2).trans hd) (by omega)⟩
          rw [hd]
          have hu : un lim (f + 1) ((c : Int) :: (d : Int) :: x.drop (i + 1 + 1)) out = if (d : Int) = 0 ∨ (d : Int) > (out.length : Int) then ([], 11) else if ((cp (c - 125) d out).length : Int) > lim then ([], 2) else un lim f (x.drop (i + 1 + 1)) (cp (c - 125) d out) := by
            rw [un_cons, if_neg (by omega)]
            rfl
          rw [hu]
          clear hu
          have step2 : ∀ {r : List Int × Int}, Ev (fun k => interleaveref11_Unpack.j1 k x lim out (i : Int) (c : Int) (d : Int) (decide ((d : Int) = 0 ∨ (d : Int) > (out.length : Int)))) r → Ev (fun k => interleaveref11_Unpack.l0 k x lim out (i : Int)) r := by
            intro r h
            refine Ev.step (fun k => ?_) h
            simp only [interleaveref11_Unpack.l0]
            rw [if_pos (by omega), if_pos (by omega), HRD.out, if_neg (by omega), wrap_nat (x := (i : Int) + 1) (n := i + 1) (by omega) (by omega), if_neg (by omega), if_pos (by omega), if_pos (by omega), HRD2.out]
            by_cases c3 : (d : Int) = 0
            · rw [if_pos c3]
              simp [c3]
            · rw [if_neg c3]
              have c4 : d ≠ 0 := by omega
              simp [c4]
          have hcl := cp_length (c - 125) d out
          by_cases c3 : (d : Int) = 0 ∨ (d : Int) > (out.length : Int)
          · rw [if_pos c3]
            refine step2 (Ev.step (f := fun _ => some _) (fun k => ?_) (Ev.now _))
            simp only [interleaveref11_Unpack.j1]
            rw [if_pos (decide_eq_true c3)]
          · rw [if_neg c3]
            by_cases c4 : ((cp (c - 125) d out).length : Int) > lim
            · rw [if_pos c4]
              refine step2 (Ev.step (f := fun _ => some _) (fun k => ?_) (Ev.now _))
              simp only [interleaveref11_Unpack.j1]
              rw [if_neg (by rw [decide_eq_false c3]; simp), wrap_nat (x := (c : Int) - 125) (n := c - 125) (by omega) (by omega), hw.out, if_pos (by omega)]
            · rw [if_neg c4]
              refine step2 (Ev.step (f := fun k => interleaveref11_Unpack.l1 k x lim out (i : Int) (c : Int) (d : Int) ((0 : Nat) : Int)) (fun k => ?_) ?_)
              · simp only [interleaveref11_Unpack.j1]
                rw [if_neg (by rw [decide_eq_false c3]; simp), wrap_nat (x := (c : Int) - 125) (n := c - 125) (by omega) (by omega), hw.out, if_neg (by omega)]
                rfl
              · refine refCopy_loop lim (by omega) (by omega) hc256 (c - 125) 0 out (by omega) (by omega) (by omega) (by omega) ?_
                exact ih (i + 1 + 1) _ (by omega) (by omega) (by rw [hcl]; omega) (.inr (by omega))
        · rw [List.drop_of_length_le (i := i + 1) (by omega)]
          have hu : un lim (f + 1) [(c : Int)] out = ([], 9) := by
            rw [un_cons, if_neg (by omega)]
          rw [hu]
          refine Ev.step (f := fun _ => some _) (fun k => ?_) (Ev.now _)
          simp only [interleaveref11_Unpack.l0]
          rw [if_pos (by omega), if_pos (by omega), HRD.out, if_neg (by omega), wrap_nat (x := (i : Int) + 1) (n := i + 1) (by omega) (by omega), if_pos (by omega)]
    · refine Ev.step (f := fun _ => some _) (fun k => ?_) (Ev.now _)
      simp only [interleaveref11_Unpack.l0]
      rw [if_neg (by omega), List.drop_of_length_le (by omega), un_nil]
theorem refUnpack_f (hlim0 : -9223372036854775808 ≤ lim) (hlim1 : lim < 9223372036854775808) : Ev (fun k => interleaveref11_Unpack.f k x lim) (un lim x.length x []) := refUnpack_l0 hm hx lim hlim0 hlim1 x.length 0 [] (by omega) (by omega) (by simp; omega) (.inl rfl)
end
end Go.Proofs.Ytkanlkgmiednfaa.Pl
