/- The bytes of a record, and that Append and the reference's Append put just these behind what they are given. -/
import Derived.Test.YtkanlkgmiednfaaPlInt2
import Derived.Test.YtkanlkgmiednfaaAxeventappendList
import Derived.Test.YtkanlkgmiednfaaAxeventAppend
import Derived.Test.YtkanlkgmiednfaaAxinterleaveref11putList
import Derived.Test.YtkanlkgmiednfaaAxinterleaveref11Append
namespace Go.Proofs.Ytkanlkgmiednfaa.Pl
open Go.RowKit Go.Proofs.YtkanlkgmiednfaaW.PrintWords Go.Proofs.YtkanlkgmiednfaaW.PrintMore Go.Proofs.Ytkanlkgmiednfaa.A
set_option linter.unusedVariables false
def I64 (a : Int) : Prop := -9223372036854775808 ≤ a ∧ a < 9223372036854775808
theorem wrap64_I64 (x : Int) : I64 (wrap64 x) := by unfold I64 wrap64; omega
def encDiffs : Int → List Int → List Int
  | _, [] => []
  | last, n :: t => enc (wrap64 (n - last)) ++ encDiffs n t
def encL (l : List Int) : List Int := enc (l.length : Int) ++ encDiffs 0 l
def encR (d kind obj val site : Int) (deps frm : List Int) : List Int := enc d ++ (enc kind ++ (enc obj ++ (enc val ++ (enc site ++ (encL deps ++ encL frm)))))
theorem enc_le {a : Int} (h : I64 a) : (enc a).length ≤ 10 := (enc_len h.1 h.2).2
theorem encDiffs_len : ∀ (l : List Int) (last : Int), (encDiffs last l).length ≤ 10 * l.length
  | [], _ => by simp [encDiffs]
  | n :: t, last => by
    have h1 := enc_le (wrap64_I64 (n - last))
    have h2 := encDiffs_len t n
    simp only [encDiffs, List.length_append, List.length_cons]
    omega
theorem encL_len (l : List Int) (hl : l.length ≤ 400) : (encL l).length ≤ 10 * l.length + 10 := by
  have h1 := encDiffs_len l 0
  have h2 := enc_le (a := (l.length : Int)) ⟨by omega, by omega⟩
  unfold encL
  rw [List.length_append]
  omega
theorem encDiffs_bytes : ∀ (l : List Int) (last : Int), ∀ x ∈ encDiffs last l, 0 ≤ x ∧ x < 256
  | [], _ => fun x hx => by simp [encDiffs] at hx
  | n :: t, last => fun x hx => by
    simp only [encDiffs, List.mem_append] at hx
    rcases hx with hx | hx
    · exact enc_bytes _ x hx
    · exact encDiffs_bytes t n x hx
theorem encL_bytes (l : List Int) : ∀ x ∈ encL l, 0 ≤ x ∧ x < 256 := fun x hx => by
  rcases List.mem_append.1 hx with hx | hx
  · exact enc_bytes _ x hx
  · exact encDiffs_bytes _ _ x hx
theorem encR_bytes (d kind obj val site : Int) (deps frm : List Int) : ∀ x ∈ encR d kind obj val site deps frm, 0 ≤ x ∧ x < 256 := fun x hx => by
  simp only [encR, List.mem_append] at hx
  rcases hx with hx | hx | hx | hx | hx | hx | hx
  · exact enc_bytes _ x hx
  · exact enc_bytes _ x hx
  · exact enc_bytes _ x hx
  · exact enc_bytes _ x hx
  · exact enc_bytes _ x hx
  · exact encL_bytes _ x hx
  · exact encL_bytes _ x hx
theorem encR_len (d kind obj val site : Int) (deps frm : List Int) (h0 : I64 d) (h1 : I64 kind) (h2 : I64 obj) (h3 : I64 val) (h4 : I64 site) (h5 : deps.length ≤ 400) (h6 : frm.length ≤ 400) : (encR d kind obj val site deps frm).length ≤ 10 * (deps.length + frm.length) + 70 := by
  have a0 := enc_le h0
  have a1 := enc_le h1
  have a2 := enc_le h2
  have a3 := enc_le h3
  have a4 := enc_le h4
  have a5 := encL_len deps h5
  have a6 := encL_len frm h6
  unfold encR
  simp only [List.length_append]
  omega
theorem encR_pos (d kind obj val site : Int) (deps frm : List Int) : 0 < (encR d kind obj val site deps frm).length := by
  unfold encR
  rw [List.length_append]
  have : 0 < (enc d).length := encN_pos _
  omega

theorem appendList_loop (l : List Int) (hl : l.length ≤ 140737488355328) : ∀ (d i : Nat) (x : List Int) (last : Int), i + d = l.length → x.length + 10 * d ≤ 140737488355318 →
    Ev (fun k => event_appendList.l0 k x last l (l.length : Int) (i : Int)) (x ++ encDiffs last (l.drop i)) := by
  intro d
  induction d with
  | zero =>
    intro i x last hi hx
    refine Ev.step (f := fun _ => some _) (fun k => ?_) (Ev.now _)
    simp only [event_appendList.l0]
    rw [if_neg (by omega), List.drop_of_length_le (by omega)]
    simp [encDiffs]
  | succ d ih =>
    intro i x last hi hx
    have hlt : i < l.length := by omega
    have hw := wrap64_I64 (l[i] - last)
    refine Ev.step (f := fun k => (event_appendInt.f k x (wrap64 (l[i] - last))).bind fun t => event_appendList.l0 k t l[i] l (l.length : Int) ((i + 1 : Nat) : Int)) (fun k => ?_) ?_
    · simp only [event_appendList.l0]
      rw [if_pos (by omega), if_pos (by omega), if_pos (by omega), rd_at hlt, wrap64_id (x := (i : Int) + 1) (by omega) (by omega)]
      rfl
    · refine Ev.bind (appendInt_f hw.1 hw.2 x (by omega)) ?_
      have h10 := enc_le hw
      have := ih (i + 1) (x ++ enc (wrap64 (l[i] - last))) l[i] (by omega) (by rw [List.length_append]; omega)
      rw [List.drop_eq_getElem_cons hlt]
      simpa [encDiffs] using this
theorem appendList_f (l x : List Int) (hl : l.length ≤ 400) (hx : x.length ≤ 140737488300000) : Ev (fun k => event_appendList.f k x l) (x ++ encL l) := by
  have h10 := enc_le (a := (l.length : Int)) ⟨by omega, by omega⟩
  refine Ev.bind (appendInt_f (a := (l.length : Int)) (by omega) (by omega) x (by omega)) ?_
  have := appendList_loop l (by omega) l.length 0 (x ++ enc (l.length : Int)) 0 (by omega) (by rw [List.length_append]; omega)
  simpa [encL] using this
theorem putList_loop (l : List Int) (hl : l.length ≤ 140737488355328) : ∀ (d i : Nat) (x : List Int) (last : Int), i + d = l.length → x.length + 10 * d ≤ 140737488355318 →
    Ev (fun k => interleaveref11_putList.l0 k x l last (i : Int)) (x ++ encDiffs last (l.drop i)) := by
  intro d
  induction d with
  | zero =>
    intro i x last hi hx
    refine Ev.step (f := fun _ => some _) (fun k => ?_) (Ev.now _)
    simp only [interleaveref11_putList.l0]
    rw [if_neg (by omega), List.drop_of_length_le (by omega)]
    simp [encDiffs]
  | succ d ih =>
    intro i x last hi hx
    have hlt : i < l.length := by omega
    have hw := wrap64_I64 (l[i] - last)
    refine Ev.step (f := fun k => (interleaveref11_PutInt.f k x (wrap64 (l[i] - last))).bind fun t => interleaveref11_putList.l0 k t l l[i] ((i + 1 : Nat) : Int)) (fun k => ?_) ?_
    · simp only [interleaveref11_putList.l0]
      rw [if_pos (by omega), if_pos (by omega), rd_at hlt, wrap64_id (x := (i : Int) + 1) (by omega) (by omega)]
      rfl
    · refine Ev.bind (refPutInt_f hw.1 hw.2 x (by omega)) ?_
      have h10 := enc_le hw
      have := ih (i + 1) (x ++ enc (wrap64 (l[i] - last))) l[i] (by omega) (by rw [List.length_append]; omega)
      rw [List.drop_eq_getElem_cons hlt]
      simpa [encDiffs] using this
theorem putList_f (l x : List Int) (hl : l.length ≤ 400) (hx : x.length ≤ 140737488300000) : Ev (fun k => interleaveref11_putList.f k x l) (x ++ encL l) := by
  have h10 := enc_le (a := (l.length : Int)) ⟨by omega, by omega⟩
  refine Ev.bind (refPutInt_f (a := (l.length : Int)) (by omega) (by omega) x (by omega)) ?_
  have := putList_loop l (by omega) l.length 0 (x ++ enc (l.length : Int)) 0 (by omega) (by rw [List.length_append]; omega)
  simpa [encL] using this
theorem append_f (x : List Int) (seq thread kind obj val site : Int) (deps frm : List Int) (q : Int) (hx : x.length ≤ 140737488200000) (h1 : I64 kind) (h2 : I64 obj) (h3 : I64 val) (h4 : I64 site) (h5 : deps.length ≤ 400) (h6 : frm.length ≤ 400) :
    Ev (fun k => event_Append.f k x seq thread kind obj val site deps frm q) (x ++ encR (wrap64 (seq - q)) kind obj val site deps frm) := by
  have hw := wrap64_I64 (seq - q)
  have a0 := enc_le hw
  have a1 := enc_le h1
  have a2 := enc_le h2
  have a3 := enc_le h3
  have a4 := enc_le h4
  have a5 := encL_len deps h5
  refine Ev.bind (appendInt_f hw.1 hw.2 x (by omega)) ?_
  refine Ev.bind (appendInt_f h1.1 h1.2 _ (by rw [List.length_append]; omega)) ?_
  refine Ev.bind (appendInt_f h2.1 h2.2 _ (by simp only [List.length_append]; omega)) ?_
  refine Ev.bind (appendInt_f h3.1 h3.2 _ (by simp only [List.length_append]; omega)) ?_
  refine Ev.bind (appendInt_f h4.1 h4.2 _ (by simp only [List.length_append]; omega)) ?_
  refine Ev.bind (appendList_f deps _ h5 (by simp only [List.length_append]; omega)) ?_
  have := appendList_f frm (x ++ enc (wrap64 (seq - q)) ++ enc kind ++ enc obj ++ enc val ++ enc site ++ encL deps) h6 (by simp only [List.length_append]; omega)
  simpa [encR, List.append_assoc] using this
theorem refAppend_f (x : List Int) (seq thread kind obj val site : Int) (deps frm : List Int) (q : Int) (hx : x.length ≤ 140737488200000) (h1 : I64 kind) (h2 : I64 obj) (h3 : I64 val) (h4 : I64 site) (h5 : deps.length ≤ 400) (h6 : frm.length ≤ 400) :
    Ev (fun k => interleaveref11_Append.f k x seq thread kind obj val site deps frm q) (x ++ encR (wrap64 (seq - q)) kind obj val site deps frm) := by
  have hw := wrap64_I64 (seq - q)
  have a0 := enc_le hw
  have a1 := enc_le h1
  have a2 := enc_le h2
  have a3 := enc_le h3
  have a4 := enc_le h4
  have a5 := encL_len deps h5
  refine Ev.bind (refPutInt_f hw.1 hw.2 x (by omega)) ?_
  refine Ev.bind (refPutInt_f h1.1 h1.2 _ (by rw [List.length_append]; omega)) ?_
  refine Ev.bind (refPutInt_f h2.1 h2.2 _ (by simp only [List.length_append]; omega)) ?_
  refine Ev.bind (refPutInt_f h3.1 h3.2 _ (by simp only [List.length_append]; omega)) ?_
  refine Ev.bind (refPutInt_f h4.1 h4.2 _ (by simp only [List.length_append]; omega)) ?_
  refine Ev.bind (putList_f deps _ h5 (by simp only [List.length_append]; omega)) ?_
  have := putList_f frm (x ++ enc (wrap64 (seq - q)) ++ enc kind ++ enc obj ++ enc val ++ enc site ++ encL deps) h6 (by simp only [List.length_append]; omega)
  refine Ev.bind this ?_
  simpa [encR, List.append_assoc] using Ev.now (x ++ encR (wrap64 (seq - q)) kind obj val site deps frm)
end Go.Proofs.Ytkanlkgmiednfaa.Pl
