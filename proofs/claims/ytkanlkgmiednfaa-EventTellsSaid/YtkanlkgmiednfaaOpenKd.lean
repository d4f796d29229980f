/- An argument of whatever plain type, read as data, is read by its kind: numbers, strings, slices, structs, nested. No condition. -/
import Derived.Deep.Slices
import Derived.ChangeOld
import Derived.SizedLaws
import Derived.WideShapes
import Derived.Carry
import Derived.Test.YtkanlkgmiednfaaWWords
import Derived.Test.YtkanlkgmiednfaaWFoot
namespace Go.Proofs.Ytkanlkgmiednfaa.OpenKd
open Go.RowKit Go.Proofs.YtkanlkgmiednfaaW.PrintWords Go.ChangeShapes Go.WideShapes
set_option linter.unusedVariables false

/-- The weights of a datum are within the reach. -/
def Light {H : Type} (P : Program) (t : TypeId) (d : DataW H) : Prop := ∀ n ∈ DataW.weights P t d, n ≤ reachBytes
def Opens {α : Type} (P : Program) (d : Kd α) (t : TypeId) (J : α → Prop) : Prop :=
  ∀ (H : Type) (enc : TypeId × Value → H) (w : World) (fuel : Nat) (cs : List Value) (x : DataW H × List MemPlace), DataW.trod enc P w 0 (fun _ => true) true fuel t cs = some x → Light P t x.1 → ∃ y, d.K w y cs ∧ J y
theorem opens_int {P : Program} {t : TypeId} {k : IntKind} (ht : P.underlying t = some (.int k)) : Opens P (Kd.int k) t (fun n => (Lit.int k n).wf = true) := by
  intro H enc w fuel cs x h _
  obtain ⟨n, rfl, _, hw⟩ := DataW.trod_int ht h
  exact ⟨n, rfl, hw⟩
theorem opens_bool {P : Program} {t : TypeId} (ht : P.underlying t = some .bool) : Opens P Kd.bool t (fun _ => True) := by
  intro H enc w fuel cs x h _
  obtain ⟨b, rfl, _⟩ := DataW.trod_bool ht h
  exact ⟨b, rfl, trivial⟩
theorem opens_string {P : Program} {t : TypeId} (ht : P.underlying t = some .string) : Opens P Kd.string t (fun s => s.size ≤ 140737488351232) := by
  intro H enc w fuel cs x h hl
  obtain ⟨s, rfl, rfl, _⟩ := DataW.trod_string ht h
  refine ⟨s, rfl, ?_⟩
  have := hl s.data.toList.length (by simp [DataW.weights])
  rw [data_length] at this
  exact this
theorem list_of {α : Type} {p : Nat → α → Prop} : ∀ n : Nat, (∀ i, i < n → ∃ y, p i y) → ∃ ys : List α, ys.length = n ∧ ∀ i y, ys[i]? = some y → p i y
  | 0, _ => ⟨[], rfl, fun i y h => by simp at h⟩
  | n + 1, h => by
    obtain ⟨ys, hl, hp⟩ := list_of n (fun i hi => h i (by omega))
    obtain ⟨y, hy⟩ := h n (by omega)
    refine ⟨ys ++ [y], by simp [hl], fun i z hz => ?_⟩
    rcases Nat.lt_or_ge i ys.length with hi | hi
    · rw [List.getElem?_append_left hi] at hz
      exact hp i z hz
    · rw [List.getElem?_append_right hi] at hz
      have h0 : i - ys.length = 0 := by
        have := (List.getElem?_eq_some_iff.1 hz).1
        simp at this
        omega
      rw [h0] at hz
      have : y = z := by simpa using hz
      subst this
      obtain rfl : i = n := by omega
      exact hy
theorem weightsAll_mem {H : Type} {P : Program} {e : TypeId} : ∀ {l : List (DataW H)} {d : DataW H}, d ∈ l → ∀ n ∈ DataW.weights P e d, n ∈ DataW.weightsAll P e l
  | a :: l, d, h, n, hn => by
    simp only [DataW.weightsAll, List.mem_append]
    rcases List.mem_cons.1 h with rfl | h
    · exact .inl hn
    · exact .inr (weightsAll_mem h n hn)
theorem opens_slice {α : Type} {P : Program} {d : Kd α} {t e : TypeId} {J : α → Prop} {B : Nat} (ht : P.underlying t = some (.slice e)) (hd : Opens P d e J) (hsz : P.cellsOf e = d.sz) (hB : P.bytesOf e = B) :
    Opens P (Kd.slice e d) t (fun xs => xs.length ≤ maxLen ∧ xs.length * B ≤ 140737488351232 ∧ ∀ x ∈ xs, J x) := by
  intro H enc w fuel cs x h hl
  rcases Go.Deep.open_slice ht h with ⟨rfl, rfl⟩ | ⟨a, len, cap, m, n, D, Pl, rfl, _, hlc, hcm, hm, rfl, hx⟩
  · exact ⟨[], ⟨none, 0, rfl, Nat.le_refl _, Kd.C_nil _ _⟩, by simp, by simp, fun x hx => by simp at hx⟩
  · have hm' : m = cap := by simpa using hm
    subst hm'
    have hw : ∀ n ∈ DataW.weights P t (.slice ((List.range len).map D) ((List.range (m - len)).map fun j => D (len + j)) : DataW H), n ≤ reachBytes := hl
    simp only [DataW.weights, ht, List.length_map, List.length_range] at hw
    obtain ⟨ys, hyl, hys⟩ := list_of (p := fun i y => ∃ cs', w.cells? 0 (a.add (i * P.cellsOf e)) (P.cellsOf e) = some cs' ∧ d.K w y cs' ∧ J y) len (fun i hi => by
      obtain ⟨cs', h1, h2⟩ := hx i (by omega)
      obtain ⟨y, hk, hj⟩ := hd H enc w n cs' _ h2 (fun q hq => hw q (by
        refine List.mem_cons_of_mem _ (List.mem_append_left _ (weightsAll_mem (d := D i) ?_ q hq))
        exact List.mem_map.2 ⟨i, List.mem_range.2 hi, rfl⟩))
      exact ⟨y, cs', h1, hk, hj⟩)
    have hb := hw _ List.mem_cons_self
    rw [hB, show len + (m - len) = m by omega] at hb
    have hlb : len * B ≤ 140737488351232 := Nat.le_trans (Nat.mul_le_mul_right _ hlc) hb
    refine ⟨ys, ⟨some a, m, by rw [hyl], by omega, ⟨rfl, ?_, fun hp => ⟨a, rfl, fun j y hj => ?_⟩⟩⟩, by omega, by rw [hyl]; exact hlb, fun y hy => ?_⟩
    · have : m ≤ maxLen := hcm
      simp only [maxLen] at this
      omega
    · obtain ⟨cs', h1, hk, _⟩ := hys j y hj
      obtain ⟨_, hcl, hcell⟩ := World.cells?_some h1
      refine ⟨cs', by rw [hcl, hsz], hk, fun i u hu => ?_⟩
      have hi : i < P.cellsOf e := by rw [← hcl]; exact (List.getElem?_eq_some_iff.1 hu).1
      have := hcell i hi
      rw [Go.Deep.add_add, hsz] at this
      rw [this, hu]
    · obtain ⟨i, hi⟩ := List.mem_iff_getElem?.1 hy
      obtain ⟨_, _, _, hj⟩ := hys i y hi
      exact hj
/-- The fields of a struct from an offset on. -/
def OpF {α : Type} (P : Program) (fs : List Field) (off : Nat) (d : Kd α) (J : α → Prop) : Prop :=
  ∀ (H : Type) (enc : TypeId × Value → H) (w : World) (fuel : Nat) (cs : List Value) (xs : List (DataW H × List MemPlace)), cs.length = off + d.sz → xs.length = fs.length →
    (∀ (i : Nat) (f : Field), fs[i]? = some f → DataW.trod enc P w 0 (fun _ => true) true fuel f.type ((cs.drop f.offset).take (P.cellsOf f.type)) = xs[i]?) →
    (∀ n ∈ DataW.weightsEach P (fs.map (·.type)) (xs.map (·.1)), n ≤ reachBytes) → ∃ y, d.K w y (cs.drop off) ∧ J y
theorem opF_one {α : Type} {P : Program} {f : Field} {off : Nat} {d : Kd α} {J : α → Prop} {t : TypeId} (ht : f.type = t) (ho : f.offset = off) (hd : Opens P d t J) (hs : P.cellsOf t = d.sz) : OpF P [f] off d J := by
  intro H enc w fuel cs xs hl hx h hw
  subst ht
  match xs, hx with
  | [x], _ =>
    have h0 := h 0 f rfl
    rw [ho, hs, List.take_of_length_le (by rw [List.length_drop]; omega)] at h0
    exact hd H enc w fuel _ x (by simpa using h0) (fun n hn => hw n (by simp [DataW.weightsEach, hn]))
theorem opF_cons {α β : Type} {P : Program} {f : Field} {fs : List Field} {off : Nat} {a : Kd α} {b : Kd β} {J : α → Prop} {K : β → Prop} {t : TypeId} (ht : f.type = t) (ho : f.offset = off) (hd : Opens P a t J) (hs : P.cellsOf t = a.sz) (hr : OpF P fs (off + a.sz) b K) :
    OpF P (f :: fs) off (Kd.pair a b) (fun x => J x.1 ∧ K x.2) := by
  intro H enc w fuel cs xs hl hx h hw
  subst ht
  match xs, hx with
  | x :: xs, hx =>
    have hsz : (Kd.pair a b).sz = a.sz + b.sz := rfl
    rw [hsz] at hl
    have h0 := h 0 f rfl
    rw [ho, hs] at h0
    obtain ⟨y, hk, hj⟩ := hd H enc w fuel _ x (by simpa using h0) (fun n hn => hw n (by simp [DataW.weightsEach, hn]))
    obtain ⟨z, hk2, hj2⟩ := hr H enc w fuel cs xs (by omega) (by simpa using hx) (fun i g hg => by simpa using h (i + 1) g (by simpa using hg)) (fun n hn => hw n (by
      simp only [List.map_cons, DataW.weightsEach, List.mem_append]
      exact .inr hn))
    refine ⟨(y, z), ⟨(cs.drop off).take a.sz, cs.drop (off + a.sz), ?_, hk, hk2⟩, hj, hj2⟩
    rw [← List.drop_drop]
    exact (List.take_append_drop _ _).symm
theorem opens_struct {α β : Type} {P : Program} {t : TypeId} {fs : Array Field} {d : Kd α} {J : α → Prop} (f : β → α) (g : α → β) (hfg : ∀ x, f (g x) = x) (ht : P.underlying t = some (.struct fs)) (hs : P.cellsOf t = d.sz) (h : OpF P fs.toList 0 d J) : Opens P (Kd.iso d f) t (fun y => J (f y)) := by
  intro H enc w fuel cs x hx hl
  obtain ⟨xs, n, rfl, rfl, hc, hxl, hf⟩ := DataW.trod_struct ht hx
  have hw : ∀ q ∈ DataW.weights P t (.agg (xs.map (·.1)) : DataW H), q ≤ reachBytes := hl
  simp only [DataW.weights, ht] at hw
  obtain ⟨y, hk, hj⟩ := h H enc w n cs xs (by omega) (by simpa using hxl) (fun i f hi => hf i f (by simpa using hi)) hw
  refine ⟨g y, ?_, ?_⟩
  · show d.K w (f (g y)) cs
    rw [hfg]
    simpa using hk
  · show J (f (g y))
    rw [hfg]
    exact hj
theorem light_each {H : Type} {P : Program} {ts : List TypeId} {ds : List (DataW H)} (h : (DataW.weightsEach P ts ds).all (· ≤ reachBytes) = true) {j : Nat} {t : TypeId} {d : DataW H} (ht : ts[j]? = some t) (hd : ds[j]? = some d) : Light P t d := by
  intro n hn
  have := List.all_eq_true.1 h _ (DataW.weights_mem_each ht hd n hn)
  simpa using this
/-- A struct's value by its cells. -/
theorem agg_of_cells {v : Value} {c1 c2 : Value} {cs : List Value} (h : v.cells.toList = c1 :: c2 :: cs) : v = .agg (c1 :: c2 :: cs).toArray := by
  cases v <;> simp_all [Value.cells]
  rw [← h]
/-- A slice's value by its one cell. -/
theorem slice_of_cells {a A : Option Addr} {n m c d : Nat} (h : (Value.slice a n c).cells.toList = [.slice A m d]) : a = A ∧ n = m ∧ c = d := by
  simpa [Value.cells] using h
end Go.Proofs.Ytkanlkgmiednfaa.OpenKd
