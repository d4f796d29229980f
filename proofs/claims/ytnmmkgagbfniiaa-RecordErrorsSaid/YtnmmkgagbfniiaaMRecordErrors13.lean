/- MRecordErrors13: texts of this session and of the kit's printer on the road to the statement RecordErrors, laid into one and rid of what it doesn't need. No condition beyond what each fact names. -/
import Derived.Test.YtnmmkgagbfniiaaRows
import GoSem.ClaimJoined
import Derived.JoinedOf
import Derived.KernelRfl
section
namespace Go.Proofs.Ytnmmkgagbfniiaa.Ftab
open Go
set_option linter.unusedVariables false
structure Inf where
  leads : List Nat
  unf : Bool
  inp : Option String
  glo : List Nat
  ent : Option String
def infOf (P : Program) (fn : Func) : Inf := { leads := P.leadsTo fn, unf := (match fn.body with | some c => c.unfollowed | none => entryCalls fn), inp := if fn.ours || fn.body.isNone || fn.name == "runtime.NumGoroutine" then some fn.name else none, glo := (fn.body).elim [] Code.globalsNamed, ent := if fn.body.isNone then entryReads.lookup fn.name else none }
inductive Rows (P : Program) : Nat → List Inf → Prop
  | nil (k : Nat) : Rows P k []
  | cons {k : Nat} {i : Inf} {T : List Inf} (h : (P.funcs[k]?).map (infOf P) = some i) (hr : Rows P (k + 1) T) : Rows P k (i :: T)
theorem funcs_row {P : Program} {k : Nat} {fn : Func} {i : Inf} (h : P.funcs[k]? = some fn) (hi : infOf P fn = i) : (P.funcs[k]?).map (infOf P) = some i := by rw [h, ← hi]; rfl
theorem Rows.at_ {P : Program} : ∀ {T : List Inf} {k : Nat}, Rows P k T → ∀ j i, T[j]? = some i → (P.funcs[k + j]?).map (infOf P) = some i
  | [], _, _, j, i, h => by simp at h
  | i0 :: T, k, .cons h hr, 0, i, hj => by
    have e : i0 = i := by simpa using hj
    subst e
    exact h
  | _ :: T, k, .cons h hr, j + 1, i, hj => by
    have := hr.at_ j i (by simpa using hj)
    rwa [show k + 1 + j = k + (j + 1) by omega] at this
section
variable {P : Program} {T : List Inf}
theorem get_in (hs : P.funcs.size = T.length) (hR : Rows P 0 T) (g : Nat) (fn : Func) (h : P.funcs[g]? = some fn) : (T[g]?) = some (infOf P fn) := by
  have hg : g < T.length := by
    have := (Array.getElem?_eq_some_iff.1 h).1
    omega
  have h1 := hR.at_ g _ (List.getElem?_eq_getElem hg)
  rw [Nat.zero_add, h] at h1
  rw [List.getElem?_eq_getElem hg]
  simpa using h1.symm
theorem get_out (hs : P.funcs.size = T.length) (g : Nat) (h : P.funcs[g]? = none) : T[g]? = none := by
  have := Array.getElem?_eq_none_iff.1 h
  rw [List.getElem?_eq_none_iff]
  omega
theorem ask (hs : P.funcs.size = T.length) (hR : Rows P 0 T) {α : Type} (f : Inf → α) (d : α) (q : Func → α) (hq : ∀ fn, q fn = f (infOf P fn)) (g : Nat) : (P.funcs[g]?).elim d q = (T[g]?).elim d f := by
  cases h : P.funcs[g]? with
  | none => rw [get_out hs g h]; rfl
  | some fn => rw [get_in hs hR g fn h]; exact hq fn
def closureT (T : List Inf) : Nat → List Nat → List Nat → List Nat
  | 0, _, seen => seen.reverse
  | _, [], seen => seen.reverse
  | n + 1, f :: todo, seen => if seen.contains f then closureT T n todo seen else closureT T n ((T[f]?).elim [] Inf.leads ++ todo) (f :: seen)
theorem closure_eq (hs : P.funcs.size = T.length) (hR : Rows P 0 T) : ∀ (n : Nat) (todo seen : List Nat), P.closureVia n todo seen = closureT T n todo seen
  | 0, _, _ => by simp [Program.closureVia, closureT]
  | _ + 1, [], _ => by simp [Program.closureVia, closureT]
  | n + 1, f :: todo, seen => by
    simp only [Program.closureVia, closureT]
    rw [ask hs hR Inf.leads [] P.leadsTo (fun _ => rfl), closure_eq hs hR n, closure_eq hs hR n]
def fuelT (T : List Inf) : Nat := 1 + (T.map fun i => i.leads.length + 1).sum
theorem fuel_eq (hs : P.funcs.size = T.length) (hR : Rows P 0 T) : 1 + (P.funcs.toList.map fun g => (P.leadsTo g).length + 1).sum = fuelT T := by
  unfold fuelT
  congr 2
  apply List.ext_getElem?
  intro j
  rw [List.getElem?_map, List.getElem?_map, Array.getElem?_toList]
  cases h : P.funcs[j]? with
  | none => rw [get_out hs j h]; rfl
  | some fn => rw [get_in hs hR j fn h]; rfl
def clos (T : List Inf) (f : Nat) : List Nat := closureT T (fuelT T) [f] []
theorem clos_eq (hs : P.funcs.size = T.length) (hR : Rows P 0 T) (f : Nat) : P.closure f = clos T f := by
  unfold Program.closure clos
  rw [fuel_eq hs hR, closure_eq hs hR]
def inPlaceT (T : List Inf) (f : Nat) : List String := (clos T f).filterMap fun g => (T[g]?).bind Inf.inp
def unfollowedT (T : List Inf) (f : Nat) : Bool := (clos T f).any fun g => (T[g]?).elim false Inf.unf
def recursesT (T : List Inf) (f : Nat) : Bool := unfollowedT T f || (clos T f).any fun g => ((T[g]?).elim [] Inf.leads).any fun h => (clos T h).contains g
theorem filterMap_same {α β : Type} {p q : α → Option β} (l : List α) (h : ∀ a, p a = q a) : l.filterMap p = l.filterMap q := by rw [funext h]
theorem any_same {α : Type} {p q : α → Bool} (l : List α) (h : ∀ a, p a = q a) : l.any p = l.any q := by rw [funext h]
theorem flatMap_same {α β : Type} {p q : α → List β} (l : List α) (h : ∀ a, p a = q a) : l.flatMap p = l.flatMap q := by rw [funext h]
theorem inPlace_eq (hs : P.funcs.size = T.length) (hR : Rows P 0 T) (f : Nat) : P.inPlace f = inPlaceT T f := by
  unfold Program.inPlace inPlaceT
  rw [clos_eq hs hR]
  refine filterMap_same _ fun g => ?_
  cases h : P.funcs[g]? with
  | none => rw [get_out hs g h]; rfl
  | some fn => rw [get_in hs hR g fn h]; rfl
theorem unfollowed_eq (hs : P.funcs.size = T.length) (hR : Rows P 0 T) (f : Nat) : P.unfollowed f = unfollowedT T f := by
  unfold Program.unfollowed unfollowedT
  rw [clos_eq hs hR]
  refine any_same _ fun g => ?_
  cases h : P.funcs[g]? with
  | none => rw [get_out hs g h]; rfl
  | some fn => rw [get_in hs hR g fn h]; rfl
theorem recurses_eq (hs : P.funcs.size = T.length) (hR : Rows P 0 T) (f : Nat) : P.recurses f = recursesT T f := by
  unfold Program.recurses recursesT
  rw [clos_eq hs hR, unfollowed_eq hs hR]
  congr 1
  refine any_same _ fun g => ?_
  rw [ask hs hR Inf.leads [] P.leadsTo (fun _ => rfl)]
  exact any_same _ fun h => by rw [clos_eq hs hR]
def varsT (T : List Inf) (f : Nat) : List Nat × List String := (((clos T f).flatMap fun g => (T[g]?).elim [] Inf.glo), (clos T f).filterMap fun g => (T[g]?).bind Inf.ent)
theorem varsNamed_none (hs : P.funcs.size = T.length) (hR : Rows P 0 T) (f : Nat) (h : varsT T f = ([], [])) : P.varsNamed f = [] := by
  have h1 : ((P.closure f).flatMap fun g => ((P.funcs[g]?).bind (·.body)).elim [] Code.globalsNamed) = [] := by
    refine Eq.trans ?_ (congrArg Prod.fst h)
    unfold varsT
    show _ = ((clos T f).flatMap fun g => (T[g]?).elim [] Inf.glo)
    rw [clos_eq hs hR]
    refine flatMap_same _ fun g => ?_
    cases h : P.funcs[g]? with
    | none => rw [get_out hs g h]; rfl
    | some fn => rw [get_in hs hR g fn h]; rfl
  have h2 : ((P.closure f).filterMap fun g => (P.funcs[g]?).bind fun fn => if fn.body.isNone then entryReads.lookup fn.name else none) = [] := by
    refine Eq.trans ?_ (congrArg Prod.snd h)
    unfold varsT
    show _ = ((clos T f).filterMap fun g => (T[g]?).bind Inf.ent)
    rw [clos_eq hs hR]
    refine filterMap_same _ fun g => ?_
    cases h : P.funcs[g]? with
    | none => rw [get_out hs g h]; rfl
    | some fn => rw [get_in hs hR g fn h]; rfl
  unfold Program.varsNamed
  rw [h1, h2]
  rfl
end
theorem row0 : infOf Try.prog Try.f0 = ⟨[], false, some "main.main", [], none⟩ := by kernel_rfl
theorem row1 : infOf Try.prog Try.f1 = ⟨[], false, some "gosem.cut", [], none⟩ := by kernel_rfl
theorem row2 : infOf Try.prog Try.f2 = ⟨[1], false, none, [], none⟩ := by kernel_rfl
theorem row3 : infOf Try.prog Try.f3 = ⟨[11, 12, 13, 14, 13], false, none, [], none⟩ := by kernel_rfl
theorem row4 : infOf Try.prog Try.f4 = ⟨[11, 16, 15, 13, 17, 14, 12, 18, 19], false, none, [], none⟩ := by kernel_rfl
theorem row5 : infOf Try.prog Try.f5 = ⟨[20, 21, 22, 18, 23], false, none, [], none⟩ := by kernel_rfl
theorem row6 : infOf Try.prog Try.f6 = ⟨[24, 25, 26, 27, 28], false, none, [], none⟩ := by kernel_rfl
theorem row7 : infOf Try.prog Try.f7 = ⟨[25, 25, 25, 25, 25, 25, 28], false, none, [], none⟩ := by kernel_rfl
theorem row8 : infOf Try.prog Try.f8 = ⟨[29, 30, 31, 23], false, none, [], none⟩ := by kernel_rfl
theorem row9 : infOf Try.prog Try.f9 = ⟨[32, 33, 22, 22, 18, 34], false, none, [], none⟩ := by kernel_rfl
theorem row10 : infOf Try.prog Try.f10 = ⟨[35, 36, 37, 38, 39, 34], false, none, [], none⟩ := by kernel_rfl
theorem row11 : infOf Try.prog Try.f11 = ⟨[], false, none, [], none⟩ := by kernel_rfl
theorem row12 : infOf Try.prog Try.f12 = ⟨[40, 41, 41], false, none, [], none⟩ := by kernel_rfl
theorem row13 : infOf Try.prog Try.f13 = ⟨[42, 42, 42, 42, 42, 43, 43], false, none, [], none⟩ := by kernel_rfl
theorem row14 : infOf Try.prog Try.f14 = ⟨[44, 44], false, none, [], none⟩ := by kernel_rfl
theorem row15 : infOf Try.prog Try.f15 = ⟨[], false, none, [], none⟩ := by kernel_rfl
theorem row16 : infOf Try.prog Try.f16 = ⟨[45, 45, 45, 45, 45, 46, 46], false, none, [], none⟩ := by kernel_rfl
theorem row17 : infOf Try.prog Try.f17 = ⟨[47, 47, 47, 47, 47, 48, 48], false, none, [], none⟩ := by kernel_rfl
theorem row18 : infOf Try.prog Try.f18 = ⟨[], false, none, [], none⟩ := by kernel_rfl
theorem row19 : infOf Try.prog Try.f19 = ⟨[49], false, none, [], none⟩ := by kernel_rfl
theorem row20 : infOf Try.prog Try.f20 = ⟨[], false, none, [], none⟩ := by kernel_rfl
theorem row21 : infOf Try.prog Try.f21 = ⟨[50, 12, 51, 49, 52], false, none, [], none⟩ := by kernel_rfl
theorem row22 : infOf Try.prog Try.f22 = ⟨[53, 54, 55, 45, 45, 45, 45, 56], false, none, [], none⟩ := by kernel_rfl
theorem row23 : infOf Try.prog Try.f23 = ⟨[57], false, none, [], none⟩ := by kernel_rfl
theorem row24 : infOf Try.prog Try.f24 = ⟨[], false, none, [], none⟩ := by kernel_rfl
theorem row25 : infOf Try.prog Try.f25 = ⟨[58, 59, 60, 59], false, none, [], none⟩ := by kernel_rfl
theorem row26 : infOf Try.prog Try.f26 = ⟨[61, 62, 62], false, none, [], none⟩ := by kernel_rfl
theorem row27 : infOf Try.prog Try.f27 = ⟨[18], false, none, [], none⟩ := by kernel_rfl
theorem row28 : infOf Try.prog Try.f28 = ⟨[25], false, none, [], none⟩ := by kernel_rfl
theorem row29 : infOf Try.prog Try.f29 = ⟨[63, 52, 64, 21, 65], false, none, [], none⟩ := by kernel_rfl
theorem row30 : infOf Try.prog Try.f30 = ⟨[47, 47, 47, 47, 56, 66, 67, 22, 18], false, none, [], none⟩ := by kernel_rfl
theorem row31 : infOf Try.prog Try.f31 = ⟨[14], false, none, [], none⟩ := by kernel_rfl
theorem row32 : infOf Try.prog Try.f32 = ⟨[68], true, none, [], none⟩ := by kernel_rfl
theorem row33 : infOf Try.prog Try.f33 = ⟨[30], false, none, [], none⟩ := by kernel_rfl
theorem row34 : infOf Try.prog Try.f34 = ⟨[22, 32], false, none, [], none⟩ := by kernel_rfl
theorem row35 : infOf Try.prog Try.f35 = ⟨[], false, none, [], none⟩ := by kernel_rfl
theorem row36 : infOf Try.prog Try.f36 = ⟨[32, 69, 70, 72], false, none, [], none⟩ := by kernel_rfl
theorem row37 : infOf Try.prog Try.f37 = ⟨[33], false, none, [], none⟩ := by kernel_rfl
theorem row38 : infOf Try.prog Try.f38 = ⟨[73, 74], false, none, [], none⟩ := by kernel_rfl
theorem row39 : infOf Try.prog Try.f39 = ⟨[44], false, none, [], none⟩ := by kernel_rfl
theorem row40 : infOf Try.prog Try.f40 = ⟨[], false, none, [], none⟩ := by kernel_rfl
theorem row41 : infOf Try.prog Try.f41 = ⟨[40, 40], false, none, [], none⟩ := by kernel_rfl
theorem row42 : infOf Try.prog Try.f42 = ⟨[75], false, none, [], none⟩ := by kernel_rfl
theorem row43 : infOf Try.prog Try.f43 = ⟨[42, 42], false, none, [], none⟩ := by kernel_rfl
theorem row44 : infOf Try.prog Try.f44 = ⟨[], false, none, [], none⟩ := by kernel_rfl
theorem row45 : infOf Try.prog Try.f45 = ⟨[], false, none, [], none⟩ := by kernel_rfl
theorem row46 : infOf Try.prog Try.f46 = ⟨[45, 45], false, none, [], none⟩ := by kernel_rfl
theorem row47 : infOf Try.prog Try.f47 = ⟨[76], false, none, [], none⟩ := by kernel_rfl
theorem row48 : infOf Try.prog Try.f48 = ⟨[47, 47], false, none, [], none⟩ := by kernel_rfl
theorem row49 : infOf Try.prog Try.f49 = ⟨[40], false, none, [], none⟩ := by kernel_rfl
theorem row50 : infOf Try.prog Try.f50 = ⟨[], false, none, [], none⟩ := by kernel_rfl
theorem row51 : infOf Try.prog Try.f51 = ⟨[77, 78], true, none, [], none⟩ := by kernel_rfl
theorem row52 : infOf Try.prog Try.f52 = ⟨[57], false, none, [], none⟩ := by kernel_rfl
theorem row53 : infOf Try.prog Try.f53 = ⟨[], false, none, [], none⟩ := by kernel_rfl
theorem row54 : infOf Try.prog Try.f54 = ⟨[16], false, none, [], none⟩ := by kernel_rfl
theorem row55 : infOf Try.prog Try.f55 = ⟨[79, 80, 80, 80], false, none, [], none⟩ := by kernel_rfl
theorem row56 : infOf Try.prog Try.f56 = ⟨[], false, none, [], none⟩ := by kernel_rfl
theorem row57 : infOf Try.prog Try.f57 = ⟨[], false, none, [], none⟩ := by kernel_rfl
theorem row58 : infOf Try.prog Try.f58 = ⟨[], false, none, [], none⟩ := by kernel_rfl
theorem row59 : infOf Try.prog Try.f59 = ⟨[81], false, none, [], none⟩ := by kernel_rfl
theorem row60 : infOf Try.prog Try.f60 = ⟨[81], false, none, [], none⟩ := by kernel_rfl
theorem row61 : infOf Try.prog Try.f61 = ⟨[], false, none, [], none⟩ := by kernel_rfl
theorem row62 : infOf Try.prog Try.f62 = ⟨[22], false, none, [], none⟩ := by kernel_rfl
theorem row63 : infOf Try.prog Try.f63 = ⟨[75, 82], true, none, [], none⟩ := by kernel_rfl
theorem row64 : infOf Try.prog Try.f64 = ⟨[83, 13], false, none, [], none⟩ := by kernel_rfl
theorem row65 : infOf Try.prog Try.f65 = ⟨[], false, none, [], none⟩ := by kernel_rfl
theorem row66 : infOf Try.prog Try.f66 = ⟨[], false, none, [], none⟩ := by kernel_rfl
theorem row67 : infOf Try.prog Try.f67 = ⟨[17], false, none, [], none⟩ := by kernel_rfl
theorem row68 : infOf Try.prog Try.f68 = ⟨[84], false, none, [], none⟩ := by kernel_rfl
theorem row69 : infOf Try.prog Try.f69 = ⟨[85], false, none, [], none⟩ := by kernel_rfl
theorem row70 : infOf Try.prog Try.f70 = ⟨[71], false, none, [], none⟩ := by kernel_rfl
theorem row71 : infOf Try.prog Try.f71 = ⟨[86, 86], false, none, [], none⟩ := by kernel_rfl
theorem row72 : infOf Try.prog Try.f72 = ⟨[87, 88, 89, 90, 90, 91], false, none, [], none⟩ := by kernel_rfl
theorem row73 : infOf Try.prog Try.f73 = ⟨[], false, none, [], none⟩ := by kernel_rfl
theorem row74 : infOf Try.prog Try.f74 = ⟨[14], false, none, [], none⟩ := by kernel_rfl
theorem row75 : infOf Try.prog Try.f75 = ⟨[], false, none, [], none⟩ := by kernel_rfl
theorem row76 : infOf Try.prog Try.f76 = ⟨[], false, none, [], none⟩ := by kernel_rfl
theorem row77 : infOf Try.prog Try.f77 = ⟨[], false, none, [], none⟩ := by kernel_rfl
theorem row78 : infOf Try.prog Try.f78 = ⟨[], false, none, [], none⟩ := by kernel_rfl
theorem row79 : infOf Try.prog Try.f79 = ⟨[], false, none, [], none⟩ := by kernel_rfl
theorem row80 : infOf Try.prog Try.f80 = ⟨[], false, none, [], none⟩ := by kernel_rfl
theorem row81 : infOf Try.prog Try.f81 = ⟨[21], false, none, [], none⟩ := by kernel_rfl
theorem row82 : infOf Try.prog Try.f82 = ⟨[], false, none, [], none⟩ := by kernel_rfl
theorem row83 : infOf Try.prog Try.f83 = ⟨[], false, none, [], none⟩ := by kernel_rfl
theorem row84 : infOf Try.prog Try.f84 = ⟨[29], true, none, [], none⟩ := by kernel_rfl
theorem row85 : infOf Try.prog Try.f85 = ⟨[92, 92, 93, 93], false, none, [], none⟩ := by kernel_rfl
theorem row86 : infOf Try.prog Try.f86 = ⟨[], false, none, [], none⟩ := by kernel_rfl
theorem row87 : infOf Try.prog Try.f87 = ⟨[], false, none, [], none⟩ := by kernel_rfl
theorem row88 : infOf Try.prog Try.f88 = ⟨[], false, none, [], none⟩ := by kernel_rfl
theorem row89 : infOf Try.prog Try.f89 = ⟨[], false, none, [], none⟩ := by kernel_rfl
theorem row90 : infOf Try.prog Try.f90 = ⟨[], false, none, [], none⟩ := by kernel_rfl
theorem row91 : infOf Try.prog Try.f91 = ⟨[], false, none, [], none⟩ := by kernel_rfl
theorem row92 : infOf Try.prog Try.f92 = ⟨[], true, none, [], none⟩ := by kernel_rfl
theorem row93 : infOf Try.prog Try.f93 = ⟨[94, 93, 93], true, none, [], none⟩ := by kernel_rfl
theorem row94 : infOf Try.prog Try.f94 = ⟨[95, 95, 95], false, none, [], none⟩ := by kernel_rfl
theorem row95 : infOf Try.prog Try.f95 = ⟨[], false, none, [], none⟩ := by kernel_rfl
theorem row96 : infOf Try.prog Try.f96 = ⟨[], false, some "(runtime.boundsError).Error", [], none⟩ := by kernel_rfl
theorem row97 : infOf Try.prog Try.f97 = ⟨[], false, some "(runtime.boundsError).RuntimeError", [], none⟩ := by kernel_rfl
theorem row98 : infOf Try.prog Try.f98 = ⟨[], false, some "(runtime.errorString).Error", [], none⟩ := by kernel_rfl
theorem row99 : infOf Try.prog Try.f99 = ⟨[], false, some "(runtime.errorString).RuntimeError", [], none⟩ := by kernel_rfl
theorem row100 : infOf Try.prog Try.f100 = ⟨[], false, some "(runtime.plainError).Error", [], none⟩ := by kernel_rfl
theorem row101 : infOf Try.prog Try.f101 = ⟨[], false, some "(runtime.plainError).RuntimeError", [], none⟩ := by kernel_rfl
theorem row102 : infOf Try.prog Try.f102 = ⟨[], false, some "(runtime.errorAddressString).Error", [], none⟩ := by kernel_rfl
theorem row103 : infOf Try.prog Try.f103 = ⟨[], false, some "(runtime.errorAddressString).RuntimeError", [], none⟩ := by kernel_rfl
theorem row104 : infOf Try.prog Try.f104 = ⟨[], false, some "(*runtime.TypeAssertionError).Error", [], none⟩ := by kernel_rfl
theorem row105 : infOf Try.prog Try.f105 = ⟨[], false, some "(*runtime.TypeAssertionError).RuntimeError", [], none⟩ := by kernel_rfl
theorem row106 : infOf Try.prog Try.f106 = ⟨[], false, some "(*runtime.PanicNilError).Error", [], none⟩ := by kernel_rfl
theorem row107 : infOf Try.prog Try.f107 = ⟨[], false, some "(*runtime.PanicNilError).RuntimeError", [], none⟩ := by kernel_rfl
theorem row108 : infOf Try.prog Try.f108 = ⟨[], false, some "(*internal/abi.Type).Align", [], none⟩ := by kernel_rfl
theorem row109 : infOf Try.prog Try.f109 = ⟨[], false, some "(internal/runtime/maps.unhashableTypeError).Error", [], none⟩ := by kernel_rfl
theorem row110 : infOf Try.prog Try.f110 = ⟨[], false, some "(internal/runtime/maps.unhashableTypeError).RuntimeError", [], none⟩ := by kernel_rfl
theorem row111 : infOf Try.prog Try.f111 = ⟨[], false, some "(internal/abi.Kind).String", [], none⟩ := by kernel_rfl
def tab : List Inf := [⟨[], false, some "main.main", [], none⟩,
  ⟨[], false, some "gosem.cut", [], none⟩,
  ⟨[1], false, none, [], none⟩,
  ⟨[11, 12, 13, 14, 13], false, none, [], none⟩,
  ⟨[11, 16, 15, 13, 17, 14, 12, 18, 19], false, none, [], none⟩,
  ⟨[20, 21, 22, 18, 23], false, none, [], none⟩,
  ⟨[24, 25, 26, 27, 28], false, none, [], none⟩,
  ⟨[25, 25, 25, 25, 25, 25, 28], false, none, [], none⟩,
  ⟨[29, 30, 31, 23], false, none, [], none⟩,
  ⟨[32, 33, 22, 22, 18, 34], false, none, [], none⟩,
  ⟨[35, 36, 37, 38, 39, 34], false, none, [], none⟩,
  ⟨[], false, none, [], none⟩,
  ⟨[40, 41, 41], false, none, [], none⟩,
  ⟨[42, 42, 42, 42, 42, 43, 43], false, none, [], none⟩,
  ⟨[44, 44], false, none, [], none⟩,
  ⟨[], false, none, [], none⟩,
  ⟨[45, 45, 45, 45, 45, 46, 46], false, none, [], none⟩,
  ⟨[47, 47, 47, 47, 47, 48, 48], false, none, [], none⟩,
  ⟨[], false, none, [], none⟩,
  ⟨[49], false, none, [], none⟩,
  ⟨[], false, none, [], none⟩,
  ⟨[50, 12, 51, 49, 52], false, none, [], none⟩,
  ⟨[53, 54, 55, 45, 45, 45, 45, 56], false, none, [], none⟩,
  ⟨[57], false, none, [], none⟩,
  ⟨[], false, none, [], none⟩,
  ⟨[58, 59, 60, 59], false, none, [], none⟩,
  ⟨[61, 62, 62], false, none, [], none⟩,
  ⟨[18], false, none, [], none⟩,
  ⟨[25], false, none, [], none⟩,
  ⟨[63, 52, 64, 21, 65], false, none, [], none⟩,
  ⟨[47, 47, 47, 47, 56, 66, 67, 22, 18], false, none, [], none⟩,
  ⟨[14], false, none, [], none⟩,
  ⟨[68], true, none, [], none⟩,
  ⟨[30], false, none, [], none⟩,
  ⟨[22, 32], false, none, [], none⟩,
  ⟨[], false, none, [], none⟩,
  ⟨[32, 69, 70, 72], false, none, [], none⟩,
  ⟨[33], false, none, [], none⟩,
  ⟨[73, 74], false, none, [], none⟩,
  ⟨[44], false, none, [], none⟩,
  ⟨[], false, none, [], none⟩,
  ⟨[40, 40], false, none, [], none⟩,
  ⟨[75], false, none, [], none⟩,
  ⟨[42, 42], false, none, [], none⟩,
  ⟨[], false, none, [], none⟩,
  ⟨[], false, none, [], none⟩,
  ⟨[45, 45], false, none, [], none⟩,
  ⟨[76], false, none, [], none⟩,
  ⟨[47, 47], false, none, [], none⟩,
  ⟨[40], false, none, [], none⟩,
  ⟨[], false, none, [], none⟩,
  ⟨[77, 78], true, none, [], none⟩,
  ⟨[57], false, none, [], none⟩,
  ⟨[], false, none, [], none⟩,
  ⟨[16], false, none, [], none⟩,
  ⟨[79, 80, 80, 80], false, none, [], none⟩,
  ⟨[], false, none, [], none⟩,
  ⟨[], false, none, [], none⟩,
  ⟨[], false, none, [], none⟩,
  ⟨[81], false, none, [], none⟩,
  ⟨[81], false, none, [], none⟩,
  ⟨[], false, none, [], none⟩,
  ⟨[22], false, none, [], none⟩,
  ⟨[75, 82], true, none, [], none⟩,
  ⟨[83, 13], false, none, [], none⟩,
  ⟨[], false, none, [], none⟩,
  ⟨[], false, none, [], none⟩,
  ⟨[17], false, none, [], none⟩,
  ⟨[84], false, none, [], none⟩,
  ⟨[85], false, none, [], none⟩,
  ⟨[71], false, none, [], none⟩,
  ⟨[86, 86], false, none, [], none⟩,
  ⟨[87, 88, 89, 90, 90, 91], false, none, [], none⟩,
  ⟨[], false, none, [], none⟩,
  ⟨[14], false, none, [], none⟩,
  ⟨[], false, none, [], none⟩,
  ⟨[], false, none, [], none⟩,
  ⟨[], false, none, [], none⟩,
  ⟨[], false, none, [], none⟩,
  ⟨[], false, none, [], none⟩,
  ⟨[], false, none, [], none⟩,
  ⟨[21], false, none, [], none⟩,
  ⟨[], false, none, [], none⟩,
  ⟨[], false, none, [], none⟩,
  ⟨[29], true, none, [], none⟩,
  ⟨[92, 92, 93, 93], false, none, [], none⟩,
  ⟨[], false, none, [], none⟩,
  ⟨[], false, none, [], none⟩,
  ⟨[], false, none, [], none⟩,
  ⟨[], false, none, [], none⟩,
  ⟨[], false, none, [], none⟩,
  ⟨[], false, none, [], none⟩,
  ⟨[], true, none, [], none⟩,
  ⟨[94, 93, 93], true, none, [], none⟩,
  ⟨[95, 95, 95], false, none, [], none⟩,
  ⟨[], false, none, [], none⟩,
  ⟨[], false, some "(runtime.boundsError).Error", [], none⟩,
  ⟨[], false, some "(runtime.boundsError).RuntimeError", [], none⟩,
  ⟨[], false, some "(runtime.errorString).Error", [], none⟩,
  ⟨[], false, some "(runtime.errorString).RuntimeError", [], none⟩,
  ⟨[], false, some "(runtime.plainError).Error", [], none⟩,
  ⟨[], false, some "(runtime.plainError).RuntimeError", [], none⟩,
  ⟨[], false, some "(runtime.errorAddressString).Error", [], none⟩,
  ⟨[], false, some "(runtime.errorAddressString).RuntimeError", [], none⟩,
  ⟨[], false, some "(*runtime.TypeAssertionError).Error", [], none⟩,
  ⟨[], false, some "(*runtime.TypeAssertionError).RuntimeError", [], none⟩,
  ⟨[], false, some "(*runtime.PanicNilError).Error", [], none⟩,
  ⟨[], false, some "(*runtime.PanicNilError).RuntimeError", [], none⟩,
  ⟨[], false, some "(*internal/abi.Type).Align", [], none⟩,
  ⟨[], false, some "(internal/runtime/maps.unhashableTypeError).Error", [], none⟩,
  ⟨[], false, some "(internal/runtime/maps.unhashableTypeError).RuntimeError", [], none⟩,
  ⟨[], false, some "(internal/abi.Kind).String", [], none⟩]
theorem size : Try.prog.funcs.size = 112 := by kernel_rfl
set_option maxRecDepth 100000 in
theorem rows : Rows Try.prog 0 tab := .cons (funcs_row Try.func0 row0)
 (.cons (funcs_row Try.func1 row1)
 (.cons (funcs_row Try.func2 row2)
 (.cons (funcs_row Try.func3 row3)
 (.cons (funcs_row Try.func4 row4)
 (.cons (funcs_row Try.func5 row5)
 (.cons (funcs_row Try.func6 row6)
 (.cons (funcs_row Try.func7 row7)
 (.cons (funcs_row Try.func8 row8)
 (.cons (funcs_row Try.func9 row9)
 (.cons (funcs_row Try.func10 row10)
 (.cons (funcs_row Try.func11 row11)
 (.cons (funcs_row Try.func12 row12)
 (.cons (funcs_row Try.func13 row13)
 (.cons (funcs_row Try.func14 row14)
 (.cons (funcs_row Try.func15 row15)
 (.cons (funcs_row Try.func16 row16)
 (.cons (funcs_row Try.func17 row17)
 (.cons (funcs_row Try.func18 row18)
 (.cons (funcs_row Try.func19 row19)
 (.cons (funcs_row Try.func20 row20)
 (.cons (funcs_row Try.func21 row21)
 (.cons (funcs_row Try.func22 row22)
 (.cons (funcs_row Try.func23 row23)
 (.cons (funcs_row Try.func24 row24)
 (.cons (funcs_row Try.func25 row25)
 (.cons (funcs_row Try.func26 row26)
 (.cons (funcs_row Try.func27 row27)
 (.cons (funcs_row Try.func28 row28)
 (.cons (funcs_row Try.func29 row29)
 (.cons (funcs_row Try.func30 row30)
 (.cons (funcs_row Try.func31 row31)
 (.cons (funcs_row Try.func32 row32)
 (.cons (funcs_row Try.func33 row33)
 (.cons (funcs_row Try.func34 row34)
 (.cons (funcs_row Try.func35 row35)
 (.cons (funcs_row Try.func36 row36)
 (.cons (funcs_row Try.func37 row37)
 (.cons (funcs_row Try.func38 row38)
 (.cons (funcs_row Try.func39 row39)
 (.cons (funcs_row Try.func40 row40)
 (.cons (funcs_row Try.func41 row41)
 (.cons (funcs_row Try.func42 row42)
 (.cons (funcs_row Try.func43 row43)
 (.cons (funcs_row Try.func44 row44)
 (.cons (funcs_row Try.func45 row45)
 (.cons (funcs_row Try.func46 row46)
 (.cons (funcs_row Try.func47 row47)
 (.cons (funcs_row Try.func48 row48)
 (.cons (funcs_row Try.func49 row49)
 (.cons (funcs_row Try.func50 row50)
 (.cons (funcs_row Try.func51 row51)
 (.cons (funcs_row Try.func52 row52)
 (.cons (funcs_row Try.func53 row53)
 (.cons (funcs_row Try.func54 row54)
 (.cons (funcs_row Try.func55 row55)
 (.cons (funcs_row Try.func56 row56)
 (.cons (funcs_row Try.func57 row57)
 (.cons (funcs_row Try.func58 row58)
 (.cons (funcs_row Try.func59 row59)
 (.cons (funcs_row Try.func60 row60)
 (.cons (funcs_row Try.func61 row61)
 (.cons (funcs_row Try.func62 row62)
 (.cons (funcs_row Try.func63 row63)
 (.cons (funcs_row Try.func64 row64)
 (.cons (funcs_row Try.func65 row65)
 (.cons (funcs_row Try.func66 row66)
 (.cons (funcs_row Try.func67 row67)
 (.cons (funcs_row Try.func68 row68)
 (.cons (funcs_row Try.func69 row69)
 (.cons (funcs_row Try.func70 row70)
 (.cons (funcs_row Try.func71 row71)
 (.cons (funcs_row Try.func72 row72)
 (.cons (funcs_row Try.func73 row73)
 (.cons (funcs_row Try.func74 row74)
 (.cons (funcs_row Try.func75 row75)
 (.cons (funcs_row Try.func76 row76)
 (.cons (funcs_row Try.func77 row77)
 (.cons (funcs_row Try.func78 row78)
 (.cons (funcs_row Try.func79 row79)
 (.cons (funcs_row Try.func80 row80)
 (.cons (funcs_row Try.func81 row81)
 (.cons (funcs_row Try.func82 row82)
 (.cons (funcs_row Try.func83 row83)
 (.cons (funcs_row Try.func84 row84)
 (.cons (funcs_row Try.func85 row85)
 (.cons (funcs_row Try.func86 row86)
 (.cons (funcs_row Try.func87 row87)
 (.cons (funcs_row Try.func88 row88)
 (.cons (funcs_row Try.func89 row89)
 (.cons (funcs_row Try.func90 row90)
 (.cons (funcs_row Try.func91 row91)
 (.cons (funcs_row Try.func92 row92)
 (.cons (funcs_row Try.func93 row93)
 (.cons (funcs_row Try.func94 row94)
 (.cons (funcs_row Try.func95 row95)
 (.cons (funcs_row Try.func96 row96)
 (.cons (funcs_row Try.func97 row97)
 (.cons (funcs_row Try.func98 row98)
 (.cons (funcs_row Try.func99 row99)
 (.cons (funcs_row Try.func100 row100)
 (.cons (funcs_row Try.func101 row101)
 (.cons (funcs_row Try.func102 row102)
 (.cons (funcs_row Try.func103 row103)
 (.cons (funcs_row Try.func104 row104)
 (.cons (funcs_row Try.func105 row105)
 (.cons (funcs_row Try.func106 row106)
 (.cons (funcs_row Try.func107 row107)
 (.cons (funcs_row Try.func108 row108)
 (.cons (funcs_row Try.func109 row109)
 (.cons (funcs_row Try.func110 row110)
 (.cons (funcs_row Try.func111 row111)
 (.nil _))))))))))))))))))))))))))))))))))))))))))))))))))))))))))))))))))))))))))))))))))))))))))))))))))))))))))))))))
abbrev ch_ (n : Nat) : Char := Char.ofNat n
def signs : List Char := [ch_ 104, ch_ 97, ch_ 114, ch_ 110, ch_ 101, ch_ 115, ch_ 115, ch_ 32, ch_ 48, ch_ 54, ch_ 100, ch_ 99, ch_ 51, ch_ 57, ch_ 48, ch_ 100, ch_ 101, ch_ 100, ch_ 101, ch_ 101, ch_ 99, ch_ 50, ch_ 98, ch_ 100, ch_ 97, ch_ 51, ch_ 57, ch_ 102, ch_ 53, ch_ 52, ch_ 49, ch_ 57, ch_ 54, ch_ 52, ch_ 100, ch_ 101, ch_ 56, ch_ 98, ch_ 51, ch_ 101, ch_ 49, ch_ 49, ch_ 101, ch_ 48, ch_ 55, ch_ 99, ch_ 53, ch_ 55, ch_ 50, ch_ 55, ch_ 53, ch_ 54, ch_ 52, ch_ 102, ch_ 100, ch_ 56, ch_ 98, ch_ 49, ch_ 100, ch_ 49, ch_ 49, ch_ 51, ch_ 97, ch_ 53, ch_ 101, ch_ 100, ch_ 100, ch_ 99, ch_ 48, ch_ 98, ch_ 48, ch_ 51, ch_ 32, ch_ 99, ch_ 117, ch_ 116, ch_ 32, ch_ 97, ch_ 116, ch_ 32, ch_ 105, ch_ 110, ch_ 116, ch_ 101, ch_ 114, ch_ 108, ch_ 101, ch_ 97, ch_ 118, ch_ 101, ch_ 47, ch_ 105, ch_ 110, ch_ 116, ch_ 101, ch_ 114, ch_ 108, ch_ 101, ch_ 97, ch_ 118, ch_ 101, ch_ 108, ch_ 97, ch_ 119, ch_ 49, ch_ 49, ch_ 46, ch_ 69, ch_ 118, ch_ 101, ch_ 110, ch_ 116, ch_ 82, ch_ 111, ch_ 117, ch_ 110, ch_ 100, ch_ 84, ch_ 114, ch_ 105, ch_ 112, ch_ 32, ch_ 105, ch_ 110, ch_ 116, ch_ 101, ch_ 114, ch_ 108, ch_ 101, ch_ 97, ch_ 118, ch_ 101, ch_ 47, ch_ 105, ch_ 110, ch_ 116, ch_ 101, ch_ 114, ch_ 108, ch_ 101, ch_ 97, ch_ 118, ch_ 101, ch_ 108, ch_ 97, ch_ 119, ch_ 49, ch_ 49, ch_ 46, ch_ 69, ch_ 118, ch_ 101, ch_ 110, ch_ 116, ch_ 83, ch_ 112, ch_ 111, ch_ 105, ch_ 108, ch_ 116, ch_ 32, ch_ 105, ch_ 110, ch_ 116, ch_ 101, ch_ 114, ch_ 108, ch_ 101, ch_ 97, ch_ 118, ch_ 101, ch_ 47, ch_ 105, ch_ 110, ch_ 116, ch_ 101, ch_ 114, ch_ 108, ch_ 101, ch_ 97, ch_ 118, ch_ 101, ch_ 108, ch_ 97, ch_ 119, ch_ 49, ch_ 51, ch_ 46, ch_ 66, ch_ 108, ch_ 111, ch_ 99, ch_ 107, ch_ 84, ch_ 101, ch_ 108, ch_ 108, ch_ 115, ch_ 32, ch_ 105, ch_ 110, ch_ 116, ch_ 101, ch_ 114, ch_ 108, ch_ 101, ch_ 97, ch_ 118, ch_ 101, ch_ 47, ch_ 105, ch_ 110, ch_ 116, ch_ 101, ch_ 114, ch_ 108, ch_ 101, ch_ 97, ch_ 118, ch_ 101, ch_ 108, ch_ 97, ch_ 119, ch_ 49, ch_ 52, ch_ 46, ch_ 82, ch_ 101, ch_ 99, ch_ 111, ch_ 114, ch_ 100, ch_ 84, ch_ 101, ch_ 108, ch_ 108, ch_ 115, ch_ 32, ch_ 105, ch_ 110, ch_ 116, ch_ 101, ch_ 114, ch_ 108, ch_ 101, ch_ 97, ch_ 118, ch_ 101, ch_ 47, ch_ 105, ch_ 110, ch_ 116, ch_ 101, ch_ 114, ch_ 108, ch_ 101, ch_ 97, ch_ 118, ch_ 101, ch_ 108, ch_ 97, ch_ 119, ch_ 49, ch_ 52, ch_ 46, ch_ 82, ch_ 101, ch_ 99, ch_ 111, ch_ 114, ch_ 100, ch_ 69, ch_ 114, ch_ 114, ch_ 111, ch_ 114, ch_ 115, ch_ 32, ch_ 105, ch_ 110, ch_ 116, ch_ 101, ch_ 114, ch_ 108, ch_ 101, ch_ 97, ch_ 118, ch_ 101, ch_ 47, ch_ 105, ch_ 110, ch_ 116, ch_ 101, ch_ 114, ch_ 108, ch_ 101, ch_ 97, ch_ 118, ch_ 101, ch_ 108, ch_ 97, ch_ 119, ch_ 49, ch_ 51, ch_ 46, ch_ 66, ch_ 108, ch_ 111, ch_ 99, ch_ 107, ch_ 82, ch_ 101, ch_ 97, ch_ 100, ch_ 115, ch_ 32, ch_ 105, ch_ 110, ch_ 116, ch_ 101, ch_ 114, ch_ 108, ch_ 101, ch_ 97, ch_ 118, ch_ 101, ch_ 47, ch_ 105, ch_ 110, ch_ 116, ch_ 101, ch_ 114, ch_ 108, ch_ 101, ch_ 97, ch_ 118, ch_ 101, ch_ 108, ch_ 97, ch_ 119, ch_ 49, ch_ 53, ch_ 46, ch_ 67, ch_ 111, ch_ 108, ch_ 108, ch_ 101, ch_ 99, ch_ 116, ch_ 66, ch_ 108, ch_ 111, ch_ 99, ch_ 107, ch_ 115, ch_ 32, ch_ 105, ch_ 110, ch_ 116, ch_ 101, ch_ 114, ch_ 108, ch_ 101, ch_ 97, ch_ 118, ch_ 101, ch_ 47, ch_ 105, ch_ 110, ch_ 116, ch_ 101, ch_ 114, ch_ 108, ch_ 101, ch_ 97, ch_ 118, ch_ 101, ch_ 108, ch_ 97, ch_ 119, ch_ 49, ch_ 53, ch_ 46, ch_ 67, ch_ 111, ch_ 108, ch_ 108, ch_ 101, ch_ 99, ch_ 116, ch_ 84, ch_ 101, ch_ 108, ch_ 108, ch_ 115]
theorem signs_eq : Try.prog.initOrder.toList = signs := by
  have h : Try.prog.initOrder = String.ofList signs := by kernel_rfl
  rw [h, String.toList_ofList]
def words : List (List Char) := [[ch_ 99, ch_ 117, ch_ 116],
  [ch_ 97, ch_ 116],
  [ch_ 105, ch_ 110, ch_ 116, ch_ 101, ch_ 114, ch_ 108, ch_ 101, ch_ 97, ch_ 118, ch_ 101, ch_ 47, ch_ 105, ch_ 110, ch_ 116, ch_ 101, ch_ 114, ch_ 108, ch_ 101, ch_ 97, ch_ 118, ch_ 101, ch_ 108, ch_ 97, ch_ 119, ch_ 49, ch_ 49, ch_ 46, ch_ 69, ch_ 118, ch_ 101, ch_ 110, ch_ 116, ch_ 82, ch_ 111, ch_ 117, ch_ 110, ch_ 100, ch_ 84, ch_ 114, ch_ 105, ch_ 112],
  [ch_ 105, ch_ 110, ch_ 116, ch_ 101, ch_ 114, ch_ 108, ch_ 101, ch_ 97, ch_ 118, ch_ 101, ch_ 47, ch_ 105, ch_ 110, ch_ 116, ch_ 101, ch_ 114, ch_ 108, ch_ 101, ch_ 97, ch_ 118, ch_ 101, ch_ 108, ch_ 97, ch_ 119, ch_ 49, ch_ 49, ch_ 46, ch_ 69, ch_ 118, ch_ 101, ch_ 110, ch_ 116, ch_ 83, ch_ 112, ch_ 111, ch_ 105, ch_ 108, ch_ 116],
  [ch_ 105, ch_ 110, ch_ 116, ch_ 101, ch_ 114, ch_ 108, ch_ 101, ch_ 97, ch_ 118, ch_ 101, ch_ 47, ch_ 105, ch_ 110, ch_ 116, ch_ 101, ch_ 114, ch_ 108, ch_ 101, ch_ 97, ch_ 118, ch_ 101, ch_ 108, ch_ 97, ch_ 119, ch_ 49, ch_ 51, ch_ 46, ch_ 66, ch_ 108, ch_ 111, ch_ 99, ch_ 107, ch_ 84, ch_ 101, ch_ 108, ch_ 108, ch_ 115],
  [ch_ 105, ch_ 110, ch_ 116, ch_ 101, ch_ 114, ch_ 108, ch_ 101, ch_ 97, ch_ 118, ch_ 101, ch_ 47, ch_ 105, ch_ 110, ch_ 116, ch_ 101, ch_ 114, ch_ 108, ch_ 101, ch_ 97, ch_ 118, ch_ 101, ch_ 108, ch_ 97, ch_ 119, ch_ 49, ch_ 52, ch_ 46, ch_ 82, ch_ 101, ch_ 99, ch_ 111, ch_ 114, ch_ 100, ch_ 84, ch_ 101, ch_ 108, ch_ 108, ch_ 115],
  [ch_ 105, ch_ 110, ch_ 116, ch_ 101, ch_ 114, ch_ 108, ch_ 101, ch_ 97, ch_ 118, ch_ 101, ch_ 47, ch_ 105, ch_ 110, ch_ 116, ch_ 101, ch_ 114, ch_ 108, ch_ 101, ch_ 97, ch_ 118, ch_ 101, ch_ 108, ch_ 97, ch_ 119, ch_ 49, ch_ 52, ch_ 46, ch_ 82, ch_ 101, ch_ 99, ch_ 111, ch_ 114, ch_ 100, ch_ 69, ch_ 114, ch_ 114, ch_ 111, ch_ 114, ch_ 115],
  [ch_ 105, ch_ 110, ch_ 116, ch_ 101, ch_ 114, ch_ 108, ch_ 101, ch_ 97, ch_ 118, ch_ 101, ch_ 47, ch_ 105, ch_ 110, ch_ 116, ch_ 101, ch_ 114, ch_ 108, ch_ 101, ch_ 97, ch_ 118, ch_ 101, ch_ 108, ch_ 97, ch_ 119, ch_ 49, ch_ 51, ch_ 46, ch_ 66, ch_ 108, ch_ 111, ch_ 99, ch_ 107, ch_ 82, ch_ 101, ch_ 97, ch_ 100, ch_ 115],
  [ch_ 105, ch_ 110, ch_ 116, ch_ 101, ch_ 114, ch_ 108, ch_ 101, ch_ 97, ch_ 118, ch_ 101, ch_ 47, ch_ 105, ch_ 110, ch_ 116, ch_ 101, ch_ 114, ch_ 108, ch_ 101, ch_ 97, ch_ 118, ch_ 101, ch_ 108, ch_ 97, ch_ 119, ch_ 49, ch_ 53, ch_ 46, ch_ 67, ch_ 111, ch_ 108, ch_ 108, ch_ 101, ch_ 99, ch_ 116, ch_ 66, ch_ 108, ch_ 111, ch_ 99, ch_ 107, ch_ 115],
  [ch_ 105, ch_ 110, ch_ 116, ch_ 101, ch_ 114, ch_ 108, ch_ 101, ch_ 97, ch_ 118, ch_ 101, ch_ 47, ch_ 105, ch_ 110, ch_ 116, ch_ 101, ch_ 114, ch_ 108, ch_ 101, ch_ 97, ch_ 118, ch_ 101, ch_ 108, ch_ 97, ch_ 119, ch_ 49, ch_ 53, ch_ 46, ch_ 67, ch_ 111, ch_ 108, ch_ 108, ch_ 101, ch_ 99, ch_ 116, ch_ 84, ch_ 101, ch_ 108, ch_ 108, ch_ 115]]
theorem behind : behindMainWord (wordsSigns Try.prog.initOrder.toList) = words := by
  rw [signs_eq]
  kernel_rfl
theorem noLater : Try.prog.laysLater = false := by kernel_rfl
theorem noReflect : Try.prog.bearsReflect = false := by kernel_rfl
theorem door : Try.prog.doorFits [] = true := by kernel_rfl
theorem make_of (P : Program) (ws : List (List Char)) (h : behindMainWord (wordsSigns P.initOrder.toList) = [ch_ 99, ch_ 117, ch_ 116] :: ws) : P.make = some .cut := by
  unfold Program.make
  rw [h]
  kernel_rfl
theorem strip_of (ws : List (List Char)) : ∀ l : List String, (l.all fun w => !([ch_ 99, ch_ 117, ch_ 116] == w.toList)) = true → stripLifts l ([ch_ 99, ch_ 117, ch_ 116] :: ws) = ([], [ch_ 99, ch_ 117, ch_ 116] :: ws)
  | [], _ => rfl
  | w :: l, h => by
    rw [List.all_cons, Bool.and_eq_true] at h
    unfold stripLifts
    rw [if_neg (by intro e; rw [e] at h; exact absurd h.1 (by decide))]
    exact strip_of ws l h.2
theorem liftWords_cut : (liftWords.all fun w => !([ch_ 99, ch_ 117, ch_ 116] == w.toList)) = true := by kernel_rfl
theorem headLifts_of (P : Program) (ws : List (List Char)) (h : behindMainWord (wordsSigns P.initOrder.toList) = [ch_ 99, ch_ 117, ch_ 116] :: ws) : P.headLifts = [] := by
  unfold Program.headLifts
  rw [h, strip_of ws liftWords liftWords_cut]
  simp
theorem liftsFinal_of (P : Program) (ws : List (List Char)) (h : behindMainWord (wordsSigns P.initOrder.toList) = [ch_ 99, ch_ 117, ch_ 116] :: ws) : P.liftsFinal = false := by
  unfold Program.liftsFinal
  rw [h, headLifts_of P ws h]
  kernel_rfl
theorem mayEnter_of (P : Program) (ws : List (List Char)) (h : behindMainWord (wordsSigns P.initOrder.toList) = [ch_ 99, ch_ 117, ch_ 116] :: ws) (h1 : P.laysLater = false) (h2 : P.bearsReflect = false) (h3 : P.doorFits [] = true) : P.mayEnter = true := by
  unfold Program.mayEnter
  rw [h]
  dsimp only
  rw [strip_of ws liftWords liftWords_cut, h1, h2, h3, show ((([] : List String), [ch_ 99, ch_ 117, ch_ 116] :: ws).2.head? == some "cut".toList) = true by kernel_rfl]
  simp
theorem mayEnter : Try.prog.mayEnter = true := mayEnter_of _ _ behind noLater noReflect door
theorem liftsFinal : Try.prog.liftsFinal = false := liftsFinal_of _ _ behind
theorem make_ : Try.prog.make = some .cut := make_of _ _ behind
end Go.Proofs.Ytnmmkgagbfniiaa.Ftab
end
