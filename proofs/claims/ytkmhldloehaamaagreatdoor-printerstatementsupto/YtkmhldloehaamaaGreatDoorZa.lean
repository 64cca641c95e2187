/- A part of the proof: G4 W7 Z1. -/
import Derived.Test.YtkmhldloehaamaaGreatDoorGa
import Derived.Test.YtkmhldloehaamaaGreatDoorYa

set_option linter.unusedVariables false
set_option linter.unusedSimpArgs false
namespace Go.Abs.Z
open Go.Proofs Go.RowKit
theorem evA {f : FuncId} {x : PV} {xs : List PV} {r : PV} {s : Sto} (h : E f (x :: xs) [] r s) : Ev runA f (x :: xs) [] r s := by
  obtain ⟨N, H⟩ := h;exact ⟨N, fun n hn => H n hn⟩
theorem evA9 : Ev runA 6 [] [] (.bool true) [] := ⟨0, fun n _ => runA9 n⟩
theorem PA {k : PK} {vs : List PV} {rs : List (Option PV)} (h : semP k vs = some rs) : OpEv pur runA (.p k) vs [] rs [] := op_p h
theorem QA {k : RK} {vs : List PV} {rs : List (Option PV)} (h : semR k vs [] = some rs) : OpEv pur runA (.r k) vs [] rs [] := op_r h
theorem oCA {f : FuncId} {xs : List PV} {r : PV} {s : Sto} (h : Ev runA f xs [] r s) (hs : (xs.all PV.free && xs.all PV.flat) = true ∧ xs.map PV.Aq0 = xs ∧ r.flat = true ∧ r.Aq0 = r := by first | exact ⟨rfl, rfl, rfl, rfl⟩ | simp) : OpEv pur runA (.c f) xs [] [some r] [] := op_c h hs.2.1 hs.1 hs.2.2.1 hs.2.2.2
end Go.Abs.Z

namespace Go.Abs.Z
open Go.Proofs Go.RowKit
end Go.Abs.Z

namespace Go.Abs.Z
open Go.Proofs Go.RowKit
theorem small_parts {T : Tr} {x : Int} (h : smallV T x = true) : (∀ U ∈ T.pre, U.text.length ≤ 60) ∧ (T.pre.length : Int) ≤ x := by
  unfold smallV at h;simp only [Bool.and_eq_true, List.all_eq_true, decide_eq_true_eq] at h;exact h
section
variable {T : Tr}
theorem good_of (hw : T.wf) (ht : ∀ U ∈ T.pre, U.text.length ≤ 60) (hp : T.pre.length ≤ 150) (hs : AjM T = true) (d : Nat) (hd : d ≤ 200) : Good T d := ⟨hw, hs, ht, by omega⟩
end
end Go.Abs.Z
