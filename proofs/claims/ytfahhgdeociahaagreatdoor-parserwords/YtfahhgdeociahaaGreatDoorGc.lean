/- A part of the proof: G7. -/
import Derived.Test.YtfahhgdeociahaaGreatDoorDc
import Derived.Test.YtfahhgdeociahaaGreatDoorWc

set_option linter.unusedVariables false
set_option linter.unusedSimpArgs false
namespace Go.Abs.Z
open Go.Proofs Go.RowKit
def Hv (v : PV) : Prop := v = .nils ∨ ∃ i g o l s, v = .arr i g o l s
theorem Hv.nil : Hv .nils := .inl rfl
theorem Hv.arr (i g o l s : Nat) : Hv (.arr i g o l s) := .inr ⟨_, _, _, _, _, rfl⟩
theorem Hv.own0 {v : PV} (h : Hv v) : v.own0 = v := by rcases h with rfl | ⟨_, _, _, _, _, rfl⟩ <;> rfl
theorem Hv.Aq0 {v : PV} (h : Hv v) : v.Aq0 = v := by rcases h with rfl | ⟨_, _, _, _, _, rfl⟩ <;> rfl
theorem Hv.free {v : PV} (h : Hv v) : v.free = true := by rcases h with rfl | ⟨_, _, _, _, _, rfl⟩ <;> rfl
theorem Hv.flat {v : PV} (h : Hv v) : v.isSelf = false := by rcases h with rfl | ⟨_, _, _, _, _, rfl⟩ <;> rfl
theorem Hv.one {v : PV} (h : Hv v) : v.one = true := by rcases h with rfl | ⟨_, _, _, _, _, rfl⟩ <;> rfl
theorem Hv.a {v : PV} (h : Hv v) : v.own0 = v ∧ v.Aq0 = v ∧ v.free = true ∧ v.isSelf = false ∧ v.one = true := ⟨h.own0, h.Aq0, h.free, h.flat, h.one⟩
theorem mv_hv {v : PV} (h : Hv v) : semP .mv [v] = some [some v] := mv_of h.free h.Aq0
theorem ldW {s : List UInt8} {ls : List Tk} {k l : Nat} {wr : PV} {b : Int} {T : Sto} (h : Hv wr) : semR (.ld 1 false) [.ref 0 4] (pc s ls k l wr b :: T) = some [some wr] := by rcases h with rfl | ⟨_, _, _, _, _, rfl⟩ <;> rfl
def q0 (s : List UInt8) (v : PV) : List PV := [.str s, v, N 0, N 0, .nils, I (-1)]
theorem ldoZ {s : List UInt8} {B : Sto} (L : List PV) : OpEv pur run (.w .ldo) [.ref 0 1] (q0 s (accP 4 L) :: B) [some (accP 4 L)] (q0 s (accD 4 L) :: B) := by
  refine ⟨0, fun n _ => ?_⟩
  cases L <;> rfl
theorem stoZ {s : List UInt8} {B : Sto} (L M : List PV) : OpEv pur run (.w .sto) [.ref 0 1, accP 4 M] (q0 s (accD 4 L) :: B) [some (accD 4 M)] (q0 s (accP 4 M) :: B) := by
  refine ⟨0, fun n _ => ?_⟩
  cases L <;> cases M <;> rfl
@[simp] theorem flat_fn (f : FuncId) : (PV.func f [] []).flat = true := rfl
@[simp] theorem flat_acd (n : Nat) (es : List PV) : (accD n es).flat = true := accd_flat n es
end Go.Abs.Z
