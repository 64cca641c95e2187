/- A part of the proof: G6. -/
import Derived.Test.YtfahhgdeociahaaGreatDoorDc

set_option linter.unusedVariables false
set_option linter.unusedSimpArgs false
namespace Go.Abs.Z
open Go.Proofs Go.RowKit
def aS (H T : Sto) (g : Nat) (Ds : List Dg) : Sto := H ++ [.arrv g 5 (Ds.map Dg.pv)] :: T
section
variable {H T : Sto} {g n j : Nat} {Ds : List Dg} {d : Dg}
theorem aS_get : (aS H T g Ds)[H.length]? = some [.arrv g 5 (Ds.map Dg.pv)] := by
  unfold aS;rw [List.getElem?_append_right (Nat.le_refl _), Nat.sub_self]; rfl
theorem aS_set {x : List PV} : (aS H T g Ds).set H.length x = H ++ x :: T := by
  unfold aS;rw [List.set_append_right _ _ (Nat.le_refl _), Nat.sub_self]; rfl
theorem idxA {id : Nat} (h : j < n) : semP (.idx 5) [.arr id g 0 n 5, N j] = some [some (.aptr id g 5 j 0)] := by
  show (if 5 = 5 ∧ (0 : Int) ≤ (j : Int) ∧ (j : Int) < n then some (PV.aptr id g 5 (0 + (j : Int).toNat) 0) else none).map (fun v => [some v]) = _
  rw [if_pos ⟨rfl, by omega, by omega⟩, Int.toNat_natCast, Nat.zero_add]; rfl
theorem ldA (h : Ds[j]? = some d) : semR (.ld 5 true) [.aptr H.length g 5 j 0] (aS H T g Ds) = some [some d.pv] := by
  simp only [semR, aS_get, arrOf, and_self, if_true, List.getElem?_map, h, Option.map_some]
  rfl
theorem stA (h : j < Ds.length) : OpEv pur run (.w (.st 5)) [.aptr H.length g 5 j 0, d.pv] (aS H T g Ds) [] (aS H T g (Ds.set j d)) := by
  refine ⟨0, fun n _ => ?_⟩
  have he : (Ds.map Dg.pv)[j]? = some (Ds[j].pv) := by rw [List.getElem?_map, List.getElem?_eq_getElem h]; rfl
  show semW pur (run n) (.st 5) [.aptr H.length g 5 j 0, d.pv] (aS H T g Ds) = _;simp only [semW, aS_get, arrOf, and_self, if_true, he];rw [if_pos ⟨rfl, rfl, rfl⟩];have : upd Ds[j].pv 0 d.pv.Aq0 = some d.pv := rfl;rw [this, Option.map_some, aS_set];unfold aS;rw [List.map_set]
end
theorem subn (a b : Nat) (h : b ≤ a) (hj : a < 2000000000) : semP (.bin .sub 0) [.int .i64 (a : Nat), .int .i64 (b : Nat)] = some [some (.int .i64 ((a - b : Nat) : Int))] := sub_nat a b h hj
theorem cvtU (a : Nat) (h : a < 2000000000) : semP (.cvt .u64) [.int .i64 (a : Nat)] = some [some (.int .u64 (a : Nat))] := by
  apply cvt_of;simp [IntKind.wrap, IntKind.bits, IntKind.signed]; omega
theorem cvtI (a : Nat) (h : a < 2000000000) : semP (.cvt .i64) [.int .u64 (a : Nat)] = some [some (.int .i64 (a : Nat))] := by
  apply cvt_of;simp [IntKind.wrap, IntKind.bits, IntKind.signed]; omega
theorem muln (a b : Nat) (h : a * b < 2000000000) : semP (.bin .mul 0) [.int .i64 (a : Nat), .int .i64 (b : Nat)] = some [some (.int .i64 ((a * b : Nat) : Int))] := by
  apply mul_of;rw [← Int.natCast_mul];simp [IntKind.wrap, IntKind.bits, IntKind.signed]; omega
theorem shr1 (a : Nat) (h : a < 2000000000) : semP (.bin .shr 0) [.int .u64 (a : Nat), .int .u64 1] = some [some (.int .u64 ((a / 2 : Nat) : Int))] := by
  have e : (a : Int).fdiv (2 ^ min 1 IntKind.u64.bits) = ((a / 2 : Nat) : Int) := by
    show (a : Int).fdiv 2 = _;rw [Int.fdiv_eq_ediv_of_nonneg _ (by decide)]; rfl
  have : Go.binOp .shr 0 (.int .u64 (a : Int)) (.int .u64 1) = .pure (.int .u64 ((a / 2 : Nat) : Int)) := by
    show Sem.pure (Value.int .u64 ((a : Int).fdiv (2 ^ min 1 IntKind.u64.bits))) = _;rw [e]
  show (match Go.binOp .shr 0 (.int .u64 (a : Int)) (.int .u64 1) with
        | .pure (.int k' n) => some (PV.int k' n)
        | _ => none).map (fun v => [some v]) = _
  rw [this]; rfl
end Go.Abs.Z
