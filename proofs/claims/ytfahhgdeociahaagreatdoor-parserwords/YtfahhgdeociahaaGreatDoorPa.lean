/- A part of the proof: P0. -/
import Derived.Test.YtfahhgdeociahaaGreatDoorTd
import Derived.Test.YtfahhgdeociahaaGreatDoorPb

set_option linter.unusedVariables false
set_option linter.unusedSimpArgs false
namespace Go.Abs.Z
open Go.Proofs Go.RowKit
noncomputable def prims (f : FuncId) : Option Prim := cond (Nat.beq f 20) (some pJoin) none
theorem prims_ok : ∀ f g, prims f = some g → PrimOk Tryz.prog f g := by
  intro f g h;unfold prims at h;cases hb : Nat.beq f 20 with
  | true =>
    rw [hb] at h;cases h;have : f = 20 := Nat.eq_of_beq_eq_true hb;subst this;exact join_ok
  | false => rw [hb] at h; cases h
noncomputable def run (n : Nat) : Caller := callK pur prims tab n
theorem AwQ (n : Nat) : Sound Tryz.prog (run n) := BqF mixed tabOk prims_ok n
end Go.Abs.Z
