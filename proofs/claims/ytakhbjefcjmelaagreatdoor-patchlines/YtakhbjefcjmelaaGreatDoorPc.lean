/- A part of the proof: P0. -/
import Derived.Test.YtakhbjefcjmelaaGreatDoorTd
import Derived.Test.YtakhbjefcjmelaaGreatDoorTe
import Derived.Test.YtakhbjefcjmelaaGreatDoorIa
import Derived.Test.YtakhbjefcjmelaaGreatDoorPa

set_option linter.unusedVariables false
set_option linter.unusedSimpArgs false
namespace Go.Abs.Z
open Go.Proofs Go.RowKit
noncomputable def primL : List (FuncId × Prim) := [(23, pItoa), (49, pWrite), (50, pString), (96, pCount), (228, pIndexByte), (118, runLF pur itr 1000 lf118), (41, runLF pur itr 1000 lf41), (190, runLF pur itr 1000 lf190)]
noncomputable def lookP (l : List (FuncId × Prim)) (f : FuncId) : Option Prim := List.rec (motive := fun _ => Option Prim) none (fun p _ ih => cond (Nat.beq p.1 f) (some p.2) ih) l
noncomputable def prims (f : FuncId) : Option Prim := lookP primL f
theorem lookP_ok : ∀ (l : List (FuncId × Prim)), (∀ x ∈ l, PrimOk Tryz.prog x.1 x.2) → ∀ f g, lookP l f = some g → PrimOk Tryz.prog f g
  | [], _, f, g, h => by cases h
  | p :: l, hl, f, g, h => by
    have h' : cond (Nat.beq p.1 f) (some p.2) (lookP l f) = some g := h
    cases hb : Nat.beq p.1 f with
    | true =>
      rw [hb] at h'
      cases h'
      have : p.1 = f := Nat.eq_of_beq_eq_true hb
      rw [← this]; exact hl p (List.mem_cons_self ..)
    | false => rw [hb] at h'; exact lookP_ok l (fun x hx => hl x (List.mem_cons_of_mem _ hx)) f g h'
theorem prims_ok : ∀ f g, prims f = some g → PrimOk Tryz.prog f g := by
  refine lookP_ok primL fun x hx => ?_
  simp only [primL, List.mem_cons, List.not_mem_nil, or_false] at hx
  rcases hx with rfl | rfl | rfl | rfl | rfl | rfl | rfl | rfl
  · exact itoa_ok
  · exact write_ok
  · exact string_ok
  · exact count_ok
  · exact indexByte_ok
  · exact compLF_ok itr_ok mixed Tryz.func118 (by kernel_rfl) clf118
  · exact compLF_ok itr_ok mixed Tryz.func41 (by kernel_rfl) clf41
  · exact compLF_ok itr_ok mixed Tryz.func190 (by kernel_rfl) clf190
noncomputable def run (n : Nat) : Caller := callK pur prims tab n
theorem run_sound (n : Nat) : Sound Tryz.prog (run n) := callK_sound mixed tabOk prims_ok n
end Go.Abs.Z
