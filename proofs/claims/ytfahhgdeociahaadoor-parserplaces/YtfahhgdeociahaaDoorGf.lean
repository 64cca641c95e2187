/- A part of the proof: G9. -/
import Derived.Test.YtfahhgdeociahaaDoorPe

set_option linter.unusedVariables false
set_option linter.unusedSimpArgs false
namespace Go.Abs.Z
open Go.Proofs
abbrev LR := AzD pur runA
theorem ruleNR {keep : List Bool} {c : ACode} {ff ffn ff' : FF} {σ σn σ' : Sto} {e : AExit} (ls : List Nat) (l : List Stp) (hl : AzD pur runA keep c ffn σn e ff' σ') (h : nextT pur runA keep c ls ff σ (Av9 l) = some (ffn, σn, qOf l True)) : AzD pur runA keep c ff σ e ff' σ' := loop_next (AvD l trivial) hl h
theorem ruleXR {keep : List Bool} {c : ACode} {ff ff' : FF} {σ σ' : Sto} {e : AExit} (ls : List Nat) (l : List Stp) (h : leaveT pur runA c ls ff σ (Av9 l) = some (e, ff', σ', qOf l True)) : AzD pur runA keep c ff σ e ff' σ' := BqP (AvD l trivial) h
end Go.Abs.Z
