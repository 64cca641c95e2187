/- A part of the proof: G8. -/
import Derived.Test.YtfahhgdeociahaaGreatDoorGa
import Derived.Test.YtfahhgdeociahaaGreatDoorDb
import Derived.Test.YtfahhgdeociahaaGreatDoorGb

set_option linter.unusedVariables false
set_option linter.unusedSimpArgs false
namespace Go.Abs.Z
open Go.Proofs Go.RowKit
def qc (s : List UInt8) (ls : List Tk) (k l : Nat) (es : List PV) : List PV := [.str s, .slice true 4 (ls.map Tk.pv), N k, N l, accP 5 es]
def qd (s : List UInt8) (ls : List Tk) (k l : Nat) (es : List PV) : List PV := [.str s, .slice true 4 (ls.map Tk.pv), N k, N l, accD 5 es]
def y0 (s : List UInt8) (v : PV) : List PV := [.str s, v, I 0, I 0, .nils]
section
variable {s : List UInt8} {ls : List Tk} {k l : Nat} {es : List PV}
theorem ldQ : semR (.ld 1 false) [.ref 0 4] [qc s ls k l es] = some [some (accD 5 es)] := by cases es <;> rfl
theorem stQK {j : Nat} : OpEv pur run (.w (.st 1)) [.ref 0 2, N j] [qc s ls k l es] [] [qc s ls j l es] := ⟨0, fun _ _ => by cases es <;> rfl⟩
theorem stQL {j : Nat} : OpEv pur run (.w (.st 1)) [.ref 0 3, N j] [qc s ls k l es] [] [qc s ls k j es] := ⟨0, fun _ _ => by cases es <;> rfl⟩
theorem ldoQ : OpEv pur run (.w .ldo) [.ref 0 4] [qc s ls k l es] [some (accP 5 es)] [qd s ls k l es] := ⟨0, fun _ _ => by cases es <;> rfl⟩
theorem stoQ {es' : List PV} : OpEv pur run (.w .sto) [.ref 0 4, accP 5 es'] [qd s ls k l es] [some (accD 5 es')] [qc s ls k l es'] := ⟨0, fun _ _ => by cases es <;> cases es' <;> rfl⟩
theorem ldoY : OpEv pur run (.w .ldo) [.ref 0 1] [y0 s (accP 4 es)] [some (accP 4 es)] [y0 s (accD 4 es)] := ⟨0, fun _ _ => by cases es <;> rfl⟩
theorem stoY {es' : List PV} : OpEv pur run (.w .sto) [.ref 0 1, accP 4 es'] [y0 s (accD 4 es)] [some (accD 4 es')] [y0 s (accP 4 es')] := ⟨0, fun _ _ => by cases es <;> cases es' <;> rfl⟩
end
theorem idx_accd {s : Nat} {es : List PV} {x : PV} (j : Nat) (h : es[j]? = some x) : semP (.idx s) [accD s es, .int .i64 (j : Nat)] = some [some (.vptr x)] := by
  cases es with
  | nil => simp at h
  | cons e es => exact p_idx _ _ _ _ _ h
theorem AwU {o : Bool} {X : List Dg} (h : 1 ≤ X.length) : semP (.vsl 5 true false) [.slice o 5 (X.map Dg.pv), I 1] = some [some (.slice false 5 (X.tail.map Dg.pv))] := by
  cases X with
  | nil => simp at h
  | cons d X =>
    have h1 : (1 : Int) ≤ ((((d :: X).map Dg.pv).length : Nat) : Int) := by simp; omega
    simp only [semP, if_true, cutB];rw [if_pos ⟨by omega, h1⟩]
    simp only [Option.map_some];congr 5;show (((d :: X).map Dg.pv).drop 1).take (((d :: X).map Dg.pv).length - 1) = _;rw [List.take_of_length_le (by simp)]; rfl
theorem R122 : Rn 122 a122 := fun _ _ _ => rfl
theorem e122_1 : E 122 [I 1] [] (.slice false 1 [.str [111, 114]]) [] := rule R122 [] (by kernel_rfl)
theorem e122_2 : E 122 [I 2] [] (.slice false 1 [.str [97, 110, 100]]) [] := rule R122 [] (by kernel_rfl)
theorem e122_4 : E 122 [I 4] [] (.slice false 1 [.str [61, 61], .str [33, 61], .str [60], .str [60, 61], .str [62], .str [62, 61]]) [] := rule R122 [] (by kernel_rfl)
theorem e122_5 : E 122 [I 5] [] (.slice false 1 [.str [43], .str [45]]) [] := rule R122 [] (by kernel_rfl)
theorem e122_6 : E 122 [I 6] [] (.slice false 1 [.str [42], .str [47], .str [37]]) [] := rule R122 [] (by kernel_rfl)
end Go.Abs.Z
