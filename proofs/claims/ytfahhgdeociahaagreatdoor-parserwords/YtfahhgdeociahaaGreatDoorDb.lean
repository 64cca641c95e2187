/- A part of the proof: D8. -/
import Derived.Test.YtfahhgdeociahaaGreatDoorDa

set_option linter.unusedVariables false
set_option linter.unusedSimpArgs false
namespace Go.Abs.Z
open Go.Proofs Go.RowKit
def by8 (b : UInt8) : PV := .int .u8 ((b.toNat : Nat) : Int)
def symL : List UInt8 := [60, 62, 61, 43, 45, 42, 47, 37, 40, 41, 123, 125, 91, 93, 44, 59, 58, 46]
def kwL : List (List UInt8) := [wRec, wProc, wVar, wIf, wElse, AwJ, wFor, wTo, AxZ, AjD, wAnd, wOr, wNot, wTrue, BqT, wInt, wBool, wLen]
def kwMap : PV := .mapv (kwL.map Ky.s) (kwL.map fun _ => .bool true)
theorem R153 : Rn 153 a153 := fun _ _ _ => rfl
theorem e153 : E 153 [] [] kwMap [] := rule R153 [] (by kernel_rfl)
theorem len_bys (o : Bool) (s : Nat) (x : List UInt8) : semP (.len false) [.slice o s (x.map by8)] = some [some (.int .i64 (x.length : Nat))] := by
  show some [some (PV.int .i64 ((x.map by8).length : Nat))] = _;rw [List.length_map]
theorem idx_bys {o : Bool} {s : Nat} {x : List UInt8} {c : UInt8} (j : Nat) (h : x[j]? = some c) : semP (.idx s) [.slice o s (x.map by8), .int .i64 (j : Nat)] = some [some (.vptr (.int .u8 ((c.toNat : Nat) : Int)))] := p_idx _ _ _ _ _ (by rw [List.getElem?_map, h]; rfl)
def whB (c : UInt8) : Bool := c == 9 || c == 10 || c == 13 || c == 32
def leB (c : UInt8) : Bool := decide (97 ≤ c.toNat) && decide (c.toNat ≤ 122)
def diB (c : UInt8) : Bool := decide (48 ≤ c.toNat) && decide (c.toNat ≤ 57)
def woB (c : UInt8) : Bool := leB c || diB c || c == 95
def skN : Bool → List UInt8 → Nat
  | _, [] => 0
  | true, c :: l => if c = 10 then 1 + skN false l else 1 + skN true l
  | false, c :: l => if whB c then 1 + skN false l else if c = 35 then 1 + skN true l else 0
def runL (p : UInt8 → Bool) (l : List UInt8) : Nat := (l.takeWhile p).length
def symN : List UInt8 → Nat
  | [] => 0
  | a :: l => if l.head? = some 61 ∧ (a = 61 ∨ a = 33 ∨ a = 60 ∨ a = 62) then 2 else if symL.contains a then 1 else 0
def stopB (c : UInt8) (l : List UInt8) : Bool := whB c || c == 35 || leB c || diB c || symN (c :: l) != 0
def wrN : List UInt8 → Nat
  | [] => 0
  | c :: l => if stopB c l then 0 else 1 + wrN l
def tokN (l : List UInt8) : Nat × Nat :=
  if leB (l.headD 0) then (if kwL.contains (l.take (runL woB l)) then 1 else 0, runL woB l)
  else if diB (l.headD 0) then (2, runL diB l)
  else if 0 < symN l then (3, symN l) else (4, 1 + wrN l.tail)
def scanF : Nat → List UInt8 → Nat → List Tk
  | 0, _, _ => []
  | n + 1, l, f =>
    let k := skN false l
    let r := l.drop k
    if r = [] then [⟨5, f, f + k, f + k⟩] else ⟨(tokN r).1, f, f + k, f + k + (tokN r).2⟩ :: scanF n (r.drop (tokN r).2) (f + k + (tokN r).2)
def scanT (s : List UInt8) : List Tk := scanF (s.length + 1) s 0
end Go.Abs.Z
