/- A part of the proof: T. -/
import Derived.Test.YtakhbjefcjmelaaGreatDoorKj

set_option linter.unusedVariables false
set_option linter.unusedSimpArgs false
namespace Go.Abs.T
abbrev m (d s : Nat) : AOp := ⟨none, some d, .p .mv, [.slot s], [], []⟩
abbrev v (d : Nat) (x : PV) : AOp := ⟨none, some d, .p .mv, [.val x], [], []⟩
abbrev o (d : Nat) (k : AK) (xs : List AArg) : AOp := ⟨none, some d, k, xs, [], []⟩
abbrev u (k : AK) (xs : List AArg) : AOp := ⟨none, none, k, xs, [], []⟩
abbrev g (t : Nat) (b : Bool) (d : Nat) (k : AK) (xs : List AArg) : AOp := ⟨some (t, b), some d, k, xs, [], []⟩
abbrev n (t : Nat) (b : Bool) (d s : Nat) : AOp := ⟨some (t, b), some d, .p .mv, [.slot s], [], []⟩
abbrev e (d : Nat) (k : AK) (xs : List AArg) (ex : List Nat) : AOp := ⟨none, some d, k, xs, ex, []⟩
abbrev h (k : AK) (xs : List AArg) (ex : List Nat) : AOp := ⟨none, none, k, xs, ex, []⟩
abbrev s (n : Nat) : AArg := .slot n
abbrev i (n : Int) : AArg := .val (.int .i64 n)
abbrev b (x : Bool) : AArg := .val (.bool x)
abbrev S (x : List UInt8) : PV := .str x
abbrev I (x : Int) : PV := .int .i64 x
abbrev R (x : List AOp) : ACode := .region x
abbrev q (x y : ACode) : ACode := .seq x y
abbrev C (n : Nat) (x y : ACode) : ACode := .cond (.slot n) x y
abbrev B (n : Nat) (x : ACode) : ACode := .block n x
abbrev L (k : List Bool) (x : ACode) : ACode := .loop k x
abbrev L1 : AK := .r (.ld 1 false)
abbrev L5 : AK := .r (.ld 5 true)
abbrev f (n : Nat) : AK := .p (.fa n 1 false)
abbrev y (x : BinOp) : AK := .p (.bin x 0)
abbrev c (n : Nat) : AK := .c n
abbrev w (n : Nat) : AK := .w (.call n)
abbrev pk : AK := .p .pick
abbrev t (l : List Bool) : List Bool := true :: l
abbrev f1 (l : List Bool) : List Bool := false :: l
abbrev f2 (l : List Bool) : List Bool := false :: false :: l
abbrev f4 (l : List Bool) : List Bool := false :: false :: false :: false :: l
abbrev f8 (l : List Bool) : List Bool := f4 (f4 l)
abbrev f16 (l : List Bool) : List Bool := f8 (f8 l)
abbrev f32 (l : List Bool) : List Bool := f16 (f16 l)
end Go.Abs.T
