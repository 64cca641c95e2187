/- A part of the proof: W5. -/
import Derived.Test.YtfahhgdeociahaaGreatDoorGd

set_option linter.unusedVariables false
set_option linter.unusedSimpArgs false
namespace Go.Abs.Z
open Go.Proofs Go.RowKit
section
open Go.Abs.T
def AvX : ACode := (q (q (R [m 6 5, m 7 0, o 8 (.p (.len false)) [s 7], o 9 (y .lss) [s 6, s 8]]) (C 9 .skip (.exit 0))) (q (B 1 (q (R [m 12 0, m 13 5, o 14 (.p (.idx 1)) [s 12, s 13], o 15 L1 [s 14], m 16 1, o 17 (y .eql) [s 15, s 16]]) (C 17 (q (R [v 4 (.bool true)]) .ret) .skip))) (R [m 10 5, o 11 (y .add) [s 10, i 1], m 5 11])))
def AvS : List Bool := (t (t (f2 (f1 (t (f8 (f4 [])))))))
end
variable {ws : List (List UInt8)} {s1 w : List UInt8} {m1 : Nat}
theorem R114 : Rn 114 a114 := fun _ _ _ => rfl
theorem r114_1 (L1 : LE AvS AvX [(0, some (.slice false 1 (ws.map PV.str))), (1, some (.str w)), (5, some (I 0))] [] (.exit 0) [] []) : E 114 [(.slice false 1 (ws.map PV.str)), (.str w)] [] (.bool false) [] :=
  rule R114 [sl 2 [0, 1, 5] L1]
theorem r114_2 (L1 : LE AvS AvX [(0, some (.slice false 1 (ws.map PV.str))), (1, some (.str w)), (5, some (I 0))] [] .ret [(4, some (.bool true))] []) : E 114 [(.slice false 1 (ws.map PV.str)), (.str w)] [] (.bool true) [] :=
  rule R114 [sl 2 [0, 1, 5] L1]
theorem r114_l0_out1 (c1 : ¬ (m1 : Int) < ((ws).length : Int)) : LE AvS AvX [(0, some (.slice false 1 (ws.map PV.str))), (1, some (.str w)), (5, some (N m1))] [] (.exit 0) [] [] :=
  ruleX [] [st 2 (P (AkP false 1 ws)), st 0 (P (AqD .i64 c1))]
theorem r114_l0_out2 (c1 : (m1 : Int) < ((ws).length : Int)) (g1 : (ws)[m1]? = some s1) (c2 : s1 = w) : LE AvS AvX [(0, some (.slice false 1 (ws.map PV.str))), (1, some (.str w)), (5, some (N m1))] [] .ret [(4, some (.bool true))] [] :=
  ruleX [4] [st 2 (P (AkP false 1 ws)), st 0 (P (Aq5 .i64 c1)), st 3 (P (AwE (o := false) (s := 1) (m1) g1)), st 2 (P (AwP c2))]
theorem AkI {e : AExit} {ff' : FF} {σ' : Sto} (c1 : (m1 : Int) < ((ws).length : Int)) (g1 : (ws)[m1]? = some s1) (c2 : s1 ≠ w) (l1 : m1 < 2000000000) (hl : LE AvS AvX [(0, some (.slice false 1 (ws.map PV.str))), (1, some (.str w)), (5, some (N ((m1 + 1))))] [] e ff' σ') : LE AvS AvX [(0, some (.slice false 1 (ws.map PV.str))), (1, some (.str w)), (5, some (N m1))] [] e ff' σ' :=
  ruleN [0, 1, 5] [st 2 (P (AkP false 1 ws)), st 0 (P (Aq5 .i64 c1)), st 3 (P (AwE (o := false) (s := 1) (m1) g1)), st 2 (P (AkB c2)), st 2 (P (Aq3 m1 1 l1 (by decide)))] hl
end Go.Abs.Z
