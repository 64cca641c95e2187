/- A part of the proof: W2. -/
import Derived.Test.YtfahhgdeociahaaGreatDoorDb

set_option linter.unusedVariables false
set_option linter.unusedSimpArgs false
namespace Go.Abs.Z
open Go.Proofs Go.RowKit
section
open Go.Abs.T
def BxG : ACode := (q (q (R [m 7 1, m 8 0, o 9 (.p (.len true)) [s 8], o 10 (y .lss) [s 7, s 9], m 11 10, n 11 true 12 2, n 11 true 13 0, n 11 true 14 1, g 11 true 15 (.p .sidx) [s 13, s 14], g 11 true 16 (.w .calld) [s 12, s 15], o 17 pk [s 11, s 16, b false]]) (C 17 .skip (.exit 0))) (B 1 (R [m 18 1, o 19 (y .add) [s 18, i 1], m 1 19])))
def BxB : List Bool := (t (t (t (f8 (f1 (t (t (t (t (t (f4 [])))))))))))
def AjZ : ACode := (q (q (R [m 5 1, m 6 0, o 7 (.p (.len true)) [s 6], o 8 (y .lss) [s 5, s 7]]) (C 8 .skip (.exit 0))) (B 1 (B 2 (q (R [m 11 0, m 12 1, o 13 (.p .sidx) [s 11, s 12], o 14 (c 143) [s 13], m 10 14]) (C 10 (R [m 15 1, o 16 (y .add) [s 15, i 1], m 1 16]) (q (R [m 18 0, m 19 1, o 20 (.p .sidx) [s 18, s 19], o 21 (y .eql) [s 20, .val (.int .u8 35)], m 17 21]) (C 17 (R [m 22 0, m 23 1, o 24 (c 134) [s 22, s 23, .val (.func 144 [] [])], m 1 24]) (q (R [m 9 1, m 4 9]) .ret))))))))
def AjX : List Bool := (t (t (f16 (f8 []))))
def AzM : ACode := (q (R [o 47 (y .lss) [s 46, s 45]]) (q (C 47 .skip (.exit 0)) (q (B 1 (q (R [o 48 (.p (.idx 1)) [s 44, s 46], o 49 L1 [s 48], m 6 49]) (q (R [m 50 0, m 51 1, o 52 (.p .sidx) [s 50, s 51], m 53 6, o 54 (y .eql) [s 52, s 53]]) (C 54 (q (R [v 4 (I 1)]) .ret) .skip)))) (R [o 55 (y .add) [s 46, i 1], m 46 55]))))
def AzL : List Bool := (t (t (f32 (f8 (f2 (t (t (t (f8 (f1 []))))))))))
def AjY : ACode := (q (q (R [m 42 8, m 43 0, o 44 (.p (.len true)) [s 43], o 45 (y .lss) [s 42, s 44], m 46 45, n 46 true 47 0, n 46 true 48 8, g 46 true 49 (.p .sidx) [s 47, s 48], g 46 true 50 (c 143) [s 49], g 46 true 51 (.p .not) [s 50], o 52 pk [s 46, s 51, b false], m 53 52, n 53 true 54 0, n 53 true 55 8, g 53 true 56 (.p .sidx) [s 54, s 55], g 53 true 57 (y .neq) [s 56, .val (.int .u8 35)], o 58 pk [s 53, s 57, b false], m 59 58, n 59 true 60 0, n 59 true 61 8, g 59 true 62 (.p .sidx) [s 60, s 61], g 59 true 63 (c 145) [s 62], g 59 true 64 (.p .not) [s 63], o 65 pk [s 59, s 64, b false], m 66 65, n 66 true 67 0, n 66 true 68 8, g 66 true 69 (.p .sidx) [s 67, s 68], g 66 true 70 (c 135) [s 69], g 66 true 71 (.p .not) [s 70], o 72 pk [s 66, s 71, b false], m 73 72, n 73 true 74 0, n 73 true 75 8, g 73 true 76 (c 148) [s 74, s 75], g 73 true 77 (y .eql) [s 76, i 0], o 78 pk [s 73, s 77, b false]]) (C 78 .skip (.exit 1))) (B 2 (R [m 79 8, o 80 (y .add) [s 79, i 1], m 8 80])))
def AjW : List Bool := (t (f4 (f2 (f1 (t (f32 (f4 (f2 (t (t (t (t (t (f2 (t (t (t (t (f2 (t (t (t (t (t (f2 (t (t (t (t (t (f2 (t (t (t (t (f4 []))))))))))))))))))))))))))))))))))))
def l98_0 : ACode := (q (R [o 25 (y .lss) [s 24, s 23]]) (q (C 25 .skip (.exit 0)) (q (B 1 (q (R [o 26 (.p (.idx 1)) [s 22, s 24], o 27 L1 [s 26], m 6 27]) (R [m 28 4, o 29 (y .mul) [i 10, s 28], m 30 6, o 31 (y .sub) [s 30, .val (.int .u8 48)], o 32 (.p (.cvt .i64)) [s 31], o 33 (y .add) [s 29, s 32], m 4 33]))) (R [o 34 (y .add) [s 24, i 1], m 24 34]))))
def m98_0 : List Bool := (f4 (t (f16 (f1 (t (t (t (f8 (f2 (f1 []))))))))))
def l97_0 : ACode := (B 1 (q (R [m 12 0, m 13 5, o 14 (c 132) [s 12, s 13], m 6 14]) (q (q (R [m 15 6, m 16 0, o 17 (.p (.len true)) [s 16], o 18 (y .eql) [s 15, s 17]]) (C 18 (q (R [e 19 (.p .mvo) [s 4] [4], m 20 5, m 21 6, m 22 6, o 23 (.p (.build [(I 0), (I 0), (I 0), (I 0)] [(0, 1), (1, 1), (2, 1), (3, 1)])) [i 5, s 20, s 21, s 22], o 24 (.p (.bsl 4)) [s 23], e 25 (.p (.app 4)) [s 19, s 24] [19], e 2 (.p .mvo) [s 25] [25], v 3 (I 0)]) .ret) .skip)) (q (R [m 27 0, m 28 6, o 29 (c 133) [s 27, s 28], m 26 29, o 30 (.p (.ext 0)) [s 26], o 31 (.p (.ext 1)) [s 26], m 7 30, m 8 31]) (q (R [e 32 (.p .mvo) [s 4] [4], m 33 7, m 34 5, m 35 6, m 36 8, o 37 (.p (.build [(I 0), (I 0), (I 0), (I 0)] [(0, 1), (1, 1), (2, 1), (3, 1)])) [s 33, s 34, s 35, s 36], o 38 (.p (.bsl 4)) [s 37], e 39 (.p (.app 4)) [s 32, s 38] [32], e 4 (.p .mvo) [s 39] [39]]) (R [m 40 8, m 5 40]))))))
def m97_0 : List Bool := (t (f2 (f1 (t (t (f32 (f2 (f1 []))))))))
end
variable {c c1 c2 c3 c4 : UInt8} {s s1 w : List UInt8} {i m1 m2 : Nat} {g : FuncId} {e : AExit} {ff' : FF} {σ' : Sto} {z1 : Int} {es1 : List PV}
theorem R143 : Rn 143 a143 := fun _ _ _ => rfl
theorem r143_1 (c1 : (c.toNat : Int) = 9) : E 143 [(.int .u8 (c.toNat : Int))] [] (.bool true) [] :=
  rule R143 [st 2 (P (AqI .u8 c1))]
theorem r143_2 (c1 : (c.toNat : Int) ≠ 9) (c2 : (c.toNat : Int) = 10) : E 143 [(.int .u8 (c.toNat : Int))] [] (.bool true) [] :=
  rule R143 [st 2 (P (Aq7 .u8 c1)), sg 2 (P (AqI .u8 c2))]
theorem r143_3 (c1 : (c.toNat : Int) ≠ 9) (c2 : (c.toNat : Int) ≠ 10) (c3 : (c.toNat : Int) = 13) : E 143 [(.int .u8 (c.toNat : Int))] [] (.bool true) [] :=
  rule R143 [st 2 (P (Aq7 .u8 c1)), sg 2 (P (Aq7 .u8 c2)), sg 3 (P (AqI .u8 c3))]
theorem r143_4 (c1 : (c.toNat : Int) ≠ 9) (c2 : (c.toNat : Int) ≠ 10) (c3 : (c.toNat : Int) ≠ 13) : E 143 [(.int .u8 (c.toNat : Int))] [] (.bool ((c.toNat : Int) == 32)) [] :=
  rule R143 [st 2 (P (Aq7 .u8 c1)), sg 2 (P (Aq7 .u8 c2)), sg 3 (P (Aq7 .u8 c3))]
theorem R145 : Rn 145 a145 := fun _ _ _ => rfl
theorem r145_1 (c1 : (c.toNat : Int) ≥ 97) : E 145 [(.int .u8 (c.toNat : Int))] [] (.bool (decide ((c.toNat : Int) ≤ 122))) [] :=
  rule R145 [st 2 (P (b_geqT .u8 c1))]
theorem r145_2 (c1 : ¬ (c.toNat : Int) ≥ 97) : E 145 [(.int .u8 (c.toNat : Int))] [] (.bool false) [] :=
  rule R145 [st 2 (P (b_geqF .u8 c1))]
theorem R135 : Rn 135 a135 := fun _ _ _ => rfl
theorem r135_1 (c1 : (c.toNat : Int) ≥ 48) : E 135 [(.int .u8 (c.toNat : Int))] [] (.bool (decide ((c.toNat : Int) ≤ 57))) [] :=
  rule R135 [st 2 (P (b_geqT .u8 c1))]
theorem r135_2 (c1 : ¬ (c.toNat : Int) ≥ 48) : E 135 [(.int .u8 (c.toNat : Int))] [] (.bool false) [] :=
  rule R135 [st 2 (P (b_geqF .u8 c1))]
theorem R144 : Rn 144 a144 := fun _ _ _ => rfl
theorem r144 : E 144 [(.int .u8 (c.toNat : Int))] [] (.bool ((c.toNat : Int) != 10)) [] :=
  rule R144 []
theorem R146 : Rn 146 a146 := fun _ _ _ => rfl
theorem r146_1 (h1 : E 145 [(.int .u8 (c.toNat : Int))] [] (.bool true) []) : E 146 [(.int .u8 (c.toNat : Int))] [] (.bool true) [] :=
  rule R146 [st 2 (oC h1)]
theorem r146_2 (h1 : E 145 [(.int .u8 (c.toNat : Int))] [] (.bool false) []) (h2 : E 135 [(.int .u8 (c.toNat : Int))] [] (.bool true) []) : E 146 [(.int .u8 (c.toNat : Int))] [] (.bool true) [] :=
  rule R146 [st 2 (oC h1), sg 2 (oC h2)]
theorem r146_3 (h1 : E 145 [(.int .u8 (c.toNat : Int))] [] (.bool false) []) (h2 : E 135 [(.int .u8 (c.toNat : Int))] [] (.bool false) []) : E 146 [(.int .u8 (c.toNat : Int))] [] (.bool ((c.toNat : Int) == 95)) [] :=
  rule R146 [st 2 (oC h1), sg 2 (oC h2)]
theorem R134 : Rn 134 a134 := fun _ _ _ => rfl
theorem r134 (L1 : LE BxB BxG [(0, some (.str s)), (1, some (N i)), (2, some (.func g [] []))] [] (.exit 0) [(1, some (N m1))] []) : E 134 [(.str s), (N i), (.func g [] [])] [] (N m1) [] :=
  rule R134 [sl 1 [0, 1, 2] L1]
theorem r134_l0_out1 (c1 : ¬ (m1 : Int) < ((s).length : Int)) : LE BxB BxG [(0, some (.str s)), (1, some (N m1)), (2, some (.func g [] []))] [] (.exit 0) [(1, some (N m1))] [] :=
  ruleX [1] [st 3 (P (AqD .i64 c1))]
theorem BzW (c1 : (m1 : Int) < ((s).length : Int)) (g1 : (s : List UInt8)[m1]? = some c2) (pg : pur g = true) (h1 : E g [(.int .u8 (c2.toNat : Int))] [] (.bool true) []) (l1 : m1 < 2000000000) (hl : LE BxB BxG [(0, some (.str s)), (1, some (N (m1 + 1))), (2, some (.func g [] []))] [] e ff' σ') : LE BxB BxG [(0, some (.str s)), (1, some (N m1)), (2, some (.func g [] []))] [] e ff' σ' :=
  ruleN [0, 1, 2] [st 3 (P (Aq5 .i64 c1)), sg 4 (P (Aq6 _ (m1) _ g1)), sg 0 (AjU h1 pg (by rfl) (by rfl) (by rfl) (by rfl) (by rfl) : OpEv pur run (.w .calld) [(.func g [] []), (.int .u8 (c2.toNat : Int))] [] [some (.bool true)] []), st 3 (P (Aq3 (m1) 1 l1 (by decide)))] hl
theorem r134_l0_out2 (c1 : (m1 : Int) < ((s).length : Int)) (g1 : (s : List UInt8)[m1]? = some c2) (pg : pur g = true) (h1 : E g [(.int .u8 (c2.toNat : Int))] [] (.bool false) []) : LE BxB BxG [(0, some (.str s)), (1, some (N m1)), (2, some (.func g [] []))] [] (.exit 0) [(1, some (N m1))] [] :=
  ruleX [1] [st 3 (P (Aq5 .i64 c1)), sg 4 (P (Aq6 _ (m1) _ g1)), sg 0 (AjU h1 pg (by rfl) (by rfl) (by rfl) (by rfl) (by rfl) : OpEv pur run (.w .calld) [(.func g [] []), (.int .u8 (c2.toNat : Int))] [] [some (.bool false)] [])]
theorem R132 : Rn 132 a132 := fun _ _ _ => rfl
theorem r132_1 (L1 : LE AjX AjZ [(0, some (.str s)), (1, some (N i))] [] (.exit 0) [(1, some (N m1))] []) : E 132 [(.str s), (N i)] [] (N m1) [] :=
  rule R132 [sl 1 [0, 1] L1]
theorem r132_2 (L1 : LE AjX AjZ [(0, some (.str s)), (1, some (N i))] [] .ret [(4, some (N m1))] []) : E 132 [(.str s), (N i)] [] (N m1) [] :=
  rule R132 [sl 1 [0, 1] L1]
theorem AvL (c1 : ¬ (m1 : Int) < ((s).length : Int)) : LE AjX AjZ [(0, some (.str s)), (1, some (N m1))] [] (.exit 0) [(1, some (N m1))] [] :=
  ruleX [1] [st 3 (P (AqD .i64 c1))]
theorem AkH (c1 : (m1 : Int) < ((s).length : Int)) (g1 : (s : List UInt8)[m1]? = some c2) (h1 : E 143 [(.int .u8 (c2.toNat : Int))] [] (.bool true) []) (l1 : m1 < 2000000000) (hl : LE AjX AjZ [(0, some (.str s)), (1, some (N (m1 + 1)))] [] e ff' σ') : LE AjX AjZ [(0, some (.str s)), (1, some (N m1))] [] e ff' σ' :=
  ruleN [0, 1] [st 3 (P (Aq5 .i64 c1)), st 3 (P (Aq6 _ (m1) _ g1)), st 0 (oC h1), st 3 (P (Aq3 (m1) 1 l1 (by decide)))] hl
theorem AkG (c1 : (m1 : Int) < ((s).length : Int)) (g1 : (s : List UInt8)[m1]? = some c2) (h1 : E 143 [(.int .u8 (c2.toNat : Int))] [] (.bool false) []) (c3 : (c2.toNat : Int) = 35) (h2 : E 134 [(.str s), (N m1), (.func 144 [] [])] [] (N m2) []) (hl : LE AjX AjZ [(0, some (.str s)), (1, some (N m2))] [] e ff' σ') : LE AjX AjZ [(0, some (.str s)), (1, some (N m1))] [] e ff' σ' :=
  ruleN [0, 1] [st 3 (P (Aq5 .i64 c1)), st 3 (P (Aq6 _ (m1) _ g1)), st 0 (oC h1), st 4 (P (Aq6 _ (m1) _ g1)), st 0 (P (AqI .u8 c3)), st 4 (oC h2)] hl
theorem r132_l0_out2 (c1 : (m1 : Int) < ((s).length : Int)) (g1 : (s : List UInt8)[m1]? = some c2) (h1 : E 143 [(.int .u8 (c2.toNat : Int))] [] (.bool false) []) (c3 : (c2.toNat : Int) ≠ 35) : LE AjX AjZ [(0, some (.str s)), (1, some (N m1))] [] .ret [(4, some (N m1))] [] :=
  ruleX [4] [st 3 (P (Aq5 .i64 c1)), st 3 (P (Aq6 _ (m1) _ g1)), st 0 (oC h1), st 4 (P (Aq6 _ (m1) _ g1)), st 0 (P (Aq7 .u8 c3))]
theorem R148 : Rn 148 a148 := fun _ _ _ => rfl
theorem r148_1 (l1 : i < 2000000000) (c1 : ¬ ((i + 1 : Nat) : Int) < ((s).length : Int)) (L1 : LE AzL AzM [(0, some (.str s)), (1, some (N i)), (44, some (.slice false 1 (symL.map by8))), (45, some (I 18)), (46, some (I 0))] [] (.exit 0) [(0, some (.str s)), (1, some (N i)), (44, some (.slice false 1 (symL.map by8)))] []) : E 148 [(.str s), (N i)] [] (I 0) [] :=
  rule R148 [st 2 (P (Aq3 (i) 1 l1 (by decide))), st 2 (P (AqD .i64 c1)), sl 36 [0, 1, 44, 45, 46] L1]
theorem r148_2 (l1 : i < 2000000000) (c1 : ¬ ((i + 1 : Nat) : Int) < ((s).length : Int)) (L1 : LE AzL AzM [(0, some (.str s)), (1, some (N i)), (44, some (.slice false 1 (symL.map by8))), (45, some (I 18)), (46, some (I 0))] [] .ret [(4, some (I 1))] []) : E 148 [(.str s), (N i)] [] (I 1) [] :=
  rule R148 [st 2 (P (Aq3 (i) 1 l1 (by decide))), st 2 (P (AqD .i64 c1)), sl 36 [0, 1, 44, 45, 46] L1]
theorem r148_3 (l1 : i < 2000000000) (c1 : ((i + 1 : Nat) : Int) < ((s).length : Int)) (g1 : (s : List UInt8)[i + 1]? = some c2) (c3 : (c2.toNat : Int) = 61) (g2 : (s : List UInt8)[i]? = some c4) (c5 : (c4.toNat : Int) = 61) : E 148 [(.str s), (N i)] [] (I 2) [] :=
  rule R148 [st 2 (P (Aq3 (i) 1 l1 (by decide))), st 2 (P (Aq5 .i64 c1)), sg 3 (P (Aq3 (i) 1 l1 (by decide))), sg 0 (P (Aq6 _ (i + 1) _ g1)), sg 0 (P (AqI .u8 c3)), sg 4 (P (Aq6 _ (i) _ g2)), sg 0 (P (AqI .u8 c5))]
theorem r148_4 (l1 : i < 2000000000) (c1 : ((i + 1 : Nat) : Int) < ((s).length : Int)) (g1 : (s : List UInt8)[i + 1]? = some c2) (c3 : (c2.toNat : Int) ≠ 61) (L1 : LE AzL AzM [(0, some (.str s)), (1, some (N i)), (44, some (.slice false 1 (symL.map by8))), (45, some (I 18)), (46, some (I 0))] [] (.exit 0) [(0, some (.str s)), (1, some (N i)), (44, some (.slice false 1 (symL.map by8)))] []) : E 148 [(.str s), (N i)] [] (I 0) [] :=
  rule R148 [st 2 (P (Aq3 (i) 1 l1 (by decide))), st 2 (P (Aq5 .i64 c1)), sg 3 (P (Aq3 (i) 1 l1 (by decide))), sg 0 (P (Aq6 _ (i + 1) _ g1)), sg 0 (P (Aq7 .u8 c3)), sl 30 [0, 1, 44, 45, 46] L1]
theorem r148_5 (l1 : i < 2000000000) (c1 : ((i + 1 : Nat) : Int) < ((s).length : Int)) (g1 : (s : List UInt8)[i + 1]? = some c2) (c3 : (c2.toNat : Int) ≠ 61) (L1 : LE AzL AzM [(0, some (.str s)), (1, some (N i)), (44, some (.slice false 1 (symL.map by8))), (45, some (I 18)), (46, some (I 0))] [] .ret [(4, some (I 1))] []) : E 148 [(.str s), (N i)] [] (I 1) [] :=
  rule R148 [st 2 (P (Aq3 (i) 1 l1 (by decide))), st 2 (P (Aq5 .i64 c1)), sg 3 (P (Aq3 (i) 1 l1 (by decide))), sg 0 (P (Aq6 _ (i + 1) _ g1)), sg 0 (P (Aq7 .u8 c3)), sl 30 [0, 1, 44, 45, 46] L1]
theorem r148_6 (l1 : i < 2000000000) (c1 : ((i + 1 : Nat) : Int) < ((s).length : Int)) (g1 : (s : List UInt8)[i + 1]? = some c2) (c3 : (c2.toNat : Int) = 61) (g2 : (s : List UInt8)[i]? = some c4) (c5 : (c4.toNat : Int) ≠ 61) (c6 : (c4.toNat : Int) = 33) : E 148 [(.str s), (N i)] [] (I 2) [] :=
  rule R148 [st 2 (P (Aq3 (i) 1 l1 (by decide))), st 2 (P (Aq5 .i64 c1)), sg 3 (P (Aq3 (i) 1 l1 (by decide))), sg 0 (P (Aq6 _ (i + 1) _ g1)), sg 0 (P (AqI .u8 c3)), sg 4 (P (Aq6 _ (i) _ g2)), sg 0 (P (Aq7 .u8 c5)), sg 3 (P (Aq6 _ (i) _ g2)), sg 0 (P (AqI .u8 c6))]
theorem r148_7 (l1 : i < 2000000000) (c1 : ((i + 1 : Nat) : Int) < ((s).length : Int)) (g1 : (s : List UInt8)[i + 1]? = some c2) (c3 : (c2.toNat : Int) = 61) (g2 : (s : List UInt8)[i]? = some c4) (c5 : (c4.toNat : Int) ≠ 61) (c6 : (c4.toNat : Int) ≠ 33) (c7 : (c4.toNat : Int) = 60) : E 148 [(.str s), (N i)] [] (I 2) [] :=
  rule R148 [st 2 (P (Aq3 (i) 1 l1 (by decide))), st 2 (P (Aq5 .i64 c1)), sg 3 (P (Aq3 (i) 1 l1 (by decide))), sg 0 (P (Aq6 _ (i + 1) _ g1)), sg 0 (P (AqI .u8 c3)), sg 4 (P (Aq6 _ (i) _ g2)), sg 0 (P (Aq7 .u8 c5)), sg 3 (P (Aq6 _ (i) _ g2)), sg 0 (P (Aq7 .u8 c6)), sg 4 (P (Aq6 _ (i) _ g2)), sg 0 (P (AqI .u8 c7))]
theorem r148_8 (l1 : i < 2000000000) (c1 : ((i + 1 : Nat) : Int) < ((s).length : Int)) (g1 : (s : List UInt8)[i + 1]? = some c2) (c3 : (c2.toNat : Int) = 61) (g2 : (s : List UInt8)[i]? = some c4) (c5 : (c4.toNat : Int) ≠ 61) (c6 : (c4.toNat : Int) ≠ 33) (c7 : (c4.toNat : Int) ≠ 60) (c8 : (c4.toNat : Int) = 62) : E 148 [(.str s), (N i)] [] (I 2) [] :=
  rule R148 [st 2 (P (Aq3 (i) 1 l1 (by decide))), st 2 (P (Aq5 .i64 c1)), sg 3 (P (Aq3 (i) 1 l1 (by decide))), sg 0 (P (Aq6 _ (i + 1) _ g1)), sg 0 (P (AqI .u8 c3)), sg 4 (P (Aq6 _ (i) _ g2)), sg 0 (P (Aq7 .u8 c5)), sg 3 (P (Aq6 _ (i) _ g2)), sg 0 (P (Aq7 .u8 c6)), sg 4 (P (Aq6 _ (i) _ g2)), sg 0 (P (Aq7 .u8 c7)), sg 4 (P (Aq6 _ (i) _ g2)), sg 0 (P (AqI .u8 c8))]
theorem r148_9 (l1 : i < 2000000000) (c1 : ((i + 1 : Nat) : Int) < ((s).length : Int)) (g1 : (s : List UInt8)[i + 1]? = some c2) (c3 : (c2.toNat : Int) = 61) (g2 : (s : List UInt8)[i]? = some c4) (c5 : (c4.toNat : Int) ≠ 61) (c6 : (c4.toNat : Int) ≠ 33) (c7 : (c4.toNat : Int) ≠ 60) (c8 : (c4.toNat : Int) ≠ 62) (L1 : LE AzL AzM [(0, some (.str s)), (1, some (N i)), (44, some (.slice false 1 (symL.map by8))), (45, some (I 18)), (46, some (I 0))] [] (.exit 0) [(0, some (.str s)), (1, some (N i)), (44, some (.slice false 1 (symL.map by8)))] []) : E 148 [(.str s), (N i)] [] (I 0) [] :=
  rule R148 [st 2 (P (Aq3 (i) 1 l1 (by decide))), st 2 (P (Aq5 .i64 c1)), sg 3 (P (Aq3 (i) 1 l1 (by decide))), sg 0 (P (Aq6 _ (i + 1) _ g1)), sg 0 (P (AqI .u8 c3)), sg 4 (P (Aq6 _ (i) _ g2)), sg 0 (P (Aq7 .u8 c5)), sg 3 (P (Aq6 _ (i) _ g2)), sg 0 (P (Aq7 .u8 c6)), sg 4 (P (Aq6 _ (i) _ g2)), sg 0 (P (Aq7 .u8 c7)), sg 4 (P (Aq6 _ (i) _ g2)), sg 0 (P (Aq7 .u8 c8)), sl 7 [0, 1, 44, 45, 46] L1]
theorem r148_10 (l1 : i < 2000000000) (c1 : ((i + 1 : Nat) : Int) < ((s).length : Int)) (g1 : (s : List UInt8)[i + 1]? = some c2) (c3 : (c2.toNat : Int) = 61) (g2 : (s : List UInt8)[i]? = some c4) (c5 : (c4.toNat : Int) ≠ 61) (c6 : (c4.toNat : Int) ≠ 33) (c7 : (c4.toNat : Int) ≠ 60) (c8 : (c4.toNat : Int) ≠ 62) (L1 : LE AzL AzM [(0, some (.str s)), (1, some (N i)), (44, some (.slice false 1 (symL.map by8))), (45, some (I 18)), (46, some (I 0))] [] .ret [(4, some (I 1))] []) : E 148 [(.str s), (N i)] [] (I 1) [] :=
  rule R148 [st 2 (P (Aq3 (i) 1 l1 (by decide))), st 2 (P (Aq5 .i64 c1)), sg 3 (P (Aq3 (i) 1 l1 (by decide))), sg 0 (P (Aq6 _ (i + 1) _ g1)), sg 0 (P (AqI .u8 c3)), sg 4 (P (Aq6 _ (i) _ g2)), sg 0 (P (Aq7 .u8 c5)), sg 3 (P (Aq6 _ (i) _ g2)), sg 0 (P (Aq7 .u8 c6)), sg 4 (P (Aq6 _ (i) _ g2)), sg 0 (P (Aq7 .u8 c7)), sg 4 (P (Aq6 _ (i) _ g2)), sg 0 (P (Aq7 .u8 c8)), sl 7 [0, 1, 44, 45, 46] L1]
theorem r148_l0_out1 (c1 : ¬ (m1 : Int) < 18) : LE AzL AzM [(0, some (.str s)), (1, some (N i)), (44, some (.slice false 1 (symL.map by8))), (45, some (I 18)), (46, some (N m1))] [] (.exit 0) [(0, some (.str s)), (1, some (N i)), (44, some (.slice false 1 (symL.map by8)))] [] :=
  ruleX [0, 1, 44] [st 0 (P (AqD .i64 c1))]
theorem r148_l0_out2 (c1 : (m1 : Int) < 18) (g1 : (symL)[m1]? = some c2) (g2 : (s : List UInt8)[i]? = some c3) (c4 : (c3.toNat : Int) = (c2.toNat : Int)) : LE AzL AzM [(0, some (.str s)), (1, some (N i)), (44, some (.slice false 1 (symL.map by8))), (45, some (I 18)), (46, some (N m1))] [] .ret [(4, some (I 1))] [] :=
  ruleX [4] [st 0 (P (Aq5 .i64 c1)), st 1 (P (idx_bys (o := false) (s := 1) (m1) g1)), st 4 (P (Aq6 _ (i) _ g2)), st 1 (P (AqI .u8 c4))]
theorem AkE (c1 : (m1 : Int) < 18) (g1 : (symL)[m1]? = some c2) (g2 : (s : List UInt8)[i]? = some c3) (c4 : (c3.toNat : Int) ≠ (c2.toNat : Int)) (l1 : m1 < 2000000000) (hl : LE AzL AzM [(0, some (.str s)), (1, some (N i)), (44, some (.slice false 1 (symL.map by8))), (45, some (I 18)), (46, some (N (m1 + 1)))] [] e ff' σ') : LE AzL AzM [(0, some (.str s)), (1, some (N i)), (44, some (.slice false 1 (symL.map by8))), (45, some (I 18)), (46, some (N m1))] [] e ff' σ' :=
  ruleN [0, 1, 44, 45, 46] [st 0 (P (Aq5 .i64 c1)), st 1 (P (idx_bys (o := false) (s := 1) (m1) g1)), st 4 (P (Aq6 _ (i) _ g2)), st 1 (P (Aq7 .u8 c4)), st 1 (P (Aq3 (m1) 1 l1 (by decide)))] hl
theorem R133 : Rn 133 a133 := fun _ _ _ => rfl
theorem r133_1 (g1 : (s : List UInt8)[i]? = some c1) (h1 : E 145 [(.int .u8 (c1.toNat : Int))] [] (.bool true) []) (h2 : E 134 [(.str s), (N i), (.func 146 [] [])] [] (N m1) []) (x1 : semP (.ssl true true) [(.str s), (N i), (N m1)] = some [some (.str s1)]) (h3 : E 147 [(.str s1)] [] (.bool true) []) : E 133 [(.str s), (N i)] [] (.tuple [(I 1), (N m1)]) [] :=
  rule R133 [st 4 (P (Aq6 _ (i) _ g1)), st 0 (oC h1), st 4 (oC h2), st 4 (P (x1)), st 0 (oC h3)]
theorem r133_2 (g1 : (s : List UInt8)[i]? = some c1) (h1 : E 145 [(.int .u8 (c1.toNat : Int))] [] (.bool true) []) (h2 : E 134 [(.str s), (N i), (.func 146 [] [])] [] (N m1) []) (x1 : semP (.ssl true true) [(.str s), (N i), (N m1)] = some [some (.str s1)]) (h3 : E 147 [(.str s1)] [] (.bool false) []) : E 133 [(.str s), (N i)] [] (.tuple [(I 0), (N m1)]) [] :=
  rule R133 [st 4 (P (Aq6 _ (i) _ g1)), st 0 (oC h1), st 4 (oC h2), st 4 (P (x1)), st 0 (oC h3)]
theorem r133_3 (g1 : (s : List UInt8)[i]? = some c1) (h1 : E 145 [(.int .u8 (c1.toNat : Int))] [] (.bool false) []) (h2 : E 135 [(.int .u8 (c1.toNat : Int))] [] (.bool true) []) (h3 : E 134 [(.str s), (N i), (.func 135 [] [])] [] (N m1) []) : E 133 [(.str s), (N i)] [] (.tuple [(I 2), (N m1)]) [] :=
  rule R133 [st 4 (P (Aq6 _ (i) _ g1)), st 0 (oC h1), st 4 (P (Aq6 _ (i) _ g1)), st 0 (oC h2), st 4 (oC h3)]
theorem r133_4 (g1 : (s : List UInt8)[i]? = some c1) (h1 : E 145 [(.int .u8 (c1.toNat : Int))] [] (.bool false) []) (h2 : E 135 [(.int .u8 (c1.toNat : Int))] [] (.bool false) []) (h3 : E 148 [(.str s), (N i)] [] (N m1) []) (c2 : (m1 : Int) > 0) (l1 : i < 2000000000) (l2 : m1 < 2000000000) : E 133 [(.str s), (N i)] [] (.tuple [(I 3), (N ((i + m1)))]) [] :=
  rule R133 [st 4 (P (Aq6 _ (i) _ g1)), st 0 (oC h1), st 4 (P (Aq6 _ (i) _ g1)), st 0 (oC h2), st 4 (oC h3), st 2 (P (AxD .i64 c2)), st 3 (P (Aq3 (i) (m1) l1 l2))]
theorem r133_5 (g1 : (s : List UInt8)[i]? = some c1) (h1 : E 145 [(.int .u8 (c1.toNat : Int))] [] (.bool false) []) (h2 : E 135 [(.int .u8 (c1.toNat : Int))] [] (.bool false) []) (h3 : E 148 [(.str s), (N i)] [] (N m1) []) (c2 : ¬ (m1 : Int) > 0) (l1 : i < 2000000000) (L1 : LE AjW AjY [(0, some (.str s)), (8, some (N (i + 1)))] [] (.exit 1) [(0, some (.str s)), (8, some (N m2))] []) : E 133 [(.str s), (N i)] [] (.tuple [(I 4), (N m2)]) [] :=
  rule R133 [st 4 (P (Aq6 _ (i) _ g1)), st 0 (oC h1), st 4 (P (Aq6 _ (i) _ g1)), st 0 (oC h2), st 4 (oC h3), st 2 (P (Ax3 .i64 c2)), st 2 (P (Aq3 (i) 1 l1 (by decide))), sl 1 [0, 8] L1]
theorem r133_l0_out1 (c1 : ¬ (m1 : Int) < ((s).length : Int)) : LE AjW AjY [(0, some (.str s)), (8, some (N m1))] [] (.exit 1) [(0, some (.str s)), (8, some (N m1))] [] :=
  ruleX [0, 8] [st 3 (P (AqD .i64 c1))]
theorem r133_l0_out2 (c1 : (m1 : Int) < ((s).length : Int)) (g1 : (s : List UInt8)[m1]? = some c2) (h1 : E 143 [(.int .u8 (c2.toNat : Int))] [] (.bool true) []) : LE AjW AjY [(0, some (.str s)), (8, some (N m1))] [] (.exit 1) [(0, some (.str s)), (8, some (N m1))] [] :=
  ruleX [0, 8] [st 3 (P (Aq5 .i64 c1)), sg 3 (P (Aq6 _ (m1) _ g1)), sg 0 (oC h1)]
theorem r133_l0_out3 (c1 : (m1 : Int) < ((s).length : Int)) (g1 : (s : List UInt8)[m1]? = some c2) (h1 : E 143 [(.int .u8 (c2.toNat : Int))] [] (.bool false) []) (c3 : (c2.toNat : Int) = 35) : LE AjW AjY [(0, some (.str s)), (8, some (N m1))] [] (.exit 1) [(0, some (.str s)), (8, some (N m1))] [] :=
  ruleX [0, 8] [st 3 (P (Aq5 .i64 c1)), sg 3 (P (Aq6 _ (m1) _ g1)), sg 0 (oC h1), sg 5 (P (Aq6 _ (m1) _ g1)), sg 0 (P (AxN .u8 c3))]
theorem r133_l0_out4 (c1 : (m1 : Int) < ((s).length : Int)) (g1 : (s : List UInt8)[m1]? = some c2) (h1 : E 143 [(.int .u8 (c2.toNat : Int))] [] (.bool false) []) (c3 : (c2.toNat : Int) ≠ 35) (h2 : E 145 [(.int .u8 (c2.toNat : Int))] [] (.bool true) []) : LE AjW AjY [(0, some (.str s)), (8, some (N m1))] [] (.exit 1) [(0, some (.str s)), (8, some (N m1))] [] :=
  ruleX [0, 8] [st 3 (P (Aq5 .i64 c1)), sg 3 (P (Aq6 _ (m1) _ g1)), sg 0 (oC h1), sg 5 (P (Aq6 _ (m1) _ g1)), sg 0 (P (AxW .u8 c3)), sg 4 (P (Aq6 _ (m1) _ g1)), sg 0 (oC h2)]
theorem r133_l0_out5 (c1 : (m1 : Int) < ((s).length : Int)) (g1 : (s : List UInt8)[m1]? = some c2) (h1 : E 143 [(.int .u8 (c2.toNat : Int))] [] (.bool false) []) (c3 : (c2.toNat : Int) ≠ 35) (h2 : E 145 [(.int .u8 (c2.toNat : Int))] [] (.bool false) []) (h3 : E 135 [(.int .u8 (c2.toNat : Int))] [] (.bool true) []) : LE AjW AjY [(0, some (.str s)), (8, some (N m1))] [] (.exit 1) [(0, some (.str s)), (8, some (N m1))] [] :=
  ruleX [0, 8] [st 3 (P (Aq5 .i64 c1)), sg 3 (P (Aq6 _ (m1) _ g1)), sg 0 (oC h1), sg 5 (P (Aq6 _ (m1) _ g1)), sg 0 (P (AxW .u8 c3)), sg 4 (P (Aq6 _ (m1) _ g1)), sg 0 (oC h2), sg 5 (P (Aq6 _ (m1) _ g1)), sg 0 (oC h3)]
theorem BzX (c1 : (m1 : Int) < ((s).length : Int)) (g1 : (s : List UInt8)[m1]? = some c2) (h1 : E 143 [(.int .u8 (c2.toNat : Int))] [] (.bool false) []) (c3 : (c2.toNat : Int) ≠ 35) (h2 : E 145 [(.int .u8 (c2.toNat : Int))] [] (.bool false) []) (h3 : E 135 [(.int .u8 (c2.toNat : Int))] [] (.bool false) []) (h4 : E 148 [(.str s), (N m1)] [] (N m2) []) (c4 : (m2 : Int) = 0) (l1 : m1 < 2000000000) (hl : LE AjW AjY [(0, some (.str s)), (8, some (N (m1 + 1)))] [] e ff' σ') : LE AjW AjY [(0, some (.str s)), (8, some (N m1))] [] e ff' σ' :=
  ruleN [0, 8] [st 3 (P (Aq5 .i64 c1)), sg 3 (P (Aq6 _ (m1) _ g1)), sg 0 (oC h1), sg 5 (P (Aq6 _ (m1) _ g1)), sg 0 (P (AxW .u8 c3)), sg 4 (P (Aq6 _ (m1) _ g1)), sg 0 (oC h2), sg 5 (P (Aq6 _ (m1) _ g1)), sg 0 (oC h3), sg 5 (oC h4), sg 0 (P (AqI .i64 c4)), st 3 (P (Aq3 (m1) 1 l1 (by decide)))] hl
theorem r133_l0_out6 (c1 : (m1 : Int) < ((s).length : Int)) (g1 : (s : List UInt8)[m1]? = some c2) (h1 : E 143 [(.int .u8 (c2.toNat : Int))] [] (.bool false) []) (c3 : (c2.toNat : Int) ≠ 35) (h2 : E 145 [(.int .u8 (c2.toNat : Int))] [] (.bool false) []) (h3 : E 135 [(.int .u8 (c2.toNat : Int))] [] (.bool false) []) (h4 : E 148 [(.str s), (N m1)] [] (N m2) []) (c4 : (m2 : Int) ≠ 0) : LE AjW AjY [(0, some (.str s)), (8, some (N m1))] [] (.exit 1) [(0, some (.str s)), (8, some (N m1))] [] :=
  ruleX [0, 8] [st 3 (P (Aq5 .i64 c1)), sg 3 (P (Aq6 _ (m1) _ g1)), sg 0 (oC h1), sg 5 (P (Aq6 _ (m1) _ g1)), sg 0 (P (AxW .u8 c3)), sg 4 (P (Aq6 _ (m1) _ g1)), sg 0 (oC h2), sg 5 (P (Aq6 _ (m1) _ g1)), sg 0 (oC h3), sg 5 (oC h4), sg 0 (P (Aq7 .i64 c4))]
theorem R147 : Rn 147 a147 := fun _ _ _ => rfl
theorem r147 {b1 : Bool} (x1 : semP (.look (.bool false) false false) [kwMap, (.str w)] = some [some (.bool b1)]) : E 147 [(.str w)] [] (.bool b1) [] :=
  rule R147 [st 1 (oC e153), st 1 (P (x1))]
theorem R98 : Rn 98 a98 := fun _ _ _ => rfl
theorem r98_1 (c1 : w = []) : E 98 [(.str w)] [] (.tuple [(I 0), (.bool false)]) [] :=
  rule R98 [st 3 (P (AwP c1))]
theorem r98_2 (c1 : w ≠ []) (c2 : ((w).length : Int) > 9) : E 98 [(.str w)] [] (.tuple [(I 0), (.bool false)]) [] :=
  rule R98 [st 3 (P (AkB c1)), sg 3 (P (AxD .i64 c2))]
theorem r98_3 (c1 : w ≠ []) (c2 : ¬ ((w).length : Int) > 9) (h1 : E 134 [(.str w), (I 0), (.func 135 [] [])] [] (N m1) []) (c3 : (m1 : Int) < ((w).length : Int)) : E 98 [(.str w)] [] (.tuple [(I 0), (.bool false)]) [] :=
  rule R98 [st 3 (P (AkB c1)), sg 3 (P (Ax3 .i64 c2)), sg 3 (oC h1), sg 2 (P (Aq5 .i64 c3))]
theorem r98_4 (c1 : w ≠ []) (c2 : ¬ ((w).length : Int) > 9) (h1 : E 134 [(.str w), (I 0), (.func 135 [] [])] [] (N m1) []) (c3 : ¬ (m1 : Int) < ((w).length : Int)) (L1 : LE m98_0 l98_0 [(4, some (I 0)), (22, some (.slice false 1 (w.map by8))), (23, some (N ((w).length))), (24, some (I 0))] [] (.exit 0) [(4, some (I z1)), (22, some (.slice false 1 (w.map by8)))] []) : E 98 [(.str w)] [] (.tuple [(I z1), (.bool true)]) [] :=
  rule R98 [st 3 (P (AkB c1)), sg 3 (P (Ax3 .i64 c2)), sg 3 (oC h1), sg 2 (P (AqD .i64 c3)), st 5 (P (len_bys false 1 w)), sl 1 [4, 22, 23, 24] L1]
theorem BjZ {z2 : Int} {z3 : Int} {z4 : Int} {z5 : Int} (c1 : (m1 : Int) < ((w).length : Int)) (g1 : (w)[m1]? = some c2) (w1 : IntKind.i64.wrap (10 * z1) = z2) (w2 : IntKind.u8.wrap ((c2.toNat : Int) - 48) = z3) (w3 : IntKind.i64.wrap z3 = z4) (w4 : IntKind.i64.wrap (z2 + z4) = z5) (l1 : m1 < 2000000000) (hl : LE m98_0 l98_0 [(4, some (I z5)), (22, some (.slice false 1 (w.map by8))), (23, some (N ((w).length))), (24, some (N (m1 + 1)))] [] e ff' σ') : LE m98_0 l98_0 [(4, some (I z1)), (22, some (.slice false 1 (w.map by8))), (23, some (N ((w).length))), (24, some (N m1))] [] e ff' σ' :=
  ruleN [4, 22, 23, 24] [st 0 (P (Aq5 .i64 c1)), st 1 (P (idx_bys (o := false) (s := 1) (m1) g1)), st 3 (P (mul_of w1)), st 1 (P (sub_of w2)), st 0 (P (cvt_of (k := .u8) w3)), st 0 (P (add_of w4)), st 1 (P (Aq3 (m1) 1 l1 (by decide)))] hl
theorem r98_l0_out1 (c1 : ¬ (m1 : Int) < ((w).length : Int)) : LE m98_0 l98_0 [(4, some (I z1)), (22, some (.slice false 1 (w.map by8))), (23, some (N ((w).length))), (24, some (N m1))] [] (.exit 0) [(4, some (I z1)), (22, some (.slice false 1 (w.map by8)))] [] :=
  ruleX [4, 22] [st 0 (P (AqD .i64 c1))]
theorem R97 : Rn 97 a97 := fun _ _ _ => rfl
theorem r97_2 (c1 : ¬ ((s).length : Int) > 4096) (L1 : LE m97_0 l97_0 [(0, some (.str s)), (4, some .nils), (5, some (I 0))] [] .ret [(2, some (accP 4 es1)), (3, some (I 0))] []) : E 97 [(.str s)] [] (.tuple [(accD 4 es1), (I 0)]) [] :=
  ruleO R97 [st 4 (P (Ax3 .i64 c1)), sl 3 [0, 4, 5] L1] (by simp [Aj3, packR] : (resK [(2, some (accP 4 es1)), (3, some (I 0))] [(2, none), (3, none)]).bind packR = some (.tuple [(accD 4 es1), (I 0)]))
theorem r97_l0_out1 (h1 : E 132 [(.str s), (N m1)] [] (N m2) []) (c1 : (m2 : Int) = ((s).length : Int)) (l1 : es1.length + 1 ≤ AqE) : LE m97_0 l97_0 [(0, some (.str s)), (4, some (accP 4 es1)), (5, some (N m1))] [] .ret [(2, some (accP 4 (es1 ++ [(.agg [(I 5), (N m1), (N m2), (N m2)])]))), (3, some (I 0))] [] :=
  ruleX [2, 3] [st 2 (oC h1), st 4 (P (AqI .i64 c1)), st 1 (P (AvD 4 es1)), st 5 (op_p (AzI l1 (by simp)) : OpEv pur run (.p (.app 4)) [(accP 4 es1), (.slice true 4 [(.agg [(I 5), (N m1), (N m2), (N m2)])])] [] [some (accP 4 (es1 ++ [(.agg [(I 5), (N m1), (N m2), (N m2)])])), some (accD 4 es1)] []), st 0 (P (AvD 4 (es1 ++ [(.agg [(I 5), (N m1), (N m2), (N m2)])])))]
theorem Bk0 {m3 : Nat} {m4 : Nat} (h1 : E 132 [(.str s), (N m1)] [] (N m2) []) (c1 : (m2 : Int) ≠ ((s).length : Int)) (h2 : E 133 [(.str s), (N m2)] [] (.tuple [(N m3), (N m4)]) []) (l1 : es1.length + 1 ≤ AqE) (hl : LE m97_0 l97_0 [(0, some (.str s)), (4, some (accP 4 (es1 ++ [(.agg [(N m3), (N m1), (N m2), (N m4)])]))), (5, some (N m4))] [] e ff' σ') : LE m97_0 l97_0 [(0, some (.str s)), (4, some (accP 4 es1)), (5, some (N m1))] [] e ff' σ' :=
  ruleN [0, 4, 5] [st 2 (oC h1), st 4 (P (Aq7 .i64 c1)), st 3 (oC h2), st 5 (P (AvD 4 es1)), st 6 (op_p (AzI l1 (by simp)) : OpEv pur run (.p (.app 4)) [(accP 4 es1), (.slice true 4 [(.agg [(N m3), (N m1), (N m2), (N m4)])])] [] [some (accP 4 (es1 ++ [(.agg [(N m3), (N m1), (N m2), (N m4)])])), some (accD 4 es1)] []), st 0 (P (AvD 4 (es1 ++ [(.agg [(N m3), (N m1), (N m2), (N m4)])])))] hl
end Go.Abs.Z
