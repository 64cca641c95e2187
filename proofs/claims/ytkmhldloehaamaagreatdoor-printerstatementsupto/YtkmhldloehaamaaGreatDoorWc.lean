/- A part of the proof: W3. -/
import Derived.Test.YtkmhldloehaamaaGreatDoorLa

set_option linter.unusedVariables false
set_option linter.unusedSimpArgs false
namespace Go.Abs.Z
open Go.Proofs Go.RowKit
section
open Go.Abs.T
def l118_0 : ACode := (q (q (R [m 3 0, o 4 (.p (.len true)) [s 3], o 5 (y .gtr) [s 4, i 1], m 6 5, n 6 true 7 0, g 6 true 8 (.p .sidx) [s 7, i 0], g 6 true 9 (y .eql) [s 8, .val (.int .u8 48)], o 10 pk [s 6, s 9, b false]]) (C 10 .skip (.exit 0))) (B 1 (R [m 11 0, o 12 (.p (.ssl true false)) [s 11, i 1], m 0 12])))
def m118_0 : List Bool := (t (f4 (f2 (t (t (t (f4 [])))))))
def l49_0 : ACode := (q (q (R [m 46 0, m 47 1, o 48 (w 99) [s 46, s 47]]) (C 48 .skip (.exit 1))) (B 2 (q (R [m 49 0, o 50 (w 49) [s 49], m 9 50]) (q (R [m 51 0, m 52 1, o 53 (y .add) [s 52, i 1], o 54 (w 54) [s 51, s 53], o 10 (.p (.zi 5)) [], h (.p (.sti 5)) [s 10, s 54] [10]]) (q (R [m 55 0, m 56 5, m 57 9, o 58 (.p (.ldl 0 5 true)) [s 8], o 59 L5 [s 10], o 60 (.p (.bsl 5)) [s 58, s 59], o 61 (w 50) [s 55, s 56, i 29, s 57, s 60], h (.p (.stl 0 5)) [s 8, s 61] [8]]) (q (R [m 62 1, o 63 (y .eql) [s 62, i 4]]) (C 63 (q (R [o 64 (.p (.ldl 0 5 true)) [s 8], h (.p (.stl 0 5)) [s 4, s 64] [4]]) .ret) .skip)))))))
def m49_0 : List Bool := (t (t (f2 (t (t (f2 (t (f32 (f16 (f8 (f1 [])))))))))))
def l120_0 : ACode := (q (q (R [m 15 0, o 16 (w 65) [s 15, .val (S [44])]]) (C 16 .skip (.exit 0))) (B 1 (R [e 17 (.p .mvo) [s 3] [3], m 18 0, o 19 (w 54) [s 18, i 1], o 20 (.p (.bsl 5)) [s 19], e 21 (.p (.app 5)) [s 17, s 20] [17], e 3 (.p .mvo) [s 21] [21]])))
def m120_0 : List Bool := (t (f2 (t (f16 (f4 (f1 []))))))
def l75_0 : ACode := (q (q (R [m 65 0, o 66 (w 65) [s 65, .val (S [44])]]) (C 66 .skip (.exit 1))) (B 2 (R [e 67 (.p .mvo) [s 6] [6], m 68 0, o 69 (w 54) [s 68, i 1], o 70 (.p (.bsl 5)) [s 69], e 71 (.p (.app 5)) [s 67, s 70] [67], e 6 (.p .mvo) [s 71] [71]])))
def m75_0 : List Bool := (t (f1 (t (t (f2 (t (f32 (f32 (f32 (f2 []))))))))))
end
variable {s s1 s2 tx w : List UInt8} {ls : List Tk} {fi k m1 m2 m3 p : Nat} {D : List PV} {t1 : Tk} {q1 q2 q3 q4 q5 σ' : Sto} {kd : Int} {ts1 us : List Tr} {U1 U2 U3 : Tr} {b1 : Bool} {e : AExit} {ff' : FF}
theorem R73 : Rn 97 a73 := fun _ _ _ => rfl
theorem r73 {t : Tk} (x1 : semP (.ssl true true) [(.str s), (N t.a), (N t.e)] = some [some (.str s1)]) : E 97 [(.str s), t.pv] [] (.str s1) [] :=
  rule R73 [st 7 (P (x1))]
theorem R39 : Rn 44 a39 := fun _ _ _ => rfl
theorem r39 (g1 : (ls)[k]? = some t1) : E 44 [r0] [pc s ls k p D] (N t1.k) [pc s ls k p D] :=
  rule R39 [st 9 (PS [pc s ls k p D] (AxO (o := false) (s := 4) (k) g1))]
theorem R64 : Rn 93 a64 := fun _ _ _ => rfl
theorem r64 (g1 : (ls)[k]? = some t1) (h1 : E 97 [(.str s), t1.pv] [] (.str s1) []) : Hs 93 [pc s ls k p D] s1 [pc s ls k p D] :=
  rule R64 [st 13 (PS [pc s ls k p D] (AxO (o := false) (s := 4) (k) g1)), st 1 (oCS [pc s ls k p D] h1)]
theorem R40 : Rn 45 a40 := fun _ _ _ => rfl
theorem r40_1 (h1 : H39 [pc s ls k p D] m1) (c1 : (m1 : Int) ≠ 5) (h2 : Hs 93 [pc s ls k p D] s1 [pc s ls k p D]) : E 45 [r0, (.str w)] [pc s ls k p D] (.bool (s1 == w)) [pc s ls k p D] :=
  rule R40 [st 2 (oW h1), st 0 (PS [pc s ls k p D] (b_neqT .i64 c1)), sg 2 (oW h2)]
theorem r40_2 (h1 : H39 [pc s ls k p D] m1) (c1 : (m1 : Int) = 5) : Hb 45 w [pc s ls k p D] false [pc s ls k p D] :=
  rule R40 [st 2 (oW h1), st 0 (PS [pc s ls k p D] (AjQ .i64 c1))]
theorem R44 : Rn 49 a44 := fun _ _ _ => rfl
theorem r44 (h1 : Hs 93 [pc s ls k p D] s1 [pc s ls k p D]) (g1 : (ls)[k]? = some t1) (l1 : k < 4611686018427387904) : E 49 [r0] [pc s ls k p D] (.str s1) [pc s ls (k + 1) t1.e D] :=
  rule R44 [st 2 (oW h1), st 11 (PS [pc s ls k p D] (AxO (o := false) (s := 4) (k) g1)), st 6 (PS [pc s ls k p D] (AxW (k) 1 l1 (by decide))), st 2 (stL s ls k p D t1.e), st 2 (stK s ls k t1.e D (k + 1))]
theorem R68 : Rn 65 a68 := fun _ _ _ => rfl
theorem r68_1 (h1 : Hb 45 w [pc s ls k p D] true [pc s ls k p D]) (h2 : Hs 49 [pc s ls k p D] s1 q1) : Hb 65 w [pc s ls k p D] true q1 :=
  rule R68 [st 3 (oW h1), st 2 (oW h2)]
theorem r68_2 (h1 : Hb 45 w [pc s ls k p D] false [pc s ls k p D]) : Hb 65 w [pc s ls k p D] false [pc s ls k p D] :=
  rule R68 [st 3 (oW h1)]
theorem R66 : Rn 68 a66 := fun _ _ _ => rfl
theorem r66_1 (h1 : Hb 65 w [pc s ls k p D] true q1) : Hb 68 w [pc s ls k p D] true q1 :=
  rule R66 [st 3 (oW h1)]
theorem R65 : Rn 66 a65 := fun _ _ _ => rfl
theorem r65_1 (h1 : H39 [pc s ls k p D] m1) (c1 : (m1 : Int) = 0) (h2 : Hs 49 [pc s ls k p D] s1 q1) : Hs 66 [pc s ls k p D] s1 q1 :=
  rule R65 [st 2 (oW h1), st 0 (PS [pc s ls k p D] (AqV .i64 c1)), st 2 (oW h2)]
theorem R45 : Rn 50 a45 := fun _ _ _ => rfl
theorem r45n_1 (c1 : (fi : Int) < (k : Int)) (g1 : (ls)[fi]? = some t1) : E 50 [r0, (N fi), (I kd), (.str tx), .nils] [pc s ls k p D] (.agg [(I kd), (.str tx), (N t1.a), (N p), .nils]) [pc s ls k p D] :=
  rule R45 [st 20 (PS [pc s ls k p D] (AxH .i64 c1)), st 6 (PS [pc s ls k p D] (AxO (o := false) (s := 4) (fi) g1))]
theorem r45n_2 (c1 : ¬ (fi : Int) < (k : Int)) : E 50 [r0, (N fi), (I kd), (.str tx), .nils] [pc s ls k p D] (.agg [(I kd), (.str tx), (N p), (N p), .nils]) [pc s ls k p D] :=
  rule R45 [st 20 (PS [pc s ls k p D] (AxJ .i64 c1))]
theorem r45_1 (c1 : (fi : Int) < (k : Int)) (g1 : (ls)[fi]? = some t1) (c2 : ¬ ((us).length : Int) > 0) : E 50 [r0, (N fi), (I kd), (.str tx), (.slice false 5 (Tr.pvs us))] [pc s ls k p D] (.agg [(I kd), (.str tx), (N t1.a), (N p), (.slice false 5 (Tr.pvs us))]) [pc s ls k p D] :=
  rule R45 [st 20 (PS [pc s ls k p D] (AxH .i64 c1)), st 6 (PS [pc s ls k p D] (AxO (o := false) (s := 4) (fi) g1)), st 5 (PS [pc s ls k p D] (len_trs false 5 us)), st 0 (PS [pc s ls k p D] (Aj2 .i64 c2))]
theorem r45_3 (c1 : (fi : Int) < (k : Int)) (g1 : (ls)[fi]? = some t1) (c2 : ((us).length : Int) > 0) (g2 : (us)[0]? = some U1) (c3 : U1.st < (t1.a : Int)) (g3 : (us)[0]? = some U2) : E 50 [r0, (N fi), (I kd), (.str tx), (.slice false 5 (Tr.pvs us))] [pc s ls k p D] (.agg [(I kd), (.str tx), (I U2.st), (N p), (.slice false 5 (Tr.pvs us))]) [pc s ls k p D] :=
  rule R45 [st 20 (PS [pc s ls k p D] (AxH .i64 c1)), st 6 (PS [pc s ls k p D] (AxO (o := false) (s := 4) (fi) g1)), st 5 (PS [pc s ls k p D] (len_trs false 5 us)), st 0 (PS [pc s ls k p D] (b_gtrT .i64 c2)), sg 2 (PS [pc s ls k p D] (idx_trs (o := false) (s := 5) (0) g2)), sg 0 (PS [pc s ls k p D] (fa_tr2 U1)), sg 3 (PS [pc s ls k p D] (AxH .i64 c3)), st 3 (PS [pc s ls k p D] (idx_trs (o := false) (s := 5) (0) g3)), st 0 (PS [pc s ls k p D] (fa_tr2 U2))]
theorem r45_4 (c1 : (fi : Int) < (k : Int)) (g1 : (ls)[fi]? = some t1) (c2 : ((us).length : Int) > 0) (g2 : (us)[0]? = some U1) (c3 : ¬ U1.st < (t1.a : Int)) : E 50 [r0, (N fi), (I kd), (.str tx), (.slice false 5 (Tr.pvs us))] [pc s ls k p D] (.agg [(I kd), (.str tx), (N t1.a), (N p), (.slice false 5 (Tr.pvs us))]) [pc s ls k p D] :=
  rule R45 [st 20 (PS [pc s ls k p D] (AxH .i64 c1)), st 6 (PS [pc s ls k p D] (AxO (o := false) (s := 4) (fi) g1)), st 5 (PS [pc s ls k p D] (len_trs false 5 us)), st 0 (PS [pc s ls k p D] (b_gtrT .i64 c2)), sg 2 (PS [pc s ls k p D] (idx_trs (o := false) (s := 5) (0) g2)), sg 0 (PS [pc s ls k p D] (fa_tr2 U1)), sg 3 (PS [pc s ls k p D] (AxJ .i64 c3))]
theorem R118 : Rn 150 a118 := fun _ _ _ => rfl
theorem r118 (L1 : LE m118_0 l118_0 [(0, some (.str w))] [] (.exit 0) [(0, some (.str s1))] []) : E 150 [(.str w)] [] (.str s1) [] :=
  rule R118 [sl 1 [0] L1]
theorem r118_l0_out1 (c1 : ¬ ((s1).length : Int) > 1) : LE m118_0 l118_0 [(0, some (.str s1))] [] (.exit 0) [(0, some (.str s1))] [] :=
  ruleX [0] [st 2 (P (Aj2 .i64 c1))]
theorem r118_l0_out2 {c2 : UInt8} (c1 : ((s1).length : Int) > 1) (g1 : (s1 : List UInt8)[0]? = some c2) (c3 : (c2.toNat : Int) ≠ 48) : LE m118_0 l118_0 [(0, some (.str s1))] [] (.exit 0) [(0, some (.str s1))] [] :=
  ruleX [0] [st 2 (P (b_gtrT .i64 c1)), sg 2 (P (AzO _ (0) _ g1)), sg 0 (P (Aq1 .u8 c3))]
theorem R119 : Rn 72 a119 := fun _ _ _ => rfl
theorem r119_2 (l1 : k < 4611686018427387904) (c1 : ¬ ((k + 1 : Nat) : Int) ≥ ((ls).length : Int)) (l2 : k < 4611686018427387904) (g1 : (ls)[k + 1]? = some t1) (h1 : E 97 [(.str s), t1.pv] [] (.str s1) []) : Hs 72 [pc s ls k p D] s1 [pc s ls k p D] :=
  rule R119 [st 5 (PS [pc s ls k p D] (AxW (k) 1 l1 (by decide))), st 4 (PS [pc s ls k p D] (len_tks false 4 ls)), st 0 (PS [pc s ls k p D] (b_geqF .i64 c1)), st 13 (PS [pc s ls k p D] (AxW (k) 1 l2 (by decide))), st 0 (PS [pc s ls k p D] (AxO (o := false) (s := 4) (k + 1) g1)), st 1 (oCS [pc s ls k p D] h1)]
theorem R76 : Rn 99 a76 := fun _ _ _ => rfl
theorem r76_1_1 (h1 : H39 [pc s ls k p D] m1) (c1 : (m1 : Int) ≠ 5) (h2 : Hs 93 [pc s ls k p D] s1 [pc s ls k p D]) (h3 : E 89 [(.slice false 1 [(.str [111, 114])]), (.str s1)] [] (.bool b1) []) : E 99 [r0, (I 1)] [pc s ls k p D] (.bool b1) [pc s ls k p D] :=
  rule R76 [st 2 (oW h1), st 0 (PS [pc s ls k p D] (b_neqT .i64 c1)), sg 2 (oCS [pc s ls k p D] (e29_1)), sg 1 (oW h2), sg 0 (oCS [pc s ls k p D] h3)]
theorem r76_1_2 (h1 : H39 [pc s ls k p D] m1) (c1 : (m1 : Int) = 5) : E 99 [r0, (I 1)] [pc s ls k p D] (.bool false) [pc s ls k p D] :=
  rule R76 [st 2 (oW h1), st 0 (PS [pc s ls k p D] (AjQ .i64 c1))]
theorem r76_2_1 (h1 : H39 [pc s ls k p D] m1) (c1 : (m1 : Int) ≠ 5) (h2 : Hs 93 [pc s ls k p D] s1 [pc s ls k p D]) (h3 : E 89 [(.slice false 1 [(.str [97, 110, 100])]), (.str s1)] [] (.bool b1) []) : E 99 [r0, (I 2)] [pc s ls k p D] (.bool b1) [pc s ls k p D] :=
  rule R76 [st 2 (oW h1), st 0 (PS [pc s ls k p D] (b_neqT .i64 c1)), sg 2 (oCS [pc s ls k p D] (e29_2)), sg 1 (oW h2), sg 0 (oCS [pc s ls k p D] h3)]
theorem r76_2_2 (h1 : H39 [pc s ls k p D] m1) (c1 : (m1 : Int) = 5) : E 99 [r0, (I 2)] [pc s ls k p D] (.bool false) [pc s ls k p D] :=
  rule R76 [st 2 (oW h1), st 0 (PS [pc s ls k p D] (AjQ .i64 c1))]
theorem r76_4_1 (h1 : H39 [pc s ls k p D] m1) (c1 : (m1 : Int) ≠ 5) (h2 : Hs 93 [pc s ls k p D] s1 [pc s ls k p D]) (h3 : E 89 [(.slice false 1 [(.str [61, 61]), (.str [33, 61]), (.str [60]), (.str [60, 61]), (.str [62]), (.str [62, 61])]), (.str s1)] [] (.bool b1) []) : E 99 [r0, (I 4)] [pc s ls k p D] (.bool b1) [pc s ls k p D] :=
  rule R76 [st 2 (oW h1), st 0 (PS [pc s ls k p D] (b_neqT .i64 c1)), sg 2 (oCS [pc s ls k p D] (e29_4)), sg 1 (oW h2), sg 0 (oCS [pc s ls k p D] h3)]
theorem r76_4_2 (h1 : H39 [pc s ls k p D] m1) (c1 : (m1 : Int) = 5) : E 99 [r0, (I 4)] [pc s ls k p D] (.bool false) [pc s ls k p D] :=
  rule R76 [st 2 (oW h1), st 0 (PS [pc s ls k p D] (AjQ .i64 c1))]
theorem r76_5_1 (h1 : H39 [pc s ls k p D] m1) (c1 : (m1 : Int) ≠ 5) (h2 : Hs 93 [pc s ls k p D] s1 [pc s ls k p D]) (h3 : E 89 [(.slice false 1 [(.str [43]), (.str [45])]), (.str s1)] [] (.bool b1) []) : E 99 [r0, (I 5)] [pc s ls k p D] (.bool b1) [pc s ls k p D] :=
  rule R76 [st 2 (oW h1), st 0 (PS [pc s ls k p D] (b_neqT .i64 c1)), sg 2 (oCS [pc s ls k p D] (e29_5)), sg 1 (oW h2), sg 0 (oCS [pc s ls k p D] h3)]
theorem r76_5_2 (h1 : H39 [pc s ls k p D] m1) (c1 : (m1 : Int) = 5) : E 99 [r0, (I 5)] [pc s ls k p D] (.bool false) [pc s ls k p D] :=
  rule R76 [st 2 (oW h1), st 0 (PS [pc s ls k p D] (AjQ .i64 c1))]
theorem r76_6_1 (h1 : H39 [pc s ls k p D] m1) (c1 : (m1 : Int) ≠ 5) (h2 : Hs 93 [pc s ls k p D] s1 [pc s ls k p D]) (h3 : E 89 [(.slice false 1 [(.str [42]), (.str [47]), (.str [37])]), (.str s1)] [] (.bool b1) []) : E 99 [r0, (I 6)] [pc s ls k p D] (.bool b1) [pc s ls k p D] :=
  rule R76 [st 2 (oW h1), st 0 (PS [pc s ls k p D] (b_neqT .i64 c1)), sg 2 (oCS [pc s ls k p D] (e29_6)), sg 1 (oW h2), sg 0 (oCS [pc s ls k p D] h3)]
theorem r76_6_2 (h1 : H39 [pc s ls k p D] m1) (c1 : (m1 : Int) = 5) : E 99 [r0, (I 6)] [pc s ls k p D] (.bool false) [pc s ls k p D] :=
  rule R76 [st 2 (oW h1), st 0 (PS [pc s ls k p D] (AjQ .i64 c1))]
theorem R49 : Rn 54 a49 := fun _ _ _ => rfl
theorem r49_1_1 (h1 : Hx 2 [pc s ls k p D] U1 q1) (L1 : LE m49_0 l49_0 [(0, some r0), (1, some (I 1)), (4, some Z0), (5, some (N k)), (8, some U1.pv)] q1 (.exit 1) [(0, some r0), (1, some (I 1)), (4, some Z0), (5, some (N k)), (8, some U2.pv)] q2) : Hx 1 [pc s ls k p D] U2 q2 :=
  ruleO R49 [st 16 (oW h1), st 1 (zl q1 U1), sl 0 [0, 1, 4, 5, 8] L1, st 0 (PS q2 (Aj5 U2)), st 0 (zl q2 U2)] (by simp [AzJ, packR] : (resK [(4, some U2.pv)] [(4, (some 5))]).bind packR = some U2.pv)
theorem r49_1_l0_next1 (h1 : E 99 [r0, (I 1)] q2 (.bool true) q2) (h2 : Hs 49 q2 s1 q3) (h3 : Hx 2 q3 U2 q4) (h4 : Hn k 29 s1 (.slice false 5 [U1.pv, U2.pv]) q4 U3) (hl : LE m49_0 l49_0 [(0, some r0), (1, some (I 1)), (4, some Z0), (5, some (N k)), (8, some U3.pv)] q4 e ff' σ') : LE m49_0 l49_0 [(0, some r0), (1, some (I 1)), (4, some Z0), (5, some (N k)), (8, some U1.pv)] q2 e ff' σ' :=
  ruleN [0, 1, 4, 5, 8] [st 2 (oW h1), st 2 (oW h2), st 4 (oW h3), st 1 (PS q4 (AxC U2)), st 3 (PS q4 (Aj5 U1)), st 0 (QS q4 (ld_tr U2)), st 0 (bs2 q4 U1 U2), st 0 (wn h4), st 0 (PS q4 (stl_trt U1 U3))] hl
theorem r49_1_l0_out1 (h1 : E 99 [r0, (I 1)] q2 (.bool false) q2) : LE m49_0 l49_0 [(0, some r0), (1, some (I 1)), (4, some Z0), (5, some (N k)), (8, some U1.pv)] q2 (.exit 1) [(0, some r0), (1, some (I 1)), (4, some Z0), (5, some (N k)), (8, some U1.pv)] q2 :=
  ruleX [0, 1, 4, 5, 8] [st 2 (oW h1)]
theorem r49_2_1 (h1 : Hx 3 [pc s ls k p D] U1 q1) (L1 : LE m49_0 l49_0 [(0, some r0), (1, some (I 2)), (4, some Z0), (5, some (N k)), (8, some U1.pv)] q1 (.exit 1) [(0, some r0), (1, some (I 2)), (4, some Z0), (5, some (N k)), (8, some U2.pv)] q2) : Hx 2 [pc s ls k p D] U2 q2 :=
  ruleO R49 [st 16 (oW h1), st 1 (zl q1 U1), sl 0 [0, 1, 4, 5, 8] L1, st 0 (PS q2 (Aj5 U2)), st 0 (zl q2 U2)] (by simp [AzJ, packR] : (resK [(4, some U2.pv)] [(4, (some 5))]).bind packR = some U2.pv)
theorem r49_2_l0_next1 (h1 : E 99 [r0, (I 2)] q2 (.bool true) q2) (h2 : Hs 49 q2 s1 q3) (h3 : Hx 3 q3 U2 q4) (h4 : Hn k 29 s1 (.slice false 5 [U1.pv, U2.pv]) q4 U3) (hl : LE m49_0 l49_0 [(0, some r0), (1, some (I 2)), (4, some Z0), (5, some (N k)), (8, some U3.pv)] q4 e ff' σ') : LE m49_0 l49_0 [(0, some r0), (1, some (I 2)), (4, some Z0), (5, some (N k)), (8, some U1.pv)] q2 e ff' σ' :=
  ruleN [0, 1, 4, 5, 8] [st 2 (oW h1), st 2 (oW h2), st 4 (oW h3), st 1 (PS q4 (AxC U2)), st 3 (PS q4 (Aj5 U1)), st 0 (QS q4 (ld_tr U2)), st 0 (bs2 q4 U1 U2), st 0 (wn h4), st 0 (PS q4 (stl_trt U1 U3))] hl
theorem r49_2_l0_out1 (h1 : E 99 [r0, (I 2)] q2 (.bool false) q2) : LE m49_0 l49_0 [(0, some r0), (1, some (I 2)), (4, some Z0), (5, some (N k)), (8, some U1.pv)] q2 (.exit 1) [(0, some r0), (1, some (I 2)), (4, some Z0), (5, some (N k)), (8, some U1.pv)] q2 :=
  ruleX [0, 1, 4, 5, 8] [st 2 (oW h1)]
theorem r49_3_1 (h1 : Hb 65 [110, 111, 116] [pc s ls k p D] true q1) (h2 : Hx 3 q1 U1 q2) (h3 : Hn k 28 [110, 111, 116] (.slice false 5 [U1.pv]) q2 U2) : Hx 3 [pc s ls k p D] U2 q2 :=
  ruleO R49 [st 11 (oW h1), st 2 (oW h2), st 1 (PS q2 (AxC U1)), st 2 (QS q2 (ld_tr U1)), st 0 (bs1 q2 U1), st 0 (wn h3), st 0 (zl q2 U2)] (by simp [AzJ, packR] : (resK [(4, some U2.pv)] [(4, (some 5))]).bind packR = some U2.pv)
theorem r49_3_2 (h1 : Hb 65 [110, 111, 116] [pc s ls k p D] false q1) (h2 : Hx 4 q1 U1 q2) : Hx 3 [pc s ls k p D] U1 q2 :=
  ruleO R49 [st 11 (oW h1), st 2 (oW h2), st 0 (zl q2 U1)] (by simp [AzJ, packR] : (resK [(4, some U1.pv)] [(4, (some 5))]).bind packR = some U1.pv)
theorem r49_4_1 (h1 : Hx 5 [pc s ls k p D] U1 q1) (L1 : LE m49_0 l49_0 [(0, some r0), (1, some (I 4)), (4, some Z0), (5, some (N k)), (8, some U1.pv)] q1 (.exit 1) [(0, some r0), (1, some (I 4)), (4, some Z0), (5, some (N k)), (8, some U2.pv)] q2) : Hx 4 [pc s ls k p D] U2 q2 :=
  ruleO R49 [st 16 (oW h1), st 1 (zl q1 U1), sl 0 [0, 1, 4, 5, 8] L1, st 0 (PS q2 (Aj5 U2)), st 0 (zl q2 U2)] (by simp [AzJ, packR] : (resK [(4, some U2.pv)] [(4, (some 5))]).bind packR = some U2.pv)
theorem r49_4_2 (h1 : Hx 5 [pc s ls k p D] U1 q1) (L1 : LE m49_0 l49_0 [(0, some r0), (1, some (I 4)), (4, some Z0), (5, some (N k)), (8, some U1.pv)] q1 .ret [(4, some U2.pv)] q2) : Hx 4 [pc s ls k p D] U2 q2 :=
  ruleO R49 [st 16 (oW h1), st 1 (zl q1 U1), sl 0 [0, 1, 4, 5, 8] L1] (by simp [AzJ, packR] : (resK [(4, some U2.pv)] [(4, (some 5))]).bind packR = some U2.pv)
theorem r49_4_l0_out1 (h1 : E 99 [r0, (I 4)] q2 (.bool true) q2) (h2 : Hs 49 q2 s1 q3) (h3 : Hx 5 q3 U2 q4) (h4 : Hn k 29 s1 (.slice false 5 [U1.pv, U2.pv]) q4 U3) : LE m49_0 l49_0 [(0, some r0), (1, some (I 4)), (4, some Z0), (5, some (N k)), (8, some U1.pv)] q2 .ret [(4, some U3.pv)] q4 :=
  ruleX [4] [st 2 (oW h1), st 2 (oW h2), st 4 (oW h3), st 1 (PS q4 (AxC U2)), st 3 (PS q4 (Aj5 U1)), st 0 (QS q4 (ld_tr U2)), st 0 (bs2 q4 U1 U2), st 0 (wn h4), st 0 (PS q4 (stl_trt U1 U3)), st 3 (PS q4 (Aj5 U3)), st 0 (zl q4 U3)]
theorem r49_4_l0_out2 (h1 : E 99 [r0, (I 4)] q2 (.bool false) q2) : LE m49_0 l49_0 [(0, some r0), (1, some (I 4)), (4, some Z0), (5, some (N k)), (8, some U1.pv)] q2 (.exit 1) [(0, some r0), (1, some (I 4)), (4, some Z0), (5, some (N k)), (8, some U1.pv)] q2 :=
  ruleX [0, 1, 4, 5, 8] [st 2 (oW h1)]
theorem r49_5_1 (h1 : Hx 6 [pc s ls k p D] U1 q1) (L1 : LE m49_0 l49_0 [(0, some r0), (1, some (I 5)), (4, some Z0), (5, some (N k)), (8, some U1.pv)] q1 (.exit 1) [(0, some r0), (1, some (I 5)), (4, some Z0), (5, some (N k)), (8, some U2.pv)] q2) : Hx 5 [pc s ls k p D] U2 q2 :=
  ruleO R49 [st 16 (oW h1), st 1 (zl q1 U1), sl 0 [0, 1, 4, 5, 8] L1, st 0 (PS q2 (Aj5 U2)), st 0 (zl q2 U2)] (by simp [AzJ, packR] : (resK [(4, some U2.pv)] [(4, (some 5))]).bind packR = some U2.pv)
theorem r49_5_l0_next1 (h1 : E 99 [r0, (I 5)] q2 (.bool true) q2) (h2 : Hs 49 q2 s1 q3) (h3 : Hx 6 q3 U2 q4) (h4 : Hn k 29 s1 (.slice false 5 [U1.pv, U2.pv]) q4 U3) (hl : LE m49_0 l49_0 [(0, some r0), (1, some (I 5)), (4, some Z0), (5, some (N k)), (8, some U3.pv)] q4 e ff' σ') : LE m49_0 l49_0 [(0, some r0), (1, some (I 5)), (4, some Z0), (5, some (N k)), (8, some U1.pv)] q2 e ff' σ' :=
  ruleN [0, 1, 4, 5, 8] [st 2 (oW h1), st 2 (oW h2), st 4 (oW h3), st 1 (PS q4 (AxC U2)), st 3 (PS q4 (Aj5 U1)), st 0 (QS q4 (ld_tr U2)), st 0 (bs2 q4 U1 U2), st 0 (wn h4), st 0 (PS q4 (stl_trt U1 U3))] hl
theorem r49_5_l0_out1 (h1 : E 99 [r0, (I 5)] q2 (.bool false) q2) : LE m49_0 l49_0 [(0, some r0), (1, some (I 5)), (4, some Z0), (5, some (N k)), (8, some U1.pv)] q2 (.exit 1) [(0, some r0), (1, some (I 5)), (4, some Z0), (5, some (N k)), (8, some U1.pv)] q2 :=
  ruleX [0, 1, 4, 5, 8] [st 2 (oW h1)]
theorem r49_6_1 (h1 : Hx 7 [pc s ls k p D] U1 q1) (L1 : LE m49_0 l49_0 [(0, some r0), (1, some (I 6)), (4, some Z0), (5, some (N k)), (8, some U1.pv)] q1 (.exit 1) [(0, some r0), (1, some (I 6)), (4, some Z0), (5, some (N k)), (8, some U2.pv)] q2) : Hx 6 [pc s ls k p D] U2 q2 :=
  ruleO R49 [st 16 (oW h1), st 1 (zl q1 U1), sl 0 [0, 1, 4, 5, 8] L1, st 0 (PS q2 (Aj5 U2)), st 0 (zl q2 U2)] (by simp [AzJ, packR] : (resK [(4, some U2.pv)] [(4, (some 5))]).bind packR = some U2.pv)
theorem r49_6_l0_next1 (h1 : E 99 [r0, (I 6)] q2 (.bool true) q2) (h2 : Hs 49 q2 s1 q3) (h3 : Hx 7 q3 U2 q4) (h4 : Hn k 29 s1 (.slice false 5 [U1.pv, U2.pv]) q4 U3) (hl : LE m49_0 l49_0 [(0, some r0), (1, some (I 6)), (4, some Z0), (5, some (N k)), (8, some U3.pv)] q4 e ff' σ') : LE m49_0 l49_0 [(0, some r0), (1, some (I 6)), (4, some Z0), (5, some (N k)), (8, some U1.pv)] q2 e ff' σ' :=
  ruleN [0, 1, 4, 5, 8] [st 2 (oW h1), st 2 (oW h2), st 4 (oW h3), st 1 (PS q4 (AxC U2)), st 3 (PS q4 (Aj5 U1)), st 0 (QS q4 (ld_tr U2)), st 0 (bs2 q4 U1 U2), st 0 (wn h4), st 0 (PS q4 (stl_trt U1 U3))] hl
theorem r49_6_l0_out1 (h1 : E 99 [r0, (I 6)] q2 (.bool false) q2) : LE m49_0 l49_0 [(0, some r0), (1, some (I 6)), (4, some Z0), (5, some (N k)), (8, some U1.pv)] q2 (.exit 1) [(0, some r0), (1, some (I 6)), (4, some Z0), (5, some (N k)), (8, some U1.pv)] q2 :=
  ruleX [0, 1, 4, 5, 8] [st 2 (oW h1)]
theorem r49_7_1 (h1 : Hb 65 [45] [pc s ls k p D] true q1) (h2 : Hx 7 q1 U1 q2) (h3 : Hn k 28 [45] (.slice false 5 [U1.pv]) q2 U2) : Hx 7 [pc s ls k p D] U2 q2 :=
  ruleO R49 [st 14 (oW h1), st 2 (oW h2), st 1 (PS q2 (AxC U1)), st 2 (QS q2 (ld_tr U1)), st 0 (bs1 q2 U1), st 0 (wn h3), st 0 (zl q2 U2)] (by simp [AzJ, packR] : (resK [(4, some U2.pv)] [(4, (some 5))]).bind packR = some U2.pv)
theorem r49_7_2 (h1 : Hb 65 [45] [pc s ls k p D] false q1) (h2 : Ht 98 q1 U1 q2) : Hx 7 [pc s ls k p D] U1 q2 :=
  ruleO R49 [st 14 (oW h1), st 2 (oW h2), st 0 (zl q2 U1)] (by simp [AzJ, packR] : (resK [(4, some U1.pv)] [(4, (some 5))]).bind packR = some U1.pv)
theorem R122 : Rn 134 a122 := fun _ _ _ => rfl
theorem r122 (h1 : Hs 66 [pc s ls k p D] s1 q1) (h2 : Hn k 20 s1 .nils q1 U1) : Ht 134 [pc s ls k p D] U1 q1 :=
  ruleO R122 [st 7 (oW h1), st 4 (oW h2), st 0 (zl q1 U1)] (rz U1)
theorem R121 : Rn 74 a121 := fun _ _ _ => rfl
theorem r121_1 (h1 : Ht 134 [pc s ls k p D] U1 q1) (h2 : Hb 65 [91] q1 true q2) (h3 : Hx 1 q2 U2 q3) (h4 : Hb 68 [93] q3 b1 q4) (h5 : Hn k 21 [] (.slice false 5 [U1.pv, U2.pv]) q4 U3) : Ht 74 [pc s ls k p D] U3 q4 :=
  ruleO R121 [st 7 (oW h1), st 1 (PS q1 (AxC U1)), st 1 (oW h2), st 3 (oW h3), st 1 (PS q3 (AxC U2)), st 1 (oW h4), st 2 (QS q4 (ld_tr U1)), st 0 (QS q4 (ld_tr U2)), st 0 (bs2 q4 U1 U2), st 0 (wn h5), st 0 (zl q4 U3)] (rz U3)
theorem r121_2 (h1 : Ht 134 [pc s ls k p D] U1 q1) (h2 : Hb 65 [91] q1 false q2) (h3 : Hb 65 [46] q2 true q3) (h4 : Hs 66 q3 s1 q4) (h5 : Hn k 22 s1 (.slice false 5 [U1.pv]) q4 U2) : Ht 74 [pc s ls k p D] U2 q4 :=
  ruleO R121 [st 7 (oW h1), st 1 (PS q1 (AxC U1)), st 1 (oW h2), st 3 (oW h3), st 3 (oW h4), st 4 (QS q4 (ld_tr U1)), st 0 (bs1 q4 U1), st 0 (wn h5), st 0 (zl q4 U2)] (rz U2)
theorem r121_3 (h1 : Ht 134 [pc s ls k p D] U1 q1) (h2 : Hb 65 [91] q1 false q2) (h3 : Hb 65 [46] q2 false q3) : Ht 74 [pc s ls k p D] U1 q3 :=
  ruleO R121 [st 7 (oW h1), st 1 (PS q1 (AxC U1)), st 1 (oW h2), st 3 (oW h3), st 2 (QS q3 (ld_tr U1)), st 0 (zl q3 U1)] (rz U1)
theorem R120 : Rn 73 a120 := fun _ _ _ => rfl
theorem r120_1 (h1 : Hs 49 [pc s ls k p D] s1 q1) (h2 : Hb 45 [41] q1 true q1) (h3 : Hb 68 [41] q1 b1 q2) : E 73 [r0] [pc s ls k p D] (.slice false 5 []) q2 :=
  rule R120 [st 4 (oW h1), st 1 (oW h2), st 3 (oW h3)]
theorem r120_2 (h1 : Hs 49 [pc s ls k p D] s1 q1) (h2 : Hb 45 [41] q1 false q1) (h3 : Hx 1 q1 U1 q2) (L1 : LE m120_0 l120_0 [(0, some r0), (3, some (.slice true 5 [U1.pv]))] q2 (.exit 0) [(0, some r0), (3, some (.slice true 5 (Tr.pvs ts1)))] q3) (h4 : Hb 68 [41] q3 b1 q4) : E 73 [r0] [pc s ls k p D] (.slice false 5 (Tr.pvs ts1)) q4 :=
  rule R120 [st 4 (oW h1), st 1 (oW h2), st 4 (oW h3), st 0 (bs1 q2 U1), st 0 (op_p (app_lit (by simp [Ax1]) (by simp) (by simp)) : OpEv pur run (.p (.app 5)) [(.slice true 5 []), (.slice true 5 [U1.pv])] q2 [some (.slice true 5 [U1.pv]), some (.slice false 5 [])] q2), sl 1 [0, 3] L1, st 1 (oW h4)]
theorem r120_l0_next1 (h1 : Hb 65 [44] q1 true q3) (h2 : Hx 1 q3 U1 q4) (l1 : ts1.length + 1 ≤ Ax1) (hl : LE m120_0 l120_0 [(0, some r0), (3, some (.slice true 5 (Tr.pvs (ts1 ++ [U1]))))] q4 e ff' σ') : LE m120_0 l120_0 [(0, some r0), (3, some (.slice true 5 (Tr.pvs ts1)))] q1 e ff' σ' :=
  ruleN [0, 3] [st 1 (oW h1), st 3 (oW h2), st 0 (bs1 q4 U1), st 0 (PS q4 (app_trs true U1 l1))] hl
theorem r120_l0_out1 (h1 : Hb 65 [44] q1 false q3) : LE m120_0 l120_0 [(0, some r0), (3, some (.slice true 5 (Tr.pvs ts1)))] q1 (.exit 0) [(0, some r0), (3, some (.slice true 5 (Tr.pvs ts1)))] q3 :=
  ruleX [0, 3] [st 1 (oW h1)]
theorem R75 : Rn 98 a75 := fun _ _ _ => rfl
theorem r75_1 (h1 : H39 [pc s ls k p D] m1) (c1 : (m1 : Int) = 2) (h2 : Hs 49 [pc s ls k p D] s1 q1) (h3 : E 150 [(.str s1)] [] (.str s2) []) (h4 : Hn k 24 s2 .nils q1 U1) : Ht 98 [pc s ls k p D] U1 q1 :=
  ruleO R75 [st 7 (oW h1), st 0 (PS [pc s ls k p D] (AqV .i64 c1)), st 5 (oW h2), st 0 (oCS q1 h3), st 0 (oW h4), st 0 (zl q1 U1)] (rz U1)
theorem r75_2 (h1 : H39 [pc s ls k p D] m1) (c1 : (m1 : Int) ≠ 2) (h2 : Hb 45 [116, 114, 117, 101] [pc s ls k p D] true [pc s ls k p D]) (h3 : Hs 49 [pc s ls k p D] s1 q1) (h4 : Hn k 25 s1 .nils q1 U1) : Ht 98 [pc s ls k p D] U1 q1 :=
  ruleO R75 [st 7 (oW h1), st 0 (PS [pc s ls k p D] (Aq1 .i64 c1)), st 3 (oW h2), st 9 (oW h3), st 0 (oW h4), st 0 (zl q1 U1)] (rz U1)
theorem r75_3 (h1 : H39 [pc s ls k p D] m1) (c1 : (m1 : Int) ≠ 2) (h2 : Hb 45 [116, 114, 117, 101] [pc s ls k p D] false [pc s ls k p D]) (h3 : Hb 45 [102, 97, 108, 115, 101] [pc s ls k p D] true [pc s ls k p D]) (h4 : Hs 49 [pc s ls k p D] s1 q1) (h5 : Hn k 25 s1 .nils q1 U1) : Ht 98 [pc s ls k p D] U1 q1 :=
  ruleO R75 [st 7 (oW h1), st 0 (PS [pc s ls k p D] (Aq1 .i64 c1)), st 3 (oW h2), sg 2 (oW h3), st 6 (oW h4), st 0 (oW h5), st 0 (zl q1 U1)] (rz U1)
theorem r75_4 (h1 : H39 [pc s ls k p D] m1) (c1 : (m1 : Int) ≠ 2) (h2 : Hb 45 [116, 114, 117, 101] [pc s ls k p D] false [pc s ls k p D]) (h3 : Hb 45 [102, 97, 108, 115, 101] [pc s ls k p D] false [pc s ls k p D]) (h4 : H39 [pc s ls k p D] m2) (c2 : (m2 : Int) = 0) (h5 : Hs 72 [pc s ls k p D] s1 [pc s ls k p D]) (c3 : s1 = [40]) (h6 : Hs 49 [pc s ls k p D] s2 q1) (h7 : E 73 [r0] q1 (.slice false 5 (Tr.pvs ts1)) q2) (h8 : Hn k 27 s2 (.slice false 5 (Tr.pvs ts1)) q2 U1) : Ht 98 [pc s ls k p D] U1 q2 :=
  ruleO R75 [st 7 (oW h1), st 0 (PS [pc s ls k p D] (Aq1 .i64 c1)), st 3 (oW h2), sg 2 (oW h3), st 4 (oW h4), st 0 (PS [pc s ls k p D] (AqV .i64 c2)), sg 2 (oW h5), sg 0 (PS [pc s ls k p D] (s_eqlT c3)), st 4 (oW h6), st 2 (oW h7), st 5 (oW h8), st 0 (zl q2 U1)] (rz U1)
theorem r75_6 (h1 : H39 [pc s ls k p D] m1) (c1 : (m1 : Int) ≠ 2) (h2 : Hb 45 [116, 114, 117, 101] [pc s ls k p D] false [pc s ls k p D]) (h3 : Hb 45 [102, 97, 108, 115, 101] [pc s ls k p D] false [pc s ls k p D]) (h4 : H39 [pc s ls k p D] m2) (c2 : (m2 : Int) = 0) (h5 : Hs 72 [pc s ls k p D] s1 [pc s ls k p D]) (c3 : s1 ≠ [40]) (h6 : H39 [pc s ls k p D] m3) (c4 : (m3 : Int) = 0) (h7 : Ht 74 [pc s ls k p D] U1 q1) : Ht 98 [pc s ls k p D] U1 q1 :=
  ruleO R75 [st 7 (oW h1), st 0 (PS [pc s ls k p D] (Aq1 .i64 c1)), st 3 (oW h2), sg 2 (oW h3), st 4 (oW h4), st 0 (PS [pc s ls k p D] (AqV .i64 c2)), sg 2 (oW h5), sg 0 (PS [pc s ls k p D] (s_eqlF c3)), st 4 (oW h6), st 0 (PS [pc s ls k p D] (AqV .i64 c4)), st 3 (oW h7), st 0 (zl q1 U1)] (rz U1)
theorem r75_7 (h1 : H39 [pc s ls k p D] m1) (c1 : (m1 : Int) ≠ 2) (h2 : Hb 45 [116, 114, 117, 101] [pc s ls k p D] false [pc s ls k p D]) (h3 : Hb 45 [102, 97, 108, 115, 101] [pc s ls k p D] false [pc s ls k p D]) (h4 : H39 [pc s ls k p D] m2) (c2 : (m2 : Int) ≠ 0) (h5 : H39 [pc s ls k p D] m3) (c3 : (m3 : Int) ≠ 0) (h6 : Hb 65 [91] [pc s ls k p D] true q1) (h7 : Hx 1 q1 U1 q2) (L1 : LE m75_0 l75_0 [(0, some r0), (2, some Z0), (3, some (N k)), (6, some (.slice true 5 [U1.pv]))] q2 (.exit 1) [(0, some r0), (2, some Z0), (3, some (N k)), (6, some (.slice true 5 (Tr.pvs ts1)))] q3) (h8 : Hb 68 [93] q3 b1 q4) (h9 : Hn k 26 [] (.slice false 5 (Tr.pvs ts1)) q4 U2) : Ht 98 [pc s ls k p D] U2 q4 :=
  ruleO R75 [st 7 (oW h1), st 0 (PS [pc s ls k p D] (Aq1 .i64 c1)), st 3 (oW h2), sg 2 (oW h3), st 4 (oW h4), st 0 (PS [pc s ls k p D] (Aq1 .i64 c2)), st 8 (oW h5), st 0 (PS [pc s ls k p D] (Aq1 .i64 c3)), st 3 (oW h6), st 3 (oW h7), st 0 (bs1 q2 U1), sl 1 [0, 2, 3, 6] L1, st 1 (oW h8), st 3 (oW h9), st 0 (zl q4 U2)] (rz U2)
theorem r75_9 {b2 : Bool} (h1 : H39 [pc s ls k p D] m1) (c1 : (m1 : Int) ≠ 2) (h2 : Hb 45 [116, 114, 117, 101] [pc s ls k p D] false [pc s ls k p D]) (h3 : Hb 45 [102, 97, 108, 115, 101] [pc s ls k p D] false [pc s ls k p D]) (h4 : H39 [pc s ls k p D] m2) (c2 : (m2 : Int) ≠ 0) (h5 : H39 [pc s ls k p D] m3) (c3 : (m3 : Int) ≠ 0) (h6 : Hb 65 [91] [pc s ls k p D] false q1) (h7 : Hb 65 [108, 101, 110] q1 true q2) (h8 : Hb 68 [40] q2 b1 q3) (h9 : Ht 134 q3 U1 q4) (h10 : Hb 68 [41] q4 b2 q5) (h11 : Hn k 23 [] (.slice false 5 [U1.pv]) q5 U2) : Ht 98 [pc s ls k p D] U2 q5 :=
  ruleO R75 [st 7 (oW h1), st 0 (PS [pc s ls k p D] (Aq1 .i64 c1)), st 3 (oW h2), sg 2 (oW h3), st 4 (oW h4), st 0 (PS [pc s ls k p D] (Aq1 .i64 c2)), st 8 (oW h5), st 0 (PS [pc s ls k p D] (Aq1 .i64 c3)), st 3 (oW h6), st 3 (oW h7), st 3 (oW h8), st 1 (oW h9), st 1 (PS q4 (AxC U1)), st 1 (oW h10), st 2 (QS q5 (ld_tr U1)), st 0 (bs1 q5 U1), st 0 (wn h11), st 0 (zl q5 U2)] (rz U2)
theorem r75_11 (h1 : H39 [pc s ls k p D] m1) (c1 : (m1 : Int) ≠ 2) (h2 : Hb 45 [116, 114, 117, 101] [pc s ls k p D] false [pc s ls k p D]) (h3 : Hb 45 [102, 97, 108, 115, 101] [pc s ls k p D] false [pc s ls k p D]) (h4 : H39 [pc s ls k p D] m2) (c2 : (m2 : Int) ≠ 0) (h5 : H39 [pc s ls k p D] m3) (c3 : (m3 : Int) ≠ 0) (h6 : Hb 65 [91] [pc s ls k p D] false q1) (h7 : Hb 65 [108, 101, 110] q1 false q2) (h8 : Hb 65 [40] q2 true q3) (h9 : Hx 1 q3 U1 q4) (h10 : Hb 68 [41] q4 b1 q5) : Ht 98 [pc s ls k p D] U1 q5 :=
  ruleO R75 [st 7 (oW h1), st 0 (PS [pc s ls k p D] (Aq1 .i64 c1)), st 3 (oW h2), sg 2 (oW h3), st 4 (oW h4), st 0 (PS [pc s ls k p D] (Aq1 .i64 c2)), st 8 (oW h5), st 0 (PS [pc s ls k p D] (Aq1 .i64 c3)), st 3 (oW h6), st 3 (oW h7), st 3 (oW h8), st 3 (oW h9), st 1 (PS q4 (AxC U1)), st 1 (oW h10), st 0 (QS q5 (ld_tr U1)), st 0 (zl q5 U1)] (rz U1)
theorem r75_l0_next1 (h1 : Hb 65 [44] q1 true q3) (h2 : Hx 1 q3 U1 q4) (l1 : ts1.length + 1 ≤ Ax1) (hl : LE m75_0 l75_0 [(0, some r0), (2, some Z0), (3, some (N k)), (6, some (.slice true 5 (Tr.pvs (ts1 ++ [U1]))))] q4 e ff' σ') : LE m75_0 l75_0 [(0, some r0), (2, some Z0), (3, some (N k)), (6, some (.slice true 5 (Tr.pvs ts1)))] q1 e ff' σ' :=
  ruleN [0, 2, 3, 6] [st 1 (oW h1), st 3 (oW h2), st 0 (bs1 q4 U1), st 0 (PS q4 (app_trs true U1 l1))] hl
theorem r75_l0_out1 (h1 : Hb 65 [44] q1 false q3) : LE m75_0 l75_0 [(0, some r0), (2, some Z0), (3, some (N k)), (6, some (.slice true 5 (Tr.pvs ts1)))] q1 (.exit 1) [(0, some r0), (2, some Z0), (3, some (N k)), (6, some (.slice true 5 (Tr.pvs ts1)))] q3 :=
  ruleX [0, 2, 3, 6] [st 1 (oW h1)]
end Go.Abs.Z
