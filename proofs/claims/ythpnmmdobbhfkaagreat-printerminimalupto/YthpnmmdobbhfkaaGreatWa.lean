/- A part of the proof: W1. -/
import Derived.Test.YthpnmmdobbhfkaaGreatGa

set_option linter.unusedVariables false
set_option linter.unusedSimpArgs false
namespace Go.Abs.Z
open Go.Proofs Go.RowKit
section
open Go.Abs.T
def l135_0 : ACode := (q (R [o 11 (y .lss) [s 10, s 9]]) (q (C 11 .skip (.exit 0)) (q (B 1 (q (R [m 12 10, m 6 12]) (R [e 13 (.p .mvo) [s 5] [5], o 14 (.r (.ld 1 true)) [s 2], o 15 L5 [s 3], m 16 6, o 17 (c 140) [s 14, s 15, s 16], o 18 (.p (.bsl 1)) [s 17], e 19 (.p (.app 1)) [s 13, s 18] [13], e 5 (.p .mvo) [s 19] [19]]))) (R [o 20 (y .add) [s 10, i 1], m 10 20]))))
def m135_0 : List Bool := (f2 (t (t (f1 (t (f2 (f1 (t (t (f8 (f4 [])))))))))))
def l84_0 : ACode := (q (R [o 12 (y .lss) [s 11, s 10]]) (q (C 12 .skip (.exit 0)) (q (B 1 (q (R [o 13 (.p (.idx 5)) [s 9, s 11], o 14 L5 [s 13], o 7 (.p (.zi 5)) [], h (.p (.sti 5)) [s 7, s 14] [7]]) (R [m 15 5, o 16 (.r (.ld 1 true)) [s 2], o 17 L5 [s 7], o 18 (c 36) [s 16, s 17], o 19 (.p (.bsl 1)) [s 18, .val (S [10])], o 20 (c 134) [s 19], o 21 (y .add) [s 15, s 20], m 5 21]))) (R [o 22 (y .add) [s 11, i 1], m 11 22]))))
def m84_0 : List Bool := (f2 (t (f2 (t (f2 (f1 (t (t (t (f8 (f4 [])))))))))))
def l91_0 : ACode := (q (R [o 18 (y .lss) [s 17, s 16]]) (q (C 18 .skip (.exit 0)) (q (B 1 (q (R [o 19 (.p (.idx 5)) [s 15, s 17], o 20 L5 [s 19], o 8 (.p (.zi 5)) [], h (.p (.sti 5)) [s 8, s 20] [8]]) (R [o 21 (.r (.ld 1 true)) [s 5], o 22 (c 138) [s 21], o 23 (.r (.ld 1 true)) [s 5], o 24 L5 [s 8], o 25 (c 36) [s 23, s 24], o 26 (.p (.bsl 1)) [s 22, s 25, .val (S [10])], o 27 (c 134) [s 26], o 28 (w 137) [s 6, s 27]]))) (R [o 29 (y .add) [s 17, i 1], m 17 29]))))
def m91_0 : List Bool := (f2 (t (f2 (t (t (f8 (t (t (t (f16 (f2 [])))))))))))
end
variable {d z1 : Int} {T U1 U2 U3 : Tr} {s1 s2 s3 sb1 : List UInt8} {i m1 : Nat} {es1 : List PV} {e : AExit} {ff' : FF} {σ' : Sto} {b1 : Bool}
theorem R36 : Rn 36 a36 := fun _ _ _ => rfl
theorem r36 {g : FuncId} {σg : Sto} (x1 : semP (.look .nilf true true) [writersMap, (I T.kind)] = some [some (.tuple [.func g [] [], .bool true])]) (pg : pur g = true) (h1 : E g [(.agg [(I d)]), T.pv] [] (.str s1) σg) : E 36 [(.agg [(I d)]), T.pv] [] (.str s1) [] :=
  rule R36 [st 1 (P (bx_tr T)), st 1 (oC e59), st 0 (P (fa_tr0 T)), st 1 (P (x1)), st 10 (Q (ld_tr T)), st 0 (op_wdp h1 pg (by simp) (by simp) (by simp) (by simp) (by simp) : OpEv pur run (.w .calld) [(.func g [] []), (.agg [(I d)]), T.pv] [] [some (.str s1)] [])]
theorem R140 : Rn 140 a140 := fun _ _ _ => rfl
theorem r140_1 (wT : T.wf) (g1 : T.kids[i]? = some U1) (h1 : E 36 [(.agg [(I d)]), U1.pv] [] (.str s1) []) (g2 : T.kids[i]? = some U2) (h2 : E 12 [T.pv, (N i), U2.pv] [] (.bool true) []) (l1 : ([40] : List UInt8).length + s1.length ≤ maxStr) (l2 : (([40] ++ s1) : List UInt8).length + ([41] : List UInt8).length ≤ maxStr) : E 140 [(.agg [(I d)]), T.pv, (N i)] [] (.str (([40] ++ s1) ++ [41])) [] :=
  rule R140 [st 1 (P (bx_tr T)), st 2 (P (fa_tr4 T)), st 0 (Q (ld_kp T)), st 1 (P (idx_kp (i) wT g1)), st 0 (Q (ld_tr U1)), st 0 (oC h1), st 1 (Q (ld_tr T)), st 1 (P (fa_tr4 T)), st 0 (Q (ld_kp T)), st 1 (P (idx_kp (i) wT g2)), st 0 (Q (ld_tr U2)), st 0 (oC h2), st 2 (P (cat_of l1)), st 0 (P (cat_of l2))]
theorem r140_2 (wT : T.wf) (g1 : T.kids[i]? = some U1) (h1 : E 36 [(.agg [(I d)]), U1.pv] [] (.str s1) []) (g2 : T.kids[i]? = some U2) (h2 : E 12 [T.pv, (N i), U2.pv] [] (.bool false) []) : E 140 [(.agg [(I d)]), T.pv, (N i)] [] (.str s1) [] :=
  rule R140 [st 1 (P (bx_tr T)), st 2 (P (fa_tr4 T)), st 0 (Q (ld_kp T)), st 1 (P (idx_kp (i) wT g1)), st 0 (Q (ld_tr U1)), st 0 (oC h1), st 1 (Q (ld_tr T)), st 1 (P (fa_tr4 T)), st 0 (Q (ld_kp T)), st 1 (P (idx_kp (i) wT g2)), st 0 (Q (ld_tr U2)), st 0 (oC h2)]
theorem R135 : Rn 135 a135 := fun _ _ _ => rfl
theorem r135 (wT : T.wf) (L1 : LE m135_0 l135_0 [(2, some (.vptr (.agg [(I d)]))), (3, some (.vptr T.pv)), (5, some .nils), (9, some (N T.kids.length)), (10, some (I 0))] [] (.exit 0) [(3, some (.vptr T.pv)), (5, some (accP 1 es1))] []) (h1 : E 160 [(accD 1 es1), (.str [44, 32])] [] (.str s1) []) : E 135 [(.agg [(I d)]), T.pv] [] (.str s1) [] :=
  rule R135 [st 1 (P (bx_tr T)), st 2 (P (fa_tr4 T)), st 0 (Q (ld_kp T)), st 0 (P (len_kp wT)), sl 1 [2, 3, 5, 9, 10] L1, st 0 (P (mv_acc 1 es1)), st 0 (oC h1)]
theorem r135_l0_next1 (c1 : (m1 : Int) < (T.kids.length : Int)) (h1 : E 140 [(.agg [(I d)]), T.pv, (N m1)] [] (.str s1) []) (l1 : es1.length + 1 ≤ maxRow) (l2 : m1 < 4611686018427387904) (hl : LE m135_0 l135_0 [(2, some (.vptr (.agg [(I d)]))), (3, some (.vptr T.pv)), (5, some (accP 1 (es1 ++ [(.str s1)]))), (9, some (N T.kids.length)), (10, some (N (m1 + 1)))] [] e ff' σ') : LE m135_0 l135_0 [(2, some (.vptr (.agg [(I d)]))), (3, some (.vptr T.pv)), (5, some (accP 1 es1)), (9, some (N T.kids.length)), (10, some (N m1))] [] e ff' σ' :=
  ruleN [2, 3, 5, 9, 10] [st 0 (P (b_lssT .i64 c1)), st 3 (P (mvo_acc 1 es1)), st 1 (Q (ld_tr T)), st 1 (oC h1), st 1 (op_p (app_acc l1 (by simp)) : OpEv pur run (.p (.app 1)) [(accP 1 es1), (.slice true 1 [(.str s1)])] [] [some (accP 1 (es1 ++ [(.str s1)])), some (accD 1 es1)] []), st 0 (P (mvo_acc 1 (es1 ++ [(.str s1)]))), st 0 (P (add_nat (m1) 1 l2 (by decide)))] hl
theorem r135_l0_out1 (c1 : ¬ (m1 : Int) < (T.kids.length : Int)) : LE m135_0 l135_0 [(2, some (.vptr (.agg [(I d)]))), (3, some (.vptr T.pv)), (5, some (accP 1 es1)), (9, some (N T.kids.length)), (10, some (N m1))] [] (.exit 0) [(3, some (.vptr T.pv)), (5, some (accP 1 es1))] [] :=
  ruleX [3, 5] [st 0 (P (b_lssF .i64 c1))]
theorem R106 : Rn 106 a106 := fun _ _ _ => rfl
theorem r106 (h1 : E 140 [(.agg [(I d)]), T.pv, (I 0)] [] (.str s1) []) (h2 : E 140 [(.agg [(I d)]), T.pv, (I 1)] [] (.str s2) []) (l1 : (List.flatten [s1, [32], T.text, [32], s2] : List UInt8).length ≤ 140737488355328) : E 106 [(.agg [(I d)]), T.pv] [] (.str (List.flatten [s1, [32], T.text, [32], s2])) [] :=
  rule R106 [st 1 (P (bx_tr T)), st 2 (Q (ld_tr T)), st 0 (oC h1), st 0 (P (fa_tr1 T)), st 2 (Q (ld_tr T)), st 0 (oC h2), st 1 (oPut [s1, [32], T.text, [32], s2] [] l1)]
theorem R105 : Rn 105 a105 := fun _ _ _ => rfl
theorem r105_1 (c1 : T.text = [110, 111, 116]) (h1 : E 140 [(.agg [(I d)]), T.pv, (I 0)] [] (.str s1) []) (l1 : (List.flatten [[110, 111, 116, 32], s1] : List UInt8).length ≤ 140737488355328) : E 105 [(.agg [(I d)]), T.pv] [] (.str (List.flatten [[110, 111, 116, 32], s1])) [] :=
  rule R105 [st 1 (P (bx_tr T)), st 1 (P (fa_tr1 T)), st 1 (P (s_eqlT c1)), st 2 (Q (ld_tr T)), st 0 (oC h1), st 1 (oPut [[110, 111, 116, 32], s1] [] l1)]
theorem r105_2 (c1 : T.text ≠ [110, 111, 116]) (h1 : E 140 [(.agg [(I d)]), T.pv, (I 0)] [] (.str s1) []) (l1 : (List.flatten [T.text, s1] : List UInt8).length ≤ 140737488355328) : E 105 [(.agg [(I d)]), T.pv] [] (.str (List.flatten [T.text, s1])) [] :=
  rule R105 [st 1 (P (bx_tr T)), st 1 (P (fa_tr1 T)), st 1 (P (s_eqlF c1)), st 1 (P (fa_tr1 T)), st 2 (Q (ld_tr T)), st 0 (oC h1), st 1 (oPut [T.text, s1] [] l1)]
theorem R100 : Rn 100 a100 := fun _ _ _ => rfl
theorem r100 (h1 : E 140 [(.agg [(I d)]), T.pv, (I 0)] [] (.str s1) []) (h2 : E 140 [(.agg [(I d)]), T.pv, (I 1)] [] (.str s2) []) (l1 : (List.flatten [s1, [91], s2, [93]] : List UInt8).length ≤ 140737488355328) : E 100 [(.agg [(I d)]), T.pv] [] (.str (List.flatten [s1, [91], s2, [93]])) [] :=
  rule R100 [st 1 (P (bx_tr T)), st 2 (Q (ld_tr T)), st 0 (oC h1), st 1 (Q (ld_tr T)), st 0 (oC h2), st 1 (oPut [s1, [91], s2, [93]] [] l1)]
theorem R101 : Rn 101 a101 := fun _ _ _ => rfl
theorem r101 (h1 : E 140 [(.agg [(I d)]), T.pv, (I 0)] [] (.str s1) []) (l1 : (List.flatten [s1, [46], T.text] : List UInt8).length ≤ 140737488355328) : E 101 [(.agg [(I d)]), T.pv] [] (.str (List.flatten [s1, [46], T.text])) [] :=
  rule R101 [st 1 (P (bx_tr T)), st 2 (Q (ld_tr T)), st 0 (oC h1), st 0 (P (fa_tr1 T)), st 2 (oPut [s1, [46], T.text] [] l1)]
theorem R102 : Rn 102 a102 := fun _ _ _ => rfl
theorem r102 (h1 : E 140 [(.agg [(I d)]), T.pv, (I 0)] [] (.str s1) []) (l1 : (List.flatten [[108, 101, 110, 40], s1, [41]] : List UInt8).length ≤ 140737488355328) : E 102 [(.agg [(I d)]), T.pv] [] (.str (List.flatten [[108, 101, 110, 40], s1, [41]])) [] :=
  rule R102 [st 1 (P (bx_tr T)), st 2 (Q (ld_tr T)), st 0 (oC h1), st 1 (oPut [[108, 101, 110, 40], s1, [41]] [] l1)]
theorem R103 : Rn 103 a103 := fun _ _ _ => rfl
theorem r103 (h1 : E 135 [(.agg [(I d)]), T.pv] [] (.str s1) []) (l1 : (List.flatten [[91], s1, [93]] : List UInt8).length ≤ 140737488355328) : E 103 [(.agg [(I d)]), T.pv] [] (.str (List.flatten [[91], s1, [93]])) [] :=
  rule R103 [st 1 (P (bx_tr T)), st 2 (Q (ld_tr T)), st 0 (oC h1), st 1 (oPut [[91], s1, [93]] [] l1)]
theorem R104 : Rn 104 a104 := fun _ _ _ => rfl
theorem r104 (h1 : E 135 [(.agg [(I d)]), T.pv] [] (.str s1) []) (l1 : (List.flatten [T.text, [40], s1, [41]] : List UInt8).length ≤ 140737488355328) : E 104 [(.agg [(I d)]), T.pv] [] (.str (List.flatten [T.text, [40], s1, [41]])) [] :=
  rule R104 [st 1 (P (bx_tr T)), st 1 (P (fa_tr1 T)), st 2 (Q (ld_tr T)), st 0 (oC h1), st 1 (oPut [T.text, [40], s1, [41]] [] l1)]
theorem R99 : Rn 99 a99 := fun _ _ _ => rfl
theorem r99 (h1 : E 104 [(.agg [(I d)]), T.pv] [] (.str s1) []) (l1 : (List.flatten [s1, [59]] : List UInt8).length ≤ 140737488355328) : E 99 [(.agg [(I d)]), T.pv] [] (.str (List.flatten [s1, [59]])) [] :=
  rule R99 [st 1 (P (bx_tr T)), st 2 (Q (ld_tr T)), st 0 (oC h1), st 1 (oPut [s1, [59]] [] l1)]
theorem R90 : Rn 90 a90 := fun _ _ _ => rfl
theorem r90 (l1 : (List.flatten [[105, 110, 116, 91], T.text, [93]] : List UInt8).length ≤ 140737488355328) : E 90 [(.agg [(I d)]), T.pv] [] (.str (List.flatten [[105, 110, 116, 91], T.text, [93]])) [] :=
  rule R90 [st 1 (P (bx_tr T)), st 1 (P (fa_tr1 T)), st 2 (oPut [[105, 110, 116, 91], T.text, [93]] [] l1)]
theorem R136 : Rn 136 a136 := fun _ _ _ => rfl
theorem r136_1 (c1 : T.kind = 0) : E 136 [(.agg [(I d)]), T.pv] [] (.str []) [] :=
  rule R136 [st 1 (P (bx_tr T)), st 1 (P (fa_tr0 T)), st 1 (P (b_eqlT .i64 c1))]
theorem r136_2 (c1 : T.kind ≠ 0) (h1 : E 36 [(.agg [(I d)]), T.pv] [] (.str s1) []) (l1 : (List.flatten [[58, 32], s1] : List UInt8).length ≤ 140737488355328) : E 136 [(.agg [(I d)]), T.pv] [] (.str (List.flatten [[58, 32], s1])) [] :=
  rule R136 [st 1 (P (bx_tr T)), st 1 (P (fa_tr0 T)), st 1 (P (b_eqlF .i64 c1)), st 2 (Q (ld_tr T)), st 0 (oC h1), st 1 (oPut [[58, 32], s1] [] l1)]
theorem R86 : Rn 86 a86 := fun _ _ _ => rfl
theorem r86 (wT : T.wf) (g1 : T.kids[0]? = some U1) (h1 : E 136 [(.agg [(I d)]), U1.pv] [] (.str s1) []) (l1 : (List.flatten [T.text, s1] : List UInt8).length ≤ 140737488355328) : E 86 [(.agg [(I d)]), T.pv] [] (.str (List.flatten [T.text, s1])) [] :=
  rule R86 [st 1 (P (bx_tr T)), st 1 (P (fa_tr1 T)), st 2 (P (fa_tr4 T)), st 0 (Q (ld_kp T)), st 0 (P (idx_kp (0) wT g1)), st 0 (Q (ld_tr U1)), st 0 (oC h1), st 1 (oPut [T.text, s1] [] l1)]
theorem R88 : Rn 88 a88 := fun _ _ _ => rfl
theorem r88 (h1 : E 86 [(.agg [(I d)]), T.pv] [] (.str s1) []) (l1 : (List.flatten [[118, 97, 114, 32], s1] : List UInt8).length ≤ 140737488355328) : E 88 [(.agg [(I d)]), T.pv] [] (.str (List.flatten [[118, 97, 114, 32], s1])) [] :=
  rule R88 [st 1 (P (bx_tr T)), st 2 (Q (ld_tr T)), st 0 (oC h1), st 1 (oPut [[118, 97, 114, 32], s1] [] l1)]
theorem R92 : Rn 92 a92 := fun _ _ _ => rfl
theorem r92 (wT : T.wf) (g1 : T.kids[0]? = some U1) (h1 : E 136 [(.agg [(I d)]), U1.pv] [] (.str s1) []) (h2 : E 140 [(.agg [(I d)]), T.pv, (I 1)] [] (.str s2) []) (l1 : (List.flatten [[118, 97, 114, 32], T.text, s1, [32, 61, 32], s2, [59]] : List UInt8).length ≤ 140737488355328) : E 92 [(.agg [(I d)]), T.pv] [] (.str (List.flatten [[118, 97, 114, 32], T.text, s1, [32, 61, 32], s2, [59]])) [] :=
  rule R92 [st 1 (P (bx_tr T)), st 1 (P (fa_tr1 T)), st 2 (P (fa_tr4 T)), st 0 (Q (ld_kp T)), st 0 (P (idx_kp (0) wT g1)), st 0 (Q (ld_tr U1)), st 0 (oC h1), st 1 (Q (ld_tr T)), st 0 (oC h2), st 1 (oPut [[118, 97, 114, 32], T.text, s1, [32, 61, 32], s2, [59]] [] l1)]
theorem R93 : Rn 93 a93 := fun _ _ _ => rfl
theorem r93 (h1 : E 140 [(.agg [(I d)]), T.pv, (I 0)] [] (.str s1) []) (h2 : E 140 [(.agg [(I d)]), T.pv, (I 1)] [] (.str s2) []) (l1 : (List.flatten [s1, [32, 61, 32], s2, [59]] : List UInt8).length ≤ 140737488355328) : E 93 [(.agg [(I d)]), T.pv] [] (.str (List.flatten [s1, [32, 61, 32], s2, [59]])) [] :=
  rule R93 [st 1 (P (bx_tr T)), st 2 (Q (ld_tr T)), st 0 (oC h1), st 1 (Q (ld_tr T)), st 0 (oC h2), st 1 (oPut [s1, [32, 61, 32], s2, [59]] [] l1)]
theorem R98 : Rn 98 a98 := fun _ _ _ => rfl
theorem r98 (h1 : E 140 [(.agg [(I d)]), T.pv, (I 0)] [] (.str s1) []) (l1 : (List.flatten [[97, 115, 115, 101, 114, 116, 32], s1, [59]] : List UInt8).length ≤ 140737488355328) : E 98 [(.agg [(I d)]), T.pv] [] (.str (List.flatten [[97, 115, 115, 101, 114, 116, 32], s1, [59]])) [] :=
  rule R98 [st 1 (P (bx_tr T)), st 2 (Q (ld_tr T)), st 0 (oC h1), st 1 (oPut [[97, 115, 115, 101, 114, 116, 32], s1, [59]] [] l1)]
theorem R97 : Rn 97 a97 := fun _ _ _ => rfl
theorem r97_1 (wT : T.wf) (g1 : T.kids[0]? = some U1) (c1 : U1.kind = 0) : E 97 [(.agg [(I d)]), T.pv] [] (.str [114, 101, 116, 117, 114, 110, 59]) [] :=
  rule R97 [st 1 (P (bx_tr T)), st 1 (P (fa_tr4 T)), st 0 (Q (ld_kp T)), st 0 (P (idx_kp (0) wT g1)), st 0 (P (fa_tr0 U1)), st 1 (P (b_eqlT .i64 c1))]
theorem r97_2 (wT : T.wf) (g1 : T.kids[0]? = some U1) (c1 : U1.kind ≠ 0) (h1 : E 140 [(.agg [(I d)]), T.pv, (I 0)] [] (.str s1) []) (l1 : (List.flatten [[114, 101, 116, 117, 114, 110, 32], s1, [59]] : List UInt8).length ≤ 140737488355328) : E 97 [(.agg [(I d)]), T.pv] [] (.str (List.flatten [[114, 101, 116, 117, 114, 110, 32], s1, [59]])) [] :=
  rule R97 [st 1 (P (bx_tr T)), st 1 (P (fa_tr4 T)), st 0 (Q (ld_kp T)), st 0 (P (idx_kp (0) wT g1)), st 0 (P (fa_tr0 U1)), st 1 (P (b_eqlF .i64 c1)), st 2 (Q (ld_tr T)), st 0 (oC h1), st 1 (oPut [[114, 101, 116, 117, 114, 110, 32], s1, [59]] [] l1)]
theorem R94 : Rn 94 a94 := fun _ _ _ => rfl
theorem r94_1 (h1 : E 140 [(.agg [(I d)]), T.pv, (I 0)] [] (.str s1) []) (wT : T.wf) (g1 : T.kids[1]? = some U1) (h2 : E 36 [(.agg [(I d)]), U1.pv] [] (.str s2) []) (l1 : (List.flatten [[105, 102, 32], s1, [32], s2] : List UInt8).length ≤ 140737488355328) (g2 : T.kids[2]? = some U2) (c1 : U2.kind = 0) : E 94 [(.agg [(I d)]), T.pv] [] (.str (List.flatten [[105, 102, 32], s1, [32], s2])) [] :=
  rule R94 [st 1 (P (bx_tr T)), st 2 (Q (ld_tr T)), st 0 (oC h1), st 1 (P (fa_tr4 T)), st 0 (Q (ld_kp T)), st 0 (P (idx_kp (1) wT g1)), st 0 (Q (ld_tr U1)), st 0 (oC h2), st 1 (oPut [[105, 102, 32], s1, [32], s2] [] l1), st 1 (P (fa_tr4 T)), st 0 (Q (ld_kp T)), st 0 (P (idx_kp (2) wT g2)), st 0 (P (fa_tr0 U2)), st 1 (P (b_eqlT .i64 c1))]
theorem r94_2 (h1 : E 140 [(.agg [(I d)]), T.pv, (I 0)] [] (.str s1) []) (wT : T.wf) (g1 : T.kids[1]? = some U1) (h2 : E 36 [(.agg [(I d)]), U1.pv] [] (.str s2) []) (l1 : (List.flatten [[105, 102, 32], s1, [32], s2] : List UInt8).length ≤ 140737488355328) (g2 : T.kids[2]? = some U2) (c1 : U2.kind ≠ 0) (g3 : T.kids[2]? = some U3) (h3 : E 36 [(.agg [(I d)]), U3.pv] [] (.str s3) []) (l2 : (List.flatten [(List.flatten [[105, 102, 32], s1, [32], s2]), [32, 101, 108, 115, 101, 32], s3] : List UInt8).length ≤ 140737488355328) : E 94 [(.agg [(I d)]), T.pv] [] (.str (List.flatten [(List.flatten [[105, 102, 32], s1, [32], s2]), [32, 101, 108, 115, 101, 32], s3])) [] :=
  rule R94 [st 1 (P (bx_tr T)), st 2 (Q (ld_tr T)), st 0 (oC h1), st 1 (P (fa_tr4 T)), st 0 (Q (ld_kp T)), st 0 (P (idx_kp (1) wT g1)), st 0 (Q (ld_tr U1)), st 0 (oC h2), st 1 (oPut [[105, 102, 32], s1, [32], s2] [] l1), st 1 (P (fa_tr4 T)), st 0 (Q (ld_kp T)), st 0 (P (idx_kp (2) wT g2)), st 0 (P (fa_tr0 U2)), st 1 (P (b_eqlF .i64 c1)), st 3 (P (fa_tr4 T)), st 0 (Q (ld_kp T)), st 0 (P (idx_kp (2) wT g3)), st 0 (Q (ld_tr U3)), st 0 (oC h3), st 1 (oPut [(List.flatten [[105, 102, 32], s1, [32], s2]), [32, 101, 108, 115, 101, 32], s3] [] l2)]
theorem R95 : Rn 95 a95 := fun _ _ _ => rfl
theorem r95 (h1 : E 140 [(.agg [(I d)]), T.pv, (I 0)] [] (.str s1) []) (wT : T.wf) (g1 : T.kids[1]? = some U1) (h2 : E 36 [(.agg [(I d)]), U1.pv] [] (.str s2) []) (l1 : (List.flatten [[119, 104, 105, 108, 101, 32], s1, [32], s2] : List UInt8).length ≤ 140737488355328) : E 95 [(.agg [(I d)]), T.pv] [] (.str (List.flatten [[119, 104, 105, 108, 101, 32], s1, [32], s2])) [] :=
  rule R95 [st 1 (P (bx_tr T)), st 2 (Q (ld_tr T)), st 0 (oC h1), st 1 (P (fa_tr4 T)), st 0 (Q (ld_kp T)), st 0 (P (idx_kp (1) wT g1)), st 0 (Q (ld_tr U1)), st 0 (oC h2), st 1 (oPut [[119, 104, 105, 108, 101, 32], s1, [32], s2] [] l1)]
theorem R96 : Rn 96 a96 := fun _ _ _ => rfl
theorem r96 (h1 : E 140 [(.agg [(I d)]), T.pv, (I 0)] [] (.str s1) []) (h2 : E 140 [(.agg [(I d)]), T.pv, (I 1)] [] (.str s2) []) (wT : T.wf) (g1 : T.kids[2]? = some U1) (h3 : E 36 [(.agg [(I d)]), U1.pv] [] (.str s3) []) (l1 : (List.flatten [[102, 111, 114, 32], T.text, [32, 61, 32], s1, [32, 116, 111, 32], s2, [32], s3] : List UInt8).length ≤ 140737488355328) : E 96 [(.agg [(I d)]), T.pv] [] (.str (List.flatten [[102, 111, 114, 32], T.text, [32, 61, 32], s1, [32, 116, 111, 32], s2, [32], s3])) [] :=
  rule R96 [st 1 (P (bx_tr T)), st 1 (P (fa_tr1 T)), st 2 (Q (ld_tr T)), st 0 (oC h1), st 1 (Q (ld_tr T)), st 0 (oC h2), st 1 (P (fa_tr4 T)), st 0 (Q (ld_kp T)), st 0 (P (idx_kp (2) wT g1)), st 0 (Q (ld_tr U1)), st 0 (oC h3), st 1 (oPut [[102, 111, 114, 32], T.text, [32, 61, 32], s1, [32, 116, 111, 32], s2, [32], s3] [] l1)]
theorem R89 : Rn 89 a89 := fun _ _ _ => rfl
theorem r89 : E 89 [(.agg [(I d)]), T.pv] [] (.str T.text) [] :=
  rule R89 [st 1 (P (bx_tr T)), st 1 (P (fa_tr1 T))]
theorem R84 : Rn 84 a84 := fun _ _ _ => rfl
theorem r84 (wT : T.wf) (L1 : LE m84_0 l84_0 [(2, some (.vptr (.agg [(I d)]))), (5, some (.str [])), (9, some T.kp), (10, some (N T.kids.length)), (11, some (I 0))] [] (.exit 0) [(5, some (.str s1)), (9, some T.kp)] []) : E 84 [(.agg [(I d)]), T.pv] [] (.str s1) [] :=
  rule R84 [st 1 (P (bx_tr T)), st 2 (P (fa_tr4 T)), st 0 (Q (ld_kp T)), st 0 (P (len_kp wT)), sl 1 [2, 5, 9, 10, 11] L1]
theorem r84_l0_next1 (c1 : (m1 : Int) < (T.kids.length : Int)) (wT : T.wf) (g1 : T.kids[m1]? = some U1) (h1 : E 36 [(.agg [(I d)]), U1.pv] [] (.str s2) []) (l1 : (List.flatten [s2, [10]] : List UInt8).length ≤ 140737488355328) (l2 : s1.length + ((List.flatten [s2, [10]]) : List UInt8).length ≤ maxStr) (l3 : m1 < 4611686018427387904) (hl : LE m84_0 l84_0 [(2, some (.vptr (.agg [(I d)]))), (5, some (.str (s1 ++ (List.flatten [s2, [10]])))), (9, some T.kp), (10, some (N T.kids.length)), (11, some (N (m1 + 1)))] [] e ff' σ') : LE m84_0 l84_0 [(2, some (.vptr (.agg [(I d)]))), (5, some (.str s1)), (9, some T.kp), (10, some (N T.kids.length)), (11, some (N m1))] [] e ff' σ' :=
  ruleN [2, 5, 9, 10, 11] [st 0 (P (b_lssT .i64 c1)), st 1 (P (idx_kp (m1) wT g1)), st 0 (Q (ld_tr U1)), st 1 (P (sti_tr U1)), st 2 (Q (ld_tr U1)), st 0 (oC h1), st 1 (oPut [s2, [10]] [] l1), st 0 (P (cat_of l2)), st 1 (P (add_nat (m1) 1 l3 (by decide)))] hl
theorem r84_l0_out1 (c1 : ¬ (m1 : Int) < (T.kids.length : Int)) : LE m84_0 l84_0 [(2, some (.vptr (.agg [(I d)]))), (5, some (.str s1)), (9, some T.kp), (10, some (N T.kids.length)), (11, some (N m1))] [] (.exit 0) [(5, some (.str s1)), (9, some T.kp)] [] :=
  ruleX [5, 9] [st 0 (P (b_lssF .i64 c1))]
theorem R87 : Rn 87 a87 := fun _ _ _ => rfl
theorem r87 (wT : T.wf) (g1 : T.kids[0]? = some U1) (h1 : E 135 [(.agg [(I d)]), U1.pv] [] (.str s1) []) (g2 : T.kids[1]? = some U2) (h2 : E 136 [(.agg [(I d)]), U2.pv] [] (.str s2) []) (g3 : T.kids[2]? = some U3) (h3 : E 36 [(.agg [(I d)]), U3.pv] [] (.str s3) []) (l1 : (List.flatten [[112, 114, 111, 99, 32], T.text, [40], s1, [41], s2, [32], s3] : List UInt8).length ≤ 140737488355328) : E 87 [(.agg [(I d)]), T.pv] [] (.str (List.flatten [[112, 114, 111, 99, 32], T.text, [40], s1, [41], s2, [32], s3])) [] :=
  rule R87 [st 1 (P (bx_tr T)), st 1 (P (fa_tr1 T)), st 2 (P (fa_tr4 T)), st 0 (Q (ld_kp T)), st 0 (P (idx_kp (0) wT g1)), st 0 (Q (ld_tr U1)), st 0 (oC h1), st 1 (P (fa_tr4 T)), st 0 (Q (ld_kp T)), st 0 (P (idx_kp (1) wT g2)), st 0 (Q (ld_tr U2)), st 0 (oC h2), st 1 (P (fa_tr4 T)), st 0 (Q (ld_kp T)), st 0 (P (idx_kp (2) wT g3)), st 0 (Q (ld_tr U3)), st 0 (oC h3), st 1 (oPut [[112, 114, 111, 99, 32], T.text, [40], s1, [41], s2, [32], s3] [] l1)]
theorem R85 : Rn 85 a85 := fun _ _ _ => rfl
theorem r85 (h1 : E 135 [(.agg [(I d)]), T.pv] [] (.str s1) []) (l1 : (List.flatten [[114, 101, 99, 111, 114, 100, 32], T.text, [32, 123, 32], s1, [32, 125]] : List UInt8).length ≤ 140737488355328) : E 85 [(.agg [(I d)]), T.pv] [] (.str (List.flatten [[114, 101, 99, 111, 114, 100, 32], T.text, [32, 123, 32], s1, [32, 125]])) [] :=
  rule R85 [st 1 (P (bx_tr T)), st 1 (P (fa_tr1 T)), st 2 (Q (ld_tr T)), st 0 (oC h1), st 1 (oPut [[114, 101, 99, 111, 114, 100, 32], T.text, [32, 123, 32], s1, [32, 125]] [] l1)]
theorem R91 : Rn 91 a91 := fun _ _ _ => rfl
theorem r91 (w1 : IntKind.i64.wrap (d + 1) = z1) (l1 : ([] : List UInt8).length + ([123, 10] : List UInt8).length ≤ 4294967296) (wT : T.wf) (L1 : LE m91_0 l91_0 [(2, some (.vptr (.agg [(I d)]))), (5, some (.vptr (.agg [(I z1)]))), (6, some (.ref 0 0)), (15, some T.kp), (16, some (N T.kids.length)), (17, some (I 0))] [[(.bld 111 5 [123, 10])]] (.exit 0) [(2, some (.vptr (.agg [(I d)]))), (5, some (.vptr (.agg [(I z1)]))), (6, some (.ref 0 0)), (15, some T.kp)] [[(.bld 111 5 sb1)]]) (h1 : E 138 [(.agg [(I d)])] [] (.str s1) []) (l2 : (List.flatten [s1, [125]] : List UInt8).length ≤ 140737488355328) (l3 : sb1.length + ((List.flatten [s1, [125]]) : List UInt8).length ≤ 4294967296) (l4 : ((sb1 ++ (List.flatten [s1, [125]])) : List UInt8).isEmpty = false) : E 91 [(.agg [(I d)]), T.pv] [] (.str (sb1 ++ (List.flatten [s1, [125]]))) [[.dead]] :=
  rule R91 [st 1 (P (bx_tr T)), st 3 (P (add_of w1)), st 4 (oWr [] [123, 10] l1), st 0 (PS [[(.bld 111 5 [123, 10])]] (fa_tr4 T)), st 0 (QS [[(.bld 111 5 [123, 10])]] (ld_kp T)), st 0 (PS [[(.bld 111 5 [123, 10])]] (len_kp wT)), sl 1 [2, 5, 6, 15, 16, 17] L1, st 1 (oCS [[(.bld 111 5 sb1)]] h1), st 1 (oPut [s1, [125]] [[(.bld 111 5 sb1)]] l2), st 0 (oWr sb1 (List.flatten [s1, [125]]) l3), st 0 (oStr (sb1 ++ (List.flatten [s1, [125]])) l4)]
theorem r91_l0_next1 (c1 : (m1 : Int) < (T.kids.length : Int)) (wT : T.wf) (g1 : T.kids[m1]? = some U1) (h1 : E 138 [(.agg [(I z1)])] [] (.str s1) []) (h2 : E 36 [(.agg [(I z1)]), U1.pv] [] (.str s2) []) (l1 : (List.flatten [s1, s2, [10]] : List UInt8).length ≤ 140737488355328) (l2 : sb1.length + ((List.flatten [s1, s2, [10]]) : List UInt8).length ≤ 4294967296) (l3 : m1 < 4611686018427387904) (hl : LE m91_0 l91_0 [(2, some (.vptr (.agg [(I d)]))), (5, some (.vptr (.agg [(I z1)]))), (6, some (.ref 0 0)), (15, some T.kp), (16, some (N T.kids.length)), (17, some (N (m1 + 1)))] [[(.bld 111 5 (sb1 ++ (List.flatten [s1, s2, [10]])))]] e ff' σ') : LE m91_0 l91_0 [(2, some (.vptr (.agg [(I d)]))), (5, some (.vptr (.agg [(I z1)]))), (6, some (.ref 0 0)), (15, some T.kp), (16, some (N T.kids.length)), (17, some (N m1))] [[(.bld 111 5 sb1)]] e ff' σ' :=
  ruleN [2, 5, 6, 15, 16, 17] [st 0 (PS [[(.bld 111 5 sb1)]] (b_lssT .i64 c1)), st 1 (PS [[(.bld 111 5 sb1)]] (idx_kp (m1) wT g1)), st 0 (QS [[(.bld 111 5 sb1)]] (ld_tr U1)), st 1 (PS [[(.bld 111 5 sb1)]] (sti_tr U1)), st 1 (oCS [[(.bld 111 5 sb1)]] h1), st 1 (QS [[(.bld 111 5 sb1)]] (ld_tr U1)), st 0 (oCS [[(.bld 111 5 sb1)]] h2), st 1 (oPut [s1, s2, [10]] [[(.bld 111 5 sb1)]] l1), st 0 (oWr sb1 (List.flatten [s1, s2, [10]]) l2), st 0 (PS [[(.bld 111 5 (sb1 ++ (List.flatten [s1, s2, [10]])))]] (add_nat (m1) 1 l3 (by decide)))] hl
theorem r91_l0_out1 (c1 : ¬ (m1 : Int) < (T.kids.length : Int)) : LE m91_0 l91_0 [(2, some (.vptr (.agg [(I d)]))), (5, some (.vptr (.agg [(I z1)]))), (6, some (.ref 0 0)), (15, some T.kp), (16, some (N T.kids.length)), (17, some (N m1))] [[(.bld 111 5 sb1)]] (.exit 0) [(2, some (.vptr (.agg [(I d)]))), (5, some (.vptr (.agg [(I z1)]))), (6, some (.ref 0 0)), (15, some T.kp)] [[(.bld 111 5 sb1)]] :=
  ruleX [2, 5, 6, 15] [st 0 (PS [[(.bld 111 5 sb1)]] (b_lssF .i64 c1))]
theorem R138 : Rn 138 a138 := fun _ _ _ => rfl
theorem r138 (h1 : E 162 [(.str [32, 32]), (I d)] [] (.str s1) []) : E 138 [(.agg [(I d)])] [] (.str s1) [] :=
  rule R138 [st 4 (oC h1)]
theorem R35 : Rn 35 a35 := fun _ _ _ => rfl
theorem r35_2 {s : List UInt8} (c1 : ¬ ((s).length : Int) > 4096) : E 35 [(.str s)] [] (.tuple [(.str s), (I 0)]) [] :=
  rule R35 [st 4 (P (b_gtrF .i64 c1))]
theorem R20 : Rn 20 a20 := fun _ _ _ => rfl
theorem r20_1 (h1 : E 48 [T.pv] [] (.bool true) []) (h2 : E 36 [(.agg [(I 0)]), T.pv] [] (.str s1) []) (h3 : E 35 [(.str s1)] [] (.tuple [(.str s2), (I z1)]) []) : E 20 [T.pv] [] (.tuple [(.str s2), (I z1)]) [] :=
  rule R20 [st 0 (P (bx_tr T)), st 2 (Q (ld_tr T)), st 0 (oC h1), st 3 (Q (ld_tr T)), st 0 (oC h2), st 0 (oC h3)]
theorem R19 : Rn 19 a19 := fun _ _ _ => rfl
theorem r19_1 (h1 : E 27 [(I T.kind)] [] (.bool true) []) (h2 : E 37 [T.pv] [] (.bool b1) []) : E 19 [T.pv] [] (.bool b1) [] :=
  rule R19 [st 0 (P (bx_tr T)), st 1 (P (fa_tr0 T)), st 1 (oC h1), sg 1 (Q (ld_tr T)), sg 0 (oC h2)]
theorem r19_2 (h1 : E 27 [(I T.kind)] [] (.bool false) []) : E 19 [T.pv] [] (.bool false) [] :=
  rule R19 [st 0 (P (bx_tr T)), st 1 (P (fa_tr0 T)), st 1 (oC h1)]
theorem R48 : Rn 48 a48 := fun _ _ _ => rfl
theorem r48_1 (h1 : E 74 [(I T.kind)] [] (.bool true) []) (h2 : E 58 [T.pv] [] (.bool b1) []) : E 48 [T.pv] [] (.bool b1) [] :=
  rule R48 [st 0 (P (bx_tr T)), st 1 (P (fa_tr0 T)), st 1 (oC h1), sg 1 (Q (ld_tr T)), sg 0 (oC h2)]
end Go.Abs.Z
