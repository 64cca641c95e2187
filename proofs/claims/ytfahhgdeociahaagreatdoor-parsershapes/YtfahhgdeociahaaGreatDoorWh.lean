/- A part of the proof: W9. -/
import Derived.Test.YtfahhgdeociahaaGreatDoorGf
import Derived.Test.YtfahhgdeociahaaGreatDoorGc
import Derived.Test.YtfahhgdeociahaaGreatDoorWf

set_option linter.unusedVariables false
set_option linter.unusedSimpArgs false
namespace Go.Abs.Z
open Go.Proofs Go.RowKit
theorem R66 : Rn 66 a66 := fun _ _ _ => rfl
theorem r66_3 {T : Tr} {b1 : Bool} (c1 : T.kind = 3) (h1 : E 112 [(.str T.text)] [] (.bool b1) []) : E 66 [T.pv] [] (.bool b1) [] :=
  rule R66 [st 0 (P (bx_tr T)), st 1 (P (Aq8 T)), st 1 (P (Aq9 .i64 c1)), st 3 (P (AqK T)), st 1 (oC h1)] (by kernel_rfl)
theorem r66_4 {T : Tr} {b1 : Bool} (c1 : T.kind ≠ 3) (c2 : T.kind = 4) (h1 : E 112 [(.str T.text)] [] (.bool b1) []) : E 66 [T.pv] [] (.bool b1) [] :=
  rule R66 [st 0 (P (bx_tr T)), st 1 (P (Aq8 T)), st 1 (P (Aq0 .i64 c1)), st 2 (P (Aq9 .i64 c2)), st 3 (P (AqK T)), st 1 (oC h1)] (by kernel_rfl)
theorem r66_5 {T : Tr} {b1 : Bool} (c1 : T.kind ≠ 3) (c2 : T.kind ≠ 4) (c3 : T.kind = 5) (h1 : E 112 [(.str T.text)] [] (.bool b1) []) : E 66 [T.pv] [] (.bool b1) [] :=
  rule R66 [st 0 (P (bx_tr T)), st 1 (P (Aq8 T)), st 1 (P (Aq0 .i64 c1)), st 2 (P (Aq0 .i64 c2)), st 2 (P (Aq9 .i64 c3)), st 3 (P (AqK T)), st 1 (oC h1)] (by kernel_rfl)
theorem r66_7 {T : Tr} {b1 : Bool} (c1 : T.kind ≠ 3) (c2 : T.kind ≠ 4) (c3 : T.kind ≠ 5) (c4 : T.kind = 7) (h1 : E 112 [(.str T.text)] [] (.bool b1) []) : E 66 [T.pv] [] (.bool b1) [] :=
  rule R66 [st 0 (P (bx_tr T)), st 1 (P (Aq8 T)), st 1 (P (Aq0 .i64 c1)), st 2 (P (Aq0 .i64 c2)), st 2 (P (Aq0 .i64 c3)), st 2 (P (Aq9 .i64 c4)), st 3 (P (AqK T)), st 1 (oC h1)] (by kernel_rfl)
theorem r66_8 {T : Tr} {b1 : Bool} (c1 : T.kind ≠ 3) (c2 : T.kind ≠ 4) (c3 : T.kind ≠ 5) (c4 : T.kind ≠ 7) (c5 : T.kind = 8) (h1 : E 112 [(.str T.text)] [] (.bool b1) []) : E 66 [T.pv] [] (.bool b1) [] :=
  rule R66 [st 0 (P (bx_tr T)), st 1 (P (Aq8 T)), st 1 (P (Aq0 .i64 c1)), st 2 (P (Aq0 .i64 c2)), st 2 (P (Aq0 .i64 c3)), st 2 (P (Aq0 .i64 c4)), st 2 (P (Aq9 .i64 c5)), st 3 (P (AqK T)), st 1 (oC h1)] (by kernel_rfl)
theorem r66_12 {T : Tr} {b1 : Bool} (c1 : T.kind ≠ 3) (c2 : T.kind ≠ 4) (c3 : T.kind ≠ 5) (c4 : T.kind ≠ 7) (c5 : T.kind ≠ 8) (c6 : T.kind = 12) (h1 : E 112 [(.str T.text)] [] (.bool b1) []) : E 66 [T.pv] [] (.bool b1) [] :=
  rule R66 [st 0 (P (bx_tr T)), st 1 (P (Aq8 T)), st 1 (P (Aq0 .i64 c1)), st 2 (P (Aq0 .i64 c2)), st 2 (P (Aq0 .i64 c3)), st 2 (P (Aq0 .i64 c4)), st 2 (P (Aq0 .i64 c5)), st 2 (P (Aq9 .i64 c6)), st 3 (P (AqK T)), st 1 (oC h1)] (by kernel_rfl)
theorem r66_16 {T : Tr} {b1 : Bool} (c1 : T.kind ≠ 3) (c2 : T.kind ≠ 4) (c3 : T.kind ≠ 5) (c4 : T.kind ≠ 7) (c5 : T.kind ≠ 8) (c6 : T.kind ≠ 12) (c7 : T.kind = 16) (h1 : E 112 [(.str T.text)] [] (.bool b1) []) : E 66 [T.pv] [] (.bool b1) [] :=
  rule R66 [st 0 (P (bx_tr T)), st 1 (P (Aq8 T)), st 1 (P (Aq0 .i64 c1)), st 2 (P (Aq0 .i64 c2)), st 2 (P (Aq0 .i64 c3)), st 2 (P (Aq0 .i64 c4)), st 2 (P (Aq0 .i64 c5)), st 2 (P (Aq0 .i64 c6)), st 2 (P (Aq9 .i64 c7)), st 3 (P (AqK T)), st 1 (oC h1)] (by kernel_rfl)
theorem r66_19 {T : Tr} {b1 : Bool} (c1 : T.kind ≠ 3) (c2 : T.kind ≠ 4) (c3 : T.kind ≠ 5) (c4 : T.kind ≠ 7) (c5 : T.kind ≠ 8) (c6 : T.kind ≠ 12) (c7 : T.kind ≠ 16) (c8 : T.kind = 19) (h1 : E 112 [(.str T.text)] [] (.bool b1) []) : E 66 [T.pv] [] (.bool b1) [] :=
  rule R66 [st 0 (P (bx_tr T)), st 1 (P (Aq8 T)), st 1 (P (Aq0 .i64 c1)), st 2 (P (Aq0 .i64 c2)), st 2 (P (Aq0 .i64 c3)), st 2 (P (Aq0 .i64 c4)), st 2 (P (Aq0 .i64 c5)), st 2 (P (Aq0 .i64 c6)), st 2 (P (Aq0 .i64 c7)), st 2 (P (Aq9 .i64 c8)), st 3 (P (AqK T)), st 1 (oC h1)] (by kernel_rfl)
theorem r66_20 {T : Tr} {b1 : Bool} (c1 : T.kind ≠ 3) (c2 : T.kind ≠ 4) (c3 : T.kind ≠ 5) (c4 : T.kind ≠ 7) (c5 : T.kind ≠ 8) (c6 : T.kind ≠ 12) (c7 : T.kind ≠ 16) (c8 : T.kind ≠ 19) (c9 : T.kind = 20) (h1 : E 112 [(.str T.text)] [] (.bool b1) []) : E 66 [T.pv] [] (.bool b1) [] :=
  rule R66 [st 0 (P (bx_tr T)), st 1 (P (Aq8 T)), st 1 (P (Aq0 .i64 c1)), st 2 (P (Aq0 .i64 c2)), st 2 (P (Aq0 .i64 c3)), st 2 (P (Aq0 .i64 c4)), st 2 (P (Aq0 .i64 c5)), st 2 (P (Aq0 .i64 c6)), st 2 (P (Aq0 .i64 c7)), st 2 (P (Aq0 .i64 c8)), st 2 (P (Aq9 .i64 c9)), st 3 (P (AqK T)), st 1 (oC h1)] (by kernel_rfl)
theorem r66_22 {T : Tr} {b1 : Bool} (c1 : T.kind ≠ 3) (c2 : T.kind ≠ 4) (c3 : T.kind ≠ 5) (c4 : T.kind ≠ 7) (c5 : T.kind ≠ 8) (c6 : T.kind ≠ 12) (c7 : T.kind ≠ 16) (c8 : T.kind ≠ 19) (c9 : T.kind ≠ 20) (c10 : T.kind = 22) (h1 : E 112 [(.str T.text)] [] (.bool b1) []) : E 66 [T.pv] [] (.bool b1) [] :=
  rule R66 [st 0 (P (bx_tr T)), st 1 (P (Aq8 T)), st 1 (P (Aq0 .i64 c1)), st 2 (P (Aq0 .i64 c2)), st 2 (P (Aq0 .i64 c3)), st 2 (P (Aq0 .i64 c4)), st 2 (P (Aq0 .i64 c5)), st 2 (P (Aq0 .i64 c6)), st 2 (P (Aq0 .i64 c7)), st 2 (P (Aq0 .i64 c8)), st 2 (P (Aq0 .i64 c9)), st 2 (P (Aq9 .i64 c10)), st 3 (P (AqK T)), st 1 (oC h1)] (by kernel_rfl)
theorem r66_27 {T : Tr} {b1 : Bool} (c1 : T.kind ≠ 3) (c2 : T.kind ≠ 4) (c3 : T.kind ≠ 5) (c4 : T.kind ≠ 7) (c5 : T.kind ≠ 8) (c6 : T.kind ≠ 12) (c7 : T.kind ≠ 16) (c8 : T.kind ≠ 19) (c9 : T.kind ≠ 20) (c10 : T.kind ≠ 22) (c11 : T.kind = 27) (h1 : E 112 [(.str T.text)] [] (.bool b1) []) : E 66 [T.pv] [] (.bool b1) [] :=
  rule R66 [st 0 (P (bx_tr T)), st 1 (P (Aq8 T)), st 1 (P (Aq0 .i64 c1)), st 2 (P (Aq0 .i64 c2)), st 2 (P (Aq0 .i64 c3)), st 2 (P (Aq0 .i64 c4)), st 2 (P (Aq0 .i64 c5)), st 2 (P (Aq0 .i64 c6)), st 2 (P (Aq0 .i64 c7)), st 2 (P (Aq0 .i64 c8)), st 2 (P (Aq0 .i64 c9)), st 2 (P (Aq0 .i64 c10)), st 2 (P (Aq9 .i64 c11)), st 2 (P (AqK T)), st 1 (oC h1)] (by kernel_rfl)
theorem r66_9_1 {T : Tr} (c1 : T.kind ≠ 3) (c2 : T.kind ≠ 4) (c3 : T.kind ≠ 5) (c4 : T.kind ≠ 7) (c5 : T.kind ≠ 8) (c6 : T.kind ≠ 12) (c7 : T.kind ≠ 16) (c8 : T.kind ≠ 19) (c9 : T.kind ≠ 20) (c10 : T.kind ≠ 22) (c11 : T.kind ≠ 27) (c12 : T.kind = 9) (c13 : T.text = [105, 110, 116]) : E 66 [T.pv] [] (.bool true) [] :=
  rule R66 [st 0 (P (bx_tr T)), st 1 (P (Aq8 T)), st 1 (P (Aq0 .i64 c1)), st 2 (P (Aq0 .i64 c2)), st 2 (P (Aq0 .i64 c3)), st 2 (P (Aq0 .i64 c4)), st 2 (P (Aq0 .i64 c5)), st 2 (P (Aq0 .i64 c6)), st 2 (P (Aq0 .i64 c7)), st 2 (P (Aq0 .i64 c8)), st 2 (P (Aq0 .i64 c9)), st 2 (P (Aq0 .i64 c10)), st 2 (P (Aq0 .i64 c11)), st 2 (P (Aq9 .i64 c12)), st 2 (P (AqK T)), st 1 (P (AzX c13))] (by kernel_rfl)
theorem r66_9_2 {T : Tr} (c1 : T.kind ≠ 3) (c2 : T.kind ≠ 4) (c3 : T.kind ≠ 5) (c4 : T.kind ≠ 7) (c5 : T.kind ≠ 8) (c6 : T.kind ≠ 12) (c7 : T.kind ≠ 16) (c8 : T.kind ≠ 19) (c9 : T.kind ≠ 20) (c10 : T.kind ≠ 22) (c11 : T.kind ≠ 27) (c12 : T.kind = 9) (c13 : T.text ≠ [105, 110, 116]) (c14 : T.text = [98, 111, 111, 108]) : E 66 [T.pv] [] (.bool true) [] :=
  rule R66 [st 0 (P (bx_tr T)), st 1 (P (Aq8 T)), st 1 (P (Aq0 .i64 c1)), st 2 (P (Aq0 .i64 c2)), st 2 (P (Aq0 .i64 c3)), st 2 (P (Aq0 .i64 c4)), st 2 (P (Aq0 .i64 c5)), st 2 (P (Aq0 .i64 c6)), st 2 (P (Aq0 .i64 c7)), st 2 (P (Aq0 .i64 c8)), st 2 (P (Aq0 .i64 c9)), st 2 (P (Aq0 .i64 c10)), st 2 (P (Aq0 .i64 c11)), st 2 (P (Aq9 .i64 c12)), st 2 (P (AqK T)), st 1 (P (Az3 c13)), sg 1 (P (AqK T)), sg 1 (P (AzX c14))] (by kernel_rfl)
theorem r66_9_3 {T : Tr} {b1 : Bool} (c1 : T.kind ≠ 3) (c2 : T.kind ≠ 4) (c3 : T.kind ≠ 5) (c4 : T.kind ≠ 7) (c5 : T.kind ≠ 8) (c6 : T.kind ≠ 12) (c7 : T.kind ≠ 16) (c8 : T.kind ≠ 19) (c9 : T.kind ≠ 20) (c10 : T.kind ≠ 22) (c11 : T.kind ≠ 27) (c12 : T.kind = 9) (c13 : T.text ≠ [105, 110, 116]) (c14 : T.text ≠ [98, 111, 111, 108]) (h1 : E 112 [(.str T.text)] [] (.bool b1) []) : E 66 [T.pv] [] (.bool b1) [] :=
  rule R66 [st 0 (P (bx_tr T)), st 1 (P (Aq8 T)), st 1 (P (Aq0 .i64 c1)), st 2 (P (Aq0 .i64 c2)), st 2 (P (Aq0 .i64 c3)), st 2 (P (Aq0 .i64 c4)), st 2 (P (Aq0 .i64 c5)), st 2 (P (Aq0 .i64 c6)), st 2 (P (Aq0 .i64 c7)), st 2 (P (Aq0 .i64 c8)), st 2 (P (Aq0 .i64 c9)), st 2 (P (Aq0 .i64 c10)), st 2 (P (Aq0 .i64 c11)), st 2 (P (Aq9 .i64 c12)), st 2 (P (AqK T)), st 1 (P (Az3 c13)), sg 1 (P (AqK T)), sg 1 (P (Az3 c14)), sg 2 (P (AqK T)), sg 1 (oC h1)] (by kernel_rfl)
theorem r66_10 {T : Tr} {b1 : Bool} (c1 : T.kind ≠ 3) (c2 : T.kind ≠ 4) (c3 : T.kind ≠ 5) (c4 : T.kind ≠ 7) (c5 : T.kind ≠ 8) (c6 : T.kind ≠ 12) (c7 : T.kind ≠ 16) (c8 : T.kind ≠ 19) (c9 : T.kind ≠ 20) (c10 : T.kind ≠ 22) (c11 : T.kind ≠ 27) (c12 : T.kind ≠ 9) (c13 : T.kind = 10) (h1 : E 113 [(.str T.text)] [] (.bool b1) []) : E 66 [T.pv] [] (.bool b1) [] :=
  rule R66 [st 0 (P (bx_tr T)), st 1 (P (Aq8 T)), st 1 (P (Aq0 .i64 c1)), st 2 (P (Aq0 .i64 c2)), st 2 (P (Aq0 .i64 c3)), st 2 (P (Aq0 .i64 c4)), st 2 (P (Aq0 .i64 c5)), st 2 (P (Aq0 .i64 c6)), st 2 (P (Aq0 .i64 c7)), st 2 (P (Aq0 .i64 c8)), st 2 (P (Aq0 .i64 c9)), st 2 (P (Aq0 .i64 c10)), st 2 (P (Aq0 .i64 c11)), st 2 (P (Aq0 .i64 c12)), st 2 (P (Aq9 .i64 c13)), st 3 (P (AqK T)), st 1 (oC h1)] (by kernel_rfl)
theorem r66_24 {T : Tr} {b1 : Bool} (c1 : T.kind ≠ 3) (c2 : T.kind ≠ 4) (c3 : T.kind ≠ 5) (c4 : T.kind ≠ 7) (c5 : T.kind ≠ 8) (c6 : T.kind ≠ 12) (c7 : T.kind ≠ 16) (c8 : T.kind ≠ 19) (c9 : T.kind ≠ 20) (c10 : T.kind ≠ 22) (c11 : T.kind ≠ 27) (c12 : T.kind ≠ 9) (c13 : T.kind ≠ 10) (c14 : T.kind = 24) (h1 : E 113 [(.str T.text)] [] (.bool b1) []) : E 66 [T.pv] [] (.bool b1) [] :=
  rule R66 [st 0 (P (bx_tr T)), st 1 (P (Aq8 T)), st 1 (P (Aq0 .i64 c1)), st 2 (P (Aq0 .i64 c2)), st 2 (P (Aq0 .i64 c3)), st 2 (P (Aq0 .i64 c4)), st 2 (P (Aq0 .i64 c5)), st 2 (P (Aq0 .i64 c6)), st 2 (P (Aq0 .i64 c7)), st 2 (P (Aq0 .i64 c8)), st 2 (P (Aq0 .i64 c9)), st 2 (P (Aq0 .i64 c10)), st 2 (P (Aq0 .i64 c11)), st 2 (P (Aq0 .i64 c12)), st 2 (P (Aq0 .i64 c13)), st 2 (P (Aq9 .i64 c14)), st 2 (P (AqK T)), st 1 (oC h1)] (by kernel_rfl)
theorem r66_25_1 {T : Tr} (c1 : T.kind ≠ 3) (c2 : T.kind ≠ 4) (c3 : T.kind ≠ 5) (c4 : T.kind ≠ 7) (c5 : T.kind ≠ 8) (c6 : T.kind ≠ 12) (c7 : T.kind ≠ 16) (c8 : T.kind ≠ 19) (c9 : T.kind ≠ 20) (c10 : T.kind ≠ 22) (c11 : T.kind ≠ 27) (c12 : T.kind ≠ 9) (c13 : T.kind ≠ 10) (c14 : T.kind ≠ 24) (c15 : T.kind = 25) (c16 : T.text = [116, 114, 117, 101]) : E 66 [T.pv] [] (.bool true) [] :=
  rule R66 [st 0 (P (bx_tr T)), st 1 (P (Aq8 T)), st 1 (P (Aq0 .i64 c1)), st 2 (P (Aq0 .i64 c2)), st 2 (P (Aq0 .i64 c3)), st 2 (P (Aq0 .i64 c4)), st 2 (P (Aq0 .i64 c5)), st 2 (P (Aq0 .i64 c6)), st 2 (P (Aq0 .i64 c7)), st 2 (P (Aq0 .i64 c8)), st 2 (P (Aq0 .i64 c9)), st 2 (P (Aq0 .i64 c10)), st 2 (P (Aq0 .i64 c11)), st 2 (P (Aq0 .i64 c12)), st 2 (P (Aq0 .i64 c13)), st 2 (P (Aq0 .i64 c14)), st 2 (P (Aq9 .i64 c15)), st 2 (P (AqK T)), st 1 (P (AzX c16))] (by kernel_rfl)
theorem r66_25_2 {T : Tr} (c1 : T.kind ≠ 3) (c2 : T.kind ≠ 4) (c3 : T.kind ≠ 5) (c4 : T.kind ≠ 7) (c5 : T.kind ≠ 8) (c6 : T.kind ≠ 12) (c7 : T.kind ≠ 16) (c8 : T.kind ≠ 19) (c9 : T.kind ≠ 20) (c10 : T.kind ≠ 22) (c11 : T.kind ≠ 27) (c12 : T.kind ≠ 9) (c13 : T.kind ≠ 10) (c14 : T.kind ≠ 24) (c15 : T.kind = 25) (c16 : T.text ≠ [116, 114, 117, 101]) : E 66 [T.pv] [] (.bool (T.text == [102, 97, 108, 115, 101])) [] :=
  rule R66 [st 0 (P (bx_tr T)), st 1 (P (Aq8 T)), st 1 (P (Aq0 .i64 c1)), st 2 (P (Aq0 .i64 c2)), st 2 (P (Aq0 .i64 c3)), st 2 (P (Aq0 .i64 c4)), st 2 (P (Aq0 .i64 c5)), st 2 (P (Aq0 .i64 c6)), st 2 (P (Aq0 .i64 c7)), st 2 (P (Aq0 .i64 c8)), st 2 (P (Aq0 .i64 c9)), st 2 (P (Aq0 .i64 c10)), st 2 (P (Aq0 .i64 c11)), st 2 (P (Aq0 .i64 c12)), st 2 (P (Aq0 .i64 c13)), st 2 (P (Aq0 .i64 c14)), st 2 (P (Aq9 .i64 c15)), st 2 (P (AqK T)), st 1 (P (Az3 c16)), sg 1 (P (AqK T))] (by kernel_rfl)
theorem r66_28_1 {T : Tr} (c1 : T.kind ≠ 3) (c2 : T.kind ≠ 4) (c3 : T.kind ≠ 5) (c4 : T.kind ≠ 7) (c5 : T.kind ≠ 8) (c6 : T.kind ≠ 12) (c7 : T.kind ≠ 16) (c8 : T.kind ≠ 19) (c9 : T.kind ≠ 20) (c10 : T.kind ≠ 22) (c11 : T.kind ≠ 27) (c12 : T.kind ≠ 9) (c13 : T.kind ≠ 10) (c14 : T.kind ≠ 24) (c15 : T.kind ≠ 25) (c16 : T.kind = 28) (c17 : T.text = [45]) : E 66 [T.pv] [] (.bool true) [] :=
  rule R66 [st 0 (P (bx_tr T)), st 1 (P (Aq8 T)), st 1 (P (Aq0 .i64 c1)), st 2 (P (Aq0 .i64 c2)), st 2 (P (Aq0 .i64 c3)), st 2 (P (Aq0 .i64 c4)), st 2 (P (Aq0 .i64 c5)), st 2 (P (Aq0 .i64 c6)), st 2 (P (Aq0 .i64 c7)), st 2 (P (Aq0 .i64 c8)), st 2 (P (Aq0 .i64 c9)), st 2 (P (Aq0 .i64 c10)), st 2 (P (Aq0 .i64 c11)), st 2 (P (Aq0 .i64 c12)), st 2 (P (Aq0 .i64 c13)), st 2 (P (Aq0 .i64 c14)), st 2 (P (Aq0 .i64 c15)), st 2 (P (Aq9 .i64 c16)), st 2 (P (AqK T)), st 1 (P (AzX c17))] (by kernel_rfl)
theorem r66_28_2 {T : Tr} (c1 : T.kind ≠ 3) (c2 : T.kind ≠ 4) (c3 : T.kind ≠ 5) (c4 : T.kind ≠ 7) (c5 : T.kind ≠ 8) (c6 : T.kind ≠ 12) (c7 : T.kind ≠ 16) (c8 : T.kind ≠ 19) (c9 : T.kind ≠ 20) (c10 : T.kind ≠ 22) (c11 : T.kind ≠ 27) (c12 : T.kind ≠ 9) (c13 : T.kind ≠ 10) (c14 : T.kind ≠ 24) (c15 : T.kind ≠ 25) (c16 : T.kind = 28) (c17 : T.text ≠ [45]) : E 66 [T.pv] [] (.bool (T.text == [110, 111, 116])) [] :=
  rule R66 [st 0 (P (bx_tr T)), st 1 (P (Aq8 T)), st 1 (P (Aq0 .i64 c1)), st 2 (P (Aq0 .i64 c2)), st 2 (P (Aq0 .i64 c3)), st 2 (P (Aq0 .i64 c4)), st 2 (P (Aq0 .i64 c5)), st 2 (P (Aq0 .i64 c6)), st 2 (P (Aq0 .i64 c7)), st 2 (P (Aq0 .i64 c8)), st 2 (P (Aq0 .i64 c9)), st 2 (P (Aq0 .i64 c10)), st 2 (P (Aq0 .i64 c11)), st 2 (P (Aq0 .i64 c12)), st 2 (P (Aq0 .i64 c13)), st 2 (P (Aq0 .i64 c14)), st 2 (P (Aq0 .i64 c15)), st 2 (P (Aq9 .i64 c16)), st 2 (P (AqK T)), st 1 (P (Az3 c17)), sg 1 (P (AqK T))] (by kernel_rfl)
theorem r66_29 {T : Tr} {b1 : Bool} (c1 : T.kind ≠ 3) (c2 : T.kind ≠ 4) (c3 : T.kind ≠ 5) (c4 : T.kind ≠ 7) (c5 : T.kind ≠ 8) (c6 : T.kind ≠ 12) (c7 : T.kind ≠ 16) (c8 : T.kind ≠ 19) (c9 : T.kind ≠ 20) (c10 : T.kind ≠ 22) (c11 : T.kind ≠ 27) (c12 : T.kind ≠ 9) (c13 : T.kind ≠ 10) (c14 : T.kind ≠ 24) (c15 : T.kind ≠ 25) (c16 : T.kind ≠ 28) (c17 : T.kind = 29) (h1 : E 114 [(.slice false 1 [(.str [111, 114]), (.str [97, 110, 100]), (.str [61, 61]), (.str [33, 61]), (.str [60]), (.str [60, 61]), (.str [62]), (.str [62, 61]), (.str [43]), (.str [45]), (.str [42]), (.str [47]), (.str [37])]), (.str T.text)] [] (.bool b1) []) : E 66 [T.pv] [] (.bool b1) [] :=
  rule R66 [st 0 (P (bx_tr T)), st 1 (P (Aq8 T)), st 1 (P (Aq0 .i64 c1)), st 2 (P (Aq0 .i64 c2)), st 2 (P (Aq0 .i64 c3)), st 2 (P (Aq0 .i64 c4)), st 2 (P (Aq0 .i64 c5)), st 2 (P (Aq0 .i64 c6)), st 2 (P (Aq0 .i64 c7)), st 2 (P (Aq0 .i64 c8)), st 2 (P (Aq0 .i64 c9)), st 2 (P (Aq0 .i64 c10)), st 2 (P (Aq0 .i64 c11)), st 2 (P (Aq0 .i64 c12)), st 2 (P (Aq0 .i64 c13)), st 2 (P (Aq0 .i64 c14)), st 2 (P (Aq0 .i64 c15)), st 2 (P (Aq0 .i64 c16)), st 2 (P (Aq9 .i64 c17)), st 3 (P (AqK T)), st 1 (op_c h1 (by rfl) (by rfl) (by rfl) (by rfl) : OpEv pur run (.c 114) [(.slice true 1 [(.str [111, 114]), (.str [97, 110, 100]), (.str [61, 61]), (.str [33, 61]), (.str [60]), (.str [60, 61]), (.str [62]), (.str [62, 61]), (.str [43]), (.str [45]), (.str [42]), (.str [47]), (.str [37])]), (.str T.text)] [] [some (.bool b1)] [])] (by kernel_rfl)
theorem r66_2 {T : Tr} (c1 : T.kind ≠ 3) (c2 : T.kind ≠ 4) (c3 : T.kind ≠ 5) (c4 : T.kind ≠ 7) (c5 : T.kind ≠ 8) (c6 : T.kind ≠ 12) (c7 : T.kind ≠ 16) (c8 : T.kind ≠ 19) (c9 : T.kind ≠ 20) (c10 : T.kind ≠ 22) (c11 : T.kind ≠ 27) (c12 : T.kind ≠ 9) (c13 : T.kind ≠ 10) (c14 : T.kind ≠ 24) (c15 : T.kind ≠ 25) (c16 : T.kind ≠ 28) (c17 : T.kind ≠ 29) : E 66 [T.pv] [] (.bool (T.text == [])) [] :=
  rule R66 [st 0 (P (bx_tr T)), st 1 (P (Aq8 T)), st 1 (P (Aq0 .i64 c1)), st 2 (P (Aq0 .i64 c2)), st 2 (P (Aq0 .i64 c3)), st 2 (P (Aq0 .i64 c4)), st 2 (P (Aq0 .i64 c5)), st 2 (P (Aq0 .i64 c6)), st 2 (P (Aq0 .i64 c7)), st 2 (P (Aq0 .i64 c8)), st 2 (P (Aq0 .i64 c9)), st 2 (P (Aq0 .i64 c10)), st 2 (P (Aq0 .i64 c11)), st 2 (P (Aq0 .i64 c12)), st 2 (P (Aq0 .i64 c13)), st 2 (P (Aq0 .i64 c14)), st 2 (P (Aq0 .i64 c15)), st 2 (P (Aq0 .i64 c16)), st 2 (P (Aq0 .i64 c17)), st 2 (P (AqK T))] (by kernel_rfl)
theorem r66_6 {T : Tr} (c1 : T.kind ≠ 3) (c2 : T.kind ≠ 4) (c3 : T.kind ≠ 5) (c4 : T.kind ≠ 7) (c5 : T.kind ≠ 8) (c6 : T.kind ≠ 12) (c7 : T.kind ≠ 16) (c8 : T.kind ≠ 19) (c9 : T.kind ≠ 20) (c10 : T.kind ≠ 22) (c11 : T.kind ≠ 27) (c12 : T.kind ≠ 9) (c13 : T.kind ≠ 10) (c14 : T.kind ≠ 24) (c15 : T.kind ≠ 25) (c16 : T.kind ≠ 28) (c17 : T.kind ≠ 29) : E 66 [T.pv] [] (.bool (T.text == [])) [] :=
  rule R66 [st 0 (P (bx_tr T)), st 1 (P (Aq8 T)), st 1 (P (Aq0 .i64 c1)), st 2 (P (Aq0 .i64 c2)), st 2 (P (Aq0 .i64 c3)), st 2 (P (Aq0 .i64 c4)), st 2 (P (Aq0 .i64 c5)), st 2 (P (Aq0 .i64 c6)), st 2 (P (Aq0 .i64 c7)), st 2 (P (Aq0 .i64 c8)), st 2 (P (Aq0 .i64 c9)), st 2 (P (Aq0 .i64 c10)), st 2 (P (Aq0 .i64 c11)), st 2 (P (Aq0 .i64 c12)), st 2 (P (Aq0 .i64 c13)), st 2 (P (Aq0 .i64 c14)), st 2 (P (Aq0 .i64 c15)), st 2 (P (Aq0 .i64 c16)), st 2 (P (Aq0 .i64 c17)), st 2 (P (AqK T))] (by kernel_rfl)
theorem r66_11 {T : Tr} (c1 : T.kind ≠ 3) (c2 : T.kind ≠ 4) (c3 : T.kind ≠ 5) (c4 : T.kind ≠ 7) (c5 : T.kind ≠ 8) (c6 : T.kind ≠ 12) (c7 : T.kind ≠ 16) (c8 : T.kind ≠ 19) (c9 : T.kind ≠ 20) (c10 : T.kind ≠ 22) (c11 : T.kind ≠ 27) (c12 : T.kind ≠ 9) (c13 : T.kind ≠ 10) (c14 : T.kind ≠ 24) (c15 : T.kind ≠ 25) (c16 : T.kind ≠ 28) (c17 : T.kind ≠ 29) : E 66 [T.pv] [] (.bool (T.text == [])) [] :=
  rule R66 [st 0 (P (bx_tr T)), st 1 (P (Aq8 T)), st 1 (P (Aq0 .i64 c1)), st 2 (P (Aq0 .i64 c2)), st 2 (P (Aq0 .i64 c3)), st 2 (P (Aq0 .i64 c4)), st 2 (P (Aq0 .i64 c5)), st 2 (P (Aq0 .i64 c6)), st 2 (P (Aq0 .i64 c7)), st 2 (P (Aq0 .i64 c8)), st 2 (P (Aq0 .i64 c9)), st 2 (P (Aq0 .i64 c10)), st 2 (P (Aq0 .i64 c11)), st 2 (P (Aq0 .i64 c12)), st 2 (P (Aq0 .i64 c13)), st 2 (P (Aq0 .i64 c14)), st 2 (P (Aq0 .i64 c15)), st 2 (P (Aq0 .i64 c16)), st 2 (P (Aq0 .i64 c17)), st 2 (P (AqK T))] (by kernel_rfl)
theorem r66_13 {T : Tr} (c1 : T.kind ≠ 3) (c2 : T.kind ≠ 4) (c3 : T.kind ≠ 5) (c4 : T.kind ≠ 7) (c5 : T.kind ≠ 8) (c6 : T.kind ≠ 12) (c7 : T.kind ≠ 16) (c8 : T.kind ≠ 19) (c9 : T.kind ≠ 20) (c10 : T.kind ≠ 22) (c11 : T.kind ≠ 27) (c12 : T.kind ≠ 9) (c13 : T.kind ≠ 10) (c14 : T.kind ≠ 24) (c15 : T.kind ≠ 25) (c16 : T.kind ≠ 28) (c17 : T.kind ≠ 29) : E 66 [T.pv] [] (.bool (T.text == [])) [] :=
  rule R66 [st 0 (P (bx_tr T)), st 1 (P (Aq8 T)), st 1 (P (Aq0 .i64 c1)), st 2 (P (Aq0 .i64 c2)), st 2 (P (Aq0 .i64 c3)), st 2 (P (Aq0 .i64 c4)), st 2 (P (Aq0 .i64 c5)), st 2 (P (Aq0 .i64 c6)), st 2 (P (Aq0 .i64 c7)), st 2 (P (Aq0 .i64 c8)), st 2 (P (Aq0 .i64 c9)), st 2 (P (Aq0 .i64 c10)), st 2 (P (Aq0 .i64 c11)), st 2 (P (Aq0 .i64 c12)), st 2 (P (Aq0 .i64 c13)), st 2 (P (Aq0 .i64 c14)), st 2 (P (Aq0 .i64 c15)), st 2 (P (Aq0 .i64 c16)), st 2 (P (Aq0 .i64 c17)), st 2 (P (AqK T))] (by kernel_rfl)
theorem r66_14 {T : Tr} (c1 : T.kind ≠ 3) (c2 : T.kind ≠ 4) (c3 : T.kind ≠ 5) (c4 : T.kind ≠ 7) (c5 : T.kind ≠ 8) (c6 : T.kind ≠ 12) (c7 : T.kind ≠ 16) (c8 : T.kind ≠ 19) (c9 : T.kind ≠ 20) (c10 : T.kind ≠ 22) (c11 : T.kind ≠ 27) (c12 : T.kind ≠ 9) (c13 : T.kind ≠ 10) (c14 : T.kind ≠ 24) (c15 : T.kind ≠ 25) (c16 : T.kind ≠ 28) (c17 : T.kind ≠ 29) : E 66 [T.pv] [] (.bool (T.text == [])) [] :=
  rule R66 [st 0 (P (bx_tr T)), st 1 (P (Aq8 T)), st 1 (P (Aq0 .i64 c1)), st 2 (P (Aq0 .i64 c2)), st 2 (P (Aq0 .i64 c3)), st 2 (P (Aq0 .i64 c4)), st 2 (P (Aq0 .i64 c5)), st 2 (P (Aq0 .i64 c6)), st 2 (P (Aq0 .i64 c7)), st 2 (P (Aq0 .i64 c8)), st 2 (P (Aq0 .i64 c9)), st 2 (P (Aq0 .i64 c10)), st 2 (P (Aq0 .i64 c11)), st 2 (P (Aq0 .i64 c12)), st 2 (P (Aq0 .i64 c13)), st 2 (P (Aq0 .i64 c14)), st 2 (P (Aq0 .i64 c15)), st 2 (P (Aq0 .i64 c16)), st 2 (P (Aq0 .i64 c17)), st 2 (P (AqK T))] (by kernel_rfl)
theorem r66_15 {T : Tr} (c1 : T.kind ≠ 3) (c2 : T.kind ≠ 4) (c3 : T.kind ≠ 5) (c4 : T.kind ≠ 7) (c5 : T.kind ≠ 8) (c6 : T.kind ≠ 12) (c7 : T.kind ≠ 16) (c8 : T.kind ≠ 19) (c9 : T.kind ≠ 20) (c10 : T.kind ≠ 22) (c11 : T.kind ≠ 27) (c12 : T.kind ≠ 9) (c13 : T.kind ≠ 10) (c14 : T.kind ≠ 24) (c15 : T.kind ≠ 25) (c16 : T.kind ≠ 28) (c17 : T.kind ≠ 29) : E 66 [T.pv] [] (.bool (T.text == [])) [] :=
  rule R66 [st 0 (P (bx_tr T)), st 1 (P (Aq8 T)), st 1 (P (Aq0 .i64 c1)), st 2 (P (Aq0 .i64 c2)), st 2 (P (Aq0 .i64 c3)), st 2 (P (Aq0 .i64 c4)), st 2 (P (Aq0 .i64 c5)), st 2 (P (Aq0 .i64 c6)), st 2 (P (Aq0 .i64 c7)), st 2 (P (Aq0 .i64 c8)), st 2 (P (Aq0 .i64 c9)), st 2 (P (Aq0 .i64 c10)), st 2 (P (Aq0 .i64 c11)), st 2 (P (Aq0 .i64 c12)), st 2 (P (Aq0 .i64 c13)), st 2 (P (Aq0 .i64 c14)), st 2 (P (Aq0 .i64 c15)), st 2 (P (Aq0 .i64 c16)), st 2 (P (Aq0 .i64 c17)), st 2 (P (AqK T))] (by kernel_rfl)
theorem r66_17 {T : Tr} (c1 : T.kind ≠ 3) (c2 : T.kind ≠ 4) (c3 : T.kind ≠ 5) (c4 : T.kind ≠ 7) (c5 : T.kind ≠ 8) (c6 : T.kind ≠ 12) (c7 : T.kind ≠ 16) (c8 : T.kind ≠ 19) (c9 : T.kind ≠ 20) (c10 : T.kind ≠ 22) (c11 : T.kind ≠ 27) (c12 : T.kind ≠ 9) (c13 : T.kind ≠ 10) (c14 : T.kind ≠ 24) (c15 : T.kind ≠ 25) (c16 : T.kind ≠ 28) (c17 : T.kind ≠ 29) : E 66 [T.pv] [] (.bool (T.text == [])) [] :=
  rule R66 [st 0 (P (bx_tr T)), st 1 (P (Aq8 T)), st 1 (P (Aq0 .i64 c1)), st 2 (P (Aq0 .i64 c2)), st 2 (P (Aq0 .i64 c3)), st 2 (P (Aq0 .i64 c4)), st 2 (P (Aq0 .i64 c5)), st 2 (P (Aq0 .i64 c6)), st 2 (P (Aq0 .i64 c7)), st 2 (P (Aq0 .i64 c8)), st 2 (P (Aq0 .i64 c9)), st 2 (P (Aq0 .i64 c10)), st 2 (P (Aq0 .i64 c11)), st 2 (P (Aq0 .i64 c12)), st 2 (P (Aq0 .i64 c13)), st 2 (P (Aq0 .i64 c14)), st 2 (P (Aq0 .i64 c15)), st 2 (P (Aq0 .i64 c16)), st 2 (P (Aq0 .i64 c17)), st 2 (P (AqK T))] (by kernel_rfl)
theorem r66_18 {T : Tr} (c1 : T.kind ≠ 3) (c2 : T.kind ≠ 4) (c3 : T.kind ≠ 5) (c4 : T.kind ≠ 7) (c5 : T.kind ≠ 8) (c6 : T.kind ≠ 12) (c7 : T.kind ≠ 16) (c8 : T.kind ≠ 19) (c9 : T.kind ≠ 20) (c10 : T.kind ≠ 22) (c11 : T.kind ≠ 27) (c12 : T.kind ≠ 9) (c13 : T.kind ≠ 10) (c14 : T.kind ≠ 24) (c15 : T.kind ≠ 25) (c16 : T.kind ≠ 28) (c17 : T.kind ≠ 29) : E 66 [T.pv] [] (.bool (T.text == [])) [] :=
  rule R66 [st 0 (P (bx_tr T)), st 1 (P (Aq8 T)), st 1 (P (Aq0 .i64 c1)), st 2 (P (Aq0 .i64 c2)), st 2 (P (Aq0 .i64 c3)), st 2 (P (Aq0 .i64 c4)), st 2 (P (Aq0 .i64 c5)), st 2 (P (Aq0 .i64 c6)), st 2 (P (Aq0 .i64 c7)), st 2 (P (Aq0 .i64 c8)), st 2 (P (Aq0 .i64 c9)), st 2 (P (Aq0 .i64 c10)), st 2 (P (Aq0 .i64 c11)), st 2 (P (Aq0 .i64 c12)), st 2 (P (Aq0 .i64 c13)), st 2 (P (Aq0 .i64 c14)), st 2 (P (Aq0 .i64 c15)), st 2 (P (Aq0 .i64 c16)), st 2 (P (Aq0 .i64 c17)), st 2 (P (AqK T))] (by kernel_rfl)
theorem r66_21 {T : Tr} (c1 : T.kind ≠ 3) (c2 : T.kind ≠ 4) (c3 : T.kind ≠ 5) (c4 : T.kind ≠ 7) (c5 : T.kind ≠ 8) (c6 : T.kind ≠ 12) (c7 : T.kind ≠ 16) (c8 : T.kind ≠ 19) (c9 : T.kind ≠ 20) (c10 : T.kind ≠ 22) (c11 : T.kind ≠ 27) (c12 : T.kind ≠ 9) (c13 : T.kind ≠ 10) (c14 : T.kind ≠ 24) (c15 : T.kind ≠ 25) (c16 : T.kind ≠ 28) (c17 : T.kind ≠ 29) : E 66 [T.pv] [] (.bool (T.text == [])) [] :=
  rule R66 [st 0 (P (bx_tr T)), st 1 (P (Aq8 T)), st 1 (P (Aq0 .i64 c1)), st 2 (P (Aq0 .i64 c2)), st 2 (P (Aq0 .i64 c3)), st 2 (P (Aq0 .i64 c4)), st 2 (P (Aq0 .i64 c5)), st 2 (P (Aq0 .i64 c6)), st 2 (P (Aq0 .i64 c7)), st 2 (P (Aq0 .i64 c8)), st 2 (P (Aq0 .i64 c9)), st 2 (P (Aq0 .i64 c10)), st 2 (P (Aq0 .i64 c11)), st 2 (P (Aq0 .i64 c12)), st 2 (P (Aq0 .i64 c13)), st 2 (P (Aq0 .i64 c14)), st 2 (P (Aq0 .i64 c15)), st 2 (P (Aq0 .i64 c16)), st 2 (P (Aq0 .i64 c17)), st 2 (P (AqK T))] (by kernel_rfl)
theorem r66_23 {T : Tr} (c1 : T.kind ≠ 3) (c2 : T.kind ≠ 4) (c3 : T.kind ≠ 5) (c4 : T.kind ≠ 7) (c5 : T.kind ≠ 8) (c6 : T.kind ≠ 12) (c7 : T.kind ≠ 16) (c8 : T.kind ≠ 19) (c9 : T.kind ≠ 20) (c10 : T.kind ≠ 22) (c11 : T.kind ≠ 27) (c12 : T.kind ≠ 9) (c13 : T.kind ≠ 10) (c14 : T.kind ≠ 24) (c15 : T.kind ≠ 25) (c16 : T.kind ≠ 28) (c17 : T.kind ≠ 29) : E 66 [T.pv] [] (.bool (T.text == [])) [] :=
  rule R66 [st 0 (P (bx_tr T)), st 1 (P (Aq8 T)), st 1 (P (Aq0 .i64 c1)), st 2 (P (Aq0 .i64 c2)), st 2 (P (Aq0 .i64 c3)), st 2 (P (Aq0 .i64 c4)), st 2 (P (Aq0 .i64 c5)), st 2 (P (Aq0 .i64 c6)), st 2 (P (Aq0 .i64 c7)), st 2 (P (Aq0 .i64 c8)), st 2 (P (Aq0 .i64 c9)), st 2 (P (Aq0 .i64 c10)), st 2 (P (Aq0 .i64 c11)), st 2 (P (Aq0 .i64 c12)), st 2 (P (Aq0 .i64 c13)), st 2 (P (Aq0 .i64 c14)), st 2 (P (Aq0 .i64 c15)), st 2 (P (Aq0 .i64 c16)), st 2 (P (Aq0 .i64 c17)), st 2 (P (AqK T))] (by kernel_rfl)
theorem r66_26 {T : Tr} (c1 : T.kind ≠ 3) (c2 : T.kind ≠ 4) (c3 : T.kind ≠ 5) (c4 : T.kind ≠ 7) (c5 : T.kind ≠ 8) (c6 : T.kind ≠ 12) (c7 : T.kind ≠ 16) (c8 : T.kind ≠ 19) (c9 : T.kind ≠ 20) (c10 : T.kind ≠ 22) (c11 : T.kind ≠ 27) (c12 : T.kind ≠ 9) (c13 : T.kind ≠ 10) (c14 : T.kind ≠ 24) (c15 : T.kind ≠ 25) (c16 : T.kind ≠ 28) (c17 : T.kind ≠ 29) : E 66 [T.pv] [] (.bool (T.text == [])) [] :=
  rule R66 [st 0 (P (bx_tr T)), st 1 (P (Aq8 T)), st 1 (P (Aq0 .i64 c1)), st 2 (P (Aq0 .i64 c2)), st 2 (P (Aq0 .i64 c3)), st 2 (P (Aq0 .i64 c4)), st 2 (P (Aq0 .i64 c5)), st 2 (P (Aq0 .i64 c6)), st 2 (P (Aq0 .i64 c7)), st 2 (P (Aq0 .i64 c8)), st 2 (P (Aq0 .i64 c9)), st 2 (P (Aq0 .i64 c10)), st 2 (P (Aq0 .i64 c11)), st 2 (P (Aq0 .i64 c12)), st 2 (P (Aq0 .i64 c13)), st 2 (P (Aq0 .i64 c14)), st 2 (P (Aq0 .i64 c15)), st 2 (P (Aq0 .i64 c16)), st 2 (P (Aq0 .i64 c17)), st 2 (P (AqK T))] (by kernel_rfl)
theorem r66_0 {T : Tr} (c1 : T.kind ≠ 3) (c2 : T.kind ≠ 4) (c3 : T.kind ≠ 5) (c4 : T.kind ≠ 7) (c5 : T.kind ≠ 8) (c6 : T.kind ≠ 12) (c7 : T.kind ≠ 16) (c8 : T.kind ≠ 19) (c9 : T.kind ≠ 20) (c10 : T.kind ≠ 22) (c11 : T.kind ≠ 27) (c12 : T.kind ≠ 9) (c13 : T.kind ≠ 10) (c14 : T.kind ≠ 24) (c15 : T.kind ≠ 25) (c16 : T.kind ≠ 28) (c17 : T.kind ≠ 29) : E 66 [T.pv] [] (.bool (T.text == [])) [] :=
  rule R66 [st 0 (P (bx_tr T)), st 1 (P (Aq8 T)), st 1 (P (Aq0 .i64 c1)), st 2 (P (Aq0 .i64 c2)), st 2 (P (Aq0 .i64 c3)), st 2 (P (Aq0 .i64 c4)), st 2 (P (Aq0 .i64 c5)), st 2 (P (Aq0 .i64 c6)), st 2 (P (Aq0 .i64 c7)), st 2 (P (Aq0 .i64 c8)), st 2 (P (Aq0 .i64 c9)), st 2 (P (Aq0 .i64 c10)), st 2 (P (Aq0 .i64 c11)), st 2 (P (Aq0 .i64 c12)), st 2 (P (Aq0 .i64 c13)), st 2 (P (Aq0 .i64 c14)), st 2 (P (Aq0 .i64 c15)), st 2 (P (Aq0 .i64 c16)), st 2 (P (Aq0 .i64 c17)), st 2 (P (AqK T))] (by kernel_rfl)
theorem R67 : Rn 67 a67 := fun _ _ _ => rfl
theorem r67_0  : E 67 [(I 0)] [] (.tuple [(I 0), (I 0)]) [] :=
  rule R67 [] (by kernel_rfl)
theorem r67_2  : E 67 [(I 2)] [] (.tuple [(I 0), (I 4096)]) [] :=
  rule R67 [] (by kernel_rfl)
theorem r67_3  : E 67 [(I 3)] [] (.tuple [(I 1), (I 4096)]) [] :=
  rule R67 [] (by kernel_rfl)
theorem r67_4  : E 67 [(I 4)] [] (.tuple [(I 1), (I 1)]) [] :=
  rule R67 [] (by kernel_rfl)
theorem r67_5  : E 67 [(I 5)] [] (.tuple [(I 3), (I 3)]) [] :=
  rule R67 [] (by kernel_rfl)
theorem r67_6  : E 67 [(I 6)] [] (.tuple [(I 0), (I 4096)]) [] :=
  rule R67 [] (by kernel_rfl)
theorem r67_7  : E 67 [(I 7)] [] (.tuple [(I 1), (I 1)]) [] :=
  rule R67 [] (by kernel_rfl)
theorem r67_8  : E 67 [(I 8)] [] (.tuple [(I 1), (I 1)]) [] :=
  rule R67 [] (by kernel_rfl)
theorem r67_9  : E 67 [(I 9)] [] (.tuple [(I 0), (I 0)]) [] :=
  rule R67 [] (by kernel_rfl)
theorem r67_10  : E 67 [(I 10)] [] (.tuple [(I 0), (I 0)]) [] :=
  rule R67 [] (by kernel_rfl)
theorem r67_11  : E 67 [(I 11)] [] (.tuple [(I 0), (I 4096)]) [] :=
  rule R67 [] (by kernel_rfl)
theorem r67_12  : E 67 [(I 12)] [] (.tuple [(I 2), (I 2)]) [] :=
  rule R67 [] (by kernel_rfl)
theorem r67_13  : E 67 [(I 13)] [] (.tuple [(I 2), (I 2)]) [] :=
  rule R67 [] (by kernel_rfl)
theorem r67_14  : E 67 [(I 14)] [] (.tuple [(I 3), (I 3)]) [] :=
  rule R67 [] (by kernel_rfl)
theorem r67_15  : E 67 [(I 15)] [] (.tuple [(I 2), (I 2)]) [] :=
  rule R67 [] (by kernel_rfl)
theorem r67_16  : E 67 [(I 16)] [] (.tuple [(I 3), (I 3)]) [] :=
  rule R67 [] (by kernel_rfl)
theorem r67_17  : E 67 [(I 17)] [] (.tuple [(I 1), (I 1)]) [] :=
  rule R67 [] (by kernel_rfl)
theorem r67_18  : E 67 [(I 18)] [] (.tuple [(I 1), (I 1)]) [] :=
  rule R67 [] (by kernel_rfl)
theorem r67_19  : E 67 [(I 19)] [] (.tuple [(I 0), (I 4096)]) [] :=
  rule R67 [] (by kernel_rfl)
theorem r67_20  : E 67 [(I 20)] [] (.tuple [(I 0), (I 0)]) [] :=
  rule R67 [] (by kernel_rfl)
theorem r67_21  : E 67 [(I 21)] [] (.tuple [(I 2), (I 2)]) [] :=
  rule R67 [] (by kernel_rfl)
theorem r67_22  : E 67 [(I 22)] [] (.tuple [(I 1), (I 1)]) [] :=
  rule R67 [] (by kernel_rfl)
theorem r67_23  : E 67 [(I 23)] [] (.tuple [(I 1), (I 1)]) [] :=
  rule R67 [] (by kernel_rfl)
theorem r67_24  : E 67 [(I 24)] [] (.tuple [(I 0), (I 0)]) [] :=
  rule R67 [] (by kernel_rfl)
theorem r67_25  : E 67 [(I 25)] [] (.tuple [(I 0), (I 0)]) [] :=
  rule R67 [] (by kernel_rfl)
theorem r67_26  : E 67 [(I 26)] [] (.tuple [(I 1), (I 4096)]) [] :=
  rule R67 [] (by kernel_rfl)
theorem r67_27  : E 67 [(I 27)] [] (.tuple [(I 0), (I 4096)]) [] :=
  rule R67 [] (by kernel_rfl)
theorem r67_28  : E 67 [(I 28)] [] (.tuple [(I 1), (I 1)]) [] :=
  rule R67 [] (by kernel_rfl)
theorem r67_29  : E 67 [(I 29)] [] (.tuple [(I 2), (I 2)]) [] :=
  rule R67 [] (by kernel_rfl)
theorem R68 : Rn 68 a68 := fun _ _ _ => rfl
theorem r68_2_1 {i : Nat} {U : Tr} (c1 : U.kind = 3) : E 68 [(I 2), (N i), U.pv] [] (.bool true) [] :=
  rule R68 [st 0 (P (bx_tr U)), st 1 (P (Aq8 U)), st 7 (P (Aq9 .i64 c1))] (by kernel_rfl)
theorem r68_2_2 {i : Nat} {U : Tr} (c1 : U.kind ≠ 3) : E 68 [(I 2), (N i), U.pv] [] (.bool (U.kind == 5)) [] :=
  rule R68 [st 0 (P (bx_tr U)), st 1 (P (Aq8 U)), st 7 (P (Aq0 .i64 c1))] (by kernel_rfl)
theorem r68_3 {i : Nat} {U : Tr} : E 68 [(I 3), (N i), U.pv] [] (.bool (U.kind == 4)) [] :=
  rule R68 [st 0 (P (bx_tr U)), st 1 (P (Aq8 U))] (by kernel_rfl)
theorem r68_4_2 {i : Nat} {U : Tr} (c1 : U.kind = 9) (c2 : U.text = [105, 110, 116]) : E 68 [(I 4), (N i), U.pv] [] (.bool true) [] :=
  rule R68 [st 0 (P (bx_tr U)), st 1 (P (Aq8 U)), st 13 (P (Aq9 .i64 c1)), sg 1 (P (AqK U)), sg 1 (P (AzX c2))] (by kernel_rfl)
theorem r68_4_3 {i : Nat} {U : Tr} (c1 : U.kind = 9) (c2 : U.text ≠ [105, 110, 116]) : E 68 [(I 4), (N i), U.pv] [] (.bool (U.text == [98, 111, 111, 108])) [] :=
  rule R68 [st 0 (P (bx_tr U)), st 1 (P (Aq8 U)), st 13 (P (Aq9 .i64 c1)), sg 1 (P (AqK U)), sg 1 (P (Az3 c2)), sg 1 (P (AqK U))] (by kernel_rfl)
theorem r68_5_0_1 {U : Tr} (c1 : U.kind = 6) : E 68 [(I 5), (I 0), U.pv] [] (.bool true) [] :=
  rule R68 [st 0 (P (bx_tr U)), st 1 (P (Aq8 U)), sg 19 (P (Aq9 .i64 c1))] (by kernel_rfl)
theorem r68_5_1_1 {U : Tr} (h1 : E 115 [(I U.kind)] [] (.bool true) []) : E 68 [(I 5), (I 1), U.pv] [] (.bool true) [] :=
  rule R68 [st 0 (P (bx_tr U)), st 1 (P (Aq8 U)), sg 26 (oC h1)] (by kernel_rfl)
theorem r68_5_1_2 {U : Tr} (h1 : E 115 [(I U.kind)] [] (.bool false) []) (c1 : U.kind = 0) : E 68 [(I 5), (I 1), U.pv] [] (.bool true) [] :=
  rule R68 [st 0 (P (bx_tr U)), st 1 (P (Aq8 U)), sg 26 (oC h1), sg 2 (P (Aq9 .i64 c1))] (by kernel_rfl)
theorem r68_5_2 {U : Tr} : E 68 [(I 5), (I 2), U.pv] [] (.bool (U.kind == 11)) [] :=
  rule R68 [st 0 (P (bx_tr U)), st 1 (P (Aq8 U))] (by kernel_rfl)
theorem r68_6_1 {i : Nat} {U : Tr} (c1 : U.kind = 7) : E 68 [(I 6), (N i), U.pv] [] (.bool true) [] :=
  rule R68 [st 0 (P (bx_tr U)), st 1 (P (Aq8 U)), st 19 (P (Aq9 .i64 c1))] (by kernel_rfl)
theorem r68_6_2 {i : Nat} {U : Tr} (c1 : U.kind ≠ 7) : E 68 [(I 6), (N i), U.pv] [] (.bool (U.kind == 8)) [] :=
  rule R68 [st 0 (P (bx_tr U)), st 1 (P (Aq8 U)), st 19 (P (Aq0 .i64 c1))] (by kernel_rfl)
theorem r68_7_1 {i : Nat} {U : Tr} (h1 : E 115 [(I U.kind)] [] (.bool true) []) : E 68 [(I 7), (N i), U.pv] [] (.bool true) [] :=
  rule R68 [st 0 (P (bx_tr U)), st 1 (P (Aq8 U)), st 23 (oC h1)] (by kernel_rfl)
theorem r68_7_2 {i : Nat} {U : Tr} (h1 : E 115 [(I U.kind)] [] (.bool false) []) : E 68 [(I 7), (N i), U.pv] [] (.bool (U.kind == 0)) [] :=
  rule R68 [st 0 (P (bx_tr U)), st 1 (P (Aq8 U)), st 23 (oC h1)] (by kernel_rfl)
theorem r68_8_1 {i : Nat} {U : Tr} (h1 : E 115 [(I U.kind)] [] (.bool true) []) : E 68 [(I 8), (N i), U.pv] [] (.bool true) [] :=
  rule R68 [st 0 (P (bx_tr U)), st 1 (P (Aq8 U)), st 25 (oC h1)] (by kernel_rfl)
theorem r68_8_2 {i : Nat} {U : Tr} (h1 : E 115 [(I U.kind)] [] (.bool false) []) : E 68 [(I 8), (N i), U.pv] [] (.bool (U.kind == 0)) [] :=
  rule R68 [st 0 (P (bx_tr U)), st 1 (P (Aq8 U)), st 25 (oC h1)] (by kernel_rfl)
theorem r68_11 {i : Nat} {U : Tr} {b1 : Bool} (h1 : E 116 [(I U.kind)] [] (.bool b1) []) : E 68 [(I 11), (N i), U.pv] [] (.bool b1) [] :=
  rule R68 [st 0 (P (bx_tr U)), st 1 (P (Aq8 U)), st 28 (oC h1)] (by kernel_rfl)
theorem Bx9 {U : Tr} (h1 : E 115 [(I U.kind)] [] (.bool true) []) : E 68 [(I 12), (I 0), U.pv] [] (.bool true) [] :=
  rule R68 [st 0 (P (bx_tr U)), st 1 (P (Aq8 U)), sg 34 (oC h1)] (by kernel_rfl)
theorem Bx8 {U : Tr} (h1 : E 115 [(I U.kind)] [] (.bool false) []) (c1 : U.kind = 0) : E 68 [(I 12), (I 0), U.pv] [] (.bool true) [] :=
  rule R68 [st 0 (P (bx_tr U)), st 1 (P (Aq8 U)), sg 34 (oC h1), sg 2 (P (Aq9 .i64 c1))] (by kernel_rfl)
theorem r68_12_1 {U : Tr} {b1 : Bool} (h1 : E 117 [(I U.kind)] [] (.bool b1) []) : E 68 [(I 12), (I 1), U.pv] [] (.bool b1) [] :=
  rule R68 [st 0 (P (bx_tr U)), st 1 (P (Aq8 U)), sg 45 (oC h1)] (by kernel_rfl)
theorem r68_13_0 {U : Tr} (h1 : E 118 [(I U.kind)] [] (.bool true) []) : E 68 [(I 13), (I 0), U.pv] [] (.bool true) [] :=
  rule R68 [st 0 (P (bx_tr U)), st 1 (P (Aq8 U)), sg 37 (oC h1)] (by kernel_rfl)
theorem r68_13_1 {U : Tr} {b1 : Bool} (h1 : E 117 [(I U.kind)] [] (.bool b1) []) : E 68 [(I 13), (I 1), U.pv] [] (.bool b1) [] :=
  rule R68 [st 0 (P (bx_tr U)), st 1 (P (Aq8 U)), sg 44 (oC h1)] (by kernel_rfl)
theorem r68_14_0 {U : Tr} (h1 : E 117 [(I U.kind)] [] (.bool true) []) : E 68 [(I 14), (I 0), U.pv] [] (.bool true) [] :=
  rule R68 [st 0 (P (bx_tr U)), st 1 (P (Aq8 U)), sg 40 (oC h1)] (by kernel_rfl)
theorem r68_14_1_1 {U : Tr} (c1 : U.kind = 11) : E 68 [(I 14), (I 1), U.pv] [] (.bool true) [] :=
  rule R68 [st 0 (P (bx_tr U)), st 1 (P (Aq8 U)), sg 47 (P (Aq9 .i64 c1))] (by kernel_rfl)
theorem r68_14_2_1 {U : Tr} (c1 : U.kind = 11) : E 68 [(I 14), (I 2), U.pv] [] (.bool true) [] :=
  rule R68 [st 0 (P (bx_tr U)), st 1 (P (Aq8 U)), sg 55 (P (Aq9 .i64 c1))] (by kernel_rfl)
theorem r68_14_2_2 {U : Tr} (c1 : U.kind ≠ 11) (c2 : U.kind = 14) : E 68 [(I 14), (I 2), U.pv] [] (.bool true) [] :=
  rule R68 [st 0 (P (bx_tr U)), st 1 (P (Aq8 U)), sg 55 (P (Aq0 .i64 c1)), sg 2 (P (Aq9 .i64 c2))] (by kernel_rfl)
theorem r68_14_2_3 {U : Tr} (c1 : U.kind ≠ 11) (c2 : U.kind ≠ 14) : E 68 [(I 14), (I 2), U.pv] [] (.bool (U.kind == 0)) [] :=
  rule R68 [st 0 (P (bx_tr U)), st 1 (P (Aq8 U)), sg 55 (P (Aq0 .i64 c1)), sg 2 (P (Aq0 .i64 c2))] (by kernel_rfl)
theorem r68_15_0 {U : Tr} (h1 : E 117 [(I U.kind)] [] (.bool true) []) : E 68 [(I 15), (I 0), U.pv] [] (.bool true) [] :=
  rule R68 [st 0 (P (bx_tr U)), st 1 (P (Aq8 U)), sg 43 (oC h1)] (by kernel_rfl)
theorem r68_15_1 {U : Tr} : E 68 [(I 15), (I 1), U.pv] [] (.bool (U.kind == 11)) [] :=
  rule R68 [st 0 (P (bx_tr U)), st 1 (P (Aq8 U))] (by kernel_rfl)
theorem r68_16_0 {U : Tr} (h1 : E 117 [(I U.kind)] [] (.bool true) []) : E 68 [(I 16), (I 0), U.pv] [] (.bool true) [] :=
  rule R68 [st 0 (P (bx_tr U)), st 1 (P (Aq8 U)), sg 46 (oC h1)] (by kernel_rfl)
theorem r68_16_1 {U : Tr} (h1 : E 117 [(I U.kind)] [] (.bool true) []) : E 68 [(I 16), (I 1), U.pv] [] (.bool true) [] :=
  rule R68 [st 0 (P (bx_tr U)), st 1 (P (Aq8 U)), sg 46 (oC h1)] (by kernel_rfl)
theorem r68_16_2 {U : Tr} : E 68 [(I 16), (I 2), U.pv] [] (.bool (U.kind == 11)) [] :=
  rule R68 [st 0 (P (bx_tr U)), st 1 (P (Aq8 U))] (by kernel_rfl)
theorem r68_17_1 {i : Nat} {U : Tr} (h1 : E 117 [(I U.kind)] [] (.bool true) []) : E 68 [(I 17), (N i), U.pv] [] (.bool true) [] :=
  rule R68 [st 0 (P (bx_tr U)), st 1 (P (Aq8 U)), st 46 (oC h1)] (by kernel_rfl)
theorem r68_17_2 {i : Nat} {U : Tr} (h1 : E 117 [(I U.kind)] [] (.bool false) []) : E 68 [(I 17), (N i), U.pv] [] (.bool (U.kind == 0)) [] :=
  rule R68 [st 0 (P (bx_tr U)), st 1 (P (Aq8 U)), st 46 (oC h1)] (by kernel_rfl)
theorem r68_21_0_1 {U : Tr} (c1 : U.kind = 20) : E 68 [(I 21), (I 0), U.pv] [] (.bool true) [] :=
  rule R68 [st 0 (P (bx_tr U)), st 1 (P (Aq8 U)), sg 52 (P (Aq9 .i64 c1))] (by kernel_rfl)
theorem r68_21_1 {U : Tr} {b1 : Bool} (h1 : E 117 [(I U.kind)] [] (.bool b1) []) : E 68 [(I 21), (I 1), U.pv] [] (.bool b1) [] :=
  rule R68 [st 0 (P (bx_tr U)), st 1 (P (Aq8 U)), sg 59 (oC h1)] (by kernel_rfl)
theorem r68_22 {i : Nat} {U : Tr} : E 68 [(I 22), (N i), U.pv] [] (.bool (U.kind == 20)) [] :=
  rule R68 [st 0 (P (bx_tr U)), st 1 (P (Aq8 U))] (by kernel_rfl)
theorem r68_23 {i : Nat} {U : Tr} : E 68 [(I 23), (N i), U.pv] [] (.bool (U.kind == 20)) [] :=
  rule R68 [st 0 (P (bx_tr U)), st 1 (P (Aq8 U))] (by kernel_rfl)
theorem r68_18 {i : Nat} {U : Tr} {b1 : Bool} (h1 : E 117 [(I U.kind)] [] (.bool b1) []) : E 68 [(I 18), (N i), U.pv] [] (.bool b1) [] :=
  rule R68 [st 0 (P (bx_tr U)), st 1 (P (Aq8 U)), st 55 (oC h1)] (by kernel_rfl)
theorem r68_19 {i : Nat} {U : Tr} {b1 : Bool} (h1 : E 117 [(I U.kind)] [] (.bool b1) []) : E 68 [(I 19), (N i), U.pv] [] (.bool b1) [] :=
  rule R68 [st 0 (P (bx_tr U)), st 1 (P (Aq8 U)), st 55 (oC h1)] (by kernel_rfl)
theorem r68_26 {i : Nat} {U : Tr} {b1 : Bool} (h1 : E 117 [(I U.kind)] [] (.bool b1) []) : E 68 [(I 26), (N i), U.pv] [] (.bool b1) [] :=
  rule R68 [st 0 (P (bx_tr U)), st 1 (P (Aq8 U)), st 55 (oC h1)] (by kernel_rfl)
theorem r68_27 {i : Nat} {U : Tr} {b1 : Bool} (h1 : E 117 [(I U.kind)] [] (.bool b1) []) : E 68 [(I 27), (N i), U.pv] [] (.bool b1) [] :=
  rule R68 [st 0 (P (bx_tr U)), st 1 (P (Aq8 U)), st 55 (oC h1)] (by kernel_rfl)
theorem r68_28 {i : Nat} {U : Tr} {b1 : Bool} (h1 : E 117 [(I U.kind)] [] (.bool b1) []) : E 68 [(I 28), (N i), U.pv] [] (.bool b1) [] :=
  rule R68 [st 0 (P (bx_tr U)), st 1 (P (Aq8 U)), st 55 (oC h1)] (by kernel_rfl)
theorem r68_29 {i : Nat} {U : Tr} {b1 : Bool} (h1 : E 117 [(I U.kind)] [] (.bool b1) []) : E 68 [(I 29), (N i), U.pv] [] (.bool b1) [] :=
  rule R68 [st 0 (P (bx_tr U)), st 1 (P (Aq8 U)), st 55 (oC h1)] (by kernel_rfl)
theorem R115 : Rn 115 a115 := fun _ _ _ => rfl
theorem r115_1 {k : Int} (c1 : k = 9) : E 115 [(I k)] [] (.bool true) [] :=
  rule R115 [st 2 (P (Aq9 .i64 c1))] (by kernel_rfl)
theorem AjD {k : Int} (c1 : k ≠ 9) : E 115 [(I k)] [] (.bool (k == 10)) [] :=
  rule R115 [st 2 (P (Aq0 .i64 c1))] (by kernel_rfl)
theorem R116 : Rn 116 a116 := fun _ _ _ => rfl
theorem r116_1 {k : Int} (c1 : k ≥ 12) : E 116 [(I k)] [] (.bool (decide (k ≤ 19))) [] :=
  rule R116 [st 2 (P (Bz8 .i64 c1))] (by kernel_rfl)
theorem R117 : Rn 117 a117 := fun _ _ _ => rfl
theorem r117_1 {k : Int} (c1 : k ≥ 20) : E 117 [(I k)] [] (.bool (decide (k ≤ 29))) [] :=
  rule R117 [st 2 (P (Bz8 .i64 c1))] (by kernel_rfl)
theorem r117_2 {k : Int} (c1 : ¬ k ≥ 20) : E 117 [(I k)] [] (.bool false) [] :=
  rule R117 [st 2 (P (b_geqF .i64 c1))] (by kernel_rfl)
theorem R118 : Rn 118 a118 := fun _ _ _ => rfl
theorem r118_1 {k : Int} (c1 : k = 20) : E 118 [(I k)] [] (.bool true) [] :=
  rule R118 [st 2 (P (Aq9 .i64 c1))] (by kernel_rfl)
theorem r118_2 {k : Int} (c1 : k ≠ 20) (c2 : k = 21) : E 118 [(I k)] [] (.bool true) [] :=
  rule R118 [st 2 (P (Aq0 .i64 c1)), sg 2 (P (Aq9 .i64 c2))] (by kernel_rfl)
theorem r118_3 {k : Int} (c1 : k ≠ 20) (c2 : k ≠ 21) : E 118 [(I k)] [] (.bool (k == 22)) [] :=
  rule R118 [st 2 (P (Aq0 .i64 c1)), sg 2 (P (Aq0 .i64 c2))] (by kernel_rfl)
theorem R112 : Rn 112 a112 := fun _ _ _ => rfl
theorem r112 {w : List UInt8} {c3 : UInt8} {m1 : Nat} {m2 : Nat} (c1 : ¬ (((w).length : Nat) : Int) < 1) (c2 : ¬ (((w).length : Nat) : Int) > 16) (g1 : (w : List UInt8)[0]? = some c3) (h1 : E 90 [(.int .u8 ((c3.toNat : Nat) : Int))] [] (.bool true) []) (h2 : E 92 [(.str w)] [] (.bool false) []) (h3 : E 41 [(.str w), (I 0)] [] (.tuple [(N m1), (N m2)]) []) : E 112 [(.str w)] [] (.bool (((m2 : Nat) : Int) == (((w).length : Nat) : Int))) [] :=
  rule R112 [st 3 (P (AqE .i64 c1)), sg 3 (P (AqY .i64 c2)), sg 3 (P (Aq7 _ (0) _ g1)), sg 0 (oC h1), sg 4 (oC h2), st 3 (oC h3)] (by kernel_rfl)
theorem R113 : Rn 113 a113 := fun _ _ _ => rfl
theorem r113_2 {w : List UInt8} {z1 : Int} (h1 : E 64 [(.str w)] [] (.tuple [(I z1), (.bool true)]) []) (c1 : w = [48]) : E 113 [(.str w)] [] (.bool true) [] :=
  rule R113 [st 2 (oC h1), sg 8 (P (AzX c1))] (by kernel_rfl)
theorem r113_3 {w : List UInt8} {z1 : Int} {c2 : UInt8} (h1 : E 64 [(.str w)] [] (.tuple [(I z1), (.bool true)]) []) (c1 : w ≠ [48]) (g1 : (w : List UInt8)[0]? = some c2) : E 113 [(.str w)] [] (.bool (((c2.toNat : Nat) : Int) != 48)) [] :=
  rule R113 [st 2 (oC h1), sg 8 (P (Az3 c1)), sg 2 (P (Aq7 _ (0) _ g1))] (by kernel_rfl)
theorem R34 : Rn 34 a34 := fun _ _ _ => rfl
def l34_0 : ACode := (.seq (.seq (.region [⟨none, (some 42), (.p .mv), [(.slot 5)], [], []⟩, ⟨none, (some 43), (.p (.fa 4 1 false)), [(.slot 1)], [], []⟩, ⟨none, (some 44), (.r (.ld 1 false)), [(.slot 43)], [], []⟩, ⟨none, (some 45), (.p (.len false)), [(.slot 44)], [], []⟩, ⟨none, (some 46), (.p (.bin .lss 0)), [(.slot 42), (.slot 45)], [], []⟩]) (.cond (.slot 46) .skip (.exit 0))) (.seq (.block 1 (.seq (.region [⟨none, (some 49), (.p (.fa 0 1 false)), [(.slot 1)], [], []⟩, ⟨none, (some 50), (.r (.ld 1 false)), [(.slot 49)], [], []⟩, ⟨none, (some 51), (.p .mv), [(.slot 5)], [], []⟩, ⟨none, (some 52), (.p (.fa 4 1 false)), [(.slot 1)], [], []⟩, ⟨none, (some 53), (.r (.ld 1 false)), [(.slot 52)], [], []⟩, ⟨none, (some 54), (.p .mv), [(.slot 5)], [], []⟩, ⟨none, (some 55), (.p (.idx 5)), [(.slot 53), (.slot 54)], [], []⟩, ⟨none, (some 56), (.r (.ld 5 true)), [(.slot 55)], [], []⟩, ⟨none, (some 57), (.c 68), [(.slot 50), (.slot 51), (.slot 56)], [], []⟩, ⟨none, (some 58), (.p .not), [(.slot 57)], [], []⟩, ⟨none, (some 59), (.p .mv), [(.slot 58)], [], []⟩, ⟨(some (59, false)), (some 60), (.p (.fa 4 1 false)), [(.slot 1)], [], []⟩, ⟨(some (59, false)), (some 61), (.r (.ld 1 false)), [(.slot 60)], [], []⟩, ⟨(some (59, false)), (some 62), (.p .mv), [(.slot 5)], [], []⟩, ⟨(some (59, false)), (some 63), (.p (.idx 5)), [(.slot 61), (.slot 62)], [], []⟩, ⟨(some (59, false)), (some 64), (.r (.ld 5 true)), [(.slot 63)], [], []⟩, ⟨(some (59, false)), (some 65), (.c 34), [(.slot 64)], [], []⟩, ⟨(some (59, false)), (some 66), (.p .not), [(.slot 65)], [], []⟩, ⟨none, (some 67), (.p .pick), [(.slot 59), (.val (.bool true)), (.slot 66)], [], []⟩]) (.cond (.slot 67) (.seq (.region [⟨none, (some 2), (.p .mv), [(.val (.bool false))], [], []⟩]) .ret) .skip))) (.region [⟨none, (some 47), (.p .mv), [(.slot 5)], [], []⟩, ⟨none, (some 48), (.p (.bin .add 0)), [(.slot 47), (.val (.int .i64 1))], [], []⟩, ⟨none, (some 5), (.p .mv), [(.slot 48)], [], []⟩])))
def m34_0 : List Bool := [false, true, false, false, false, true, false, false, false, false, false, false, false, false, false, false, false, false, false, false, false, false, false, false, false, false, false, false, false, false, false, false, false, false, false, false, false, false, false, false, false, false, false, false, false, false, false, false, false, false, false, false, false, false, false, false, false, false, false, false, true, true, true, true, true, true, true, false]
theorem r34_1 {T : Tr} {m1 : Nat} {m2 : Nat} (c1 : ¬ T.kind < 0) (c2 : T.kind ≠ 1) (c3 : ¬ T.kind > 29) (h1 : E 66 [T.pv] [] (.bool true) []) (h2 : E 67 [(I T.kind)] [] (.tuple [(N m1), (N m2)]) []) (wT : T.wf) (c4 : ¬ ((T.kids.length : Nat) : Int) < ((m1 : Nat) : Int)) (c5 : ¬ ((T.kids.length : Nat) : Int) > ((m2 : Nat) : Int)) (L1 : LE m34_0 l34_0 [(1, some (.vptr T.pv)), (5, some (I 0))] [] (.exit 0) [(1, some (.vptr T.pv))] []) : E 34 [T.pv] [] (.bool true) [] :=
  rule R34 [st 0 (P (bx_tr T)), st 1 (P (Aq8 T)), st 1 (P (AqE .i64 c1)), sg 1 (P (Aq8 T)), sg 1 (P (Aq0 .i64 c2)), sg 2 (P (Aq8 T)), sg 1 (P (AqY .i64 c3)), sg 2 (Q (ld_tr T)), sg 0 (oC h1), st 3 (P (Aq8 T)), st 1 (oC h2), st 5 (P (Av8 T)), st 0 (Q (ld_kp T)), st 0 (P (BxN wT)), st 1 (P (AqE .i64 c4)), sg 1 (P (Av8 T)), sg 0 (Q (ld_kp T)), sg 0 (P (BxN wT)), sg 1 (P (AqY .i64 c5)), sl 3 [1, 5] L1] (by kernel_rfl)
theorem r34_l0_next1 {T : Tr} {m1 : Nat} {U1 : Tr} {U2 : Tr} {e : AExit} {ff' : FF} {σ' : Sto} (wT : T.wf) (c1 : ((m1 : Nat) : Int) < ((T.kids.length : Nat) : Int)) (g1 : T.kids[m1]? = some U1) (h1 : E 68 [(I T.kind), (N m1), U1.pv] [] (.bool true) []) (g2 : T.kids[m1]? = some U2) (h2 : E 34 [U2.pv] [] (.bool true) []) (l1 : m1 < 2000000000) (hl : LE m34_0 l34_0 [(1, some (.vptr T.pv)), (5, some (N ((m1 + 1))))] [] e ff' σ') : LE m34_0 l34_0 [(1, some (.vptr T.pv)), (5, some (N m1))] [] e ff' σ' :=
  ruleN [1, 5] [st 1 (P (Av8 T)), st 0 (Q (ld_kp T)), st 0 (P (BxN wT)), st 0 (P (Aq6 .i64 c1)), st 1 (P (Aq8 T)), st 2 (P (Av8 T)), st 0 (Q (ld_kp T)), st 1 (P (idx_kp (m1) wT g1)), st 0 (Q (ld_tr U1)), st 0 (oC h1), sg 2 (P (Av8 T)), sg 0 (Q (ld_kp T)), sg 1 (P (idx_kp (m1) wT g2)), sg 0 (Q (ld_tr U2)), sg 0 (oC h2), st 4 (P (Aq4 m1 1 l1 (by decide)))] hl (by kernel_rfl)
theorem r34_l0_out1 {T : Tr} {m1 : Nat} (wT : T.wf) (c1 : ¬ ((m1 : Nat) : Int) < ((T.kids.length : Nat) : Int)) : LE m34_0 l34_0 [(1, some (.vptr T.pv)), (5, some (N m1))] [] (.exit 0) [(1, some (.vptr T.pv))] [] :=
  ruleX [1] [st 1 (P (Av8 T)), st 0 (Q (ld_kp T)), st 0 (P (BxN wT)), st 0 (P (AqE .i64 c1))] (by kernel_rfl)
theorem R12 : Rn 12 a12 := fun _ _ _ => rfl
theorem r12 {T : Tr} {b1 : Bool} (c1 : T.kind = 2) (h1 : E 34 [T.pv] [] (.bool b1) []) : E 12 [T.pv] [] (.bool b1) [] :=
  rule R12 [st 0 (P (bx_tr T)), st 1 (P (Aq8 T)), st 1 (P (Aq9 .i64 c1)), sg 1 (Q (ld_tr T)), sg 0 (oC h1)] (by kernel_rfl)
theorem R13 : Rn 13 a13 := fun _ _ _ => rfl
def l13_0 : ACode := (.seq (.seq (.region [⟨none, (some 7), (.p .mv), [(.slot 4)], [], []⟩, ⟨none, (some 8), (.p (.fa 4 1 false)), [(.slot 1)], [], []⟩, ⟨none, (some 9), (.r (.ld 1 false)), [(.slot 8)], [], []⟩, ⟨none, (some 10), (.p (.len false)), [(.slot 9)], [], []⟩, ⟨none, (some 11), (.p (.bin .lss 0)), [(.slot 7), (.slot 10)], [], []⟩]) (.cond (.slot 11) .skip (.exit 0))) (.seq (.block 1 (.region [⟨none, (some 14), (.p .mvo), [(.slot 3)], [3], []⟩, ⟨none, (some 15), (.p (.fa 4 1 false)), [(.slot 1)], [], []⟩, ⟨none, (some 16), (.r (.ld 1 false)), [(.slot 15)], [], []⟩, ⟨none, (some 17), (.p .mv), [(.slot 4)], [], []⟩, ⟨none, (some 18), (.p (.idx 5)), [(.slot 16), (.slot 17)], [], []⟩, ⟨none, (some 19), (.r (.ld 5 true)), [(.slot 18)], [], []⟩, ⟨none, (some 20), (.c 13), [(.slot 19)], [], []⟩, ⟨none, (some 21), (.p (.app 5)), [(.slot 14), (.slot 20)], [14], []⟩, ⟨none, (some 3), (.p .mvo), [(.slot 21)], [21], []⟩])) (.region [⟨none, (some 12), (.p .mv), [(.slot 4)], [], []⟩, ⟨none, (some 13), (.p (.bin .add 0)), [(.slot 12), (.val (.int .i64 1))], [], []⟩, ⟨none, (some 4), (.p .mv), [(.slot 13)], [], []⟩])))
def m13_0 : List Bool := [false, true, false, true, true, false, false, false, false, false, false, false, false, false, false, false, false, false, false, false, false, false, false]
theorem r13 {T : Tr} {ts1 : List Tr} (L1 : LE m13_0 l13_0 [(1, some (.vptr T.pv)), (3, some (.slice true 5 [T.pv])), (4, some (I 0))] [] (.exit 0) [(1, some (.vptr T.pv)), (3, some (.slice true 5 (Tr.pvs ts1)))] []) : E 13 [T.pv] [] (.slice false 5 (Tr.pvs ts1)) [] :=
  rule R13 [st 0 (P (bx_tr T)), st 1 (Q (ld_tr T)), st 0 (op_p (bsl_of (by simp) (by simp)) : OpEv pur run (.p (.bsl 5)) [T.pv] [] [some (.slice true 5 [T.pv])] []), sl 2 [1, 3, 4] L1] (by kernel_rfl)
theorem r13_l0_next1 {T : Tr} {ts1 : List Tr} {m1 : Nat} {U1 : Tr} {ts2 : List Tr} {e : AExit} {ff' : FF} {σ' : Sto} (wT : T.wf) (c1 : ((m1 : Nat) : Int) < ((T.kids.length : Nat) : Int)) (g1 : T.kids[m1]? = some U1) (h1 : E 13 [U1.pv] [] (.slice false 5 (Tr.pvs ts2)) []) (l1 : ts2 ≠ []) (l2 : ts1.length + ts2.length ≤ AqH) (l3 : m1 < 2000000000) (hl : LE m13_0 l13_0 [(1, some (.vptr T.pv)), (3, some (.slice true 5 (Tr.pvs (ts1 ++ ts2)))), (4, some (N ((m1 + 1))))] [] e ff' σ') : LE m13_0 l13_0 [(1, some (.vptr T.pv)), (3, some (.slice true 5 (Tr.pvs ts1))), (4, some (N m1))] [] e ff' σ' :=
  ruleN [1, 3, 4] [st 1 (P (Av8 T)), st 0 (Q (ld_kp T)), st 0 (P (BxN wT)), st 0 (P (Aq6 .i64 c1)), st 2 (P (Av8 T)), st 0 (Q (ld_kp T)), st 1 (P (idx_kp (m1) wT g1)), st 0 (Q (ld_tr U1)), st 0 (oC h1), st 0 (P (app_trs2 false l1 l2)), st 2 (P (Aq4 m1 1 l3 (by decide)))] hl (by kernel_rfl)
theorem r13_l0_out1 {T : Tr} {ts1 : List Tr} {m1 : Nat} (wT : T.wf) (c1 : ¬ ((m1 : Nat) : Int) < ((T.kids.length : Nat) : Int)) : LE m13_0 l13_0 [(1, some (.vptr T.pv)), (3, some (.slice true 5 (Tr.pvs ts1))), (4, some (N m1))] [] (.exit 0) [(1, some (.vptr T.pv)), (3, some (.slice true 5 (Tr.pvs ts1)))] [] :=
  ruleX [1, 3] [st 1 (P (Av8 T)), st 0 (Q (ld_kp T)), st 0 (P (BxN wT)), st 0 (P (AqE .i64 c1))] (by kernel_rfl)
def l4_0 : ACode := (.seq (.region [⟨none, (some 34), (.p (.bin .lss 0)), [(.slot 33), (.slot 32)], [], []⟩]) (.seq (.cond (.slot 34) .skip (.exit 0)) (.seq (.block 1 (.seq (.region [⟨none, (some 35), (.p (.idx 5)), [(.slot 31), (.slot 33)], [], []⟩, ⟨none, (some 36), (.r (.ld 5 true)), [(.slot 35)], [], []⟩, ⟨none, (some 7), (.p (.zi 5)), [], [], []⟩, ⟨none, none, (.p (.sti 5)), [(.slot 7), (.slot 36)], [7], []⟩]) (.seq (.region [⟨none, (some 37), (.p (.fa 0 1 false)), [(.slot 7)], [], []⟩, ⟨none, (some 38), (.r (.ld 1 false)), [(.slot 37)], [], []⟩, ⟨none, (some 39), (.p (.bin .eql 0)), [(.slot 38), (.val (.int .i64 1))], [], []⟩, ⟨none, (some 40), (.p .mv), [(.slot 39)], [], []⟩, ⟨(some (40, true)), (some 41), (.p .mv), [(.slot 4)], [], []⟩, ⟨(some (40, true)), (some 42), (.p (.len false)), [(.slot 41)], [], []⟩, ⟨(some (40, true)), (some 43), (.p (.bin .eql 0)), [(.slot 42), (.val (.int .i64 0))], [], []⟩, ⟨none, (some 44), (.p .pick), [(.slot 40), (.slot 43), (.val (.bool false))], [], []⟩]) (.cond (.slot 44) (.seq (.region [⟨none, (some 2), (.p .mv), [(.val (.bool false))], [], []⟩]) .ret) .skip)))) (.region [⟨none, (some 45), (.p (.bin .add 0)), [(.slot 33), (.val (.int .i64 1))], [], []⟩, ⟨none, (some 33), (.p .mv), [(.slot 45)], [], []⟩]))))
def m4_0 : List Bool := [false, false, false, false, true, false, false, false, false, false, false, false, false, false, false, false, false, false, false, false, false, false, false, false, false, false, false, false, false, false, false, true, true, true, false, false, false, false, false, false, false, true, true, true, false, false, false]
theorem r4n_2 {s : List UInt8} {U1 : Tr} {z1 : Int} {ts1 : List Tr} {b1 : Bool} (c1 : ¬ (((s).length : Nat) : Int) > 500) (h1 : Ev runA 8 [(.str s)] [] (.tuple [U1.pv, .nils, (I z1)]) []) (c2 : z1 = 0) (h2 : Ev runA 12 [U1.pv] [] (.bool true) []) (h3 : Ev runA 13 [U1.pv] [] (.slice false 5 (Tr.pvs ts1)) []) (L1 : LR m4_0 l4_0 [(4, some .nils), (31, some (.slice false 5 (Tr.pvs ts1))), (32, some (N ((ts1).length))), (33, some (I 0))] [] (.exit 0) [(4, some .nils), (31, some (.slice false 5 (Tr.pvs ts1)))] []) (h4 : Ev runA 7 [] [] (.bool b1) []) : Runs a4 [(.str s)] [] (.bool b1) [] :=
  ruleL [st 3 (PA (AqY .i64 c1)), st 2 (oCA h1), st 1 (op_p (AzK 0 (by rfl) (by simp)) : OpEv pur runA (.p (.ext 0)) [(.tuple [U1.pv, .nils, (I z1)])] [] [some U1.pv] []), st 0 (op_p (AzK 1 (by rfl) (by simp)) : OpEv pur runA (.p (.ext 1)) [(.tuple [U1.pv, .nils, (I z1)])] [] [some .nils] []), st 0 (op_p (AzK 2 (by rfl) (by simp)) : OpEv pur runA (.p (.ext 2)) [(.tuple [U1.pv, .nils, (I z1)])] [] [some (I z1)] []), st 1 (PA (AqM U1)), st 3 (PA (AjQ .i64 c2)), sg 5 (QA (ld_tr U1)), sg 0 (oCA h2), st 4 (QA (ld_tr U1)), st 0 (oCA h3), st 0 (PA (BjO false 5 ts1)), sl 1 [4, 31, 32, 33] L1, st 0 (oCA h4)] (by kernel_rfl)
theorem r4n_l0_out1 {ts1 : List Tr} {m1 : Nat} (c1 : ¬ ((m1 : Nat) : Int) < (((ts1).length : Nat) : Int)) : LR m4_0 l4_0 [(4, some .nils), (31, some (.slice false 5 (Tr.pvs ts1))), (32, some (N ((ts1).length))), (33, some (N m1))] [] (.exit 0) [(4, some .nils), (31, some (.slice false 5 (Tr.pvs ts1)))] [] :=
  ruleXR [4, 31] [st 0 (PA (AqE .i64 c1))] (by kernel_rfl)
theorem r4n_l0_next1 {s : List UInt8} {ts1 : List Tr} {m1 : Nat} {U1 : Tr} {e : AExit} {ff' : FF} {σ' : Sto} (c1 : ((m1 : Nat) : Int) < (((ts1).length : Nat) : Int)) (g1 : (ts1)[m1]? = some U1) (c2 : U1.kind ≠ 1) (l1 : m1 < 2000000000) (hl : LR m4_0 l4_0 [(4, some .nils), (31, some (.slice false 5 (Tr.pvs ts1))), (32, some (N ((ts1).length))), (33, some (N ((m1 + 1))))] [] e ff' σ') : LR m4_0 l4_0 [(4, some .nils), (31, some (.slice false 5 (Tr.pvs ts1))), (32, some (N ((ts1).length))), (33, some (N m1))] [] e ff' σ' :=
  ruleNR [4, 31, 32, 33] [st 0 (PA (Aq6 .i64 c1)), st 1 (PA (AvR (o := false) (s := 5) (m1) g1)), st 0 (QA (ld_tr U1)), st 1 (PA (AqM U1)), st 0 (PA (Aq8 U1)), st 1 (PA (Aq0 .i64 c2)), st 6 (PA (Aq4 m1 1 l1 (by decide)))] hl (by kernel_rfl)
theorem r4_1 {s : List UInt8} {b1 : Bool} (c1 : (((s).length : Nat) : Int) > 500) (h1 : Ev runA 7 [] [] (.bool b1) []) : Runs a4 [(.str s)] [] (.bool b1) [] :=
  ruleL [st 3 (PA (AxA .i64 c1)), st 1 (oCA h1)] (by kernel_rfl)
theorem r4_4 {s : List UInt8} {U1 : Tr} {dl1 : List Dg} {z1 : Int} {ts1 : List Tr} {b1 : Bool} (c1 : ¬ (((s).length : Nat) : Int) > 500) (h1 : Ev runA 8 [(.str s)] [] (.tuple [U1.pv, (.slice false 5 (dl1.map Dg.pv)), (I z1)]) []) (c2 : z1 = 0) (c3 : (((dl1).length : Nat) : Int) ≠ 0) (h2 : Ev runA 13 [U1.pv] [] (.slice false 5 (Tr.pvs ts1)) []) (L1 : LR m4_0 l4_0 [(4, some (.slice false 5 (dl1.map Dg.pv))), (31, some (.slice false 5 (Tr.pvs ts1))), (32, some (N ((ts1).length))), (33, some (I 0))] [] (.exit 0) [(4, some (.slice false 5 (dl1.map Dg.pv))), (31, some (.slice false 5 (Tr.pvs ts1)))] []) (h3 : Ev runA 7 [] [] (.bool b1) []) : Runs a4 [(.str s)] [] (.bool b1) [] :=
  ruleL [st 3 (PA (AqY .i64 c1)), st 2 (oCA h1), st 1 (op_p (AzK 0 (by rfl) (by simp)) : OpEv pur runA (.p (.ext 0)) [(.tuple [U1.pv, (.slice false 5 (dl1.map Dg.pv)), (I z1)])] [] [some U1.pv] []), st 0 (op_p (AzK 1 (by rfl) (by simp)) : OpEv pur runA (.p (.ext 1)) [(.tuple [U1.pv, (.slice false 5 (dl1.map Dg.pv)), (I z1)])] [] [some (.slice false 5 (dl1.map Dg.pv))] []), st 0 (op_p (AzK 2 (by rfl) (by simp)) : OpEv pur runA (.p (.ext 2)) [(.tuple [U1.pv, (.slice false 5 (dl1.map Dg.pv)), (I z1)])] [] [some (I z1)] []), st 1 (PA (AqM U1)), st 3 (PA (AjQ .i64 c2)), sg 2 (PA (len_dgs false 5 dl1)), sg 0 (PA (Aq0 .i64 c3)), st 7 (QA (ld_tr U1)), st 0 (oCA h2), st 0 (PA (BjO false 5 ts1)), sl 1 [4, 31, 32, 33] L1, st 0 (oCA h3)] (by kernel_rfl)
theorem r4_l0_out1 {dl1 : List Dg} {ts1 : List Tr} {m1 : Nat} (c1 : ¬ ((m1 : Nat) : Int) < (((ts1).length : Nat) : Int)) : LR m4_0 l4_0 [(4, some (.slice false 5 (dl1.map Dg.pv))), (31, some (.slice false 5 (Tr.pvs ts1))), (32, some (N ((ts1).length))), (33, some (N m1))] [] (.exit 0) [(4, some (.slice false 5 (dl1.map Dg.pv))), (31, some (.slice false 5 (Tr.pvs ts1)))] [] :=
  ruleXR [4, 31] [st 0 (PA (AqE .i64 c1))] (by kernel_rfl)
theorem r4_l0_next1 {s : List UInt8} {dl1 : List Dg} {ts1 : List Tr} {m1 : Nat} {U1 : Tr} {e : AExit} {ff' : FF} {σ' : Sto} (c1 : ((m1 : Nat) : Int) < (((ts1).length : Nat) : Int)) (g1 : (ts1)[m1]? = some U1) (c2 : U1.kind ≠ 1) (l1 : m1 < 2000000000) (hl : LR m4_0 l4_0 [(4, some (.slice false 5 (dl1.map Dg.pv))), (31, some (.slice false 5 (Tr.pvs ts1))), (32, some (N ((ts1).length))), (33, some (N ((m1 + 1))))] [] e ff' σ') : LR m4_0 l4_0 [(4, some (.slice false 5 (dl1.map Dg.pv))), (31, some (.slice false 5 (Tr.pvs ts1))), (32, some (N ((ts1).length))), (33, some (N m1))] [] e ff' σ' :=
  ruleNR [4, 31, 32, 33] [st 0 (PA (Aq6 .i64 c1)), st 1 (PA (AvR (o := false) (s := 5) (m1) g1)), st 0 (QA (ld_tr U1)), st 1 (PA (AqM U1)), st 0 (PA (Aq8 U1)), st 1 (PA (Aq0 .i64 c2)), st 6 (PA (Aq4 m1 1 l1 (by decide)))] hl (by kernel_rfl)
theorem r4_l0_next2 {s : List UInt8} {dl1 : List Dg} {ts1 : List Tr} {m1 : Nat} {U1 : Tr} {e : AExit} {ff' : FF} {σ' : Sto} (c1 : ((m1 : Nat) : Int) < (((ts1).length : Nat) : Int)) (g1 : (ts1)[m1]? = some U1) (c2 : U1.kind = 1) (c3 : (((dl1).length : Nat) : Int) ≠ 0) (l1 : m1 < 2000000000) (hl : LR m4_0 l4_0 [(4, some (.slice false 5 (dl1.map Dg.pv))), (31, some (.slice false 5 (Tr.pvs ts1))), (32, some (N ((ts1).length))), (33, some (N ((m1 + 1))))] [] e ff' σ') : LR m4_0 l4_0 [(4, some (.slice false 5 (dl1.map Dg.pv))), (31, some (.slice false 5 (Tr.pvs ts1))), (32, some (N ((ts1).length))), (33, some (N m1))] [] e ff' σ' :=
  ruleNR [4, 31, 32, 33] [st 0 (PA (Aq6 .i64 c1)), st 1 (PA (AvR (o := false) (s := 5) (m1) g1)), st 0 (QA (ld_tr U1)), st 1 (PA (AqM U1)), st 0 (PA (Aq8 U1)), st 1 (PA (Aq9 .i64 c2)), sg 2 (PA (len_dgs false 5 dl1)), sg 0 (PA (Aq0 .i64 c3)), st 2 (PA (Aq4 m1 1 l1 (by decide)))] hl (by kernel_rfl)
end Go.Abs.Z
