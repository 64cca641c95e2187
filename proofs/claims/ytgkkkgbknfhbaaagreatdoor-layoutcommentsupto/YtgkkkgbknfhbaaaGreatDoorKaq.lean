/- A part of the proof: M2. -/
import Derived.Test.YtgkkkgbknfhbaaaGreatDoorKao

set_option linter.all false
namespace Go.Abs.Z
def mA2:List PV:=[.str [112,114,111,99,32,102,40,120,41,123,120,61,40,120,43,49,41,42,50,59,35,99,10,125],.agg [.int .i64 2,.str [],.int .i64 0,.int .i64 24,.slice false 5 [.agg [.int .i64 5,.str [102],.int .i64 0,.int .i64 24,.slice false 5 [.agg [.int .i64 6,.str [],.int .i64 6,.int .i64 9,.slice false 5 [.agg [.int .i64 7,.str [120],.int .i64 7,.int .i64 8,.slice false 5 [.agg [.int .i64 0,.str [],.int .i64 8,.int .i64 8,.nils]]]]],.agg [.int .i64 0,.str [],.int .i64 9,.int .i64 9,.nils],.agg [.int .i64 11,.str [],.int .i64 9,.int .i64 24,.slice false 5 [.agg [.int .i64 13,.str [],.int .i64 10,.int .i64 20,.slice false 5 [.agg [.int .i64 20,.str [120],.int .i64 10,.int .i64 11,.nils],.agg [.int .i64 29,.str [42],.int .i64 12,.int .i64 19,.slice false 5 [.agg [.int .i64 29,.str [43],.int .i64 13,.int .i64 16,.slice false 5 [.agg [.int .i64 20,.str [120],.int .i64 13,.int .i64 14,.nils],.agg [.int .i64 24,.str [49],.int .i64 15,.int .i64 16,.nils]]],.agg [.int .i64 24,.str [50],.int .i64 18,.int .i64 19,.nils]]]]]]]]]]],.slice false 1 [.int .i64 0,.int .i64 2,.int .i64 0,.int .i64 1,.int .i64 1],.agg [.int .i64 29,.str [43],.int .i64 0,.int .i64 5,.slice false 5 [.agg [.int .i64 20,.str [120],.int .i64 0,.int .i64 1,.nils],.agg [.int .i64 20,.str [121],.int .i64 4,.int .i64 5,.nils]]]]
def mR2:PV:=.tuple [.agg [.int .i64 18,.int .i64 19,.str [40,120,32,43,32,121,41]],.int .i64 0]
set_option maxRecDepth 100000 in
def mT2:isR mR2 (run 150 12 mA2 [])=true:=by decide +kernel
end Go.Abs.Z
