/- A part of the proof: T3 T4 T5. -/
import Derived.Test.YthpnmmdobbhfkaaGreatTa
import Derived.Test.YthpnmmdobbhfkaaGreatTb
import Derived.Test.YthpnmmdobbhfkaaGreatProg
import Derived.KernelRfl
import Derived.Test.YthpnmmdobbhfkaaGreatTc

set_option linter.unusedVariables false
set_option linter.unusedSimpArgs false
namespace Go.Abs.Z
open Go.Proofs
def FnOk (f : FuncId) (af : AFunc) : Prop := ∃ fn fi, Tryz.prog.funcs[f]? = some fn ∧ (fn.name == "runtime.NumGoroutine") = false ∧ compFunc Tryz.prog pur fi fn = some af ∧ okCode (af.ntmps + af.extra) af.code = true
theorem c3 : compFunc Tryz.prog pur fi3 Tryz.f3 = some a3 := by kernel_rfl
theorem ok3 : FnOk 3 a3 := ⟨Tryz.f3, fi3, Tryz.func3, by kernel_rfl, c3, by kernel_rfl⟩
theorem c4 : compFunc Tryz.prog pur fi4 Tryz.f4 = some a4 := by kernel_rfl
theorem ok4 : FnOk 4 a4 := ⟨Tryz.f4, fi4, Tryz.func4, by kernel_rfl, c4, by kernel_rfl⟩
theorem c5 : compFunc Tryz.prog pur fi5 Tryz.f5 = some a5 := by kernel_rfl
theorem ok5 : FnOk 5 a5 := ⟨Tryz.f5, fi5, Tryz.func5, by kernel_rfl, c5, by kernel_rfl⟩
theorem c6 : compFunc Tryz.prog pur fi6 Tryz.f6 = some a6 := by kernel_rfl
theorem ok6 : FnOk 6 a6 := ⟨Tryz.f6, fi6, Tryz.func6, by kernel_rfl, c6, by kernel_rfl⟩
theorem c7 : compFunc Tryz.prog pur fi7 Tryz.f7 = some a7 := by kernel_rfl
theorem ok7 : FnOk 7 a7 := ⟨Tryz.f7, fi7, Tryz.func7, by kernel_rfl, c7, by kernel_rfl⟩
theorem c8 : compFunc Tryz.prog pur fi8 Tryz.f8 = some a8 := by kernel_rfl
theorem ok8 : FnOk 8 a8 := ⟨Tryz.f8, fi8, Tryz.func8, by kernel_rfl, c8, by kernel_rfl⟩
theorem c9 : compFunc Tryz.prog pur fi9 Tryz.f9 = some a9 := by kernel_rfl
theorem ok9 : FnOk 9 a9 := ⟨Tryz.f9, fi9, Tryz.func9, by kernel_rfl, c9, by kernel_rfl⟩
theorem c10 : compFunc Tryz.prog pur fi10 Tryz.f10 = some a10 := by kernel_rfl
theorem ok10 : FnOk 10 a10 := ⟨Tryz.f10, fi10, Tryz.func10, by kernel_rfl, c10, by kernel_rfl⟩
theorem c11 : compFunc Tryz.prog pur fi11 Tryz.f11 = some a11 := by kernel_rfl
theorem ok11 : FnOk 11 a11 := ⟨Tryz.f11, fi11, Tryz.func11, by kernel_rfl, c11, by kernel_rfl⟩
theorem c12 : compFunc Tryz.prog pur fi12 Tryz.f12 = some a12 := by kernel_rfl
theorem ok12 : FnOk 12 a12 := ⟨Tryz.f12, fi12, Tryz.func12, by kernel_rfl, c12, by kernel_rfl⟩
theorem c13 : compFunc Tryz.prog pur fi13 Tryz.f13 = some a13 := by kernel_rfl
theorem ok13 : FnOk 13 a13 := ⟨Tryz.f13, fi13, Tryz.func13, by kernel_rfl, c13, by kernel_rfl⟩
theorem c14 : compFunc Tryz.prog pur fi14 Tryz.f14 = some a14 := by kernel_rfl
theorem ok14 : FnOk 14 a14 := ⟨Tryz.f14, fi14, Tryz.func14, by kernel_rfl, c14, by kernel_rfl⟩
theorem c15 : compFunc Tryz.prog pur fi15 Tryz.f15 = some a15 := by kernel_rfl
theorem ok15 : FnOk 15 a15 := ⟨Tryz.f15, fi15, Tryz.func15, by kernel_rfl, c15, by kernel_rfl⟩
theorem c16 : compFunc Tryz.prog pur fi16 Tryz.f16 = some a16 := by kernel_rfl
theorem ok16 : FnOk 16 a16 := ⟨Tryz.f16, fi16, Tryz.func16, by kernel_rfl, c16, by kernel_rfl⟩
theorem c17 : compFunc Tryz.prog pur fi17 Tryz.f17 = some a17 := by kernel_rfl
theorem ok17 : FnOk 17 a17 := ⟨Tryz.f17, fi17, Tryz.func17, by kernel_rfl, c17, by kernel_rfl⟩
theorem c18 : compFunc Tryz.prog pur fi18 Tryz.f18 = some a18 := by kernel_rfl
theorem ok18 : FnOk 18 a18 := ⟨Tryz.f18, fi18, Tryz.func18, by kernel_rfl, c18, by kernel_rfl⟩
theorem c19 : compFunc Tryz.prog pur fi19 Tryz.f19 = some a19 := by kernel_rfl
theorem ok19 : FnOk 19 a19 := ⟨Tryz.f19, fi19, Tryz.func19, by kernel_rfl, c19, by kernel_rfl⟩
theorem c20 : compFunc Tryz.prog pur fi20 Tryz.f20 = some a20 := by kernel_rfl
theorem ok20 : FnOk 20 a20 := ⟨Tryz.f20, fi20, Tryz.func20, by kernel_rfl, c20, by kernel_rfl⟩
theorem c21 : compFunc Tryz.prog pur fi21 Tryz.f21 = some a21 := by kernel_rfl
theorem ok21 : FnOk 21 a21 := ⟨Tryz.f21, fi21, Tryz.func21, by kernel_rfl, c21, by kernel_rfl⟩
theorem c22 : compFunc Tryz.prog pur fi22 Tryz.f22 = some a22 := by kernel_rfl
theorem ok22 : FnOk 22 a22 := ⟨Tryz.f22, fi22, Tryz.func22, by kernel_rfl, c22, by kernel_rfl⟩
theorem c23 : compFunc Tryz.prog pur fi23 Tryz.f23 = some a23 := by kernel_rfl
theorem ok23 : FnOk 23 a23 := ⟨Tryz.f23, fi23, Tryz.func23, by kernel_rfl, c23, by kernel_rfl⟩
theorem c24 : compFunc Tryz.prog pur fi24 Tryz.f24 = some a24 := by kernel_rfl
theorem ok24 : FnOk 24 a24 := ⟨Tryz.f24, fi24, Tryz.func24, by kernel_rfl, c24, by kernel_rfl⟩
theorem c25 : compFunc Tryz.prog pur fi25 Tryz.f25 = some a25 := by kernel_rfl
theorem ok25 : FnOk 25 a25 := ⟨Tryz.f25, fi25, Tryz.func25, by kernel_rfl, c25, by kernel_rfl⟩
theorem c26 : compFunc Tryz.prog pur fi26 Tryz.f26 = some a26 := by kernel_rfl
theorem ok26 : FnOk 26 a26 := ⟨Tryz.f26, fi26, Tryz.func26, by kernel_rfl, c26, by kernel_rfl⟩
theorem c27 : compFunc Tryz.prog pur fi27 Tryz.f27 = some a27 := by kernel_rfl
theorem ok27 : FnOk 27 a27 := ⟨Tryz.f27, fi27, Tryz.func27, by kernel_rfl, c27, by kernel_rfl⟩
theorem c28 : compFunc Tryz.prog pur fi28 Tryz.f28 = some a28 := by kernel_rfl
theorem ok28 : FnOk 28 a28 := ⟨Tryz.f28, fi28, Tryz.func28, by kernel_rfl, c28, by kernel_rfl⟩
theorem c29 : compFunc Tryz.prog pur fi29 Tryz.f29 = some a29 := by kernel_rfl
theorem ok29 : FnOk 29 a29 := ⟨Tryz.f29, fi29, Tryz.func29, by kernel_rfl, c29, by kernel_rfl⟩
theorem c30 : compFunc Tryz.prog pur fi30 Tryz.f30 = some a30 := by kernel_rfl
theorem ok30 : FnOk 30 a30 := ⟨Tryz.f30, fi30, Tryz.func30, by kernel_rfl, c30, by kernel_rfl⟩
theorem c31 : compFunc Tryz.prog pur fi31 Tryz.f31 = some a31 := by kernel_rfl
theorem ok31 : FnOk 31 a31 := ⟨Tryz.f31, fi31, Tryz.func31, by kernel_rfl, c31, by kernel_rfl⟩
theorem c32 : compFunc Tryz.prog pur fi32 Tryz.f32 = some a32 := by kernel_rfl
theorem ok32 : FnOk 32 a32 := ⟨Tryz.f32, fi32, Tryz.func32, by kernel_rfl, c32, by kernel_rfl⟩
theorem c33 : compFunc Tryz.prog pur fi33 Tryz.f33 = some a33 := by kernel_rfl
theorem ok33 : FnOk 33 a33 := ⟨Tryz.f33, fi33, Tryz.func33, by kernel_rfl, c33, by kernel_rfl⟩
theorem c34 : compFunc Tryz.prog pur fi34 Tryz.f34 = some a34 := by kernel_rfl
theorem ok34 : FnOk 34 a34 := ⟨Tryz.f34, fi34, Tryz.func34, by kernel_rfl, c34, by kernel_rfl⟩
theorem c35 : compFunc Tryz.prog pur fi35 Tryz.f35 = some a35 := by kernel_rfl
theorem ok35 : FnOk 35 a35 := ⟨Tryz.f35, fi35, Tryz.func35, by kernel_rfl, c35, by kernel_rfl⟩
theorem c36 : compFunc Tryz.prog pur fi36 Tryz.f36 = some a36 := by kernel_rfl
theorem ok36 : FnOk 36 a36 := ⟨Tryz.f36, fi36, Tryz.func36, by kernel_rfl, c36, by kernel_rfl⟩
theorem c37 : compFunc Tryz.prog pur fi37 Tryz.f37 = some a37 := by kernel_rfl
theorem ok37 : FnOk 37 a37 := ⟨Tryz.f37, fi37, Tryz.func37, by kernel_rfl, c37, by kernel_rfl⟩
theorem c38 : compFunc Tryz.prog pur fi38 Tryz.f38 = some a38 := by kernel_rfl
theorem ok38 : FnOk 38 a38 := ⟨Tryz.f38, fi38, Tryz.func38, by kernel_rfl, c38, by kernel_rfl⟩
theorem c39 : compFunc Tryz.prog pur fi39 Tryz.f39 = some a39 := by kernel_rfl
theorem ok39 : FnOk 39 a39 := ⟨Tryz.f39, fi39, Tryz.func39, by kernel_rfl, c39, by kernel_rfl⟩
theorem c40 : compFunc Tryz.prog pur fi40 Tryz.f40 = some a40 := by kernel_rfl
theorem ok40 : FnOk 40 a40 := ⟨Tryz.f40, fi40, Tryz.func40, by kernel_rfl, c40, by kernel_rfl⟩
theorem c41 : compFunc Tryz.prog pur fi41 Tryz.f41 = some a41 := by kernel_rfl
theorem ok41 : FnOk 41 a41 := ⟨Tryz.f41, fi41, Tryz.func41, by kernel_rfl, c41, by kernel_rfl⟩
theorem c42 : compFunc Tryz.prog pur fi42 Tryz.f42 = some a42 := by kernel_rfl
theorem ok42 : FnOk 42 a42 := ⟨Tryz.f42, fi42, Tryz.func42, by kernel_rfl, c42, by kernel_rfl⟩
theorem c43 : compFunc Tryz.prog pur fi43 Tryz.f43 = some a43 := by kernel_rfl
theorem ok43 : FnOk 43 a43 := ⟨Tryz.f43, fi43, Tryz.func43, by kernel_rfl, c43, by kernel_rfl⟩
theorem c44 : compFunc Tryz.prog pur fi44 Tryz.f44 = some a44 := by kernel_rfl
theorem ok44 : FnOk 44 a44 := ⟨Tryz.f44, fi44, Tryz.func44, by kernel_rfl, c44, by kernel_rfl⟩
theorem c45 : compFunc Tryz.prog pur fi45 Tryz.f45 = some a45 := by kernel_rfl
theorem ok45 : FnOk 45 a45 := ⟨Tryz.f45, fi45, Tryz.func45, by kernel_rfl, c45, by kernel_rfl⟩
theorem c46 : compFunc Tryz.prog pur fi46 Tryz.f46 = some a46 := by kernel_rfl
theorem ok46 : FnOk 46 a46 := ⟨Tryz.f46, fi46, Tryz.func46, by kernel_rfl, c46, by kernel_rfl⟩
theorem c47 : compFunc Tryz.prog pur fi47 Tryz.f47 = some a47 := by kernel_rfl
theorem ok47 : FnOk 47 a47 := ⟨Tryz.f47, fi47, Tryz.func47, by kernel_rfl, c47, by kernel_rfl⟩
theorem c48 : compFunc Tryz.prog pur fi48 Tryz.f48 = some a48 := by kernel_rfl
theorem ok48 : FnOk 48 a48 := ⟨Tryz.f48, fi48, Tryz.func48, by kernel_rfl, c48, by kernel_rfl⟩
theorem c49 : compFunc Tryz.prog pur fi49 Tryz.f49 = some a49 := by kernel_rfl
theorem ok49 : FnOk 49 a49 := ⟨Tryz.f49, fi49, Tryz.func49, by kernel_rfl, c49, by kernel_rfl⟩
theorem c50 : compFunc Tryz.prog pur fi50 Tryz.f50 = some a50 := by kernel_rfl
theorem ok50 : FnOk 50 a50 := ⟨Tryz.f50, fi50, Tryz.func50, by kernel_rfl, c50, by kernel_rfl⟩
theorem c51 : compFunc Tryz.prog pur fi51 Tryz.f51 = some a51 := by kernel_rfl
theorem ok51 : FnOk 51 a51 := ⟨Tryz.f51, fi51, Tryz.func51, by kernel_rfl, c51, by kernel_rfl⟩
theorem c52 : compFunc Tryz.prog pur fi52 Tryz.f52 = some a52 := by kernel_rfl
theorem ok52 : FnOk 52 a52 := ⟨Tryz.f52, fi52, Tryz.func52, by kernel_rfl, c52, by kernel_rfl⟩
theorem c53 : compFunc Tryz.prog pur fi53 Tryz.f53 = some a53 := by kernel_rfl
theorem ok53 : FnOk 53 a53 := ⟨Tryz.f53, fi53, Tryz.func53, by kernel_rfl, c53, by kernel_rfl⟩
theorem c54 : compFunc Tryz.prog pur fi54 Tryz.f54 = some a54 := by kernel_rfl
theorem ok54 : FnOk 54 a54 := ⟨Tryz.f54, fi54, Tryz.func54, by kernel_rfl, c54, by kernel_rfl⟩
theorem c55 : compFunc Tryz.prog pur fi55 Tryz.f55 = some a55 := by kernel_rfl
theorem ok55 : FnOk 55 a55 := ⟨Tryz.f55, fi55, Tryz.func55, by kernel_rfl, c55, by kernel_rfl⟩
theorem c56 : compFunc Tryz.prog pur fi56 Tryz.f56 = some a56 := by kernel_rfl
theorem ok56 : FnOk 56 a56 := ⟨Tryz.f56, fi56, Tryz.func56, by kernel_rfl, c56, by kernel_rfl⟩
theorem c57 : compFunc Tryz.prog pur fi57 Tryz.f57 = some a57 := by kernel_rfl
theorem ok57 : FnOk 57 a57 := ⟨Tryz.f57, fi57, Tryz.func57, by kernel_rfl, c57, by kernel_rfl⟩
theorem c59 : compFunc Tryz.prog pur fi59 Tryz.f59 = some a59 := by kernel_rfl
theorem ok59 : FnOk 59 a59 := ⟨Tryz.f59, fi59, Tryz.func59, by kernel_rfl, c59, by kernel_rfl⟩
theorem c60 : compFunc Tryz.prog pur fi60 Tryz.f60 = some a60 := by kernel_rfl
theorem ok60 : FnOk 60 a60 := ⟨Tryz.f60, fi60, Tryz.func60, by kernel_rfl, c60, by kernel_rfl⟩
theorem c61 : compFunc Tryz.prog pur fi61 Tryz.f61 = some a61 := by kernel_rfl
theorem ok61 : FnOk 61 a61 := ⟨Tryz.f61, fi61, Tryz.func61, by kernel_rfl, c61, by kernel_rfl⟩
theorem c62 : compFunc Tryz.prog pur fi62 Tryz.f62 = some a62 := by kernel_rfl
theorem ok62 : FnOk 62 a62 := ⟨Tryz.f62, fi62, Tryz.func62, by kernel_rfl, c62, by kernel_rfl⟩
theorem c63 : compFunc Tryz.prog pur fi63 Tryz.f63 = some a63 := by kernel_rfl
theorem ok63 : FnOk 63 a63 := ⟨Tryz.f63, fi63, Tryz.func63, by kernel_rfl, c63, by kernel_rfl⟩
end Go.Abs.Z

namespace Go.Abs.Z
open Go.Proofs
theorem c64 : compFunc Tryz.prog pur fi64 Tryz.f64 = some a64 := by kernel_rfl
theorem ok64 : FnOk 64 a64 := ⟨Tryz.f64, fi64, Tryz.func64, by kernel_rfl, c64, by kernel_rfl⟩
theorem c65 : compFunc Tryz.prog pur fi65 Tryz.f65 = some a65 := by kernel_rfl
theorem ok65 : FnOk 65 a65 := ⟨Tryz.f65, fi65, Tryz.func65, by kernel_rfl, c65, by kernel_rfl⟩
theorem c66 : compFunc Tryz.prog pur fi66 Tryz.f66 = some a66 := by kernel_rfl
theorem ok66 : FnOk 66 a66 := ⟨Tryz.f66, fi66, Tryz.func66, by kernel_rfl, c66, by kernel_rfl⟩
theorem c67 : compFunc Tryz.prog pur fi67 Tryz.f67 = some a67 := by kernel_rfl
theorem ok67 : FnOk 67 a67 := ⟨Tryz.f67, fi67, Tryz.func67, by kernel_rfl, c67, by kernel_rfl⟩
theorem c68 : compFunc Tryz.prog pur fi68 Tryz.f68 = some a68 := by kernel_rfl
theorem ok68 : FnOk 68 a68 := ⟨Tryz.f68, fi68, Tryz.func68, by kernel_rfl, c68, by kernel_rfl⟩
theorem c69 : compFunc Tryz.prog pur fi69 Tryz.f69 = some a69 := by kernel_rfl
theorem ok69 : FnOk 69 a69 := ⟨Tryz.f69, fi69, Tryz.func69, by kernel_rfl, c69, by kernel_rfl⟩
theorem c70 : compFunc Tryz.prog pur fi70 Tryz.f70 = some a70 := by kernel_rfl
theorem ok70 : FnOk 70 a70 := ⟨Tryz.f70, fi70, Tryz.func70, by kernel_rfl, c70, by kernel_rfl⟩
theorem c71 : compFunc Tryz.prog pur fi71 Tryz.f71 = some a71 := by kernel_rfl
theorem ok71 : FnOk 71 a71 := ⟨Tryz.f71, fi71, Tryz.func71, by kernel_rfl, c71, by kernel_rfl⟩
theorem c72 : compFunc Tryz.prog pur fi72 Tryz.f72 = some a72 := by kernel_rfl
theorem ok72 : FnOk 72 a72 := ⟨Tryz.f72, fi72, Tryz.func72, by kernel_rfl, c72, by kernel_rfl⟩
theorem c73 : compFunc Tryz.prog pur fi73 Tryz.f73 = some a73 := by kernel_rfl
theorem ok73 : FnOk 73 a73 := ⟨Tryz.f73, fi73, Tryz.func73, by kernel_rfl, c73, by kernel_rfl⟩
theorem c74 : compFunc Tryz.prog pur fi74 Tryz.f74 = some a74 := by kernel_rfl
theorem ok74 : FnOk 74 a74 := ⟨Tryz.f74, fi74, Tryz.func74, by kernel_rfl, c74, by kernel_rfl⟩
theorem c75 : compFunc Tryz.prog pur fi75 Tryz.f75 = some a75 := by kernel_rfl
theorem ok75 : FnOk 75 a75 := ⟨Tryz.f75, fi75, Tryz.func75, by kernel_rfl, c75, by kernel_rfl⟩
theorem c76 : compFunc Tryz.prog pur fi76 Tryz.f76 = some a76 := by kernel_rfl
theorem ok76 : FnOk 76 a76 := ⟨Tryz.f76, fi76, Tryz.func76, by kernel_rfl, c76, by kernel_rfl⟩
theorem c77 : compFunc Tryz.prog pur fi77 Tryz.f77 = some a77 := by kernel_rfl
theorem ok77 : FnOk 77 a77 := ⟨Tryz.f77, fi77, Tryz.func77, by kernel_rfl, c77, by kernel_rfl⟩
theorem c78 : compFunc Tryz.prog pur fi78 Tryz.f78 = some a78 := by kernel_rfl
theorem ok78 : FnOk 78 a78 := ⟨Tryz.f78, fi78, Tryz.func78, by kernel_rfl, c78, by kernel_rfl⟩
theorem c79 : compFunc Tryz.prog pur fi79 Tryz.f79 = some a79 := by kernel_rfl
theorem ok79 : FnOk 79 a79 := ⟨Tryz.f79, fi79, Tryz.func79, by kernel_rfl, c79, by kernel_rfl⟩
theorem c80 : compFunc Tryz.prog pur fi80 Tryz.f80 = some a80 := by kernel_rfl
theorem ok80 : FnOk 80 a80 := ⟨Tryz.f80, fi80, Tryz.func80, by kernel_rfl, c80, by kernel_rfl⟩
theorem c81 : compFunc Tryz.prog pur fi81 Tryz.f81 = some a81 := by kernel_rfl
theorem ok81 : FnOk 81 a81 := ⟨Tryz.f81, fi81, Tryz.func81, by kernel_rfl, c81, by kernel_rfl⟩
theorem c82 : compFunc Tryz.prog pur fi82 Tryz.f82 = some a82 := by kernel_rfl
theorem ok82 : FnOk 82 a82 := ⟨Tryz.f82, fi82, Tryz.func82, by kernel_rfl, c82, by kernel_rfl⟩
theorem c83 : compFunc Tryz.prog pur fi83 Tryz.f83 = some a83 := by kernel_rfl
theorem ok83 : FnOk 83 a83 := ⟨Tryz.f83, fi83, Tryz.func83, by kernel_rfl, c83, by kernel_rfl⟩
theorem c84 : compFunc Tryz.prog pur fi84 Tryz.f84 = some a84 := by kernel_rfl
theorem ok84 : FnOk 84 a84 := ⟨Tryz.f84, fi84, Tryz.func84, by kernel_rfl, c84, by kernel_rfl⟩
theorem c85 : compFunc Tryz.prog pur fi85 Tryz.f85 = some a85 := by kernel_rfl
theorem ok85 : FnOk 85 a85 := ⟨Tryz.f85, fi85, Tryz.func85, by kernel_rfl, c85, by kernel_rfl⟩
theorem c86 : compFunc Tryz.prog pur fi86 Tryz.f86 = some a86 := by kernel_rfl
theorem ok86 : FnOk 86 a86 := ⟨Tryz.f86, fi86, Tryz.func86, by kernel_rfl, c86, by kernel_rfl⟩
theorem c87 : compFunc Tryz.prog pur fi87 Tryz.f87 = some a87 := by kernel_rfl
theorem ok87 : FnOk 87 a87 := ⟨Tryz.f87, fi87, Tryz.func87, by kernel_rfl, c87, by kernel_rfl⟩
theorem c88 : compFunc Tryz.prog pur fi88 Tryz.f88 = some a88 := by kernel_rfl
theorem ok88 : FnOk 88 a88 := ⟨Tryz.f88, fi88, Tryz.func88, by kernel_rfl, c88, by kernel_rfl⟩
theorem c89 : compFunc Tryz.prog pur fi89 Tryz.f89 = some a89 := by kernel_rfl
theorem ok89 : FnOk 89 a89 := ⟨Tryz.f89, fi89, Tryz.func89, by kernel_rfl, c89, by kernel_rfl⟩
theorem c90 : compFunc Tryz.prog pur fi90 Tryz.f90 = some a90 := by kernel_rfl
theorem ok90 : FnOk 90 a90 := ⟨Tryz.f90, fi90, Tryz.func90, by kernel_rfl, c90, by kernel_rfl⟩
theorem c91 : compFunc Tryz.prog pur fi91 Tryz.f91 = some a91 := by kernel_rfl
theorem ok91 : FnOk 91 a91 := ⟨Tryz.f91, fi91, Tryz.func91, by kernel_rfl, c91, by kernel_rfl⟩
theorem c92 : compFunc Tryz.prog pur fi92 Tryz.f92 = some a92 := by kernel_rfl
theorem ok92 : FnOk 92 a92 := ⟨Tryz.f92, fi92, Tryz.func92, by kernel_rfl, c92, by kernel_rfl⟩
theorem c93 : compFunc Tryz.prog pur fi93 Tryz.f93 = some a93 := by kernel_rfl
theorem ok93 : FnOk 93 a93 := ⟨Tryz.f93, fi93, Tryz.func93, by kernel_rfl, c93, by kernel_rfl⟩
theorem c94 : compFunc Tryz.prog pur fi94 Tryz.f94 = some a94 := by kernel_rfl
theorem ok94 : FnOk 94 a94 := ⟨Tryz.f94, fi94, Tryz.func94, by kernel_rfl, c94, by kernel_rfl⟩
theorem c95 : compFunc Tryz.prog pur fi95 Tryz.f95 = some a95 := by kernel_rfl
theorem ok95 : FnOk 95 a95 := ⟨Tryz.f95, fi95, Tryz.func95, by kernel_rfl, c95, by kernel_rfl⟩
theorem c96 : compFunc Tryz.prog pur fi96 Tryz.f96 = some a96 := by kernel_rfl
theorem ok96 : FnOk 96 a96 := ⟨Tryz.f96, fi96, Tryz.func96, by kernel_rfl, c96, by kernel_rfl⟩
theorem c97 : compFunc Tryz.prog pur fi97 Tryz.f97 = some a97 := by kernel_rfl
theorem ok97 : FnOk 97 a97 := ⟨Tryz.f97, fi97, Tryz.func97, by kernel_rfl, c97, by kernel_rfl⟩
theorem c98 : compFunc Tryz.prog pur fi98 Tryz.f98 = some a98 := by kernel_rfl
theorem ok98 : FnOk 98 a98 := ⟨Tryz.f98, fi98, Tryz.func98, by kernel_rfl, c98, by kernel_rfl⟩
theorem c99 : compFunc Tryz.prog pur fi99 Tryz.f99 = some a99 := by kernel_rfl
theorem ok99 : FnOk 99 a99 := ⟨Tryz.f99, fi99, Tryz.func99, by kernel_rfl, c99, by kernel_rfl⟩
theorem c100 : compFunc Tryz.prog pur fi100 Tryz.f100 = some a100 := by kernel_rfl
theorem ok100 : FnOk 100 a100 := ⟨Tryz.f100, fi100, Tryz.func100, by kernel_rfl, c100, by kernel_rfl⟩
theorem c101 : compFunc Tryz.prog pur fi101 Tryz.f101 = some a101 := by kernel_rfl
theorem ok101 : FnOk 101 a101 := ⟨Tryz.f101, fi101, Tryz.func101, by kernel_rfl, c101, by kernel_rfl⟩
theorem c102 : compFunc Tryz.prog pur fi102 Tryz.f102 = some a102 := by kernel_rfl
theorem ok102 : FnOk 102 a102 := ⟨Tryz.f102, fi102, Tryz.func102, by kernel_rfl, c102, by kernel_rfl⟩
theorem c103 : compFunc Tryz.prog pur fi103 Tryz.f103 = some a103 := by kernel_rfl
theorem ok103 : FnOk 103 a103 := ⟨Tryz.f103, fi103, Tryz.func103, by kernel_rfl, c103, by kernel_rfl⟩
theorem c104 : compFunc Tryz.prog pur fi104 Tryz.f104 = some a104 := by kernel_rfl
theorem ok104 : FnOk 104 a104 := ⟨Tryz.f104, fi104, Tryz.func104, by kernel_rfl, c104, by kernel_rfl⟩
theorem c105 : compFunc Tryz.prog pur fi105 Tryz.f105 = some a105 := by kernel_rfl
theorem ok105 : FnOk 105 a105 := ⟨Tryz.f105, fi105, Tryz.func105, by kernel_rfl, c105, by kernel_rfl⟩
theorem c106 : compFunc Tryz.prog pur fi106 Tryz.f106 = some a106 := by kernel_rfl
theorem ok106 : FnOk 106 a106 := ⟨Tryz.f106, fi106, Tryz.func106, by kernel_rfl, c106, by kernel_rfl⟩
theorem c107 : compFunc Tryz.prog pur fi107 Tryz.f107 = some a107 := by kernel_rfl
theorem ok107 : FnOk 107 a107 := ⟨Tryz.f107, fi107, Tryz.func107, by kernel_rfl, c107, by kernel_rfl⟩
theorem c108 : compFunc Tryz.prog pur fi108 Tryz.f108 = some a108 := by kernel_rfl
theorem ok108 : FnOk 108 a108 := ⟨Tryz.f108, fi108, Tryz.func108, by kernel_rfl, c108, by kernel_rfl⟩
theorem c109 : compFunc Tryz.prog pur fi109 Tryz.f109 = some a109 := by kernel_rfl
theorem ok109 : FnOk 109 a109 := ⟨Tryz.f109, fi109, Tryz.func109, by kernel_rfl, c109, by kernel_rfl⟩
theorem c110 : compFunc Tryz.prog pur fi110 Tryz.f110 = some a110 := by kernel_rfl
theorem ok110 : FnOk 110 a110 := ⟨Tryz.f110, fi110, Tryz.func110, by kernel_rfl, c110, by kernel_rfl⟩
theorem c111 : compFunc Tryz.prog pur fi111 Tryz.f111 = some a111 := by kernel_rfl
theorem ok111 : FnOk 111 a111 := ⟨Tryz.f111, fi111, Tryz.func111, by kernel_rfl, c111, by kernel_rfl⟩
theorem c112 : compFunc Tryz.prog pur fi112 Tryz.f112 = some a112 := by kernel_rfl
theorem ok112 : FnOk 112 a112 := ⟨Tryz.f112, fi112, Tryz.func112, by kernel_rfl, c112, by kernel_rfl⟩
theorem c113 : compFunc Tryz.prog pur fi113 Tryz.f113 = some a113 := by kernel_rfl
theorem ok113 : FnOk 113 a113 := ⟨Tryz.f113, fi113, Tryz.func113, by kernel_rfl, c113, by kernel_rfl⟩
theorem c114 : compFunc Tryz.prog pur fi114 Tryz.f114 = some a114 := by kernel_rfl
theorem ok114 : FnOk 114 a114 := ⟨Tryz.f114, fi114, Tryz.func114, by kernel_rfl, c114, by kernel_rfl⟩
theorem c115 : compFunc Tryz.prog pur fi115 Tryz.f115 = some a115 := by kernel_rfl
theorem ok115 : FnOk 115 a115 := ⟨Tryz.f115, fi115, Tryz.func115, by kernel_rfl, c115, by kernel_rfl⟩
theorem c116 : compFunc Tryz.prog pur fi116 Tryz.f116 = some a116 := by kernel_rfl
theorem ok116 : FnOk 116 a116 := ⟨Tryz.f116, fi116, Tryz.func116, by kernel_rfl, c116, by kernel_rfl⟩
theorem c117 : compFunc Tryz.prog pur fi117 Tryz.f117 = some a117 := by kernel_rfl
theorem ok117 : FnOk 117 a117 := ⟨Tryz.f117, fi117, Tryz.func117, by kernel_rfl, c117, by kernel_rfl⟩
theorem c118 : compFunc Tryz.prog pur fi118 Tryz.f118 = some a118 := by kernel_rfl
theorem ok118 : FnOk 118 a118 := ⟨Tryz.f118, fi118, Tryz.func118, by kernel_rfl, c118, by kernel_rfl⟩
theorem c119 : compFunc Tryz.prog pur fi119 Tryz.f119 = some a119 := by kernel_rfl
theorem ok119 : FnOk 119 a119 := ⟨Tryz.f119, fi119, Tryz.func119, by kernel_rfl, c119, by kernel_rfl⟩
theorem c120 : compFunc Tryz.prog pur fi120 Tryz.f120 = some a120 := by kernel_rfl
theorem ok120 : FnOk 120 a120 := ⟨Tryz.f120, fi120, Tryz.func120, by kernel_rfl, c120, by kernel_rfl⟩
theorem c121 : compFunc Tryz.prog pur fi121 Tryz.f121 = some a121 := by kernel_rfl
theorem ok121 : FnOk 121 a121 := ⟨Tryz.f121, fi121, Tryz.func121, by kernel_rfl, c121, by kernel_rfl⟩
theorem c122 : compFunc Tryz.prog pur fi122 Tryz.f122 = some a122 := by kernel_rfl
theorem ok122 : FnOk 122 a122 := ⟨Tryz.f122, fi122, Tryz.func122, by kernel_rfl, c122, by kernel_rfl⟩
theorem c123 : compFunc Tryz.prog pur fi123 Tryz.f123 = some a123 := by kernel_rfl
theorem ok123 : FnOk 123 a123 := ⟨Tryz.f123, fi123, Tryz.func123, by kernel_rfl, c123, by kernel_rfl⟩
theorem c124 : compFunc Tryz.prog pur fi124 Tryz.f124 = some a124 := by kernel_rfl
theorem ok124 : FnOk 124 a124 := ⟨Tryz.f124, fi124, Tryz.func124, by kernel_rfl, c124, by kernel_rfl⟩
theorem c125 : compFunc Tryz.prog pur fi125 Tryz.f125 = some a125 := by kernel_rfl
theorem ok125 : FnOk 125 a125 := ⟨Tryz.f125, fi125, Tryz.func125, by kernel_rfl, c125, by kernel_rfl⟩
theorem c126 : compFunc Tryz.prog pur fi126 Tryz.f126 = some a126 := by kernel_rfl
theorem ok126 : FnOk 126 a126 := ⟨Tryz.f126, fi126, Tryz.func126, by kernel_rfl, c126, by kernel_rfl⟩
theorem c127 : compFunc Tryz.prog pur fi127 Tryz.f127 = some a127 := by kernel_rfl
theorem ok127 : FnOk 127 a127 := ⟨Tryz.f127, fi127, Tryz.func127, by kernel_rfl, c127, by kernel_rfl⟩
theorem c128 : compFunc Tryz.prog pur fi128 Tryz.f128 = some a128 := by kernel_rfl
theorem ok128 : FnOk 128 a128 := ⟨Tryz.f128, fi128, Tryz.func128, by kernel_rfl, c128, by kernel_rfl⟩
theorem c129 : compFunc Tryz.prog pur fi129 Tryz.f129 = some a129 := by kernel_rfl
theorem ok129 : FnOk 129 a129 := ⟨Tryz.f129, fi129, Tryz.func129, by kernel_rfl, c129, by kernel_rfl⟩
theorem c130 : compFunc Tryz.prog pur fi130 Tryz.f130 = some a130 := by kernel_rfl
theorem ok130 : FnOk 130 a130 := ⟨Tryz.f130, fi130, Tryz.func130, by kernel_rfl, c130, by kernel_rfl⟩
theorem c131 : compFunc Tryz.prog pur fi131 Tryz.f131 = some a131 := by kernel_rfl
theorem ok131 : FnOk 131 a131 := ⟨Tryz.f131, fi131, Tryz.func131, by kernel_rfl, c131, by kernel_rfl⟩
theorem c132 : compFunc Tryz.prog pur fi132 Tryz.f132 = some a132 := by kernel_rfl
theorem ok132 : FnOk 132 a132 := ⟨Tryz.f132, fi132, Tryz.func132, by kernel_rfl, c132, by kernel_rfl⟩
theorem c133 : compFunc Tryz.prog pur fi133 Tryz.f133 = some a133 := by kernel_rfl
theorem ok133 : FnOk 133 a133 := ⟨Tryz.f133, fi133, Tryz.func133, by kernel_rfl, c133, by kernel_rfl⟩
theorem c134 : compFunc Tryz.prog pur fi134 Tryz.f134 = some a134 := by kernel_rfl
theorem ok134 : FnOk 134 a134 := ⟨Tryz.f134, fi134, Tryz.func134, by kernel_rfl, c134, by kernel_rfl⟩
theorem c135 : compFunc Tryz.prog pur fi135 Tryz.f135 = some a135 := by kernel_rfl
theorem ok135 : FnOk 135 a135 := ⟨Tryz.f135, fi135, Tryz.func135, by kernel_rfl, c135, by kernel_rfl⟩
theorem c136 : compFunc Tryz.prog pur fi136 Tryz.f136 = some a136 := by kernel_rfl
theorem ok136 : FnOk 136 a136 := ⟨Tryz.f136, fi136, Tryz.func136, by kernel_rfl, c136, by kernel_rfl⟩
theorem c138 : compFunc Tryz.prog pur fi138 Tryz.f138 = some a138 := by kernel_rfl
theorem ok138 : FnOk 138 a138 := ⟨Tryz.f138, fi138, Tryz.func138, by kernel_rfl, c138, by kernel_rfl⟩
theorem c140 : compFunc Tryz.prog pur fi140 Tryz.f140 = some a140 := by kernel_rfl
theorem ok140 : FnOk 140 a140 := ⟨Tryz.f140, fi140, Tryz.func140, by kernel_rfl, c140, by kernel_rfl⟩
theorem c141 : compFunc Tryz.prog pur fi141 Tryz.f141 = some a141 := by kernel_rfl
theorem ok141 : FnOk 141 a141 := ⟨Tryz.f141, fi141, Tryz.func141, by kernel_rfl, c141, by kernel_rfl⟩
theorem c142 : compFunc Tryz.prog pur fi142 Tryz.f142 = some a142 := by kernel_rfl
theorem ok142 : FnOk 142 a142 := ⟨Tryz.f142, fi142, Tryz.func142, by kernel_rfl, c142, by kernel_rfl⟩
theorem c143 : compFunc Tryz.prog pur fi143 Tryz.f143 = some a143 := by kernel_rfl
theorem ok143 : FnOk 143 a143 := ⟨Tryz.f143, fi143, Tryz.func143, by kernel_rfl, c143, by kernel_rfl⟩
theorem c144 : compFunc Tryz.prog pur fi144 Tryz.f144 = some a144 := by kernel_rfl
theorem ok144 : FnOk 144 a144 := ⟨Tryz.f144, fi144, Tryz.func144, by kernel_rfl, c144, by kernel_rfl⟩
theorem c145 : compFunc Tryz.prog pur fi145 Tryz.f145 = some a145 := by kernel_rfl
theorem ok145 : FnOk 145 a145 := ⟨Tryz.f145, fi145, Tryz.func145, by kernel_rfl, c145, by kernel_rfl⟩
theorem c146 : compFunc Tryz.prog pur fi146 Tryz.f146 = some a146 := by kernel_rfl
theorem ok146 : FnOk 146 a146 := ⟨Tryz.f146, fi146, Tryz.func146, by kernel_rfl, c146, by kernel_rfl⟩
theorem c147 : compFunc Tryz.prog pur fi147 Tryz.f147 = some a147 := by kernel_rfl
theorem ok147 : FnOk 147 a147 := ⟨Tryz.f147, fi147, Tryz.func147, by kernel_rfl, c147, by kernel_rfl⟩
theorem c148 : compFunc Tryz.prog pur fi148 Tryz.f148 = some a148 := by kernel_rfl
theorem ok148 : FnOk 148 a148 := ⟨Tryz.f148, fi148, Tryz.func148, by kernel_rfl, c148, by kernel_rfl⟩
theorem c149 : compFunc Tryz.prog pur fi149 Tryz.f149 = some a149 := by kernel_rfl
theorem ok149 : FnOk 149 a149 := ⟨Tryz.f149, fi149, Tryz.func149, by kernel_rfl, c149, by kernel_rfl⟩
theorem c150 : compFunc Tryz.prog pur fi150 Tryz.f150 = some a150 := by kernel_rfl
theorem ok150 : FnOk 150 a150 := ⟨Tryz.f150, fi150, Tryz.func150, by kernel_rfl, c150, by kernel_rfl⟩
theorem c151 : compFunc Tryz.prog pur fi151 Tryz.f151 = some a151 := by kernel_rfl
theorem ok151 : FnOk 151 a151 := ⟨Tryz.f151, fi151, Tryz.func151, by kernel_rfl, c151, by kernel_rfl⟩
theorem c152 : compFunc Tryz.prog pur fi152 Tryz.f152 = some a152 := by kernel_rfl
theorem ok152 : FnOk 152 a152 := ⟨Tryz.f152, fi152, Tryz.func152, by kernel_rfl, c152, by kernel_rfl⟩
theorem c153 : compFunc Tryz.prog pur fi153 Tryz.f153 = some a153 := by kernel_rfl
theorem ok153 : FnOk 153 a153 := ⟨Tryz.f153, fi153, Tryz.func153, by kernel_rfl, c153, by kernel_rfl⟩
theorem c154 : compFunc Tryz.prog pur fi154 Tryz.f154 = some a154 := by kernel_rfl
theorem ok154 : FnOk 154 a154 := ⟨Tryz.f154, fi154, Tryz.func154, by kernel_rfl, c154, by kernel_rfl⟩
theorem c155 : compFunc Tryz.prog pur fi155 Tryz.f155 = some a155 := by kernel_rfl
theorem ok155 : FnOk 155 a155 := ⟨Tryz.f155, fi155, Tryz.func155, by kernel_rfl, c155, by kernel_rfl⟩
theorem c156 : compFunc Tryz.prog pur fi156 Tryz.f156 = some a156 := by kernel_rfl
theorem ok156 : FnOk 156 a156 := ⟨Tryz.f156, fi156, Tryz.func156, by kernel_rfl, c156, by kernel_rfl⟩
theorem c157 : compFunc Tryz.prog pur fi157 Tryz.f157 = some a157 := by kernel_rfl
theorem ok157 : FnOk 157 a157 := ⟨Tryz.f157, fi157, Tryz.func157, by kernel_rfl, c157, by kernel_rfl⟩
theorem c158 : compFunc Tryz.prog pur fi158 Tryz.f158 = some a158 := by kernel_rfl
theorem ok158 : FnOk 158 a158 := ⟨Tryz.f158, fi158, Tryz.func158, by kernel_rfl, c158, by kernel_rfl⟩
theorem c159 : compFunc Tryz.prog pur fi159 Tryz.f159 = some a159 := by kernel_rfl
theorem ok159 : FnOk 159 a159 := ⟨Tryz.f159, fi159, Tryz.func159, by kernel_rfl, c159, by kernel_rfl⟩
theorem c164 : compFunc Tryz.prog pur fi164 Tryz.f164 = some a164 := by kernel_rfl
theorem ok164 : FnOk 164 a164 := ⟨Tryz.f164, fi164, Tryz.func164, by kernel_rfl, c164, by kernel_rfl⟩
theorem c165 : compFunc Tryz.prog pur fi165 Tryz.f165 = some a165 := by kernel_rfl
theorem ok165 : FnOk 165 a165 := ⟨Tryz.f165, fi165, Tryz.func165, by kernel_rfl, c165, by kernel_rfl⟩
theorem c166 : compFunc Tryz.prog pur fi166 Tryz.f166 = some a166 := by kernel_rfl
theorem ok166 : FnOk 166 a166 := ⟨Tryz.f166, fi166, Tryz.func166, by kernel_rfl, c166, by kernel_rfl⟩
end Go.Abs.Z

namespace Go.Abs.Z
open Go.Proofs
def tabL : List (FuncId × AFunc) := [(28, a28), (73, a73), (39, a39), (64, a64), (141, a141), (117, a117), (40, a40), (143, a143), (144, a144), (111, a111), (112, a112), (68, a68), (49, a49), (76, a76), (44, a44), (72, a72), (29, a29), (10, a10), (26, a26), (45, a45), (36, a36), (59, a59), (142, a142), (12, a12), (140, a140), (30, a30), (134, a134), (75, a75), (65, a65), (66, a66), (89, a89), (119, a119), (121, a121), (122, a122), (3, a3), (4, a4), (5, a5), (6, a6), (7, a7), (8, a8), (9, a9), (11, a11), (13, a13), (14, a14), (15, a15), (16, a16), (17, a17), (18, a18), (19, a19), (20, a20), (21, a21), (22, a22), (23, a23), (24, a24), (25, a25), (27, a27), (31, a31), (32, a32), (33, a33), (34, a34), (35, a35), (37, a37), (38, a38), (41, a41), (42, a42), (43, a43), (46, a46), (47, a47), (48, a48), (50, a50), (51, a51), (52, a52), (53, a53), (54, a54), (55, a55), (56, a56), (57, a57), (60, a60), (61, a61), (62, a62), (63, a63), (67, a67), (69, a69), (70, a70), (71, a71), (74, a74), (77, a77), (78, a78), (79, a79), (80, a80), (81, a81), (82, a82), (83, a83), (84, a84), (85, a85), (86, a86), (87, a87), (88, a88), (90, a90), (91, a91), (92, a92), (93, a93), (94, a94), (95, a95), (96, a96), (97, a97), (98, a98), (99, a99), (100, a100), (101, a101), (102, a102), (103, a103), (104, a104), (105, a105), (106, a106), (107, a107), (108, a108), (109, a109), (110, a110), (113, a113), (114, a114), (115, a115), (116, a116), (118, a118), (120, a120), (123, a123), (124, a124), (125, a125), (126, a126), (127, a127), (128, a128), (129, a129), (130, a130), (131, a131), (132, a132), (133, a133), (135, a135), (136, a136), (138, a138), (145, a145), (146, a146), (147, a147), (148, a148), (149, a149), (150, a150), (151, a151), (152, a152), (153, a153), (154, a154), (155, a155), (156, a156), (157, a157), (158, a158), (159, a159), (164, a164), (165, a165), (166, a166)]
noncomputable def lookK (l : List (FuncId × AFunc)) (f : FuncId) : Option AFunc := List.rec (motive := fun _ => Option AFunc) none (fun p _ ih => cond (Nat.beq p.1 f) (some p.2) ih) l
noncomputable def tab (f : FuncId) : Option AFunc := lookK tabL f
theorem lookK_ok : ∀ (l : List (FuncId × AFunc)), (∀ x ∈ l, FnOk x.1 x.2) → ∀ f af, lookK l f = some af → FnOk f af
  | [], _, f, af, h => by cases h
  | p :: l, hl, f, af, h => by
    have h' : cond (Nat.beq p.1 f) (some p.2) (lookK l f) = some af := h
    cases hb : Nat.beq p.1 f with
    | true =>
      rw [hb] at h'
      cases h'
      have : p.1 = f := Nat.eq_of_beq_eq_true hb
      rw [← this]; exact hl p (List.mem_cons_self ..)
    | false => rw [hb] at h'; exact lookK_ok l (fun x hx => hl x (List.mem_cons_of_mem _ hx)) f af h'
theorem all_cons {p : FuncId × AFunc} {l : List (FuncId × AFunc)} (h : FnOk p.1 p.2) (hl : ∀ x ∈ l, FnOk x.1 x.2) : ∀ x ∈ p :: l, FnOk x.1 x.2 := by
  intro x hx
  rcases List.mem_cons.1 hx with rfl | hx
  · exact h
  · exact hl x hx
theorem all_nil : ∀ x ∈ ([] : List (FuncId × AFunc)), FnOk x.1 x.2 := fun x hx => by cases hx
set_option maxRecDepth 10000 in
theorem tabL_ok : ∀ x ∈ tabL, FnOk x.1 x.2 :=
  all_cons ok28 <| all_cons ok73 <| all_cons ok39 <| all_cons ok64 <| all_cons ok141 <| all_cons ok117 <| all_cons ok40 <| all_cons ok143 <| all_cons ok144 <| all_cons ok111 <| all_cons ok112 <| all_cons ok68 <| all_cons ok49 <| all_cons ok76 <| all_cons ok44 <| all_cons ok72 <| all_cons ok29 <| all_cons ok10 <| all_cons ok26 <| all_cons ok45 <| all_cons ok36 <| all_cons ok59 <| all_cons ok142 <| all_cons ok12 <| all_cons ok140 <| all_cons ok30 <| all_cons ok134 <| all_cons ok75 <| all_cons ok65 <| all_cons ok66 <| all_cons ok89 <| all_cons ok119 <| all_cons ok121 <| all_cons ok122 <| all_cons ok3 <| all_cons ok4 <| all_cons ok5 <| all_cons ok6 <| all_cons ok7 <| all_cons ok8 <| all_cons ok9 <| all_cons ok11 <| all_cons ok13 <| all_cons ok14 <| all_cons ok15 <| all_cons ok16 <| all_cons ok17 <| all_cons ok18 <| all_cons ok19 <| all_cons ok20 <| all_cons ok21 <| all_cons ok22 <| all_cons ok23 <| all_cons ok24 <| all_cons ok25 <| all_cons ok27 <| all_cons ok31 <| all_cons ok32 <| all_cons ok33 <| all_cons ok34 <| all_cons ok35 <| all_cons ok37 <| all_cons ok38 <| all_cons ok41 <| all_cons ok42 <| all_cons ok43 <| all_cons ok46 <| all_cons ok47 <| all_cons ok48 <| all_cons ok50 <| all_cons ok51 <| all_cons ok52 <| all_cons ok53 <| all_cons ok54 <| all_cons ok55 <| all_cons ok56 <| all_cons ok57 <| all_cons ok60 <| all_cons ok61 <| all_cons ok62 <| all_cons ok63 <| all_cons ok67 <| all_cons ok69 <| all_cons ok70 <| all_cons ok71 <| all_cons ok74 <| all_cons ok77 <| all_cons ok78 <| all_cons ok79 <| all_cons ok80 <| all_cons ok81 <| all_cons ok82 <| all_cons ok83 <| all_cons ok84 <| all_cons ok85 <| all_cons ok86 <| all_cons ok87 <| all_cons ok88 <| all_cons ok90 <| all_cons ok91 <| all_cons ok92 <| all_cons ok93 <| all_cons ok94 <| all_cons ok95 <| all_cons ok96 <| all_cons ok97 <| all_cons ok98 <| all_cons ok99 <| all_cons ok100 <| all_cons ok101 <| all_cons ok102 <| all_cons ok103 <| all_cons ok104 <| all_cons ok105 <| all_cons ok106 <| all_cons ok107 <| all_cons ok108 <| all_cons ok109 <| all_cons ok110 <| all_cons ok113 <| all_cons ok114 <| all_cons ok115 <| all_cons ok116 <| all_cons ok118 <| all_cons ok120 <| all_cons ok123 <| all_cons ok124 <| all_cons ok125 <| all_cons ok126 <| all_cons ok127 <| all_cons ok128 <| all_cons ok129 <| all_cons ok130 <| all_cons ok131 <| all_cons ok132 <| all_cons ok133 <| all_cons ok135 <| all_cons ok136 <| all_cons ok138 <| all_cons ok145 <| all_cons ok146 <| all_cons ok147 <| all_cons ok148 <| all_cons ok149 <| all_cons ok150 <| all_cons ok151 <| all_cons ok152 <| all_cons ok153 <| all_cons ok154 <| all_cons ok155 <| all_cons ok156 <| all_cons ok157 <| all_cons ok158 <| all_cons ok159 <| all_cons ok164 <| all_cons ok165 <| all_cons ok166 <| all_nil
theorem tabOk : TabOk Tryz.prog pur tab := fun f af h => lookK_ok tabL tabL_ok f af h
theorem mixed : Tryz.prog.follows .mixedOrders = true := by kernel_rfl
end Go.Abs.Z
