/- A part of the proof: T3 T4 T5. -/
import Derived.Test.YtaedbcepkgdboaaGreatDoorTa
import Derived.Test.YtaedbcepkgdboaaGreatDoorTb
import Derived.Test.YtaedbcepkgdboaaGreatDoorProg
import Derived.KernelRfl
import Derived.Test.YtaedbcepkgdboaaGreatDoorTc

set_option linter.unusedVariables false
set_option linter.unusedSimpArgs false
namespace Go.Abs.Z
open Go.Proofs
theorem c3 : compFunc Tryz.prog pur fi3 Tryz.f3 = some a3 := by kernel_rfl
theorem ok3 : FnOk 3 a3 := ⟨Tryz.f3, fi3, Tryz.func3, by kernel_rfl, c3, by kernel_rfl⟩
theorem c4 : compFunc Tryz.prog pur fi4 Tryz.f4 = some a4 := by kernel_rfl
theorem ok4 : FnOk 4 a4 := ⟨Tryz.f4, fi4, Tryz.func4, by kernel_rfl, c4, by kernel_rfl⟩
theorem c5 : compFunc Tryz.prog pur fi5 Tryz.f5 = some a5 := by kernel_rfl
theorem ok5 : FnOk 5 a5 := ⟨Tryz.f5, fi5, Tryz.func5, by kernel_rfl, c5, by kernel_rfl⟩
theorem c6 : compFunc Tryz.prog pur fi6 Tryz.f6 = some a6 := by kernel_rfl
theorem ok6 : FnOk 6 a6 := ⟨Tryz.f6, fi6, Tryz.func6, by kernel_rfl, c6, by kernel_rfl⟩
theorem c7 : compFunc Tryz.prog pur fi7 Tryz.f7 = some a7 := by kernel_rfl
theorem ok7 : FnOk 7 a7 := ⟨Tryz.f7, fi7, Tryz.func7, by kernel_rfl, c7, by kernel_rfl⟩
theorem c8 : compFunc Tryz.prog pur fi8 Tryz.f8 = some a8 := by kernel_rfl
theorem ok8 : FnOk 8 a8 := ⟨Tryz.f8, fi8, Tryz.func8, by kernel_rfl, c8, by kernel_rfl⟩
theorem c9 : compFunc Tryz.prog pur fi9 Tryz.f9 = some a9 := by kernel_rfl
theorem ok9 : FnOk 9 a9 := ⟨Tryz.f9, fi9, Tryz.func9, by kernel_rfl, c9, by kernel_rfl⟩
theorem c10 : compFunc Tryz.prog pur fi10 Tryz.f10 = some a10 := by kernel_rfl
theorem ok10 : FnOk 10 a10 := ⟨Tryz.f10, fi10, Tryz.func10, by kernel_rfl, c10, by kernel_rfl⟩
theorem c11 : compFunc Tryz.prog pur fi11 Tryz.f11 = some a11 := by kernel_rfl
theorem ok11 : FnOk 11 a11 := ⟨Tryz.f11, fi11, Tryz.func11, by kernel_rfl, c11, by kernel_rfl⟩
theorem c12 : compFunc Tryz.prog pur fi12 Tryz.f12 = some a12 := by kernel_rfl
theorem ok12 : FnOk 12 a12 := ⟨Tryz.f12, fi12, Tryz.func12, by kernel_rfl, c12, by kernel_rfl⟩
theorem c13 : compFunc Tryz.prog pur fi13 Tryz.f13 = some a13 := by kernel_rfl
theorem ok13 : FnOk 13 a13 := ⟨Tryz.f13, fi13, Tryz.func13, by kernel_rfl, c13, by kernel_rfl⟩
theorem c14 : compFunc Tryz.prog pur fi14 Tryz.f14 = some a14 := by kernel_rfl
theorem ok14 : FnOk 14 a14 := ⟨Tryz.f14, fi14, Tryz.func14, by kernel_rfl, c14, by kernel_rfl⟩
theorem c15 : compFunc Tryz.prog pur fi15 Tryz.f15 = some a15 := by kernel_rfl
theorem ok15 : FnOk 15 a15 := ⟨Tryz.f15, fi15, Tryz.func15, by kernel_rfl, c15, by kernel_rfl⟩
theorem c16 : compFunc Tryz.prog pur fi16 Tryz.f16 = some a16 := by kernel_rfl
theorem ok16 : FnOk 16 a16 := ⟨Tryz.f16, fi16, Tryz.func16, by kernel_rfl, c16, by kernel_rfl⟩
theorem c17 : compFunc Tryz.prog pur fi17 Tryz.f17 = some a17 := by kernel_rfl
theorem ok17 : FnOk 17 a17 := ⟨Tryz.f17, fi17, Tryz.func17, by kernel_rfl, c17, by kernel_rfl⟩
theorem c18 : compFunc Tryz.prog pur fi18 Tryz.f18 = some a18 := by kernel_rfl
theorem ok18 : FnOk 18 a18 := ⟨Tryz.f18, fi18, Tryz.func18, by kernel_rfl, c18, by kernel_rfl⟩
theorem c19 : compFunc Tryz.prog pur fi19 Tryz.f19 = some a19 := by kernel_rfl
theorem ok19 : FnOk 19 a19 := ⟨Tryz.f19, fi19, Tryz.func19, by kernel_rfl, c19, by kernel_rfl⟩
theorem c20 : compFunc Tryz.prog pur fi20 Tryz.f20 = some a20 := by kernel_rfl
theorem ok20 : FnOk 20 a20 := ⟨Tryz.f20, fi20, Tryz.func20, by kernel_rfl, c20, by kernel_rfl⟩
theorem c21 : compFunc Tryz.prog pur fi21 Tryz.f21 = some a21 := by kernel_rfl
theorem ok21 : FnOk 21 a21 := ⟨Tryz.f21, fi21, Tryz.func21, by kernel_rfl, c21, by kernel_rfl⟩
theorem c22 : compFunc Tryz.prog pur fi22 Tryz.f22 = some a22 := by kernel_rfl
theorem ok22 : FnOk 22 a22 := ⟨Tryz.f22, fi22, Tryz.func22, by kernel_rfl, c22, by kernel_rfl⟩
theorem c23 : compFunc Tryz.prog pur fi23 Tryz.f23 = some a23 := by kernel_rfl
theorem ok23 : FnOk 23 a23 := ⟨Tryz.f23, fi23, Tryz.func23, by kernel_rfl, c23, by kernel_rfl⟩
theorem c24 : compFunc Tryz.prog pur fi24 Tryz.f24 = some a24 := by kernel_rfl
theorem ok24 : FnOk 24 a24 := ⟨Tryz.f24, fi24, Tryz.func24, by kernel_rfl, c24, by kernel_rfl⟩
theorem c25 : compFunc Tryz.prog pur fi25 Tryz.f25 = some a25 := by kernel_rfl
theorem ok25 : FnOk 25 a25 := ⟨Tryz.f25, fi25, Tryz.func25, by kernel_rfl, c25, by kernel_rfl⟩
theorem c27 : compFunc Tryz.prog pur fi27 Tryz.f27 = some a27 := by kernel_rfl
theorem ok27 : FnOk 27 a27 := ⟨Tryz.f27, fi27, Tryz.func27, by kernel_rfl, c27, by kernel_rfl⟩
theorem c29 : compFunc Tryz.prog pur fi29 Tryz.f29 = some a29 := by kernel_rfl
theorem ok29 : FnOk 29 a29 := ⟨Tryz.f29, fi29, Tryz.func29, by kernel_rfl, c29, by kernel_rfl⟩
theorem c30 : compFunc Tryz.prog pur fi30 Tryz.f30 = some a30 := by kernel_rfl
theorem ok30 : FnOk 30 a30 := ⟨Tryz.f30, fi30, Tryz.func30, by kernel_rfl, c30, by kernel_rfl⟩
theorem c31 : compFunc Tryz.prog pur fi31 Tryz.f31 = some a31 := by kernel_rfl
theorem ok31 : FnOk 31 a31 := ⟨Tryz.f31, fi31, Tryz.func31, by kernel_rfl, c31, by kernel_rfl⟩
theorem c32 : compFunc Tryz.prog pur fi32 Tryz.f32 = some a32 := by kernel_rfl
theorem ok32 : FnOk 32 a32 := ⟨Tryz.f32, fi32, Tryz.func32, by kernel_rfl, c32, by kernel_rfl⟩
theorem c33 : compFunc Tryz.prog pur fi33 Tryz.f33 = some a33 := by kernel_rfl
theorem ok33 : FnOk 33 a33 := ⟨Tryz.f33, fi33, Tryz.func33, by kernel_rfl, c33, by kernel_rfl⟩
theorem c34 : compFunc Tryz.prog pur fi34 Tryz.f34 = some a34 := by kernel_rfl
theorem ok34 : FnOk 34 a34 := ⟨Tryz.f34, fi34, Tryz.func34, by kernel_rfl, c34, by kernel_rfl⟩
theorem c35 : compFunc Tryz.prog pur fi35 Tryz.f35 = some a35 := by kernel_rfl
theorem ok35 : FnOk 35 a35 := ⟨Tryz.f35, fi35, Tryz.func35, by kernel_rfl, c35, by kernel_rfl⟩
theorem c36 : compFunc Tryz.prog pur fi36 Tryz.f36 = some a36 := by kernel_rfl
theorem ok36 : FnOk 36 a36 := ⟨Tryz.f36, fi36, Tryz.func36, by kernel_rfl, c36, by kernel_rfl⟩
theorem c38 : compFunc Tryz.prog pur fi38 Tryz.f38 = some a38 := by kernel_rfl
theorem ok38 : FnOk 38 a38 := ⟨Tryz.f38, fi38, Tryz.func38, by kernel_rfl, c38, by kernel_rfl⟩
theorem c39 : compFunc Tryz.prog pur fi39 Tryz.f39 = some a39 := by kernel_rfl
theorem ok39 : FnOk 39 a39 := ⟨Tryz.f39, fi39, Tryz.func39, by kernel_rfl, c39, by kernel_rfl⟩
theorem c40 : compFunc Tryz.prog pur fi40 Tryz.f40 = some a40 := by kernel_rfl
theorem ok40 : FnOk 40 a40 := ⟨Tryz.f40, fi40, Tryz.func40, by kernel_rfl, c40, by kernel_rfl⟩
theorem c41 : compFunc Tryz.prog pur fi41 Tryz.f41 = some a41 := by kernel_rfl
theorem ok41 : FnOk 41 a41 := ⟨Tryz.f41, fi41, Tryz.func41, by kernel_rfl, c41, by kernel_rfl⟩
theorem c42 : compFunc Tryz.prog pur fi42 Tryz.f42 = some a42 := by kernel_rfl
theorem ok42 : FnOk 42 a42 := ⟨Tryz.f42, fi42, Tryz.func42, by kernel_rfl, c42, by kernel_rfl⟩
theorem c43 : compFunc Tryz.prog pur fi43 Tryz.f43 = some a43 := by kernel_rfl
theorem ok43 : FnOk 43 a43 := ⟨Tryz.f43, fi43, Tryz.func43, by kernel_rfl, c43, by kernel_rfl⟩
theorem c44 : compFunc Tryz.prog pur fi44 Tryz.f44 = some a44 := by kernel_rfl
theorem ok44 : FnOk 44 a44 := ⟨Tryz.f44, fi44, Tryz.func44, by kernel_rfl, c44, by kernel_rfl⟩
theorem c45 : compFunc Tryz.prog pur fi45 Tryz.f45 = some a45 := by kernel_rfl
theorem ok45 : FnOk 45 a45 := ⟨Tryz.f45, fi45, Tryz.func45, by kernel_rfl, c45, by kernel_rfl⟩
theorem c46 : compFunc Tryz.prog pur fi46 Tryz.f46 = some a46 := by kernel_rfl
theorem ok46 : FnOk 46 a46 := ⟨Tryz.f46, fi46, Tryz.func46, by kernel_rfl, c46, by kernel_rfl⟩
theorem c49 : compFunc Tryz.prog pur fi49 Tryz.f49 = some a49 := by kernel_rfl
theorem ok49 : FnOk 49 a49 := ⟨Tryz.f49, fi49, Tryz.func49, by kernel_rfl, c49, by kernel_rfl⟩
theorem c50 : compFunc Tryz.prog pur fi50 Tryz.f50 = some a50 := by kernel_rfl
theorem ok50 : FnOk 50 a50 := ⟨Tryz.f50, fi50, Tryz.func50, by kernel_rfl, c50, by kernel_rfl⟩
theorem c51 : compFunc Tryz.prog pur fi51 Tryz.f51 = some a51 := by kernel_rfl
theorem ok51 : FnOk 51 a51 := ⟨Tryz.f51, fi51, Tryz.func51, by kernel_rfl, c51, by kernel_rfl⟩
theorem c52 : compFunc Tryz.prog pur fi52 Tryz.f52 = some a52 := by kernel_rfl
theorem ok52 : FnOk 52 a52 := ⟨Tryz.f52, fi52, Tryz.func52, by kernel_rfl, c52, by kernel_rfl⟩
theorem c54 : compFunc Tryz.prog pur fi54 Tryz.f54 = some a54 := by kernel_rfl
theorem ok54 : FnOk 54 a54 := ⟨Tryz.f54, fi54, Tryz.func54, by kernel_rfl, c54, by kernel_rfl⟩
theorem c55 : compFunc Tryz.prog pur fi55 Tryz.f55 = some a55 := by kernel_rfl
theorem ok55 : FnOk 55 a55 := ⟨Tryz.f55, fi55, Tryz.func55, by kernel_rfl, c55, by kernel_rfl⟩
theorem c56 : compFunc Tryz.prog pur fi56 Tryz.f56 = some a56 := by kernel_rfl
theorem ok56 : FnOk 56 a56 := ⟨Tryz.f56, fi56, Tryz.func56, by kernel_rfl, c56, by kernel_rfl⟩
theorem c57 : compFunc Tryz.prog pur fi57 Tryz.f57 = some a57 := by kernel_rfl
theorem ok57 : FnOk 57 a57 := ⟨Tryz.f57, fi57, Tryz.func57, by kernel_rfl, c57, by kernel_rfl⟩
theorem c58 : compFunc Tryz.prog pur fi58 Tryz.f58 = some a58 := by kernel_rfl
theorem ok58 : FnOk 58 a58 := ⟨Tryz.f58, fi58, Tryz.func58, by kernel_rfl, c58, by kernel_rfl⟩
theorem c59 : compFunc Tryz.prog pur fi59 Tryz.f59 = some a59 := by kernel_rfl
theorem ok59 : FnOk 59 a59 := ⟨Tryz.f59, fi59, Tryz.func59, by kernel_rfl, c59, by kernel_rfl⟩
theorem c60 : compFunc Tryz.prog pur fi60 Tryz.f60 = some a60 := by kernel_rfl
theorem ok60 : FnOk 60 a60 := ⟨Tryz.f60, fi60, Tryz.func60, by kernel_rfl, c60, by kernel_rfl⟩
theorem c61 : compFunc Tryz.prog pur fi61 Tryz.f61 = some a61 := by kernel_rfl
theorem ok61 : FnOk 61 a61 := ⟨Tryz.f61, fi61, Tryz.func61, by kernel_rfl, c61, by kernel_rfl⟩
theorem c62 : compFunc Tryz.prog pur fi62 Tryz.f62 = some a62 := by kernel_rfl
theorem ok62 : FnOk 62 a62 := ⟨Tryz.f62, fi62, Tryz.func62, by kernel_rfl, c62, by kernel_rfl⟩
theorem c63 : compFunc Tryz.prog pur fi63 Tryz.f63 = some a63 := by kernel_rfl
theorem ok63 : FnOk 63 a63 := ⟨Tryz.f63, fi63, Tryz.func63, by kernel_rfl, c63, by kernel_rfl⟩
theorem c64 : compFunc Tryz.prog pur fi64 Tryz.f64 = some a64 := by kernel_rfl
theorem ok64 : FnOk 64 a64 := ⟨Tryz.f64, fi64, Tryz.func64, by kernel_rfl, c64, by kernel_rfl⟩
theorem c65 : compFunc Tryz.prog pur fi65 Tryz.f65 = some a65 := by kernel_rfl
theorem ok65 : FnOk 65 a65 := ⟨Tryz.f65, fi65, Tryz.func65, by kernel_rfl, c65, by kernel_rfl⟩
theorem c66 : compFunc Tryz.prog pur fi66 Tryz.f66 = some a66 := by kernel_rfl
theorem ok66 : FnOk 66 a66 := ⟨Tryz.f66, fi66, Tryz.func66, by kernel_rfl, c66, by kernel_rfl⟩
theorem c68 : compFunc Tryz.prog pur fi68 Tryz.f68 = some a68 := by kernel_rfl
theorem ok68 : FnOk 68 a68 := ⟨Tryz.f68, fi68, Tryz.func68, by kernel_rfl, c68, by kernel_rfl⟩
theorem c69 : compFunc Tryz.prog pur fi69 Tryz.f69 = some a69 := by kernel_rfl
theorem ok69 : FnOk 69 a69 := ⟨Tryz.f69, fi69, Tryz.func69, by kernel_rfl, c69, by kernel_rfl⟩
theorem c70 : compFunc Tryz.prog pur fi70 Tryz.f70 = some a70 := by kernel_rfl
theorem ok70 : FnOk 70 a70 := ⟨Tryz.f70, fi70, Tryz.func70, by kernel_rfl, c70, by kernel_rfl⟩
theorem c72 : compFunc Tryz.prog pur fi72 Tryz.f72 = some a72 := by kernel_rfl
theorem ok72 : FnOk 72 a72 := ⟨Tryz.f72, fi72, Tryz.func72, by kernel_rfl, c72, by kernel_rfl⟩
theorem c75 : compFunc Tryz.prog pur fi75 Tryz.f75 = some a75 := by kernel_rfl
theorem ok75 : FnOk 75 a75 := ⟨Tryz.f75, fi75, Tryz.func75, by kernel_rfl, c75, by kernel_rfl⟩
theorem c77 : compFunc Tryz.prog pur fi77 Tryz.f77 = some a77 := by kernel_rfl
theorem ok77 : FnOk 77 a77 := ⟨Tryz.f77, fi77, Tryz.func77, by kernel_rfl, c77, by kernel_rfl⟩
theorem c78 : compFunc Tryz.prog pur fi78 Tryz.f78 = some a78 := by kernel_rfl
theorem ok78 : FnOk 78 a78 := ⟨Tryz.f78, fi78, Tryz.func78, by kernel_rfl, c78, by kernel_rfl⟩
theorem c79 : compFunc Tryz.prog pur fi79 Tryz.f79 = some a79 := by kernel_rfl
theorem ok79 : FnOk 79 a79 := ⟨Tryz.f79, fi79, Tryz.func79, by kernel_rfl, c79, by kernel_rfl⟩
theorem c80 : compFunc Tryz.prog pur fi80 Tryz.f80 = some a80 := by kernel_rfl
theorem ok80 : FnOk 80 a80 := ⟨Tryz.f80, fi80, Tryz.func80, by kernel_rfl, c80, by kernel_rfl⟩
theorem c81 : compFunc Tryz.prog pur fi81 Tryz.f81 = some a81 := by kernel_rfl
theorem ok81 : FnOk 81 a81 := ⟨Tryz.f81, fi81, Tryz.func81, by kernel_rfl, c81, by kernel_rfl⟩
theorem c86 : compFunc Tryz.prog pur fi86 Tryz.f86 = some a86 := by kernel_rfl
theorem ok86 : FnOk 86 a86 := ⟨Tryz.f86, fi86, Tryz.func86, by kernel_rfl, c86, by kernel_rfl⟩
theorem c87 : compFunc Tryz.prog pur fi87 Tryz.f87 = some a87 := by kernel_rfl
theorem ok87 : FnOk 87 a87 := ⟨Tryz.f87, fi87, Tryz.func87, by kernel_rfl, c87, by kernel_rfl⟩
theorem c88 : compFunc Tryz.prog pur fi88 Tryz.f88 = some a88 := by kernel_rfl
theorem ok88 : FnOk 88 a88 := ⟨Tryz.f88, fi88, Tryz.func88, by kernel_rfl, c88, by kernel_rfl⟩
theorem c89 : compFunc Tryz.prog pur fi89 Tryz.f89 = some a89 := by kernel_rfl
theorem ok89 : FnOk 89 a89 := ⟨Tryz.f89, fi89, Tryz.func89, by kernel_rfl, c89, by kernel_rfl⟩
theorem c90 : compFunc Tryz.prog pur fi90 Tryz.f90 = some a90 := by kernel_rfl
theorem ok90 : FnOk 90 a90 := ⟨Tryz.f90, fi90, Tryz.func90, by kernel_rfl, c90, by kernel_rfl⟩
theorem c92 : compFunc Tryz.prog pur fi92 Tryz.f92 = some a92 := by kernel_rfl
theorem ok92 : FnOk 92 a92 := ⟨Tryz.f92, fi92, Tryz.func92, by kernel_rfl, c92, by kernel_rfl⟩
theorem c93 : compFunc Tryz.prog pur fi93 Tryz.f93 = some a93 := by kernel_rfl
theorem ok93 : FnOk 93 a93 := ⟨Tryz.f93, fi93, Tryz.func93, by kernel_rfl, c93, by kernel_rfl⟩
theorem c94 : compFunc Tryz.prog pur fi94 Tryz.f94 = some a94 := by kernel_rfl
theorem ok94 : FnOk 94 a94 := ⟨Tryz.f94, fi94, Tryz.func94, by kernel_rfl, c94, by kernel_rfl⟩
theorem c95 : compFunc Tryz.prog pur fi95 Tryz.f95 = some a95 := by kernel_rfl
theorem ok95 : FnOk 95 a95 := ⟨Tryz.f95, fi95, Tryz.func95, by kernel_rfl, c95, by kernel_rfl⟩
theorem c96 : compFunc Tryz.prog pur fi96 Tryz.f96 = some a96 := by kernel_rfl
theorem ok96 : FnOk 96 a96 := ⟨Tryz.f96, fi96, Tryz.func96, by kernel_rfl, c96, by kernel_rfl⟩
theorem c97 : compFunc Tryz.prog pur fi97 Tryz.f97 = some a97 := by kernel_rfl
theorem ok97 : FnOk 97 a97 := ⟨Tryz.f97, fi97, Tryz.func97, by kernel_rfl, c97, by kernel_rfl⟩
theorem c98 : compFunc Tryz.prog pur fi98 Tryz.f98 = some a98 := by kernel_rfl
theorem ok98 : FnOk 98 a98 := ⟨Tryz.f98, fi98, Tryz.func98, by kernel_rfl, c98, by kernel_rfl⟩
end Go.Abs.Z

namespace Go.Abs.Z
open Go.Proofs
theorem c99 : compFunc Tryz.prog pur fi99 Tryz.f99 = some a99 := by kernel_rfl
theorem ok99 : FnOk 99 a99 := ⟨Tryz.f99, fi99, Tryz.func99, by kernel_rfl, c99, by kernel_rfl⟩
theorem c100 : compFunc Tryz.prog pur fi100 Tryz.f100 = some a100 := by kernel_rfl
theorem ok100 : FnOk 100 a100 := ⟨Tryz.f100, fi100, Tryz.func100, by kernel_rfl, c100, by kernel_rfl⟩
theorem c101 : compFunc Tryz.prog pur fi101 Tryz.f101 = some a101 := by kernel_rfl
theorem ok101 : FnOk 101 a101 := ⟨Tryz.f101, fi101, Tryz.func101, by kernel_rfl, c101, by kernel_rfl⟩
theorem c102 : compFunc Tryz.prog pur fi102 Tryz.f102 = some a102 := by kernel_rfl
theorem ok102 : FnOk 102 a102 := ⟨Tryz.f102, fi102, Tryz.func102, by kernel_rfl, c102, by kernel_rfl⟩
theorem c103 : compFunc Tryz.prog pur fi103 Tryz.f103 = some a103 := by kernel_rfl
theorem ok103 : FnOk 103 a103 := ⟨Tryz.f103, fi103, Tryz.func103, by kernel_rfl, c103, by kernel_rfl⟩
theorem c105 : compFunc Tryz.prog pur fi105 Tryz.f105 = some a105 := by kernel_rfl
theorem ok105 : FnOk 105 a105 := ⟨Tryz.f105, fi105, Tryz.func105, by kernel_rfl, c105, by kernel_rfl⟩
theorem c109 : compFunc Tryz.prog pur fi109 Tryz.f109 = some a109 := by kernel_rfl
theorem ok109 : FnOk 109 a109 := ⟨Tryz.f109, fi109, Tryz.func109, by kernel_rfl, c109, by kernel_rfl⟩
theorem c110 : compFunc Tryz.prog pur fi110 Tryz.f110 = some a110 := by kernel_rfl
theorem ok110 : FnOk 110 a110 := ⟨Tryz.f110, fi110, Tryz.func110, by kernel_rfl, c110, by kernel_rfl⟩
theorem c112 : compFunc Tryz.prog pur fi112 Tryz.f112 = some a112 := by kernel_rfl
theorem ok112 : FnOk 112 a112 := ⟨Tryz.f112, fi112, Tryz.func112, by kernel_rfl, c112, by kernel_rfl⟩
theorem c113 : compFunc Tryz.prog pur fi113 Tryz.f113 = some a113 := by kernel_rfl
theorem ok113 : FnOk 113 a113 := ⟨Tryz.f113, fi113, Tryz.func113, by kernel_rfl, c113, by kernel_rfl⟩
theorem c115 : compFunc Tryz.prog pur fi115 Tryz.f115 = some a115 := by kernel_rfl
theorem ok115 : FnOk 115 a115 := ⟨Tryz.f115, fi115, Tryz.func115, by kernel_rfl, c115, by kernel_rfl⟩
theorem c118 : compFunc Tryz.prog pur fi118 Tryz.f118 = some a118 := by kernel_rfl
theorem ok118 : FnOk 118 a118 := ⟨Tryz.f118, fi118, Tryz.func118, by kernel_rfl, c118, by kernel_rfl⟩
theorem c119 : compFunc Tryz.prog pur fi119 Tryz.f119 = some a119 := by kernel_rfl
theorem ok119 : FnOk 119 a119 := ⟨Tryz.f119, fi119, Tryz.func119, by kernel_rfl, c119, by kernel_rfl⟩
theorem c121 : compFunc Tryz.prog pur fi121 Tryz.f121 = some a121 := by kernel_rfl
theorem ok121 : FnOk 121 a121 := ⟨Tryz.f121, fi121, Tryz.func121, by kernel_rfl, c121, by kernel_rfl⟩
theorem c138 : compFunc Tryz.prog pur fi138 Tryz.f138 = some a138 := by kernel_rfl
theorem ok138 : FnOk 138 a138 := ⟨Tryz.f138, fi138, Tryz.func138, by kernel_rfl, c138, by kernel_rfl⟩
theorem c140 : compFunc Tryz.prog pur fi140 Tryz.f140 = some a140 := by kernel_rfl
theorem ok140 : FnOk 140 a140 := ⟨Tryz.f140, fi140, Tryz.func140, by kernel_rfl, c140, by kernel_rfl⟩
theorem c143 : compFunc Tryz.prog pur fi143 Tryz.f143 = some a143 := by kernel_rfl
theorem ok143 : FnOk 143 a143 := ⟨Tryz.f143, fi143, Tryz.func143, by kernel_rfl, c143, by kernel_rfl⟩
theorem c144 : compFunc Tryz.prog pur fi144 Tryz.f144 = some a144 := by kernel_rfl
theorem ok144 : FnOk 144 a144 := ⟨Tryz.f144, fi144, Tryz.func144, by kernel_rfl, c144, by kernel_rfl⟩
theorem c146 : compFunc Tryz.prog pur fi146 Tryz.f146 = some a146 := by kernel_rfl
theorem ok146 : FnOk 146 a146 := ⟨Tryz.f146, fi146, Tryz.func146, by kernel_rfl, c146, by kernel_rfl⟩
theorem c147 : compFunc Tryz.prog pur fi147 Tryz.f147 = some a147 := by kernel_rfl
theorem ok147 : FnOk 147 a147 := ⟨Tryz.f147, fi147, Tryz.func147, by kernel_rfl, c147, by kernel_rfl⟩
theorem c148 : compFunc Tryz.prog pur fi148 Tryz.f148 = some a148 := by kernel_rfl
theorem ok148 : FnOk 148 a148 := ⟨Tryz.f148, fi148, Tryz.func148, by kernel_rfl, c148, by kernel_rfl⟩
theorem c149 : compFunc Tryz.prog pur fi149 Tryz.f149 = some a149 := by kernel_rfl
theorem ok149 : FnOk 149 a149 := ⟨Tryz.f149, fi149, Tryz.func149, by kernel_rfl, c149, by kernel_rfl⟩
theorem c151 : compFunc Tryz.prog pur fi151 Tryz.f151 = some a151 := by kernel_rfl
theorem ok151 : FnOk 151 a151 := ⟨Tryz.f151, fi151, Tryz.func151, by kernel_rfl, c151, by kernel_rfl⟩
theorem c152 : compFunc Tryz.prog pur fi152 Tryz.f152 = some a152 := by kernel_rfl
theorem ok152 : FnOk 152 a152 := ⟨Tryz.f152, fi152, Tryz.func152, by kernel_rfl, c152, by kernel_rfl⟩
theorem c155 : compFunc Tryz.prog pur fi155 Tryz.f155 = some a155 := by kernel_rfl
theorem ok155 : FnOk 155 a155 := ⟨Tryz.f155, fi155, Tryz.func155, by kernel_rfl, c155, by kernel_rfl⟩
theorem c157 : compFunc Tryz.prog pur fi157 Tryz.f157 = some a157 := by kernel_rfl
theorem ok157 : FnOk 157 a157 := ⟨Tryz.f157, fi157, Tryz.func157, by kernel_rfl, c157, by kernel_rfl⟩
theorem c159 : compFunc Tryz.prog pur fi159 Tryz.f159 = some a159 := by kernel_rfl
theorem ok159 : FnOk 159 a159 := ⟨Tryz.f159, fi159, Tryz.func159, by kernel_rfl, c159, by kernel_rfl⟩
theorem c160 : compFunc Tryz.prog pur fi160 Tryz.f160 = some a160 := by kernel_rfl
theorem ok160 : FnOk 160 a160 := ⟨Tryz.f160, fi160, Tryz.func160, by kernel_rfl, c160, by kernel_rfl⟩
theorem c161 : compFunc Tryz.prog pur fi161 Tryz.f161 = some a161 := by kernel_rfl
theorem ok161 : FnOk 161 a161 := ⟨Tryz.f161, fi161, Tryz.func161, by kernel_rfl, c161, by kernel_rfl⟩
theorem c163 : compFunc Tryz.prog pur fi163 Tryz.f163 = some a163 := by kernel_rfl
theorem ok163 : FnOk 163 a163 := ⟨Tryz.f163, fi163, Tryz.func163, by kernel_rfl, c163, by kernel_rfl⟩
theorem c164 : compFunc Tryz.prog pur fi164 Tryz.f164 = some a164 := by kernel_rfl
theorem ok164 : FnOk 164 a164 := ⟨Tryz.f164, fi164, Tryz.func164, by kernel_rfl, c164, by kernel_rfl⟩
theorem c165 : compFunc Tryz.prog pur fi165 Tryz.f165 = some a165 := by kernel_rfl
theorem ok165 : FnOk 165 a165 := ⟨Tryz.f165, fi165, Tryz.func165, by kernel_rfl, c165, by kernel_rfl⟩
theorem c166 : compFunc Tryz.prog pur fi166 Tryz.f166 = some a166 := by kernel_rfl
theorem ok166 : FnOk 166 a166 := ⟨Tryz.f166, fi166, Tryz.func166, by kernel_rfl, c166, by kernel_rfl⟩
theorem c167 : compFunc Tryz.prog pur fi167 Tryz.f167 = some a167 := by kernel_rfl
theorem ok167 : FnOk 167 a167 := ⟨Tryz.f167, fi167, Tryz.func167, by kernel_rfl, c167, by kernel_rfl⟩
theorem c168 : compFunc Tryz.prog pur fi168 Tryz.f168 = some a168 := by kernel_rfl
theorem ok168 : FnOk 168 a168 := ⟨Tryz.f168, fi168, Tryz.func168, by kernel_rfl, c168, by kernel_rfl⟩
theorem c170 : compFunc Tryz.prog pur fi170 Tryz.f170 = some a170 := by kernel_rfl
theorem ok170 : FnOk 170 a170 := ⟨Tryz.f170, fi170, Tryz.func170, by kernel_rfl, c170, by kernel_rfl⟩
theorem c171 : compFunc Tryz.prog pur fi171 Tryz.f171 = some a171 := by kernel_rfl
theorem ok171 : FnOk 171 a171 := ⟨Tryz.f171, fi171, Tryz.func171, by kernel_rfl, c171, by kernel_rfl⟩
theorem c172 : compFunc Tryz.prog pur fi172 Tryz.f172 = some a172 := by kernel_rfl
theorem ok172 : FnOk 172 a172 := ⟨Tryz.f172, fi172, Tryz.func172, by kernel_rfl, c172, by kernel_rfl⟩
theorem c173 : compFunc Tryz.prog pur fi173 Tryz.f173 = some a173 := by kernel_rfl
theorem ok173 : FnOk 173 a173 := ⟨Tryz.f173, fi173, Tryz.func173, by kernel_rfl, c173, by kernel_rfl⟩
theorem c174 : compFunc Tryz.prog pur fi174 Tryz.f174 = some a174 := by kernel_rfl
theorem ok174 : FnOk 174 a174 := ⟨Tryz.f174, fi174, Tryz.func174, by kernel_rfl, c174, by kernel_rfl⟩
theorem c176 : compFunc Tryz.prog pur fi176 Tryz.f176 = some a176 := by kernel_rfl
theorem ok176 : FnOk 176 a176 := ⟨Tryz.f176, fi176, Tryz.func176, by kernel_rfl, c176, by kernel_rfl⟩
theorem c179 : compFunc Tryz.prog pur fi179 Tryz.f179 = some a179 := by kernel_rfl
theorem ok179 : FnOk 179 a179 := ⟨Tryz.f179, fi179, Tryz.func179, by kernel_rfl, c179, by kernel_rfl⟩
theorem c181 : compFunc Tryz.prog pur fi181 Tryz.f181 = some a181 := by kernel_rfl
theorem ok181 : FnOk 181 a181 := ⟨Tryz.f181, fi181, Tryz.func181, by kernel_rfl, c181, by kernel_rfl⟩
theorem c182 : compFunc Tryz.prog pur fi182 Tryz.f182 = some a182 := by kernel_rfl
theorem ok182 : FnOk 182 a182 := ⟨Tryz.f182, fi182, Tryz.func182, by kernel_rfl, c182, by kernel_rfl⟩
theorem c183 : compFunc Tryz.prog pur fi183 Tryz.f183 = some a183 := by kernel_rfl
theorem ok183 : FnOk 183 a183 := ⟨Tryz.f183, fi183, Tryz.func183, by kernel_rfl, c183, by kernel_rfl⟩
theorem c185 : compFunc Tryz.prog pur fi185 Tryz.f185 = some a185 := by kernel_rfl
theorem ok185 : FnOk 185 a185 := ⟨Tryz.f185, fi185, Tryz.func185, by kernel_rfl, c185, by kernel_rfl⟩
theorem c186 : compFunc Tryz.prog pur fi186 Tryz.f186 = some a186 := by kernel_rfl
theorem ok186 : FnOk 186 a186 := ⟨Tryz.f186, fi186, Tryz.func186, by kernel_rfl, c186, by kernel_rfl⟩
theorem c189 : compFunc Tryz.prog pur fi189 Tryz.f189 = some a189 := by kernel_rfl
theorem ok189 : FnOk 189 a189 := ⟨Tryz.f189, fi189, Tryz.func189, by kernel_rfl, c189, by kernel_rfl⟩
theorem c201 : compFunc Tryz.prog pur fi201 Tryz.f201 = some a201 := by kernel_rfl
theorem ok201 : FnOk 201 a201 := ⟨Tryz.f201, fi201, Tryz.func201, by kernel_rfl, c201, by kernel_rfl⟩
theorem c212 : compFunc Tryz.prog pur fi212 Tryz.f212 = some a212 := by kernel_rfl
theorem ok212 : FnOk 212 a212 := ⟨Tryz.f212, fi212, Tryz.func212, by kernel_rfl, c212, by kernel_rfl⟩
theorem c219 : compFunc Tryz.prog pur fi219 Tryz.f219 = some a219 := by kernel_rfl
theorem ok219 : FnOk 219 a219 := ⟨Tryz.f219, fi219, Tryz.func219, by kernel_rfl, c219, by kernel_rfl⟩
theorem c220 : compFunc Tryz.prog pur fi220 Tryz.f220 = some a220 := by kernel_rfl
theorem ok220 : FnOk 220 a220 := ⟨Tryz.f220, fi220, Tryz.func220, by kernel_rfl, c220, by kernel_rfl⟩
theorem c221 : compFunc Tryz.prog pur fi221 Tryz.f221 = some a221 := by kernel_rfl
theorem ok221 : FnOk 221 a221 := ⟨Tryz.f221, fi221, Tryz.func221, by kernel_rfl, c221, by kernel_rfl⟩
theorem c222 : compFunc Tryz.prog pur fi222 Tryz.f222 = some a222 := by kernel_rfl
theorem ok222 : FnOk 222 a222 := ⟨Tryz.f222, fi222, Tryz.func222, by kernel_rfl, c222, by kernel_rfl⟩
theorem c223 : compFunc Tryz.prog pur fi223 Tryz.f223 = some a223 := by kernel_rfl
theorem ok223 : FnOk 223 a223 := ⟨Tryz.f223, fi223, Tryz.func223, by kernel_rfl, c223, by kernel_rfl⟩
theorem c225 : compFunc Tryz.prog pur fi225 Tryz.f225 = some a225 := by kernel_rfl
theorem ok225 : FnOk 225 a225 := ⟨Tryz.f225, fi225, Tryz.func225, by kernel_rfl, c225, by kernel_rfl⟩
theorem c226 : compFunc Tryz.prog pur fi226 Tryz.f226 = some a226 := by kernel_rfl
theorem ok226 : FnOk 226 a226 := ⟨Tryz.f226, fi226, Tryz.func226, by kernel_rfl, c226, by kernel_rfl⟩
theorem c227 : compFunc Tryz.prog pur fi227 Tryz.f227 = some a227 := by kernel_rfl
theorem ok227 : FnOk 227 a227 := ⟨Tryz.f227, fi227, Tryz.func227, by kernel_rfl, c227, by kernel_rfl⟩
theorem c228 : compFunc Tryz.prog pur fi228 Tryz.f228 = some a228 := by kernel_rfl
theorem ok228 : FnOk 228 a228 := ⟨Tryz.f228, fi228, Tryz.func228, by kernel_rfl, c228, by kernel_rfl⟩
theorem c229 : compFunc Tryz.prog pur fi229 Tryz.f229 = some a229 := by kernel_rfl
theorem ok229 : FnOk 229 a229 := ⟨Tryz.f229, fi229, Tryz.func229, by kernel_rfl, c229, by kernel_rfl⟩
theorem c230 : compFunc Tryz.prog pur fi230 Tryz.f230 = some a230 := by kernel_rfl
theorem ok230 : FnOk 230 a230 := ⟨Tryz.f230, fi230, Tryz.func230, by kernel_rfl, c230, by kernel_rfl⟩
theorem c231 : compFunc Tryz.prog pur fi231 Tryz.f231 = some a231 := by kernel_rfl
theorem ok231 : FnOk 231 a231 := ⟨Tryz.f231, fi231, Tryz.func231, by kernel_rfl, c231, by kernel_rfl⟩
theorem c233 : compFunc Tryz.prog pur fi233 Tryz.f233 = some a233 := by kernel_rfl
theorem ok233 : FnOk 233 a233 := ⟨Tryz.f233, fi233, Tryz.func233, by kernel_rfl, c233, by kernel_rfl⟩
theorem c235 : compFunc Tryz.prog pur fi235 Tryz.f235 = some a235 := by kernel_rfl
theorem ok235 : FnOk 235 a235 := ⟨Tryz.f235, fi235, Tryz.func235, by kernel_rfl, c235, by kernel_rfl⟩
theorem c236 : compFunc Tryz.prog pur fi236 Tryz.f236 = some a236 := by kernel_rfl
theorem ok236 : FnOk 236 a236 := ⟨Tryz.f236, fi236, Tryz.func236, by kernel_rfl, c236, by kernel_rfl⟩
theorem c239 : compFunc Tryz.prog pur fi239 Tryz.f239 = some a239 := by kernel_rfl
theorem ok239 : FnOk 239 a239 := ⟨Tryz.f239, fi239, Tryz.func239, by kernel_rfl, c239, by kernel_rfl⟩
theorem c242 : compFunc Tryz.prog pur fi242 Tryz.f242 = some a242 := by kernel_rfl
theorem ok242 : FnOk 242 a242 := ⟨Tryz.f242, fi242, Tryz.func242, by kernel_rfl, c242, by kernel_rfl⟩
theorem c244 : compFunc Tryz.prog pur fi244 Tryz.f244 = some a244 := by kernel_rfl
theorem ok244 : FnOk 244 a244 := ⟨Tryz.f244, fi244, Tryz.func244, by kernel_rfl, c244, by kernel_rfl⟩
theorem c246 : compFunc Tryz.prog pur fi246 Tryz.f246 = some a246 := by kernel_rfl
theorem ok246 : FnOk 246 a246 := ⟨Tryz.f246, fi246, Tryz.func246, by kernel_rfl, c246, by kernel_rfl⟩
theorem c252 : compFunc Tryz.prog pur fi252 Tryz.f252 = some a252 := by kernel_rfl
theorem ok252 : FnOk 252 a252 := ⟨Tryz.f252, fi252, Tryz.func252, by kernel_rfl, c252, by kernel_rfl⟩
theorem c253 : compFunc Tryz.prog pur fi253 Tryz.f253 = some a253 := by kernel_rfl
theorem ok253 : FnOk 253 a253 := ⟨Tryz.f253, fi253, Tryz.func253, by kernel_rfl, c253, by kernel_rfl⟩
theorem c275 : compFunc Tryz.prog pur fi275 Tryz.f275 = some a275 := by kernel_rfl
theorem ok275 : FnOk 275 a275 := ⟨Tryz.f275, fi275, Tryz.func275, by kernel_rfl, c275, by kernel_rfl⟩
theorem c276 : compFunc Tryz.prog pur fi276 Tryz.f276 = some a276 := by kernel_rfl
theorem ok276 : FnOk 276 a276 := ⟨Tryz.f276, fi276, Tryz.func276, by kernel_rfl, c276, by kernel_rfl⟩
theorem c277 : compFunc Tryz.prog pur fi277 Tryz.f277 = some a277 := by kernel_rfl
theorem ok277 : FnOk 277 a277 := ⟨Tryz.f277, fi277, Tryz.func277, by kernel_rfl, c277, by kernel_rfl⟩
theorem c278 : compFunc Tryz.prog pur fi278 Tryz.f278 = some a278 := by kernel_rfl
theorem ok278 : FnOk 278 a278 := ⟨Tryz.f278, fi278, Tryz.func278, by kernel_rfl, c278, by kernel_rfl⟩
theorem c279 : compFunc Tryz.prog pur fi279 Tryz.f279 = some a279 := by kernel_rfl
theorem ok279 : FnOk 279 a279 := ⟨Tryz.f279, fi279, Tryz.func279, by kernel_rfl, c279, by kernel_rfl⟩
theorem c280 : compFunc Tryz.prog pur fi280 Tryz.f280 = some a280 := by kernel_rfl
theorem ok280 : FnOk 280 a280 := ⟨Tryz.f280, fi280, Tryz.func280, by kernel_rfl, c280, by kernel_rfl⟩
theorem c281 : compFunc Tryz.prog pur fi281 Tryz.f281 = some a281 := by kernel_rfl
theorem ok281 : FnOk 281 a281 := ⟨Tryz.f281, fi281, Tryz.func281, by kernel_rfl, c281, by kernel_rfl⟩
theorem c282 : compFunc Tryz.prog pur fi282 Tryz.f282 = some a282 := by kernel_rfl
theorem ok282 : FnOk 282 a282 := ⟨Tryz.f282, fi282, Tryz.func282, by kernel_rfl, c282, by kernel_rfl⟩
theorem c284 : compFunc Tryz.prog pur fi284 Tryz.f284 = some a284 := by kernel_rfl
theorem ok284 : FnOk 284 a284 := ⟨Tryz.f284, fi284, Tryz.func284, by kernel_rfl, c284, by kernel_rfl⟩
theorem c287 : compFunc Tryz.prog pur fi287 Tryz.f287 = some a287 := by kernel_rfl
theorem ok287 : FnOk 287 a287 := ⟨Tryz.f287, fi287, Tryz.func287, by kernel_rfl, c287, by kernel_rfl⟩
theorem c290 : compFunc Tryz.prog pur fi290 Tryz.f290 = some a290 := by kernel_rfl
theorem ok290 : FnOk 290 a290 := ⟨Tryz.f290, fi290, Tryz.func290, by kernel_rfl, c290, by kernel_rfl⟩
theorem c329 : compFunc Tryz.prog pur fi329 Tryz.f329 = some a329 := by kernel_rfl
theorem ok329 : FnOk 329 a329 := ⟨Tryz.f329, fi329, Tryz.func329, by kernel_rfl, c329, by kernel_rfl⟩
theorem c331 : compFunc Tryz.prog pur fi331 Tryz.f331 = some a331 := by kernel_rfl
theorem ok331 : FnOk 331 a331 := ⟨Tryz.f331, fi331, Tryz.func331, by kernel_rfl, c331, by kernel_rfl⟩
theorem c332 : compFunc Tryz.prog pur fi332 Tryz.f332 = some a332 := by kernel_rfl
theorem ok332 : FnOk 332 a332 := ⟨Tryz.f332, fi332, Tryz.func332, by kernel_rfl, c332, by kernel_rfl⟩
theorem c334 : compFunc Tryz.prog pur fi334 Tryz.f334 = some a334 := by kernel_rfl
theorem ok334 : FnOk 334 a334 := ⟨Tryz.f334, fi334, Tryz.func334, by kernel_rfl, c334, by kernel_rfl⟩
theorem c336 : compFunc Tryz.prog pur fi336 Tryz.f336 = some a336 := by kernel_rfl
theorem ok336 : FnOk 336 a336 := ⟨Tryz.f336, fi336, Tryz.func336, by kernel_rfl, c336, by kernel_rfl⟩
theorem c348 : compFunc Tryz.prog pur fi348 Tryz.f348 = some a348 := by kernel_rfl
theorem ok348 : FnOk 348 a348 := ⟨Tryz.f348, fi348, Tryz.func348, by kernel_rfl, c348, by kernel_rfl⟩
theorem c349 : compFunc Tryz.prog pur fi349 Tryz.f349 = some a349 := by kernel_rfl
theorem ok349 : FnOk 349 a349 := ⟨Tryz.f349, fi349, Tryz.func349, by kernel_rfl, c349, by kernel_rfl⟩
theorem c353 : compFunc Tryz.prog pur fi353 Tryz.f353 = some a353 := by kernel_rfl
theorem ok353 : FnOk 353 a353 := ⟨Tryz.f353, fi353, Tryz.func353, by kernel_rfl, c353, by kernel_rfl⟩
theorem c357 : compFunc Tryz.prog pur fi357 Tryz.f357 = some a357 := by kernel_rfl
theorem ok357 : FnOk 357 a357 := ⟨Tryz.f357, fi357, Tryz.func357, by kernel_rfl, c357, by kernel_rfl⟩
theorem c361 : compFunc Tryz.prog pur fi361 Tryz.f361 = some a361 := by kernel_rfl
theorem ok361 : FnOk 361 a361 := ⟨Tryz.f361, fi361, Tryz.func361, by kernel_rfl, c361, by kernel_rfl⟩
theorem c362 : compFunc Tryz.prog pur fi362 Tryz.f362 = some a362 := by kernel_rfl
theorem ok362 : FnOk 362 a362 := ⟨Tryz.f362, fi362, Tryz.func362, by kernel_rfl, c362, by kernel_rfl⟩
end Go.Abs.Z

namespace Go.Abs.Z
open Go.Proofs
def tabL : List (FuncId × AFunc) := [(100, a100), (164, a164), (103, a103), (278, a278), (276, a276), (163, a163), (230, a230), (185, a185), (252, a252), (220, a220), (231, a231), (228, a228), (59, a59), (165, a165), (279, a279), (147, a147), (225, a225), (174, a174), (226, a226), (50, a50), (24, a24), (242, a242), (98, a98), (146, a146), (102, a102), (119, a119), (170, a170), (227, a227), (25, a25), (92, a92), (149, a149), (281, a281), (93, a93), (54, a54), (280, a280), (329, a329), (38, a38), (80, a80), (166, a166), (246, a246), (331, a331), (58, a58), (244, a244), (277, a277), (29, a29), (167, a167), (148, a148), (30, a30), (152, a152), (81, a81), (121, a121), (172, a172), (33, a33), (222, a222), (275, a275), (52, a52), (87, a87), (115, a115), (143, a143), (160, a160), (179, a179), (182, a182), (189, a189), (201, a201), (219, a219), (233, a233), (235, a235), (236, a236), (284, a284), (287, a287), (290, a290), (332, a332), (334, a334), (336, a336), (348, a348), (349, a349), (353, a353), (357, a357), (361, a361), (362, a362), (22, a22), (64, a64), (109, a109), (15, a15), (110, a110), (19, a19), (45, a45), (46, a46), (51, a51), (89, a89), (90, a90), (144, a144), (35, a35), (43, a43), (62, a62), (63, a63), (68, a68), (72, a72), (75, a75), (77, a77), (78, a78), (79, a79), (99, a99), (101, a101), (105, a105), (118, a118), (159, a159), (161, a161), (168, a168), (171, a171), (173, a173), (183, a183), (186, a186), (229, a229), (253, a253), (282, a282), (36, a36), (56, a56), (61, a61), (65, a65), (66, a66), (69, a69), (70, a70), (95, a95), (96, a96), (112, a112), (113, a113), (176, a176), (181, a181), (239, a239), (17, a17), (21, a21), (39, a39), (40, a40), (41, a41), (42, a42), (44, a44), (49, a49), (86, a86), (88, a88), (94, a94), (97, a97), (138, a138), (140, a140), (151, a151), (155, a155), (157, a157), (212, a212), (221, a221), (223, a223), (5, a5), (6, a6), (7, a7), (11, a11), (13, a13), (14, a14), (16, a16), (18, a18), (20, a20), (23, a23), (27, a27), (31, a31), (32, a32), (34, a34), (55, a55), (57, a57), (60, a60), (3, a3), (4, a4), (8, a8), (9, a9), (10, a10), (12, a12)]
noncomputable def lookK (l : List (FuncId × AFunc)) (f : FuncId) : Option AFunc := List.rec (motive := fun _ => Option AFunc) none (fun p _ ih => cond (Nat.beq p.1 f) (some p.2) ih) l
noncomputable def tab (f : FuncId) : Option AFunc := lookK tabL f
theorem lookK_ok : ∀ (l : List (FuncId × AFunc)), (∀ x ∈ l, FnOk x.1 x.2) → ∀ f af, lookK l f = some af → FnOk f af
  | [], _, f, af, h => by cases h
  | p :: l, hl, f, af, h => by
    have h' : cond (Nat.beq p.1 f) (some p.2) (lookK l f) = some af := h
    cases hb : Nat.beq p.1 f with
    | true =>
      rw [hb] at h'
      cases h'
      have : p.1 = f := Nat.eq_of_beq_eq_true hb
      rw [← this]; exact hl p (List.mem_cons_self ..)
    | false => rw [hb] at h'; exact lookK_ok l (fun x hx => hl x (List.mem_cons_of_mem _ hx)) f af h'
theorem all_cons {p : FuncId × AFunc} {l : List (FuncId × AFunc)} (h : FnOk p.1 p.2) (hl : ∀ x ∈ l, FnOk x.1 x.2) : ∀ x ∈ p :: l, FnOk x.1 x.2 := by
  intro x hx
  rcases List.mem_cons.1 hx with rfl | hx
  · exact h
  · exact hl x hx
theorem all_nil : ∀ x ∈ ([] : List (FuncId × AFunc)), FnOk x.1 x.2 := fun x hx => by cases hx
set_option maxRecDepth 10000 in
theorem tabL_ok : ∀ x ∈ tabL, FnOk x.1 x.2 :=
  all_cons ok100 <| all_cons ok164 <| all_cons ok103 <| all_cons ok278 <| all_cons ok276 <| all_cons ok163 <| all_cons ok230 <| all_cons ok185 <| all_cons ok252 <| all_cons ok220 <| all_cons ok231 <| all_cons ok228 <| all_cons ok59 <| all_cons ok165 <| all_cons ok279 <| all_cons ok147 <| all_cons ok225 <| all_cons ok174 <| all_cons ok226 <| all_cons ok50 <| all_cons ok24 <| all_cons ok242 <| all_cons ok98 <| all_cons ok146 <| all_cons ok102 <| all_cons ok119 <| all_cons ok170 <| all_cons ok227 <| all_cons ok25 <| all_cons ok92 <| all_cons ok149 <| all_cons ok281 <| all_cons ok93 <| all_cons ok54 <| all_cons ok280 <| all_cons ok329 <| all_cons ok38 <| all_cons ok80 <| all_cons ok166 <| all_cons ok246 <| all_cons ok331 <| all_cons ok58 <| all_cons ok244 <| all_cons ok277 <| all_cons ok29 <| all_cons ok167 <| all_cons ok148 <| all_cons ok30 <| all_cons ok152 <| all_cons ok81 <| all_cons ok121 <| all_cons ok172 <| all_cons ok33 <| all_cons ok222 <| all_cons ok275 <| all_cons ok52 <| all_cons ok87 <| all_cons ok115 <| all_cons ok143 <| all_cons ok160 <| all_cons ok179 <| all_cons ok182 <| all_cons ok189 <| all_cons ok201 <| all_cons ok219 <| all_cons ok233 <| all_cons ok235 <| all_cons ok236 <| all_cons ok284 <| all_cons ok287 <| all_cons ok290 <| all_cons ok332 <| all_cons ok334 <| all_cons ok336 <| all_cons ok348 <| all_cons ok349 <| all_cons ok353 <| all_cons ok357 <| all_cons ok361 <| all_cons ok362 <| all_cons ok22 <| all_cons ok64 <| all_cons ok109 <| all_cons ok15 <| all_cons ok110 <| all_cons ok19 <| all_cons ok45 <| all_cons ok46 <| all_cons ok51 <| all_cons ok89 <| all_cons ok90 <| all_cons ok144 <| all_cons ok35 <| all_cons ok43 <| all_cons ok62 <| all_cons ok63 <| all_cons ok68 <| all_cons ok72 <| all_cons ok75 <| all_cons ok77 <| all_cons ok78 <| all_cons ok79 <| all_cons ok99 <| all_cons ok101 <| all_cons ok105 <| all_cons ok118 <| all_cons ok159 <| all_cons ok161 <| all_cons ok168 <| all_cons ok171 <| all_cons ok173 <| all_cons ok183 <| all_cons ok186 <| all_cons ok229 <| all_cons ok253 <| all_cons ok282 <| all_cons ok36 <| all_cons ok56 <| all_cons ok61 <| all_cons ok65 <| all_cons ok66 <| all_cons ok69 <| all_cons ok70 <| all_cons ok95 <| all_cons ok96 <| all_cons ok112 <| all_cons ok113 <| all_cons ok176 <| all_cons ok181 <| all_cons ok239 <| all_cons ok17 <| all_cons ok21 <| all_cons ok39 <| all_cons ok40 <| all_cons ok41 <| all_cons ok42 <| all_cons ok44 <| all_cons ok49 <| all_cons ok86 <| all_cons ok88 <| all_cons ok94 <| all_cons ok97 <| all_cons ok138 <| all_cons ok140 <| all_cons ok151 <| all_cons ok155 <| all_cons ok157 <| all_cons ok212 <| all_cons ok221 <| all_cons ok223 <| all_cons ok5 <| all_cons ok6 <| all_cons ok7 <| all_cons ok11 <| all_cons ok13 <| all_cons ok14 <| all_cons ok16 <| all_cons ok18 <| all_cons ok20 <| all_cons ok23 <| all_cons ok27 <| all_cons ok31 <| all_cons ok32 <| all_cons ok34 <| all_cons ok55 <| all_cons ok57 <| all_cons ok60 <| all_cons ok3 <| all_cons ok4 <| all_cons ok8 <| all_cons ok9 <| all_cons ok10 <| all_cons ok12 <| all_nil
theorem tabOk : TabOk Tryz.prog pur tab := fun f af h => lookK_ok tabL tabL_ok f af h
theorem mixed : Tryz.prog.follows .mixedOrders = true := by kernel_rfl
end Go.Abs.Z
