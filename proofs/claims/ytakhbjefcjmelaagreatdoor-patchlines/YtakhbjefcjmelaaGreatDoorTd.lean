/- A part of the proof: T3 T4 T5. -/
import Derived.Test.YtakhbjefcjmelaaGreatDoorTa
import Derived.Test.YtakhbjefcjmelaaGreatDoorTb
import Derived.Test.YtakhbjefcjmelaaGreatDoorProg
import Derived.KernelRfl
import Derived.Test.YtakhbjefcjmelaaGreatDoorTc

set_option linter.unusedVariables false
set_option linter.unusedSimpArgs false
namespace Go.Abs.Z
open Go.Proofs
theorem c3 : compFunc Tryz.prog pur fi3 Tryz.f3 = some a3 := by kernel_rfl
theorem ok3 : FnOk 3 a3 := ⟨Tryz.f3, fi3, Tryz.func3, by kernel_rfl, c3, by kernel_rfl⟩
theorem c4 : compFunc Tryz.prog pur fi4 Tryz.f4 = some a4 := by kernel_rfl
theorem ok4 : FnOk 4 a4 := ⟨Tryz.f4, fi4, Tryz.func4, by kernel_rfl, c4, by kernel_rfl⟩
theorem c5 : compFunc Tryz.prog pur fi5 Tryz.f5 = some a5 := by kernel_rfl
theorem ok5 : FnOk 5 a5 := ⟨Tryz.f5, fi5, Tryz.func5, by kernel_rfl, c5, by kernel_rfl⟩
theorem c6 : compFunc Tryz.prog pur fi6 Tryz.f6 = some a6 := by kernel_rfl
theorem ok6 : FnOk 6 a6 := ⟨Tryz.f6, fi6, Tryz.func6, by kernel_rfl, c6, by kernel_rfl⟩
theorem c7 : compFunc Tryz.prog pur fi7 Tryz.f7 = some a7 := by kernel_rfl
theorem ok7 : FnOk 7 a7 := ⟨Tryz.f7, fi7, Tryz.func7, by kernel_rfl, c7, by kernel_rfl⟩
theorem c8 : compFunc Tryz.prog pur fi8 Tryz.f8 = some a8 := by kernel_rfl
theorem ok8 : FnOk 8 a8 := ⟨Tryz.f8, fi8, Tryz.func8, by kernel_rfl, c8, by kernel_rfl⟩
theorem c9 : compFunc Tryz.prog pur fi9 Tryz.f9 = some a9 := by kernel_rfl
theorem ok9 : FnOk 9 a9 := ⟨Tryz.f9, fi9, Tryz.func9, by kernel_rfl, c9, by kernel_rfl⟩
theorem c10 : compFunc Tryz.prog pur fi10 Tryz.f10 = some a10 := by kernel_rfl
theorem ok10 : FnOk 10 a10 := ⟨Tryz.f10, fi10, Tryz.func10, by kernel_rfl, c10, by kernel_rfl⟩
theorem c11 : compFunc Tryz.prog pur fi11 Tryz.f11 = some a11 := by kernel_rfl
theorem ok11 : FnOk 11 a11 := ⟨Tryz.f11, fi11, Tryz.func11, by kernel_rfl, c11, by kernel_rfl⟩
theorem c12 : compFunc Tryz.prog pur fi12 Tryz.f12 = some a12 := by kernel_rfl
theorem ok12 : FnOk 12 a12 := ⟨Tryz.f12, fi12, Tryz.func12, by kernel_rfl, c12, by kernel_rfl⟩
theorem c13 : compFunc Tryz.prog pur fi13 Tryz.f13 = some a13 := by kernel_rfl
theorem ok13 : FnOk 13 a13 := ⟨Tryz.f13, fi13, Tryz.func13, by kernel_rfl, c13, by kernel_rfl⟩
theorem c14 : compFunc Tryz.prog pur fi14 Tryz.f14 = some a14 := by kernel_rfl
theorem ok14 : FnOk 14 a14 := ⟨Tryz.f14, fi14, Tryz.func14, by kernel_rfl, c14, by kernel_rfl⟩
theorem c15 : compFunc Tryz.prog pur fi15 Tryz.f15 = some a15 := by kernel_rfl
theorem ok15 : FnOk 15 a15 := ⟨Tryz.f15, fi15, Tryz.func15, by kernel_rfl, c15, by kernel_rfl⟩
theorem c16 : compFunc Tryz.prog pur fi16 Tryz.f16 = some a16 := by kernel_rfl
theorem ok16 : FnOk 16 a16 := ⟨Tryz.f16, fi16, Tryz.func16, by kernel_rfl, c16, by kernel_rfl⟩
theorem c17 : compFunc Tryz.prog pur fi17 Tryz.f17 = some a17 := by kernel_rfl
theorem ok17 : FnOk 17 a17 := ⟨Tryz.f17, fi17, Tryz.func17, by kernel_rfl, c17, by kernel_rfl⟩
theorem c18 : compFunc Tryz.prog pur fi18 Tryz.f18 = some a18 := by kernel_rfl
theorem ok18 : FnOk 18 a18 := ⟨Tryz.f18, fi18, Tryz.func18, by kernel_rfl, c18, by kernel_rfl⟩
theorem c19 : compFunc Tryz.prog pur fi19 Tryz.f19 = some a19 := by kernel_rfl
theorem ok19 : FnOk 19 a19 := ⟨Tryz.f19, fi19, Tryz.func19, by kernel_rfl, c19, by kernel_rfl⟩
theorem c20 : compFunc Tryz.prog pur fi20 Tryz.f20 = some a20 := by kernel_rfl
theorem ok20 : FnOk 20 a20 := ⟨Tryz.f20, fi20, Tryz.func20, by kernel_rfl, c20, by kernel_rfl⟩
theorem c21 : compFunc Tryz.prog pur fi21 Tryz.f21 = some a21 := by kernel_rfl
theorem ok21 : FnOk 21 a21 := ⟨Tryz.f21, fi21, Tryz.func21, by kernel_rfl, c21, by kernel_rfl⟩
theorem c22 : compFunc Tryz.prog pur fi22 Tryz.f22 = some a22 := by kernel_rfl
theorem ok22 : FnOk 22 a22 := ⟨Tryz.f22, fi22, Tryz.func22, by kernel_rfl, c22, by kernel_rfl⟩
theorem c24 : compFunc Tryz.prog pur fi24 Tryz.f24 = some a24 := by kernel_rfl
theorem ok24 : FnOk 24 a24 := ⟨Tryz.f24, fi24, Tryz.func24, by kernel_rfl, c24, by kernel_rfl⟩
theorem c25 : compFunc Tryz.prog pur fi25 Tryz.f25 = some a25 := by kernel_rfl
theorem ok25 : FnOk 25 a25 := ⟨Tryz.f25, fi25, Tryz.func25, by kernel_rfl, c25, by kernel_rfl⟩
theorem c26 : compFunc Tryz.prog pur fi26 Tryz.f26 = some a26 := by kernel_rfl
theorem ok26 : FnOk 26 a26 := ⟨Tryz.f26, fi26, Tryz.func26, by kernel_rfl, c26, by kernel_rfl⟩
theorem c27 : compFunc Tryz.prog pur fi27 Tryz.f27 = some a27 := by kernel_rfl
theorem ok27 : FnOk 27 a27 := ⟨Tryz.f27, fi27, Tryz.func27, by kernel_rfl, c27, by kernel_rfl⟩
theorem c28 : compFunc Tryz.prog pur fi28 Tryz.f28 = some a28 := by kernel_rfl
theorem ok28 : FnOk 28 a28 := ⟨Tryz.f28, fi28, Tryz.func28, by kernel_rfl, c28, by kernel_rfl⟩
theorem c29 : compFunc Tryz.prog pur fi29 Tryz.f29 = some a29 := by kernel_rfl
theorem ok29 : FnOk 29 a29 := ⟨Tryz.f29, fi29, Tryz.func29, by kernel_rfl, c29, by kernel_rfl⟩
theorem c31 : compFunc Tryz.prog pur fi31 Tryz.f31 = some a31 := by kernel_rfl
theorem ok31 : FnOk 31 a31 := ⟨Tryz.f31, fi31, Tryz.func31, by kernel_rfl, c31, by kernel_rfl⟩
theorem c33 : compFunc Tryz.prog pur fi33 Tryz.f33 = some a33 := by kernel_rfl
theorem ok33 : FnOk 33 a33 := ⟨Tryz.f33, fi33, Tryz.func33, by kernel_rfl, c33, by kernel_rfl⟩
theorem c34 : compFunc Tryz.prog pur fi34 Tryz.f34 = some a34 := by kernel_rfl
theorem ok34 : FnOk 34 a34 := ⟨Tryz.f34, fi34, Tryz.func34, by kernel_rfl, c34, by kernel_rfl⟩
theorem c35 : compFunc Tryz.prog pur fi35 Tryz.f35 = some a35 := by kernel_rfl
theorem ok35 : FnOk 35 a35 := ⟨Tryz.f35, fi35, Tryz.func35, by kernel_rfl, c35, by kernel_rfl⟩
theorem c36 : compFunc Tryz.prog pur fi36 Tryz.f36 = some a36 := by kernel_rfl
theorem ok36 : FnOk 36 a36 := ⟨Tryz.f36, fi36, Tryz.func36, by kernel_rfl, c36, by kernel_rfl⟩
theorem c37 : compFunc Tryz.prog pur fi37 Tryz.f37 = some a37 := by kernel_rfl
theorem ok37 : FnOk 37 a37 := ⟨Tryz.f37, fi37, Tryz.func37, by kernel_rfl, c37, by kernel_rfl⟩
theorem c38 : compFunc Tryz.prog pur fi38 Tryz.f38 = some a38 := by kernel_rfl
theorem ok38 : FnOk 38 a38 := ⟨Tryz.f38, fi38, Tryz.func38, by kernel_rfl, c38, by kernel_rfl⟩
theorem c39 : compFunc Tryz.prog pur fi39 Tryz.f39 = some a39 := by kernel_rfl
theorem ok39 : FnOk 39 a39 := ⟨Tryz.f39, fi39, Tryz.func39, by kernel_rfl, c39, by kernel_rfl⟩
theorem c40 : compFunc Tryz.prog pur fi40 Tryz.f40 = some a40 := by kernel_rfl
theorem ok40 : FnOk 40 a40 := ⟨Tryz.f40, fi40, Tryz.func40, by kernel_rfl, c40, by kernel_rfl⟩
theorem c42 : compFunc Tryz.prog pur fi42 Tryz.f42 = some a42 := by kernel_rfl
theorem ok42 : FnOk 42 a42 := ⟨Tryz.f42, fi42, Tryz.func42, by kernel_rfl, c42, by kernel_rfl⟩
theorem c43 : compFunc Tryz.prog pur fi43 Tryz.f43 = some a43 := by kernel_rfl
theorem ok43 : FnOk 43 a43 := ⟨Tryz.f43, fi43, Tryz.func43, by kernel_rfl, c43, by kernel_rfl⟩
theorem c44 : compFunc Tryz.prog pur fi44 Tryz.f44 = some a44 := by kernel_rfl
theorem ok44 : FnOk 44 a44 := ⟨Tryz.f44, fi44, Tryz.func44, by kernel_rfl, c44, by kernel_rfl⟩
theorem c45 : compFunc Tryz.prog pur fi45 Tryz.f45 = some a45 := by kernel_rfl
theorem ok45 : FnOk 45 a45 := ⟨Tryz.f45, fi45, Tryz.func45, by kernel_rfl, c45, by kernel_rfl⟩
theorem c46 : compFunc Tryz.prog pur fi46 Tryz.f46 = some a46 := by kernel_rfl
theorem ok46 : FnOk 46 a46 := ⟨Tryz.f46, fi46, Tryz.func46, by kernel_rfl, c46, by kernel_rfl⟩
theorem c47 : compFunc Tryz.prog pur fi47 Tryz.f47 = some a47 := by kernel_rfl
theorem ok47 : FnOk 47 a47 := ⟨Tryz.f47, fi47, Tryz.func47, by kernel_rfl, c47, by kernel_rfl⟩
theorem c48 : compFunc Tryz.prog pur fi48 Tryz.f48 = some a48 := by kernel_rfl
theorem ok48 : FnOk 48 a48 := ⟨Tryz.f48, fi48, Tryz.func48, by kernel_rfl, c48, by kernel_rfl⟩
theorem c52 : compFunc Tryz.prog pur fi52 Tryz.f52 = some a52 := by kernel_rfl
theorem ok52 : FnOk 52 a52 := ⟨Tryz.f52, fi52, Tryz.func52, by kernel_rfl, c52, by kernel_rfl⟩
theorem c53 : compFunc Tryz.prog pur fi53 Tryz.f53 = some a53 := by kernel_rfl
theorem ok53 : FnOk 53 a53 := ⟨Tryz.f53, fi53, Tryz.func53, by kernel_rfl, c53, by kernel_rfl⟩
theorem c54 : compFunc Tryz.prog pur fi54 Tryz.f54 = some a54 := by kernel_rfl
theorem ok54 : FnOk 54 a54 := ⟨Tryz.f54, fi54, Tryz.func54, by kernel_rfl, c54, by kernel_rfl⟩
theorem c55 : compFunc Tryz.prog pur fi55 Tryz.f55 = some a55 := by kernel_rfl
theorem ok55 : FnOk 55 a55 := ⟨Tryz.f55, fi55, Tryz.func55, by kernel_rfl, c55, by kernel_rfl⟩
theorem c56 : compFunc Tryz.prog pur fi56 Tryz.f56 = some a56 := by kernel_rfl
theorem ok56 : FnOk 56 a56 := ⟨Tryz.f56, fi56, Tryz.func56, by kernel_rfl, c56, by kernel_rfl⟩
theorem c57 : compFunc Tryz.prog pur fi57 Tryz.f57 = some a57 := by kernel_rfl
theorem ok57 : FnOk 57 a57 := ⟨Tryz.f57, fi57, Tryz.func57, by kernel_rfl, c57, by kernel_rfl⟩
theorem c59 : compFunc Tryz.prog pur fi59 Tryz.f59 = some a59 := by kernel_rfl
theorem ok59 : FnOk 59 a59 := ⟨Tryz.f59, fi59, Tryz.func59, by kernel_rfl, c59, by kernel_rfl⟩
theorem c60 : compFunc Tryz.prog pur fi60 Tryz.f60 = some a60 := by kernel_rfl
theorem ok60 : FnOk 60 a60 := ⟨Tryz.f60, fi60, Tryz.func60, by kernel_rfl, c60, by kernel_rfl⟩
theorem c61 : compFunc Tryz.prog pur fi61 Tryz.f61 = some a61 := by kernel_rfl
theorem ok61 : FnOk 61 a61 := ⟨Tryz.f61, fi61, Tryz.func61, by kernel_rfl, c61, by kernel_rfl⟩
theorem c62 : compFunc Tryz.prog pur fi62 Tryz.f62 = some a62 := by kernel_rfl
theorem ok62 : FnOk 62 a62 := ⟨Tryz.f62, fi62, Tryz.func62, by kernel_rfl, c62, by kernel_rfl⟩
theorem c63 : compFunc Tryz.prog pur fi63 Tryz.f63 = some a63 := by kernel_rfl
theorem ok63 : FnOk 63 a63 := ⟨Tryz.f63, fi63, Tryz.func63, by kernel_rfl, c63, by kernel_rfl⟩
theorem c64 : compFunc Tryz.prog pur fi64 Tryz.f64 = some a64 := by kernel_rfl
theorem ok64 : FnOk 64 a64 := ⟨Tryz.f64, fi64, Tryz.func64, by kernel_rfl, c64, by kernel_rfl⟩
theorem c65 : compFunc Tryz.prog pur fi65 Tryz.f65 = some a65 := by kernel_rfl
theorem ok65 : FnOk 65 a65 := ⟨Tryz.f65, fi65, Tryz.func65, by kernel_rfl, c65, by kernel_rfl⟩
theorem c66 : compFunc Tryz.prog pur fi66 Tryz.f66 = some a66 := by kernel_rfl
theorem ok66 : FnOk 66 a66 := ⟨Tryz.f66, fi66, Tryz.func66, by kernel_rfl, c66, by kernel_rfl⟩
theorem c67 : compFunc Tryz.prog pur fi67 Tryz.f67 = some a67 := by kernel_rfl
theorem ok67 : FnOk 67 a67 := ⟨Tryz.f67, fi67, Tryz.func67, by kernel_rfl, c67, by kernel_rfl⟩
theorem c68 : compFunc Tryz.prog pur fi68 Tryz.f68 = some a68 := by kernel_rfl
theorem ok68 : FnOk 68 a68 := ⟨Tryz.f68, fi68, Tryz.func68, by kernel_rfl, c68, by kernel_rfl⟩
theorem c69 : compFunc Tryz.prog pur fi69 Tryz.f69 = some a69 := by kernel_rfl
theorem ok69 : FnOk 69 a69 := ⟨Tryz.f69, fi69, Tryz.func69, by kernel_rfl, c69, by kernel_rfl⟩
theorem c70 : compFunc Tryz.prog pur fi70 Tryz.f70 = some a70 := by kernel_rfl
theorem ok70 : FnOk 70 a70 := ⟨Tryz.f70, fi70, Tryz.func70, by kernel_rfl, c70, by kernel_rfl⟩
theorem c71 : compFunc Tryz.prog pur fi71 Tryz.f71 = some a71 := by kernel_rfl
theorem ok71 : FnOk 71 a71 := ⟨Tryz.f71, fi71, Tryz.func71, by kernel_rfl, c71, by kernel_rfl⟩
theorem c73 : compFunc Tryz.prog pur fi73 Tryz.f73 = some a73 := by kernel_rfl
theorem ok73 : FnOk 73 a73 := ⟨Tryz.f73, fi73, Tryz.func73, by kernel_rfl, c73, by kernel_rfl⟩
theorem c74 : compFunc Tryz.prog pur fi74 Tryz.f74 = some a74 := by kernel_rfl
theorem ok74 : FnOk 74 a74 := ⟨Tryz.f74, fi74, Tryz.func74, by kernel_rfl, c74, by kernel_rfl⟩
theorem c75 : compFunc Tryz.prog pur fi75 Tryz.f75 = some a75 := by kernel_rfl
theorem ok75 : FnOk 75 a75 := ⟨Tryz.f75, fi75, Tryz.func75, by kernel_rfl, c75, by kernel_rfl⟩
theorem c77 : compFunc Tryz.prog pur fi77 Tryz.f77 = some a77 := by kernel_rfl
theorem ok77 : FnOk 77 a77 := ⟨Tryz.f77, fi77, Tryz.func77, by kernel_rfl, c77, by kernel_rfl⟩
theorem c80 : compFunc Tryz.prog pur fi80 Tryz.f80 = some a80 := by kernel_rfl
theorem ok80 : FnOk 80 a80 := ⟨Tryz.f80, fi80, Tryz.func80, by kernel_rfl, c80, by kernel_rfl⟩
theorem c82 : compFunc Tryz.prog pur fi82 Tryz.f82 = some a82 := by kernel_rfl
theorem ok82 : FnOk 82 a82 := ⟨Tryz.f82, fi82, Tryz.func82, by kernel_rfl, c82, by kernel_rfl⟩
theorem c83 : compFunc Tryz.prog pur fi83 Tryz.f83 = some a83 := by kernel_rfl
theorem ok83 : FnOk 83 a83 := ⟨Tryz.f83, fi83, Tryz.func83, by kernel_rfl, c83, by kernel_rfl⟩
theorem c84 : compFunc Tryz.prog pur fi84 Tryz.f84 = some a84 := by kernel_rfl
theorem ok84 : FnOk 84 a84 := ⟨Tryz.f84, fi84, Tryz.func84, by kernel_rfl, c84, by kernel_rfl⟩
theorem c85 : compFunc Tryz.prog pur fi85 Tryz.f85 = some a85 := by kernel_rfl
theorem ok85 : FnOk 85 a85 := ⟨Tryz.f85, fi85, Tryz.func85, by kernel_rfl, c85, by kernel_rfl⟩
theorem c86 : compFunc Tryz.prog pur fi86 Tryz.f86 = some a86 := by kernel_rfl
theorem ok86 : FnOk 86 a86 := ⟨Tryz.f86, fi86, Tryz.func86, by kernel_rfl, c86, by kernel_rfl⟩
theorem c91 : compFunc Tryz.prog pur fi91 Tryz.f91 = some a91 := by kernel_rfl
theorem ok91 : FnOk 91 a91 := ⟨Tryz.f91, fi91, Tryz.func91, by kernel_rfl, c91, by kernel_rfl⟩
theorem c92 : compFunc Tryz.prog pur fi92 Tryz.f92 = some a92 := by kernel_rfl
theorem ok92 : FnOk 92 a92 := ⟨Tryz.f92, fi92, Tryz.func92, by kernel_rfl, c92, by kernel_rfl⟩
theorem c97 : compFunc Tryz.prog pur fi97 Tryz.f97 = some a97 := by kernel_rfl
theorem ok97 : FnOk 97 a97 := ⟨Tryz.f97, fi97, Tryz.func97, by kernel_rfl, c97, by kernel_rfl⟩
theorem c98 : compFunc Tryz.prog pur fi98 Tryz.f98 = some a98 := by kernel_rfl
theorem ok98 : FnOk 98 a98 := ⟨Tryz.f98, fi98, Tryz.func98, by kernel_rfl, c98, by kernel_rfl⟩
theorem c99 : compFunc Tryz.prog pur fi99 Tryz.f99 = some a99 := by kernel_rfl
theorem ok99 : FnOk 99 a99 := ⟨Tryz.f99, fi99, Tryz.func99, by kernel_rfl, c99, by kernel_rfl⟩
theorem c100 : compFunc Tryz.prog pur fi100 Tryz.f100 = some a100 := by kernel_rfl
theorem ok100 : FnOk 100 a100 := ⟨Tryz.f100, fi100, Tryz.func100, by kernel_rfl, c100, by kernel_rfl⟩
theorem c101 : compFunc Tryz.prog pur fi101 Tryz.f101 = some a101 := by kernel_rfl
theorem ok101 : FnOk 101 a101 := ⟨Tryz.f101, fi101, Tryz.func101, by kernel_rfl, c101, by kernel_rfl⟩
theorem c102 : compFunc Tryz.prog pur fi102 Tryz.f102 = some a102 := by kernel_rfl
theorem ok102 : FnOk 102 a102 := ⟨Tryz.f102, fi102, Tryz.func102, by kernel_rfl, c102, by kernel_rfl⟩
theorem c103 : compFunc Tryz.prog pur fi103 Tryz.f103 = some a103 := by kernel_rfl
theorem ok103 : FnOk 103 a103 := ⟨Tryz.f103, fi103, Tryz.func103, by kernel_rfl, c103, by kernel_rfl⟩
theorem c104 : compFunc Tryz.prog pur fi104 Tryz.f104 = some a104 := by kernel_rfl
theorem ok104 : FnOk 104 a104 := ⟨Tryz.f104, fi104, Tryz.func104, by kernel_rfl, c104, by kernel_rfl⟩
end Go.Abs.Z

namespace Go.Abs.Z
open Go.Proofs
theorem c105 : compFunc Tryz.prog pur fi105 Tryz.f105 = some a105 := by kernel_rfl
theorem ok105 : FnOk 105 a105 := ⟨Tryz.f105, fi105, Tryz.func105, by kernel_rfl, c105, by kernel_rfl⟩
theorem c106 : compFunc Tryz.prog pur fi106 Tryz.f106 = some a106 := by kernel_rfl
theorem ok106 : FnOk 106 a106 := ⟨Tryz.f106, fi106, Tryz.func106, by kernel_rfl, c106, by kernel_rfl⟩
theorem c107 : compFunc Tryz.prog pur fi107 Tryz.f107 = some a107 := by kernel_rfl
theorem ok107 : FnOk 107 a107 := ⟨Tryz.f107, fi107, Tryz.func107, by kernel_rfl, c107, by kernel_rfl⟩
theorem c108 : compFunc Tryz.prog pur fi108 Tryz.f108 = some a108 := by kernel_rfl
theorem ok108 : FnOk 108 a108 := ⟨Tryz.f108, fi108, Tryz.func108, by kernel_rfl, c108, by kernel_rfl⟩
theorem c109 : compFunc Tryz.prog pur fi109 Tryz.f109 = some a109 := by kernel_rfl
theorem ok109 : FnOk 109 a109 := ⟨Tryz.f109, fi109, Tryz.func109, by kernel_rfl, c109, by kernel_rfl⟩
theorem c110 : compFunc Tryz.prog pur fi110 Tryz.f110 = some a110 := by kernel_rfl
theorem ok110 : FnOk 110 a110 := ⟨Tryz.f110, fi110, Tryz.func110, by kernel_rfl, c110, by kernel_rfl⟩
theorem c112 : compFunc Tryz.prog pur fi112 Tryz.f112 = some a112 := by kernel_rfl
theorem ok112 : FnOk 112 a112 := ⟨Tryz.f112, fi112, Tryz.func112, by kernel_rfl, c112, by kernel_rfl⟩
theorem c116 : compFunc Tryz.prog pur fi116 Tryz.f116 = some a116 := by kernel_rfl
theorem ok116 : FnOk 116 a116 := ⟨Tryz.f116, fi116, Tryz.func116, by kernel_rfl, c116, by kernel_rfl⟩
theorem c117 : compFunc Tryz.prog pur fi117 Tryz.f117 = some a117 := by kernel_rfl
theorem ok117 : FnOk 117 a117 := ⟨Tryz.f117, fi117, Tryz.func117, by kernel_rfl, c117, by kernel_rfl⟩
theorem c119 : compFunc Tryz.prog pur fi119 Tryz.f119 = some a119 := by kernel_rfl
theorem ok119 : FnOk 119 a119 := ⟨Tryz.f119, fi119, Tryz.func119, by kernel_rfl, c119, by kernel_rfl⟩
theorem c120 : compFunc Tryz.prog pur fi120 Tryz.f120 = some a120 := by kernel_rfl
theorem ok120 : FnOk 120 a120 := ⟨Tryz.f120, fi120, Tryz.func120, by kernel_rfl, c120, by kernel_rfl⟩
theorem c122 : compFunc Tryz.prog pur fi122 Tryz.f122 = some a122 := by kernel_rfl
theorem ok122 : FnOk 122 a122 := ⟨Tryz.f122, fi122, Tryz.func122, by kernel_rfl, c122, by kernel_rfl⟩
theorem c125 : compFunc Tryz.prog pur fi125 Tryz.f125 = some a125 := by kernel_rfl
theorem ok125 : FnOk 125 a125 := ⟨Tryz.f125, fi125, Tryz.func125, by kernel_rfl, c125, by kernel_rfl⟩
theorem c126 : compFunc Tryz.prog pur fi126 Tryz.f126 = some a126 := by kernel_rfl
theorem ok126 : FnOk 126 a126 := ⟨Tryz.f126, fi126, Tryz.func126, by kernel_rfl, c126, by kernel_rfl⟩
theorem c128 : compFunc Tryz.prog pur fi128 Tryz.f128 = some a128 := by kernel_rfl
theorem ok128 : FnOk 128 a128 := ⟨Tryz.f128, fi128, Tryz.func128, by kernel_rfl, c128, by kernel_rfl⟩
theorem c145 : compFunc Tryz.prog pur fi145 Tryz.f145 = some a145 := by kernel_rfl
theorem ok145 : FnOk 145 a145 := ⟨Tryz.f145, fi145, Tryz.func145, by kernel_rfl, c145, by kernel_rfl⟩
theorem c155 : compFunc Tryz.prog pur fi155 Tryz.f155 = some a155 := by kernel_rfl
theorem ok155 : FnOk 155 a155 := ⟨Tryz.f155, fi155, Tryz.func155, by kernel_rfl, c155, by kernel_rfl⟩
theorem c156 : compFunc Tryz.prog pur fi156 Tryz.f156 = some a156 := by kernel_rfl
theorem ok156 : FnOk 156 a156 := ⟨Tryz.f156, fi156, Tryz.func156, by kernel_rfl, c156, by kernel_rfl⟩
theorem c157 : compFunc Tryz.prog pur fi157 Tryz.f157 = some a157 := by kernel_rfl
theorem ok157 : FnOk 157 a157 := ⟨Tryz.f157, fi157, Tryz.func157, by kernel_rfl, c157, by kernel_rfl⟩
theorem c158 : compFunc Tryz.prog pur fi158 Tryz.f158 = some a158 := by kernel_rfl
theorem ok158 : FnOk 158 a158 := ⟨Tryz.f158, fi158, Tryz.func158, by kernel_rfl, c158, by kernel_rfl⟩
theorem c159 : compFunc Tryz.prog pur fi159 Tryz.f159 = some a159 := by kernel_rfl
theorem ok159 : FnOk 159 a159 := ⟨Tryz.f159, fi159, Tryz.func159, by kernel_rfl, c159, by kernel_rfl⟩
theorem c161 : compFunc Tryz.prog pur fi161 Tryz.f161 = some a161 := by kernel_rfl
theorem ok161 : FnOk 161 a161 := ⟨Tryz.f161, fi161, Tryz.func161, by kernel_rfl, c161, by kernel_rfl⟩
theorem c162 : compFunc Tryz.prog pur fi162 Tryz.f162 = some a162 := by kernel_rfl
theorem ok162 : FnOk 162 a162 := ⟨Tryz.f162, fi162, Tryz.func162, by kernel_rfl, c162, by kernel_rfl⟩
theorem c165 : compFunc Tryz.prog pur fi165 Tryz.f165 = some a165 := by kernel_rfl
theorem ok165 : FnOk 165 a165 := ⟨Tryz.f165, fi165, Tryz.func165, by kernel_rfl, c165, by kernel_rfl⟩
theorem c167 : compFunc Tryz.prog pur fi167 Tryz.f167 = some a167 := by kernel_rfl
theorem ok167 : FnOk 167 a167 := ⟨Tryz.f167, fi167, Tryz.func167, by kernel_rfl, c167, by kernel_rfl⟩
theorem c169 : compFunc Tryz.prog pur fi169 Tryz.f169 = some a169 := by kernel_rfl
theorem ok169 : FnOk 169 a169 := ⟨Tryz.f169, fi169, Tryz.func169, by kernel_rfl, c169, by kernel_rfl⟩
theorem c170 : compFunc Tryz.prog pur fi170 Tryz.f170 = some a170 := by kernel_rfl
theorem ok170 : FnOk 170 a170 := ⟨Tryz.f170, fi170, Tryz.func170, by kernel_rfl, c170, by kernel_rfl⟩
theorem c171 : compFunc Tryz.prog pur fi171 Tryz.f171 = some a171 := by kernel_rfl
theorem ok171 : FnOk 171 a171 := ⟨Tryz.f171, fi171, Tryz.func171, by kernel_rfl, c171, by kernel_rfl⟩
theorem c173 : compFunc Tryz.prog pur fi173 Tryz.f173 = some a173 := by kernel_rfl
theorem ok173 : FnOk 173 a173 := ⟨Tryz.f173, fi173, Tryz.func173, by kernel_rfl, c173, by kernel_rfl⟩
theorem c174 : compFunc Tryz.prog pur fi174 Tryz.f174 = some a174 := by kernel_rfl
theorem ok174 : FnOk 174 a174 := ⟨Tryz.f174, fi174, Tryz.func174, by kernel_rfl, c174, by kernel_rfl⟩
theorem c175 : compFunc Tryz.prog pur fi175 Tryz.f175 = some a175 := by kernel_rfl
theorem ok175 : FnOk 175 a175 := ⟨Tryz.f175, fi175, Tryz.func175, by kernel_rfl, c175, by kernel_rfl⟩
theorem c176 : compFunc Tryz.prog pur fi176 Tryz.f176 = some a176 := by kernel_rfl
theorem ok176 : FnOk 176 a176 := ⟨Tryz.f176, fi176, Tryz.func176, by kernel_rfl, c176, by kernel_rfl⟩
theorem c177 : compFunc Tryz.prog pur fi177 Tryz.f177 = some a177 := by kernel_rfl
theorem ok177 : FnOk 177 a177 := ⟨Tryz.f177, fi177, Tryz.func177, by kernel_rfl, c177, by kernel_rfl⟩
theorem c178 : compFunc Tryz.prog pur fi178 Tryz.f178 = some a178 := by kernel_rfl
theorem ok178 : FnOk 178 a178 := ⟨Tryz.f178, fi178, Tryz.func178, by kernel_rfl, c178, by kernel_rfl⟩
theorem c180 : compFunc Tryz.prog pur fi180 Tryz.f180 = some a180 := by kernel_rfl
theorem ok180 : FnOk 180 a180 := ⟨Tryz.f180, fi180, Tryz.func180, by kernel_rfl, c180, by kernel_rfl⟩
theorem c181 : compFunc Tryz.prog pur fi181 Tryz.f181 = some a181 := by kernel_rfl
theorem ok181 : FnOk 181 a181 := ⟨Tryz.f181, fi181, Tryz.func181, by kernel_rfl, c181, by kernel_rfl⟩
theorem c182 : compFunc Tryz.prog pur fi182 Tryz.f182 = some a182 := by kernel_rfl
theorem ok182 : FnOk 182 a182 := ⟨Tryz.f182, fi182, Tryz.func182, by kernel_rfl, c182, by kernel_rfl⟩
theorem c183 : compFunc Tryz.prog pur fi183 Tryz.f183 = some a183 := by kernel_rfl
theorem ok183 : FnOk 183 a183 := ⟨Tryz.f183, fi183, Tryz.func183, by kernel_rfl, c183, by kernel_rfl⟩
theorem c184 : compFunc Tryz.prog pur fi184 Tryz.f184 = some a184 := by kernel_rfl
theorem ok184 : FnOk 184 a184 := ⟨Tryz.f184, fi184, Tryz.func184, by kernel_rfl, c184, by kernel_rfl⟩
theorem c186 : compFunc Tryz.prog pur fi186 Tryz.f186 = some a186 := by kernel_rfl
theorem ok186 : FnOk 186 a186 := ⟨Tryz.f186, fi186, Tryz.func186, by kernel_rfl, c186, by kernel_rfl⟩
theorem c189 : compFunc Tryz.prog pur fi189 Tryz.f189 = some a189 := by kernel_rfl
theorem ok189 : FnOk 189 a189 := ⟨Tryz.f189, fi189, Tryz.func189, by kernel_rfl, c189, by kernel_rfl⟩
theorem c191 : compFunc Tryz.prog pur fi191 Tryz.f191 = some a191 := by kernel_rfl
theorem ok191 : FnOk 191 a191 := ⟨Tryz.f191, fi191, Tryz.func191, by kernel_rfl, c191, by kernel_rfl⟩
theorem c192 : compFunc Tryz.prog pur fi192 Tryz.f192 = some a192 := by kernel_rfl
theorem ok192 : FnOk 192 a192 := ⟨Tryz.f192, fi192, Tryz.func192, by kernel_rfl, c192, by kernel_rfl⟩
theorem c193 : compFunc Tryz.prog pur fi193 Tryz.f193 = some a193 := by kernel_rfl
theorem ok193 : FnOk 193 a193 := ⟨Tryz.f193, fi193, Tryz.func193, by kernel_rfl, c193, by kernel_rfl⟩
theorem c195 : compFunc Tryz.prog pur fi195 Tryz.f195 = some a195 := by kernel_rfl
theorem ok195 : FnOk 195 a195 := ⟨Tryz.f195, fi195, Tryz.func195, by kernel_rfl, c195, by kernel_rfl⟩
theorem c196 : compFunc Tryz.prog pur fi196 Tryz.f196 = some a196 := by kernel_rfl
theorem ok196 : FnOk 196 a196 := ⟨Tryz.f196, fi196, Tryz.func196, by kernel_rfl, c196, by kernel_rfl⟩
theorem c199 : compFunc Tryz.prog pur fi199 Tryz.f199 = some a199 := by kernel_rfl
theorem ok199 : FnOk 199 a199 := ⟨Tryz.f199, fi199, Tryz.func199, by kernel_rfl, c199, by kernel_rfl⟩
theorem c211 : compFunc Tryz.prog pur fi211 Tryz.f211 = some a211 := by kernel_rfl
theorem ok211 : FnOk 211 a211 := ⟨Tryz.f211, fi211, Tryz.func211, by kernel_rfl, c211, by kernel_rfl⟩
theorem c232 : compFunc Tryz.prog pur fi232 Tryz.f232 = some a232 := by kernel_rfl
theorem ok232 : FnOk 232 a232 := ⟨Tryz.f232, fi232, Tryz.func232, by kernel_rfl, c232, by kernel_rfl⟩
theorem c233 : compFunc Tryz.prog pur fi233 Tryz.f233 = some a233 := by kernel_rfl
theorem ok233 : FnOk 233 a233 := ⟨Tryz.f233, fi233, Tryz.func233, by kernel_rfl, c233, by kernel_rfl⟩
theorem c234 : compFunc Tryz.prog pur fi234 Tryz.f234 = some a234 := by kernel_rfl
theorem ok234 : FnOk 234 a234 := ⟨Tryz.f234, fi234, Tryz.func234, by kernel_rfl, c234, by kernel_rfl⟩
theorem c235 : compFunc Tryz.prog pur fi235 Tryz.f235 = some a235 := by kernel_rfl
theorem ok235 : FnOk 235 a235 := ⟨Tryz.f235, fi235, Tryz.func235, by kernel_rfl, c235, by kernel_rfl⟩
theorem c237 : compFunc Tryz.prog pur fi237 Tryz.f237 = some a237 := by kernel_rfl
theorem ok237 : FnOk 237 a237 := ⟨Tryz.f237, fi237, Tryz.func237, by kernel_rfl, c237, by kernel_rfl⟩
theorem c238 : compFunc Tryz.prog pur fi238 Tryz.f238 = some a238 := by kernel_rfl
theorem ok238 : FnOk 238 a238 := ⟨Tryz.f238, fi238, Tryz.func238, by kernel_rfl, c238, by kernel_rfl⟩
theorem c239 : compFunc Tryz.prog pur fi239 Tryz.f239 = some a239 := by kernel_rfl
theorem ok239 : FnOk 239 a239 := ⟨Tryz.f239, fi239, Tryz.func239, by kernel_rfl, c239, by kernel_rfl⟩
theorem c240 : compFunc Tryz.prog pur fi240 Tryz.f240 = some a240 := by kernel_rfl
theorem ok240 : FnOk 240 a240 := ⟨Tryz.f240, fi240, Tryz.func240, by kernel_rfl, c240, by kernel_rfl⟩
theorem c241 : compFunc Tryz.prog pur fi241 Tryz.f241 = some a241 := by kernel_rfl
theorem ok241 : FnOk 241 a241 := ⟨Tryz.f241, fi241, Tryz.func241, by kernel_rfl, c241, by kernel_rfl⟩
theorem c242 : compFunc Tryz.prog pur fi242 Tryz.f242 = some a242 := by kernel_rfl
theorem ok242 : FnOk 242 a242 := ⟨Tryz.f242, fi242, Tryz.func242, by kernel_rfl, c242, by kernel_rfl⟩
theorem c243 : compFunc Tryz.prog pur fi243 Tryz.f243 = some a243 := by kernel_rfl
theorem ok243 : FnOk 243 a243 := ⟨Tryz.f243, fi243, Tryz.func243, by kernel_rfl, c243, by kernel_rfl⟩
theorem c245 : compFunc Tryz.prog pur fi245 Tryz.f245 = some a245 := by kernel_rfl
theorem ok245 : FnOk 245 a245 := ⟨Tryz.f245, fi245, Tryz.func245, by kernel_rfl, c245, by kernel_rfl⟩
theorem c247 : compFunc Tryz.prog pur fi247 Tryz.f247 = some a247 := by kernel_rfl
theorem ok247 : FnOk 247 a247 := ⟨Tryz.f247, fi247, Tryz.func247, by kernel_rfl, c247, by kernel_rfl⟩
theorem c248 : compFunc Tryz.prog pur fi248 Tryz.f248 = some a248 := by kernel_rfl
theorem ok248 : FnOk 248 a248 := ⟨Tryz.f248, fi248, Tryz.func248, by kernel_rfl, c248, by kernel_rfl⟩
theorem c251 : compFunc Tryz.prog pur fi251 Tryz.f251 = some a251 := by kernel_rfl
theorem ok251 : FnOk 251 a251 := ⟨Tryz.f251, fi251, Tryz.func251, by kernel_rfl, c251, by kernel_rfl⟩
theorem c254 : compFunc Tryz.prog pur fi254 Tryz.f254 = some a254 := by kernel_rfl
theorem ok254 : FnOk 254 a254 := ⟨Tryz.f254, fi254, Tryz.func254, by kernel_rfl, c254, by kernel_rfl⟩
theorem c256 : compFunc Tryz.prog pur fi256 Tryz.f256 = some a256 := by kernel_rfl
theorem ok256 : FnOk 256 a256 := ⟨Tryz.f256, fi256, Tryz.func256, by kernel_rfl, c256, by kernel_rfl⟩
theorem c258 : compFunc Tryz.prog pur fi258 Tryz.f258 = some a258 := by kernel_rfl
theorem ok258 : FnOk 258 a258 := ⟨Tryz.f258, fi258, Tryz.func258, by kernel_rfl, c258, by kernel_rfl⟩
theorem c264 : compFunc Tryz.prog pur fi264 Tryz.f264 = some a264 := by kernel_rfl
theorem ok264 : FnOk 264 a264 := ⟨Tryz.f264, fi264, Tryz.func264, by kernel_rfl, c264, by kernel_rfl⟩
theorem c265 : compFunc Tryz.prog pur fi265 Tryz.f265 = some a265 := by kernel_rfl
theorem ok265 : FnOk 265 a265 := ⟨Tryz.f265, fi265, Tryz.func265, by kernel_rfl, c265, by kernel_rfl⟩
theorem c281 : compFunc Tryz.prog pur fi281 Tryz.f281 = some a281 := by kernel_rfl
theorem ok281 : FnOk 281 a281 := ⟨Tryz.f281, fi281, Tryz.func281, by kernel_rfl, c281, by kernel_rfl⟩
theorem c282 : compFunc Tryz.prog pur fi282 Tryz.f282 = some a282 := by kernel_rfl
theorem ok282 : FnOk 282 a282 := ⟨Tryz.f282, fi282, Tryz.func282, by kernel_rfl, c282, by kernel_rfl⟩
theorem c283 : compFunc Tryz.prog pur fi283 Tryz.f283 = some a283 := by kernel_rfl
theorem ok283 : FnOk 283 a283 := ⟨Tryz.f283, fi283, Tryz.func283, by kernel_rfl, c283, by kernel_rfl⟩
theorem c284 : compFunc Tryz.prog pur fi284 Tryz.f284 = some a284 := by kernel_rfl
theorem ok284 : FnOk 284 a284 := ⟨Tryz.f284, fi284, Tryz.func284, by kernel_rfl, c284, by kernel_rfl⟩
theorem c285 : compFunc Tryz.prog pur fi285 Tryz.f285 = some a285 := by kernel_rfl
theorem ok285 : FnOk 285 a285 := ⟨Tryz.f285, fi285, Tryz.func285, by kernel_rfl, c285, by kernel_rfl⟩
theorem c286 : compFunc Tryz.prog pur fi286 Tryz.f286 = some a286 := by kernel_rfl
theorem ok286 : FnOk 286 a286 := ⟨Tryz.f286, fi286, Tryz.func286, by kernel_rfl, c286, by kernel_rfl⟩
theorem c287 : compFunc Tryz.prog pur fi287 Tryz.f287 = some a287 := by kernel_rfl
theorem ok287 : FnOk 287 a287 := ⟨Tryz.f287, fi287, Tryz.func287, by kernel_rfl, c287, by kernel_rfl⟩
theorem c288 : compFunc Tryz.prog pur fi288 Tryz.f288 = some a288 := by kernel_rfl
theorem ok288 : FnOk 288 a288 := ⟨Tryz.f288, fi288, Tryz.func288, by kernel_rfl, c288, by kernel_rfl⟩
theorem c290 : compFunc Tryz.prog pur fi290 Tryz.f290 = some a290 := by kernel_rfl
theorem ok290 : FnOk 290 a290 := ⟨Tryz.f290, fi290, Tryz.func290, by kernel_rfl, c290, by kernel_rfl⟩
theorem c293 : compFunc Tryz.prog pur fi293 Tryz.f293 = some a293 := by kernel_rfl
theorem ok293 : FnOk 293 a293 := ⟨Tryz.f293, fi293, Tryz.func293, by kernel_rfl, c293, by kernel_rfl⟩
theorem c296 : compFunc Tryz.prog pur fi296 Tryz.f296 = some a296 := by kernel_rfl
theorem ok296 : FnOk 296 a296 := ⟨Tryz.f296, fi296, Tryz.func296, by kernel_rfl, c296, by kernel_rfl⟩
theorem c331 : compFunc Tryz.prog pur fi331 Tryz.f331 = some a331 := by kernel_rfl
theorem ok331 : FnOk 331 a331 := ⟨Tryz.f331, fi331, Tryz.func331, by kernel_rfl, c331, by kernel_rfl⟩
theorem c333 : compFunc Tryz.prog pur fi333 Tryz.f333 = some a333 := by kernel_rfl
theorem ok333 : FnOk 333 a333 := ⟨Tryz.f333, fi333, Tryz.func333, by kernel_rfl, c333, by kernel_rfl⟩
theorem c334 : compFunc Tryz.prog pur fi334 Tryz.f334 = some a334 := by kernel_rfl
theorem ok334 : FnOk 334 a334 := ⟨Tryz.f334, fi334, Tryz.func334, by kernel_rfl, c334, by kernel_rfl⟩
theorem c336 : compFunc Tryz.prog pur fi336 Tryz.f336 = some a336 := by kernel_rfl
theorem ok336 : FnOk 336 a336 := ⟨Tryz.f336, fi336, Tryz.func336, by kernel_rfl, c336, by kernel_rfl⟩
theorem c338 : compFunc Tryz.prog pur fi338 Tryz.f338 = some a338 := by kernel_rfl
theorem ok338 : FnOk 338 a338 := ⟨Tryz.f338, fi338, Tryz.func338, by kernel_rfl, c338, by kernel_rfl⟩
theorem c350 : compFunc Tryz.prog pur fi350 Tryz.f350 = some a350 := by kernel_rfl
theorem ok350 : FnOk 350 a350 := ⟨Tryz.f350, fi350, Tryz.func350, by kernel_rfl, c350, by kernel_rfl⟩
theorem c351 : compFunc Tryz.prog pur fi351 Tryz.f351 = some a351 := by kernel_rfl
theorem ok351 : FnOk 351 a351 := ⟨Tryz.f351, fi351, Tryz.func351, by kernel_rfl, c351, by kernel_rfl⟩
theorem c355 : compFunc Tryz.prog pur fi355 Tryz.f355 = some a355 := by kernel_rfl
theorem ok355 : FnOk 355 a355 := ⟨Tryz.f355, fi355, Tryz.func355, by kernel_rfl, c355, by kernel_rfl⟩
theorem c359 : compFunc Tryz.prog pur fi359 Tryz.f359 = some a359 := by kernel_rfl
theorem ok359 : FnOk 359 a359 := ⟨Tryz.f359, fi359, Tryz.func359, by kernel_rfl, c359, by kernel_rfl⟩
theorem c363 : compFunc Tryz.prog pur fi363 Tryz.f363 = some a363 := by kernel_rfl
theorem ok363 : FnOk 363 a363 := ⟨Tryz.f363, fi363, Tryz.func363, by kernel_rfl, c363, by kernel_rfl⟩
theorem c364 : compFunc Tryz.prog pur fi364 Tryz.f364 = some a364 := by kernel_rfl
theorem ok364 : FnOk 364 a364 := ⟨Tryz.f364, fi364, Tryz.func364, by kernel_rfl, c364, by kernel_rfl⟩
end Go.Abs.Z

namespace Go.Abs.Z
open Go.Proofs
def tabL : List (FuncId × AFunc) := [(107, a107), (174, a174), (110, a110), (284, a284), (282, a282), (173, a173), (242, a242), (195, a195), (264, a264), (232, a232), (243, a243), (240, a240), (64, a64), (175, a175), (285, a285), (157, a157), (237, a237), (184, a184), (238, a238), (55, a55), (28, a28), (254, a254), (105, a105), (156, a156), (109, a109), (126, a126), (180, a180), (239, a239), (29, a29), (99, a99), (159, a159), (287, a287), (100, a100), (59, a59), (286, a286), (331, a331), (42, a42), (85, a85), (176, a176), (258, a258), (333, a333), (63, a63), (256, a256), (283, a283), (33, a33), (177, a177), (158, a158), (34, a34), (162, a162), (86, a86), (128, a128), (182, a182), (37, a37), (234, a234), (281, a281), (57, a57), (92, a92), (97, a97), (122, a122), (155, a155), (170, a170), (189, a189), (192, a192), (199, a199), (211, a211), (245, a245), (247, a247), (248, a248), (290, a290), (293, a293), (296, a296), (334, a334), (336, a336), (338, a338), (350, a350), (351, a351), (355, a355), (359, a359), (363, a363), (364, a364), (21, a21), (69, a69), (116, a116), (15, a15), (117, a117), (11, a11), (25, a25), (26, a26), (52, a52), (53, a53), (56, a56), (98, a98), (39, a39), (47, a47), (67, a67), (68, a68), (73, a73), (77, a77), (80, a80), (82, a82), (83, a83), (84, a84), (106, a106), (108, a108), (112, a112), (125, a125), (169, a169), (171, a171), (178, a178), (181, a181), (183, a183), (193, a193), (196, a196), (241, a241), (265, a265), (288, a288), (40, a40), (61, a61), (66, a66), (70, a70), (71, a71), (74, a74), (75, a75), (102, a102), (103, a103), (119, a119), (120, a120), (186, a186), (191, a191), (251, a251), (17, a17), (20, a20), (43, a43), (44, a44), (45, a45), (46, a46), (54, a54), (91, a91), (101, a101), (104, a104), (145, a145), (161, a161), (165, a165), (167, a167), (233, a233), (235, a235), (4, a4), (6, a6), (8, a8), (13, a13), (14, a14), (16, a16), (18, a18), (19, a19), (27, a27), (31, a31), (35, a35), (36, a36), (38, a38), (48, a48), (60, a60), (62, a62), (65, a65), (3, a3), (5, a5), (7, a7), (9, a9), (10, a10), (12, a12), (22, a22), (24, a24)]
noncomputable def lookK (l : List (FuncId × AFunc)) (f : FuncId) : Option AFunc := List.rec (motive := fun _ => Option AFunc) none (fun p _ ih => cond (Nat.beq p.1 f) (some p.2) ih) l
noncomputable def tab (f : FuncId) : Option AFunc := lookK tabL f
theorem lookK_ok : ∀ (l : List (FuncId × AFunc)), (∀ x ∈ l, FnOk x.1 x.2) → ∀ f af, lookK l f = some af → FnOk f af
  | [], _, f, af, h => by cases h
  | p :: l, hl, f, af, h => by
    have h' : cond (Nat.beq p.1 f) (some p.2) (lookK l f) = some af := h
    cases hb : Nat.beq p.1 f with
    | true =>
      rw [hb] at h'
      cases h'
      have : p.1 = f := Nat.eq_of_beq_eq_true hb
      rw [← this]; exact hl p (List.mem_cons_self ..)
    | false => rw [hb] at h'; exact lookK_ok l (fun x hx => hl x (List.mem_cons_of_mem _ hx)) f af h'
theorem all_cons {p : FuncId × AFunc} {l : List (FuncId × AFunc)} (h : FnOk p.1 p.2) (hl : ∀ x ∈ l, FnOk x.1 x.2) : ∀ x ∈ p :: l, FnOk x.1 x.2 := by
  intro x hx
  rcases List.mem_cons.1 hx with rfl | hx
  · exact h
  · exact hl x hx
theorem all_nil : ∀ x ∈ ([] : List (FuncId × AFunc)), FnOk x.1 x.2 := fun x hx => by cases hx
set_option maxRecDepth 10000 in
theorem tabL_ok : ∀ x ∈ tabL, FnOk x.1 x.2 :=
  all_cons ok107 <| all_cons ok174 <| all_cons ok110 <| all_cons ok284 <| all_cons ok282 <| all_cons ok173 <| all_cons ok242 <| all_cons ok195 <| all_cons ok264 <| all_cons ok232 <| all_cons ok243 <| all_cons ok240 <| all_cons ok64 <| all_cons ok175 <| all_cons ok285 <| all_cons ok157 <| all_cons ok237 <| all_cons ok184 <| all_cons ok238 <| all_cons ok55 <| all_cons ok28 <| all_cons ok254 <| all_cons ok105 <| all_cons ok156 <| all_cons ok109 <| all_cons ok126 <| all_cons ok180 <| all_cons ok239 <| all_cons ok29 <| all_cons ok99 <| all_cons ok159 <| all_cons ok287 <| all_cons ok100 <| all_cons ok59 <| all_cons ok286 <| all_cons ok331 <| all_cons ok42 <| all_cons ok85 <| all_cons ok176 <| all_cons ok258 <| all_cons ok333 <| all_cons ok63 <| all_cons ok256 <| all_cons ok283 <| all_cons ok33 <| all_cons ok177 <| all_cons ok158 <| all_cons ok34 <| all_cons ok162 <| all_cons ok86 <| all_cons ok128 <| all_cons ok182 <| all_cons ok37 <| all_cons ok234 <| all_cons ok281 <| all_cons ok57 <| all_cons ok92 <| all_cons ok97 <| all_cons ok122 <| all_cons ok155 <| all_cons ok170 <| all_cons ok189 <| all_cons ok192 <| all_cons ok199 <| all_cons ok211 <| all_cons ok245 <| all_cons ok247 <| all_cons ok248 <| all_cons ok290 <| all_cons ok293 <| all_cons ok296 <| all_cons ok334 <| all_cons ok336 <| all_cons ok338 <| all_cons ok350 <| all_cons ok351 <| all_cons ok355 <| all_cons ok359 <| all_cons ok363 <| all_cons ok364 <| all_cons ok21 <| all_cons ok69 <| all_cons ok116 <| all_cons ok15 <| all_cons ok117 <| all_cons ok11 <| all_cons ok25 <| all_cons ok26 <| all_cons ok52 <| all_cons ok53 <| all_cons ok56 <| all_cons ok98 <| all_cons ok39 <| all_cons ok47 <| all_cons ok67 <| all_cons ok68 <| all_cons ok73 <| all_cons ok77 <| all_cons ok80 <| all_cons ok82 <| all_cons ok83 <| all_cons ok84 <| all_cons ok106 <| all_cons ok108 <| all_cons ok112 <| all_cons ok125 <| all_cons ok169 <| all_cons ok171 <| all_cons ok178 <| all_cons ok181 <| all_cons ok183 <| all_cons ok193 <| all_cons ok196 <| all_cons ok241 <| all_cons ok265 <| all_cons ok288 <| all_cons ok40 <| all_cons ok61 <| all_cons ok66 <| all_cons ok70 <| all_cons ok71 <| all_cons ok74 <| all_cons ok75 <| all_cons ok102 <| all_cons ok103 <| all_cons ok119 <| all_cons ok120 <| all_cons ok186 <| all_cons ok191 <| all_cons ok251 <| all_cons ok17 <| all_cons ok20 <| all_cons ok43 <| all_cons ok44 <| all_cons ok45 <| all_cons ok46 <| all_cons ok54 <| all_cons ok91 <| all_cons ok101 <| all_cons ok104 <| all_cons ok145 <| all_cons ok161 <| all_cons ok165 <| all_cons ok167 <| all_cons ok233 <| all_cons ok235 <| all_cons ok4 <| all_cons ok6 <| all_cons ok8 <| all_cons ok13 <| all_cons ok14 <| all_cons ok16 <| all_cons ok18 <| all_cons ok19 <| all_cons ok27 <| all_cons ok31 <| all_cons ok35 <| all_cons ok36 <| all_cons ok38 <| all_cons ok48 <| all_cons ok60 <| all_cons ok62 <| all_cons ok65 <| all_cons ok3 <| all_cons ok5 <| all_cons ok7 <| all_cons ok9 <| all_cons ok10 <| all_cons ok12 <| all_cons ok22 <| all_cons ok24 <| all_nil
theorem tabOk : TabOk Tryz.prog pur tab := fun f af h => lookK_ok tabL tabL_ok f af h
theorem mixed : Tryz.prog.follows .mixedOrders = true := by kernel_rfl
end Go.Abs.Z
