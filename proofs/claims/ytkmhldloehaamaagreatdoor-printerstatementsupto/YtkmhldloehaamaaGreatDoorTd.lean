/- A part of the proof: T3 T4 T5. -/
import Derived.Test.YtkmhldloehaamaaGreatDoorTa
import Derived.Test.YtkmhldloehaamaaGreatDoorTb
import Derived.Test.YtkmhldloehaamaaGreatDoorProg
import Derived.KernelRfl
import Derived.Test.YtkmhldloehaamaaGreatDoorTc

set_option linter.unusedVariables false
set_option linter.unusedSimpArgs false
namespace Go.Abs.Z
open Go.Proofs
def FnOk (f : FuncId) (af : AFunc) : Prop := ∃ fn fi, Tryz.prog.funcs[f]? = some fn ∧ (fn.name == "runtime.NumGoroutine") = false ∧ AjR Tryz.prog pur fi fn = some af ∧ AxR (af.ntmps + af.extra) af.code = true
theorem c8 : AjR Tryz.prog pur fi8 Tryz.f4 = some a8 := by kernel_rfl
theorem ok8 : FnOk 4 a8 := ⟨Tryz.f4, fi8, Tryz.func4, by kernel_rfl, c8, by kernel_rfl⟩
theorem c9 : AjR Tryz.prog pur fi9 Tryz.f6 = some a9 := by kernel_rfl
theorem ok9 : FnOk 6 a9 := ⟨Tryz.f6, fi9, Tryz.func6, by kernel_rfl, c9, by kernel_rfl⟩
theorem c10 : AjR Tryz.prog pur fi10 Tryz.f22 = some a10 := by kernel_rfl
theorem ok10 : FnOk 22 a10 := ⟨Tryz.f22, fi10, Tryz.func22, by kernel_rfl, c10, by kernel_rfl⟩
theorem c11 : AjR Tryz.prog pur fi11 Tryz.f152 = some a11 := by kernel_rfl
theorem ok11 : FnOk 152 a11 := ⟨Tryz.f152, fi11, Tryz.func152, by kernel_rfl, c11, by kernel_rfl⟩
theorem ok12 : FnOk 190 a12 := ⟨_, fi12, Tryz.func190, by kernel_rfl, by kernel_rfl, by kernel_rfl⟩
theorem ok13 : FnOk 102 a13 := ⟨_, fi13, Tryz.func102, by kernel_rfl, by kernel_rfl, by kernel_rfl⟩
theorem ok15 : FnOk 19 a15 := ⟨_, fi15, Tryz.func19, by kernel_rfl, by kernel_rfl, by kernel_rfl⟩
theorem ok17 : FnOk 18 a17 := ⟨_, fi17, Tryz.func18, by kernel_rfl, by kernel_rfl, by kernel_rfl⟩
theorem ok18 : FnOk 10 a18 := ⟨_, fi18, Tryz.func10, by kernel_rfl, by kernel_rfl, by kernel_rfl⟩
theorem ok20 : FnOk 21 a20 := ⟨_, fi20, Tryz.func21, by kernel_rfl, by kernel_rfl, by kernel_rfl⟩
theorem ok21 : FnOk 20 a21 := ⟨_, fi21, Tryz.func20, by kernel_rfl, by kernel_rfl, by kernel_rfl⟩
theorem ok23 : FnOk 8 a23 := ⟨_, fi23, Tryz.func8, by kernel_rfl, by kernel_rfl, by kernel_rfl⟩
theorem ok24 : FnOk 7 a24 := ⟨_, fi24, Tryz.func7, by kernel_rfl, by kernel_rfl, by kernel_rfl⟩
theorem ok25 : FnOk 15 a25 := ⟨_, fi25, Tryz.func15, by kernel_rfl, by kernel_rfl, by kernel_rfl⟩
theorem ok26 : FnOk 56 a26 := ⟨_, fi26, Tryz.func56, by kernel_rfl, by kernel_rfl, by kernel_rfl⟩
theorem ok27 : FnOk 91 a27 := ⟨_, fi27, Tryz.func91, by kernel_rfl, by kernel_rfl, by kernel_rfl⟩
theorem ok28 : FnOk 89 a28 := ⟨_, fi28, Tryz.func89, by kernel_rfl, by kernel_rfl, by kernel_rfl⟩
theorem ok29 : FnOk 151 a29 := ⟨_, fi29, Tryz.func151, by kernel_rfl, by kernel_rfl, by kernel_rfl⟩
theorem ok30 : FnOk 196 a30 := ⟨_, fi30, Tryz.func196, by kernel_rfl, by kernel_rfl, by kernel_rfl⟩
theorem ok31 : FnOk 153 a31 := ⟨_, fi31, Tryz.func153, by kernel_rfl, by kernel_rfl, by kernel_rfl⟩
theorem ok33 : FnOk 23 a33 := ⟨_, fi33, Tryz.func23, by kernel_rfl, by kernel_rfl, by kernel_rfl⟩
theorem ok34 : FnOk 53 a34 := ⟨_, fi34, Tryz.func53, by kernel_rfl, by kernel_rfl, by kernel_rfl⟩
theorem ok35 : FnOk 26 a35 := ⟨_, fi35, Tryz.func26, by kernel_rfl, by kernel_rfl, by kernel_rfl⟩
theorem ok36 : FnOk 27 a36 := ⟨_, fi36, Tryz.func27, by kernel_rfl, by kernel_rfl, by kernel_rfl⟩
theorem ok37 : FnOk 17 a37 := ⟨_, fi37, Tryz.func17, by kernel_rfl, by kernel_rfl, by kernel_rfl⟩
theorem ok38 : FnOk 28 a38 := ⟨_, fi38, Tryz.func28, by kernel_rfl, by kernel_rfl, by kernel_rfl⟩
theorem ok39 : FnOk 44 a39 := ⟨_, fi39, Tryz.func44, by kernel_rfl, by kernel_rfl, by kernel_rfl⟩
theorem ok40 : FnOk 45 a40 := ⟨_, fi40, Tryz.func45, by kernel_rfl, by kernel_rfl, by kernel_rfl⟩
theorem ok42 : FnOk 47 a42 := ⟨_, fi42, Tryz.func47, by kernel_rfl, by kernel_rfl, by kernel_rfl⟩
theorem ok44 : FnOk 49 a44 := ⟨_, fi44, Tryz.func49, by kernel_rfl, by kernel_rfl, by kernel_rfl⟩
theorem ok45 : FnOk 50 a45 := ⟨_, fi45, Tryz.func50, by kernel_rfl, by kernel_rfl, by kernel_rfl⟩
theorem ok46 : FnOk 51 a46 := ⟨_, fi46, Tryz.func51, by kernel_rfl, by kernel_rfl, by kernel_rfl⟩
theorem ok47 : FnOk 52 a47 := ⟨_, fi47, Tryz.func52, by kernel_rfl, by kernel_rfl, by kernel_rfl⟩
theorem ok48 : FnOk 55 a48 := ⟨_, fi48, Tryz.func55, by kernel_rfl, by kernel_rfl, by kernel_rfl⟩
theorem ok49 : FnOk 54 a49 := ⟨_, fi49, Tryz.func54, by kernel_rfl, by kernel_rfl, by kernel_rfl⟩
theorem ok50 : FnOk 30 a50 := ⟨_, fi50, Tryz.func30, by kernel_rfl, by kernel_rfl, by kernel_rfl⟩
theorem ok51 : FnOk 101 a51 := ⟨_, fi51, Tryz.func101, by kernel_rfl, by kernel_rfl, by kernel_rfl⟩
theorem ok52 : FnOk 25 a52 := ⟨_, fi52, Tryz.func25, by kernel_rfl, by kernel_rfl, by kernel_rfl⟩
theorem ok53 : FnOk 5 a53 := ⟨_, fi53, Tryz.func5, by kernel_rfl, by kernel_rfl, by kernel_rfl⟩
theorem ok54 : FnOk 24 a54 := ⟨_, fi54, Tryz.func24, by kernel_rfl, by kernel_rfl, by kernel_rfl⟩
theorem ok55 : FnOk 59 a55 := ⟨_, fi55, Tryz.func59, by kernel_rfl, by kernel_rfl, by kernel_rfl⟩
theorem ok56 : FnOk 57 a56 := ⟨_, fi56, Tryz.func57, by kernel_rfl, by kernel_rfl, by kernel_rfl⟩
theorem ok57 : FnOk 60 a57 := ⟨_, fi57, Tryz.func60, by kernel_rfl, by kernel_rfl, by kernel_rfl⟩
theorem ok59 : FnOk 63 a59 := ⟨_, fi59, Tryz.func63, by kernel_rfl, by kernel_rfl, by kernel_rfl⟩
theorem ok60 : FnOk 41 a60 := ⟨_, fi60, Tryz.func41, by kernel_rfl, by kernel_rfl, by kernel_rfl⟩
theorem ok61 : FnOk 42 a61 := ⟨_, fi61, Tryz.func42, by kernel_rfl, by kernel_rfl, by kernel_rfl⟩
theorem ok62 : FnOk 43 a62 := ⟨_, fi62, Tryz.func43, by kernel_rfl, by kernel_rfl, by kernel_rfl⟩
theorem ok63 : FnOk 64 a63 := ⟨_, fi63, Tryz.func64, by kernel_rfl, by kernel_rfl, by kernel_rfl⟩
end Go.Abs.Z

namespace Go.Abs.Z
open Go.Proofs
theorem ok64 : FnOk 93 a64 := ⟨_, fi64, Tryz.func93, by kernel_rfl, by kernel_rfl, by kernel_rfl⟩
theorem ok65 : FnOk 66 a65 := ⟨_, fi65, Tryz.func66, by kernel_rfl, by kernel_rfl, by kernel_rfl⟩
theorem ok66 : FnOk 68 a66 := ⟨_, fi66, Tryz.func68, by kernel_rfl, by kernel_rfl, by kernel_rfl⟩
theorem ok68 : FnOk 65 a68 := ⟨_, fi68, Tryz.func65, by kernel_rfl, by kernel_rfl, by kernel_rfl⟩
theorem ok69 : FnOk 95 a69 := ⟨_, fi69, Tryz.func95, by kernel_rfl, by kernel_rfl, by kernel_rfl⟩
theorem ok70 : FnOk 67 a70 := ⟨_, fi70, Tryz.func67, by kernel_rfl, by kernel_rfl, by kernel_rfl⟩
theorem ok71 : FnOk 70 a71 := ⟨_, fi71, Tryz.func70, by kernel_rfl, by kernel_rfl, by kernel_rfl⟩
theorem ok72 : FnOk 96 a72 := ⟨_, fi72, Tryz.func96, by kernel_rfl, by kernel_rfl, by kernel_rfl⟩
theorem ok73 : FnOk 97 a73 := ⟨_, fi73, Tryz.func97, by kernel_rfl, by kernel_rfl, by kernel_rfl⟩
theorem ok74 : FnOk 100 a74 := ⟨_, fi74, Tryz.func100, by kernel_rfl, by kernel_rfl, by kernel_rfl⟩
theorem ok75 : FnOk 98 a75 := ⟨_, fi75, Tryz.func98, by kernel_rfl, by kernel_rfl, by kernel_rfl⟩
theorem ok76 : FnOk 99 a76 := ⟨_, fi76, Tryz.func99, by kernel_rfl, by kernel_rfl, by kernel_rfl⟩
theorem ok77 : FnOk 58 a77 := ⟨_, fi77, Tryz.func58, by kernel_rfl, by kernel_rfl, by kernel_rfl⟩
theorem ok78 : FnOk 61 a78 := ⟨_, fi78, Tryz.func61, by kernel_rfl, by kernel_rfl, by kernel_rfl⟩
theorem ok79 : FnOk 16 a79 := ⟨_, fi79, Tryz.func16, by kernel_rfl, by kernel_rfl, by kernel_rfl⟩
theorem ok80 : FnOk 103 a80 := ⟨_, fi80, Tryz.func103, by kernel_rfl, by kernel_rfl, by kernel_rfl⟩
theorem c81 : AjR Tryz.prog pur fi81 Tryz.f104 = some a81 := by kernel_rfl
theorem ok81 : FnOk 104 a81 := ⟨Tryz.f104, fi81, Tryz.func104, by kernel_rfl, c81, by kernel_rfl⟩
theorem ok83 : FnOk 106 a83 := ⟨_, fi83, Tryz.func106, by kernel_rfl, by kernel_rfl, by kernel_rfl⟩
theorem ok84 : FnOk 107 a84 := ⟨_, fi84, Tryz.func107, by kernel_rfl, by kernel_rfl, by kernel_rfl⟩
theorem ok85 : FnOk 108 a85 := ⟨_, fi85, Tryz.func108, by kernel_rfl, by kernel_rfl, by kernel_rfl⟩
theorem ok86 : FnOk 109 a86 := ⟨_, fi86, Tryz.func109, by kernel_rfl, by kernel_rfl, by kernel_rfl⟩
theorem ok87 : FnOk 110 a87 := ⟨_, fi87, Tryz.func110, by kernel_rfl, by kernel_rfl, by kernel_rfl⟩
theorem ok88 : FnOk 111 a88 := ⟨_, fi88, Tryz.func111, by kernel_rfl, by kernel_rfl, by kernel_rfl⟩
theorem ok89 : FnOk 112 a89 := ⟨_, fi89, Tryz.func112, by kernel_rfl, by kernel_rfl, by kernel_rfl⟩
theorem ok90 : FnOk 113 a90 := ⟨_, fi90, Tryz.func113, by kernel_rfl, by kernel_rfl, by kernel_rfl⟩
theorem ok91 : FnOk 114 a91 := ⟨_, fi91, Tryz.func114, by kernel_rfl, by kernel_rfl, by kernel_rfl⟩
theorem ok92 : FnOk 115 a92 := ⟨_, fi92, Tryz.func115, by kernel_rfl, by kernel_rfl, by kernel_rfl⟩
theorem ok93 : FnOk 116 a93 := ⟨_, fi93, Tryz.func116, by kernel_rfl, by kernel_rfl, by kernel_rfl⟩
theorem ok94 : FnOk 117 a94 := ⟨_, fi94, Tryz.func117, by kernel_rfl, by kernel_rfl, by kernel_rfl⟩
theorem ok95 : FnOk 118 a95 := ⟨_, fi95, Tryz.func118, by kernel_rfl, by kernel_rfl, by kernel_rfl⟩
theorem ok96 : FnOk 119 a96 := ⟨_, fi96, Tryz.func119, by kernel_rfl, by kernel_rfl, by kernel_rfl⟩
theorem ok97 : FnOk 120 a97 := ⟨_, fi97, Tryz.func120, by kernel_rfl, by kernel_rfl, by kernel_rfl⟩
theorem ok98 : FnOk 121 a98 := ⟨_, fi98, Tryz.func121, by kernel_rfl, by kernel_rfl, by kernel_rfl⟩
theorem ok99 : FnOk 122 a99 := ⟨_, fi99, Tryz.func122, by kernel_rfl, by kernel_rfl, by kernel_rfl⟩
theorem ok100 : FnOk 123 a100 := ⟨_, fi100, Tryz.func123, by kernel_rfl, by kernel_rfl, by kernel_rfl⟩
theorem ok101 : FnOk 124 a101 := ⟨_, fi101, Tryz.func124, by kernel_rfl, by kernel_rfl, by kernel_rfl⟩
theorem ok102 : FnOk 125 a102 := ⟨_, fi102, Tryz.func125, by kernel_rfl, by kernel_rfl, by kernel_rfl⟩
theorem ok103 : FnOk 126 a103 := ⟨_, fi103, Tryz.func126, by kernel_rfl, by kernel_rfl, by kernel_rfl⟩
theorem ok104 : FnOk 127 a104 := ⟨_, fi104, Tryz.func127, by kernel_rfl, by kernel_rfl, by kernel_rfl⟩
theorem ok105 : FnOk 128 a105 := ⟨_, fi105, Tryz.func128, by kernel_rfl, by kernel_rfl, by kernel_rfl⟩
theorem ok106 : FnOk 129 a106 := ⟨_, fi106, Tryz.func129, by kernel_rfl, by kernel_rfl, by kernel_rfl⟩
theorem ok107 : FnOk 87 a107 := ⟨_, fi107, Tryz.func87, by kernel_rfl, by kernel_rfl, by kernel_rfl⟩
theorem ok108 : FnOk 88 a108 := ⟨_, fi108, Tryz.func88, by kernel_rfl, by kernel_rfl, by kernel_rfl⟩
theorem ok109 : FnOk 90 a109 := ⟨_, fi109, Tryz.func90, by kernel_rfl, by kernel_rfl, by kernel_rfl⟩
theorem ok110 : FnOk 92 a110 := ⟨_, fi110, Tryz.func92, by kernel_rfl, by kernel_rfl, by kernel_rfl⟩
theorem ok111 : FnOk 130 a111 := ⟨_, fi111, Tryz.func130, by kernel_rfl, by kernel_rfl, by kernel_rfl⟩
theorem ok112 : FnOk 131 a112 := ⟨_, fi112, Tryz.func131, by kernel_rfl, by kernel_rfl, by kernel_rfl⟩
theorem ok113 : FnOk 148 a113 := ⟨_, fi113, Tryz.func148, by kernel_rfl, by kernel_rfl, by kernel_rfl⟩
theorem ok114 : FnOk 132 a114 := ⟨_, fi114, Tryz.func132, by kernel_rfl, by kernel_rfl, by kernel_rfl⟩
theorem ok115 : FnOk 133 a115 := ⟨_, fi115, Tryz.func133, by kernel_rfl, by kernel_rfl, by kernel_rfl⟩
theorem ok116 : FnOk 29 a116 := ⟨_, fi116, Tryz.func29, by kernel_rfl, by kernel_rfl, by kernel_rfl⟩
theorem ok117 : FnOk 149 a117 := ⟨_, fi117, Tryz.func149, by kernel_rfl, by kernel_rfl, by kernel_rfl⟩
theorem ok118 : FnOk 150 a118 := ⟨_, fi118, Tryz.func150, by kernel_rfl, by kernel_rfl, by kernel_rfl⟩
theorem ok119 : FnOk 72 a119 := ⟨_, fi119, Tryz.func72, by kernel_rfl, by kernel_rfl, by kernel_rfl⟩
theorem ok120 : FnOk 73 a120 := ⟨_, fi120, Tryz.func73, by kernel_rfl, by kernel_rfl, by kernel_rfl⟩
theorem ok121 : FnOk 74 a121 := ⟨_, fi121, Tryz.func74, by kernel_rfl, by kernel_rfl, by kernel_rfl⟩
theorem ok122 : FnOk 134 a122 := ⟨_, fi122, Tryz.func134, by kernel_rfl, by kernel_rfl, by kernel_rfl⟩
theorem ok123 : FnOk 154 a123 := ⟨_, fi123, Tryz.func154, by kernel_rfl, by kernel_rfl, by kernel_rfl⟩
theorem ok124 : FnOk 155 a124 := ⟨_, fi124, Tryz.func155, by kernel_rfl, by kernel_rfl, by kernel_rfl⟩
theorem ok125 : FnOk 156 a125 := ⟨_, fi125, Tryz.func156, by kernel_rfl, by kernel_rfl, by kernel_rfl⟩
theorem ok126 : FnOk 157 a126 := ⟨_, fi126, Tryz.func157, by kernel_rfl, by kernel_rfl, by kernel_rfl⟩
theorem ok127 : FnOk 158 a127 := ⟨_, fi127, Tryz.func158, by kernel_rfl, by kernel_rfl, by kernel_rfl⟩
theorem ok128 : FnOk 159 a128 := ⟨_, fi128, Tryz.func159, by kernel_rfl, by kernel_rfl, by kernel_rfl⟩
theorem ok129 : FnOk 160 a129 := ⟨_, fi129, Tryz.func160, by kernel_rfl, by kernel_rfl, by kernel_rfl⟩
theorem ok130 : FnOk 161 a130 := ⟨_, fi130, Tryz.func161, by kernel_rfl, by kernel_rfl, by kernel_rfl⟩
theorem ok131 : FnOk 162 a131 := ⟨_, fi131, Tryz.func162, by kernel_rfl, by kernel_rfl, by kernel_rfl⟩
theorem ok134 : FnOk 165 a134 := ⟨_, fi134, Tryz.func165, by kernel_rfl, by kernel_rfl, by kernel_rfl⟩
theorem ok135 : FnOk 166 a135 := ⟨_, fi135, Tryz.func166, by kernel_rfl, by kernel_rfl, by kernel_rfl⟩
theorem ok136 : FnOk 167 a136 := ⟨_, fi136, Tryz.func167, by kernel_rfl, by kernel_rfl, by kernel_rfl⟩
theorem ok138 : FnOk 168 a138 := ⟨_, fi138, Tryz.func168, by kernel_rfl, by kernel_rfl, by kernel_rfl⟩
theorem ok140 : FnOk 169 a140 := ⟨_, fi140, Tryz.func169, by kernel_rfl, by kernel_rfl, by kernel_rfl⟩
theorem ok141 : FnOk 146 a141 := ⟨_, fi141, Tryz.func146, by kernel_rfl, by kernel_rfl, by kernel_rfl⟩
theorem ok142 : FnOk 147 a142 := ⟨_, fi142, Tryz.func147, by kernel_rfl, by kernel_rfl, by kernel_rfl⟩
theorem ok143 : FnOk 170 a143 := ⟨_, fi143, Tryz.func170, by kernel_rfl, by kernel_rfl, by kernel_rfl⟩
theorem ok144 : FnOk 171 a144 := ⟨_, fi144, Tryz.func171, by kernel_rfl, by kernel_rfl, by kernel_rfl⟩
theorem ok145 : FnOk 172 a145 := ⟨_, fi145, Tryz.func172, by kernel_rfl, by kernel_rfl, by kernel_rfl⟩
theorem ok146 : FnOk 69 a146 := ⟨_, fi146, Tryz.func69, by kernel_rfl, by kernel_rfl, by kernel_rfl⟩
theorem ok147 : FnOk 71 a147 := ⟨_, fi147, Tryz.func71, by kernel_rfl, by kernel_rfl, by kernel_rfl⟩
theorem ok149 : FnOk 178 a149 := ⟨_, fi149, Tryz.func178, by kernel_rfl, by kernel_rfl, by kernel_rfl⟩
theorem ok150 : FnOk 179 a150 := ⟨_, fi150, Tryz.func179, by kernel_rfl, by kernel_rfl, by kernel_rfl⟩
theorem ok151 : FnOk 180 a151 := ⟨_, fi151, Tryz.func180, by kernel_rfl, by kernel_rfl, by kernel_rfl⟩
theorem ok152 : FnOk 181 a152 := ⟨_, fi152, Tryz.func181, by kernel_rfl, by kernel_rfl, by kernel_rfl⟩
theorem ok153 : FnOk 182 a153 := ⟨_, fi153, Tryz.func182, by kernel_rfl, by kernel_rfl, by kernel_rfl⟩
theorem ok154 : FnOk 183 a154 := ⟨_, fi154, Tryz.func183, by kernel_rfl, by kernel_rfl, by kernel_rfl⟩
theorem ok155 : FnOk 184 a155 := ⟨_, fi155, Tryz.func184, by kernel_rfl, by kernel_rfl, by kernel_rfl⟩
theorem ok156 : FnOk 185 a156 := ⟨_, fi156, Tryz.func185, by kernel_rfl, by kernel_rfl, by kernel_rfl⟩
theorem ok157 : FnOk 186 a157 := ⟨_, fi157, Tryz.func186, by kernel_rfl, by kernel_rfl, by kernel_rfl⟩
theorem ok158 : FnOk 187 a158 := ⟨_, fi158, Tryz.func187, by kernel_rfl, by kernel_rfl, by kernel_rfl⟩
theorem ok159 : FnOk 188 a159 := ⟨_, fi159, Tryz.func188, by kernel_rfl, by kernel_rfl, by kernel_rfl⟩
theorem ok164 : FnOk 193 a164 := ⟨_, fi164, Tryz.func193, by kernel_rfl, by kernel_rfl, by kernel_rfl⟩
theorem ok165 : FnOk 194 a165 := ⟨_, fi165, Tryz.func194, by kernel_rfl, by kernel_rfl, by kernel_rfl⟩
theorem ok166 : FnOk 195 a166 := ⟨_, fi166, Tryz.func195, by kernel_rfl, by kernel_rfl, by kernel_rfl⟩
theorem ok1009 : FnOk 9 a1009 := ⟨_, fi1009, Tryz.func9, by kernel_rfl, by kernel_rfl, by kernel_rfl⟩
end Go.Abs.Z

namespace Go.Abs.Z
open Go.Proofs
def tabL : List (FuncId × AFunc) := [(89, a28), (97, a73), (44, a39), (93, a64), (146, a141), (149, a117), (45, a40), (170, a143), (171, a144), (130, a111), (131, a112), (65, a68), (54, a49), (99, a76), (49, a44), (96, a72), (151, a29), (22, a10), (56, a26), (50, a45), (27, a36), (63, a59), (147, a142), (190, a12), (169, a140), (196, a30), (165, a134), (98, a75), (66, a65), (68, a66), (112, a89), (72, a119), (74, a121), (134, a122), (4, a8), (6, a9), (152, a11), (102, a13), (19, a15), (18, a17), (10, a18), (21, a20), (20, a21), (8, a23), (7, a24), (15, a25), (91, a27), (153, a31), (23, a33), (53, a34), (26, a35), (17, a37), (28, a38), (47, a42), (51, a46), (52, a47), (55, a48), (30, a50), (101, a51), (25, a52), (5, a53), (24, a54), (59, a55), (57, a56), (60, a57), (41, a60), (42, a61), (43, a62), (64, a63), (95, a69), (67, a70), (70, a71), (100, a74), (58, a77), (61, a78), (16, a79), (103, a80), (104, a81), (106, a83), (107, a84), (108, a85), (109, a86), (110, a87), (111, a88), (113, a90), (114, a91), (115, a92), (116, a93), (117, a94), (118, a95), (119, a96), (120, a97), (121, a98), (122, a99), (123, a100), (124, a101), (125, a102), (126, a103), (127, a104), (128, a105), (129, a106), (87, a107), (88, a108), (90, a109), (92, a110), (148, a113), (132, a114), (133, a115), (29, a116), (150, a118), (73, a120), (154, a123), (155, a124), (156, a125), (157, a126), (158, a127), (159, a128), (160, a129), (161, a130), (162, a131), (166, a135), (167, a136), (168, a138), (172, a145), (69, a146), (71, a147), (178, a149), (179, a150), (180, a151), (181, a152), (182, a153), (183, a154), (184, a155), (185, a156), (186, a157), (187, a158), (188, a159), (193, a164), (194, a165), (195, a166), (9, a1009)]
noncomputable def lookK (l : List (FuncId × AFunc)) (f : FuncId) : Option AFunc := List.rec (motive := fun _ => Option AFunc) none (fun p _ ih => cond (Nat.beq p.1 f) (some p.2) ih) l
noncomputable def tab (f : FuncId) : Option AFunc := lookK tabL f
theorem lookK_ok : ∀ (l : List (FuncId × AFunc)), (∀ x ∈ l, FnOk x.1 x.2) → ∀ f af, lookK l f = some af → FnOk f af
  | [], _, f, af, h => by cases h
  | p :: l, hl, f, af, h => by
    have h' : cond (Nat.beq p.1 f) (some p.2) (lookK l f) = some af := h;cases hb : Nat.beq p.1 f with
    | true =>
      rw [hb] at h';cases h';have : p.1 = f := Nat.eq_of_beq_eq_true hb;rw [← this]; exact hl p (List.mem_cons_self ..)
    | false => rw [hb] at h'; exact lookK_ok l (fun x hx => hl x (List.mem_cons_of_mem _ hx)) f af h'
theorem all_cons {p : FuncId × AFunc} {l : List (FuncId × AFunc)} (h : FnOk p.1 p.2) (hl : ∀ x ∈ l, FnOk x.1 x.2) : ∀ x ∈ p :: l, FnOk x.1 x.2 := by
  intro x hx;rcases List.mem_cons.1 hx with rfl | hx
  · exact h
  · exact hl x hx
theorem all_nil : ∀ x ∈ ([] : List (FuncId × AFunc)), FnOk x.1 x.2 := fun x hx => by cases hx
set_option maxRecDepth 10000 in
theorem tabL_ok : ∀ x ∈ tabL, FnOk x.1 x.2 :=
  all_cons ok28 <| all_cons ok73 <| all_cons ok39 <| all_cons ok64 <| all_cons ok141 <| all_cons ok117 <| all_cons ok40 <| all_cons ok143 <| all_cons ok144 <| all_cons ok111 <| all_cons ok112 <| all_cons ok68 <| all_cons ok49 <| all_cons ok76 <| all_cons ok44 <| all_cons ok72 <| all_cons ok29 <| all_cons ok10 <| all_cons ok26 <| all_cons ok45 <| all_cons ok36 <| all_cons ok59 <| all_cons ok142 <| all_cons ok12 <| all_cons ok140 <| all_cons ok30 <| all_cons ok134 <| all_cons ok75 <| all_cons ok65 <| all_cons ok66 <| all_cons ok89 <| all_cons ok119 <| all_cons ok121 <| all_cons ok122 <| all_cons ok8 <| all_cons ok9 <| all_cons ok11 <| all_cons ok13 <| all_cons ok15 <| all_cons ok17 <| all_cons ok18 <| all_cons ok20 <| all_cons ok21 <| all_cons ok23 <| all_cons ok24 <| all_cons ok25 <| all_cons ok27 <| all_cons ok31 <| all_cons ok33 <| all_cons ok34 <| all_cons ok35 <| all_cons ok37 <| all_cons ok38 <| all_cons ok42 <| all_cons ok46 <| all_cons ok47 <| all_cons ok48 <| all_cons ok50 <| all_cons ok51 <| all_cons ok52 <| all_cons ok53 <| all_cons ok54 <| all_cons ok55 <| all_cons ok56 <| all_cons ok57 <| all_cons ok60 <| all_cons ok61 <| all_cons ok62 <| all_cons ok63 <| all_cons ok69 <| all_cons ok70 <| all_cons ok71 <| all_cons ok74 <| all_cons ok77 <| all_cons ok78 <| all_cons ok79 <| all_cons ok80 <| all_cons ok81 <| all_cons ok83 <| all_cons ok84 <| all_cons ok85 <| all_cons ok86 <| all_cons ok87 <| all_cons ok88 <| all_cons ok90 <| all_cons ok91 <| all_cons ok92 <| all_cons ok93 <| all_cons ok94 <| all_cons ok95 <| all_cons ok96 <| all_cons ok97 <| all_cons ok98 <| all_cons ok99 <| all_cons ok100 <| all_cons ok101 <| all_cons ok102 <| all_cons ok103 <| all_cons ok104 <| all_cons ok105 <| all_cons ok106 <| all_cons ok107 <| all_cons ok108 <| all_cons ok109 <| all_cons ok110 <| all_cons ok113 <| all_cons ok114 <| all_cons ok115 <| all_cons ok116 <| all_cons ok118 <| all_cons ok120 <| all_cons ok123 <| all_cons ok124 <| all_cons ok125 <| all_cons ok126 <| all_cons ok127 <| all_cons ok128 <| all_cons ok129 <| all_cons ok130 <| all_cons ok131 <| all_cons ok135 <| all_cons ok136 <| all_cons ok138 <| all_cons ok145 <| all_cons ok146 <| all_cons ok147 <| all_cons ok149 <| all_cons ok150 <| all_cons ok151 <| all_cons ok152 <| all_cons ok153 <| all_cons ok154 <| all_cons ok155 <| all_cons ok156 <| all_cons ok157 <| all_cons ok158 <| all_cons ok159 <| all_cons ok164 <| all_cons ok165 <| all_cons ok166 <| all_cons ok1009 <| all_nil
theorem tabOk : TabOk Tryz.prog pur tab := fun f af h => lookK_ok tabL tabL_ok f af h
theorem mixed : Tryz.prog.follows .mixedOrders = true := by kernel_rfl
end Go.Abs.Z
