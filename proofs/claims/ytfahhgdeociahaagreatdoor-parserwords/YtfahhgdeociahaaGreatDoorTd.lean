/- A part of the proof: T3 T4 T5. -/
import Derived.Test.YtfahhgdeociahaaGreatDoorTa
import Derived.Test.YtfahhgdeociahaaGreatDoorTb
import Derived.Test.YtfahhgdeociahaaGreatDoorProg
import Derived.KernelRfl
import Derived.Test.YtfahhgdeociahaaGreatDoorTc

set_option linter.unusedVariables false
set_option linter.unusedSimpArgs false
namespace Go.Abs.Z
open Go.Proofs
def FnOk (f : FuncId) (af : AFunc) : Prop := ∃ fn fi, Tryz.prog.funcs[f]? = some fn ∧ (fn.name == "runtime.NumGoroutine") = false ∧ AxI Tryz.prog pur fi fn = some af ∧ AzX (af.ntmps + af.extra) af.code = true
theorem c3 : AxI Tryz.prog pur fi3 Tryz.f3 = some a3 := by kernel_rfl
theorem c4 : AxI Tryz.prog pur fi4 Tryz.f4 = some a4 := by kernel_rfl
theorem ok4 : FnOk 4 a4 := ⟨Tryz.f4, fi4, Tryz.func4, by kernel_rfl, c4, by kernel_rfl⟩
theorem c5 : AxI Tryz.prog pur fi5 Tryz.f5 = some a5 := by kernel_rfl
theorem c6 : AxI Tryz.prog pur fi6 Tryz.f6 = some a6 := by kernel_rfl
theorem ok6 : FnOk 6 a6 := ⟨Tryz.f6, fi6, Tryz.func6, by kernel_rfl, c6, by kernel_rfl⟩
theorem c7 : AxI Tryz.prog pur fi7 Tryz.f7 = some a7 := by kernel_rfl
theorem ok7 : FnOk 7 a7 := ⟨Tryz.f7, fi7, Tryz.func7, by kernel_rfl, c7, by kernel_rfl⟩
theorem c8 : AxI Tryz.prog pur fi8 Tryz.f8 = some a8 := by kernel_rfl
theorem ok8 : FnOk 8 a8 := ⟨Tryz.f8, fi8, Tryz.func8, by kernel_rfl, c8, by kernel_rfl⟩
theorem c9 : AxI Tryz.prog pur fi9 Tryz.f9 = some a9 := by kernel_rfl
theorem ok11 : FnOk 11 a11 := ⟨_, fi11, Tryz.func11, by kernel_rfl, by kernel_rfl, by kernel_rfl⟩
theorem ok13 : FnOk 13 a13 := ⟨_, fi13, Tryz.func13, by kernel_rfl, by kernel_rfl, by kernel_rfl⟩
theorem ok18 : FnOk 18 a18 := ⟨_, fi18, Tryz.func18, by kernel_rfl, by kernel_rfl, by kernel_rfl⟩
theorem ok19 : FnOk 19 a19 := ⟨_, fi19, Tryz.func19, by kernel_rfl, by kernel_rfl, by kernel_rfl⟩
theorem ok21 : FnOk 21 a21 := ⟨_, fi21, Tryz.func21, by kernel_rfl, by kernel_rfl, by kernel_rfl⟩
theorem ok22 : FnOk 22 a22 := ⟨_, fi22, Tryz.func22, by kernel_rfl, by kernel_rfl, by kernel_rfl⟩
theorem ok23 : FnOk 23 a23 := ⟨_, fi23, Tryz.func23, by kernel_rfl, by kernel_rfl, by kernel_rfl⟩
theorem ok35 : FnOk 35 a35 := ⟨_, fi35, Tryz.func35, by kernel_rfl, by kernel_rfl, by kernel_rfl⟩
theorem ok38 : FnOk 38 a38 := ⟨_, fi38, Tryz.func38, by kernel_rfl, by kernel_rfl, by kernel_rfl⟩
theorem ok40 : FnOk 40 a40 := ⟨_, fi40, Tryz.func40, by kernel_rfl, by kernel_rfl, by kernel_rfl⟩
theorem ok41 : FnOk 41 a41 := ⟨_, fi41, Tryz.func41, by kernel_rfl, by kernel_rfl, by kernel_rfl⟩
theorem ok42 : FnOk 42 a42 := ⟨_, fi42, Tryz.func42, by kernel_rfl, by kernel_rfl, by kernel_rfl⟩
theorem ok46 : FnOk 46 a46 := ⟨_, fi46, Tryz.func46, by kernel_rfl, by kernel_rfl, by kernel_rfl⟩
theorem ok47 : FnOk 47 a47 := ⟨_, fi47, Tryz.func47, by kernel_rfl, by kernel_rfl, by kernel_rfl⟩
theorem ok48 : FnOk 48 a48 := ⟨_, fi48, Tryz.func48, by kernel_rfl, by kernel_rfl, by kernel_rfl⟩
theorem ok49 : FnOk 49 a49 := ⟨_, fi49, Tryz.func49, by kernel_rfl, by kernel_rfl, by kernel_rfl⟩
theorem ok50 : FnOk 50 a50 := ⟨_, fi50, Tryz.func50, by kernel_rfl, by kernel_rfl, by kernel_rfl⟩
theorem ok51 : FnOk 51 a51 := ⟨_, fi51, Tryz.func51, by kernel_rfl, by kernel_rfl, by kernel_rfl⟩
theorem ok52 : FnOk 52 a52 := ⟨_, fi52, Tryz.func52, by kernel_rfl, by kernel_rfl, by kernel_rfl⟩
theorem ok53 : FnOk 53 a53 := ⟨_, fi53, Tryz.func53, by kernel_rfl, by kernel_rfl, by kernel_rfl⟩
theorem ok54 : FnOk 54 a54 := ⟨_, fi54, Tryz.func54, by kernel_rfl, by kernel_rfl, by kernel_rfl⟩
theorem ok55 : FnOk 55 a55 := ⟨_, fi55, Tryz.func55, by kernel_rfl, by kernel_rfl, by kernel_rfl⟩
theorem ok69 : FnOk 69 a69 := ⟨_, fi69, Tryz.func69, by kernel_rfl, by kernel_rfl, by kernel_rfl⟩
end Go.Abs.Z

namespace Go.Abs.Z
open Go.Proofs
theorem ok70 : FnOk 70 a70 := ⟨_, fi70, Tryz.func70, by kernel_rfl, by kernel_rfl, by kernel_rfl⟩
theorem ok73 : FnOk 73 a73 := ⟨_, fi73, Tryz.func73, by kernel_rfl, by kernel_rfl, by kernel_rfl⟩
theorem ok74 : FnOk 74 a74 := ⟨_, fi74, Tryz.func74, by kernel_rfl, by kernel_rfl, by kernel_rfl⟩
theorem ok75 : FnOk 75 a75 := ⟨_, fi75, Tryz.func75, by kernel_rfl, by kernel_rfl, by kernel_rfl⟩
theorem ok76 : FnOk 76 a76 := ⟨_, fi76, Tryz.func76, by kernel_rfl, by kernel_rfl, by kernel_rfl⟩
theorem ok77 : FnOk 77 a77 := ⟨_, fi77, Tryz.func77, by kernel_rfl, by kernel_rfl, by kernel_rfl⟩
theorem ok78 : FnOk 78 a78 := ⟨_, fi78, Tryz.func78, by kernel_rfl, by kernel_rfl, by kernel_rfl⟩
theorem ok79 : FnOk 79 a79 := ⟨_, fi79, Tryz.func79, by kernel_rfl, by kernel_rfl, by kernel_rfl⟩
theorem ok80 : FnOk 80 a80 := ⟨_, fi80, Tryz.func80, by kernel_rfl, by kernel_rfl, by kernel_rfl⟩
theorem ok81 : FnOk 81 a81 := ⟨_, fi81, Tryz.func81, by kernel_rfl, by kernel_rfl, by kernel_rfl⟩
theorem ok82 : FnOk 82 a82 := ⟨_, fi82, Tryz.func82, by kernel_rfl, by kernel_rfl, by kernel_rfl⟩
theorem ok89 : FnOk 89 a89 := ⟨_, fi89, Tryz.func89, by kernel_rfl, by kernel_rfl, by kernel_rfl⟩
theorem ok90 : FnOk 90 a90 := ⟨_, fi90, Tryz.func90, by kernel_rfl, by kernel_rfl, by kernel_rfl⟩
theorem ok91 : FnOk 91 a91 := ⟨_, fi91, Tryz.func91, by kernel_rfl, by kernel_rfl, by kernel_rfl⟩
theorem ok92 : FnOk 92 a92 := ⟨_, fi92, Tryz.func92, by kernel_rfl, by kernel_rfl, by kernel_rfl⟩
theorem ok93 : FnOk 93 a93 := ⟨_, fi93, Tryz.func93, by kernel_rfl, by kernel_rfl, by kernel_rfl⟩
theorem ok94 : FnOk 94 a94 := ⟨_, fi94, Tryz.func94, by kernel_rfl, by kernel_rfl, by kernel_rfl⟩
theorem ok97 : FnOk 97 a97 := ⟨_, fi97, Tryz.func97, by kernel_rfl, by kernel_rfl, by kernel_rfl⟩
theorem ok98 : FnOk 98 a98 := ⟨_, fi98, Tryz.func98, by kernel_rfl, by kernel_rfl, by kernel_rfl⟩
theorem ok99 : FnOk 99 a99 := ⟨_, fi99, Tryz.func99, by kernel_rfl, by kernel_rfl, by kernel_rfl⟩
theorem ok100 : FnOk 100 a100 := ⟨_, fi100, Tryz.func100, by kernel_rfl, by kernel_rfl, by kernel_rfl⟩
theorem ok101 : FnOk 101 a101 := ⟨_, fi101, Tryz.func101, by kernel_rfl, by kernel_rfl, by kernel_rfl⟩
theorem ok102 : FnOk 102 a102 := ⟨_, fi102, Tryz.func102, by kernel_rfl, by kernel_rfl, by kernel_rfl⟩
theorem ok103 : FnOk 103 a103 := ⟨_, fi103, Tryz.func103, by kernel_rfl, by kernel_rfl, by kernel_rfl⟩
theorem ok104 : FnOk 104 a104 := ⟨_, fi104, Tryz.func104, by kernel_rfl, by kernel_rfl, by kernel_rfl⟩
theorem ok105 : FnOk 105 a105 := ⟨_, fi105, Tryz.func105, by kernel_rfl, by kernel_rfl, by kernel_rfl⟩
theorem ok106 : FnOk 106 a106 := ⟨_, fi106, Tryz.func106, by kernel_rfl, by kernel_rfl, by kernel_rfl⟩
theorem ok107 : FnOk 107 a107 := ⟨_, fi107, Tryz.func107, by kernel_rfl, by kernel_rfl, by kernel_rfl⟩
theorem ok108 : FnOk 108 a108 := ⟨_, fi108, Tryz.func108, by kernel_rfl, by kernel_rfl, by kernel_rfl⟩
theorem ok114 : FnOk 114 a114 := ⟨_, fi114, Tryz.func114, by kernel_rfl, by kernel_rfl, by kernel_rfl⟩
theorem ok119 : FnOk 119 a119 := ⟨_, fi119, Tryz.func119, by kernel_rfl, by kernel_rfl, by kernel_rfl⟩
theorem ok123 : FnOk 123 a123 := ⟨_, fi123, Tryz.func123, by kernel_rfl, by kernel_rfl, by kernel_rfl⟩
theorem ok124 : FnOk 124 a124 := ⟨_, fi124, Tryz.func124, by kernel_rfl, by kernel_rfl, by kernel_rfl⟩
theorem ok125 : FnOk 125 a125 := ⟨_, fi125, Tryz.func125, by kernel_rfl, by kernel_rfl, by kernel_rfl⟩
theorem ok126 : FnOk 126 a126 := ⟨_, fi126, Tryz.func126, by kernel_rfl, by kernel_rfl, by kernel_rfl⟩
theorem ok127 : FnOk 127 a127 := ⟨_, fi127, Tryz.func127, by kernel_rfl, by kernel_rfl, by kernel_rfl⟩
theorem ok128 : FnOk 128 a128 := ⟨_, fi128, Tryz.func128, by kernel_rfl, by kernel_rfl, by kernel_rfl⟩
theorem ok132 : FnOk 132 a132 := ⟨_, fi132, Tryz.func132, by kernel_rfl, by kernel_rfl, by kernel_rfl⟩
theorem ok133 : FnOk 133 a133 := ⟨_, fi133, Tryz.func133, by kernel_rfl, by kernel_rfl, by kernel_rfl⟩
theorem ok134 : FnOk 134 a134 := ⟨_, fi134, Tryz.func134, by kernel_rfl, by kernel_rfl, by kernel_rfl⟩
theorem ok135 : FnOk 135 a135 := ⟨_, fi135, Tryz.func135, by kernel_rfl, by kernel_rfl, by kernel_rfl⟩
theorem ok136 : FnOk 136 a136 := ⟨_, fi136, Tryz.func136, by kernel_rfl, by kernel_rfl, by kernel_rfl⟩
theorem ok137 : FnOk 137 a137 := ⟨_, fi137, Tryz.func137, by kernel_rfl, by kernel_rfl, by kernel_rfl⟩
theorem ok138 : FnOk 138 a138 := ⟨_, fi138, Tryz.func138, by kernel_rfl, by kernel_rfl, by kernel_rfl⟩
theorem ok139 : FnOk 139 a139 := ⟨_, fi139, Tryz.func139, by kernel_rfl, by kernel_rfl, by kernel_rfl⟩
theorem ok140 : FnOk 140 a140 := ⟨_, fi140, Tryz.func140, by kernel_rfl, by kernel_rfl, by kernel_rfl⟩
theorem ok141 : FnOk 141 a141 := ⟨_, fi141, Tryz.func141, by kernel_rfl, by kernel_rfl, by kernel_rfl⟩
theorem ok142 : FnOk 142 a142 := ⟨_, fi142, Tryz.func142, by kernel_rfl, by kernel_rfl, by kernel_rfl⟩
theorem ok143 : FnOk 143 a143 := ⟨_, fi143, Tryz.func143, by kernel_rfl, by kernel_rfl, by kernel_rfl⟩
theorem ok144 : FnOk 144 a144 := ⟨_, fi144, Tryz.func144, by kernel_rfl, by kernel_rfl, by kernel_rfl⟩
theorem ok145 : FnOk 145 a145 := ⟨_, fi145, Tryz.func145, by kernel_rfl, by kernel_rfl, by kernel_rfl⟩
theorem ok146 : FnOk 146 a146 := ⟨_, fi146, Tryz.func146, by kernel_rfl, by kernel_rfl, by kernel_rfl⟩
theorem ok147 : FnOk 147 a147 := ⟨_, fi147, Tryz.func147, by kernel_rfl, by kernel_rfl, by kernel_rfl⟩
theorem ok148 : FnOk 148 a148 := ⟨_, fi148, Tryz.func148, by kernel_rfl, by kernel_rfl, by kernel_rfl⟩
theorem ok149 : FnOk 149 a149 := ⟨_, fi149, Tryz.func149, by kernel_rfl, by kernel_rfl, by kernel_rfl⟩
theorem ok150 : FnOk 150 a150 := ⟨_, fi150, Tryz.func150, by kernel_rfl, by kernel_rfl, by kernel_rfl⟩
theorem ok151 : FnOk 151 a151 := ⟨_, fi151, Tryz.func151, by kernel_rfl, by kernel_rfl, by kernel_rfl⟩
theorem ok152 : FnOk 152 a152 := ⟨_, fi152, Tryz.func152, by kernel_rfl, by kernel_rfl, by kernel_rfl⟩
theorem ok153 : FnOk 153 a153 := ⟨_, fi153, Tryz.func153, by kernel_rfl, by kernel_rfl, by kernel_rfl⟩
theorem ok154 : FnOk 154 a154 := ⟨_, fi154, Tryz.func154, by kernel_rfl, by kernel_rfl, by kernel_rfl⟩
theorem ok155 : FnOk 155 a155 := ⟨_, fi155, Tryz.func155, by kernel_rfl, by kernel_rfl, by kernel_rfl⟩
theorem ok156 : FnOk 156 a156 := ⟨_, fi156, Tryz.func156, by kernel_rfl, by kernel_rfl, by kernel_rfl⟩
theorem ok157 : FnOk 157 a157 := ⟨_, fi157, Tryz.func157, by kernel_rfl, by kernel_rfl, by kernel_rfl⟩
theorem ok158 : FnOk 158 a158 := ⟨_, fi158, Tryz.func158, by kernel_rfl, by kernel_rfl, by kernel_rfl⟩
theorem ok162 : FnOk 162 a162 := ⟨_, fi162, Tryz.func162, by kernel_rfl, by kernel_rfl, by kernel_rfl⟩
end Go.Abs.Z

namespace Go.Abs.Z
open Go.Proofs
def tabL : List (FuncId × AFunc) := [(47, a47), (49, a49), (102, a102), (50, a50), (101, a101), (137, a137), (123, a123), (76, a76), (75, a75), (78, a78), (53, a53), (103, a103), (104, a104), (6, a6), (7, a7), (8, a8), (11, a11), (13, a13), (18, a18), (19, a19), (21, a21), (22, a22), (23, a23), (35, a35), (38, a38), (40, a40), (41, a41), (42, a42), (46, a46), (48, a48), (51, a51), (52, a52), (54, a54), (55, a55), (69, a69), (70, a70), (73, a73), (74, a74), (77, a77), (79, a79), (80, a80), (81, a81), (82, a82), (89, a89), (90, a90), (91, a91), (92, a92), (93, a93), (94, a94), (97, a97), (98, a98), (99, a99), (100, a100), (105, a105), (106, a106), (107, a107), (108, a108), (114, a114), (119, a119), (124, a124), (125, a125), (126, a126), (127, a127), (128, a128), (132, a132), (133, a133), (134, a134), (135, a135), (136, a136), (138, a138), (139, a139), (140, a140), (141, a141), (142, a142), (143, a143), (144, a144), (145, a145), (146, a146), (147, a147), (148, a148), (149, a149), (150, a150), (151, a151), (152, a152), (153, a153), (154, a154), (155, a155), (156, a156), (157, a157), (158, a158), (162, a162)]
noncomputable def lookK (l : List (FuncId × AFunc)) (f : FuncId) : Option AFunc := List.rec (motive := fun _ => Option AFunc) none (fun p _ ih => cond (Nat.beq p.1 f) (some p.2) ih) l
noncomputable def tab (f : FuncId) : Option AFunc := lookK tabL f
theorem lookK_ok : ∀ (l : List (FuncId × AFunc)), (∀ x ∈ l, FnOk x.1 x.2) → ∀ f af, lookK l f = some af → FnOk f af
  | [], _, f, af, h => by cases h
  | p :: l, hl, f, af, h => by
    have h' : cond (Nat.beq p.1 f) (some p.2) (lookK l f) = some af := h;cases hb : Nat.beq p.1 f with
    | true =>
      rw [hb] at h';cases h';have : p.1 = f := Nat.eq_of_beq_eq_true hb;rw [← this]; exact hl p (List.mem_cons_self ..)
    | false => rw [hb] at h'; exact lookK_ok l (fun x hx => hl x (List.mem_cons_of_mem _ hx)) f af h'
theorem all_cons {p : FuncId × AFunc} {l : List (FuncId × AFunc)} (h : FnOk p.1 p.2) (hl : ∀ x ∈ l, FnOk x.1 x.2) : ∀ x ∈ p :: l, FnOk x.1 x.2 := by
  intro x hx;rcases List.mem_cons.1 hx with rfl | hx
  · exact h
  · exact hl x hx
theorem all_nil : ∀ x ∈ ([] : List (FuncId × AFunc)), FnOk x.1 x.2 := fun x hx => by cases hx
set_option maxRecDepth 10000 in
theorem tabL_ok : ∀ x ∈ tabL, FnOk x.1 x.2 :=
  all_cons ok47 <| all_cons ok49 <| all_cons ok102 <| all_cons ok50 <| all_cons ok101 <| all_cons ok137 <| all_cons ok123 <| all_cons ok76 <| all_cons ok75 <| all_cons ok78 <| all_cons ok53 <| all_cons ok103 <| all_cons ok104 <| all_cons ok6 <| all_cons ok7 <| all_cons ok8 <| all_cons ok11 <| all_cons ok13 <| all_cons ok18 <| all_cons ok19 <| all_cons ok21 <| all_cons ok22 <| all_cons ok23 <| all_cons ok35 <| all_cons ok38 <| all_cons ok40 <| all_cons ok41 <| all_cons ok42 <| all_cons ok46 <| all_cons ok48 <| all_cons ok51 <| all_cons ok52 <| all_cons ok54 <| all_cons ok55 <| all_cons ok69 <| all_cons ok70 <| all_cons ok73 <| all_cons ok74 <| all_cons ok77 <| all_cons ok79 <| all_cons ok80 <| all_cons ok81 <| all_cons ok82 <| all_cons ok89 <| all_cons ok90 <| all_cons ok91 <| all_cons ok92 <| all_cons ok93 <| all_cons ok94 <| all_cons ok97 <| all_cons ok98 <| all_cons ok99 <| all_cons ok100 <| all_cons ok105 <| all_cons ok106 <| all_cons ok107 <| all_cons ok108 <| all_cons ok114 <| all_cons ok119 <| all_cons ok124 <| all_cons ok125 <| all_cons ok126 <| all_cons ok127 <| all_cons ok128 <| all_cons ok132 <| all_cons ok133 <| all_cons ok134 <| all_cons ok135 <| all_cons ok136 <| all_cons ok138 <| all_cons ok139 <| all_cons ok140 <| all_cons ok141 <| all_cons ok142 <| all_cons ok143 <| all_cons ok144 <| all_cons ok145 <| all_cons ok146 <| all_cons ok147 <| all_cons ok148 <| all_cons ok149 <| all_cons ok150 <| all_cons ok151 <| all_cons ok152 <| all_cons ok153 <| all_cons ok154 <| all_cons ok155 <| all_cons ok156 <| all_cons ok157 <| all_cons ok158 <| all_cons ok162 <| all_nil
theorem tabOk : TabOk Tryz.prog pur tab := fun f af h => lookK_ok tabL tabL_ok f af h
theorem mixed : Tryz.prog.follows .mixedOrders = true := by kernel_rfl
end Go.Abs.Z
