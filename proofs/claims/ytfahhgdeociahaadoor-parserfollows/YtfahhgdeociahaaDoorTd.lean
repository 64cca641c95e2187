/- A part of the proof: T3 T4 T5. -/
import Derived.Test.YtfahhgdeociahaaDoorTa
import Derived.Test.YtfahhgdeociahaaDoorTb
import Derived.Test.YtfahhgdeociahaaDoorProg
import Derived.KernelRfl
import Derived.Test.YtfahhgdeociahaaDoorTc

set_option linter.unusedVariables false
set_option linter.unusedSimpArgs false
namespace Go.Abs.Z
open Go.Proofs
def FnOk (f : FuncId) (af : AFunc) : Prop := ∃ fn fi, Tryd.prog.funcs[f]? = some fn ∧ (fn.name == "runtime.NumGoroutine") = false ∧ AzO Tryd.prog pur fi fn = some af ∧ AzX (af.ntmps + af.extra) af.code = true
theorem c3 : AzO Tryd.prog pur fi3 Tryd.f3 = some a3 := by kernel_rfl
theorem c4 : AzO Tryd.prog pur fi4 Tryd.f4 = some a4 := by kernel_rfl
theorem ok4 : FnOk 4 a4 := ⟨Tryd.f4, fi4, Tryd.func4, by kernel_rfl, c4, by kernel_rfl⟩
theorem c7 : AzO Tryd.prog pur fi7 Tryd.f5 = some a7 := by kernel_rfl
theorem ok7 : FnOk 5 a7 := ⟨Tryd.f5, fi7, Tryd.func5, by kernel_rfl, c7, by kernel_rfl⟩
theorem c8 : AzO Tryd.prog pur fi8 Tryd.f6 = some a8 := by kernel_rfl
theorem ok8 : FnOk 6 a8 := ⟨Tryd.f6, fi8, Tryd.func6, by kernel_rfl, c8, by kernel_rfl⟩
theorem ok21 : FnOk 8 a21 := ⟨_, fi21, Tryd.func8, by kernel_rfl, by kernel_rfl, by kernel_rfl⟩
theorem ok13 : FnOk 9 a13 := ⟨_, fi13, Tryd.func9, by kernel_rfl, by kernel_rfl, by kernel_rfl⟩
theorem ok11 : FnOk 10 a11 := ⟨_, fi11, Tryd.func10, by kernel_rfl, by kernel_rfl, by kernel_rfl⟩
theorem ok22 : FnOk 11 a22 := ⟨_, fi22, Tryd.func11, by kernel_rfl, by kernel_rfl, by kernel_rfl⟩
theorem ok23 : FnOk 12 a23 := ⟨_, fi23, Tryd.func12, by kernel_rfl, by kernel_rfl, by kernel_rfl⟩
theorem ok46 : FnOk 13 a46 := ⟨_, fi46, Tryd.func13, by kernel_rfl, by kernel_rfl, by kernel_rfl⟩
theorem ok47 : FnOk 14 a47 := ⟨_, fi47, Tryd.func14, by kernel_rfl, by kernel_rfl, by kernel_rfl⟩
theorem ok48 : FnOk 15 a48 := ⟨_, fi48, Tryd.func15, by kernel_rfl, by kernel_rfl, by kernel_rfl⟩
theorem ok49 : FnOk 16 a49 := ⟨_, fi49, Tryd.func16, by kernel_rfl, by kernel_rfl, by kernel_rfl⟩
theorem ok50 : FnOk 17 a50 := ⟨_, fi50, Tryd.func17, by kernel_rfl, by kernel_rfl, by kernel_rfl⟩
theorem ok51 : FnOk 18 a51 := ⟨_, fi51, Tryd.func18, by kernel_rfl, by kernel_rfl, by kernel_rfl⟩
theorem ok52 : FnOk 19 a52 := ⟨_, fi52, Tryd.func19, by kernel_rfl, by kernel_rfl, by kernel_rfl⟩
theorem ok53 : FnOk 20 a53 := ⟨_, fi53, Tryd.func20, by kernel_rfl, by kernel_rfl, by kernel_rfl⟩
theorem ok54 : FnOk 21 a54 := ⟨_, fi54, Tryd.func21, by kernel_rfl, by kernel_rfl, by kernel_rfl⟩
theorem ok55 : FnOk 22 a55 := ⟨_, fi55, Tryd.func22, by kernel_rfl, by kernel_rfl, by kernel_rfl⟩
theorem ok97 : FnOk 23 a97 := ⟨_, fi97, Tryd.func23, by kernel_rfl, by kernel_rfl, by kernel_rfl⟩
theorem ok98 : FnOk 24 a98 := ⟨_, fi98, Tryd.func24, by kernel_rfl, by kernel_rfl, by kernel_rfl⟩
theorem ok99 : FnOk 25 a99 := ⟨_, fi99, Tryd.func25, by kernel_rfl, by kernel_rfl, by kernel_rfl⟩
theorem ok100 : FnOk 26 a100 := ⟨_, fi100, Tryd.func26, by kernel_rfl, by kernel_rfl, by kernel_rfl⟩
theorem ok101 : FnOk 27 a101 := ⟨_, fi101, Tryd.func27, by kernel_rfl, by kernel_rfl, by kernel_rfl⟩
theorem ok102 : FnOk 28 a102 := ⟨_, fi102, Tryd.func28, by kernel_rfl, by kernel_rfl, by kernel_rfl⟩
theorem ok75 : FnOk 29 a75 := ⟨_, fi75, Tryd.func29, by kernel_rfl, by kernel_rfl, by kernel_rfl⟩
theorem ok103 : FnOk 30 a103 := ⟨_, fi103, Tryd.func30, by kernel_rfl, by kernel_rfl, by kernel_rfl⟩
theorem ok104 : FnOk 31 a104 := ⟨_, fi104, Tryd.func31, by kernel_rfl, by kernel_rfl, by kernel_rfl⟩
theorem ok105 : FnOk 32 a105 := ⟨_, fi105, Tryd.func32, by kernel_rfl, by kernel_rfl, by kernel_rfl⟩
theorem ok106 : FnOk 33 a106 := ⟨_, fi106, Tryd.func33, by kernel_rfl, by kernel_rfl, by kernel_rfl⟩
theorem ok78 : FnOk 34 a78 := ⟨_, fi78, Tryd.func34, by kernel_rfl, by kernel_rfl, by kernel_rfl⟩
theorem ok107 : FnOk 35 a107 := ⟨_, fi107, Tryd.func35, by kernel_rfl, by kernel_rfl, by kernel_rfl⟩
theorem ok108 : FnOk 36 a108 := ⟨_, fi108, Tryd.func36, by kernel_rfl, by kernel_rfl, by kernel_rfl⟩
theorem ok77 : FnOk 37 a77 := ⟨_, fi77, Tryd.func37, by kernel_rfl, by kernel_rfl, by kernel_rfl⟩
theorem ok76 : FnOk 38 a76 := ⟨_, fi76, Tryd.func38, by kernel_rfl, by kernel_rfl, by kernel_rfl⟩
theorem ok132 : FnOk 39 a132 := ⟨_, fi132, Tryd.func39, by kernel_rfl, by kernel_rfl, by kernel_rfl⟩
end Go.Abs.Z

namespace Go.Abs.Z
open Go.Proofs
theorem ok133 : FnOk 40 a133 := ⟨_, fi133, Tryd.func40, by kernel_rfl, by kernel_rfl, by kernel_rfl⟩
theorem ok134 : FnOk 41 a134 := ⟨_, fi134, Tryd.func41, by kernel_rfl, by kernel_rfl, by kernel_rfl⟩
theorem ok135 : FnOk 42 a135 := ⟨_, fi135, Tryd.func42, by kernel_rfl, by kernel_rfl, by kernel_rfl⟩
theorem ok136 : FnOk 43 a136 := ⟨_, fi136, Tryd.func43, by kernel_rfl, by kernel_rfl, by kernel_rfl⟩
theorem ok137 : FnOk 44 a137 := ⟨_, fi137, Tryd.func44, by kernel_rfl, by kernel_rfl, by kernel_rfl⟩
theorem ok123 : FnOk 45 a123 := ⟨_, fi123, Tryd.func45, by kernel_rfl, by kernel_rfl, by kernel_rfl⟩
theorem ok138 : FnOk 46 a138 := ⟨_, fi138, Tryd.func46, by kernel_rfl, by kernel_rfl, by kernel_rfl⟩
theorem ok139 : FnOk 47 a139 := ⟨_, fi139, Tryd.func47, by kernel_rfl, by kernel_rfl, by kernel_rfl⟩
theorem ok124 : FnOk 48 a124 := ⟨_, fi124, Tryd.func48, by kernel_rfl, by kernel_rfl, by kernel_rfl⟩
theorem ok140 : FnOk 49 a140 := ⟨_, fi140, Tryd.func49, by kernel_rfl, by kernel_rfl, by kernel_rfl⟩
theorem ok38 : FnOk 50 a38 := ⟨_, fi38, Tryd.func50, by kernel_rfl, by kernel_rfl, by kernel_rfl⟩
theorem ok143 : FnOk 51 a143 := ⟨_, fi143, Tryd.func51, by kernel_rfl, by kernel_rfl, by kernel_rfl⟩
theorem ok144 : FnOk 52 a144 := ⟨_, fi144, Tryd.func52, by kernel_rfl, by kernel_rfl, by kernel_rfl⟩
theorem ok145 : FnOk 53 a145 := ⟨_, fi145, Tryd.func53, by kernel_rfl, by kernel_rfl, by kernel_rfl⟩
theorem ok146 : FnOk 54 a146 := ⟨_, fi146, Tryd.func54, by kernel_rfl, by kernel_rfl, by kernel_rfl⟩
theorem ok147 : FnOk 55 a147 := ⟨_, fi147, Tryd.func55, by kernel_rfl, by kernel_rfl, by kernel_rfl⟩
theorem ok148 : FnOk 56 a148 := ⟨_, fi148, Tryd.func56, by kernel_rfl, by kernel_rfl, by kernel_rfl⟩
theorem ok149 : FnOk 57 a149 := ⟨_, fi149, Tryd.func57, by kernel_rfl, by kernel_rfl, by kernel_rfl⟩
theorem ok150 : FnOk 58 a150 := ⟨_, fi150, Tryd.func58, by kernel_rfl, by kernel_rfl, by kernel_rfl⟩
theorem ok151 : FnOk 59 a151 := ⟨_, fi151, Tryd.func59, by kernel_rfl, by kernel_rfl, by kernel_rfl⟩
theorem ok73 : FnOk 60 a73 := ⟨_, fi73, Tryd.func60, by kernel_rfl, by kernel_rfl, by kernel_rfl⟩
theorem ok74 : FnOk 61 a74 := ⟨_, fi74, Tryd.func61, by kernel_rfl, by kernel_rfl, by kernel_rfl⟩
theorem ok35 : FnOk 62 a35 := ⟨_, fi35, Tryd.func62, by kernel_rfl, by kernel_rfl, by kernel_rfl⟩
theorem ok79 : FnOk 63 a79 := ⟨_, fi79, Tryd.func63, by kernel_rfl, by kernel_rfl, by kernel_rfl⟩
theorem ok80 : FnOk 64 a80 := ⟨_, fi80, Tryd.func64, by kernel_rfl, by kernel_rfl, by kernel_rfl⟩
theorem ok81 : FnOk 65 a81 := ⟨_, fi81, Tryd.func65, by kernel_rfl, by kernel_rfl, by kernel_rfl⟩
theorem ok82 : FnOk 66 a82 := ⟨_, fi82, Tryd.func66, by kernel_rfl, by kernel_rfl, by kernel_rfl⟩
theorem ok153 : FnOk 67 a153 := ⟨_, fi153, Tryd.func67, by kernel_rfl, by kernel_rfl, by kernel_rfl⟩
theorem ok154 : FnOk 68 a154 := ⟨_, fi154, Tryd.func68, by kernel_rfl, by kernel_rfl, by kernel_rfl⟩
theorem ok155 : FnOk 69 a155 := ⟨_, fi155, Tryd.func69, by kernel_rfl, by kernel_rfl, by kernel_rfl⟩
theorem ok69 : FnOk 70 a69 := ⟨_, fi69, Tryd.func70, by kernel_rfl, by kernel_rfl, by kernel_rfl⟩
theorem ok70 : FnOk 71 a70 := ⟨_, fi70, Tryd.func71, by kernel_rfl, by kernel_rfl, by kernel_rfl⟩
theorem ok125 : FnOk 72 a125 := ⟨_, fi125, Tryd.func72, by kernel_rfl, by kernel_rfl, by kernel_rfl⟩
theorem ok126 : FnOk 73 a126 := ⟨_, fi126, Tryd.func73, by kernel_rfl, by kernel_rfl, by kernel_rfl⟩
theorem ok127 : FnOk 74 a127 := ⟨_, fi127, Tryd.func74, by kernel_rfl, by kernel_rfl, by kernel_rfl⟩
theorem ok128 : FnOk 75 a128 := ⟨_, fi128, Tryd.func75, by kernel_rfl, by kernel_rfl, by kernel_rfl⟩
theorem ok157 : FnOk 76 a157 := ⟨_, fi157, Tryd.func76, by kernel_rfl, by kernel_rfl, by kernel_rfl⟩
theorem ok158 : FnOk 77 a158 := ⟨_, fi158, Tryd.func77, by kernel_rfl, by kernel_rfl, by kernel_rfl⟩
theorem ok119 : FnOk 81 a119 := ⟨_, fi119, Tryd.func81, by kernel_rfl, by kernel_rfl, by kernel_rfl⟩
theorem ok142 : FnOk 82 a142 := ⟨_, fi142, Tryd.func82, by kernel_rfl, by kernel_rfl, by kernel_rfl⟩
theorem ok141 : FnOk 86 a141 := ⟨_, fi141, Tryd.func86, by kernel_rfl, by kernel_rfl, by kernel_rfl⟩
theorem ok152 : FnOk 89 a152 := ⟨_, fi152, Tryd.func89, by kernel_rfl, by kernel_rfl, by kernel_rfl⟩
theorem ok156 : FnOk 94 a156 := ⟨_, fi156, Tryd.func94, by kernel_rfl, by kernel_rfl, by kernel_rfl⟩
theorem ok162 : FnOk 96 a162 := ⟨_, fi162, Tryd.func96, by kernel_rfl, by kernel_rfl, by kernel_rfl⟩
end Go.Abs.Z

namespace Go.Abs.Z
open Go.Proofs
def tabL : List (FuncId × AFunc) := [(14, a47), (16, a49), (17, a50), (20, a53), (27, a101), (28, a102), (29, a75), (30, a103), (31, a104), (34, a78), (38, a76), (44, a137), (45, a123), (4, a4), (5, a7), (6, a8), (8, a21), (9, a13), (10, a11), (11, a22), (12, a23), (13, a46), (15, a48), (18, a51), (19, a52), (21, a54), (22, a55), (23, a97), (24, a98), (25, a99), (26, a100), (32, a105), (33, a106), (35, a107), (36, a108), (37, a77), (39, a132), (40, a133), (41, a134), (42, a135), (43, a136), (46, a138), (47, a139), (48, a124), (49, a140), (50, a38), (51, a143), (52, a144), (53, a145), (54, a146), (55, a147), (56, a148), (57, a149), (58, a150), (59, a151), (60, a73), (61, a74), (62, a35), (63, a79), (64, a80), (65, a81), (66, a82), (67, a153), (68, a154), (69, a155), (70, a69), (71, a70), (72, a125), (73, a126), (74, a127), (75, a128), (76, a157), (77, a158), (81, a119), (82, a142), (86, a141), (89, a152), (94, a156), (96, a162)]
noncomputable def lookK (l : List (FuncId × AFunc)) (f : FuncId) : Option AFunc := List.rec (motive := fun _ => Option AFunc) none (fun p _ ih => cond (Nat.beq p.1 f) (some p.2) ih) l
noncomputable def tab (f : FuncId) : Option AFunc := lookK tabL f
theorem lookK_ok : ∀ (l : List (FuncId × AFunc)), (∀ x ∈ l, FnOk x.1 x.2) → ∀ f af, lookK l f = some af → FnOk f af
  | [], _, f, af, h => by cases h
  | p :: l, hl, f, af, h => by
    have h' : cond (Nat.beq p.1 f) (some p.2) (lookK l f) = some af := h;cases hb : Nat.beq p.1 f with
    | true =>
      rw [hb] at h';cases h';have : p.1 = f := Nat.eq_of_beq_eq_true hb;rw [← this]; exact hl p (List.mem_cons_self ..)
    | false => rw [hb] at h'; exact lookK_ok l (fun x hx => hl x (List.mem_cons_of_mem _ hx)) f af h'
theorem all_cons {p : FuncId × AFunc} {l : List (FuncId × AFunc)} (h : FnOk p.1 p.2) (hl : ∀ x ∈ l, FnOk x.1 x.2) : ∀ x ∈ p :: l, FnOk x.1 x.2 := by
  intro x hx;rcases List.mem_cons.1 hx with rfl | hx
  · exact h
  · exact hl x hx
theorem all_nil : ∀ x ∈ ([] : List (FuncId × AFunc)), FnOk x.1 x.2 := fun x hx => by cases hx
set_option maxRecDepth 10000 in
theorem tabL_ok : ∀ x ∈ tabL, FnOk x.1 x.2 :=
  all_cons ok47 <| all_cons ok49 <| all_cons ok50 <| all_cons ok53 <| all_cons ok101 <| all_cons ok102 <| all_cons ok75 <| all_cons ok103 <| all_cons ok104 <| all_cons ok78 <| all_cons ok76 <| all_cons ok137 <| all_cons ok123 <| all_cons ok4 <| all_cons ok7 <| all_cons ok8 <| all_cons ok21 <| all_cons ok13 <| all_cons ok11 <| all_cons ok22 <| all_cons ok23 <| all_cons ok46 <| all_cons ok48 <| all_cons ok51 <| all_cons ok52 <| all_cons ok54 <| all_cons ok55 <| all_cons ok97 <| all_cons ok98 <| all_cons ok99 <| all_cons ok100 <| all_cons ok105 <| all_cons ok106 <| all_cons ok107 <| all_cons ok108 <| all_cons ok77 <| all_cons ok132 <| all_cons ok133 <| all_cons ok134 <| all_cons ok135 <| all_cons ok136 <| all_cons ok138 <| all_cons ok139 <| all_cons ok124 <| all_cons ok140 <| all_cons ok38 <| all_cons ok143 <| all_cons ok144 <| all_cons ok145 <| all_cons ok146 <| all_cons ok147 <| all_cons ok148 <| all_cons ok149 <| all_cons ok150 <| all_cons ok151 <| all_cons ok73 <| all_cons ok74 <| all_cons ok35 <| all_cons ok79 <| all_cons ok80 <| all_cons ok81 <| all_cons ok82 <| all_cons ok153 <| all_cons ok154 <| all_cons ok155 <| all_cons ok69 <| all_cons ok70 <| all_cons ok125 <| all_cons ok126 <| all_cons ok127 <| all_cons ok128 <| all_cons ok157 <| all_cons ok158 <| all_cons ok119 <| all_cons ok142 <| all_cons ok141 <| all_cons ok152 <| all_cons ok156 <| all_cons ok162 <| all_nil
theorem tabOk : TabOk Tryd.prog pur tab := fun f af h => lookK_ok tabL tabL_ok f af h
theorem mixed : Tryd.prog.follows .mixedOrders = true := by kernel_rfl
end Go.Abs.Z
