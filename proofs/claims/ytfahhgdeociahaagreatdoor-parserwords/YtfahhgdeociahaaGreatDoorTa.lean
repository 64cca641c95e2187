/- A part of the proof: T0. -/
import Derived.Test.YtfahhgdeociahaaGreatDoorTt

set_option linter.unusedVariables false
set_option linter.unusedSimpArgs false
namespace Go.Abs.Z
abbrev pL : SK := .plain
abbrev iM : SK := .imm
def fI (kd : List SK) (keep : List Bool) (nt : Nat) (md : List (Nat × Nat × Nat)) : FI := { kd := kd, al := [], keep := keep, nt := nt, ps := [], bt := some (74, 5), md := md }
def pur (f : FuncId) : Bool := !([23, 24, 25, 26, 27, 28, 29, 30, 31, 35, 36, 37, 38, 39, 43, 44, 45, 46, 47, 48, 49, 50, 51, 52, 53, 54, 55, 56, 57, 58, 59, 60, 61, 62, 63, 69, 70, 71, 72, 73, 74, 75, 76, 77, 78, 79, 80, 81, 82, 83, 84, 85, 86, 87, 88, 99, 102, 103, 104, 105, 106, 107, 108, 109, 110, 111, 119, 121, 123, 124, 125, 126, 127, 128, 129, 136, 138, 139, 140, 141, 142, 149, 150, 152, 154, 156, 157, 162] : List Nat).contains f
def fi3 : FI := fI [pL, pL, pL, iM, pL, pL, iM] [] 41 []
open Go.Abs.T in
def fi4 : FI := fI [pL, pL, pL, iM, pL, pL, pL, iM] (f4 (t (f16 (f8 (f2 (t (t (t (f4 (f2 (f1 (t (t (t (f2 (f1 [])))))))))))))))) 47 []
def fi5 : FI := fI [pL, pL, pL, iM, pL, pL, iM, pL, pL, iM, pL, pL, iM] [] 74 []
open Go.Abs.T in
def fi6 : FI := fI [pL, pL, pL, pL, pL, pL, iM, pL, pL, iM] (f4 (f2 (f1 (t (f2 (t (f32 (f8 (f4 (f2 (f1 (t (t (f8 (f4 (f2 (t (t (t (t (t (t (t (t (t (t (t (f2 (f1 []))))))))))))))))))))))))))))) 88 []
open Go.Abs.T in
def fi7 : FI := fI [pL, iM, pL, pL, pL, pL, pL, iM, pL, pL, iM] (f4 (t (t (f32 (f8 (f4 (t (t (f16 (f8 (f4 (t (t (t (t (f1 [])))))))))))))))) 85 []
def fi8 : FI := fI [pL, pL, .box] [] 10 []
open Go.Abs.T in
def fi9 : FI := fI [pL, pL, .box] (t (f1 (t (f2 (t (t (t (f16 (f4 (t (t (t (f2 (t (t (t (f32 (f4 [])))))))))))))))))) 72 []
open Go.Abs.T in
def fi11 : FI := fI [pL, pL, pL, pL, pL, pL, iM, iM] (t (t (f2 (f1 (t (t (t (t (f16 (f8 (f1 (t (t (t (t (t (f2 (t (t (t (t (t (f2 (t (t (t (t (t (f2 (t (t (t (t (t (t (t (f16 (f2 (f1 []))))))))))))))))))))))))))))))))))))))) 81 []
open Go.Abs.T in
def fi13 : FI := fI [pL, iM] (f1 (t (f1 (t (t (f16 (f2 []))))))) 23 []
open Go.Abs.T in
def fi18 : FI := fI [] (t (f2 (f1 (t (t (f32 (f4 []))))))) 42 []
open Go.Abs.T in
def fi19 : FI := fI [] (t (t (f2 (f1 (t (t (f16 (f8 (f2 (f1 [])))))))))) 34 []
open Go.Abs.T in
def fi21 : FI := fI [pL, pL, iM, iM] (f2 (t (t (f1 (t (f32 (f8 []))))))) 46 []
def fi22 : FI := fI [pL, pL, pL, pL, .box, pL, pL, pL, pL, pL, iM, iM] [] 48 [(7, 11, 1), (8, 0, 3)]
def fi23 : FI := { kd := [.plain, .obj, .box, .box], al := [(15, 3), (22, 3), (27, 3), (33, 3), (38, 3), (44, 3)], keep := [false, true, true, true, false, false, false, false, false, false, false, false, false, false, false, false, false, false, false, false, false, false, false, false, false, false, false, false, false, false, false, false, false, false, false, false, false, false, false, false, false, false, false, false, false, false], nt := 46, ps := [], bt := some (74, 5), md := [] }
def fi35 : FI := fI [pL, pL, .box] [] 8 []
open Go.Abs.T in
def fi38 : FI := fI [pL, pL, .box, pL, pL, iM, iM] (t (f1 (t (f4 (t (t (f32 (f16 (f8 (f4 (f2 (t (t (t (t (t (t (t (t (t (t (t (f8 (t (t (t (f2 (t (t (t (f4 (f1 [])))))))))))))))))))))))))))))))) 103 []
open Go.Abs.T in
def fi40 : FI := fI [] (t (t (f8 (t (t (t (t (t (t (t (t (t (t (f8 (f2 (t (t (t (t (f4 (f2 []))))))))))))))))))))) 40 []
open Go.Abs.T in
def fi41 : FI := fI [] (t (t (f4 (t (f8 (f2 (f1 (t (t (t (t (t (t (t (t (t (t (t (t (t (t (t (t (f16 (f4 (t (t (t (t (f16 (f2 (f1 (t (t (t (t (t (f2 (t (t (t (t (f2 (t (t (t (t (f4 [])))))))))))))))))))))))))))))))))))))))))))))))) 98 []
open Go.Abs.T in
def fi42 : FI := fI [] (t (t (f2 (f1 (t (f8 (f4 (f1 (t (t (t (t (t (t (t (t (t (t (t (f2 (t (t (t (t (t (t (t (t (t (t (t (f2 (t (t (t (t (t (t (t (t (f4 []))))))))))))))))))))))))))))))))))))))))) 57 []
open Go.Abs.T in
def fi46 : FI := fI [pL, pL, pL, pL, pL, pL, pL, pL, pL, pL, iM, pL, pL, pL, pL, pL, pL, pL, pL, pL, pL, pL, pL, pL, pL, .obj] (t (f4 (f2 (t (t (f16 (f1 (t (t (t (f32 (f16 (f4 (f2 [])))))))))))))) 83 [(22, 8, 1)]
def fi47 : FI := fI [pL, pL, pL, pL, .box] [] 24 []
def fi48 : FI := fI [] [] 14 [(1, 5, 1), (3, 0, 2)]
def fi49 : FI := fI [] [] 10 []
def fi50 : FI := fI [pL, pL, pL, pL, pL, iM] [] 23 []
def fi51 : FI := fI [pL, pL, .box] [] 30 []
def fi52 : FI := fI [pL, pL, .box, pL, pL, pL, iM, iM, iM] [] 33 []
def fi53 : FI := fI [pL, pL, pL, pL, pL, pL, iM] [] 37 [(2, 13, 1)]
open Go.Abs.T in
def fi54 : FI := fI [pL, pL, pL, pL, .box] (t (t (f2 (t (t (t (f8 (f1 (t (t (t (t (t (t (t (t (t (t (t (f4 (f2 (f1 [])))))))))))))))))))))) 34 []
def fi55 : FI := fI [] [] 5 []
open Go.Abs.T in
def fi69 : FI := fI [pL, pL, pL, pL, pL, pL, .box, pL, pL, .box, pL, iM] (t (t (t (f2 (f1 (t (t (t (t (f16 (f8 (f1 [])))))))))))) 35 []
def fi70 : FI := fI [pL, pL, .box] [] 8 []
def fi73 : FI := fI [pL, pL, .box, pL, pL, pL, iM, iM] [] 33 []
def fi74 : FI := fI [pL, pL, .box, pL, pL, iM, iM, .box] [] 41 []
def fi75 : FI := fI [] [] 12 []
def fi76 : FI := fI [pL, pL, pL, iM] [] 22 [(2, 8, 3)]
open Go.Abs.T in
def fi77 : FI := fI [pL, pL, .box] (t (f1 (t (t (t (t (f16 (f2 (f1 (t (t (t (f8 (f4 (f1 []))))))))))))))) 41 []
def fi78 : FI := { kd := [.plain, .plain, .plain, .plain, .plain, .plain, .plain, .plain, .plain, .plain, .plain, .plain, .box, .box], al := [(38, 13), (39, 13), (43, 13), (50, 13)], keep := [], nt := 52, ps := [], bt := some (74, 5), md := [] }
def fi79 : FI := fI [pL, pL, .box, pL, pL, pL, iM, iM, iM] [] 37 []
def fi80 : FI := fI [pL, pL, .box, pL, pL, pL, .box] [] 37 []
def fi81 : FI := fI [pL, pL, .box, pL, pL, pL, pL, iM, iM] [] 43 []
def fi82 : FI := fI [] [] 6 []
def fi89 : FI := fI [] [] 17 []
def fi90 : FI := fI [] [] 9 []
def fi91 : FI := fI [] [] 9 []
def fi92 : FI := fI [] [] 6 []
def fi93 : FI := fI [] [] 26 []
def fi94 : FI := fI [] [] 21 []
open Go.Abs.T in
def fi97 : FI := fI [] (t (f2 (f1 (t (t (f32 (f2 (f1 [])))))))) 41 []
open Go.Abs.T in
def fi98 : FI := fI [] (f4 (t (f16 (f1 (t (t (t (f8 (f2 (f1 [])))))))))) 36 []
def fi99 : FI := fI [] [] 9 []
def fi100 : FI := fI [pL, pL, iM, iM] [] 10 []
def fi101 : FI := fI [] [] 9 []
def fi102 : FI := fI [pL, pL, pL, iM] [] 14 []
def fi103 : FI := fI [] [] 11 []
def fi104 : FI := fI [] [] 9 []
open Go.Abs.T in
def fi105 : FI := fI [] (t (t (f2 (f1 (t (f8 (f2 (f1 [])))))))) 17 []
def fi106 : FI := fI [pL, pL, .box, pL, pL, pL, pL, pL, pL, iM] [] 51 []
def fi107 : FI := fI [pL, pL, .box] [] 28 []
def fi108 : FI := fI [pL, pL, .box] [] 57 []
open Go.Abs.T in
def fi114 : FI := fI [] (t (t (f2 (f1 (t (f8 (f4 []))))))) 18 []
def fi119 : FI := fI [pL, pL, .box, pL, pL, iM, iM, pL, iM] [] 42 []
def fi123 : FI := fI [] [] 12 []
def fi124 : FI := fI [pL, pL, .box] [] 14 []
def fi125 : FI := fI [] [] 14 []
def fi126 : FI := fI [pL, pL, pL, pL, pL, iM] [] 18 []
def fi127 : FI := fI [] [] 17 []
def fi128 : FI := fI [pL, pL, .box, pL, pL, iM, iM] [] 42 []
open Go.Abs.T in
def fi132 : FI := fI [] (t (t (f16 (f8 [])))) 26 []
open Go.Abs.T in
def fi133 : FI := fI [] (t (f4 (f2 (f1 (t (f32 (f4 (f2 (t (t (t (t (t (f2 (t (t (t (t (f2 (t (t (t (t (t (f2 (t (t (t (t (t (f2 (t (t (t (t (f4 [])))))))))))))))))))))))))))))))))))) 82 []
open Go.Abs.T in
def fi134 : FI := fI [] (t (t (t (f8 (f1 (t (t (t (t (t (f4 []))))))))))) 21 []
def fi135 : FI := fI [] [] 9 []
open Go.Abs.T in
def fi136 : FI := fI [] (t (t (t (f2 (f1 (t (t (t (f32 (f16 (f4 (f2 [])))))))))))) 63 []
open Go.Abs.T in
def fi137 : FI := fI [] (t (t (f4 (f1 (t (t (f8 (f2 [])))))))) 19 []
def fi138 : FI := fI [pL, pL, .box] [] 14 []
def fi139 : FI := fI [pL, pL, .box, pL, pL, pL, pL, iM] [] 27 []
def fi140 : FI := fI [] [] 10 []
def fi141 : FI := fI [pL, pL, .box] [] 8 []
def fi142 : FI := fI [pL, pL, .box] [] 18 []
def fi143 : FI := fI [] [] 17 []
def fi144 : FI := fI [] [] 5 []
def fi145 : FI := fI [] [] 9 []
def fi146 : FI := fI [] [] 13 []
def fi147 : FI := fI [] [] 6 []
open Go.Abs.T in
def fi148 : FI := fI [] (t (t (f32 (f8 (f2 (t (t (t (f8 (f1 [])))))))))) 56 []
open Go.Abs.T in
def fi149 : FI := fI [] (t (t (t (t (f4 (t (t (f8 (f4 (t (t (t (t (t (t (t (t (t (t (t (t (f16 (f2 (f1 [])))))))))))))))))))))))) 53 []
open Go.Abs.T in
def fi150 : FI := fI [] (t (t (t (t (t (f4 (f1 (t (t (f1 (t (t (t (f1 (t (t (t (t (t (t (f32 (f32 (f32 (f32 (f16 (f8 (f4 (f2 (f1 (t (t (t (f8 (f2 (f1 (t (t (t (f8 (f2 (f1 (t (t (t (f4 (f2 (f1 []))))))))))))))))))))))))))))))))))))))))))))))) 220 []
def fi151 : FI := fI [] [] 13 []
def fi152 : FI := fI [pL, pL, .box] [] 8 []
def fi153 : FI := { kd := [.plain, .mapb [.s [114, 101, 99, 111, 114, 100], .s [112, 114, 111, 99], .s [118, 97, 114], .s [105, 102], .s [101, 108, 115, 101], .s [119, 104, 105, 108, 101], .s [102, 111, 114], .s [116, 111], .s [114, 101, 116, 117, 114, 110], .s [97, 115, 115, 101, 114, 116], .s [97, 110, 100], .s [111, 114], .s [110, 111, 116], .s [116, 114, 117, 101], .s [102, 97, 108, 115, 101], .s [105, 110, 116], .s [98, 111, 111, 108], .s [108, 101, 110]], .plain, .ent 1 (.s [114, 101, 99, 111, 114, 100]), .ent 1 (.s [112, 114, 111, 99]), .ent 1 (.s [118, 97, 114]), .ent 1 (.s [105, 102]), .ent 1 (.s [101, 108, 115, 101]), .ent 1 (.s [119, 104, 105, 108, 101]), .ent 1 (.s [102, 111, 114]), .ent 1 (.s [116, 111]), .ent 1 (.s [114, 101, 116, 117, 114, 110]), .ent 1 (.s [97, 115, 115, 101, 114, 116]), .ent 1 (.s [97, 110, 100]), .ent 1 (.s [111, 114]), .ent 1 (.s [110, 111, 116]), .ent 1 (.s [116, 114, 117, 101]), .ent 1 (.s [102, 97, 108, 115, 101]), .ent 1 (.s [105, 110, 116]), .ent 1 (.s [98, 111, 111, 108]), .ent 1 (.s [108, 101, 110])], al := [], keep := [], nt := 3, ps := [(1, 1, 3), (1, 2, 4), (1, 3, 5), (1, 4, 6), (1, 5, 7), (1, 6, 8), (1, 7, 9), (1, 8, 10), (1, 9, 11), (1, 10, 12), (1, 11, 13), (1, 12, 14), (1, 13, 15), (1, 14, 16), (1, 15, 17), (1, 16, 18), (1, 17, 19), (1, 18, 20)], bt := some (74, 5), md := [] }
open Go.Abs.T in
def fi154 : FI := fI [] (t (f1 (t (f1 (t (f4 (f1 (t (t (f32 (f8 (f4 (f2 []))))))))))))) 58 []
def fi155 : FI := fI [pL, pL, pL, pL, pL, iM] [] 37 []
def fi156 : FI := fI [pL, pL, .box, pL, pL, iM] [] 23 []
open Go.Abs.T in
def fi157 : FI := fI [] (t (t (t (t (f4 (f2 (t (f16 (f8 (f2 (f1 []))))))))))) 38 []
open Go.Abs.T in
def fi158 : FI := fI [] (t (t (f4 (f2 (f1 (t (t (t (t (f4 [])))))))))) 17 []
def fi162 : FI := fI [pL, pL, .box, pL, pL, pL, pL, pL, pL, pL, iM, iM] [] 101 []
end Go.Abs.Z
