/- A part of the proof: T0. -/
import Derived.Test.YtkmhldloehaamaaGreatDoorTt

set_option linter.unusedVariables false
set_option linter.unusedSimpArgs false
namespace Go.Abs.Z
abbrev pL : SK := .plain
abbrev iM : SK := .imm
def fI (kd : List SK) (keep : List Bool) (nt : Nat) : FI := { kd := kd, al := [], keep := keep, nt := nt, ps := [], still := [], bt := some (63, 5) }
def pur (f : FuncId) : Bool := !([28, 29, 30, 38, 40, 44, 45, 46, 47, 48, 49, 50, 54, 65, 66, 67, 68, 69, 70, 71, 72, 73, 74, 75, 93, 94, 95, 98, 99, 132, 133, 134, 135, 148, 163, 164] : List Nat).contains f
open Go.Abs.T in
def fi8 : FI := fI [pL, pL, iM] (f1 (t (f2 (f1 (t (t (f16 (f2 (f1 []))))))))) 26
def fi9 : FI := fI [pL, iM, pL, pL, pL, pL, iM, pL, pL, iM] [] 73
def fi10 : FI := fI [pL, iM] [] 47
open Go.Abs.T in
def fi11 : FI := fI [pL, iM] (f1 (t (f1 (t (f16 (f8 (f2 []))))))) 30
def fi12 : FI := fI [pL, pL, pL, iM, pL, iM] [] 21
def fi13 : FI := fI [pL, pL, pL, iM, pL, iM] [] 18
def fi15 : FI := fI [pL, iM] [] 13
open Go.Abs.T in
def fi17 : FI := fI [pL, pL, .box] (t (f1 (t (f2 (t (t (t (f16 (f4 (t (t (t (f2 (t (t (t (f32 (f4 [])))))))))))))))))) 72
open Go.Abs.T in
def fi18 : FI := fI [pL, pL, iM, iM] (f2 (t (t (f1 (t (f32 (f8 []))))))) 46
def fi20 : FI := fI [pL, iM] [] 13
def fi21 : FI := { kd := [.plain, .plain, .box, .plain, .plain, .plain, .imm], al := [], keep := [], nt := 18, ps := [], still := [5], bt := some (63, 5) }
def fi23 : FI := fI [pL, pL, iM] [] 22
def fi24 : FI := fI [pL, pL, iM] [] 21
open Go.Abs.T in
def fi25 : FI := fI [pL, iM] (f1 (t (f1 (t (t (f16 (f2 []))))))) 23
def fi26 : FI := { kd := [.plain, .mapb [.s [111, 114], .s [97, 110, 100], .s [61, 61], .s [33, 61], .s [60], .s [60, 61], .s [62], .s [62, 61], .s [43], .s [45], .s [42], .s [47], .s [37]], .plain, .ent 1 (.s [111, 114]), .ent 1 (.s [97, 110, 100]), .ent 1 (.s [61, 61]), .ent 1 (.s [33, 61]), .ent 1 (.s [60]), .ent 1 (.s [60, 61]), .ent 1 (.s [62]), .ent 1 (.s [62, 61]), .ent 1 (.s [43]), .ent 1 (.s [45]), .ent 1 (.s [42]), .ent 1 (.s [47]), .ent 1 (.s [37])], al := [], keep := [], nt := 3, ps := [(1, 1, 3), (1, 2, 4), (1, 3, 5), (1, 4, 6), (1, 5, 7), (1, 6, 8), (1, 7, 9), (1, 8, 10), (1, 9, 11), (1, 10, 12), (1, 11, 13), (1, 12, 14), (1, 13, 15)], still := [], bt := some (63, 5) }
def fi27 : FI := fI [] [] 9
open Go.Abs.T in
def fi28 : FI := fI [] (t (t (f2 (f1 (t (f8 (f4 []))))))) 18
def fi29 : FI := fI [] [] 19
def fi30 : FI := fI [pL, pL, iM] [] 30
def fi31 : FI := fI [pL, pL, iM] [] 48
def fi33 : FI := fI [] [] 8
def fi34 : FI := fI [pL, iM] [] 10
def fi35 : FI := fI [] [] 8
def fi36 : FI := fI [pL, pL, iM, iM] [] 20
open Go.Abs.T in
def fi37 : FI := fI [pL, iM] (f1 (t (f2 (f1 (t (f32 (f16 (f4 (f2 (t (t (t (t (t (t (t (f1 []))))))))))))))))) 68
open Go.Abs.T in
def fi38 : FI := fI [pL, pL, pL, .obj] (f2 (f1 (t (t (f1 (t (f16 (f8 (f4 []))))))))) 35
def fi39 : FI := fI [] [] 14
def fi40 : FI := fI [] [] 14
def fi42 : FI := fI [pL, pL, .box, pL, pL, iM, iM, iM] [] 30
def fi44 : FI := fI [] [] 29
def fi45 : FI := { kd := [.plain, .plain, .plain, .plain, .plain, .plain, .plain, .plain, .plain, .plain, .box, .box], al := [(38, 11), (47, 11), (55, 11)], keep := [], nt := 57, ps := [], still := [], bt := some (63, 5) }
open Go.Abs.T in
def fi46 : FI := fI [] (t (t (f2 (f1 (t (f4 (f1 (t (t (t (f4 (f1 (t (t (t (t (t (t (t (t (t (t (t (t (t (t (f16 (f2 [])))))))))))))))))))))))))))) 51
open Go.Abs.T in
def fi47 : FI := fI [] (t (f2 (t (t (f1 (t (f32 (f8 (t (t (f8 (f1 (t (t (t (t (t (t (t (t (t (t (t (t (f16 (f2 (f1 []))))))))))))))))))))))))))) 89
def fi48 : FI := fI [pL, iM] [] 10
open Go.Abs.T in
def fi49 : FI := fI [pL, pL, pL, pL, .box, pL, iM, iM, .box, pL, iM] (t (t (f2 (t (t (f2 (t (f32 (f16 (f8 (f1 []))))))))))) 66
def fi50 : FI := fI [pL, pL, pL, iM] [] 41
def fi51 : FI := fI [pL, iM] [] 96
def fi52 : FI := fI [pL, iM] [] 10
def fi53 : FI := fI [pL, iM] [] 10
def fi54 : FI := fI [pL, pL, iM] [] 133
open Go.Abs.T in
def fi55 : FI := fI [pL, iM] (f1 (t (f1 (t (t (f16 (f1 []))))))) 22
def fi56 : FI := fI [pL, iM] [] 9
open Go.Abs.T in
def fi57 : FI := fI [pL, pL, iM] (f1 (t (t (f2 (t (t (f16 (f8 (f2 (f1 [])))))))))) 34
def fi59 : FI := { kd := [.plain, .mapb [.i .i64 2, .i .i64 3, .i .i64 4, .i .i64 5, .i .i64 7, .i .i64 8, .i .i64 9, .i .i64 10, .i .i64 11, .i .i64 12, .i .i64 13, .i .i64 14, .i .i64 15, .i .i64 16, .i .i64 17, .i .i64 18, .i .i64 19, .i .i64 20, .i .i64 21, .i .i64 22, .i .i64 23, .i .i64 24, .i .i64 25, .i .i64 26, .i .i64 27, .i .i64 28, .i .i64 29], .plain, .ent 1 (.i .i64 2), .ent 1 (.i .i64 3), .ent 1 (.i .i64 4), .ent 1 (.i .i64 5), .ent 1 (.i .i64 7), .ent 1 (.i .i64 8), .ent 1 (.i .i64 9), .ent 1 (.i .i64 10), .ent 1 (.i .i64 11), .ent 1 (.i .i64 12), .ent 1 (.i .i64 13), .ent 1 (.i .i64 14), .ent 1 (.i .i64 15), .ent 1 (.i .i64 16), .ent 1 (.i .i64 17), .ent 1 (.i .i64 18), .ent 1 (.i .i64 19), .ent 1 (.i .i64 20), .ent 1 (.i .i64 21), .ent 1 (.i .i64 22), .ent 1 (.i .i64 23), .ent 1 (.i .i64 24), .ent 1 (.i .i64 25), .ent 1 (.i .i64 26), .ent 1 (.i .i64 27), .ent 1 (.i .i64 28), .ent 1 (.i .i64 29)], al := [], keep := [], nt := 3, ps := [(1, 1, 3), (1, 2, 4), (1, 3, 5), (1, 4, 6), (1, 5, 7), (1, 6, 8), (1, 7, 9), (1, 8, 10), (1, 9, 11), (1, 10, 12), (1, 11, 13), (1, 12, 14), (1, 13, 15), (1, 14, 16), (1, 15, 17), (1, 16, 18), (1, 17, 19), (1, 18, 20), (1, 19, 21), (1, 20, 22), (1, 21, 23), (1, 22, 24), (1, 23, 25), (1, 24, 26), (1, 25, 27), (1, 26, 28), (1, 27, 29)], still := [], bt := some (63, 5) }
def fi60 : FI := fI [pL, iM] [] 70
def fi61 : FI := fI [] [] 33
def fi62 : FI := fI [pL, pL, pL, pL, pL, iM] [] 217
open Go.Abs.T in
def fi63 : FI := fI [] (t (f2 (f1 (t (t (f32 (f4 []))))))) 42
def fi64 : FI := fI [] [] 18
def fi65 : FI := fI [] [] 10
def fi66 : FI := fI [] [] 11
def fi68 : FI := fI [] [] 10
open Go.Abs.T in
def fi69 : FI := fI [pL, pL, .box] (t (f1 (t (t (t (f16 (f8 (f4 [])))))))) 33
def fi70 : FI := fI [pL, pL, .box] [] 13
open Go.Abs.T in
def fi71 : FI := fI [pL, pL, .box] (t (f1 (t (t (t (f16 (f8 (f1 [])))))))) 30
open Go.Abs.T in
def fi72 : FI := fI [] (t (f2 (f1 (t (t (f16 (f8 (f4 [])))))))) 34
def fi73 : FI := fI [pL, pL, pL, iM] [] 11
def fi74 : FI := fI [] [] 9
open Go.Abs.T in
def fi75 : FI := fI [pL, pL, .box, pL, pL, pL, pL, iM, iM] (t (f1 (t (t (f2 (t (f32 (f32 (f32 (f2 [])))))))))) 105
def fi76 : FI := fI [] [] 15
def fi77 : FI := fI [pL, pL, iM] [] 24
def fi78 : FI := fI [] [] 9
def fi79 : FI := fI [] [] 9
open Go.Abs.T in
def fi80 : FI := fI [] (t (f2 (t (t (f8 []))))) 13
def fi81 : FI := { kd := [.plain, .imm, .plain, .plain, .plain, .imm, .plain, .plain, .plain, .plain, .plain, .mapb [.i .i64 0, .i .i64 2, .i .i64 3, .i .i64 4, .i .i64 5, .i .i64 6, .i .i64 7, .i .i64 8, .i .i64 9, .i .i64 10, .i .i64 11, .i .i64 12, .i .i64 13, .i .i64 14, .i .i64 15, .i .i64 16, .i .i64 17, .i .i64 18, .i .i64 19, .i .i64 20, .i .i64 21, .i .i64 22, .i .i64 23, .i .i64 24, .i .i64 25, .i .i64 26, .i .i64 27, .i .i64 28, .i .i64 29], .plain, .plain, .plain, .plain, .plain, .plain, .plain, .plain, .plain, .plain, .plain, .plain, .plain, .plain, .plain, .plain, .plain, .plain, .plain, .plain, .plain, .plain, .plain, .plain, .plain, .plain, .plain, .plain, .plain, .plain, .plain, .plain, .plain, .plain, .plain, .plain, .plain, .plain, .plain, .plain, .plain, .plain, .plain, .plain, .plain, .plain, .plain, .plain, .plain, .plain, .plain, .plain, .plain, .plain, .plain, .plain, .plain, .plain, .plain, .plain, .plain, .plain, .plain, .plain, .plain, .plain, .plain, .plain, .plain, .plain, .plain, .plain, .plain, .plain, .plain, .plain, .plain, .plain, .plain, .plain, .plain, .plain, .plain, .plain, .plain, .plain, .plain, .plain, .plain, .plain, .plain, .plain, .plain, .plain, .plain, .plain, .plain, .plain, .plain, .plain, .plain, .plain, .plain, .plain, .plain, .plain, .plain, .ent 11 (.i .i64 0), .ent 11 (.i .i64 2), .ent 11 (.i .i64 3), .ent 11 (.i .i64 4), .ent 11 (.i .i64 5), .ent 11 (.i .i64 6), .ent 11 (.i .i64 7), .ent 11 (.i .i64 8), .ent 11 (.i .i64 9), .ent 11 (.i .i64 10), .ent 11 (.i .i64 11), .ent 11 (.i .i64 12), .ent 11 (.i .i64 13), .ent 11 (.i .i64 14), .ent 11 (.i .i64 15), .ent 11 (.i .i64 16), .ent 11 (.i .i64 17), .ent 11 (.i .i64 18), .ent 11 (.i .i64 19), .ent 11 (.i .i64 20), .ent 11 (.i .i64 21), .ent 11 (.i .i64 22), .ent 11 (.i .i64 23), .ent 11 (.i .i64 24), .ent 11 (.i .i64 25), .ent 11 (.i .i64 26), .ent 11 (.i .i64 27), .ent 11 (.i .i64 28), .ent 11 (.i .i64 29)], al := [], keep := [], nt := 119, ps := [(4, 2, 119), (4, 6, 120), (4, 11, 121), (4, 17, 122), (4, 25, 123), (4, 29, 124), (4, 34, 125), (4, 39, 126), (4, 42, 127), (4, 44, 128), (4, 46, 129), (4, 52, 130), (4, 56, 131), (4, 64, 132), (4, 69, 133), (4, 76, 134), (4, 81, 135), (4, 85, 136), (4, 89, 137), (4, 92, 138), (4, 98, 139), (4, 104, 140), (4, 109, 141), (4, 111, 142), (4, 115, 143), (4, 118, 144), (4, 122, 145), (4, 128, 146), (4, 135, 147)], still := [], bt := some (63, 5) }
open Go.Abs.T in
def fi83 : FI := fI [pL, pL, iM, iM, pL, pL, iM] (f2 (t (f32 (f4 (f2 (f1 (t (t (t (f16 (f2 (f1 [])))))))))))) 64
open Go.Abs.T in
def fi84 : FI := fI [pL, pL, iM, iM, pL, pL, pL, iM] (f2 (t (f2 (t (f2 (f1 (t (t (t (f8 (f4 []))))))))))) 24
def fi85 : FI := fI [pL, pL, iM, iM] [] 12
def fi86 : FI := fI [pL, pL, iM, iM] [] 15
def fi87 : FI := fI [pL, pL, iM, iM] [] 27
def fi88 : FI := fI [pL, pL, iM, iM] [] 10
def fi89 : FI := fI [pL, pL, iM, iM] [] 7
def fi90 : FI := fI [pL, pL, iM, iM] [] 9
open Go.Abs.T in
def fi91 : FI := fI [pL, pL, iM, iM, pL, iM, .obj, pL, iM] (f2 (t (f2 (t (t (f8 (t (t (t (f16 (f2 []))))))))))) 36
def fi92 : FI := fI [pL, pL, iM, iM] [] 18
def fi93 : FI := fI [pL, pL, iM, iM] [] 13
def fi94 : FI := fI [pL, pL, iM, iM] [] 33
def fi95 : FI := fI [pL, pL, iM, iM] [] 16
def fi96 : FI := fI [pL, pL, iM, iM] [] 21
def fi97 : FI := fI [pL, pL, iM, iM] [] 16
def fi98 : FI := fI [pL, pL, iM, iM] [] 10
def fi99 : FI := fI [pL, pL, iM, iM] [] 10
def fi100 : FI := fI [pL, pL, iM, iM] [] 13
def fi101 : FI := fI [pL, pL, iM, iM] [] 12
def fi102 : FI := fI [pL, pL, iM, iM] [] 10
def fi103 : FI := fI [pL, pL, iM, iM] [] 10
def fi104 : FI := fI [pL, pL, iM, iM] [] 12
def fi105 : FI := fI [pL, pL, iM, iM] [] 20
def fi106 : FI := fI [pL, pL, iM, iM] [] 15
def fi107 : FI := fI [] [] 32
def fi108 : FI := fI [] [] 20
def fi109 : FI := fI [] [] 9
def fi110 : FI := fI [] [] 13
open Go.Abs.T in
def fi111 : FI := fI [] (t (t (f8 (t (t (t (t (t (t (t (t (t (t (f8 (f2 (t (t (t (t (f4 (f2 []))))))))))))))))))))) 40
open Go.Abs.T in
def fi112 : FI := fI [] (t (t (f4 (t (f8 (f2 (f1 (t (t (t (t (t (t (t (t (t (t (t (t (t (t (t (t (f16 (f4 (t (t (t (t (f16 (f2 (f1 (t (t (t (t (t (f2 (t (t (t (t (f2 (t (t (t (t (f4 [])))))))))))))))))))))))))))))))))))))))))))))))) 98
def fi113 : FI := fI [pL, pL, .box, pL, pL, pL, iM] [] 24
def fi114 : FI := fI [pL, pL, .box] [] 52
def fi115 : FI := fI [] [] 18
def fi116 : FI := fI [pL, pL, .box, pL, pL, iM, iM, iM, iM, pL, iM, iM, iM, .box, iM, pL, pL, iM, iM] [] 164
def fi117 : FI := fI [] [] 9
open Go.Abs.T in
def fi118 : FI := fI [] (t (f4 (f2 (t (t (t (f4 []))))))) 14
def fi119 : FI := fI [] [] 30
open Go.Abs.T in
def fi120 : FI := fI [] (t (f2 (t (f16 (f4 (f1 [])))))) 25
def fi121 : FI := fI [pL, pL, .box, pL, iM, iM] [] 38
def fi122 : FI := fI [pL, pL, .box] [] 15
def fi123 : FI := fI [] [] 25
def fi124 : FI := fI [pL, iM] [] 4
def fi125 : FI := fI [pL, iM] [] 4
def fi126 : FI := fI [] [] 9
def fi127 : FI := fI [pL, iM] [] 4
def fi128 : FI := fI [] [] 5
def fi129 : FI := fI [] [] 13
def fi130 : FI := fI [] [] 20
def fi131 : FI := fI [] [] 13
def fi134 : FI := fI [] [] 5
open Go.Abs.T in
def fi135 : FI := fI [pL, pL, iM, iM] (f2 (t (t (f1 (t (f2 (f1 (t (t (f8 (f4 []))))))))))) 23
def fi136 : FI := fI [pL, pL, iM, iM] [] 13
def fi138 : FI := fI [pL, iM] [] 6
def fi140 : FI := fI [pL, pL, pL, iM, iM] [] 27
def fi141 : FI := fI [] [] 9
def fi142 : FI := fI [] [] 6
def fi143 : FI := fI [] [] 17
def fi144 : FI := fI [] [] 26
def fi145 : FI := fI [] [] 21
def fi146 : FI := fI [pL, pL, .box, pL, iM, iM, .box] [] 38
def fi147 : FI := fI [] [] 31
def fi149 : FI := fI [] [] 9
def fi150 : FI := fI [] [] 6
open Go.Abs.T in
def fi151 : FI := fI [] (t (t (t (f8 (f1 (t (t (t (t (t (f4 []))))))))))) 21
def fi152 : FI := fI [] [] 13
def fi153 : FI := fI [] [] 9
def fi154 : FI := fI [] [] 7
def fi155 : FI := fI [] [] 9
def fi156 : FI := fI [] [] 11
def fi157 : FI := fI [] [] 7
def fi158 : FI := fI [] [] 9
open Go.Abs.T in
def fi159 : FI := fI [] (f4 (t (f16 (f1 (t (t (t (f8 (f2 (f1 [])))))))))) 36
def fi164 : FI := { kd := [.plain, .mapb [.s [114, 101, 99, 111, 114, 100], .s [112, 114, 111, 99], .s [118, 97, 114], .s [105, 102], .s [101, 108, 115, 101], .s [119, 104, 105, 108, 101], .s [102, 111, 114], .s [116, 111], .s [114, 101, 116, 117, 114, 110], .s [97, 115, 115, 101, 114, 116], .s [97, 110, 100], .s [111, 114], .s [110, 111, 116], .s [116, 114, 117, 101], .s [102, 97, 108, 115, 101], .s [105, 110, 116], .s [98, 111, 111, 108], .s [108, 101, 110]], .plain, .ent 1 (.s [114, 101, 99, 111, 114, 100]), .ent 1 (.s [112, 114, 111, 99]), .ent 1 (.s [118, 97, 114]), .ent 1 (.s [105, 102]), .ent 1 (.s [101, 108, 115, 101]), .ent 1 (.s [119, 104, 105, 108, 101]), .ent 1 (.s [102, 111, 114]), .ent 1 (.s [116, 111]), .ent 1 (.s [114, 101, 116, 117, 114, 110]), .ent 1 (.s [97, 115, 115, 101, 114, 116]), .ent 1 (.s [97, 110, 100]), .ent 1 (.s [111, 114]), .ent 1 (.s [110, 111, 116]), .ent 1 (.s [116, 114, 117, 101]), .ent 1 (.s [102, 97, 108, 115, 101]), .ent 1 (.s [105, 110, 116]), .ent 1 (.s [98, 111, 111, 108]), .ent 1 (.s [108, 101, 110])], al := [], keep := [], nt := 3, ps := [(1, 1, 3), (1, 2, 4), (1, 3, 5), (1, 4, 6), (1, 5, 7), (1, 6, 8), (1, 7, 9), (1, 8, 10), (1, 9, 11), (1, 10, 12), (1, 11, 13), (1, 12, 14), (1, 13, 15), (1, 14, 16), (1, 15, 17), (1, 16, 18), (1, 17, 19), (1, 18, 20)], still := [], bt := some (63, 5) }
open Go.Abs.T in
def fi165 : FI := fI [] (t (t (f4 (f1 (t (t (f8 (f2 [])))))))) 19
open Go.Abs.T in
def fi166 : FI := fI [] (t (t (f4 (f1 (t (t (f8 (f2 [])))))))) 19
open Go.Abs.T in
def AzA : FI := fI [pL, pL, iM, pL, pL, pL, pL, pL, pL, iM] (f1 (t (f32 (f32 (f4 (t (t (t (f8 (t (t (t (t (t (t (t (t (t (f2 (t (t (t (t (t (t (t (f2 (f1 [])))))))))))))))))))))))))))) 102
def fi1009 : FI := { kd := [.plain, .plain, .box, .plain, .plain, .plain, .imm], al := [], keep := [], nt := 18, ps := [], still := [5], bt := some (63, 5) }
end Go.Abs.Z
