/- A part of the proof: T0 T3a T1. -/
import Derived.Test.YtngalibidopjlaaGreatDoorKag
import Derived.Test.YtngalibidopjlaaGreatDoorProg

set_option linter.unusedVariables false
set_option linter.unusedSimpArgs false
namespace Go.Abs.Z
open Go.Abs.T
abbrev pL:SK:=.plain
abbrev iM:SK:=.imm
def fI(kd:List SK)(keep:List Bool)(nt:Nat)(md:List (Nat×Nat×Nat)):FI:={ kd:=kd,al:=[],keep:=keep,nt:=nt,ps:=[],bt:=some (120,5),md:=md }
def pur(f:FuncId):Bool:=!([17,27,28,29,30,31,32,33,34,37,38,39,56,57,58,59,60,61,62,63,64,65,77,82,83,84,86,87,88,89,90,91,92,93,96,97,98,99,100,101,102,103,121,122,130,133,134,135,136,137,138,139,140,141,142,143,147,150,151,152,155,158,160,169,176,178,179,180,181,182,183,190,191,193,234,235,237,238,239,240,241,242,243,244,245,248,263,264,265,266,267,268,269,274,275,276,279,280,284,285,286]:List Nat).contains f
def fi3:FI:=fI [pL,pL,pL,iM,pL,pL,pL,pL,pL,pL,pL,pL,pL,iM,pL,iM] (t (f2 (t (f2 (t (f1 (t (f16 (f8 (f2 (t (t (f8 (f2 (f1 (t (t (t (f8 (f2 (f1 (t (t (t (f16 (f4 (t (t (f2 (t (t (t (f2 (t (f1 []))))))))))))))))))))))))))))))))))) 96 [(15,2,6),(21,2,6)]
def fi4:FI:=fI [pL,pL,iM,pL,pL,iM,pL,pL,iM,pL,pL,iM,pL,pL,iM,pL,iM,pL,iM,pL,iM] [] 125 []
def fi5:FI:=fI [pL,pL,.box] [] 10 []
def fi6:FI:=fI [] (t (f2 (f1 (t (t (f32 (f2 (f1 [])))))))) 41 []
def fi7:FI:=fI [pL,iM,pL,.box] [] 10 []
def fi8:FI:=fI [pL,pL,pL,pL,iM,pL,pL,pL,iM,pL,pL,iM] [] 39 []
def fi9:FI:=fI [pL,pL,pL,iM,pL,pL,iM] [] 19 []
def fi10:FI:=fI [pL,pL,.box] (t (f1 (t (f2 (t (t (t (f16 (f4 (t (t (t (f2 (t (t (t (f32 (f4 [])))))))))))))))))) 72 []
def fi11:FI:=fI [pL,pL,.box,pL,pL,pL,iM] [] 18 [(5,0,3)]
def fi12:FI:=fI [pL,pL,.box,pL,pL,pL,iM] [] 18 [(5,0,3)]
def fi13:FI:=fI [pL,pL,pL,pL,pL,iM,iM,iM,.box] [] 17 []
def fi14:FI:=fI [pL,pL,pL,pL,iM,iM,pL,iM,.box] [] 17 []
def fi15:FI:=fI [pL,pL,pL,pL,pL,iM,iM,pL,iM,iM,.box] [] 19 []
def fi16:FI:=fI [pL,pL,pL,pL,.box,pL,pL,pL,pL,pL,iM,iM] [] 48 [(7,11,1),(8,0,3)]
def fi17:FI:={ kd:=[.plain,.obj,.box,.box],al:=[(15,3),(22,3),(27,3),(33,3),(38,3),(44,3)],keep:=[false,true,true,true,false,false,false,false,false,false,false,false,false,false,false,false,false,false,false,false,false,false,false,false,false,false,false,false,false,false,false,false,false,false,false,false,false,false,false,false,false,false,false,false,false,false],nt:=46,ps:=[],bt:=some (120,5),md:=[] }
def fi18:FI:=fI [] (t (t (f16 (f8 [])))) 26 []
def fi19:FI:=fI [] (t (f4 (f2 (f1 (t (f32 (f4 (f2 (t (t (t (t (t (f2 (t (t (t (t (f2 (t (t (t (t (t (f2 (t (t (t (t (t (f2 (t (t (t (t (f4 [])))))))))))))))))))))))))))))))))))) 82 []
def fi20:FI:=fI [pL,iM] [] 4 []
def fi21:FI:=fI [pL,pL,pL,iM,.box,pL,iM] [] 40 []
def fi22:FI:={ kd:=[.plain,.plain,.box,.plain,.plain,.plain,.plain,.plain,.imm],al:=[(22,2)],keep:=[false,true,true,false,false,false,true,false,false,false,false,false,false,false,false,false,false,false,false,false,false,false,false,true,true,true,false,false,false,false,false,false,false,false,false,false,false,false,false,false,false,false,false,false,false],nt:=45,ps:=[],bt:=some (120,5),md:=[] }
def fi23:FI:={ kd:=[.plain,.plain,.box,.plain,.box],al:=[(18,2),(24,2)],keep:=[false,false,true,false,true,false,false,false,true,true,true,false,false,false,false,false,false,true,true,true,true,true,false,false,false,false,false,false,false,false,false],nt:=31,ps:=[],bt:=some (120,5),md:=[] }
def fi24:FI:=fI [] [] 5 [(1,1,4)]
def fi25:FI:=fI [pL,pL,iM,iM] [] 6 []
def fi26:FI:=fI [pL,pL,iM,iM,pL,.obj,.obj,.obj,iM] [] 35 []
def fi27:FI:=fI [pL,pL,pL,.obj] (f2 (f1 (t (t (f1 (t (f16 (f8 (f4 []))))))))) 35 []
def fi28:FI:=fI [] [] 14 []
def fi29:FI:=fI [] [] 14 []
def fi31:FI:=fI [pL,pL,.box,pL,pL,iM,iM,iM] [] 30 []
def fi33:FI:=fI [] [] 29 []
def fi34:FI:={ kd:=[.plain,.plain,.plain,.plain,.plain,.plain,.plain,.plain,.plain,.plain,.box,.box],al:=[(38,11),(47,11),(55,11)],keep:=[],nt:=57,ps:=[],bt:=some (120,5),md:=[] }
def fi35:FI:=fI [] (t (t (f2 (f1 (t (f4 (f1 (t (t (t (f4 (f1 (t (t (t (t (t (t (t (t (t (t (t (t (t (t (f16 (f2 [])))))))))))))))))))))))))))) 51 []
def fi36:FI:=fI [] (t (f2 (t (t (f1 (t (f32 (f8 (t (t (f8 (f1 (t (t (t (t (t (t (t (t (t (t (t (t (f16 (f2 (f1 []))))))))))))))))))))))))))) 89 []
def fi37:FI:=fI [pL,pL,pL,pL,.box,pL,iM,iM,.box,pL,iM] (t (t (f2 (t (t (f2 (t (f32 (f16 (f8 (f1 []))))))))))) 66 []
def fi38:FI:=fI [pL,pL,pL,iM] [] 41 []
def fi39:FI:=fI [pL,pL,.box,pL,pL,iM,iM,iM,iM,pL,iM,iM,iM,.box,iM,pL,pL,iM,iM] [] 164 []
def fi40:FI:=fI [pL,pL,pL,pL,pL,iM,pL,pL,.box,pL,iM,pL,iM,iM] [] 66 []
def fi41:FI:=fI [pL,pL,pL,pL,pL,iM,iM,.box,pL,pL,iM,pL,pL,pL,pL,iM] [] 122 []
def fi42:FI:=fI [pL,pL,pL,iM,pL,iM,.box,pL,pL,iM] [] 46 []
def fi43:FI:=fI [pL,pL,pL,iM,iM] [] 23 []
def fi44:FI:=fI [pL,pL,pL,pL,iM] [] 65 []
def fi45:FI:=fI [pL,iM] [] 13 []
def fi46:FI:=fI [pL,pL,pL,iM,pL,iM] [] 21 []
def fi47:FI:=fI [pL,pL,pL,iM,iM,iM] [] 36 []
def fi48:FI:={ kd:=[.plain,.plain,.plain,.plain,.imm,.imm,.box,.plain,.imm,.box],al:=[(65,9),(66,9),(68,9),(71,9)],keep:=[],nt:=73,ps:=[],bt:=some (120,5),md:=[] }
def fi49:FI:=fI [] [] 13 []
def fi50:FI:=fI [pL,pL,iM,iM] [] 17 []
def fi51:FI:=fI [pL,pL,pL,pL,pL,iM] [] 43 []
def fi52:FI:=fI [] [] 10 []
def fi53:FI:=fI [pL,pL,pL,pL,pL,iM,iM,.box,pL,pL,pL,iM] [] 105 []
def fi54:FI:=fI [pL,iM] [] 10 []
def fi55:FI:=fI [] [] 27 []
def fi56:FI:=fI [pL,pL,pL,pL,pL,pL,pL,pL,pL,pL,iM,pL,pL,pL,pL,pL,pL,pL,pL,pL,pL,pL,pL,pL,pL,.obj] (t (f4 (f2 (t (t (f16 (f1 (t (t (t (f32 (f16 (f4 (f2 [])))))))))))))) 83 [(22,8,1)]
def fi57:FI:=fI [pL,pL,pL,pL,.box] [] 24 []
def fi58:FI:=fI [] [] 14 [(1,5,1),(3,0,2)]
def fi59:FI:=fI [] [] 10 []
def fi60:FI:=fI [pL,pL,pL,pL,pL,iM] [] 23 []
def fi61:FI:=fI [pL,pL,.box] [] 30 []
def fi62:FI:=fI [pL,pL,.box,pL,pL,pL,iM,iM,iM] [] 33 []
def fi63:FI:=fI [pL,pL,pL,pL,pL,pL,iM] [] 37 [(2,13,1)]
def fi64:FI:=fI [pL,pL,pL,pL,.box] (t (t (f2 (t (t (t (f8 (f1 (t (t (t (t (t (t (t (t (t (t (t (f4 (f2 (f1 [])))))))))))))))))))))) 34 []
def fi65:FI:=fI [] [] 5 []
def fi66:FI:=fI [] [] 17 []
def fi67:FI:=fI [] (t (t (t (f8 (f1 (t (t (t (t (t (f4 []))))))))))) 21 []
def fi68:FI:=fI [] [] 5 []
def fi69:FI:=fI [] [] 9 []
def fi70:FI:=fI [] [] 13 []
def fi71:FI:=fI [] [] 9 []
def fi72:FI:=fI [] [] 6 []
def fi73:FI:=fI [] (t (t (f32 (f8 (f2 (t (t (t (f8 (f1 [])))))))))) 56 []
def fi76:FI:=fI [pL,pL,iM,iM] [] 38 []
def fi77:FI:=fI [pL,pL,.box,pL,pL,iM] [] 13 [(3,3,1)]
def fi82:FI:=fI [] (t (t (t (t (f4 (f1 (t (t (t (t (t (t (f8 (f1 [])))))))))))))) 24 []
def fi85:FI:=fI [] (t (f2 (f1 (t (t (f32 (f4 []))))))) 42 []
def fi86:FI:=fI [] [] 18 []
def fi87:FI:=fI [] [] 10 []
def fi88:FI:=fI [] [] 11 []
def fi90:FI:=fI [] [] 10 []
def fi91:FI:=fI [pL,pL,.box] (t (f1 (t (t (t (f16 (f8 (f4 [])))))))) 33 []
def fi92:FI:=fI [pL,pL,.box] [] 13 []
def fi93:FI:=fI [pL,pL,.box] (t (f1 (t (t (t (f16 (f8 (f1 [])))))))) 30 []
def fi94:FI:=fI [] (t (f2 (f1 (t (t (f16 (f8 (f4 [])))))))) 34 []
def fi95:FI:=fI [pL,pL,pL,iM] [] 11 []
def fi96:FI:=fI [pL,pL,.box,pL,pL,pL,pL,iM,iM] (t (f1 (t (t (f2 (t (f32 (f32 (f32 (f2 [])))))))))) 105 []
def fi97:FI:=fI [] [] 15 []
def fi100:FI:=fI [] [] 30 []
def fi102:FI:=fI [pL,pL,.box,pL,iM,iM] [] 38 []
def fi104:FI:=fI [pL,pL,iM,pL,pL,pL,pL,.obj,.obj,pL,pL,iM] (f2 (t (f4 (t (t (t (f8 (f1 (t (t (t (f16 (f2 []))))))))))))) 40 []
def fi105:FI:=fI [pL,iM] [] 10 []
def fi106:FI:=fI [pL,pL,pL,pL,pL,iM,pL,pL,pL,pL,.box,pL,iM] [] 60 []
def fi107:FI:=fI [pL,pL,iM] [] 22 []
def fi108:FI:=fI [] [] 11 []
def fi109:FI:=fI [pL,pL,pL,iM,pL,pL,pL,pL,pL,pL,pL,iM] (f1 (t (t (t (f2 (t (t (t (t (f4 (t (t (t (f8 (f4 (f2 (f1 (t (t (f8 (f2 (f1 (t (t (f8 (f2 (f1 []))))))))))))))))))))))))))) 58 []
def fi110:FI:=fI [pL,pL,pL,pL,pL,pL,pL,iM] (t (f4 (t (f4 (f2 (t (t (t (f8 (f4 (f2 []))))))))))) 29 []
def fi111:FI:=fI [] [] 39 []
def fi112:FI:=fI [pL,iM] [] 10 []
def fi113:FI:=fI [] [] 8 []
def fi114:FI:=fI [pL,pL,iM,iM] [] 20 []
def fi115:FI:=fI [pL,iM] [] 47 []
def fi116:FI:=fI [pL,pL,iM] [] 30 []
def fi117:FI:=fI [] [] 23 []
def fi118:FI:=fI [] (t (t (f4 (f2 (f1 (t (t (t (t (f4 [])))))))))) 17 []
def fi120:FI:={ kd:=[.plain,.plain,.box],al:=[(19,2)],keep:=[true,false,true,false,true,false,false,false,false,false,false,false,false,false,false,false,false,false,false,false,false],nt:=21,ps:=[],bt:=some (120,5),md:=[] }
def fi121:FI:=fI [] (t (t (f8 (f4 (f2 []))))) 16 []
def fi122:FI:=fI [] (t (t (f16 (f4 [])))) 22 []
def fi125:FI:=fI [] [] 8 []
def fi126:FI:=fI [] [] 9 []
def fi127:FI:=fI [pL,iM,pL,iM,.box,iM,iM] [] 49 []
def fi128:FI:=fI [pL,pL,pL,pL,pL,iM] [] 37 []
def fi129:FI:=fI [] (f4 (t (f16 (f1 (t (t (t (f8 (f2 (f1 [])))))))))) 36 []
def fi130:FI:=fI [] [] 9 []
def fi131:FI:=fI [pL,pL,iM,iM] [] 10 []
def fi132:FI:=fI [] [] 9 []
def fi133:FI:=fI [pL,pL,pL,iM] [] 14 []
def fi134:FI:=fI [] [] 12 []
def fi135:FI:=fI [] [] 11 []
def fi136:FI:=fI [] [] 9 []
def fi137:FI:=fI [] (t (t (f2 (f1 (t (f8 (f2 (f1 [])))))))) 17 []
def fi138:FI:=fI [pL,pL,.box,pL,pL,pL,pL,pL,pL,iM] [] 51 []
def fi139:FI:={ kd:=[.plain,.plain,.plain,.plain,.plain,.plain,.plain,.plain,.plain,.plain,.plain,.plain,.box,.box],al:=[(38,13),(39,13),(43,13),(50,13)],keep:=[],nt:=52,ps:=[],bt:=some (120,5),md:=[] }
def fi140:FI:=fI [pL,pL,.box] [] 28 []
def fi141:FI:=fI [pL,pL,.box] [] 57 []
def fi142:FI:=fI [pL,pL,.box] (t (f1 (t (t (t (t (f16 (f2 (f1 (t (t (t (f8 (f4 (f1 []))))))))))))))) 41 []
def fi143:FI:=fI [pL,pL,pL,iM] [] 22 [(2,8,3)]
def fi144:FI:={ kd:=[.plain,.mapb [.s [114,101,99,111,114,100],.s [112,114,111,99],.s [118,97,114],.s [105,102],.s [101,108,115,101],.s [119,104,105,108,101],.s [102,111,114],.s [116,111],.s [114,101,116,117,114,110],.s [97,115,115,101,114,116],.s [97,110,100],.s [111,114],.s [110,111,116],.s [116,114,117,101],.s [102,97,108,115,101],.s [105,110,116],.s [98,111,111,108],.s [108,101,110]],.plain,.ent 1 (.s [114,101,99,111,114,100]),.ent 1 (.s [112,114,111,99]),.ent 1 (.s [118,97,114]),.ent 1 (.s [105,102]),.ent 1 (.s [101,108,115,101]),.ent 1 (.s [119,104,105,108,101]),.ent 1 (.s [102,111,114]),.ent 1 (.s [116,111]),.ent 1 (.s [114,101,116,117,114,110]),.ent 1 (.s [97,115,115,101,114,116]),.ent 1 (.s [97,110,100]),.ent 1 (.s [111,114]),.ent 1 (.s [110,111,116]),.ent 1 (.s [116,114,117,101]),.ent 1 (.s [102,97,108,115,101]),.ent 1 (.s [105,110,116]),.ent 1 (.s [98,111,111,108]),.ent 1 (.s [108,101,110])],al:=[],keep:=[],nt:=3,ps:=[(1,1,3),(1,2,4),(1,3,5),(1,4,6),(1,5,7),(1,6,8),(1,7,9),(1,8,10),(1,9,11),(1,10,12),(1,11,13),(1,12,14),(1,13,15),(1,14,16),(1,15,17),(1,16,18),(1,17,19),(1,18,20)],bt:=some (120,5),md:=[] }
def fi145:FI:=fI [pL,pL,pL,pL,pL,pL,pL,pL,iM,iM] (f1 (t (t (f8 (f4 (t (t (t (f8 (f4 (f2 []))))))))))) 32 []
def fi148:FI:=fI [] (t (t (f8 (t (t (t (t (t (t (t (t (t (t (f8 (f2 (t (t (t (t (f4 (f2 []))))))))))))))))))))) 40 []
def fi149:FI:=fI [] (t (t (f4 (t (f8 (f2 (f1 (t (t (t (t (t (t (t (t (t (t (t (t (t (t (t (t (f16 (f4 (t (t (t (t (f16 (f2 (f1 (t (t (t (t (t (f2 (t (t (t (t (f2 (t (t (t (t (f4 [])))))))))))))))))))))))))))))))))))))))))))))))) 98 []
def fi150:FI:=fI [pL,pL,.box,pL,pL,pL,iM] [] 24 []
def fi152:FI:=fI [] [] 18 []
def fi153:FI:=fI [] [] 9 []
def fi154:FI:=fI [] (t (f4 (f2 (t (t (t (f4 []))))))) 14 []
def fi155:FI:=fI [pL,pL,.box] [] 15 []
def fi156:FI:=fI [] (t (t (f2 (f1 (t (f8 (f4 []))))))) 18 []
def fi157:FI:=fI [] [] 19 []
def fi159:FI:=fI [pL,pL,pL,pL,pL,pL,pL,pL,iM] (t (f4 (t (t (f4 (t (t (t (f8 (t (t (t (t (t (f2 (t (t (t (t (t (f16 (f4 (f2 []))))))))))))))))))))))) 56 []
def fi160:FI:=fI [] [] 11 []
def fi161:FI:=fI [] [] 8 []
def fi162:FI:={ kd:=[.plain,.plain,.plain,.plain,.plain,.box,.plain,.plain,.plain,.plain,.box],al:=[(14,5),(19,5),(26,5),(28,5),(31,5),(32,5),(37,5)],keep:=[],nt:=52,ps:=[],bt:=some (120,5),md:=[(2,11,4),(3,0,14),(6,0,14)] }
def fi163:FI:=fI [pL,pL,pL,pL,pL,pL,pL,pL,pL,pL,.obj] (t (t (t (f4 (f2 (f1 (t (t (f32 (f8 (t (t (f16 (f4 (f2 (f1 (t (t (f16 (f8 (f1 []))))))))))))))))))))) 104 []
def fi164:FI:=fI [pL,pL,pL,pL,pL,pL,iM] (t (t (f4 (f1 (t (t (t (f4 (f2 (f1 (t (t (t (t (t (f2 (t (t (t (t (t (f2 (t (t (t (t (t (f4 (f1 []))))))))))))))))))))))))))))) 41 []
def fi165:FI:=fI [] [] 9 []
def fi166:FI:={ kd:=[.plain,.mapb [.i .i64 2,.i .i64 3,.i .i64 4,.i .i64 5,.i .i64 7,.i .i64 8,.i .i64 9,.i .i64 10,.i .i64 11,.i .i64 12,.i .i64 13,.i .i64 14,.i .i64 15,.i .i64 16,.i .i64 17,.i .i64 18,.i .i64 19,.i .i64 20,.i .i64 21,.i .i64 22,.i .i64 23,.i .i64 24,.i .i64 25,.i .i64 26,.i .i64 27,.i .i64 28,.i .i64 29],.plain,.ent 1 (.i .i64 2),.ent 1 (.i .i64 3),.ent 1 (.i .i64 4),.ent 1 (.i .i64 5),.ent 1 (.i .i64 7),.ent 1 (.i .i64 8),.ent 1 (.i .i64 9),.ent 1 (.i .i64 10),.ent 1 (.i .i64 11),.ent 1 (.i .i64 12),.ent 1 (.i .i64 13),.ent 1 (.i .i64 14),.ent 1 (.i .i64 15),.ent 1 (.i .i64 16),.ent 1 (.i .i64 17),.ent 1 (.i .i64 18),.ent 1 (.i .i64 19),.ent 1 (.i .i64 20),.ent 1 (.i .i64 21),.ent 1 (.i .i64 22),.ent 1 (.i .i64 23),.ent 1 (.i .i64 24),.ent 1 (.i .i64 25),.ent 1 (.i .i64 26),.ent 1 (.i .i64 27),.ent 1 (.i .i64 28),.ent 1 (.i .i64 29)],al:=[],keep:=[],nt:=3,ps:=[(1,1,3),(1,2,4),(1,3,5),(1,4,6),(1,5,7),(1,6,8),(1,7,9),(1,8,10),(1,9,11),(1,10,12),(1,11,13),(1,12,14),(1,13,15),(1,14,16),(1,15,17),(1,16,18),(1,17,19),(1,18,20),(1,19,21),(1,20,22),(1,21,23),(1,22,24),(1,23,25),(1,24,26),(1,25,27),(1,26,28),(1,27,29)],bt:=some (120,5),md:=[] }
def fi167:FI:={ kd:=[.plain,.mapb [.s [111,114],.s [97,110,100],.s [61,61],.s [33,61],.s [60],.s [60,61],.s [62],.s [62,61],.s [43],.s [45],.s [42],.s [47],.s [37]],.plain,.ent 1 (.s [111,114]),.ent 1 (.s [97,110,100]),.ent 1 (.s [61,61]),.ent 1 (.s [33,61]),.ent 1 (.s [60]),.ent 1 (.s [60,61]),.ent 1 (.s [62]),.ent 1 (.s [62,61]),.ent 1 (.s [43]),.ent 1 (.s [45]),.ent 1 (.s [42]),.ent 1 (.s [47]),.ent 1 (.s [37])],al:=[],keep:=[],nt:=3,ps:=[(1,1,3),(1,2,4),(1,3,5),(1,4,6),(1,5,7),(1,6,8),(1,7,9),(1,8,10),(1,9,11),(1,10,12),(1,11,13),(1,12,14),(1,13,15)],bt:=some (120,5),md:=[] }
def fi168:FI:=fI [] (t (t (f2 (f1 (t (t (t (t (t (t (f32 (f32 (f8 (f2 (t (t (t (t (t (t (t (t (f8 (f2 (t (t (t (t (f8 (f4 (f2 (f1 (t (t (t (t (t (f2 (t (t (t (f8 (f2 (f1 [])))))))))))))))))))))))))))))))))))))))))))) 143 []
def fi169:FI:=fI [] [] 10 []
def fi173:FI:=fI [] (t (t (f2 (f1 (t (f8 (f4 (f1 [])))))))) 19 []
def fi174:FI:={ kd:=[.plain,.imm,.plain,.plain,.plain,.imm,.plain,.plain,.plain,.plain,.plain,.mapb [.i .i64 0,.i .i64 2,.i .i64 3,.i .i64 4,.i .i64 5,.i .i64 6,.i .i64 7,.i .i64 8,.i .i64 9,.i .i64 10,.i .i64 11,.i .i64 12,.i .i64 13,.i .i64 14,.i .i64 15,.i .i64 16,.i .i64 17,.i .i64 18,.i .i64 19,.i .i64 20,.i .i64 21,.i .i64 22,.i .i64 23,.i .i64 24,.i .i64 25,.i .i64 26,.i .i64 27,.i .i64 28,.i .i64 29],.plain,.plain,.plain,.plain,.plain,.plain,.plain,.plain,.plain,.plain,.plain,.plain,.plain,.plain,.plain,.plain,.plain,.plain,.plain,.plain,.plain,.plain,.plain,.plain,.plain,.plain,.plain,.plain,.plain,.plain,.plain,.plain,.plain,.plain,.plain,.plain,.plain,.plain,.plain,.plain,.plain,.plain,.plain,.plain,.plain,.plain,.plain,.plain,.plain,.plain,.plain,.plain,.plain,.plain,.plain,.plain,.plain,.plain,.plain,.plain,.plain,.plain,.plain,.plain,.plain,.plain,.plain,.plain,.plain,.plain,.plain,.plain,.plain,.plain,.plain,.plain,.plain,.plain,.plain,.plain,.plain,.plain,.plain,.plain,.plain,.plain,.plain,.plain,.plain,.plain,.plain,.plain,.plain,.plain,.plain,.plain,.plain,.plain,.plain,.plain,.plain,.plain,.plain,.plain,.plain,.plain,.plain,.ent 11 (.i .i64 0),.ent 11 (.i .i64 2),.ent 11 (.i .i64 3),.ent 11 (.i .i64 4),.ent 11 (.i .i64 5),.ent 11 (.i .i64 6),.ent 11 (.i .i64 7),.ent 11 (.i .i64 8),.ent 11 (.i .i64 9),.ent 11 (.i .i64 10),.ent 11 (.i .i64 11),.ent 11 (.i .i64 12),.ent 11 (.i .i64 13),.ent 11 (.i .i64 14),.ent 11 (.i .i64 15),.ent 11 (.i .i64 16),.ent 11 (.i .i64 17),.ent 11 (.i .i64 18),.ent 11 (.i .i64 19),.ent 11 (.i .i64 20),.ent 11 (.i .i64 21),.ent 11 (.i .i64 22),.ent 11 (.i .i64 23),.ent 11 (.i .i64 24),.ent 11 (.i .i64 25),.ent 11 (.i .i64 26),.ent 11 (.i .i64 27),.ent 11 (.i .i64 28),.ent 11 (.i .i64 29)],al:=[],keep:=[],nt:=119,ps:=[(4,2,119),(4,6,120),(4,11,121),(4,17,122),(4,25,123),(4,29,124),(4,34,125),(4,39,126),(4,42,127),(4,44,128),(4,46,129),(4,52,130),(4,56,131),(4,64,132),(4,69,133),(4,76,134),(4,81,135),(4,85,136),(4,89,137),(4,92,138),(4,98,139),(4,104,140),(4,109,141),(4,111,142),(4,115,143),(4,118,144),(4,122,145),(4,128,146),(4,135,147)],bt:=some (120,5),md:=[] }
def fi175:FI:=fI [pL,pL,iM,iM,pL,pL,iM] (f2 (t (f32 (f4 (f2 (f1 (t (t (t (f16 (f2 (f1 [])))))))))))) 64 []
def fi176:FI:=fI [] (t (t (t (f2 (f1 (t (t (t (f32 (f16 (f4 (f2 [])))))))))))) 63 []
def fi177:FI:=fI [] (t (t (f4 (f1 (t (t (f8 (f2 [])))))))) 19 []
def fi178:FI:=fI [] [] 12 []
def fi179:FI:=fI [pL,pL,.box] [] 14 []
def fi180:FI:=fI [pL,pL,.box,pL,pL,pL,pL,iM] [] 27 []
def fi181:FI:=fI [pL,pL,.box] [] 14 []
def fi182:FI:=fI [] [] 10 []
def fi183:FI:=fI [pL,pL,.box,pL,pL,iM,iM] (t (f1 (t (f4 (t (t (f32 (f16 (f8 (f4 (f2 (t (t (t (t (t (t (t (t (t (t (t (f8 (t (t (t (f2 (t (t (t (f4 (f1 [])))))))))))))))))))))))))))))))) 103 []
def fi185:FI:=fI [] [] 17 []
def fi186:FI:=fI [] [] 9 []
def fi187:FI:=fI [] [] 6 []
def fi188:FI:=fI [] [] 26 []
def fi190:FI:=fI [] (f2 (f1 (t (f4 (t (t (f8 (f4 (f2 []))))))))) 24 [(5,7,4)]
def fi191:FI:=fI [] (t (f2 (t (f2 (t (f2 (t (t (t (f8 (f4 (f1 (t (t (t (f8 [])))))))))))))))) 36 [(13,2,1)]
def fi200:FI:=fI [pL,pL,iM,iM] [] 7 []
def fi204:FI:=fI [pL,pL,iM,iM] [] 13 []
def fi217:FI:=fI [pL,pL,iM,iM] [] 15 []
def fi225:FI:=fI [] [] 25 []
def fi226:FI:=fI [pL,iM] [] 4 []
def fi227:FI:=fI [pL,iM] [] 4 []
def fi229:FI:=fI [pL,iM] [] 4 []
def fi230:FI:=fI [] [] 5 []
def fi232:FI:=fI [] [] 20 []
def fi233:FI:=fI [] [] 13 []
def fi234:FI:=fI [] (t (t (t (t (f4 (t (t (f8 (f4 (t (t (t (t (t (t (t (t (t (t (t (t (f16 (f2 (f1 [])))))))))))))))))))))))) 53 []
def fi235:FI:=fI [] (t (t (t (t (t (f4 (f1 (t (t (f1 (t (t (t (f1 (t (t (t (t (t (t (f32 (f32 (f32 (f32 (f16 (f8 (f4 (f2 (f1 (t (t (t (f8 (f2 (f1 (t (t (t (f8 (f2 (f1 (t (t (t (f4 (f2 (f1 []))))))))))))))))))))))))))))))))))))))))))))))) 220 []
def fi236:FI:=fI [] [] 13 []
def fi237:FI:=fI [pL,pL,.box,pL,pL,pL,iM,iM] [] 33 []
def fi238:FI:=fI [pL,pL,.box,pL,pL,iM,iM,.box] [] 41 []
def fi239:FI:=fI [pL,pL,.box] [] 8 []
def fi240:FI:=fI [pL,pL,.box,pL,pL,pL,iM,iM,iM] [] 37 []
def fi241:FI:=fI [pL,pL,.box,pL,pL,pL,.box] [] 37 []
def fi242:FI:=fI [pL,pL,.box,pL,pL,pL,pL,iM,iM] [] 43 []
def fi243:FI:=fI [] [] 6 []
def fi244:FI:=fI [] [] 8 [(3,0,5),(3,2,1)]
def fi245:FI:=fI [] [] 27 [(5,5,1)]
def fi249:FI:=fI [] [] 5 []
def fi253:FI:=fI [pL,pL,pL,iM,iM] [] 27 []
def fi258:FI:=fI [] [] 13 []
def fi259:FI:=fI [] [] 7 []
def fi260:FI:=fI [] [] 9 []
def fi261:FI:=fI [] [] 11 []
def fi262:FI:=fI [] [] 7 []
def fi263:FI:=fI [] (t (f1 (t (f1 (t (f4 (f1 (t (t (f32 (f8 (f4 (f2 []))))))))))))) 58 []
def fi264:FI:=fI [pL,pL,pL,pL,pL,pL,.box,pL,pL,.box,pL,iM] (t (t (t (f2 (f1 (t (t (t (t (f16 (f8 (f1 [])))))))))))) 35 []
def fi265:FI:=fI [pL,pL,.box] [] 8 []
def fi266:FI:=fI [] [] 14 []
def fi267:FI:=fI [pL,pL,pL,pL,pL,iM] [] 18 []
def fi268:FI:=fI [] [] 17 []
def fi269:FI:=fI [pL,pL,.box,pL,pL,iM,iM] [] 42 []
def fi273:FI:=fI [] (t (t (f4 (f1 (t (t (f8 (f2 [])))))))) 19 []
def fi274:FI:=fI [] (t (t (t (t (f4 (f2 (t (f16 (f8 (f2 (f1 []))))))))))) 38 []
def fi275:FI:=fI [pL,pL,.box,pL,pL,iM,iM,pL,iM] [] 42 []
def fi276:FI:=fI [pL,pL,.box] [] 18 []
def fi280:FI:=fI [pL,pL,.box] [] 8 []
def fi284:FI:=fI [pL,pL,.box] [] 8 []
def fi285:FI:=fI [pL,pL,.box,pL,pL,iM] [] 23 []
def fi286:FI:=fI [pL,pL,.box,pL,pL,pL,pL,pL,pL,pL,iM,iM] [] 101 []
end Go.Abs.Z

namespace Go.Abs.Z
open Go.Proofs
def FnOk(f:FuncId)(af:AFunc):Prop:=∃fn fi,Tryz.prog.funcs[f]?=some fn∧(fn.name == "runtime.NumGoroutine")=false∧AvE Tryz.prog pur fi fn=some af∧Az9 (af.ntmps+af.extra) af.code=true
end Go.Abs.Z

namespace Go.Abs.Z
open Go.Proofs
noncomputable def cA(f:FuncId)(fi:FI):AFunc:=match Tryz.prog.funcs[f]? with
 |some fn=>match AvE Tryz.prog pur fi fn with
  |some af=>af
  |none=>⟨0,0,0,[],.skip⟩
 |none=>⟨0,0,0,[],.skip⟩
noncomputable def chk(f:FuncId)(fi:FI):Bool:=match Tryz.prog.funcs[f]? with
 |some fn=>!(fn.name == "runtime.NumGoroutine")&&(match AvE Tryz.prog pur fi fn with
  |some af=>Az9 (af.ntmps+af.extra) af.code
  |none=>false)
 |none=>false
theorem chk_ok{f:FuncId}{fi:FI}(h:chk f fi=true):FnOk f (cA f fi):=by
 unfold chk at h;unfold cA
 split at h
 ·rename_i fn hf;rw[Bool.and_eq_true] at h;obtain⟨h1,h2⟩:=h
  split at h2
  ·rename_i af hc;exact⟨fn,fi,hf,by simpa using h1,hc,h2⟩
  ·cases h2
 ·cases h
noncomputable def a57:AFunc:=cA 57 fi57
noncomputable def a69:AFunc:=cA 69 fi69
noncomputable def a133:AFunc:=cA 133 fi133
noncomputable def a60:AFunc:=cA 60 fi60
noncomputable def a71:AFunc:=cA 71 fi71
noncomputable def a66:AFunc:=cA 66 fi66
noncomputable def a18:AFunc:=cA 18 fi18
noncomputable def a132:AFunc:=cA 132 fi132
noncomputable def a177:AFunc:=cA 177 fi177
noncomputable def a19:AFunc:=cA 19 fi19
noncomputable def a134:AFunc:=cA 134 fi134
noncomputable def a70:AFunc:=cA 70 fi70
noncomputable def a178:AFunc:=cA 178 fi178
noncomputable def a67:AFunc:=cA 67 fi67
noncomputable def a73:AFunc:=cA 73 fi73
noncomputable def a59:AFunc:=cA 59 fi59
noncomputable def a143:AFunc:=cA 143 fi143
noncomputable def a72:AFunc:=cA 72 fi72
noncomputable def a144:AFunc:=cA 144 fi144
noncomputable def a76:AFunc:=cA 76 fi76
noncomputable def a145:AFunc:=cA 145 fi145
noncomputable def a139:AFunc:=cA 139 fi139
noncomputable def a264:AFunc:=cA 264 fi264
noncomputable def a135:AFunc:=cA 135 fi135
noncomputable def a82:AFunc:=cA 82 fi82
noncomputable def a68:AFunc:=cA 68 fi68
noncomputable def a136:AFunc:=cA 136 fi136
noncomputable def a285:AFunc:=cA 285 fi285
noncomputable def a286:AFunc:=cA 286 fi286
noncomputable def a6:AFunc:=cA 6 fi6
noncomputable def a284:AFunc:=cA 284 fi284
noncomputable def a25:AFunc:=cA 25 fi25
noncomputable def a129:AFunc:=cA 129 fi129
noncomputable def a128:AFunc:=cA 128 fi128
noncomputable def a118:AFunc:=cA 118 fi118
noncomputable def a141:AFunc:=cA 141 fi141
noncomputable def a181:AFunc:=cA 181 fi181
noncomputable def a182:AFunc:=cA 182 fi182
noncomputable def a236:AFunc:=cA 236 fi236
noncomputable def a239:AFunc:=cA 239 fi239
noncomputable def a265:AFunc:=cA 265 fi265
noncomputable def a267:AFunc:=cA 267 fi267
noncomputable def a269:AFunc:=cA 269 fi269
noncomputable def a275:AFunc:=cA 275 fi275
noncomputable def a276:AFunc:=cA 276 fi276
noncomputable def a280:AFunc:=cA 280 fi280
noncomputable def a23:AFunc:=cA 23 fi23
noncomputable def a20:AFunc:=cA 20 fi20
noncomputable def a5:AFunc:=cA 5 fi5
noncomputable def a16:AFunc:=cA 16 fi16
noncomputable def a17:AFunc:=cA 17 fi17
noncomputable def a21:AFunc:=cA 21 fi21
noncomputable def a56:AFunc:=cA 56 fi56
noncomputable def a58:AFunc:=cA 58 fi58
noncomputable def a62:AFunc:=cA 62 fi62
noncomputable def a130:AFunc:=cA 130 fi130
noncomputable def a137:AFunc:=cA 137 fi137
noncomputable def a140:AFunc:=cA 140 fi140
noncomputable def a142:AFunc:=cA 142 fi142
noncomputable def a176:AFunc:=cA 176 fi176
noncomputable def a180:AFunc:=cA 180 fi180
noncomputable def a183:AFunc:=cA 183 fi183
noncomputable def a234:AFunc:=cA 234 fi234
noncomputable def a242:AFunc:=cA 242 fi242
noncomputable def a4:AFunc:=cA 4 fi4
noncomputable def a9:AFunc:=cA 9 fi9
noncomputable def a3:AFunc:=cA 3 fi3
noncomputable def a8:AFunc:=cA 8 fi8
noncomputable def a22:AFunc:=cA 22 fi22
noncomputable def a24:AFunc:=cA 24 fi24
noncomputable def a61:AFunc:=cA 61 fi61
noncomputable def a63:AFunc:=cA 63 fi63
noncomputable def a64:AFunc:=cA 64 fi64
noncomputable def a65:AFunc:=cA 65 fi65
noncomputable def a131:AFunc:=cA 131 fi131
noncomputable def a138:AFunc:=cA 138 fi138
noncomputable def a179:AFunc:=cA 179 fi179
noncomputable def a235:AFunc:=cA 235 fi235
noncomputable def a237:AFunc:=cA 237 fi237
noncomputable def a238:AFunc:=cA 238 fi238
noncomputable def a240:AFunc:=cA 240 fi240
noncomputable def a241:AFunc:=cA 241 fi241
noncomputable def a243:AFunc:=cA 243 fi243
noncomputable def a263:AFunc:=cA 263 fi263
noncomputable def a266:AFunc:=cA 266 fi266
noncomputable def a268:AFunc:=cA 268 fi268
noncomputable def a274:AFunc:=cA 274 fi274
end Go.Abs.Z
