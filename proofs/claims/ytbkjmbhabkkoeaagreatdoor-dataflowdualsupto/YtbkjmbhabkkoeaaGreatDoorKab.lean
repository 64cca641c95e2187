/- A part of the proof: A5 A6 A7 A8 A9 A10 A11. -/
import Derived.Test.YtbkjmbhabkkoeaaGreatDoorKaa

set_option linter.unusedVariables false
set_option linter.unusedSimpArgs false
namespace Go.Abs
structure FI where
 kd:List SK
 al:List (Nat×Nat)
 keep:List Bool
 nt:Nat
 ps:List (Nat×Nat×Nat)
 bt:Option (TypeId×TypeId)
 md:List (Nat×Nat×Nat)
def FI.kind(fi:FI)(t:Nat):SK:=fi.kd.getD t .plain
def FI.alias(fi:FI)(t:Nat):Option Nat:=(fi.al.find? (·.1==t)).map (·.2)
def FI.mode(fi:FI)(id j:Nat):Nat:=((fi.md.find? fun x=>x.1==id&&x.2.1==j).map (·.2.2)).getD 0
def FI.JN(fi:FI)(m:Nat):List Nat:=(List.range fi.kd.length).filter fun t=>match fi.kind t with | .ent m' _=>m'==m | _=>false
def FI.ptrs(fi:FI)(d:Nat):List Nat:=(fi.al.filter (·.2==d)).map (·.1)
structure RG where
 ps:Option Nat
 src:List Nat
 dst:List Nat
 md:Nat
def _root_.Go.TypeDesc.isInt:TypeDesc→Bool
 |.int _=>true
 |_=>false
def kY:TypeDesc→Bool
 |.struct _ | .array _ _=>true
 |_=>false
def EK(fi:FI):Operand→Option Ct
 |.tmp t=>match fi.kind t with
  |.plain | .imm | .obj=>if t<fi.nt then some (.slot t) else none
  |_=>none
 |.const v=>(Pk v).map .val
 |.func f=>some (.val (.func f [] []))
 |.global _=>none
def Aq(fi:FI):List Operand→Option (List Ct)
 |[]=>some []
 |x::xs=>match EK fi x,Aq fi xs with
  |some a,some az=>some (a::az)
  |_,_=>none
def Ci(P:Program)(t:TypeId):Option (Nat×Bool):=
 match P.info? t,P.underlying t with
 |some i,some d=>some (i.size,kY d)
 |_,_=>none
def EP(P:Program)(t:TypeId):Option PV:=
 match P.info? t with
 |some i=>i.zero.bind Pk
 |none=>none
def Kt:Nat→List (Nat×Operand)→Bool
 |_,[]=>true
 |n,(i,_)::r=>i==n&&Kt (n+1) r
def Jc(places:List (Nat×Nat)):List (Nat×Operand)→Option (List (Nat×Nat))
 |[]=>some []
 |(i,_)::r=>match places[i]?,Jc places r with
  |some p,some ps=>some (p::ps)
  |_,_=>none
def CJ(fi:FI)(t:Nat):Bool:=decide (t<fi.nt)&&(match fi.kind t with | .plain=>true | _=>false)
def BA(fi:FI)(d:Option Nat):Bool:=match d with | some t=>CJ fi t | none=>true
def mk(fi:FI)(d:Option Nat)(k:AK)(args:Option (List Ct))(ex:List Nat:=[]):Option AOp:=
 if BA fi d&&ex.all (CJ fi)&&ex.all (fun t=>d != some t) then args.map fun az=>{ dst:=d,k,args:=az,ex } else none
def KV(P:Program)(t:TypeId):Option Nat:=match P.underlying t with
 |some (.int _)=>some 0
 |some .bool=>some 1
 |some .string=>some 2
 |_=>none
def JM(P:Program):Nat→List Field→Option (List Nat)
 |_,[]=>some []
 |i,f::fs=>match KV P f.type,JM P (i+1) fs with
  |some k,some ks=>if f.name != "_" && f.offset==i then some (k::ks) else none
  |_,_=>none
def LM(P:Program)(t:TypeId):Option (List Nat):=if P.stoodInHeld t||P.eqGuardType P.depth t then none else match P.underlying t with
 |some (.struct fs)=>JM P 0 fs.toList
 |some (.array n e)=>(if P.cellsOf e=1 then KV P e else none).map (List.replicate n)
 |_=>none
def Vm(P:Program):List Field→Option (List IntKind)
 |[]=>some []
 |f::fs=>match P.underlying f.type,Vm P fs with
  |some (.int k),some ks=>some (k::ks)
  |_,_=>none
def MK(P:Program)(t:TypeId):Option KD:=match P.underlying t with
 |some (.int k)=>some (.i k)
 |some .string=>some .s
 |some (.struct fs)=>match LM P t,Vm P fs.toList with
  |some _,some ks=>some (.a ks)
  |_,_=>none
 |_=>none
def BU(P:Program)(pur:FuncId→Bool)(fi:FI)(rg:RG)(o:Oper):Option AOp:=
 let d:=o.dst
 match o.op with
 |.move x=>if rg.md=2 then mk fi d (.w .frz) (Aq fi [x]) else match x,d with
  |.tmp s,some t=>match fi.kind s with
   |.mapb keys=>if CJ fi t∧s<fi.nt then some { dst:=d,k:=.p (.mvb keys),args:=.slot s::(fi.JN s).map .slot,ex:=[s],clr:=fi.JN s } else none
   |_=>if rg.src.contains t then mk fi d (.p .mvo) (Aq fi [x]) [s] else mk fi d (.p .mv) (Aq fi [x])
  |_,_=>mk fi d (.p .mv) (Aq fi [x])
 |.assign x=>if rg.md=8 then(match x,d with
  |.tmp s,some _=>mk fi d (.w .toA) (Aq fi [x]) [s]
  |_,_=>none) else match x with
  |.tmp s=>if rg.dst.contains s then mk fi d (.p .mvo) (Aq fi [x]) [s] else mk fi d (.p .mv) (Aq fi [x])
  |_=>mk fi d (.p .mv) (Aq fi [x])
 |.pick c a b=>mk fi d (.p .pick) (Aq fi [c,a,b])
 |.box t x=>match d,Ci P t with
  |some s,some _=>if fi.nt≤s then none else match fi.kind s with
   |.box=>(Aq fi [x]).map fun az=>{ dst:=d,k:=.p .bxl,args:=az,clr:=fi.ptrs s }
   |.imm=>(Aq fi [x]).map fun az=>{ dst:=d,k:=.p .bx,args:=az }
   |.obj=>(Aq fi [x]).map fun az=>{ dst:=d,k:=.w .bxO,args:=az }
   |_=>none
  |_,_=>none
 |.alloc t=>match d,Ci P t,EP P t with
  |some s,some (n,_),some z=>if fi.nt≤s then none else match fi.kind s with
   |.box=>some { dst:=d,k:=.p (.zl z),args:=[],clr:=fi.ptrs s }
   |.imm=>if z.cells.length=n then some { dst:=d,k:=.p (.zi n),args:=[] } else none
   |.obj=>match fi.bt with
    |some (bt,be)=>if bt=t then(match z with | .agg [.nilp,.nils]=>some { dst:=d,k:=.w (.alB t be),args:=[] } | _=>none) else some { dst:=d,k:=.w (.alO z.cells),args:=[] }
    |none=>some { dst:=d,k:=.w (.alO z.cells),args:=[] }
   |_=>none
  |_,_,_=>none
 |.build t ps=>match P.underlying t,EP P t with
  |some (.struct fs),some (.agg z)=>match fs.toList.mapM (fun f=>(P.info? f.type).map fun i=>(f.offset,i.size)) with
   |some places=>match Jc places ps.toList with
    |some pl=>mk fi d (.p (.build z pl)) (Aq fi (ps.toList.map (·.2)))
    |none=>none
   |none=>none
  |_,_=>none
 |.buildSlice t n ps=>if rg.md=9 then(match P.underlying t,d with
  |some (.slice e),some _=>match Ci P e with
   |some (size,_)=>if Kt 0 ps.toList&&ps.size==n&&decide (n≤1000)&&decide (0<size)&&decide (size≤100)&&(P.info? e).any (·.zero.isSome) then mk fi d (.w (.bsA size)) (Aq fi (ps.toList.map (·.2))) else none
   |none=>none
  |_,_=>none) else if rg.md=5 then(match P.underlying t with
  |some (.slice e)=>match Ci P e with
   |some _=>if n=0∧ps=#[] then mk fi d (.p .bse) (some []) else none
   |none=>none
  |_=>none) else match P.underlying t with
  |some (.slice e)=>match Ci P e with
   |some (size,_)=>if Kt 0 ps.toList&&ps.size==n&&decide (n≤1000)&&decide (0<size)&&decide (size≤100)&&(P.info? e).any (·.zero.isSome) then mk fi d (.p (.bsl size)) (Aq fi (ps.toList.map (·.2))) else none
   |none=>none
  |_=>none
 |.load t x=>match Ci P t with
  |some (n,ag)=>match x with
   |.tmp s=>if fi.nt≤s then none else match fi.kind s with
    |.box=>if 10≤rg.md then(if BA fi d&&d.isSome&&ag then some { dst:=d,k:=.w (.ldz n (rg.md - 10)),args:=[.slot s],ex:=[s] } else none) else mk fi d (.p (.ldl 0 n ag)) (some [.slot s])
    |_=>match fi.alias s with
     |some b=>if fi.kind b=.box then
       (if !ag&&(match d with | some t=>rg.src.contains t | none=>false) then(if BA fi d then some { dst:=d,k:=.p (.ldfo b),args:=[.slot s,.slot b],ex:=[b] } else none)
       else mk fi d (.p (.ldf b n ag)) (some [.slot s,.slot b])) else none
     |none=>if !ag&&(match d with | some t=>rg.src.contains t | none=>false) then mk fi d (.w .ldo) (Aq fi [x])
      else if rg.md=3 then mk fi d (.p (.ldp n ag)) (Aq fi [x]) else if n=0 then none else mk fi d (.r (.ld n ag)) (Aq fi [x])
   |_=>none
  |none=>none
 |.store t a x=>match Ci P t,a,d with
  |some (n,_),.tmp s,none=>if fi.nt≤s then none else match fi.kind s with
   |.box=>(Aq fi [x]).map fun az=>{ dst:=none,k:=.p (.stl 0 n),args:=.slot s::az,ex:=[s] }
   |.imm=>if rg.md=8 then(Aq fi [x]).map fun az=>{ dst:=none,k:=.w (.stO n),args:=.slot s::az,ex:=[s] } else(Aq fi [x]).map fun az=>{ dst:=none,k:=.p (.sti n),args:=.slot s::az,ex:=[s] }
   |_=>match fi.alias s with
    |some b=>if fi.kind b=.box then(match x with
      |.tmp u=>if rg.dst.contains u&&CJ fi u&&n==1 then some { dst:=none,k:=.p (.stfo b),args:=[.slot s,.slot b,.slot u],ex:=[b,u] }
       else(Aq fi [x]).map fun az=>{ dst:=none,k:=.p (.stf b n),args:=.slot s::.slot b::az,ex:=[b] }
      |_=>(Aq fi [x]).map fun az=>{ dst:=none,k:=.p (.stf b n),args:=.slot s::.slot b::az,ex:=[b] }) else none
    |none=>match x with
     |.tmp u=>if rg.dst.contains u&&CJ fi u&&n==1 then some { dst:=none,k:=.w .sto,args:=[.slot s,.slot u],ex:=[u] }
      else(Aq fi [x]).map fun az=>{ dst:=none,k:=.w (.st n),args:=.slot s::az }
     |_=>(Aq fi [x]).map fun az=>{ dst:=none,k:=.w (.st n),args:=.slot s::az }
  |_,_,_=>none
 |.nilCheck x=>mk fi d (.p .chk) (Aq fi [x])
 |.binOp op t x y _=>match P.underlying t with
  |some (.int _) | some .string=>mk fi d (.p (.bin op 0)) (Aq fi [x,y])
  |some .bool=>mk fi d (.p (.bin op 1)) (Aq fi [x,y])
  |some (.func _ _ _)=>mk fi d (.p (.bin op 2)) (Aq fi [x,y])
  |some (.pointer _)=>match op with
   |.eql=>mk fi d (.p (.pnil false)) (Aq fi [x,y])
   |.neq=>mk fi d (.p (.pnil true)) (Aq fi [x,y])
   |_=>mk fi d (.p .no) (some [])
  |some (.slice _)=>match op with
   |.eql=>mk fi d (.p (.snil false)) (Aq fi [x,y])
   |.neq=>mk fi d (.p (.snil true)) (Aq fi [x,y])
   |_=>mk fi d (.p .no) (some [])
  |_=>match LM P t with
   |some ts=>match op with
    |.eql=>mk fi d (.p (.aeq false ts)) (Aq fi [x,y])
    |.neq=>mk fi d (.p (.aeq true ts)) (Aq fi [x,y])
    |_=>mk fi d (.p .no) (some [])
   |none=>mk fi d (.p .no) (some [])
 |.unOp .not _ x=>mk fi d (.p .not) (Aq fi [x])
 |.convert s t x=>match P.underlying s,P.underlying t with
  |some (.int _),some (.int k)=>mk fi d (.p (.cvt k)) (Aq fi [x])
  |some .string,some (.slice e)=>match P.underlying e,Ci P e with
   |some (.int .u8),some (1,_)=>mk fi d (.p .cvb) (Aq fi [x])
   |_,_=>none
  |some (.slice _),some (.slice e)=>match P.underlying e,x,d with
   |some (.int .u8),.tmp u,some _=>if s=t then mk fi d (.p .cvi) (Aq fi [.tmp u]) [u] else none
   |_,_,_=>none
  |_,_=>none
 |.makeFunc (.func f) first cap=>mk fi d (.p (.mkf f first.size)) (Aq fi (first.toList++cap.toList))
 |.makeMap t none=>match d,P.underlying t with
  |some s,some (.map kt e)=>match fi.kind s with
   |.plain=>match MK P kt,EP P e with
    |some kd,some z=>mk fi d (.w (.mkM z kd)) (some [])
    |_,_=>none
   |.mapb _=>if s<fi.nt then some { dst:=d,k:=.p .mkm,args:=[],clr:=fi.JN s } else none
   |_=>none
  |_,_=>none
 |.mapUpdate t m k x=>match P.underlying t with
  |some (.map kt _)=>match MK P kt,d with
   |some kd,none=>mk fi d (.w (.upM kd)) (Aq fi [m,k,x])
   |_,_=>none
  |_=>none
 |.mapEntry t m k=>match P.underlying t with
  |some (.map kt e)=>match MK P kt,EP P e with
   |some kd,some z=>mk fi d (.w (.enM z kd)) (Aq fi [m,k])
   |_,_=>none
  |_=>none
 |.entryStore _ m i x=>match d with
  |none=>mk fi d (.w .esM) (Aq fi [m,i,x])
  |some _=>none
 |.insert t (.tmp m) k x=>match P.underlying t,fi.kind m,rg.ps,d with
  |some (.map kt _),.mapb keys,some s,none=>match P.underlying kt,fi.kind s with
   |some (.int _),.ent m' key=>if key.isInt=true∧m=m'∧m<fi.nt∧fi.nt≤s then(Aq fi [k,x]).map fun az=>{ dst:=none,k:=.p (.ins key keys),args:=.slot m::az,ex:=[s] } else none
   |some .string,.ent m' key=>if key.isInt=false∧m=m'∧m<fi.nt∧fi.nt≤s then(Aq fi [k,x]).map fun az=>{ dst:=none,k:=.p (.ins key keys),args:=.slot m::az,ex:=[s] } else none
   |_,_=>none
  |some (.map kt _),.plain,_,none=>match MK P kt with
   |some kd=>mk fi d (.w (.upM kd)) (Aq fi [.tmp m,k,x])
   |none=>none
  |_,_,_,_=>none
 |.lookup t x i ok=>if rg.md=6 then(match P.underlying t with
  |some (.map k e)=>match MK P k,EP P e with
   |some kd,some z=>mk fi d (.r (.lkM z ok kd)) (Aq fi [x,i])
   |_,_=>none
  |_=>none) else match P.underlying t with
  |some (.map k e)=>match P.underlying k,EP P e with
   |some (.int _),some z=>mk fi d (.p (.look z ok true)) (Aq fi [x,i])
   |some .string,some z=>mk fi d (.p (.look z ok false)) (Aq fi [x,i])
   |_,_=>none
  |_=>none
 |.indexAddr t x i=>match P.underlying t with
  |some (.slice e)=>match Ci P e with
   |some (size,_)=>if 0<size then mk fi d (.p (.idx size)) (Aq fi [x,i]) else none
   |none=>none
  |some (.array n e)=>match Ci P e with
   |some (size,ag)=>if size=0 then none else match x,d with
    |.tmp s,some u=>if fi.nt≤s then none else match fi.kind s with
     |.box=>if fi.alias u=some s then mk fi d (.p (.ixl s n size)) ((Aq fi [i]).map fun az=>.slot s::az) else none
     |_=>match fi.alias s with
      |some b=>if fi.alias u=some b∧fi.kind b=.box then mk fi d (.p (.ixa n size ag)) ((Aq fi [i]).map fun az=>.slot s::az) else none
      |none=>mk fi d (.p (.ixa n size ag)) ((Aq fi [i]).map fun az=>.slot s::az)
    |_,_=>none
   |none=>none
  |_=>none
 |.index t x i=>match P.underlying t with
  |some .string=>mk fi d (.p .sidx) (Aq fi [x,i])
  |_=>none
 |.slice t x none (some (.const (.int _ p))) (some (.const (.int _ q)))=>if p=0∧q=0 then(match P.underlying t with
   |some (.slice e)=>match Ci P e with
    |some _=>mk fi d (.p .cut0) (Aq fi [x])
    |none=>none
   |_=>none) else none
 |.makeSlice t l c=>match P.underlying t,d with
  |some (.slice e),some _=>match P.info? e,EP P e with
   |some i,some z=>if 0<i.size∧i.bytes≤4096∧z.cells.length=i.size then(if rg.md=7 then mk fi d (.p (.mkz i.size z)) (Aq fi [l,c]) else mk fi d (.w (.mks i.size z)) (Aq fi [l,c])) else none
   |_,_=>none
  |_,_=>none
 |.slice t x lo hi none=>match P.underlying t with
  |some .string=>match Aq fi (x::(lo.toList++hi.toList)) with
   |some az=>mk fi d (.p (.ssl lo.isSome hi.isSome)) (some az)
   |none=>none
  |some (.slice e)=>match Ci P e,Aq fi (x::(lo.toList++hi.toList)) with
   |some (size,_),some az=>if 0<size then mk fi d (.p (.vsl size lo.isSome hi.isSome)) (some az) else none
   |_,_=>none
  |_=>none
 |.fieldAddr t x f=>match P.underlying t with
  |some (.struct fs)=>match fs[f]? with
   |some fl=>match Ci P fl.type with
    |some (n,ag)=>if n=0 then none else match x,d with
     |.tmp s,some u=>if fi.nt≤s then none else match fi.kind s with
      |.box=>if fi.alias u=some s then mk fi d (.p (.fal s fl.offset)) (some [.slot s]) else none
      |_=>match fi.alias s with
       |some b=>if fi.alias u=some b∧fi.kind b=.box then mk fi d (.p (.fa fl.offset n ag)) (some [.slot s]) else none
       |none=>mk fi d (.p (.fa fl.offset n ag)) (some [.slot s])
     |_,_=>none
    |none=>none
   |none=>none
  |_=>none
 |.field t x f=>match P.underlying t with
  |some (.struct fs)=>match fs[f]? with
   |some fl=>match Ci P fl.type with
    |some (n,ag)=>mk fi d (.p (.fld fl.offset n ag)) (Aq fi [x])
    |none=>none
   |none=>none
  |_=>none
 |.extract x i=>mk fi d (.p (.ext i)) (Aq fi [x])
 |.call c=>match c.callee with
  |.value (.func f)=>if pur f then mk fi d (.c f) (Aq fi c.args.toList) else if rg.md=4∧d.isSome=true then mk fi d (.w (.callz f)) (Aq fi c.args.toList) else mk fi d (.w (.call f)) (Aq fi c.args.toList)
  |.value x=>mk fi d (.w .calld) (Aq fi (x::c.args.toList))
  |.builtin .len=>match c.argTypes.toList.map P.underlying with
   |[some .string]=>mk fi d (.p (.len true)) (Aq fi c.args.toList)
   |[some (.slice _)]=>mk fi d (.p (.len false)) (Aq fi c.args.toList)
   |[some (.map _ _)]=>mk fi d (.r .lnM) (Aq fi c.args.toList)
   |_=>none
  |.builtin .cap=>match c.argTypes.toList.map P.underlying with
   |[some (.slice _)]=>mk fi d (.p .cap0) (Aq fi c.args.toList)
   |_=>none
  |.builtin .append=>if rg.md=1 then(match c.argTypes.toList,c.args.toList,d with
   |[s,x],[y,z],some _=>match P.underlying s,P.underlying x with
    |some (.slice e),some (.slice _)=>match P.info? e with
     |some i=>if 0<i.size∧i.bytes≤4096∧(i.zero.map (·.cells.size))=some i.size then mk fi d (.w (.Fa i.size)) (Aq fi [y,z]) else none
     |none=>none
    |some (.slice e),some (.int _)=>match P.info? e,EP P e with
     |some i,some zp=>if 0<i.size∧i.bytes≤4096∧zp.cells.length=i.size then mk fi d (.w (.appZ i.size zp)) (Aq fi [y,z]) else none
     |_,_=>none
    |_,_=>none
   |_,_,_=>none) else match c.argTypes.toList,c.args.toList,d with
   |[s,x],[.tmp u,y],some _=>match P.underlying s,P.underlying x with
    |some (.slice e),some (.slice _)=>match P.info? e with
     |some i=>if 0<i.size∧i.bytes≤4096∧(i.zero.map (·.cells.size))=some i.size then mk fi d (.p (.app i.size)) (Aq fi [.tmp u,y]) [u] else none
     |none=>none
    |some (.slice e),some .string=>match P.info? e with
     |some i=>if i.size=1∧i.bytes≤4096∧(i.zero.map (·.cells.size))=some i.size then mk fi d (.p (.app i.size)) (Aq fi [.tmp u,y]) [u] else none
     |none=>none
    |_,_=>none
   |_,_,_=>none
  |.builtin .min=>if c.args.size=2 then mk fi d (.p .min) (Aq fi c.args.toList) else none
  |.builtin .max=>if c.args.size=2 then mk fi d (.p .max) (Aq fi c.args.toList) else none
  |_=>none
 |.range t x=>match P.underlying t,d with
  |some (.map _ _),some _=>mk fi d (.w .rgM) (Aq fi [x])
  |_,_=>none
 |.next x false=>mk fi d (.w .nxM) (Aq fi [x])
 |.entry x=>mk fi d (.r .enI) (Aq fi [x])
 |.panic _ | .makeInterface _ _=>mk fi d (.p .no) (some [])
 |_=>none
def MC(P:Program)(pur:FuncId→Bool)(fi:FI)(rg:RG)(o:Oper):Option AOp:=
 match BU P pur fi rg o with
 |some a=>some a
 |none=>some { dst:=o.dst,k:=.p .no,args:=[] }
def J7(fi:FI)(ops:Array Oper):Option (Nat×Bool)→Option (Option (Nat×Bool))
 |none=>some none
 |some (j,b)=>match(ops[j]?).bind (·.dst) with
  |some t=>if CJ fi t then some (some (t,b)) else none
  |none=>none
def VI(fi:FI)(id:Nat):Nat→List Oper→List Nat
 |_,[]=>[]
 |j,o::os=>match o.op with
  |.call { callee:=.builtin .append,args,.. }=>(if fi.mode id j=1 then[] else match(args[0]?:Option Operand) with | some (.tmp u)=>[u] | _=>[])++VI fi id (j+1) os
  |_=>VI fi id (j+1) os
def VJ(fi:FI)(id:Nat):Nat→List Oper→List Nat
 |_,[]=>[]
 |j,o::os=>match o.op with
  |.call { callee:=.builtin .append,.. } | .buildSlice _ _ _=>(if fi.mode id j=1∨fi.mode id j=9 then[] else o.dst.toList)++VJ fi id (j+1) os
  |_=>VJ fi id (j+1) os
def N7(P:Program)(pur:FuncId→Bool)(fi:FI)(id:Nat)(rg:RG)(ops:Array Oper):Nat→List Oper→Option (List AOp)
 |_,[]=>some []
 |j,o::os=>match MC P pur fi { rg with ps:=((fi.ps.find? fun x=>x.1==id&&x.2.1==j).map (·.2.2)),md:=fi.mode id j } o,J7 fi ops o.guard,N7 P pur fi id rg ops (j+1) os with
  |some a,some g,some az=>if g.isSome∧(a.ex≠[]∨a.clr≠[]∨BA fi a.dst=false) then none else some ({ a with guard:=g }::az)
  |_,_,_=>none
def Uu(acc:List Nat)(o:Oper):Nat:=
 o.after.foldl (fun s e=>if Region.binds .any e then s ||| 2 ^ e.on ||| acc.getD e.on 0 else s) 0
def O7:List Nat→List Oper→List Nat
 |acc,[]=>acc
 |acc,o::os=>O7 (acc++[Uu acc o]) os
def isW:AK→Bool
 |.w _=>true
 |.r .lnM | .r (.lkM _ true _) | .r .enI=>true
 |_=>false
def isH:AK→Bool
 |.w .ldo | .w (.enM _ _)=>false
 |.w _=>true
 |_=>false
def isP:AK→Bool
 |.p _ | .c _=>true
 |_=>false
def H9(a b:List Nat):Bool:=a.all fun t=>!b.contains t
def O5(x y:AOp):Bool:=
 H9 x.wr y.rd&&H9 y.wr x.rd&&H9 x.wr y.wr&&(!isW x.k||isP y.k||(!isH x.k&&!isW y.k))&&(!isW y.k||isP x.k||(!isH y.k&&!isW x.k))
def IA(x y:AOp):Bool:=H9 x.wr y.rd&&H9 y.wr x.rd&&H9 x.wr y.wr&&isW x.k&&!isP y.k&&!isW y.k
def jV(bits:List Nat)(az:List AOp)(j:Nat):List (Nat×Nat):=(List.range j).flatMap fun i=>if(bits.getD j 0).testBit i||O5 (az.getD i default) (az.getD j default) then[] else
 if IA (az.getD i default) (az.getD j default) then[(i,j)] else if IA (az.getD j default) (az.getD i default) then[(j,i)] else[]
def Kr(bits:List Nat)(az:List AOp)(n:Nat):List (Nat×Nat):=(List.range n).flatMap (jV bits az)
def Qi(bits:List Nat)(az:List AOp):Nat→Bool
 |0=>true
 |j+1=>Qi bits az j&&(List.range j).all fun i=>(bits.getD j 0).testBit i||O5 (az.getD i default) (az.getD j default)||IA (az.getD i default) (az.getD j default)||IA (az.getD j default) (az.getD i default)
def Qr(ops:List Oper):Nat→Bool
 |0=>true
 |i+1=>Qr ops i&&(match ops[i]? with | some o=>o.after.all fun e=>!Region.binds .any e||decide (e.on<i) | none=>true)
def FM(P:Program)(pur:FuncId→Bool)(fi:FI)(id:Nat)(ops:Array Oper)(draw:Bool):Option (List AOp×List (Nat×Nat)):=
 match N7 P pur fi id ⟨none,VI fi id 0 ops.toList,VJ fi id 0 ops.toList,0⟩ ops 0 ops.toList with
 |some az=>if draw then(if Qr ops.toList ops.size&&Qi (O7 [] ops.toList) az ops.size then some (az,Kr (O7 [] ops.toList) az ops.size) else none) else some (az,[])
 |none=>none
def comp(P:Program)(pur:FuncId→Bool)(fi:FI):Code→Option Dc
 |.skip=>some .skip
 |.region id ops draw=>(FM P pur fi id ops draw).map fun r=>if r.2.isEmpty then .region r.1 else .draw r.1 r.2
 |.seq a b=>match comp P pur fi a,comp P pur fi b with
  |some x,some y=>some (.seq x y)
  |_,_=>none
 |.cond c t e=>match EK fi c,comp P pur fi t,comp P pur fi e with
  |some x,some y,some z=>some (.cond x y z)
  |_,_,_=>none
 |.block id c=>(comp P pur fi c).map (.block id)
 |.loop c=>(comp P pur fi c).map (.loop fi.keep)
 |.exit id=>some (.exit id)
 |.ret=>some .ret
 |_=>none
def Hm(P:Program)(fi:FI):List ResultVar→Option (List (Nat×Option Nat))
 |[]=>some []
 |.tmp t::r=>if CJ fi t then(Hm P fi r).map ((t,none)::·) else none
 |.cell t ty::r=>match Ci P ty with
  |some (n,true)=>if t<fi.nt∧fi.kind t=.box then(Hm P fi r).map ((t,some n)::·) else none
  |_=>none
def FI.okB(fi:FI):Bool:=(List.range fi.kd.length).all fun t=>match fi.kind t with
 |.ent m key=>(match fi.kind m with | .mapb _=>true | _=>false)&&(List.range fi.kd.length).all (fun t'=>t'==t||(match fi.kind t' with | .ent m' key'=>!(decide (m'=m)&&decide (key'=key)) | _=>true))
 |_=>true
def SK.K4:SK→Bool
 |.plain | .imm | .obj=>true
 |_=>false
def Gf(P:Program)(pur:FuncId→Bool)(fi:FI)(fn:Func):Option Cy:=
 match fn.body with
 |some c=>match comp P pur fi c,Hm P fi fn.results.toList with
  |some ac,some rs=>if fi.nt≠fn.ntmps∨fi.okB=false∨(List.range (fn.params.size+fn.nfree)).all (fun t=>(fi.kind t).K4)=false then none else some { nargs:=fn.params.size+fn.nfree,ntmps:=fn.ntmps,extra:=fi.ps.length,results:=rs,code:=ac }
  |_,_=>none
 |none=>none
end Go.Abs

namespace Go.Abs
open Go.RowKit
def FW(ro:Option Nat):Fence:={ fn:=fun _=>True,depth:=none,alive:=false,round:=ro }
theorem Q5{ro:Option Nat}{n:Nat}{P:Program}{o:Oper}{a:Act}{w w':World}{K:Act→World→Prop}{Q:Exit→Act→World→Prop}{v:Value}
  (hd:∀c,o.op≠.defer c) (hr:(execOp a.eval o).run P w=.ok (.value v) w') (hk:K (a.put o.dst v) w'):o.wpIn (FW ro) n P a w K Q:=by
 refine⟨fun _ _=>trivial,?_⟩
 rw[Oper.semAt_eq _ _ _ hd,hr];exact hk
theorem bN{ro:Option Nat}{n:Nat}{P:Program}{o:Oper}{a:Act}{w w':World}{K:Act→World→Prop}{Q:Exit→Act→World→Prop}
  (hd:∀c,o.op≠.defer c) (hr:(execOp a.eval o).run P w=.ok .skip w') (hk:K (a.put o.dst undef) w'):o.wpIn (FW ro) n P a w K Q:=by
 refine⟨fun _ _=>trivial,?_⟩
 rw[Oper.semAt_eq _ _ _ hd,hr];exact hk
section inv
variable{I:Imm}{bl:Bl}{w:World}{v:Value}
theorem Bu.rep{p:PV}(h:Bu I bl w v p)(h1:p.EF=false)(h2:∀f fs cs,p≠.func f fs cs)(h3:∀vs,p≠.tuple vs)(h4:∀cs,p≠.aggr cs:=by simp):Rep I w v p:=by
 cases h with
 |one h=>
  rcases h with h | h
  ·exact h
  ·cases h<;>cases h1
 |func _ _ _ _=>exact absurd rfl (h2 _ _ _)
 |tuple _ _=>exact absurd rfl (h3 _)
 |aggr _ _=>exact absurd rfl (h4 _)
theorem Bu.Ht{b:Bool}(h:Bu I bl w v (.bool b)):v=.bool b:=by
 cases h.rep rfl (by simp) (by simp);rfl
theorem Bu.Db{k:IntKind}{n:Int}(h:Bu I bl w v (.int k n)):v=.int k n:=by
 cases h.rep rfl (by simp) (by simp);rfl
theorem Bu.Gz{l:List UInt8}(h:Bu I bl w v (.str l)):∃s:ByteArray,v=.string s∧s.data.toList=l:=by
 cases h.rep rfl (by simp) (by simp);exact⟨_,rfl,rfl⟩
theorem Bu.FR(h:Bu I bl w v .nils):v=.slice none 0 0:=by
 cases h.rep rfl (by simp) (by simp);rfl
theorem Bu.Ra(h:Bu I bl w v .nilm):v=.map none:=by
 cases h.rep rfl (by simp) (by simp);rfl
theorem Bu.Iq(h:Bu I bl w v .empt):∃a,v=.slice (some a) 0 0:=by
 cases h.rep rfl (by simp) (by simp);exact⟨_,rfl⟩
theorem Bu.Rb(h:Bu I bl w v .nilf):v=.nilFunc:=by
 cases h.rep rfl (by simp) (by simp);rfl
theorem Bu.Qq{ps:List PV}(h:Bu I bl w v (.agg ps)):∃cs:Array Value,v=.agg cs∧cs.size=ps.length∧∀(i:Nat) (p:PV),ps[i]?=some p→Rep I w (cs.getD i undef) p:=by
 cases h.rep rfl (by simp) (by simp) with
 |agg h hr=>exact⟨_,rfl,h,hr⟩
theorem Bu.JR{x:PV}(h:Bu I bl w v (.vptr x)):∃b off,∃cv:Nat→Value,v=.pointer (some ⟨b,off,none⟩)∧(∀(j:Nat) (p:PV),x.cells[j]?=some p→I b (some (off+j)))∧
  (∀(j:Nat) (p:PV),x.cells[j]?=some p→w.cell? ⟨b,off+j,none⟩=some (cv j))∧(∀(j:Nat) (p:PV),x.cells[j]?=some p→Rep I w (cv j) p):=by
 cases h.rep rfl (by simp) (by simp) with
 |vptr cv h1 h2 h3=>exact⟨_,_,cv,rfl,h1,h2,h3⟩
theorem Bu.Ho{id off:Nat}(h:Bu I bl w v (.ref id off)):∃b,bl.l[id]?=some b∧v=.pointer (some ⟨b,off,none⟩):=by
 cases h with
 |one h=>
  rcases h with h | h
  ·cases h
  ·cases h with
   |ref h=>exact⟨_,h,rfl⟩
theorem Bu.Gp{id gen off len size:Nat}(h:Bu I bl w v (.arr id gen off len size)):∃b base n cap b' o',bl.ab id gen=some (b,base,n)∧len≤cap∧
  base+(off+cap) * size≤n∧(0<cap→b'=b∧o'=base+off * size)∧v=.slice (some ⟨b',o',none⟩) len cap:=by
 cases h with
 |one h=>
  rcases h with h | h
  ·cases h
  ·cases h with
   |arr h h1 h2 h3=>exact⟨_,_,_,_,_,_,h,h1,h2,h3,rfl⟩
theorem Bu.Ir{id gen size i off:Nat}(h:Bu I bl w v (.aptr id gen size i off)):∃b base n,bl.ab id gen=some (b,base,n)∧v=.pointer (some ⟨b,base+i * size+off,none⟩):=by
 cases h with
 |one h=>
  rcases h with h | h
  ·cases h
  ·cases h with
   |aptr h=>exact⟨_,_,_,h,rfl⟩
theorem Bu.Ik{id:Nat}(h:Bu I bl w v (.mref id)):∃b,bl.l[id]?=some b∧v=.map (some b):=by
 cases h with
 |one h=>
  rcases h with h | h
  ·cases h
  ·cases h with
   |mref h=>exact⟨_,h,rfl⟩
theorem Bu.Ot{ps:List PV}(h:Bu I bl w v (.tuple ps)):∃cs:Array Value,v=.tuple cs∧cs.size=ps.length∧∀(i:Nat) (p:PV),ps[i]?=some p→PZ I bl w (cs.getD i undef) p:=by
 cases h with
 |one h=>
  rcases h with h | h
  ·cases h with
   |tuple h hr=>exact⟨_,rfl,h,fun i p hp=>.inl (.inl (hr i p hp))⟩
  ·cases h
 |tuple h hr=>exact⟨_,rfl,h,hr⟩
theorem Bu.LX{ps:List PV}(h:Bu I bl w v (.aggr ps)):∃cs:Array Value,v=.agg cs∧cs.size=ps.length∧∀(i:Nat) (p:PV),ps[i]?=some p→GL I bl w (cs.getD i undef) p:=by
 cases h with
 |one h=>
  rcases h with h | h
  ·cases h
  ·cases h
 |aggr h hr=>exact⟨_,rfl,h,hr⟩
theorem Bu.J3{f:FuncId}{first cap:List PV}(h:Bu I bl w v (.func f first cap)):∃fs cs:Array Value,v=.func (.func f) fs cs∧fs.size=first.length∧cs.size=cap.length∧
  (∀(i:Nat) (p:PV),first[i]?=some p→GL I bl w (fs.getD i undef) p)∧(∀(i:Nat) (p:PV),cap[i]?=some p→GL I bl w (cs.getD i undef) p):=by
 cases h with
 |one h=>
  rcases h with h | h
  ·cases h with
   |func h1 h2 hf hc=>exact⟨_,_,rfl,h1,h2,fun i p hp=>.inl (hf i p hp),fun i p hp=>.inl (hc i p hp)⟩
  ·cases h
 |func h1 h2 hf hc=>exact⟨_,_,rfl,h1,h2,hf,hc⟩
theorem Bu.Gl{own:Bool}{size:Nat}{es:List PV}(h:Bu I bl w v (.slice own size es)):∃a len cap,∃cv:Nat→Nat→Value,v=.slice (some a) len cap∧len=es.length∧len≤cap∧(es≠[]→a.spot=none)∧
  (∀(i:Nat) (e:PV),es[i]?=some e→e.cells.length=size)∧
  (∀(i:Nat) (e:PV) (j:Nat) (p:PV),es[i]?=some e→e.cells[j]?=some p→I a.block (some (a.off+i * size+j)))∧
  (∀(i:Nat) (e:PV) (j:Nat) (p:PV),es[i]?=some e→e.cells[j]?=some p→w.cell? ⟨a.block,a.off+i * size+j,none⟩=some (cv i j))∧
  (∀(i:Nat) (e:PV) (j:Nat) (p:PV),es[i]?=some e→e.cells[j]?=some p→Rep I w (cv i j) p):=by
 cases h.rep rfl (by simp) (by simp) with
 |slice cv h1 h2 h3 h4 h5 h6 h7=>exact⟨_,_,_,cv,rfl,h1,h2,h3,h4,h5,h6,h7⟩
end inv
theorem Rep.D8{I:Imm}{w:World}{v:Value}{p:PV}(h:Rep I w v p):Rep I w v p.D8:=by
 cases h<;>first | exact .slice _ ‹_› ‹_› ‹_› ‹_› ‹_› ‹_› ‹_› | (constructor<;>assumption)
theorem Rep.Ag{I:Imm}{w:World}{v:Value}{p:PV}(h:Rep I w v p):Rep I w v p.Ag:=by
 cases h with
 |agg h hr=>
  refine .agg (by simpa using h) fun i p hp=>?_
  rw[Af] at hp;obtain⟨q,hq,rfl⟩:=Ac.1 hp;exact(hr i q hq).D8
 |slice _ h1 h2 h3 h4 h5 h6 h7=>exact .slice _ h1 h2 h3 h4 h5 h6 h7
 |bool b=>exact .bool b
 |int k n=>exact .int k n
 |str s=>exact .str s
 |nilp=>exact .nilp
 |vptr cv h1 h2 h3=>exact .vptr cv h1 h2 h3
 |nils=>exact .nils
 |empt=>exact .empt
 |nili=>exact .nili
 |nilm=>exact .nilm
 |mapv ix h1 h2 h3 h4 h5 h6 h7=>exact .mapv ix h1 h2 h3 h4 h5 h6 h7
 |nilf=>exact .nilf
 |func h1 h2 h3 h4=>exact .func h1 h2 h3 h4
 |tuple h hr=>exact .tuple h hr
theorem F6.Ag{bl:Bl}{v:Value}{p:PV}(h:F6 bl v p):p.Ag=p:=by cases h<;>rfl
theorem F6.D8{bl:Bl}{v:Value}{p:PV}(h:F6 bl v p):p.D8=p:=by cases h<;>rfl
theorem Bu.Ag{I:Imm}{bl:Bl}{w:World}{v:Value}{p:PV}(h:Bu I bl w v p):Bu I bl w v p.Ag:=by
 cases h with
 |one h=>
  rcases h with h | h
  ·exact .one (.inl h.Ag)
  ·exact .one (.inr (by rw[h.Ag];exact h))
 |func h1 h2 h3 h4=>exact .func h1 h2 h3 h4
 |tuple h hr=>exact .tuple h hr
 |aggr h hr=>
  refine .aggr (by simpa using h) fun i p hp=>?_
  rw[Af] at hp;obtain⟨q,hq,rfl⟩:=Ac.1 hp;rcases hr i q hq with h' | h'
  ·exact .inl h'.D8
  ·refine .inr ?_
   rw[h'.D8];exact h'
theorem Cj{G:Gh}{w:World}{tag:Tag}{c:Value}(p:PV):Eb G w tag c p.Ag:=by
 cases p<;>exact trivial
theorem Tg{G:Gh}{w:World}{tag:Tag}{c:Value}(p:PV):Eb G w tag c p.D8:=by
 cases p<;>exact trivial
theorem C9(p:PV):p.Ag.free=p.free:=by cases p<;>rfl
theorem CP(p:PV):p.Ag.cells.length=p.cells.length:=by cases p<;>simp[PV.Ag,PV.cells]
theorem QQ{I:Imm}{w:World}{v:Value}{p:PV}(h:Jd v=some p):Rep I w v p:=by
 unfold Jd at h
 split at h<;>first | (cases h;constructor) | cases h
theorem QP{I:Imm}{w:World}:∀{vs:List Value} {ps:List PV},OH vs=some ps→vs.length=ps.length∧∀(i:Nat) (p:PV),ps[i]?=some p→∃v,vs[i]?=some v∧Rep I w v p
 |[],ps,h=>by cases h;exact⟨rfl,fun i p hp=>by simp at hp⟩
 |v::vs,ps,h=>by
  unfold OH at h
  split at h
  ·rename_i q qs h1 h2;cases h;obtain⟨e,hr⟩:=QP (I:=I) (w:=w) h2;refine⟨by simp[e],fun i p hp=>?_⟩
   cases i with
   |zero=>simp at hp;subst hp;exact⟨v,rfl,QQ h1⟩
   |succ i=>simpa using hr i p (by simpa using hp)
  ·cases h
theorem EN{I:Imm}{w:World}{v:Value}{p:PV}(h:Pk v=some p):Rep I w v p:=by
 unfold Pk at h
 split at h
 ·rename_i cs;obtain⟨ps,hps,rfl⟩:=Ac.1 h;obtain⟨e,hr⟩:=QP (I:=I) (w:=w) hps;refine .agg (by simpa using e) fun i p hp=>?_
  obtain⟨v,hv,hrep⟩:=hr i p hp
  have:cs.getD i undef=v:=by
   rw[Ah];rw[Aw] at hv;simp[hv]
  rw[this];exact hrep
 ·exact QQ h
theorem XH{v:Value}{p:PV}(h:Jd v=some p):p.free=true:=by
 unfold Jd at h
 split at h<;>first | (cases h;rfl) | cases h
theorem Nh{v:Value}{p:PV}(h:Pk v=some p):p.free=true:=by
 unfold Pk at h
 split at h
 ·obtain⟨ps,_,rfl⟩:=Ac.1 h;rfl
 ·exact XH h
def SK.val:SK→Bool
 |.plain | .imm | .obj=>true
 |_=>false
theorem BL{cx:Cx}{G:Gh}{a:Act}{w:World}{t:Nat}{v:PV}(hk:(cx.kd t).val=true)(hf:v.free=true):
  DY cx G a w t v↔(Bu G.I G.bl w (at' a t) v∧Eb G w (.slot t none) (at' a t) v):=by
 unfold DY;cases h:cx.kd t<;>rw[h] at hk<;>simp[SK.val] at hk<;>dsimp only<;>(split<;>first | exact Iff.rfl | (simp[PV.free] at hf))
theorem Ba{fi:FI}{cx:Cx}{G:Gh}{a:Act}{w:World}{A:Frm}{σ:Sto}(hi:Inv cx G a w A σ)(hkd:∀t,cx.kd t=fi.kind t)
  {x:Operand} {y:Ct} (hc:EK fi x=some y) {p:PV} (he:BJ A [y]=some [p]) (hf:p.free=true):Bu G.I G.bl w (a.eval x) p:=by
 cases x with
 |tmp t=>
  simp only[EK] at hc
  have hy:y=.slot t∧(cx.kd t).val=true:=by
   rw[hkd]
   split at hc<;>first | (rename_i hk;rw[hk];split at hc<;>first | (cases hc;exact⟨rfl,rfl⟩) | cases hc) | cases hc
  obtain⟨rfl,hv⟩:=hy;simp only[BJ] at he
  split at he
  ·rename_i v vs hg hv';cases hv';cases he;exact((BL hv hf).1 (hi.slot t _ hg)).1
  ·cases he
 |const v=>
  simp only[EK] at hc;obtain⟨q,hq,rfl⟩:=Ac.1 hc;simp[BJ] at he;subst he;exact .one (.inl (EN hq))
 |func f=>
  simp only[EK] at hc;cases hc;simp[BJ] at he;subst he;exact .one (.inl (.func rfl rfl (fun i p h=>by simp at h) (fun i p h=>by simp at h)))
 |global g=>cases hc
theorem Au{A:Frm}{y:Ct}{ys:List Ct}{ps:List PV}(h:BJ A (y::ys)=some ps):∃p qs,ps=p::qs∧BJ A [y]=some [p]∧BJ A ys=some qs:=by
 cases y with
 |slot t=>
  simp only[BJ] at h ⊢
  split at h
  ·rename_i v vs hg hv;cases h;exact⟨v,vs,rfl,by simp[hg],hv⟩
  ·cases h
 |val v=>
  simp only[BJ] at h ⊢;obtain⟨qs,hq,rfl⟩:=Ac.1 h;exact⟨v,qs,rfl,rfl,hq⟩
theorem AL{fi:FI}{x:Operand}{xs:List Operand}{ys:List Ct}(h:Aq fi (x::xs)=some ys):∃y zs,ys=y::zs∧EK fi x=some y∧Aq fi xs=some zs:=by
 simp only[Aq] at h
 split at h
 ·rename_i y zs h1 h2;cases h;exact⟨y,zs,rfl,h1,h2⟩
 ·cases h
theorem Oc{fi:FI}{cx:Cx}{G:Gh}{a:Act}{w:World}{A:Frm}{σ:Sto}(hi:Inv cx G a w A σ)(hkd:∀t,cx.kd t=fi.kind t):
  ∀{xs:List Operand} {ys:List Ct},Aq fi xs=some ys→∀{ps:List PV},BJ A ys=some ps→(∀p∈ps,p.free=true)→
   xs.length=ps.length∧∀(i:Nat) (x:Operand) (p:PV),xs[i]?=some x→ps[i]?=some p→Bu G.I G.bl w (a.eval x) p
 |[],ys,hc,ps,he,_=>by
  cases hc;cases he;exact⟨rfl,fun i x p h=>by simp at h⟩
 |x::xs,ys,hc,ps,he,hf=>by
  obtain⟨y,zs,rfl,h1,h2⟩:=AL hc;obtain⟨p,qs,rfl,h3,h4⟩:=Au he;obtain⟨hl,hr⟩:=Oc hi hkd h2 h4 (fun p hp=>hf p (Bw _ hp))
  refine⟨by simp[hl],fun i x' p' hx hp=>?_⟩
  cases i with
  |zero=>simp at hx hp;subst hx hp;exact Ba hi hkd h1 h3 (hf _ (BG ..))
  |succ i=>exact hr i x' p' (by simpa using hx) (by simpa using hp)
def GA(A:Frm)(dst:Option Nat)(p:PV):Frm:=match dst with | some d=>A.set d (some p) | none=>A
theorem Inv.JK{cx:Cx}{G G':Gh}{a:Act}{w w':World}{A:Frm}{σ:Sto}(h:Inv cx G a w A σ)(he:Ext (fun _=>False) G G' w w')(hb:Base cx G' w')
  (hbl:G'.bl=G.bl) (dst:Option Nat) (hdst:∀d,dst=some d→d<cx.nt∧(cx.kd d).val=true) {v:Value} {p:PV} (hf:p.free=true)
  (hr:Bu G'.I G'.bl w' v p) (ho:∀d,dst=some d→Eb G' w' (.slot d none) v p):Inv cx G' (a.put dst v) w' (GA A dst p) σ:=by
 refine h.step (fun _=>False) dst v he hb ?_ ?_ (fun _ cs hc=>.inl ⟨hc,fun _ h=>h⟩) (by rw[hbl];exact h.len) (by rw[hbl];exact h.abl)
 ·cases dst<;>simp[GA]
 ·intro t q hq;cases dst with
  |none=>
   exact .inl ⟨hq,by simp,fun _=>id,fun _ _ _ _=>by simp,fun _ _=>⟨by simp,id⟩⟩
  |some d=>
   obtain⟨hd1,hd2⟩:=hdst d rfl;simp only[GA,C8] at hq
   split at hq
   ·rename_i hc;cases hq;refine .inr ?_
    rw[hc.1,BL hd2 hf,EL _ _ _ (by rw[h.size];exact hd1)]
    exact⟨hr,ho d rfl⟩
   ·rename_i hc;have hne:d≠t:=fun e=>hc ⟨e.symm,by have:=h.room;omega⟩
    refine .inl ⟨hq,fun e=>hne (Option.some.inj e),fun _=>id,fun d' off e hbx=>?_,fun m hm=>⟨?_,id⟩⟩
    ·intro e';have:=Option.some.inj e';subst this;rw[hbx] at hd2;simp[SK.val] at hd2
    ·intro e';have:=Option.some.inj e';subst this;obtain⟨keys,hk⟩:=cx.ents t d hm;rw[hk] at hd2;simp[SK.val] at hd2
end Go.Abs

namespace Go.Abs
open Go.RowKit
section
variable{P:Program}{pur:FuncId→Bool}{call:Caller}{fi:FI}{cx:Cx}{G:Gh}{a:Act}{w:World}{A A':Frm}{σ σ':Sto}
def Gives(P:Program)(cx:Cx)(o:Oper)(a:Act)(w:World)(A':Frm)(σ':Sto):Prop:=
 (∃v w',(execOp a.eval o).run P w=.ok (.value v) w'∧Sim cx (a.put o.dst v) w' A' σ') ∨
 (∃w',(execOp a.eval o).run P w=.ok .skip w'∧Sim cx (a.put o.dst undef) w' A' σ')
def Kept(d:Option Nat)(a a':Act):Prop:=∀t,d≠some t→at' a' t=at' a t
theorem LD(a:Act)(d:Option Nat)(v:Value):Kept d a (a.put d v):=fun t h=>FO a d v t h
theorem Gives.wp{ro:Option Nat}{n:Nat}{o:Oper}{K:Act→World→Prop}{Q:Exit→Act→World→Prop}(h:Gives P cx o a w A' σ')(hd:∀c,o.op≠.defer c)
  (hk:∀a' w',Sim cx a' w' A' σ'→Kept o.dst a a'→K a' w'):o.wpIn (FW ro) n P a w K Q:=by
 rcases h with⟨v,w',h1,h2⟩ | ⟨w',h1,h2⟩
 ·exact Q5 hd h1 (hk _ _ h2 (LD _ _ _))
 ·exact bN hd h1 (hk _ _ h2 (LD _ _ _))
theorem DC(hkd:∀t,cx.kd t=fi.kind t)(hnt:cx.nt=fi.nt){d:Option Nat}(h:BA fi d=true):∀t,d=some t→t<cx.nt∧(cx.kd t).val=true:=by
 rintro t rfl
 simp only[BA,CJ,Ak,decide_eq_true_eq] at h;obtain⟨h1,h2⟩:=h;rw[hnt,hkd];refine⟨h1,?_⟩
 split at h2
 ·rename_i hk;rw[hk];rfl
 ·cases h2
theorem Qm{d:Option Nat}{k:AK}{args:Option (List Ct)}{ex:List Nat}{ao:AOp}(h:mk fi d k args ex=some ao):
  ∃az,args=some az∧ao={ dst:=d,k,args:=az,ex }∧BA fi d=true∧ex.all (CJ fi)=true∧ex.all (fun t=>d != some t)=true:=by
 unfold mk at h
 split at h
 ·rename_i hc;simp only[Ak] at hc;obtain⟨az,h1,h2⟩:=Ac.1 h;exact⟨az,h1,h2.symm,hc.1.1,hc.1.2,hc.2⟩
 ·cases h
theorem bu{d:Option Nat}{k:PK}{az:List Ct}(h:BV pur call { dst:=d,k:=.p k,args:=az } A σ=some (A',σ')):
  ∃vs rs,BJ A az=some vs∧AJ k vs=some rs∧σ'=σ∧∀p,rs=[some p]→A'=GA A d p:=by
 unfold BV at h;dsimp only at h
 split at h
 ·rename_i vs hvs;simp only[sem] at h
  split at h
  ·rename_i rs σ₁ hs;obtain⟨rs',hrs,e⟩:=Ac.1 hs;cases e;refine⟨vs,rs,hvs,hrs,?_,?_⟩
   ·split at h
    ·cases h;rfl
    ·split at h<;>cases h;rfl
   ·rintro p rfl
    cases d with
    |none=>
     simp at h;rw[←h.1];rfl
    |some d=>
     simp[AOp.wr,CV] at h;rw[←h.1];rfl
  ·cases h
 ·cases h
theorem F3(hi:Inv cx G a w A σ)(hkd:∀t,cx.kd t=fi.kind t)(hnt:cx.nt=fi.nt){o:Oper}{k:PK}{az:List Ct}(hd:BA fi o.dst=true)
  (hrun:BV pur call { dst:=o.dst,k:=.p k,args:=az } A σ=some (A',σ'))
  (hsem:∀vs rs,BJ A az=some vs→AJ k vs=some rs→∃p v,rs=[some p]∧p.free=true∧(execOp a.eval o).run P w=.ok (.value v) w∧
   Bu G.I G.bl w v p∧∀tag,Eb G w tag v p):Gives P cx o a w A' σ':=by
 obtain⟨vs,rs,h1,h2,rfl,h3⟩:=bu hrun;obtain⟨p,v,rfl,hf,hr,hrep,how⟩:=hsem vs rs h1 h2;rw[h3 p rfl];exact .inl ⟨v,w,hr,G,hi.JK (Ext.refl _ _ _) hi.base rfl o.dst (DC hkd hnt hd) hf hrep (fun _ _=>how _)⟩
theorem IY{p:PV}(h:p.flat=true):p.free=true:=by cases p<;>first | rfl | simp[PV.flat] at h
theorem Lm{G:Gh}{w:World}{tag:Tag}{v:Value}{p:PV}(h:∀sz es,p≠.slice true sz es):Eb G w tag v p:=by
 unfold Eb;split
 ·exact absurd rfl (h _ _)
 ·trivial
theorem UH(hi:Inv cx G a w A σ)(hkd:∀t,cx.kd t=fi.kind t)(hnt:cx.nt=fi.nt){o:Oper}{x:Operand}(ho:o.op=.move x∨o.op=.assign x)
  {az:List Ct} (hc:Aq fi [x]=some az) (hd:BA fi o.dst=true) (hrun:BV pur call { dst:=o.dst,k:=.p .mv,args:=az } A σ=some (A',σ')):Gives P cx o a w A' σ':=by
 refine F3 hi hkd hnt hd hrun fun vs rs he hs=>?_
 obtain⟨y,zs,rfl,hy,hz⟩:=AL hc;cases hz;obtain⟨p,qs,rfl,hp,hq⟩:=Au he;cases hq;simp only[AJ] at hs
 split at hs
 ·rename_i hf;cases hs;refine⟨_,a.eval x,rfl,by rw[C9];exact hf,?_,(Ba hi hkd hy hp hf).Ag,fun _=>Cj p⟩
  rcases ho with ho | ho<;>simp[execOp,ho]
 ·cases hs
theorem fZ(hi:Inv cx G a w A σ)(hkd:∀t,cx.kd t=fi.kind t)(hnt:cx.nt=fi.nt){o:Oper}{c x y:Operand}(ho:o.op=.pick c x y)
  {az:List Ct} (hc:Aq fi [c,x,y]=some az) (hd:BA fi o.dst=true) (hrun:BV pur call { dst:=o.dst,k:=.p .pick,args:=az } A σ=some (A',σ')):Gives P cx o a w A' σ':=by
 refine F3 hi hkd hnt hd hrun fun vs rs he hs=>?_
 obtain⟨y1,zs,rfl,hy1,hz⟩:=AL hc;obtain⟨y2,zs,rfl,hy2,hz⟩:=AL hz;obtain⟨y3,zs,rfl,hy3,hz⟩:=AL hz;cases hz;obtain⟨p1,qs,rfl,hp1,hq⟩:=Au he;obtain⟨p2,qs,rfl,hp2,hq⟩:=Au hq;obtain⟨p3,qs,rfl,hp3,hq⟩:=Au hq;cases hq;cases p1 with
 |bool b=>
  have hb:=(Ba hi hkd hy1 hp1 rfl).Ht;cases b
  ·simp only[AJ] at hs;simp only[Bool.false_eq_true,if_false] at hs
   split at hs
   ·rename_i hf;cases hs;refine⟨_,a.eval y,rfl,by rw[C9];exact hf,?_,(Ba hi hkd hy3 hp3 hf).Ag,fun _=>Cj _⟩
    simp[execOp,ho,hb,asBool]
   ·cases hs
  ·simp only[AJ] at hs;simp only[if_true] at hs
   split at hs
   ·rename_i hf;cases hs;refine⟨_,a.eval x,rfl,by rw[C9];exact hf,?_,(Ba hi hkd hy2 hp2 hf).Ag,fun _=>Cj _⟩
    simp[execOp,ho,hb,asBool]
   ·cases hs
 |_=>simp[AJ] at hs
theorem nN(hi:Inv cx G a w A σ)(hkd:∀t,cx.kd t=fi.kind t)(hnt:cx.nt=fi.nt){o:Oper}{t:TypeId}{x:Operand}(ho:o.op=.unOp .not t x)
  {az:List Ct} (hc:Aq fi [x]=some az) (hd:BA fi o.dst=true) (hrun:BV pur call { dst:=o.dst,k:=.p .not,args:=az } A σ=some (A',σ')):Gives P cx o a w A' σ':=by
 refine F3 hi hkd hnt hd hrun fun vs rs he hs=>?_
 obtain⟨y,zs,rfl,hy,hz⟩:=AL hc;cases hz;obtain⟨p,qs,rfl,hp,hq⟩:=Au he;cases hq;cases p with
 |bool b=>
  have hb:=(Ba hi hkd hy hp rfl).Ht;simp only[AJ] at hs;cases hs;exact⟨_,.bool (!b),rfl,rfl,by simp[execOp,ho,hb,Op.unary],.one (.inl (.bool _)),fun _=>trivial⟩
 |_=>simp[AJ] at hs
theorem ou(hi:Inv cx G a w A σ)(hkd:∀t,cx.kd t=fi.kind t)(hnt:cx.nt=fi.nt){o:Oper}{i:Nat}{x:Operand}(ho:o.op=.extract x i)
  {az:List Ct} (hc:Aq fi [x]=some az) (hd:BA fi o.dst=true) (hrun:BV pur call { dst:=o.dst,k:=.p (.ext i),args:=az } A σ=some (A',σ')):Gives P cx o a w A' σ':=by
 refine F3 hi hkd hnt hd hrun fun vs rs he hs=>?_
 obtain⟨y,zs,rfl,hy,hz⟩:=AL hc;cases hz;obtain⟨p,qs,rfl,hp,hq⟩:=Au he;cases hq;cases p with
 |tuple ps=>
  obtain⟨cs,hv,hsz,hr⟩:=(Ba hi hkd hy hp rfl).Ot;simp only[AJ] at hs
  split at hs
  ·rename_i hf;obtain⟨q,hq,e⟩:=Ac.1 hs;cases e;have hlt:=(Ab.1 hq).1;have hlt':i<cs.size:=by omega
   refine⟨_,cs.getD i undef,rfl,?_,?_,(hr i q hq).wO.Ag,fun _=>Cj q⟩
   ·rw[C9];have:q∈ps:=AA hq;have:=Ao.1 hf q this;exact this
   ·simp[execOp,ho,hv,Instr.extract,hlt',Array.getD]
  ·cases hs
 |_=>simp[AJ] at hs
theorem oI(hi:Inv cx G a w A σ)(hkd:∀t,cx.kd t=fi.kind t)(hnt:cx.nt=fi.nt){o:Oper}{x:Operand}(ho:o.op=.nilCheck x)
  {az:List Ct} (hc:Aq fi [x]=some az) (hd:BA fi o.dst=true) (hrun:BV pur call { dst:=o.dst,k:=.p .chk,args:=az } A σ=some (A',σ')):Gives P cx o a w A' σ':=by
 refine F3 hi hkd hnt hd hrun fun vs rs he hs=>?_
 obtain⟨y,zs,rfl,hy,hz⟩:=AL hc;cases hz;obtain⟨p,qs,rfl,hp,hq⟩:=Au he;cases hq;cases p with
 |vptr q=>
  have h:=Ba hi hkd hy hp rfl;obtain⟨b,off,cv,hv,_⟩:=h.JR;simp only[AJ] at hs;cases hs;exact⟨_,a.eval x,rfl,rfl,by simp[execOp,ho,hv],h,fun _=>trivial⟩
 |ref id off=>
  have h:=Ba hi hkd hy hp rfl;obtain⟨b,_,hv⟩:=h.Ho;simp only[AJ] at hs;cases hs;exact⟨_,a.eval x,rfl,rfl,by simp[execOp,ho,hv],h,fun _=>trivial⟩
 |aptr id gen size i off=>
  have h:=Ba hi hkd hy hp rfl;obtain⟨b,_,_,_,hv⟩:=h.Ir;simp only[AJ] at hs;cases hs;exact⟨_,a.eval x,rfl,rfl,by simp[execOp,ho,hv],h,fun _=>trivial⟩
 |func f fs cs=>
  have h:=Ba hi hkd hy hp rfl;obtain⟨vs,ws,hv,_⟩:=h.J3;simp only[AJ] at hs;cases hs;exact⟨_,a.eval x,rfl,rfl,by simp[execOp,ho,hv],h,fun _=>trivial⟩
 |_=>simp[AJ] at hs
theorem oF(hi:Inv cx G a w A σ)(hkd:∀t,cx.kd t=fi.kind t)(hnt:cx.nt=fi.nt){o:Oper}{s t:TypeId}{k k':IntKind}{x:Operand}(ho:o.op=.convert s t x)
  (hs':P.underlying s=some (.int k')) (ht:P.underlying t=some (.int k))
  {az:List Ct} (hc:Aq fi [x]=some az) (hd:BA fi o.dst=true) (hrun:BV pur call { dst:=o.dst,k:=.p (.cvt k),args:=az } A σ=some (A',σ')):Gives P cx o a w A' σ':=by
 refine F3 hi hkd hnt hd hrun fun vs rs he hs=>?_
 obtain⟨y,zs,rfl,hy,hz⟩:=AL hc;cases hz;obtain⟨p,qs,rfl,hp,hq⟩:=Au he;cases hq;cases p with
 |int j n=>
  have hv:=(Ba hi hkd hy hp rfl).Db;simp only[AJ] at hs;cases hs;exact⟨_,.int k (k.wrap n),rfl,rfl,by simp[execOp,ho,hv,convert,underlying,hs',ht,Conv.intToInt],.one (.inl (.int _ _)),fun _=>trivial⟩
 |_=>simp[AJ] at hs
end
end Go.Abs

namespace Go.Abs
open Go.RowKit
section
variable{P:Program}{pur:FuncId→Bool}{call:Caller}{fi:FI}{cx:Cx}{G:Gh}{a:Act}{w:World}{A A':Frm}{σ σ':Sto}
theorem X4{xs:List Operand}{az:List Ct}(hc:Aq fi xs=some az){p:PV}(he:BJ A az=some [p]):
  ∃x y,xs=[x]∧az=[y]∧EK fi x=some y∧BJ A [y]=some [p]:=by
 cases xs with
 |nil=>cases hc;cases he
 |cons x xs=>
  obtain⟨y,zs,rfl,hy,hz⟩:=AL hc;obtain⟨q,qs,e,hq,hqs⟩:=Au he;cases e;cases xs with
  |nil=>cases hz;exact⟨x,y,rfl,rfl,hy,hq⟩
  |cons x' xs=>
   obtain⟨y',zs',rfl,_,_⟩:=AL hz;obtain⟨_,_,e,_,_⟩:=Au hqs;cases e
theorem Us{xs:List Operand}{az:List Ct}(hc:Aq fi xs=some az){p q:PV}(he:BJ A az=some [p,q]):
  ∃x x' y y',xs=[x,x']∧az=[y,y']∧EK fi x=some y∧EK fi x'=some y'∧BJ A [y]=some [p]∧BJ A [y']=some [q]:=by
 cases xs with
 |nil=>cases hc;cases he
 |cons x xs=>
  obtain⟨y,zs,rfl,hy,hz⟩:=AL hc;obtain⟨_,qs,e,hq,hqs⟩:=Au he;cases e;obtain⟨x',y',rfl,rfl,h1,h2⟩:=X4 hz hqs;exact⟨x,x',y,y',rfl,rfl,hy,h1,hq,h2⟩
theorem PP(op:BinOp)(t:TypeId)(x y:Operand)(k k':IntKind)(n m:Int):(eqGuard op t x y (.int k n) (.int k' m)).run P w=.ok () w:=by
 cases op<;>rfl
theorem PG(op:BinOp)(t:TypeId)(x y:Operand)(s s':ByteArray):(eqGuard op t x y (.string s) (.string s')).run P w=.ok () w:=by
 cases op<;>rfl
theorem Oy(op:BinOp)(t:TypeId)(x y:Operand)(s s':Bool):(eqGuard op t x y (.bool s) (.bool s')).run P w=.ok () w:=by
 cases op<;>rfl
theorem Ox(op:BinOp)(t:TypeId)(x y:Operand)(f:Fn)(vs ws:Array Value):(eqGuard op t x y (.func f vs ws) .nilFunc).run P w=.ok () w:=by
 cases op<;>rfl
theorem Ow(op:BinOp)(t:TypeId)(x y:Operand):(eqGuard op t x y .nilFunc .nilFunc).run P w=.ok () w:=by
 cases op<;>rfl
theorem SL(op:BinOp)(t:TypeId)(k k':IntKind)(n m:Int):Go.binOp op t (.int k n) (.int k' m)=Go.binOp op 0 (.int k n) (.int k' m):=by
 cases op<;>rfl
theorem iA{op:BinOp}{t:TypeId}{k:IntKind}{n m:Int}{p:PV}(h:X0 op k n m=some p):∃v,(Go.binOp op t (.int k n) (.int k m)).run P w=.ok v w∧Rep G.I w v p∧∀sz es,p≠.slice true sz es:=by
 have gen:(match Go.binOp op 0 (.int k n) (.int k m) with | .pure (.int k' n)=>some (PV.int k' n) | _=>none)=some p→∃v,(Go.binOp op t (.int k n) (.int k m)).run P w=.ok v w∧Rep G.I w v p∧∀sz es,p≠.slice true sz es:=by
  intro h;rw[SL]
  split at h
  ·rename_i k' n' he;cases h;rw[he];exact⟨_,rfl,.int _ _,by simp⟩
  ·cases h
 cases op<;>simp only[X0] at h<;>first
  |exact gen h
  |(cases h;exact⟨.int _ _,by simp[Go.binOp,Op.intArith];rfl,.int _ _,by simp⟩)
  |(cases h;exact⟨.int _ _,by simp[Go.binOp,Op.intArith],.int _ _,by simp⟩)
  |(cases h;exact⟨.bool _,by simp[Go.binOp,Op.intCmp];rfl,.bool _,by simp⟩)
  |(cases h;exact⟨.bool _,by simp[Go.binOp,Op.intCmp],.bool _,by simp⟩)
theorem data_append(x y:ByteArray):(x++y).data.toList=x.data.toList++y.data.toList:=by
 simp
theorem iy{op:BinOp}{t:TypeId}{x y:ByteArray}{p:PV}(h:qz op x.data.toList y.data.toList=some p):∃v,(Go.binOp op t (.string x) (.string y)).run P w=.ok v w∧Rep G.I w v p∧∀sz es,p≠.slice true sz es:=by
 cases op with
 |add=>
  simp only[qz] at h
  split at h
  ·rename_i hl;cases h;refine⟨.string (x++y),?_,?_,by simp⟩
   ·have h1:=Lib.size_eq x;have h2:=Lib.size_eq y
    have:¬(((x.size+y.size:Nat):Int) > IntKind.i64.max):=by
     unfold jL at hl;have:IntKind.i64.max=9223372036854775807:=by decide
     rw[this];omega
    simp only[Go.binOp,Op.stringOp];rw[if_neg this];rfl
   ·rw[←data_append];exact .str _
  ·cases h
 |eql=>cases h;exact⟨.bool _,by simp only[Go.binOp,Op.stringOp,CZ];rfl,.bool _,by simp⟩
 |neq=>cases h;exact⟨.bool _,by simp only[Go.binOp,Op.stringOp,CZ];rfl,.bool _,by simp⟩
 |lss=>cases h;exact⟨.bool _,by simp only[Go.binOp,Op.stringOp,CZ];rfl,.bool _,by simp⟩
 |leq=>cases h;exact⟨.bool _,by simp only[Go.binOp,Op.stringOp,CZ];rfl,.bool _,by simp⟩
 |gtr=>cases h;exact⟨_,by simp only[Go.binOp,Op.stringOp,CZ];rfl,.bool _,by simp⟩
 |geq=>cases h;exact⟨.bool _,by simp only[Go.binOp,Op.stringOp,CZ];rfl,.bool _,by simp⟩
 |_=>simp[qz] at h
theorem run_equal_bool{t:TypeId}(ht:P.underlying t=some .bool)(x y:Bool):(Op.equal t (.bool x) (.bool y)).run P w=.ok (x==y) w:=by
 show(Op.equalIn (9999+1) t (.bool x) (.bool y)).run P w=_;generalize 9999=d;simp[Op.equalIn,underlying,ht]
theorem Lf{t:TypeId}{ps rs:Array TypeId}{va:Bool}(ht:P.underlying t=some (.func ps rs va))(f:Fn)(vs ws:Array Value):(Op.equal t (.func f vs ws) .nilFunc).run P w=.ok false w:=by
 show(Op.equalIn (9999+1) t _ _).run P w=_;generalize 9999=d;simp[Op.equalIn,underlying,ht]
theorem Le{t:TypeId}{ps rs:Array TypeId}{va:Bool}(ht:P.underlying t=some (.func ps rs va)):(Op.equal t .nilFunc .nilFunc).run P w=.ok true w:=by
 show(Op.equalIn (9999+1) t _ _).run P w=_;generalize 9999=d;simp[Op.equalIn,underlying,ht]
theorem binOp_eql{t:TypeId}{x y:Value}{b:Bool}(h:(Op.equal t x y).run P w=.ok b w)(hx:Go.binOp .eql t x y=(do pure (.bool (←Op.equal t x y)))):(Go.binOp .eql t x y).run P w=.ok (.bool b) w:=by
 rw[hx];simp only[Sem.run_bind,h,Result.andThen_ok,Sem.run_pure]
theorem binOp_neq{t:TypeId}{x y:Value}{b:Bool}(h:(Op.equal t x y).run P w=.ok b w)(hx:Go.binOp .neq t x y=(do pure (.bool (!(←Op.equal t x y))))):(Go.binOp .neq t x y).run P w=.ok (.bool !b) w:=by
 rw[hx];simp only[Sem.run_bind,h,Result.andThen_ok,Sem.run_pure]
theorem iB{op:BinOp}{t:TypeId}(ht:P.underlying t=some .bool){x y:Bool}{p:PV}(h:vQ op x y=some p):∃v,(Go.binOp op t (.bool x) (.bool y)).run P w=.ok v w∧Rep G.I w v p∧∀sz es,p≠.slice true sz es:=by
 cases op with
 |eql=>cases h;exact⟨_,binOp_eql (run_equal_bool ht x y) rfl,.bool _,by simp⟩
 |neq=>cases h;exact⟨_,binOp_neq (run_equal_bool ht x y) rfl,.bool _,by simp⟩
 |_=>simp[vQ] at h
theorem Qe(hi:Inv cx G a w A σ)(hkd:∀t,cx.kd t=fi.kind t)(hnt:cx.nt=fi.nt){o:Oper}{op:BinOp}{t yt:TypeId}{x y:Operand}(ho:o.op=.binOp op t x y yt)
  {c:Nat} (hbt:c=1→P.underlying t=some .bool) (hft:c=2→∃ps rs v,P.underlying t=some (.func ps rs v))
  {az:List Ct} (hc:Aq fi [x,y]=some az) (hd:BA fi o.dst=true) (hrun:BV pur call { dst:=o.dst,k:=.p (.bin op c),args:=az } A σ=some (A',σ')):Gives P cx o a w A' σ':=by
 refine F3 hi hkd hnt hd hrun fun vs rs he hs=>?_
 obtain⟨y1,zs,rfl,hy1,hz⟩:=AL hc;obtain⟨y2,zs,rfl,hy2,hz⟩:=AL hz;cases hz;obtain⟨p1,qs,rfl,hp1,hq⟩:=Au he;obtain⟨p2,qs,rfl,hp2,hq⟩:=Au hq;cases hq
 have fin:∀{p:PV},(eqGuard op t x y (a.eval x) (a.eval y)).run P w=.ok () w→(∃v,(Go.binOp op t (a.eval x) (a.eval y)).run P w=.ok v w∧Rep G.I w v p∧∀sz es,p≠.slice true sz es)→p.free=true→
   ∃v,(execOp a.eval o).run P w=.ok (.value v) w∧Bu G.I G.bl w v p∧∀tag,Eb G w tag v p:=by
  rintro p hg ⟨v,hr,hrep,hno⟩ hf
  exact⟨v,by simp[execOp,ho,hg,hr],.one (.inl hrep),fun _=>Lm hno⟩
 simp only[AJ] at hs
 split at hs
 case isFalse=>cases hs
 rename_i hty;obtain⟨p,hb,e⟩:=Ac.1 hs;cases e
 suffices h:(eqGuard op t x y (a.eval x) (a.eval y)).run P w=.ok () w∧∃v,(Go.binOp op t (a.eval x) (a.eval y)).run P w=.ok v w∧Rep G.I w v p∧(∀sz es,p≠.slice true sz es) by
  obtain⟨hg,v,hr,hrep,hno⟩:=h;have hfree:p.free=true:=by cases hrep<;>rfl
  obtain⟨v,h1,h2,h3⟩:=fin hg ⟨v,hr,hrep,hno⟩ hfree;exact⟨_,v,rfl,hfree,h1,h2,h3⟩
 cases p1 with
 |int k n=>
  cases p2 with
  |int k' m=>
   have e1:=(Ba hi hkd hy1 hp1 rfl).Db;have e2:=(Ba hi hkd hy2 hp2 rfl).Db;simp only[J8] at hb;rw[e1,e2];refine⟨PP ..,?_⟩
   split at hb
   ·split at hb
    ·rename_i k2 n2 hb';cases hb;exact⟨.int k2 n2,by rw[SL,hb'];rfl,.int _ _,by simp⟩
    ·cases hb
   ·split at hb
    ·rename_i hk;subst hk;exact iA hb
    ·cases hb
  |_=>simp[J8] at hb
 |str l=>
  cases p2 with
  |str l'=>
   obtain⟨s1,e1,rfl⟩:=(Ba hi hkd hy1 hp1 rfl).Gz;obtain⟨s2,e2,rfl⟩:=(Ba hi hkd hy2 hp2 rfl).Gz;simp only[J8] at hb;rw[e1,e2];exact⟨PG ..,iy hb⟩
  |_=>simp[J8] at hb
 |bool b=>
  cases p2 with
  |bool b'=>
   have e1:=(Ba hi hkd hy1 hp1 rfl).Ht;have e2:=(Ba hi hkd hy2 hp2 rfl).Ht;have htb:=hbt (by simpa [eQ] using hty)
   simp only[J8] at hb;rw[e1,e2];exact⟨Oy ..,iB htb hb⟩
  |_=>simp[J8] at hb
 |func f fs cs=>
  cases p2 with
  |nilf=>
   obtain⟨vs,ws,e1,_⟩:=(Ba hi hkd hy1 hp1 rfl).J3;have e2:=(Ba hi hkd hy2 hp2 rfl).Rb;obtain⟨ps,rs',va,htf⟩:=hft (by simpa [eQ] using hty)
   rw[e1,e2];refine⟨Ox ..,?_⟩
   cases op<;>simp[J8] at hb<;>subst hb
   ·exact⟨.bool false,binOp_eql (Lf htf ..) rfl,.bool _,by simp⟩
   ·exact⟨.bool true,binOp_neq (Lf htf ..) rfl,.bool _,by simp⟩
  |_=>simp[J8] at hb
 |nilf=>
  cases p2 with
  |nilf=>
   have e1:=(Ba hi hkd hy1 hp1 rfl).Rb;have e2:=(Ba hi hkd hy2 hp2 rfl).Rb;obtain⟨ps,rs',va,htf⟩:=hft (by simpa [eQ] using hty)
   rw[e1,e2];refine⟨Ow ..,?_⟩
   cases op<;>simp[J8] at hb<;>subst hb
   ·exact⟨.bool true,binOp_eql (Le htf) rfl,.bool _,by simp⟩
   ·exact⟨.bool false,binOp_neq (Le htf) rfl,.bool _,by simp⟩
  |_=>simp[J8] at hb
 |_=>simp[J8] at hb
end
end Go.Abs

namespace Go.Abs
open Go.RowKit
section
variable{P:Program}{pur:FuncId→Bool}{call:Caller}{fi:FI}{cx:Cx}{G:Gh}{a:Act}{w:World}{A A':Frm}{σ σ':Sto}
theorem Fb{o:Oper}{c:Call}{b:Builtin}(ho:o.op=.call c)(hb:c.callee=.builtin b):
  ∃consts,(execOp a.eval o).run P w=(builtin b c.argTypes o.type consts (c.args.map a.eval)).run P w:=by
 simp only[execOp,ho,resolve,hb,invoke,Sem.run_bind,Sem.run_pure,Result.andThen_ok];exact⟨_,rfl⟩
theorem RJ(hi:Inv cx G a w A σ)(hkd:∀t,cx.kd t=fi.kind t)(hnt:cx.nt=fi.nt){o:Oper}{k:PK}{xs:List Operand}{az:List Ct}(hd:BA fi o.dst=true)
  (hrun:BV pur call { dst:=o.dst,k:=.p k,args:=az } A σ=some (A',σ')) (hc:Aq fi xs=some az)
  {V:PV→PV→Option PV} (hk2:∀vs rs,AJ k vs=some rs→∃p q r,vs=[p,q]∧V p q=some r∧rs=[some r])
  (hsem:∀x y p q r,xs=[x,y]→V p q=some r→(p.free=true→Bu G.I G.bl w (a.eval x) p)→(q.free=true→Bu G.I G.bl w (a.eval y) q)→
   r.free=true∧∃v,(execOp a.eval o).run P w=.ok (.value v) w∧Bu G.I G.bl w v r∧∀tag,Eb G w tag v r):Gives P cx o a w A' σ':=by
 refine F3 hi hkd hnt hd hrun fun vs rs he hs=>?_
 obtain⟨p,q,r,rfl,hv,rfl⟩:=hk2 vs rs hs;obtain⟨x,x',y,y',rfl,rfl,h1,h2,h3,h4⟩:=Us hc he;obtain⟨hf,v,h5,h6,h7⟩:=hsem x x' p q r rfl hv (fun hf=>Ba hi hkd h1 h3 hf) (fun hf=>Ba hi hkd h2 h4 hf)
 exact⟨r,v,rfl,hf,h5,h6,h7⟩
theorem YV(hi:Inv cx G a w A σ)(hkd:∀t,cx.kd t=fi.kind t)(hnt:cx.nt=fi.nt){o:Oper}{k:PK}{xs:List Operand}{az:List Ct}(hd:BA fi o.dst=true)
  (hrun:BV pur call { dst:=o.dst,k:=.p k,args:=az } A σ=some (A',σ')) (hc:Aq fi xs=some az)
  {V:PV→Option PV} (hk2:∀vs rs,AJ k vs=some rs→∃p r,vs=[p]∧V p=some r∧rs=[some r])
  (hsem:∀x p r,xs=[x]→V p=some r→(p.free=true→Bu G.I G.bl w (a.eval x) p)→
   r.free=true∧∃v,(execOp a.eval o).run P w=.ok (.value v) w∧Bu G.I G.bl w v r∧∀tag,Eb G w tag v r):Gives P cx o a w A' σ':=by
 refine F3 hi hkd hnt hd hrun fun vs rs he hs=>?_
 obtain⟨p,r,rfl,hv,rfl⟩:=hk2 vs rs hs;obtain⟨x,y,rfl,rfl,h1,h3⟩:=X4 hc he;obtain⟨hf,v,h5,h6,h7⟩:=hsem x p r rfl hv (fun hf=>Ba hi hkd h1 h3 hf)
 exact⟨r,v,rfl,hf,h5,h6,h7⟩
theorem Oq{k:PK}{V:PV→PV→Option PV}(h2:∀p q,AJ k [p,q]=(V p q).map fun v=>[some v])(h0:AJ k []=none)(h1:∀p,AJ k [p]=none)(h3:∀p q r l,AJ k (p::q::r::l)=none):
  ∀vs rs,AJ k vs=some rs→∃p q r,vs=[p,q]∧V p q=some r∧rs=[some r]:=by
 intro vs rs h
 match vs with
 |[]=>rw[h0] at h;cases h
 |[p]=>rw[h1] at h;cases h
 |[p,q]=>
  rw[h2] at h;obtain⟨r,hr,e⟩:=Ac.1 h;exact⟨p,q,r,rfl,hr,e.symm⟩
 |p::q::r::l=>rw[h3] at h;cases h
theorem U1{k:PK}{V:PV→Option PV}(h1:∀p,AJ k [p]=(V p).map fun v=>[some v])(h0:AJ k []=none)(h3:∀p q l,AJ k (p::q::l)=none):
  ∀vs rs,AJ k vs=some rs→∃p r,vs=[p]∧V p=some r∧rs=[some r]:=by
 intro vs rs h
 match vs with
 |[]=>rw[h0] at h;cases h
 |[p]=>
  rw[h1] at h;obtain⟨r,hr,e⟩:=Ac.1 h;exact⟨p,r,rfl,hr,e.symm⟩
 |p::q::l=>rw[h3] at h;cases h
theorem ZA(hi:Inv cx G a w A σ)(hkd:∀t,cx.kd t=fi.kind t)(hnt:cx.nt=fi.nt){o:Oper}{c:Call}(ho:o.op=.call c)(hb:c.callee=.builtin .len){st:Bool}
  (ht:(st=true∧c.argTypes.toList.map P.underlying=[some .string])∨(st=false∧∃e,c.argTypes.toList.map P.underlying=[some (.slice e)]))
  {az:List Ct} (hc:Aq fi c.args.toList=some az) (hd:BA fi o.dst=true) (hrun:BV pur call { dst:=o.dst,k:=.p (.len st),args:=az } A σ=some (A',σ')):Gives P cx o a w A' σ':=by
 refine YV hi hkd hnt hd hrun hc (U1 (V:=Xh st) (fun _=>rfl) rfl (fun _ _ _=>rfl)) fun x p r hx hv hp=>?_
 have hx':c.args=#[x]:=by apply BZ.1;simpa using hx
 obtain⟨consts,hr⟩:=Fb (P:=P) (w:=w) (a:=a) ho hb;rw[hx'] at hr
 have htt:∃t,c.argTypes=#[t]∧((st=true∧P.underlying t=some .string)∨(st=false∧∃e,P.underlying t=some (.slice e))):=by
  rcases ht with⟨h,ht⟩ | ⟨h,e,ht⟩<;>(
   cases hl:c.argTypes.toList with
   |nil=>rw[hl] at ht;simp at ht
   |cons t r=>cases r with
    |nil=>
     rw[hl] at ht;simp at ht;refine⟨t,by apply BZ.1;simpa using hl,?_⟩
     first | exact .inl ⟨h,ht⟩ | exact .inr ⟨h,e,ht⟩
    |cons _ _=>rw[hl] at ht;simp at ht)
 obtain⟨t,htt,hu⟩:=htt;clear ht;rw[htt] at hr;cases p with
 |str l=>
  obtain⟨s,e,rfl⟩:=(hp rfl).Gz;simp only[Xh] at hv;rcases hu with⟨rfl,hu⟩ | ⟨rfl,_⟩
  ·simp at hv;subst hv;refine⟨rfl,.int .i64 s.data.toList.length,?_,.one (.inl (.int _ _)),fun _=>trivial⟩
   rw[hr,←Lib.size_eq];simp[builtin,Builtin.len_,e,underlying,hu,goInt]
  ·simp at hv
 |slice own sz es=>
  obtain⟨b,len,cap,cv,e,e1,_⟩:=(hp rfl).Gl;simp only[Xh] at hv;rcases hu with⟨rfl,_⟩ | ⟨rfl,el,hu⟩
  ·simp at hv
  ·simp at hv;subst hv;refine⟨rfl,.int .i64 es.length,?_,.one (.inl (.int _ _)),fun _=>trivial⟩
   rw[hr];simp[builtin,Builtin.len_,e,underlying,hu,goInt,e1]
 |arr id gen off len sz=>
  obtain⟨b,base,n,cap,b',o',_,_,_,_,e⟩:=(hp rfl).Gp;simp only[Xh] at hv;rcases hu with⟨rfl,_⟩ | ⟨rfl,el,hu⟩
  ·simp at hv
  ·simp at hv;subst hv;refine⟨rfl,.int .i64 len,?_,.one (.inl (.int _ _)),fun _=>trivial⟩
   rw[hr];simp[builtin,Builtin.len_,e,underlying,hu,goInt]
 |empt=>
  obtain⟨ad,e⟩:=(hp rfl).Iq;simp only[Xh] at hv;rcases hu with⟨rfl,_⟩ | ⟨rfl,el,hu⟩
  ·simp at hv
  ·simp at hv;subst hv;refine⟨rfl,.int .i64 0,?_,.one (.inl (.int _ _)),fun _=>trivial⟩
   rw[hr];simp[builtin,Builtin.len_,e,underlying,hu,goInt]
 |nils=>
  have e:=(hp rfl).FR;simp only[Xh] at hv;rcases hu with⟨rfl,_⟩ | ⟨rfl,el,hu⟩
  ·simp at hv
  ·simp at hv;subst hv;refine⟨rfl,.int .i64 0,?_,.one (.inl (.int _ _)),fun _=>trivial⟩
   rw[hr];simp[builtin,Builtin.len_,e,underlying,hu,goInt]
 |_=>simp[Xh] at hv
theorem gG(hi:Inv cx G a w A σ)(hkd:∀t,cx.kd t=fi.kind t)(hnt:cx.nt=fi.nt){o:Oper}{c:Call}(ho:o.op=.call c)(hb:c.callee=.builtin .cap)
  (ht:∃e,c.argTypes.toList.map P.underlying=[some (.slice e)])
  {az:List Ct} (hc:Aq fi c.args.toList=some az) (hd:BA fi o.dst=true) (hrun:BV pur call { dst:=o.dst,k:=.p .cap0,args:=az } A σ=some (A',σ')):Gives P cx o a w A' σ':=by
 refine YV hi hkd hnt hd hrun hc (U1 (V:=fun x=>match x with | .nils | .empt=>some (.int .i64 0) | _=>none) (fun p=>by cases p<;>rfl) rfl (fun _ _ _=>rfl)) fun x p r hx hv hp=>?_
 have hx':c.args=#[x]:=by apply BZ.1;simpa using hx
 obtain⟨consts,hr⟩:=Fb (P:=P) (w:=w) (a:=a) ho hb;rw[hx'] at hr;obtain⟨el,ht⟩:=ht
 have htt:∃t,c.argTypes=#[t]∧P.underlying t=some (.slice el):=by
  cases hl:c.argTypes.toList with
  |nil=>rw[hl] at ht;simp at ht
  |cons t r=>cases r with
   |nil=>
    rw[hl] at ht;simp at ht;exact⟨t,by apply BZ.1;simpa using hl,ht⟩
   |cons _ _=>rw[hl] at ht;simp at ht
 obtain⟨t,htt,hu⟩:=htt;rw[htt] at hr;cases p with
 |nils=>
  have e:=(hp rfl).FR;cases hv;refine⟨rfl,.int .i64 0,?_,.one (.inl (.int _ _)),fun _=>trivial⟩
  rw[hr];simp[builtin,Builtin.cap_,e,underlying,hu,goInt]
 |empt=>
  obtain⟨ad,e⟩:=(hp rfl).Iq;cases hv;refine⟨rfl,.int .i64 0,?_,.one (.inl (.int _ _)),fun _=>trivial⟩
  rw[hr];simp[builtin,Builtin.cap_,e,underlying,hu,goInt]
 |_=>simp at hv
theorem nU(hi:Inv cx G a w A σ)(hkd:∀t,cx.kd t=fi.kind t)(hnt:cx.nt=fi.nt){o:Oper}{c:Call}(ho:o.op=.call c)(hb:c.callee=.builtin .min)
  {az:List Ct} (hc:Aq fi c.args.toList=some az) (hd:BA fi o.dst=true) (hrun:BV pur call { dst:=o.dst,k:=.p .min,args:=az } A σ=some (A',σ')):Gives P cx o a w A' σ':=by
 refine RJ hi hkd hnt hd hrun hc (Oq (V:=jI) (fun _ _=>rfl) rfl (fun _=>rfl) (fun _ _ _ _=>rfl)) fun x y p q r hx hv hp hq=>?_
 have hx':c.args=#[x,y]:=by apply BZ.1;simpa using hx
 obtain⟨consts,hr⟩:=Fb (P:=P) (w:=w) (a:=a) ho hb;rw[hx'] at hr;cases p with
 |int k n=>cases q with
  |int k' m=>
   simp only[jI] at hv;cases hv;have e1:=(hp rfl).Db;have e2:=(hq rfl).Db;exact⟨rfl,.int k (if m<n then m else n),by rw[hr];simp[builtin,Builtin.min_,Builtin.min2,e1,e2],.one (.inl (.int _ _)),fun _=>trivial⟩
  |_=>simp[jI] at hv
 |_=>simp[jI] at hv
theorem nV(hi:Inv cx G a w A σ)(hkd:∀t,cx.kd t=fi.kind t)(hnt:cx.nt=fi.nt){o:Oper}{c:Call}(ho:o.op=.call c)(hb:c.callee=.builtin .max)
  {az:List Ct} (hc:Aq fi c.args.toList=some az) (hd:BA fi o.dst=true) (hrun:BV pur call { dst:=o.dst,k:=.p .max,args:=az } A σ=some (A',σ')):Gives P cx o a w A' σ':=by
 refine RJ hi hkd hnt hd hrun hc (Oq (V:=jK) (fun _ _=>rfl) rfl (fun _=>rfl) (fun _ _ _ _=>rfl)) fun x y p q r hx hv hp hq=>?_
 have hx':c.args=#[x,y]:=by apply BZ.1;simpa using hx
 obtain⟨consts,hr⟩:=Fb (P:=P) (w:=w) (a:=a) ho hb;rw[hx'] at hr;cases p with
 |int k n=>cases q with
  |int k' m=>
   simp only[jK] at hv;cases hv;have e1:=(hp rfl).Db;have e2:=(hq rfl).Db;exact⟨rfl,.int k (if n<m then m else n),by rw[hr];simp[builtin,Builtin.max_,Builtin.max2,e1,e2],.one (.inl (.int _ _)),fun _=>trivial⟩
  |_=>simp[jK] at hv
 |_=>simp[jK] at hv
theorem fV(hi:Inv cx G a w A σ)(hkd:∀t,cx.kd t=fi.kind t)(hnt:cx.nt=fi.nt){o:Oper}{t:TypeId}{x y:Operand}(ho:o.op=.index t x y)(ht:P.underlying t=some .string)
  {az:List Ct} (hc:Aq fi [x,y]=some az) (hd:BA fi o.dst=true) (hrun:BV pur call { dst:=o.dst,k:=.p .sidx,args:=az } A σ=some (A',σ')):Gives P cx o a w A' σ':=by
 refine RJ hi hkd hnt hd hrun hc (Oq (V:=Wi) (fun _ _=>rfl) rfl (fun _=>rfl) (fun _ _ _ _=>rfl)) fun x' y' p q r hx hv hp hq=>?_
 cases hx;cases p with
 |str l=>cases q with
  |int k i=>
   obtain⟨s,e1,rfl⟩:=(hp rfl).Gz;have e2:=(hq rfl).Db;simp only[Wi] at hv
   split at hv
   ·rename_i h0;obtain⟨b,hb,rfl⟩:=Ac.1 hv;refine⟨rfl,.int .u8 b.toNat,?_,.one (.inl (.int _ _)),fun _=>trivial⟩
    have hlt:=(Ab.1 hb).1;have hsz:=Lib.size_eq s;have hlt':i.toNat<s.size:=by omega
    have hget:s[i.toNat]?=some b:=by
     rw[getElem?_pos s i.toNat hlt']
     have:=(Ab.1 hb).2;rw[←this];rfl
    simp[execOp,ho,Instr.index,e1,e2,asIntOf,underlying,ht,h0,hget]
   ·cases hv
  |_=>simp[Wi] at hv
 |_=>simp[Wi] at hv
end
end Go.Abs

namespace Go.Abs
open Go.RowKit
section
variable{P:Program}{pur:FuncId→Bool}{call:Caller}{fi:FI}{cx:Cx}{G:Gh}{a:Act}{w:World}{A A':Frm}{σ σ':Sto}
theorem F6.jG{bl:Bl}{v:Value}{p:PV}(h:F6 bl v p):p.flat=false:=by cases h<;>rfl
theorem F6.Q9{bl:Bl}{v:Value}{p:PV}(h:F6 bl v p):p.LP=false:=by cases h<;>rfl
theorem Fh(b off n:Nat):Addr.add ⟨b,off,none⟩ n=⟨b,off+n,none⟩:=by
 unfold Addr.add;split
 ·rename_i h;simp[h]
 ·rfl
theorem Bu.flat{I:Imm}{bl:Bl}{v:Value}{p:PV}(h:Bu I bl w v p)(hf:p.flat=true):Rep I w v p:=by
 cases h with
 |one h=>
  rcases h with h | h
  ·exact h
  ·rw[h.jG] at hf;cases hf
 |@func f fs cs first cap h1 h2 hf' hc=>
  simp only[PV.flat,Ak,Ao] at hf;refine .func h1 h2 (fun i p hp=>?_) (fun i p hp=>?_)
  ·rcases hf' i p hp with h | h
   ·exact h
   ·have:=hf.1 _ (AA hp);rw[h.Q9] at this;cases this
  ·rcases hc i p hp with h | h
   ·exact h
   ·have:=hf.2 _ (AA hp);rw[h.Q9] at this;cases this
 |tuple h hr=>
  simp only[PV.flat,Ao] at hf;refine .tuple h fun i p hp=>?_
  rcases hr i p hp with(h | h) | ⟨_,_,_,rfl,_⟩
  ·exact h
  ·have:=hf _ (AA hp);rw[h.Q9] at this;cases this
  ·have:=hf _ (AA hp);cases this
 |aggr _ _=>cases hf
theorem Bu.iJ{I:Imm}{bl:Bl}{v:Value}{p:PV}(h:Bu I bl w v p)(hf:(p.flat||p.EF)=true):GL I bl w v p:=by
 rcases Bool.or_eq_true_iff.1 hf with hf | hf
 ·exact .inl (h.flat hf)
 ·cases h with
  |one h=>exact h
  |func _ _ _ _=>cases hf
  |tuple _ _=>cases hf
  |aggr _ _=>cases hf
theorem PW{p:PV}(h:(p.flat||p.EF)=true):p.free=true:=by
 cases p<;>first | rfl | simp[PV.flat,PV.EF] at h
theorem IZ{x:Value}{k:IntKind}{i:Int}{y:Nat}{c:BoundsCode}(hx:x=.int k i)(h0:0≤i)(h1:i≤y):(Instr.sliceBound x y c).run P w=.ok i.toNat w:=by
 subst hx;simp[Instr.sliceBound,asIntOf,h0,h1]
theorem I9{isSlice:Bool}{n cap:Nat}(hcap:n≤cap){lo hi:Option Operand}{bs:List PV}{l h:Nat}(hb:Tt lo.isSome hi.isSome n bs=some (l,h))
  (hrep:∀(i:Nat) (x:Operand) (p:PV),(lo.toList++hi.toList)[i]?=some x→bs[i]?=some p→p.free=true→Bu G.I G.bl w (a.eval x) p) :
  (Instr.sliceBounds isSlice n cap (lo.map a.eval) (hi.map a.eval) none).run P w=.ok (l,h,cap) w∧l≤h∧h≤n:=by
 unfold Tt at hb
 split at hb
 ·rename_i k1 l' k2 h' e1 e2;obtain⟨x,rfl⟩:=CW.1 e1;obtain⟨y,rfl⟩:=CW.1 e2
  split at hb
  ·rename_i hc;cases hb;obtain⟨c1,c2,c3⟩:=hc;have r1:=(hrep 0 x (.int k1 l') rfl rfl rfl).Db;have r2:=(hrep 1 y (.int k2 h') rfl rfl rfl).Db;refine⟨?_,by omega,by omega⟩
   simp only[Instr.sliceBounds,Ay,Sem.run_bind,Sem.run_pure,Result.andThen_ok];rw[IZ r2 (by omega) (by omega),Result.andThen_ok,IZ r1 c1 (by omega)]
   rfl
  ·cases hb
 ·rename_i k1 l' e1 e2;obtain⟨x,rfl⟩:=CW.1 e1;cases hi with
  |some y=>simp at e2
  |none=>
   split at hb
   ·rename_i hc;cases hb;obtain⟨c1,c2⟩:=hc;have r1:=(hrep 0 x (.int k1 l') rfl rfl rfl).Db;refine⟨?_,by omega,by omega⟩
    simp only[Instr.sliceBounds,Ay,Option.map_none,Sem.run_bind,Sem.run_pure,Result.andThen_ok];rw[IZ r1 c1 (by omega)]
    rfl
   ·cases hb
 ·rename_i k1 h' e1 e2;obtain⟨y,rfl⟩:=CW.1 e2;cases lo with
  |some y=>simp at e1
  |none=>
   split at hb
   ·rename_i hc;cases hb;obtain⟨c1,c2⟩:=hc;have r1:=(hrep 0 y (.int k1 h') rfl rfl rfl).Db;refine⟨?_,by omega,by omega⟩
    simp only[Instr.sliceBounds,Ay,Option.map_none,Sem.run_bind,Sem.run_pure,Result.andThen_ok];rw[IZ r1 c1 (by omega)]
    rfl
   ·cases hb
 ·rename_i e1 e2;cases hb;cases lo with
  |some y=>simp at e1
  |none=>cases hi with
   |some y=>simp at e2
   |none=>exact⟨rfl,by omega,by omega⟩
 ·cases hb
theorem RI(hi:Inv cx G a w A σ)(hkd:∀t,cx.kd t=fi.kind t)(hnt:cx.nt=fi.nt){o:Oper}{k:PK}{xs:List Operand}{az:List Ct}(hd:BA fi o.dst=true)
  (hrun:BV pur call { dst:=o.dst,k:=.p k,args:=az } A σ=some (A',σ')) (hc:Aq fi xs=some az)
  (hsem:∀vs rs,AJ k vs=some rs→xs.length=vs.length→(∀(i:Nat) (x:Operand) (p:PV),xs[i]?=some x→vs[i]?=some p→p.free=true→Bu G.I G.bl w (a.eval x) p)→
   ∃r v,rs=[some r]∧r.free=true∧(execOp a.eval o).run P w=.ok (.value v) w∧Bu G.I G.bl w v r∧∀tag,Eb G w tag v r):Gives P cx o a w A' σ':=by
 refine F3 hi hkd hnt hd hrun fun vs rs he hs=>?_
 have key:∀{xs:List Operand} {az:List Ct},Aq fi xs=some az→∀{vs:List PV},BJ A az=some vs→
   xs.length=vs.length∧∀(i:Nat) (x:Operand) (p:PV),xs[i]?=some x→vs[i]?=some p→p.free=true→Bu G.I G.bl w (a.eval x) p:=by
  intro xs
  induction xs with
  |nil=>intro az h vs h';cases h;cases h';exact⟨rfl,fun i x p h=>by simp at h⟩
  |cons x xs ih=>
   intro az h vs h';obtain⟨y,zs,rfl,h1,h2⟩:=AL h;obtain⟨p,qs,rfl,h3,h4⟩:=Au h';obtain⟨hl,hr⟩:=ih h2 h4;refine⟨by simp[hl],fun i x' p' hx hp hf=>?_⟩
   cases i with
   |zero=>simp at hx hp;subst hx hp;exact Ba hi hkd h1 h3 hf
   |succ i=>exact hr i x' p' (by simpa using hx) (by simpa using hp) hf
 obtain⟨hl,hr⟩:=key hc he;obtain⟨r,v,h1,h2⟩:=hsem vs rs hs hl hr;exact⟨r,v,h1,h2⟩
theorem nK(hi:Inv cx G a w A σ)(hkd:∀t,cx.kd t=fi.kind t)(hnt:cx.nt=fi.nt){o:Oper}{t:TypeId}{x:Operand}{lo hi':Option Operand}(ho:o.op=.slice t x lo hi' none)
  (ht:P.underlying t=some .string)
  {az:List Ct} (hc:Aq fi (x::(lo.toList++hi'.toList))=some az) (hd:BA fi o.dst=true) (hrun:BV pur call { dst:=o.dst,k:=.p (.ssl lo.isSome hi'.isSome),args:=az } A σ=some (A',σ')):Gives P cx o a w A' σ':=by
 refine RI hi hkd hnt hd hrun hc fun vs rs hs hl hrep=>?_
 match vs,hl with
 |p::bs,_=>
  cases p with
  |str l=>
   obtain⟨s,e,rfl⟩:=(hrep 0 x _ rfl rfl rfl).Gz;simp only[AJ] at hs;obtain⟨⟨l,h⟩,hb,e'⟩:=Ac.1 hs;cases e';rw[←Lib.size_eq] at hb;obtain⟨hr,h1,h2⟩:=I9 (P:=P) (G:=G) (a:=a) (w:=w) (isSlice:=false) (cap:=s.size) (Be _) hb (fun i x p hx hp hf=>hrep (i+1) x p (by simpa using hx) (by simpa using hp) hf)
   refine⟨_,.string (s.extract l h),rfl,rfl,?_,?_,fun _=>trivial⟩
   ·simp[execOp,ho,Instr.sliceAt,Instr.slice,underlying,ht,e,hr]
   ·rw[←Lib.extract_data];exact .one (.inl (.str _))
  |_=>simp[AJ] at hs
 |[],hl=>simp at hl
theorem nD(hi:Inv cx G a w A σ)(hkd:∀t,cx.kd t=fi.kind t)(hnt:cx.nt=fi.nt){o:Oper}{t e:TypeId}{x:Operand}{lo hi':Option Operand}(ho:o.op=.slice t x lo hi' none)
  (ht:P.underlying t=some (.slice e)) {size:Nat} {ag:Bool} (hsz:Ci P e=some (size,ag))
  {az:List Ct} (hc:Aq fi (x::(lo.toList++hi'.toList))=some az) (hd:BA fi o.dst=true) (hrun:BV pur call { dst:=o.dst,k:=.p (.vsl size lo.isSome hi'.isSome),args:=az } A σ=some (A',σ')):Gives P cx o a w A' σ':=by
 refine RI hi hkd hnt hd hrun hc fun vs rs hs hl hrep=>?_
 match vs,hl with
 |p::bs,_=>
  cases p with
  |slice own sz es=>
   obtain⟨ad,len,cap,cv,ev,e1,e2,e3,e4,e5,e6,e7⟩:=(hrep 0 x _ rfl rfl rfl).Gl;simp only[AJ] at hs
   split at hs
   ·rename_i hsz';subst hsz';obtain⟨⟨l,h⟩,hb,e'⟩:=Ac.1 hs;cases e';rw[←e1] at hb;obtain⟨hr,h1,h2⟩:=I9 (P:=P) (G:=G) (a:=a) (w:=w) (isSlice:=true) (cap:=cap) e2 hb (fun i x p hx hp hf=>hrep (i+1) x p (by simpa using hx) (by simpa using hp) hf)
    have hsize:(sizeOf e).run P w=.ok sz w:=by
     unfold Ci at hsz
     split at hsz
     ·rename_i i d hi hd;cases hsz;simp[sizeOf,typeInfo,hi]
     ·cases hsz
    have hget:∀i el,((es.drop l).take (h - l))[i]?=some el→i<h - l∧es[l+i]?=some el:=by
     intro i el hel;rw[BQ] at hel
     split at hel
     ·rename_i hlt;rw[BN] at hel;exact⟨hlt,hel⟩
     ·cases hel
    refine⟨_,.slice (if cap=l then some ad else(some ad).map (·.add (l * sz))) (h - l) (cap - l),rfl,rfl,?_,?_,fun _=>trivial⟩
    ·simp[execOp,ho,Instr.sliceAt,Instr.slice,underlying,ht,ev,hr,hsize]
    ·refine .one (.inl ?_)
     have hlen:h - l=((es.drop l).take (h - l)).length:=by
      rw[Bj,CX];omega
     by_cases hcl:cap=l
     ·rw[if_pos hcl];have h0:h - l=0:=by omega
      have hemp:(es.drop l).take (h - l)=[]:=by rw[h0];simp
      rw[hemp] at hlen ⊢;exact .slice (fun i j=>cv (l+i) j) hlen (by omega) (fun hne=>absurd rfl hne) (fun i e h=>by simp at h) (fun i e j p h=>by simp at h) (fun i e j p h=>by simp at h) (fun i e j p h=>by simp at h)
     ·rw[if_neg hcl];simp only[Ay]
      have hadd:es≠[]→ad.add (l * sz)=⟨ad.block,ad.off+l * sz,none⟩:=by
       intro hne;have hsp:=e3 hne;unfold Addr.add;split
       ·rename_i h0;rw[h0];cases ad;dsimp only at hsp;rw[hsp];rfl
       ·rfl
      have hblk:(ad.add (l * sz)).block=ad.block∧(ad.add (l * sz)).off=ad.off+l * sz:=by
       unfold Addr.add;split
       ·rename_i h0;simp[h0]
       ·exact⟨rfl,rfl⟩
      refine .slice (fun i j=>cv (l+i) j) hlen (by omega) (fun hne=>?_) ?_ ?_ ?_ ?_
      ·have:es≠[]:=by intro h0;rw[h0] at hne;simp at hne
       rw[hadd this]
      ·intro i el hel;exact e4 _ _ (hget i el hel).2
      ·intro i el j q hel hq;rw[hblk.1,hblk.2];have:=e5 _ _ j q (hget i el hel).2 hq;rw[BS] at this;rw[show ad.off+l * sz+i * sz+j=ad.off+(l * sz+i * sz)+j from by omega];exact this
      ·intro i el j q hel hq;rw[hblk.1,hblk.2];have:=e6 _ _ j q (hget i el hel).2 hq;rw[BS] at this;rw[show ad.off+l * sz+i * sz+j=ad.off+(l * sz+i * sz)+j from by omega];exact this
      ·intro i el j q hel hq;exact e7 _ _ j q (hget i el hel).2 hq
   ·cases hs
  |arr id gen off len sz=>
   obtain⟨b,base,n,cap,b',o',e1,e2,e3,e4,ev⟩:=(hrep 0 x _ rfl rfl rfl).Gp;simp only[AJ] at hs
   split at hs
   ·rename_i hsz';subst hsz';obtain⟨⟨l,h⟩,hb,e'⟩:=Ac.1 hs;cases e';obtain⟨hr,h1,h2⟩:=I9 (P:=P) (G:=G) (a:=a) (w:=w) (isSlice:=true) (cap:=cap) e2 hb (fun i x p hx hp hf=>hrep (i+1) x p (by simpa using hx) (by simpa using hp) hf)
    have hsize:(sizeOf e).run P w=.ok sz w:=by
     unfold Ci at hsz
     split at hsz
     ·rename_i i d hi hd;cases hsz;simp[sizeOf,typeInfo,hi]
     ·cases hsz
    by_cases hcl:cap=l
    ·subst hcl;refine⟨_,.slice (some ⟨b',o',none⟩) (h - cap) (cap - cap),rfl,rfl,?_,?_,fun _=>trivial⟩
     ·simp[execOp,ho,Instr.sliceAt,Instr.slice,underlying,ht,ev,hr,hsize]
     ·refine .one (.inr (.arr e1 (by omega) ?_ (by omega)))
      show base+(off+cap+(cap - cap)) * sz≤n;rw[show off+cap+(cap - cap)=off+cap by omega];exact e3
    ·refine⟨_,.slice (some ⟨b',o'+l * sz,none⟩) (h - l) (cap - l),rfl,rfl,?_,?_,fun _=>trivial⟩
     ·simp[execOp,ho,Instr.sliceAt,Instr.slice,underlying,ht,ev,hr,hsize,hcl,Fh]
     ·refine .one (.inr (.arr e1 (by omega) ?_ (fun hc=>?_)))
      ·show base+(off+l+(cap - l)) * sz≤n;rw[show off+l+(cap - l)=off+cap by omega];exact e3
      ·obtain⟨rfl,rfl⟩:=e4 (by omega)
       refine⟨rfl,?_⟩
       show base+off * sz+l * sz=base+(off+l) * sz;rw[BS];omega
   ·cases hs
  |nils=>
   have ev:=(hrep 0 x _ rfl rfl rfl).FR;simp only[AJ] at hs;obtain⟨⟨l,h⟩,hb,e'⟩:=Ac.1 hs;cases e';obtain⟨hr,h1,h2⟩:=I9 (P:=P) (G:=G) (a:=a) (w:=w) (isSlice:=true) (cap:=0) (Be _) hb (fun i x p hx hp hf=>hrep (i+1) x p (by simpa using hx) (by simpa using hp) hf)
   have hsize:(sizeOf e).run P w=.ok size w:=by
    unfold Ci at hsz
    split at hsz
    ·rename_i i d hi hd;cases hsz;simp[sizeOf,typeInfo,hi]
    ·cases hsz
   obtain⟨rfl,rfl⟩:l=0∧h=0:=by omega
   exact⟨_,.slice none 0 0,rfl,rfl,by simp[execOp,ho,Instr.sliceAt,Instr.slice,underlying,ht,ev,hr,hsize],.one (.inl .nils),fun _=>trivial⟩
  |empt=>
   obtain⟨ad,ev⟩:=(hrep 0 x _ rfl rfl rfl).Iq;simp only[AJ] at hs;obtain⟨⟨l,h⟩,hb,e'⟩:=Ac.1 hs;cases e';obtain⟨hr,h1,h2⟩:=I9 (P:=P) (G:=G) (a:=a) (w:=w) (isSlice:=true) (cap:=0) (Be _) hb (fun i x p hx hp hf=>hrep (i+1) x p (by simpa using hx) (by simpa using hp) hf)
   have hsize:(sizeOf e).run P w=.ok size w:=by
    unfold Ci at hsz
    split at hsz
    ·rename_i i d hi hd;cases hsz;simp[sizeOf,typeInfo,hi]
    ·cases hsz
   obtain⟨rfl,rfl⟩:l=0∧h=0:=by omega
   exact⟨_,.slice (some ad) 0 0,rfl,rfl,by simp[execOp,ho,Instr.sliceAt,Instr.slice,underlying,ht,ev,hr,hsize],.one (.inl .empt),fun _=>trivial⟩
  |_=>simp[AJ] at hs
 |[],hl=>simp at hl
theorem gF(hi:Inv cx G a w A σ)(hkd:∀t,cx.kd t=fi.kind t)(hnt:cx.nt=fi.nt){o:Oper}{t e:TypeId}{x:Operand}{k1 k2:IntKind}(ho:o.op=.slice t x none (some (.const (.int k1 0))) (some (.const (.int k2 0))))
  (ht:P.underlying t=some (.slice e)) {size:Nat} {ag:Bool} (hsz:Ci P e=some (size,ag))
  {az:List Ct} (hc:Aq fi [x]=some az) (hd:BA fi o.dst=true) (hrun:BV pur call { dst:=o.dst,k:=.p .cut0,args:=az } A σ=some (A',σ')):Gives P cx o a w A' σ':=by
 refine RI hi hkd hnt hd hrun hc fun vs rs hs hl hrep=>?_
 have hsize:(sizeOf e).run P w=.ok size w:=by
  unfold Ci at hsz
  split at hsz
  ·rename_i i d hi hd;cases hsz;simp[sizeOf,typeInfo,hi]
  ·cases hsz
 have hbd:∀len cap,(Instr.sliceBounds true len cap none (some (.int k1 0)) (some (.int k2 0))).run P w=.ok (0,0,0) w:=by
  intro len cap;simp only[Instr.sliceBounds,Sem.run_bind,Sem.run_pure,Result.andThen_ok];rw[IZ rfl (by omega) (by omega),Result.andThen_ok,IZ rfl (by omega) (by omega)]
  rfl
 have hgen:∀(ad:Option Addr) (len cap:Nat),a.eval x=.slice ad len cap→(execOp a.eval o).run P w=.ok (.value (.slice ad 0 0)) w:=by
  intro ad len cap ev;have h1:a.eval (.const (.int k1 0))=.int k1 0:=rfl;have h2:a.eval (.const (.int k2 0))=.int k2 0:=rfl;simp[execOp,ho,Instr.sliceAt,Instr.slice,underlying,ht,ev,hbd,hsize,h1,h2]
 match vs,hl with
 |[p],_=>
  cases p with
  |nils=>
   have ev:=(hrep 0 x _ rfl rfl rfl).FR;cases hs;exact⟨_,_,rfl,rfl,hgen _ _ _ ev,.one (.inl .nils),fun _=>trivial⟩
  |slice own sz es=>
   obtain⟨ad,len,cap,cv,ev,_⟩:=(hrep 0 x _ rfl rfl rfl).Gl;cases hs;exact⟨_,_,rfl,rfl,hgen _ _ _ ev,.one (.inl .empt),fun _=>trivial⟩
  |arr id gen off len sz=>
   obtain⟨b,base,n,cap,b',o',_,_,_,_,ev⟩:=(hrep 0 x _ rfl rfl rfl).Gp;cases hs;exact⟨_,_,rfl,rfl,hgen _ _ _ ev,.one (.inl .empt),fun _=>trivial⟩
  |empt=>
   obtain⟨ad,ev⟩:=(hrep 0 x _ rfl rfl rfl).Iq;cases hs;exact⟨_,_,rfl,rfl,hgen _ _ _ ev,.one (.inl .empt),fun _=>trivial⟩
  |_=>simp[AJ] at hs
 |[],hl=>simp at hl
 |_::_::_,hl=>simp at hl
end
end Go.Abs

namespace Go.Abs
open Go.RowKit
section
variable{P:Program}{pur:FuncId→Bool}{call:Caller}{fi:FI}{cx:Cx}{G:Gh}{a:Act}{w:World}{A A':Frm}{σ σ':Sto}
theorem GL.Ag{I:Imm}{bl:Bl}{v:Value}{p:PV}(h:GL I bl w v p):GL I bl w v p.Ag:=by
 rcases h with h | h
 ·exact .inl h.Ag
 ·exact .inr (by rw[h.Ag];exact h)
theorem MS(xs:Array Operand)(i:Nat)(x:Operand)(h:xs.toList[i]?=some x)(f:Operand→Value):(xs.map f).getD i undef=f x:=by
 rw[Ah,Eu];rw[Aw] at h;rw[h];rfl
theorem nS(hi:Inv cx G a w A σ)(hkd:∀t,cx.kd t=fi.kind t)(hnt:cx.nt=fi.nt){o:Oper}{f:FuncId}{first cap:Array Operand}(ho:o.op=.makeFunc (.func f) first cap)
  {az:List Ct} (hc:Aq fi (first.toList++cap.toList)=some az) (hd:BA fi o.dst=true) (hrun:BV pur call { dst:=o.dst,k:=.p (.mkf f first.size),args:=az } A σ=some (A',σ')):Gives P cx o a w A' σ':=by
 refine RI hi hkd hnt hd hrun hc fun vs rs hs hl hrep=>?_
 simp only[AJ] at hs
 split at hs
 ·rename_i hall;cases hs;rw[Ao] at hall;have hlen:first.size+cap.size=vs.length:=by simpa using hl
  have key:∀(i:Nat) (x:Operand) (p:PV),(first.toList++cap.toList)[i]?=some x→vs[i]?=some p→GL G.I G.bl w (a.eval x) p.Ag:=by
   intro i x p hx hp;have hm:=hall p (AA hp);exact((hrep i x p hx hp (PW hm)).iJ hm).Ag
  refine⟨_,.func (.func f) (first.map a.eval) (cap.map a.eval),rfl,rfl,by simp[execOp,ho,Instr.makeFunc],?_,fun _=>trivial⟩
  refine .func (by simp;omega) (by simp;omega) (fun i p hp=>?_) (fun i p hp=>?_)
  ·rw[BQ] at hp
   split at hp
   ·rename_i hlt;rw[Af] at hp;obtain⟨q,hq,rfl⟩:=Ac.1 hp;have hx:first.toList[i]?=some first[i]:=by rw[Aw];exact Az hlt
    rw[MS _ _ _ hx];exact key i _ q (by rw[Ae (by simpa using hlt)];exact hx) hq
   ·cases hp
  ·rw[BN,Af] at hp;obtain⟨q,hq,rfl⟩:=Ac.1 hp;have hlt:i<cap.size:=by have:=(Ab.1 hq).1;omega
   have hx:cap.toList[i]?=some cap[i]:=by rw[Aw];exact Az hlt
   rw[MS _ _ _ hx];exact key (first.size+i) _ q (by rw[Al (by simp)];simp at hx ⊢) hq
 ·cases hs
theorem run_sizeOf{e:TypeId}{n:Nat}{ag:Bool}(h:Ci P e=some (n,ag)):(sizeOf e).run P w=.ok n w:=by
 unfold Ci at h
 split at h
 ·rename_i i d hi hd;cases h;simp[sizeOf,typeInfo,hi]
 ·cases h
theorem GR{e:TypeId}{n:Nat}{ag:Bool}(h:Ci P e=some (n,ag)):(isAgg e).run P w=.ok ag w:=by
 unfold Ci at h
 split at h
 ·rename_i i d hi hd;cases h;cases d<;>simp[isAgg,underlying,hd,kY]
 ·cases h
theorem ol(hi:Inv cx G a w A σ)(hkd:∀t,cx.kd t=fi.kind t)(hnt:cx.nt=fi.nt){o:Oper}{t e:TypeId}{x y:Operand}(ho:o.op=.indexAddr t x y)(ht:P.underlying t=some (.slice e))
  {size:Nat} {ag:Bool} (hsz:Ci P e=some (size,ag))
  {az:List Ct} (hc:Aq fi [x,y]=some az) (hd:BA fi o.dst=true) (hrun:BV pur call { dst:=o.dst,k:=.p (.idx size),args:=az } A σ=some (A',σ')):Gives P cx o a w A' σ':=by
 refine RJ hi hkd hnt hd hrun hc (Oq (V:=K7 size) (fun _ _=>rfl) rfl (fun _=>rfl) (fun _ _ _ _=>rfl)) fun x' y' p q r hx hv hp hq=>?_
 cases hx;cases p with
 |slice own sz es=>cases q with
  |int k i=>
   obtain⟨ad,len,cap,cv,ev,e1,e2,e3,e4,e5,e6,e7⟩:=(hp rfl).Gl;have e':=(hq rfl).Db;simp only[K7] at hv
   split at hv
   ·rename_i hc';obtain⟨rfl,h0⟩:=hc';obtain⟨el,hel,rfl⟩:=Ac.1 hv;have hlt:=(Ab.1 hel).1;have hne:es≠[]:=by intro h;subst h;simp at hlt
    have hsp:=e3 hne;have had:ad=⟨ad.block,ad.off,none⟩:=by cases ad;dsimp only at hsp;rw[hsp]
    refine⟨rfl,.pointer (some ⟨ad.block,ad.off+i.toNat * sz,none⟩),?_,?_,fun _=>trivial⟩
    ·have hb:0≤i∧i<(len:Int):=⟨h0,by omega⟩
     have hs':=run_sizeOf (P:=P) (w:=w) hsz;rw[had] at ev;have:Addr.add ⟨ad.block,ad.off,none⟩ (i.toNat * sz)=⟨ad.block,ad.off+i.toNat * sz,none⟩:=Fh ..;simp[execOp,ho,Instr.indexAt,ev,e',asIntOf,underlying,ht,hb,hs',this]
    ·exact .one (.inl (.vptr (fun j=>cv i.toNat j) (fun j p hp=>e5 _ _ _ _ hel hp) (fun j p hp=>e6 _ _ _ _ hel hp) (fun j p hp=>e7 _ _ _ _ hel hp)))
   ·cases hv
  |_=>simp[K7] at hv
 |arr id gen off len sz=>cases q with
  |int k i=>
   obtain⟨b,base,n,cap,b',o',e1,e2,e3,e4,ev⟩:=(hp rfl).Gp;have e':=(hq rfl).Db;simp only[K7] at hv
   split at hv
   ·rename_i hc';obtain⟨rfl,h0,h1⟩:=hc';cases hv;obtain⟨rfl,rfl⟩:=e4 (by omega)
    have hb:0≤i∧i<(len:Int):=⟨h0,h1⟩;have hs':=run_sizeOf (P:=P) (w:=w) hsz;refine⟨rfl,.pointer (some ⟨b',base+(off+i.toNat) * sz+0,none⟩),?_,.one (.inr (.aptr e1)),fun _=>trivial⟩
    have:base+(off+i.toNat) * sz+0=base+off * sz+i.toNat * sz:=by rw[BS];omega
    rw[this];simp[execOp,ho,Instr.indexAt,ev,e',asIntOf,underlying,ht,hb,hs',Fh]
   ·cases hv
  |_=>simp[K7] at hv
 |_=>simp[K7] at hv
theorem Mf{v x:PV}{off n:Nat}{ag:Bool}(h:sub v off n ag=some x):∀(j:Nat) (p:PV),x.cells[j]?=some p→v.cells[off+j]?=some p:=by
 intro j p hp;unfold sub at h;cases ag with
 |true=>
  dsimp only at h;cases v with
  |agg cs=>
   dsimp only at h
   split at h
   ·cases h;simp only[PV.cells] at hp ⊢;rw[BQ] at hp
    split at hp
    ·rw[BN] at hp;exact hp
    ·cases hp
   ·cases h
  |_=>cases h
 |false=>
  dsimp only at h
  split at h
  ·rename_i y hy
   split at h
   ·cases h
   ·rename_i hag;cases h
    have:x.cells=[x]:=by
     cases x with
     |agg cs=>exact absurd rfl hag
     |aggr cs=>exact absurd rfl hag
     |_=>rfl
    rw[this] at hp;cases j with
    |zero=>simp at hp;subst hp;exact hy
    |succ j=>simp at hp
  ·cases h
theorem Ii{s:TypeId}{fs:Array Field}{f:Nat}{fl:Field}(hs:P.underlying s=some (.struct fs))(hf:fs[f]?=some fl){n:Nat}{ag:Bool}(hn:Ci P fl.type=some (n,ag))(hn0:n≠0)(b off:Nat):
  (Instr.fieldAt s (.pointer (some ⟨b,off,none⟩)) f).run P w=.ok (.pointer (some ⟨b,off+fl.offset,none⟩)) w:=by
 simp[Instr.fieldAt,underlying,hs,hf,Instr.sureAddr,fieldPlace,run_sizeOf hn,hn0,Fh]
theorem tu(hi:Inv cx G a w A σ)(hkd:∀t,cx.kd t=fi.kind t)(hnt:cx.nt=fi.nt){o:Oper}{t:TypeId}{x:Operand}{f:Nat}(ho:o.op=.fieldAddr t x f)
  {fs:Array Field} {fl:Field} (hs':P.underlying t=some (.struct fs)) (hf:fs[f]?=some fl) {n:Nat} {ag:Bool} (hn:Ci P fl.type=some (n,ag)) (hn0:n≠0)
  (hnl:∀p,∀d off,p=PV.lref d off→∀y,EK fi x=some y→BJ A [y]≠some [p])
  {az:List Ct} (hc:Aq fi [x]=some az) (hd:BA fi o.dst=true) (hrun:BV pur call { dst:=o.dst,k:=.p (.fa fl.offset n ag),args:=az } A σ=some (A',σ')):Gives P cx o a w A' σ':=by
 refine F3 hi hkd hnt hd hrun fun vs rs he hs=>?_
 obtain⟨p,r,rfl,hv,rfl⟩:=U1 (V:=faV fl.offset n ag) (k:=.fa fl.offset n ag) (fun _=>rfl) rfl (fun _ _ _=>rfl) vs rs hs
 obtain⟨x',y,e,rfl,hy,hp⟩:=X4 hc he;cases e;cases p with
 |vptr v=>
  obtain⟨b,off,cv,ev,h1,h2,h3⟩:=(Ba hi hkd hy hp rfl).JR;simp only[faV] at hv;obtain⟨u,hu,rfl⟩:=Ac.1 hv;have hsc:=Mf hu;refine⟨_,.pointer (some ⟨b,off+fl.offset,none⟩),rfl,rfl,by simp[execOp,ho,ev,Ii hs' hf hn hn0],?_,fun _=>trivial⟩
  refine .one (.inl (.vptr (fun j=>cv (fl.offset+j)) (fun j q hq=>?_) (fun j q hq=>?_) (fun j q hq=>?_)))
  ·have:=h1 _ _ (hsc j q hq);rw[←CU] at this;exact this
  ·have:=h2 _ _ (hsc j q hq);rw[←CU] at this;exact this
  ·exact h3 _ _ (hsc j q hq)
 |ref id off=>
  obtain⟨b,h1,ev⟩:=(Ba hi hkd hy hp rfl).Ho;simp only[faV] at hv;cases hv;exact⟨_,.pointer (some ⟨b,off+fl.offset,none⟩),rfl,rfl,by simp[execOp,ho,ev,Ii hs' hf hn hn0],.one (.inr (.ref h1)),fun _=>trivial⟩
 |aptr id gen size i off=>
  obtain⟨b,base,n',h1,ev⟩:=(Ba hi hkd hy hp rfl).Ir;simp only[faV] at hv;cases hv;exact⟨_,.pointer (some ⟨b,base+i * size+(off+fl.offset),none⟩),rfl,rfl,by simp[execOp,ho,ev,Ii hs' hf hn hn0,CU],.one (.inr (.aptr h1)),fun _=>trivial⟩
 |lref d off=>exact absurd hp (hnl _ d off rfl y hy)
 |_=>simp[faV] at hv
theorem Pe{t:TypeId}{n:Nat}{ag:Bool}(hn:Ci P t=some (n,ag)){b off:Nat}{v:PV}{cv:Nat→Value}(hf:fits n ag v=true)
  (hc:∀(j:Nat) (p:PV),v.cells[j]?=some p→w.cell? ⟨b,off+j,none⟩=some (cv j)) :
  ∃c,(Instr.loadAt t (.pointer (some ⟨b,off,none⟩))).run P w=.ok c w∧(∀I:Imm,(∀(j:Nat) (p:PV),v.cells[j]?=some p→Rep I w (cv j) p)→Rep I w c v)∧(ag=false→c=cv 0∧v.cells=[v]):=by
 cases ag with
 |true=>
  cases v with
  |agg cs=>
   simp[fits] at hf;refine⟨.agg ((List.range n).map cv).toArray,?_,fun I hr=>?_,fun h=>by cases h⟩
   ·have h:=run_loadCells (P:=P) (w:=w) ⟨b,off,none⟩ n cv (fun j hj=>by
     rw[Fh];have:cs[j]?=some cs[j]:=Ad (by omega)
     exact hc j _ this)
    simp[Instr.loadAt,Instr.sureAddr,loadVar,GR hn,run_sizeOf hn,h]
   ·refine .agg (by simp[hf]) fun i p hp=>?_
    have hlt:=(Ab.1 hp).1
    have:((List.range n).map cv).toArray.getD i undef=cv i:=by
     simp[Array.getD,hf▸hlt]
    rw[this];exact hr i p hp
  |_=>simp[fits] at hf
 |false=>
  have hcell:v.cells=[v]:=by
   cases v with
   |agg cs=>simp[fits] at hf
   |aggr cs=>simp[fits] at hf
   |_=>rfl
  have h0:=hc 0 v (by rw[hcell];rfl)
  refine⟨cv 0,?_,fun I hr=>hr 0 v (by rw[hcell];rfl),fun _=>⟨rfl,hcell⟩⟩
  rw[Nat.add_zero] at h0;simp[Instr.loadAt,Instr.sureAddr,loadVar,GR hn,run_load,h0]
theorem UI(hi:Inv cx G a w A σ)(hkd:∀t,cx.kd t=fi.kind t)(hnt:cx.nt=fi.nt){o:Oper}{t:TypeId}{x:Operand}(ho:o.op=.load t x){n:Nat}{ag:Bool}(hn:Ci P t=some (n,ag))
  {az:List Ct} (hc:Aq fi [x]=some az) (hd:BA fi o.dst=true) (hrun:BV pur call { dst:=o.dst,k:=.p (.ldp n ag),args:=az } A σ=some (A',σ')):Gives P cx o a w A' σ':=by
 refine YV hi hkd hnt hd hrun hc (U1 (V:=fun p=>(ldV n ag p).map PV.Ag) (fun p=>by simp[AJ];rfl) rfl (fun _ _ _=>rfl)) fun x' p r hx hv hp=>?_
 cases hx;obtain⟨q,hq,rfl⟩:=Ac.1 hv;cases p with
 |vptr v=>
  obtain⟨b,off,cv,ev,h1,h2,h3⟩:=(hp rfl).JR;simp only[ldV] at hq
  split at hq
  ·rename_i hf;cases hq;obtain⟨hfit,hfree⟩:=hf;obtain⟨c,hr,hrep,_⟩:=Pe (P:=P) (w:=w) hn hfit h2;exact⟨by rw[C9];exact hfree,c,by simp[execOp,ho,ev,hr],.one (.inl (hrep _ h3).Ag),fun _=>Cj _⟩
  ·cases hq
 |_=>simp[ldV] at hq
end
end Go.Abs
