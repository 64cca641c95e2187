/- A part of the proof: P3 P4 P5 P6 P7. -/
import Derived.Test.YtapgnmhobbgmiaaGreatDoorKam
import Derived.Lib.Bytealg
import Derived.WalkKit
import Derived.Lib.Hide
import Derived.Outline
import Derived.RangeFuncNested
import Derived.RangeFuncBound
import Derived.RangeFuncCalls
import Derived.RangeFuncLeaves
import Derived.Shelf.Abstract
import Derived.Shelf.RegionOpen
import Derived.OwnWalkIn
import Derived.TacticsInMore
import Derived.LoopNIn
import Derived.LoopIn

set_option linter.unusedVariables false
set_option linter.unusedSimpArgs false
namespace Go.Abs.Z
open Go.Proofs Go.RowKit
theorem uh{I:Imm}{bl:Bl}{w:World}{vs:Array Value}{p:PV}(h:FU I bl w vs.toList [p]):∃v,vs=#[v]∧Bz I bl w v p:=by
 obtain⟨v,h1,h2⟩:=h.2 0 p rfl;have hl:=h.1
 match vs,hl,h1 with
 |⟨[a]⟩,_,h1=>
  simp at h1;subst h1;exact⟨a,rfl,h2⟩
theorem AQ1:FE Tryz.prog 71:=⟨Tryz.f71,Tryz.func71,by kernel_rfl,by kernel_rfl⟩
theorem AQ0:FE Tryz.prog 72:=⟨Tryz.f72,Tryz.func72,by kernel_rfl,by kernel_rfl⟩
theorem jl{K:Nat→Prop}{G:Gh}{w:World}{σ:Sto}(hpre:Pre K G w σ){id b:Nat}{t e:TypeId}{l:List UInt8}(hb:G.bl.l[id]?=some b)(hσ:σ[id]?=some [.bld t e l]):BOk G w b id t e l:=by
 obtain⟨b',h1,h2⟩:=hpre.obj id _ hσ;rw[hb] at h1;cases h1;rcases h2 with⟨_,_,cs,elem,_,_,h⟩ | ⟨t',e',l',he,h⟩ | h | ⟨_,_,_,h,_⟩ | ⟨_,_,_,_,h,_⟩
 rotate_right
 ·cases h
 ·have:=h 0 _ rfl;rcases this with⟨hr,_⟩ | ⟨he,_⟩
  ·generalize cs.getD 0 undef=z at hr;cases hr;rename_i h';rcases h' with h' | h'
   ·cases h'
   ·first | exact h'.elim | cases h' | simp[IK] at h'
  ·cases he
 ·cases he;exact h
 ·cases h
 ·cases h
theorem Zi{K:Nat→Prop}{G G':Gh}{w w':World}{σ:Sto}(hpre:Pre K G w σ){id:Nat}{cs:List PV}(hid:id<σ.length)
  (hI:G'.I=G.I) (hbl:G'.bl=G.bl) (hω:∀k tag,G.ω k=some tag→(∀j,tag≠.obj id j)→G'.ω k=some tag) (hω':∀k tag,G'.ω k=some tag→G.ω k=some tag∨(w.heap.size≤k∧k<w'.heap.size))
  (hkeep:∀k,k<w.heap.size→(∀j,G.ω k≠some (.obj id j))→w'.heap[k]?=w.heap[k]?) (hnI:∀k j x,G.ω k=some (.obj id j)→G.I k x→w'.cell? ⟨k,x.getD 0,none⟩=w.cell? ⟨k,x.getD 0,none⟩∧(x=none→w'.heap[k]?=w.heap[k]?))
  (hsz:w.heap.size≤w'.heap.size) (hos:w'.os=w.os) (htape:w'.tape=w.tape) (hout:w'.output=w.output) (hobj:I9 G' w' id cs):Aft K G w (σ.set id cs) G' w':=by
 have hsame:Same G.I w w':=by
  refine⟨fun k o h=>?_,fun k h=>?_⟩
  ·by_cases ht:∃j,G.ω k=some (.obj id j)
   ·obtain⟨j,ht⟩:=ht;exact(hnI k j (some o) ht h).1
   ·exact cell_of_heap (hkeep k (hpre.lt k _ h) (fun j hj=>ht ⟨j,hj⟩))
  ·by_cases ht:∃j,G.ω k=some (.obj id j)
   ·obtain⟨j,ht⟩:=ht;exact(hnI k j none ht h).2 rfl
   ·exact hkeep k (hpre.lt k _ h) (fun j hj=>ht ⟨j,hj⟩)
 have hext:Ext (fun tg=>∃j,tg=.obj id j) G G' w w':=by
  refine⟨by rw[hI];exact fun _ _ h=>h,hsame,by rw[hbl];exact Bl.le_refl _,fun i hi hX g=>by rw[hbl],fun k tag h hX=>?_⟩
  have hne:∀j,tag≠.obj id j:=fun j e=>hX ⟨j,e⟩
  refine⟨hω k tag h hne,hkeep k (hpre.own k tag h).1 (fun j hj=>?_),fun x hx=>by rw[hI] at hx;exact hx⟩
  rw[h] at hj;exact hne j (Option.some.inj hj)
 refine⟨fun k hk=>hkeep k (hpre.Klt k hk) (fun j hj=>(hpre.own k _ hj).2 hk),hsame,by rw[hI];exact fun _ _ h=>h,by rw[hI];exact fun _ _ h=>.inl h,by rw[hI];exact fun k x h=>Bi (hpre.lt k x h) hsz,
  fun k tag h=>?_,hsz,by rw[hbl];exact Bl.le_refl _,hos,htape,hout,fun i cs' hc=>?_,by rw[hbl,CV];exact hpre.len,by rw[hbl,CV];exact hpre.abl⟩
 ·rcases hω' k tag h with h | ⟨h1,h2⟩
  ·exact⟨Bi (hpre.own k tag h).1 hsz,(hpre.own k tag h).2⟩
  ·exact⟨h2,fun hk=>by have:=hpre.Klt k hk;omega⟩
 ·rw[Ew] at hc
  split at hc
  ·rename_i e;subst e;cases hc;exact hobj
  ·rename_i hne;exact(hpre.obj i cs' hc).ext hext (fun j hj=>by obtain⟨j',e⟩:=hj;cases e;exact hne rfl)
theorem mW:JE Tryz.prog 71 YB:=by
 intro call hSc args σ r σ' hown h;refine⟨AQ1,fun n vs w G K hargs hpre=>?_⟩
 unfold YB at h
 split at h
 ·rename_i id s
  split at h
  ·rename_i t e l hσ
   split at h
   ·rename_i hc;obtain⟨rfl,rfl,hlen⟩:=hc;cases h;obtain⟨v0,u,rfl,hv0,hu⟩:=PW hargs;obtain⟨b,hbl,rfl⟩:=hv0.Jm;obtain⟨sb,rfl,rfl⟩:=hu.EU;obtain⟨hωb,hIb,p,v,hp,hbk,hrow,hblk⟩:=jl hpre hbl hσ;have hsz:sb.size=sb.data.toList.length:=Lib.size_eq sb;have hne:v.ownBlock≠some b:=fun e=>(hblk b e).1 rfl
    have hlt:=(Ad.1 hσ).1;refine Iu ((Zr b w p v l sb hp hbk hrow hne (by omega)).mono ?_)
    rintro e w' ⟨rfl,v',hbk',hrow',hown',hne',hframe,hszw,hos,htape,hout⟩
    let G':Gh:=⟨G.I,fun k=>if v'.ownBlock=some k then some (.obj id (some 1)) else G.ω k,G.bl⟩
    have hg':∀g,v'.ownBlock=some g→g<w'.heap.size:=by
     intro g hg;rcases hrow'.2 with⟨rfl,_⟩ | ⟨g2,cap,cur,rfl,_,hh,_⟩
     ·cases hg
     ·obtain rfl:g2=g:=Option.some.inj hg;rcases Bc g2 w'.heap.size with h' | h'
      ·exact h'
      ·rw[Di h'] at hh;cases hh
    have hold:∀g,v'.ownBlock=some g→g<w.heap.size→G.ω g=some (.obj id (some 1))∧∀x,¬G.I g x:=by
     intro g hg hlt;rcases hown' with h | h
     ·rw[h] at hg;exact(hblk g hg).2
     ·rw[h] at hg;cases hg;omega
    refine⟨_,G',rfl,?_,?_⟩
    ·refine .tuple rfl fun i q hq=>?_
     match i with
     |0=>simp at hq;subst hq;exact .inl (.int _ _)
     |1=>simp at hq;subst hq;exact .inl .nili
     |i+2=>simp at hq
    ·refine Zi hpre hlt rfl rfl ?_ ?_ ?_ ?_ hszw hos htape hout ?_
     ·intro k tag hk hnt;simp only[G'];by_cases hv:v'.ownBlock=some k
      ·rw[if_pos hv];have:=hold k hv (hpre.own k tag hk).1;rw[this.1] at hk;exact absurd (Option.some.inj hk).symm (hnt _)
      ·rw[if_neg hv];exact hk
     ·intro k tag hk;simp only[G'] at hk
      split at hk
      ·rename_i hv;by_cases hlt':k<w.heap.size
       ·rw[←hk];exact .inl (hold k hv hlt').1
       ·exact .inr ⟨by omega,hg' k hv⟩
      ·exact .inl hk
     ·intro k hk hnt;refine hframe k hk (fun e=>?_) (fun e=>?_)
      ·subst e;exact hnt _ hωb
      ·exact hnt _ (hblk k e.symm).2.1
     ·intro k j x hk hI;have hkb:k≠b:=fun e=>hIb x (e▸hI)
      have hkv:some k≠v.ownBlock:=fun e=>(hblk k e.symm).2.2 x hI
      have:=hframe k (hpre.lt k x hI) hkb hkv;exact⟨cell_of_heap this,fun _=>this⟩
     ·refine⟨b,hbl,.inr (.inl ⟨101,5,l++sb.data.toList,rfl,?_,hIb,.pointer (some ⟨b,0,none⟩),v',.inr rfl,hbk',?_,fun g hg=>⟨fun e=>hne' (by rw[hg,e]),if_pos hg,fun x hx=>?_⟩⟩)⟩
      ·show(if v'.ownBlock=some b then _ else _)=_
       rw[if_neg hne'];exact hωb
      ·rw[Af,Ca,←hsz];exact hrow'
      ·rcases hown' with h | h
       ·rw[h] at hg;exact(hblk g hg).2.2 x hx
       ·rw[h] at hg;cases hg;have:=hpre.lt _ _ hx;omega
   ·cases h
  ·cases h
 ·cases h
set_option maxHeartbeats 1000000 in
set_option maxRecDepth 100000 in
theorem gX(b:Nat)(w:World)(p:Value)(hbk:w.heap[b]?=some (.cells #[p,.slice none 0 0] 101 (0,0))):
  Calls Tryz.prog 72 #[.pointer (some ⟨b,0,none⟩)] w fun e w'=>e=.returned (.string .empty)∧Below w.heap.size w w':=by
 have c1:w.drew.cell? ⟨b,1,none⟩=some (.slice none 0 0):=by
  have:w.drew.heap[b]?=some (.cells #[p,.slice none 0 0] 101 (0,0)):=hbk;simp[World.cell?,this]
 have hSD:(Builtin.unsafeSliceData_ #[99] 148 #[.slice none 0 0]).run Tryz.prog w.drew=.ok (.pointer none) w.drew:=Lib.run_unsafeSliceData_nil ..;have hUS:(Builtin.unsafeString_ #[148,3] 9 #[.pointer none,.int .i64 0]).run Tryz.prog w.drew=.ok (.string .empty) w.drew:=Lib.run_unsafeString_none ..;have hB:Below w.heap.size w w.drew:={ block:=fun _ _=>rfl,size:=Ag _,os:=rfl,tape:=rfl,output:=rfl }
 go_enter Tryz.func72,Tryz.ntmps72
 go_wp2
 go_region
 all_goals (go_wp2;go_ret;exact⟨rfl,hB⟩)
set_option maxHeartbeats 1000000 in
set_option maxRecDepth 100000 in
theorem dL(b g cap:Nat)(w:World)(p:Value)(hc:cap≠0)(hbk:w.heap[b]?=some (.cells #[p,.slice (some ⟨g,0,none⟩) 0 cap] 101 (0,0))):
  Calls Tryz.prog 72 #[.pointer (some ⟨b,0,none⟩)] w fun e w'=>e=.returned (.string .empty)∧Below w.heap.size w w':=by
 have c1:w.drew.cell? ⟨b,1,none⟩=some (.slice (some ⟨g,0,none⟩) 0 cap):=by
  have:w.drew.heap[b]?=some (.cells #[p,.slice (some ⟨g,0,none⟩) 0 cap] 101 (0,0)):=hbk;simp[World.cell?,this]
 have hSD:(Builtin.unsafeSliceData_ #[99] 148 #[.slice (some ⟨g,0,none⟩) 0 cap]).run Tryz.prog w.drew=.ok (.pointer (some ⟨g,0,none⟩)) w.drew:=Lib.run_unsafeSliceData_row _ _ _ _ _ _ hc;have hUS:(Builtin.unsafeString_ #[148,3] 9 #[.pointer (some ⟨g,0,none⟩),.int .i64 0]).run Tryz.prog w.drew=.ok (.string .empty) w.drew:=Lib.run_unsafeString_none ..;have hB:Below w.heap.size w w.drew:={ block:=fun _ _=>rfl,size:=Ag _,os:=rfl,tape:=rfl,output:=rfl }
 go_enter Tryz.func72,Tryz.ntmps72
 go_wp2
 go_region
 all_goals (go_wp2;go_ret;exact⟨rfl,hB⟩)
set_option maxHeartbeats 1000000 in
set_option maxRecDepth 100000 in
theorem dM(b g:Nat)(w:World)(p:Value)(cur:Array Value)(hbk:w.heap[b]?=some (.cells #[p,.slice (some ⟨g,0,none⟩) 0 0] 101 (0,0)))(hg:w.heap[g]?=some (.cells cur 5 (0,0))):
  Calls Tryz.prog 72 #[.pointer (some ⟨b,0,none⟩)] w fun e w'=>e=.returned (.string .empty)∧Below w.heap.size w w':=by
 have hlt:b<w.heap.size:=(Br.1 hbk).1
 have c1:w.drew.cell? ⟨b,1,none⟩=some (.slice (some ⟨g,0,none⟩) 0 0):=by
  have:w.drew.heap[b]?=some (.cells #[p,.slice (some ⟨g,0,none⟩) 0 0] 101 (0,0)):=hbk;simp[World.cell?,this]
 have c2:(w.alloc (.view ⟨g,0,none⟩ 5)).drew.cell? ⟨b,1,none⟩=some (.slice (some ⟨g,0,none⟩) 0 0):=by
  have:(w.alloc (.view ⟨g,0,none⟩ 5)).drew.heap[b]?=some (.cells #[p,.slice (some ⟨g,0,none⟩) 0 0] 101 (0,0)):=(heap_alloc_old' w _ b hlt).trans hbk;simp[World.cell?,this]
 have hSD:(Builtin.unsafeSliceData_ #[99] 148 #[.slice (some ⟨g,0,none⟩) 0 0]).run Tryz.prog w.drew=.ok (.pointer (some ⟨w.heap.size,0,none⟩)) (w.alloc (.view ⟨g,0,none⟩ 5)).drew:=
  Lib.run_unsafeSliceData_zero (P:=Tryz.prog) (w:=w.drew) #[99] 148 5 Tryz.underlying148 ⟨g,0,none⟩ 0 (5,cur.size) (by have hg':w.drew.heap[g]?=some (.cells cur 5 (0,0)):=hg;simp[World.shape?,hg'])
 have hUS:(Builtin.unsafeString_ #[148,3] 9 #[.pointer (some ⟨w.heap.size,0,none⟩),.int .i64 0]).run Tryz.prog (w.alloc (.view ⟨g,0,none⟩ 5)).drew=.ok (.string .empty) (w.alloc (.view ⟨g,0,none⟩ 5)).drew:=Lib.run_unsafeString_none ..
 have hB:Below w.heap.size w (w.alloc (.view ⟨g,0,none⟩ 5)).drew:=by
  have:=(Below.refl w.heap.size w).alloc (Ag _) (.view ⟨g,0,none⟩ 5);exact { block:=this.block,size:=this.size,os:=this.os,tape:=this.tape,output:=this.output }
 clear hg hbk
 go_enter Tryz.func72,Tryz.ntmps72
 go_wp2
 go_region
 all_goals (go_wp2;go_ret;exact⟨rfl,hB⟩)
theorem kz:JE Tryz.prog 72 YC:=by
 intro call hSc args σ r σ' hown h;refine⟨AQ0,fun n vs w G K hargs hpre=>?_⟩
 unfold YC at h
 split at h
 ·rename_i id
  split at h
  ·rename_i t e l hσ
   split at h
   ·rename_i hc;obtain⟨rfl,rfl⟩:=hc;cases h;obtain⟨v0,rfl,hv0⟩:=uh hargs;obtain⟨b,hbl,rfl⟩:=hv0.Jm;obtain⟨hωb,hIb,p,v,hp,hbk,hrow,hblk⟩:=jl hpre hbl hσ;have hlt:=(Ad.1 hσ).1
    have emp:Calls Tryz.prog 72 #[.pointer (some ⟨b,0,none⟩)] w (fun e w'=>e=.returned (.string .empty)∧Below w.heap.size w w')→CallsIn (FW none) n Tryz.prog 72 #[.pointer (some ⟨b,0,none⟩)] w fun e w'=>∃v G',e=.returned v∧Bz G'.I G'.bl w' v (.str [])∧Aft K G w (σ.set id [.dead]) G' w':=by
     intro hc;refine Iu (hc.mono ?_)
     rintro e w' ⟨rfl,hb⟩
     have hk:∀k,k<w.heap.size→w'.heap[k]?=w.heap[k]?:=fun k h=>hb.block k h
     exact⟨_,G,rfl,K9 [],Zi hpre hlt rfl rfl (fun k tag h _=>h) (fun k tag h=>.inl h) (fun k h _=>hk k h) (fun k j x hkk hI=>⟨cell_of_heap (hk k (hpre.lt k x hI)),fun _=>hk k (hpre.lt k x hI)⟩) hb.size hb.os hb.tape hb.output ⟨b,hbl,.inr (.inr (.inl rfl))⟩⟩
    rcases hrow.2 with⟨hv,hz⟩ | ⟨g,cap,cur,rfl,_,hg,hnc,hcm,hcs,htake⟩
    ·obtain rfl:=Aw.1 hz;subst hv;exact emp (gX b w p hbk)
    by_cases hl0:l=[]
    ·subst hl0;by_cases hc0:cap=0
     ·subst hc0;exact emp (dM b g w p cur hbk hg)
     ·exact emp (dL b g cap w p hc0 hbk)
    ·obtain⟨hgb,hωg,hIg⟩:=hblk g rfl;refine Iu ((Vu b g cap w p cur l hl0 hbk hg hnc hcm hcs htake).mono ?_)
     rintro e w' ⟨rfl,rfl⟩
     have hob:=Rj w g l.length;refine⟨_,G,rfl,K9 l,Zi hpre hlt rfl rfl (fun k tag h _=>h) (fun k tag h=>.inl h) ?_ ?_ (by rw[hob.size];exact Ag _) hob.os hob.tape hob.output ⟨b,hbl,.inr (.inr (.inl rfl))⟩⟩
     ·intro k hk hnt;exact hob.other k (fun e=>by subst e;exact hnt _ hωg)
     ·intro k j x hk hI;have hkg:k≠g:=fun e=>by subst e;exact hIg x hI
      exact⟨cell_of_heap (hob.other k hkg),fun _=>hob.other k hkg⟩
   ·cases h
  ·cases h
 ·cases h
end Go.Abs.Z

namespace Go.Abs.Z
open Go.Proofs Go.RowKit
set_option linter.unusedVariables false
set_option maxHeartbeats 1000000 in
set_option maxRecDepth 100000 in
theorem Vr(s:ByteArray)(c:Int)(w:World):Calls Tryz.prog 207 #[.string s,.int .u8 c] w fun e w'=>e=.returned (.int .i64 (Lib.indexByte s.data.toList c.toNat.toUInt8))∧w'=w:=by
 go_enter Tryz.func207,Tryz.ntmps207
 go_wp2
 rw[run_callFunc_extern Tryz.func249 (by kernel_rfl) (by kernel_rfl) (by kernel_rfl) (e:=Extern.BytealgIndexByte.indexByte) (by kernel_rfl)]
 rw[Lib.run_indexByteString];simp only[Result.andThen];rw[Oper.upon_value]
 go_wp2
 go_ret
 exact⟨rfl,rfl⟩
set_option maxHeartbeats 1000000 in
set_option maxRecDepth 100000 in
theorem AwZ:FE Tryz.prog 207:=⟨Tryz.f207,Tryz.func207,by kernel_rfl,by kernel_rfl⟩
theorem YR:JE Tryz.prog 207 Ox:=by
 intro call hSc args σ r σ' hown h;refine⟨AwZ,fun n vs w G K hargs hpre=>?_⟩
 unfold Ox at h
 split at h
 ·split at h
  ·cases h;obtain⟨v,u,rfl,hv,hu⟩:=PW hargs;obtain⟨s,rfl,rfl⟩:=hv.EU;have:=hu.CF;subst this;refine Iu ((Vr s _ w).mono ?_)
   rintro e w' ⟨rfl,rfl⟩
   exact⟨_,G,rfl,.one (.inl (.int _ _)),NB hpre (Below.refl _ _)⟩
  ·cases h
 ·cases h
end Go.Abs.Z

namespace Go.Abs.Z
open Go.Proofs Go.RowKit Go.Shelf
set_option linter.unusedVariables false
attribute [local go_sem] Oper.semAt_some
def Gg(k:Int)(t:ByteArray)(a e:Int)(kv:Value):Value:=.agg #[.int .i64 k,.string t,.int .i64 a,.int .i64 e,kv]
def cellAt(w:World)(b o:Nat):Value:=(w.cell? ⟨b,o,none⟩).getD undef
def nodeAt(w:World)(b o:Nat):Value:=.agg #[cellAt w b o,cellAt w b (o+1),cellAt w b (o+2),cellAt w b (o+3),cellAt w b (o+4)]
mutual

def Oj(w:World):Nat→PV→Value→List Value
 |0,_,_=>[]
 |n+1,v,u=>match v with
  |.agg [.int .i64 _,.str _,.int .i64 _,.int .i64 _,x]=>match x with
   |.slice _ 5 ks=>match u with
    |.agg cs=>match cs.getD 4 undef with
     |.slice (some a) _ _=>u::Ku w n ks a.block a.off
     |_=>[u]
    |_=>[u]
   |_=>[u]
  |_=>[u]
def Ku(w:World):Nat→List PV→Nat→Nat→List Value
 |0,_,_,_=>[]
 |n+1,vs,b,o=>match vs with
  |[]=>[]
  |v::vs=>Oj w n v (nodeAt w b o)++Ku w n vs b (o+5)
end
theorem IC{n:Nat}{v:PV}{l:List PV}(h:I8 (n+1) v=some l):∃k t a e x,v=.agg [.int .i64 k,.str t,.int .i64 a,.int .i64 e,x]∧((x=.nils∧l=[v])∨∃o ks r,x=.slice o 5 ks∧Hu n ks=some r∧l=v::r):=by
 simp only[I8] at h
 split at h
 ·rename_i k t a e x;refine⟨k,t,a,e,x,rfl,?_⟩
  split at h
  ·cases h;exact .inl ⟨rfl,rfl⟩
  ·rename_i o ks;obtain⟨r,h1,h2⟩:=Ac.1 h;exact .inr ⟨o,ks,r,rfl,h1,h2.symm⟩
  ·cases h
 ·cases h
theorem MI{n:Nat}{v:PV}{vs l:List PV}(h:Hu (n+1) (v::vs)=some l):∃l1 l2,I8 n v=some l1∧Hu n vs=some l2∧l=l1++l2:=by
 simp only[Hu] at h
 split at h
 ·rename_i a b h1 h2;cases h;exact⟨a,b,h1,h2,rfl⟩
 ·cases h
theorem Q0{I:Imm}{w:World}{v:Value}{k a e:Int}{t:List UInt8}{x:PV}(h:Rep I w v (.agg [.int .i64 k,.str t,.int .i64 a,.int .i64 e,x])):∃(s:ByteArray) (kv:Value),s.data.toList=t∧v=Gg k s a e kv∧Rep I w kv x:=by
 cases h with
 |agg hl hr=>
  rename_i cs;have h0:=hr 0 _ rfl;have h1:=hr 1 _ rfl;have h2:=hr 2 _ rfl;have h3:=hr 3 _ rfl;have h4:=hr 4 _ rfl
  match cs,hl,h0,h1,h2,h3,h4 with
  |⟨[a,b,c,d,e]⟩,_,h0,h1,h2,h3,h4=>
   have e0:=(Bz.one (bl:=Bl.nil) (.inl h0)).CF;obtain⟨s,e1,hs⟩:=(Bz.one (bl:=Bl.nil) (.inl h1)).EU;have e2:=(Bz.one (bl:=Bl.nil) (.inl h2)).CF;have e3:=(Bz.one (bl:=Bl.nil) (.inl h3)).CF;simp[Array.getD] at e0 e1 e2 e3 h4;subst e0 e1 e2 e3;exact⟨s,e,hs,rfl,h4⟩
theorem rH{I:Imm}{w:World}{a:Addr}{len cap:Nat}{o:Bool}{ks:List PV}(h:Rep I w (.slice (some a) len cap) (.slice o 5 ks)){j:Nat}{k st en:Int}{t:List UInt8}{x:PV}(hj:ks[j]?=some (.agg [.int .i64 k,.str t,.int .i64 st,.int .i64 en,x])):
  len=ks.length∧a.spot=none∧∃(s:ByteArray) (kv:Value),s.data.toList=t∧(∀i,i<5→I a.block (some (a.off+j * 5+i)))∧w.cell? ⟨a.block,a.off+j * 5+0,none⟩=some (.int .i64 k)∧w.cell? ⟨a.block,a.off+j * 5+1,none⟩=some (.string s)∧
   w.cell? ⟨a.block,a.off+j * 5+2,none⟩=some (.int .i64 st)∧w.cell? ⟨a.block,a.off+j * 5+3,none⟩=some (.int .i64 en)∧w.cell? ⟨a.block,a.off+j * 5+4,none⟩=some kv∧Rep I w kv x∧nodeAt w a.block (a.off+j * 5)=Gg k s st en kv:=by
 cases h with
 |slice cv h1 h2 h3 h4 h5 h6 h7=>
  have g0:=h7 j _ 0 (.int .i64 k) hj rfl;have g1:=h7 j _ 1 (.str t) hj rfl;have g2:=h7 j _ 2 (.int .i64 st) hj rfl;have g3:=h7 j _ 3 (.int .i64 en) hj rfl;have g4:=h7 j _ 4 x hj rfl;have c0:=h6 j _ 0 (.int .i64 k) hj rfl;have c1:=h6 j _ 1 (.str t) hj rfl;have c2:=h6 j _ 2 (.int .i64 st) hj rfl;have c3:=h6 j _ 3 (.int .i64 en) hj rfl;have c4:=h6 j _ 4 x hj rfl;have e0:=(Bz.one (bl:=Bl.nil) (.inl g0)).CF;obtain⟨s,e1,hs⟩:=(Bz.one (bl:=Bl.nil) (.inl g1)).EU;have e2:=(Bz.one (bl:=Bl.nil) (.inl g2)).CF;have e3:=(Bz.one (bl:=Bl.nil) (.inl g3)).CF;rw[e0] at c0;rw[e1] at c1;rw[e2] at c2;rw[e3] at c3;refine⟨h1,h3 (fun e=>by rw[e] at hj;simp at hj),s,cv j 4,hs,fun i hi=>?_,c0,c1,c2,c3,c4,g4,?_⟩
  ·have hl:(PV.agg [.int .i64 k,.str t,.int .i64 st,.int .i64 en,x]).cells.length=5:=rfl;exact h5 j _ i _ hj (Ah (by rw[hl];exact hi))
  ·simp only[Nat.add_zero] at c0;simp[nodeAt,cellAt,Gg,c0,c1,c2,c3,c4]
theorem kJ{F:Fence}(hd:F.depth=none)(k:Nat):F.room k:=fun d h=>by rw[hd] at h;cases h
theorem VA{F:Fence}(hd:F.depth=none){m:Nat}(m':Nat){P:Program}{l:Nat}{args:Array Value}{W:World}{R:Ending→World→Prop}(h:YieldAt F m P l args W R):YieldAt F m' P l args W R:=by
 obtain⟨fn,tmps,assign,body,hy,hR⟩:=h;exact⟨fn,tmps,assign,body,hy,hR.1,fun c cs _=>hR.2 c cs (kJ hd _)⟩
def Kp(O:Nat→Prop)(W:World)(O':Nat→Prop)(W':World):Prop:=
 W.heap.size≤W'.heap.size∧∀b,b<W.heap.size→¬O b→¬O' b∧∀cs t f,W.heap[b]?=some (Obj.cells cs t f)→W'.heap[b]?=some (Obj.cells cs t f)
theorem Kp.refl(O:Nat→Prop)(W:World):Kp O W O W:=⟨Ag _,fun b _ h=>⟨h,fun _ _ _ h=>h⟩⟩
theorem Kp.trans{O O' O'':Nat→Prop}{W W' W'':World}(h:Kp O W O' W')(k:Kp O' W' O'' W''):Kp O W O'' W'':=
 ⟨Bf h.1 k.1,fun b hb hO=>by
  obtain⟨h1,h2⟩:=h.2 b hb hO;obtain⟨k1,k2⟩:=k.2 b (Bi hb h.1) h1;exact⟨k1,fun cs t f hc=>k2 cs t f (h2 cs t f hc)⟩⟩
theorem Kp.alloc(O:Nat→Prop)(W:World)(o:Obj):Kp O W O (W.alloc o):=
 ⟨by rw[World.size_alloc];omega,fun b hb hO=>⟨hO,fun cs t f h=>by rw[heap_alloc_old' _ _ _ hb];exact h⟩⟩
structure Stg(I:Imm)(w0:World)(S:List (Array Value)→(Nat→Prop)→World→Prop):Prop where
 below:∀s O W W',S s O W→Below W.heap.size W W'→S s O W'
 same:∀s O W,S s O W→Same I w0 W
 bd:∀s O W,S s O W→∀b,O b→b<W.heap.size
theorem Stg.alloc{I:Imm}{w0:World}{S:List (Array Value)→(Nat→Prop)→World→Prop}(h:Stg I w0 S)(s:List (Array Value))(O:Nat→Prop)(W:World)(o:Obj)(hs:S s O W):S s O (W.alloc o):=
 h.below _ _ _ _ hs ((Below.refl W.heap.size W).alloc (Ag _) o)
def YOk(F:Fence)(P:Program)(l:Nat)(xs:List (Array Value))(S:List (Array Value)→(Nat→Prop)→World→Prop):Prop:=
 ∀m pre x post O W1,xs=pre++x::post→S pre O W1→YieldAt F m P l x W1 fun e W'=>e=.returned (.bool true)∧∃O',S (pre++[x]) O' W'∧Kp O W1 O' W'
def dW(S:List (Array Value)→(Nat→Prop)→World→Prop)(xs post:List (Array Value))(O:Nat→Prop)(W:World)(W':World):Prop:=
 ∃pre' O',xs=pre'++post∧S pre' O' W'∧Kp O W O' W'
theorem dW.pre{S:List (Array Value)→(Nat→Prop)→World→Prop}{xs post:List (Array Value)}{O O0:Nat→Prop}{W W0 W':World}(h:dW S xs post O W W')(hk:Kp O0 W0 O W):dW S xs post O0 W0 W':=by
 obtain⟨p,O',h1,h2,h3⟩:=h;exact⟨p,O',h1,h2,hk.trans h3⟩
set_option maxRecDepth 100000 in
set_option maxHeartbeats 2000000 in
theorem nz(F:Fence)(hd:F.depth=none)(h238:F.fn 170)(hro:F.round=none)(l:Nat)(I:Imm)(w0:World)(xs:List (Array Value))(S:List (Array Value)→(Nat→Prop)→World→Prop)(hS:Stg I w0 S)(hY:YOk F Tryz.prog l xs S):
  ∀(N:Nat) (T:PV) (L:List PV),I8 N T=some L→∀(n:Nat) (v:Value) (pre post:List (Array Value)) (O:Nat→Prop) (W:World),Rep I w0 v T→xs=pre++((Oj w0 N T v).map fun u=>#[u])++post→xs.length≤2000000000→S pre O W→
   CallsIn F n Tryz.prog 170 #[v,.func (.yield l) #[] #[]] W fun e W'=>e=.returned (.bool true)∧dW S xs post O W W':=by
 intro N
 induction N using Nat.strongRecOn with
 |ind N ih=>
 intro T L hL n v pre post O W hrep hxs hx62 hSt;have hdd:∀k:Nat,(F.depth.isSome=true→1≤k):=fun k h=>by rw[hd] at h;cases h
 cases N with
 |zero=>simp[I8] at hL
 |succ N=>
 obtain⟨k,t,st,en,x,rfl,hx⟩:=IC hL;obtain⟨s,kv,rfl,rfl,hkr⟩:=Q0 hrep
 obtain⟨vr,hvr⟩:∃vr,Oj w0 (N+1) (.agg [.int .i64 k,.str s.data.toList,.int .i64 st,.int .i64 en,x]) (Gg k s st en kv)=Gg k s st en kv::vr:=by
  simp only[Oj]
  repeat' split
  all_goals exact⟨_,rfl⟩
 rw[hvr,Bv] at hxs;have hSt2:=hS.alloc _ _ _ (.cells #[.int .i64 k,.string s,.int .i64 st,.int .i64 en,kv] 24) hSt;obtain⟨fn,tmps,assign,body,hy,hR⟩:=hY (n - 1) pre #[Gg k s st en kv] (vr.map (fun u=>#[u])++post) O (W.alloc (.cells #[.int .i64 k,.string s,.int .i64 st,.int .i64 en,kv] 24)) (by rw[hxs];simp) hSt2
 dsimp only[Gg] at hy;have hnO:¬O W.heap.size:=fun h=>by have:=hS.bd _ _ _ hSt _ h;omega
 have hR':=RoundIn.mono hR (R':=fun e W2=>e=.returned (.bool true)∧W2.cell? ⟨W.heap.size,4,none⟩=some kv∧Hid (∃O',S (pre++[#[Gg k s st en kv]]) O' W2∧Kp O W O' W2)) (by
  rintro e W2 ⟨rfl,O',h1,h2⟩
  refine⟨rfl,?_,O',h1,(Kp.alloc O W _).trans h2⟩
  have:=(h2.2 W.heap.size (by rw[World.size_alloc];omega) hnO).2 _ _ _ (heap_alloc_new' W _)
  simp[World.cell?,this])
 clear hR;rcases hx with⟨rfl,_⟩ | ⟨o,ks,r,rfl,hks,_⟩
 ·
  have hkv:kv=.slice none 0 0:=(Bz.one (bl:=Bl.nil) (.inl hkr)).FK;subst hkv
  have hvr0:vr=[]:=by
   simp only[Oj] at hvr;exact(List.cons.inj hvr).2.symm
  subst hvr0;have HX:=Lib.hid hxs;clear hxs;refine callsIn_of_wp Tryz.func170 rfl h238 ?_ hro
  simp only[Tryz.ntmps170,BX,Al,Bo,Nat.reduceAdd,Nat.reduceSub,Dh,Df,DN,Dn,Bj,BI,Gg]
  gi_wp2_with ((try refine⟨hdd _,?_⟩);refine hR'.mono ?_;clear hR';rintro e W2 ⟨rfl,hc4,HJ2⟩)
  ·gi_loopw [14] (fun i wr=>i=.int .i64 0∧wr=W2) (fun _ _=>0)
   case atStart=>exact⟨rfl,rfl⟩
   case round=>
    obtain⟨rfl,rfl⟩:=hrel
    gi_wp2
    go_ret
    obtain⟨O',h1,h2⟩:=HJ2.out;exact⟨rfl,_,O',by rw[HX.out];simp,h1,h2⟩
 ·obtain⟨a,len,cap,rfl⟩:∃a len cap,kv=.slice (some a) len cap:=by
   obtain⟨a,len,cap,cv,e,_⟩:=(Bz.one (bl:=Bl.nil) (.inl hkr)).FB;exact⟨a,len,cap,e⟩
  have hlen:len=ks.length:=by cases hkr with | slice cv h1 h2 h3 h4 h5 h6 h7=>exact h1
  have hvr0:vr=Ku w0 N ks a.block a.off:=by
   simp only[Oj,Gg] at hvr;exact(List.cons.inj hvr).2.symm
  subst hvr0;obtain⟨ab,ao,asp⟩:=a;have HX:=Lib.hid hxs;clear hxs;have HK:=Lib.hid hkr;clear hkr;have HREP:=Lib.hid hrep;clear hrep;have HIH:=Lib.hid ih;clear ih;have HY:=Lib.hid hY;clear hY;have HKS:=Lib.hid hks;clear hks;have HLEN:=Lib.hid hlen;clear hlen;have HS:=Lib.hid hS;clear hS;have HS1:=Lib.hid hSt;clear hSt;have HS2:=Lib.hid hSt2;clear hSt2;have HL:=Lib.hid hL;clear hL;have H62:=Lib.hid hx62;clear hx62;clear hvr hnO
  have hlen62:len<2000000000:=by
   have h1:=congrArg List.length HX.out
   have h2:∀(N:Nat) (ks r:List PV) (b o:Nat),Hu N ks=some r→ks.length≤(Ku w0 N ks b o).length:=by
    intro N
    induction N with
    |zero=>intro ks r b o h;simp[Hu] at h
    |succ N ih2=>
     intro ks r b o h;cases ks with
     |nil=>simp
     |cons e ks=>
      obtain⟨l1,l2,e1,e2,_⟩:=MI h;cases N with
      |zero=>simp[I8] at e1
      |succ N=>
       have h3:=ih2 ks l2 b (o+5) e2
       have h4:1≤(Oj w0 (N+1) e (nodeAt w0 b o)).length:=by
        simp only[Oj]
        repeat' split
        all_goals simp
       have h5:Ku w0 (N+1+1) (e::ks) b o=Oj w0 (N+1) e (nodeAt w0 b o)++Ku w0 (N+1) ks b (o+5):=rfl;rw[h5];simp only[Af,Al];omega
   have h3:=h2 N ks r ab ao HKS.out;simp only[Af,Al,Aq] at h1;have:=H62.out;have:=HLEN.out;omega
  refine callsIn_of_wp Tryz.func170 rfl h238 ?_ hro
  simp only[Tryz.ntmps170,BX,Al,Bo,Nat.reduceAdd,Nat.reduceSub,Dh,Df,DN,Dn,Bj,BI,Gg]
  gi_wp2_with ((try refine⟨hdd _,?_⟩);refine hR'.mono ?_;clear hR';rintro e W2 ⟨rfl,hc4,HJ2⟩)
  gi_loopw [14] (fun i wr=>∃(j:Nat),i=.int .i64 j∧j≤len∧Hid (∃(pre':List (Array Value)) (O':Nat→Prop) (m:Nat) (r':List PV),m≤N∧Hu m (ks.drop j)=some r'∧xs=pre'++((Ku w0 m (ks.drop j) ab (ao+j * 5)).map fun u=>#[u])++post∧S pre' O' wr∧Kp O W O' wr)) (fun i _=>len - (intOf i).toNat)
  case atStart=>
   obtain⟨O',h1,h2⟩:=HJ2.out;exact⟨0,rfl,CR _,Lib.hid ⟨_,O',N,r,Ag _,HKS.out,by rw[HX.out];simp,h1,h2⟩⟩
  case round=>
   obtain⟨j,rfl,hjl,HJ⟩:=hrel;by_cases hlt:j<len
   ·obtain⟨pre',O',m,r',hm,hr',hx',hs',hk'⟩:=HJ.out;have hjk:j<ks.length:=by have:=HLEN.out;omega
    have hdr:ks.drop j=ks[j]::ks.drop (j+1):=Cq hjk;rw[hdr] at hr' hx';cases m with
    |zero=>simp[Hu] at hr'
    |succ m=>
    obtain⟨l1,l2,e1,e2,_⟩:=MI hr';cases m with
    |zero=>simp[I8] at e1
    |succ m=>
    obtain⟨k',t',st',en',x',hk1,_⟩:=IC e1;have hkj:ks[j]?=some (.agg [.int .i64 k',.str t',.int .i64 st',.int .i64 en',x']):=by rw[Ah hjk,hk1]
    obtain⟨hl5,hsp,s',kv',hs1,hI',d0,d1,d2,d3,d4,hkr',hnode⟩:=rH HK.out hkj;clear hl5;dsimp only at hsp hI' d0 d1 d2 d3 d4 hnode;subst hsp
    obtain⟨ka,kn,kc,rfl⟩:∃ka kn kc,kv'=.slice ka kn kc:=by
     obtain⟨_,_,_,_,_,e4,h4⟩:=IC e1;rw[hk1] at e4;cases e4;rcases h4 with⟨rfl,_⟩ | ⟨_,_,_,rfl,_⟩
     ·cases hkr';exact⟨_,_,_,rfl⟩
     ·cases hkr';exact⟨_,_,_,rfl⟩
    have hsm:=HS.out.same _ _ _ hs'
    have hcell:∀i v,i<5→w0.cell? ⟨ab,ao+j * 5+i,Option.none⟩=some v→wr.cell? ⟨ab,ao+j * 5+i,Option.none⟩=some v:=fun i v hi hv=>by
     rw[hsm.cell _ _ (hI' i hi)];exact hv
    have c0:wr.cell? ⟨ab,ao+j * 5,Option.none⟩=some (.int .i64 k'):=hcell 0 _ (by decide) d0
    have c1:=hcell 1 _ (by decide) d1
    have c2:=hcell 2 _ (by decide) d2
    have c3:=hcell 3 _ (by decide) d3
    have c4:=hcell 4 _ (by decide) d4
    have hrepk:Rep I w0 (Gg k' s' st' en' (.slice ka kn kc)) ks[j]:=by
     rw[hk1,←hs1];refine .agg rfl fun i p hp=>?_
     match i with
     |0=>simp at hp;subst hp;exact .int _ _
     |1=>simp at hp;subst hp;exact .str _
     |2=>simp at hp;subst hp;exact .int _ _
     |3=>simp at hp;subst hp;exact .int _ _
     |4=>simp at hp;subst hp;exact hkr'
     |i+5=>simp at hp
    have hvs:Ku w0 (m+1+1) (ks[j]::ks.drop (j+1)) ab (ao+j * 5)=Oj w0 (m+1) ks[j] (Gg k' s' st' en' (.slice ka kn kc))++Ku w0 (m+1) (ks.drop (j+1)) ab (ao+(j+1) * 5):=by
     rw[←hnode,show ao+(j+1) * 5=ao+j * 5+5 from by omega];rfl
    rw[hvs] at hx'
    have hcall:=HIH.out (m+1) (by omega) ks[j] l1 e1 (n - 1) (Gg k' s' st' en' (.slice ka kn kc)) pre' ((Ku w0 (m+1) (ks.drop (j+1)) ab (ao+(j+1) * 5)).map (fun u=>#[u])++post) O' (wr.alloc (.cells #[.int .i64 k',.string s',.int .i64 st',.int .i64 en',.slice ka kn kc] 24))
     hrepk (by rw[hx'];simp) H62.out (HS.out.alloc _ _ _ _ hs')
    have hcall':=hcall.mono (R':=fun e W3=>e=.returned (.bool true)∧Hid (dW S xs ((Ku w0 (m+1) (ks.drop (j+1)) ab (ao+(j+1) * 5)).map (fun u=>#[u])++post) O W W3)) (by
     rintro e W3 ⟨rfl,h⟩
     exact⟨rfl,(h.pre (Kp.alloc O' wr _)).pre hk'⟩)
    clear hcall;have HN:=Lib.hid (show m+1≤N by omega)
    have HE2:=Lib.hid e2;clear d0 d1 d2 d3 d4 hcell hsm hrepk hvs hx' hr' e1 e2 hkr' hI' hnode hkj hk1 hs' hk' hm hdr hs1;dsimp only[Gg] at hcall'
    gi_wp2_with ((try refine⟨hdd _,?_⟩);gi_at_call 170;refine hcall'.mono ?_;clear hcall';rintro e W3 ⟨rfl,HY3⟩)
    obtain⟨pre2,O2,hp2,hs2,hk2⟩:=HY3.out
    go_roundw
    case rel=>exact⟨j+1,by go_num,by omega,Lib.hid ⟨pre2,O2,m+1,l2,HN.out,HE2.out,by rw[hp2];simp,hs2,hk2⟩⟩
    case measure=>simp[intOf];omega
   ·gi_wp2
    go_ret
    obtain⟨pre',O',m,r',hm,hr',hx',hs',hk'⟩:=HJ.out;have hj:ks.drop j=[]:=Cf (by have:=HLEN.out;omega)
    rw[hj] at hx';have hv0:Ku w0 m [] ab (ao+j * 5)=[]:=by cases m<;>rfl
    rw[hv0] at hx';exact⟨rfl,pre',O',by rw[hx'];simp,hs',hk'⟩
end Go.Abs.Z

namespace Go.Abs.Z
open Go.Proofs Go.RowKit Go.Shelf
set_option linter.unusedVariables false
attribute [local go_sem] Oper.semAt_some
theorem yj{gf:FuncId}{lb:Array Value}{xs:List (Array Value)}{I:Imm}{w:World}(hI:∀b x,I b x→b<w.heap.size)
  (h:∀(F:Fence),F.depth=none→(∀f,F.fn f)→F.round=none→∀(n l:Nat) (S:List (Array Value)→(Nat→Prop)→World→Prop),Stg I w S→YOk F Tryz.prog l xs S→∀W,Below w.heap.size w W→S [] (fun b=>b<W.heap.size) W→
   CallsIn F n Tryz.prog gf (#[.func (.yield l) #[] #[]]++lb) W fun e W'=>(∃v,e=.returned v)∧∃O,S xs O W'):uE Tryz.prog gf lb xs I w:=by
 intro n l J W hb hJ hY h0
 let S:List (Array Value)→(Nat→Prop)→World→Prop:=fun s O W'=>J s O W'∧Same I w W'∧(∀b,O b→b<W'.heap.size)∧w.heap.size≤W'.heap.size
 have hsame:Same I w W:=⟨fun b o h=>cell_of_heap (hb.block b (hI b _ h)),fun b h=>hb.block b (hI b _ h)⟩
 refine(h (FW none) rfl (fun _=>trivial) rfl n l S ⟨?_,fun _ _ _ h=>h.2.1,fun _ _ _ h=>h.2.2.1⟩ ?_ W hb ⟨h0,hsame,fun b h=>h,hb.size⟩).mono ?_
 ·rintro s O W1 W2 ⟨h1,h2,h3,h4⟩ hbl
  refine⟨hJ O s W1 W2 none h1 ⟨hbl.os,hbl.tape,hbl.output,hbl.size,fun k hk _=>hbl.block k hk⟩ (fun r e=>by cases e),h2.trans ⟨fun b p hb=>?_,fun b hb=>?_⟩ (fun _ _ h=>h),fun b hb=>Bi (h3 b hb) hbl.size,Bf h4 hbl.size⟩
  ·exact cell_of_heap (hbl.block b (Bi (hI b _ hb) h4))
  ·exact hbl.block b (Bi (hI b _ hb) h4)
 ·rintro m pre x post O W1 hx ⟨h1,h2,h3,h4⟩
  obtain⟨fn,tmps,assign,body,hy,hR⟩:=hY pre x post O W1 hx h1;refine VA rfl m ⟨fn,tmps,assign,body,hy,RoundIn.mono hR ?_⟩
  rintro e W' ⟨rfl,k1,k2,k3,k4⟩
  refine⟨rfl,_,⟨k1,h2.trans k2 (fun _ _ h=>h),fun b hb=>?_,Bf h4 k3⟩,k3,fun b hb hO=>⟨fun hc=>?_,fun cs t f hc=>k4 b cs t f hO hc⟩⟩
  ·rcases hb with hb | hb
   ·have:=h3 b hb;omega
   ·exact hb.2
  ·rcases hc with hc | hc
   ·exact hO hc
   ·omega
 ·rintro e W' ⟨hv,O,hS⟩
  exact⟨hv,O,hS.1⟩
set_option maxRecDepth 100000 in
set_option maxHeartbeats 1000000 in
theorem lw(F:Fence)(hd:F.depth=none)(hfn:∀f,F.fn f)(hro:F.round=none)(n l:Nat)(I:Imm)(w0:World)(bx off:Nat)(k:Int)(s:ByteArray)(st en:Int)(kv:Value)(N:Nat)(T:PV)(L:List PV)(hL:I8 N T=some L)
  (hrep:Rep I w0 (Gg k s st en kv) T) (h62:((Oj w0 N T (Gg k s st en kv)).map fun u=>(#[u]:Array Value)).length≤2000000000) (S:List (Array Value)→(Nat→Prop)→World→Prop) (hS:Stg I w0 S)
  (hY:YOk F Tryz.prog l ((Oj w0 N T (Gg k s st en kv)).map fun u=>#[u]) S) (W:World) (h0:S [] (fun b=>b<W.heap.size) W)
  (c0:W.cell? ⟨bx,off,none⟩=some (.int .i64 k)) (c1:W.cell? ⟨bx,off+1,none⟩=some (.string s)) (c2:W.cell? ⟨bx,off+2,none⟩=some (.int .i64 st)) (c3:W.cell? ⟨bx,off+3,none⟩=some (.int .i64 en)) (c4:W.cell? ⟨bx,off+4,none⟩=some kv) :
  CallsIn F n Tryz.prog 169 #[.func (.yield l) #[] #[],.pointer (some ⟨bx,off,none⟩)] W fun e W'=>(∃v,e=.returned v)∧∃O,S ((Oj w0 N T (Gg k s st en kv)).map fun u=>#[u]) O W':=by
 have hdd:∀k:Nat,(F.depth.isSome=true→1≤k):=fun k h=>by rw[hd] at h;cases h
 have h238:F.fn 170:=hfn 170;have hp:=nz F hd h238 hro l I w0 _ S hS hY N T L hL (n - 1) (Gg k s st en kv) [] [] _ W hrep (by simp) h62 h0
 generalize ((Oj w0 N T (Gg k s st en kv)).map fun u=>(#[u]:Array Value))=xs at hp hY h62
 have hp':=hp.mono (R':=fun e W1=>e=.returned (.bool true)∧Hid (∃O,S xs O W1)) (by
  rintro e W1 ⟨rfl,pre',O',h1,h2,_⟩
  rw[Az] at h1;subst h1;exact⟨rfl,O',h2⟩)
 clear hp hY hrep hL h62 h0 hS;dsimp only[Gg] at hp';have h237:F.fn 169:=hfn 169;refine callsIn_of_wp Tryz.func169 rfl h237 ?_ hro
 simp only[Tryz.ntmps169,BX,Al,Bo,Nat.reduceAdd,Nat.reduceSub,Dh,Df,DN,Dn,Bj,BI]
 gi_wp2_with ((try refine⟨hdd _,?_⟩);gi_at_call 170;refine hp'.mono ?_;clear hp';rintro e W1 ⟨rfl,HJ1⟩)
 go_end0
 exact⟨⟨_,rfl⟩,HJ1.out⟩
end Go.Abs.Z

namespace Go.Abs.Z
open Go.Proofs Go.RowKit Go.Shelf
set_option linter.unusedVariables false
attribute [local go_sem] Oper.semAt_some
def Good(I:Imm)(w:World)(vs:List Value)(l:List PV):Prop:=vs.length=l.length∧∀(j:Nat) (u:Value) (x:PV),vs[j]?=some u→l[j]?=some x→Rep I w u x
theorem Good.append{I:Imm}{w:World}{vs us:List Value}{l k:List PV}(h:Good I w vs l)(h2:Good I w us k):Good I w (vs++us) (l++k):=by
 refine⟨by simp[h.1,h2.1],fun j u x hu hx=>?_⟩
 by_cases hj:j<vs.length
 ·rw[Ak hj] at hu;rw[Ak (by rw[←h.1];exact hj)] at hx
  exact h.2 j u x hu hx
 ·rw[Ao (by omega)] at hu
  rw[Ao (by rw[←h.1];omega),←h.1] at hx
  exact h2.2 _ u x hu hx
theorem Good.cons{I:Imm}{w:World}{v:Value}{y:PV}{vs:List Value}{l:List PV}(hv:Rep I w v y)(h:Good I w vs l):Good I w (v::vs) (y::l):=by
 refine⟨by simp[h.1],fun j u x hu hx=>?_⟩
 cases j with
 |zero=>simp at hu hx;subst hu hx;exact hv
 |succ j=>exact h.2 j u x (by simpa using hu) (by simpa using hx)
theorem VM{I:Imm}{w:World}{k st en:Int}{s:ByteArray}{kv:Value}{x:PV}(h:Rep I w kv x):Rep I w (Gg k s st en kv) (.agg [.int .i64 k,.str s.data.toList,.int .i64 st,.int .i64 en,x]):=by
 refine .agg rfl fun i p hp=>?_
 match i with
 |0=>simp at hp;subst hp;exact .int _ _
 |1=>simp at hp;subst hp;exact .str _
 |2=>simp at hp;subst hp;exact .int _ _
 |3=>simp at hp;subst hp;exact .int _ _
 |4=>simp at hp;subst hp;exact h
 |i+5=>simp at hp
theorem nC{I:Imm}{w:World}:∀(N:Nat),(∀(T:PV) (L:List PV) (v:Value),I8 N T=some L→Rep I w v T→Good I w (Oj w N T v) L)∧
  (∀(ks r:List PV) (b o:Nat),Hu N ks=some r→(∀(j:Nat) (e:PV),ks[j]?=some e→(∃m l,I8 (m+1) e=some l)→Rep I w (nodeAt w b (o+j * 5)) e)→Good I w (Ku w N ks b o) r):=by
 intro N
 induction N with
 |zero=>exact⟨fun T L v h=>by simp[I8] at h,fun ks r b o h=>by simp[Hu] at h⟩
 |succ N ih=>
  refine⟨fun T L v h hr=>?_,fun ks r b o h hk=>?_⟩
  ·obtain⟨k,t,st,en,x,rfl,hx⟩:=IC h;obtain⟨s,kv,rfl,rfl,hkr⟩:=Q0 hr;rcases hx with⟨rfl,rfl⟩ | ⟨o,ks,r,rfl,hks,rfl⟩
   ·exact Good.cons hr ⟨rfl,fun j u x h=>by simp at h⟩
   ·obtain⟨a,len,cap,rfl⟩:∃a len cap,kv=.slice (some a) len cap:=by
     obtain⟨a,len,cap,cv,e,_⟩:=(Bz.one (bl:=Bl.nil) (.inl hkr)).FB;exact⟨a,len,cap,e⟩
    refine Good.cons hr (ih.2 ks r a.block a.off hks fun j e hj he=>?_)
    obtain⟨m,l,he⟩:=he;obtain⟨k',t',st',en',x',rfl,_⟩:=IC he;obtain⟨_,_,s',kv',hs1,_,_,_,_,_,_,hkr',hnode⟩:=rH hkr hj;rw[hnode,←hs1];exact VM hkr'
  ·cases ks with
   |nil=>simp only[Hu] at h;cases h;exact⟨rfl,fun j u x h=>by simp[Ku] at h⟩
   |cons e ks=>
    obtain⟨l1,l2,h1,h2,rfl⟩:=MI h;cases N with
    |zero=>simp[I8] at h1
    |succ N=>
     refine Good.append (ih.1 e l1 _ h1 (by have:=hk 0 e rfl ⟨N,l1,h1⟩;simpa using this)) (ih.2 ks l2 b (o+5) h2 fun j e' hj he=>?_)
     have:=hk (j+1) e' (by simpa using hj) he
     rw[show o+5+j * 5=o+(j+1) * 5 from by omega];exact this
theorem qz{v:Array Value}(h:v.size=1):v=#[v.getD 0 undef]:=by
 obtain⟨l⟩:=v
 match l,h with
 |[a],_=>rfl
def uD(gf:FuncId)(caps:List PV)(xs:List (List PV)):Prop:=
 ∀(I:Imm) (w:World) (cs:Array Value),(∀b x,I b x→b<w.heap.size)→cs.size=caps.length→(∀(i:Nat) (p:PV),caps[i]?=some p→Rep I w (cs.getD i undef) p)→
  ∃vs:List (Array Value),uE Tryz.prog gf cs vs I w∧vs.length=xs.length∧∀(j:Nat) (v:Array Value) (x:List PV),vs[j]?=some v→xs[j]?=some x→v.size=x.length∧∀(i:Nat) (p:PV),x[i]?=some p→Rep I w (v.getD i undef) p∧p.free=true∧p.Ae=p
theorem ul{I:Imm}{w:World}{vs:List Value}{l:List PV}(h:Good I w vs l):(vs.map fun u=>(#[u]:Array Value)).length=(l.map fun x=>[x.Ae]).length∧
  ∀(j:Nat) (v:Array Value) (x:List PV),(vs.map fun u=>(#[u]:Array Value))[j]?=some v→(l.map fun x=>[x.Ae])[j]?=some x→v.size=x.length∧∀(i:Nat) (p:PV),x[i]?=some p→Rep I w (v.getD i undef) p∧p.free=true∧p.Ae=p:=by
 refine⟨by simp[h.1],fun j v x hv hx=>?_⟩
 rw[Am] at hv hx;obtain⟨u,hu,rfl⟩:=Ac.1 hv;obtain⟨y,hy,rfl⟩:=Ac.1 hx;refine⟨rfl,fun i p hp=>?_⟩
 cases i with
 |zero=>
  simp at hp;subst hp;have:=h.2 j u y hu hy;exact⟨this.Ae,by rw[Da];exact SB this,Oa y⟩
 |succ i=>simp at hp
theorem lv{T:PV}{L:List PV}(hL:I8 1000000 T=some L)(hsm:small L=true):uD 169 [.vptr T] (L.map fun x=>[x.Ae]):=by
 intro I w cs hI hsz hrep;have h0:=hrep 0 _ rfl;obtain⟨bx,off,cv,ev,i1,i2,i3⟩:=(Bz.one (bl:=Bl.nil) (.inl h0)).JV;have hcs:=qz hsz;rw[ev] at hcs;subst hcs;obtain⟨k,t,st,en,x,rfl,hx⟩:=IC hL;have r0:=(Bz.one (bl:=Bl.nil) (.inl (i3 0 _ rfl))).CF;obtain⟨s,r1,rfl⟩:=(Bz.one (bl:=Bl.nil) (.inl (i3 1 _ rfl))).EU;have r2:=(Bz.one (bl:=Bl.nil) (.inl (i3 2 _ rfl))).CF;have r3:=(Bz.one (bl:=Bl.nil) (.inl (i3 3 _ rfl))).CF;have r4:=i3 4 x rfl;have d0:=i2 0 _ rfl;have d1:=i2 1 _ rfl;have d2:=i2 2 _ rfl;have d3:=i2 3 _ rfl;have d4:=i2 4 _ rfl;rw[r0] at d0;rw[r1] at d1;rw[r2] at d2;rw[r3] at d3;have hr:=VM (k:=k) (st:=st) (en:=en) (s:=s) r4;have hg:=(nC 1000000).1 _ L _ hL hr;obtain⟨a1,a2⟩:=ul hg;refine⟨_,yj hI fun F hd hfn hro n l S hS hY W hb h0'=>?_,a1,a2⟩
 have hW:∀j v,j<5→w.cell? ⟨bx,off+j,none⟩=some v→W.cell? ⟨bx,off+j,none⟩=some v:=fun j v hj hv=>by
  have hl:(PV.agg [.int .i64 k,.str s.data.toList,.int .i64 st,.int .i64 en,x]).cells.length=5:=rfl;have:=hI _ _ (i1 j _ (Ah (by rw[hl];exact hj)))
  rw[cell_of_heap (hb.block bx this)];exact hv
 refine lw F hd hfn hro n l I w bx off k s st en (cv 4) 1000000 _ L hL hr ?_ S hS hY W h0' (hW 0 _ (by decide) d0) (hW 1 _ (by decide) d1) (hW 2 _ (by decide) d2) (hW 3 _ (by decide) d3) (hW 4 _ (by decide) d4)
 rw[Aq,hg.1];have:=of_decide_eq_true hsm;omega
end Go.Abs.Z
