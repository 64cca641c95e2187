/- A part of the proof: P5 P6 P7. -/
import Derived.Test.YtgkkkgbknfhbaaaGreatDoorKal
import Derived.WalkKit
import Derived.Lib.Hide
import Derived.Outline
import Derived.RangeFuncNested
import Derived.RangeFuncBound
import Derived.RangeFuncCalls
import Derived.RangeFuncLeaves
import Derived.Shelf.Abstract
import Derived.Shelf.RegionOpen
import Derived.OwnWalkIn
import Derived.TacticsInMore
import Derived.LoopNIn
import Derived.LoopIn

set_option linter.all false
namespace Go.Abs.Z
open Go.Proofs Go.RowKit Go.Shelf
attribute [local go_sem] Oper.semAt_some
def Gy(k:Int)(t:ByteArray)(a e:Int)(b:Value):Value:=.agg #[.int .i64 k,.string t,.int .i64 a,.int .i64 e,b]
def cellAt(w:World)(b o:Nat):Value:=(w.cell? ⟨b,o,none⟩).getD undef
def nodeAt(w:World)(b o:Nat):Value:=.agg #[cellAt w b o,cellAt w b (o+1),cellAt w b (o+2),cellAt w b (o+3),cellAt w b (o+4)]
mutual

def Oz(w:World):Nat->PV->Value->List Value
 |0,_,_=>[]
 |n+1,v,u=>match v with
  |.agg [.int .i64 _,.str _,.int .i64 _,.int .i64 _,x]=>match x with
   |.slice _ 5 ks=>match u with
    |.agg cs=>match cs.getD 4 undef with
     |.slice (some a) _ _=>u::K3 w n ks a.block a.off
     |_=>[u]
    |_=>[u]
   |_=>[u]
  |_=>[u]
def K3(w:World):Nat->List PV->Nat->Nat->List Value
 |0,_,_,_=>[]
 |n+1,vs,b,o=>match vs with
  |[]=>[]
  |v::vs=>Oz w n v (nodeAt w b o)++K3 w n vs b (o+5)
end
def IV{n:Nat}{v:PV}{l:List PV}(h:JO (n+1) v=some l):∃k t a e x,v=.agg [.int .i64 k,.str t,.int .i64 a,.int .i64 e,x]/\((x=.nils/\l=[v])\/∃o ks r,x=.slice o 5 ks/\Ii n ks=some r/\l=v::r):=by
 simp only[JO] at h
 split at h
 ·rename_i k t a e x;refine⟨k,t,a,e,x,rfl,?_⟩
  split at h
  ·cases h;exact .inl ⟨rfl,rfl⟩
  ·rename_i o ks;obtain⟨r,b,c⟩:=Ac.1 h;exact .inr ⟨o,ks,r,rfl,b,c.symm⟩
  ·cases h
 ·cases h
def Nc{n:Nat}{v:PV}{vs l:List PV}(h:Ii (n+1) (v::vs)=some l):∃c d,JO n v=some c/\Ii n vs=some d/\l=c++d:=by
 simp only[Ii] at h
 split at h
 ·rename_i a b e f;cases h;exact⟨a,b,e,f,rfl⟩
 ·cases h
def Rb{I:Imm}{w:World}{v:Value}{k a e:Int}{t:List UInt8}{x:PV}(h:Rep I w v (.agg [.int .i64 k,.str t,.int .i64 a,.int .i64 e,x])):∃(s:ByteArray) (q:Value),s.data.toList=t/\v=Gy k s a e q/\Rep I w q x:=by
 cases h with
 |agg u f=>
  rename_i cs;have m:=f 0 _ rfl;have i:=f 1 _ rfl;have l:=f 2 _ rfl;have j:=f 3 _ rfl;have g:=f 4 _ rfl
  match cs,u,m,i,l,j,g with
  |⟨[a,b,c,d,e]⟩,_,m,i,l,j,g=>
   have n:=(BF.one (bl:=Bl.nil) (.inl m)).CJ;obtain⟨s,o,y⟩:=(BF.one (bl:=Bl.nil) (.inl i)).EC;have r:=(BF.one (bl:=Bl.nil) (.inl l)).CJ;have p:=(BF.one (bl:=Bl.nil) (.inl j)).CJ;simp[Array.getD] at n o r p g;subst n o r p;exact⟨s,e,y,rfl,g⟩
def xe{I:Imm}{w:World}{a:Addr}{len cap:Nat}{o:Bool}{ks:List PV}(h:Rep I w (.slice (some a) len cap) (.slice o 5 ks)){j:Nat}{k st en:Int}{t:List UInt8}{x:PV}(b:ks[j]?=some (.agg [.int .i64 k,.str t,.int .i64 st,.int .i64 en,x])):
  len=ks.length/\a.spot=none/\∃(s:ByteArray) (g:Value),s.data.toList=t/\(∀i,i<5->I a.block (some (a.off+j * 5+i)))/\w.cell? ⟨a.block,a.off+j * 5+0,none⟩=some (.int .i64 k)/\w.cell? ⟨a.block,a.off+j * 5+1,none⟩=some (.string s)/\
   w.cell? ⟨a.block,a.off+j * 5+2,none⟩=some (.int .i64 st)/\w.cell? ⟨a.block,a.off+j * 5+3,none⟩=some (.int .i64 en)/\w.cell? ⟨a.block,a.off+j * 5+4,none⟩=some g/\Rep I w g x/\nodeAt w a.block (a.off+j * 5)=Gy k s st en g:=by
 cases h with
 |slice cv p H q J y d c=>
  have F:=c j _ 0 (.int .i64 k) b rfl;have z:=c j _ 1 (.str t) b rfl;have G:=c j _ 2 (.int .i64 st) b rfl;have B:=c j _ 3 (.int .i64 en) b rfl;have v:=c j _ 4 x b rfl;have f:=d j _ 0 (.int .i64 k) b rfl;have m:=d j _ 1 (.str t) b rfl;have c2:=d j _ 2 (.int .i64 st) b rfl;have l:=d j _ 3 (.int .i64 en) b rfl;have n:=d j _ 4 x b rfl;have A:=(BF.one (bl:=Bl.nil) (.inl F)).CJ;obtain⟨s,C,r⟩:=(BF.one (bl:=Bl.nil) (.inl z)).EC;have u:=(BF.one (bl:=Bl.nil) (.inl G)).CJ;have D:=(BF.one (bl:=Bl.nil) (.inl B)).CJ;rw[A] at f;rw[C] at m;rw[u] at c2;rw[D] at l;refine⟨p,q (λe=>by rw[e] at b;simp at b),s,cv j 4,r,λi hi=>?_,f,m,c2,l,n,v,?_⟩
  ·have E:(PV.agg [.int .i64 k,.str t,.int .i64 st,.int .i64 en,x]).cells.length=5:=rfl;exact y j _ i _ b (Af (by rw[E];exact hi))
  ·simp only[FH] at f;simp[nodeAt,cellAt,Gy,f,m,c2,l,n]
def nU{F:Fence}(a:F.depth=none)(k:Nat):F.room k:=λd h=>by rw[a] at h;cases h
def Ww{F:Fence}(i:F.depth=none){m:Nat}(f:Nat){P:Program}{l:Nat}{args:Array Value}{W:World}{R:Ending->World->Prop}(h:YieldAt F m P l args W R):YieldAt F f P l args W R:=by
 obtain⟨j,d,a,b,g,e⟩:=h;exact⟨j,d,a,b,g,e.1,λc cs _=>e.2 c cs (nU i _)⟩
def Kp(O:Nat->Prop)(W:World)(a:Nat->Prop)(W':World):Prop:=
 W.heap.size<=W'.heap.size/\∀b,b<W.heap.size->¬O b->¬a b/\∀cs t f,W.heap[b]?=some (Obj.cells cs t f)->W'.heap[b]?=some (Obj.cells cs t f)
def Kp.refl(O:Nat->Prop)(W:World):Kp O W O W:=⟨Ai _,λb _ h=>⟨h,λ_ _ _ h=>h⟩⟩
def Kp.trans{O d c:Nat->Prop}{W W' a:World}(h:Kp O W d W')(k:Kp d W' c a):Kp O W c a:=
 ⟨Bf h.1 k.1,λb e j=>by
  obtain⟨n,l⟩:=h.2 b e j;obtain⟨m,i⟩:=k.2 b (Bj e h.1) n;exact⟨m,λcs t f g=>i cs t f (l cs t f g)⟩⟩
def Kp.alloc(O:Nat->Prop)(W:World)(o:Obj):Kp O W O (W.alloc o):=
 ⟨by rw[World.size_alloc];omega,λb a c=>⟨c,λcs t f h=>by rw[heap_alloc_old' _ _ _ a];exact h⟩⟩
structure Stg(I:Imm)(w0:World)(S:List (Array Value)->(Nat->Prop)->World->Prop):Prop where
 below:∀s O W W',S s O W->Below W.heap.size W W'->S s O W'
 same:∀s O W,S s O W->Same I w0 W
 bd:∀s O W,S s O W->∀b,O b->b<W.heap.size
def Stg.alloc{I:Imm}{a:World}{S:List (Array Value)->(Nat->Prop)->World->Prop}(h:Stg I a S)(s:List (Array Value))(O:Nat->Prop)(W:World)(o:Obj)(b:S s O W):S s O (W.alloc o):=
 h.below _ _ _ _ b ((Below.refl W.heap.size W).alloc (Ai _) o)
def YOk(F:Fence)(P:Program)(l:Nat)(xs:List (Array Value))(S:List (Array Value)->(Nat->Prop)->World->Prop):Prop:=
 ∀m a x b O c,xs=a++x::b->S a O c->YieldAt F m P l x c λe W'=>e=.returned (.bool true)/\∃d,S (a++[x]) d W'/\Kp O c d W'
def iC(S:List (Array Value)->(Nat->Prop)->World->Prop)(xs b:List (Array Value))(O:Nat->Prop)(W:World)(W':World):Prop:=
 ∃a c,xs=a++b/\S a c W'/\Kp O W c W'
def iC.pre{S:List (Array Value)->(Nat->Prop)->World->Prop}{xs a:List (Array Value)}{O b:Nat->Prop}{W c W':World}(h:iC S xs a O W W')(e:Kp b c O W):iC S xs a b c W':=by
 obtain⟨p,f,d,i,g⟩:=h;exact⟨p,f,d,i,e.trans g⟩
set_option maxRecDepth 100000 in
set_option maxHeartbeats 2000000 in
def qO(F:Fence)(hd:F.depth=none)(h238:F.fn 173)(hro:F.round=none)(l:Nat)(I:Imm)(w0:World)(xs:List (Array Value))(S:List (Array Value)->(Nat->Prop)->World->Prop)(hS:Stg I w0 S)(hY:YOk F Tryz.prog l xs S):
  ∀(N:Nat) (T:PV) (L:List PV),JO N T=some L->∀(n:Nat) (v:Value) (pre post:List (Array Value)) (O:Nat->Prop) (W:World),Rep I w0 v T->xs=pre++((Oz w0 N T v).map λu=>#[u])++post->xs.length<=2000000000->S pre O W->
   CallsIn F n Tryz.prog 173 #[v,.func (.yield l) #[] #[]] W λe W'=>e=.returned (.bool true)/\iC S xs post O W W':=by
 intro N
 induction N using Nat.strongRecOn with
 |ind N ih=>
 intro T L hL n v pre post O W hrep hxs hx62 hSt;have hdd:∀k:Nat,(F.depth.isSome=true->1<=k):=λk h=>by rw[hd] at h;cases h
 cases N with
 |zero=>simp[JO] at hL
 |succ N=>
 obtain⟨k,t,st,en,x,rfl,hx⟩:=IV hL;obtain⟨s,kv,rfl,rfl,hkr⟩:=Rb hrep
 obtain⟨vr,hvr⟩:∃vr,Oz w0 (N+1) (.agg [.int .i64 k,.str s.data.toList,.int .i64 st,.int .i64 en,x]) (Gy k s st en kv)=Gy k s st en kv::vr:=by
  simp only[Oz]
  repeat' split
  all_goals exact⟨_,rfl⟩
 rw[hvr,Bu] at hxs;have hSt2:=hS.alloc _ _ _ (.cells #[.int .i64 k,.string s,.int .i64 st,.int .i64 en,kv] 24) hSt;obtain⟨fn,tmps,assign,body,hy,hR⟩:=hY (n - 1) pre #[Gy k s st en kv] (vr.map (λu=>#[u])++post) O (W.alloc (.cells #[.int .i64 k,.string s,.int .i64 st,.int .i64 en,kv] 24)) (by rw[hxs];simp) hSt2
 dsimp only[Gy] at hy;have hnO:¬O W.heap.size:=λh=>by have:=hS.bd _ _ _ hSt _ h;omega
 have hR':=RoundIn.mono hR (R':=λe W2=>e=.returned (.bool true)/\W2.cell? ⟨W.heap.size,4,none⟩=some kv/\Hid (∃O',S (pre++[#[Gy k s st en kv]]) O' W2/\Kp O W O' W2)) (by
  rintro e W2 ⟨rfl,O',h1,h2⟩
  refine⟨rfl,?_,O',h1,(Kp.alloc O W _).trans h2⟩
  have:=(h2.2 W.heap.size (by rw[World.size_alloc];omega) hnO).2 _ _ _ (heap_alloc_new' W _)
  simp[World.cell?,this])
 clear hR;rcases hx with⟨rfl,_⟩ | ⟨o,ks,r,rfl,hks,_⟩
 ·
  have hkv:kv=.slice none 0 0:=(BF.one (bl:=Bl.nil) (.inl hkr)).F6;subst hkv
  have hvr0:vr=[]:=by
   simp only[Oz] at hvr;exact(List.cons.inj hvr).2.symm
  subst hvr0;have HX:=Lib.hid hxs;clear hxs;refine callsIn_of_wp Tryz.func173 rfl h238 ?_ hro
  simp only[Tryz.ntmps173,Cq,Ah,Ba,Nat.reduceAdd,Nat.reduceSub,Dm,Dl,DT,Dt,Bn,Bg,Gy]
  gi_wp2_with ((try refine⟨hdd _,?_⟩);refine hR'.mono ?_;clear hR';rintro e W2 ⟨rfl,hc4,HJ2⟩)
  ·gi_loopw [14] (λi wr=>i=.int .i64 0/\wr=W2) (λ_ _=>0)
   case atStart=>exact⟨rfl,rfl⟩
   case round=>
    obtain⟨rfl,rfl⟩:=hrel
    gi_wp2
    go_ret
    obtain⟨O',h1,h2⟩:=HJ2.out;exact⟨rfl,_,O',by rw[HX.out];simp,h1,h2⟩
 ·obtain⟨a,len,cap,rfl⟩:∃a len cap,kv=.slice (some a) len cap:=by
   obtain⟨a,len,cap,cv,e,_⟩:=(BF.one (bl:=Bl.nil) (.inl hkr)).FY;exact⟨a,len,cap,e⟩
  have hlen:len=ks.length:=by cases hkr with | slice cv h1 h2 h3 h4 h5 h6 h7=>exact h1
  have hvr0:vr=K3 w0 N ks a.block a.off:=by
   simp only[Oz,Gy] at hvr;exact(List.cons.inj hvr).2.symm
  subst hvr0;obtain⟨ab,ao,asp⟩:=a;have HX:=Lib.hid hxs;clear hxs;have HK:=Lib.hid hkr;clear hkr;have HREP:=Lib.hid hrep;clear hrep;have HIH:=Lib.hid ih;clear ih;have HY:=Lib.hid hY;clear hY;have HKS:=Lib.hid hks;clear hks;have HLEN:=Lib.hid hlen;clear hlen;have HS:=Lib.hid hS;clear hS;have HS1:=Lib.hid hSt;clear hSt;have HS2:=Lib.hid hSt2;clear hSt2;have HL:=Lib.hid hL;clear hL;have H62:=Lib.hid hx62;clear hx62;clear hvr hnO
  have hlen62:len<2000000000:=by
   have h1:=congrArg List.length HX.out
   have h2:∀(N:Nat) (ks r:List PV) (b o:Nat),Ii N ks=some r->ks.length<=(K3 w0 N ks b o).length:=by
    intro N
    induction N with
    |zero=>intro ks r b o h;simp[Ii] at h
    |succ N ih2=>
     intro ks r b o h;cases ks with
     |nil=>simp
     |cons e ks=>
      obtain⟨l1,l2,e1,e2,_⟩:=Nc h;cases N with
      |zero=>simp[JO] at e1
      |succ N=>
       have h3:=ih2 ks l2 b (o+5) e2
       have h4:1<=(Oz w0 (N+1) e (nodeAt w0 b o)).length:=by
        simp only[Oz]
        repeat' split
        all_goals simp
       have h5:K3 w0 (N+1+1) (e::ks) b o=Oz w0 (N+1) e (nodeAt w0 b o)++K3 w0 (N+1) ks b (o+5):=rfl;rw[h5];simp only[Ae,Ah];omega
   have h3:=h2 N ks r ab ao HKS.out;simp only[Ae,Ah,Ap] at h1;have:=H62.out;have:=HLEN.out;omega
  refine callsIn_of_wp Tryz.func173 rfl h238 ?_ hro
  simp only[Tryz.ntmps173,Cq,Ah,Ba,Nat.reduceAdd,Nat.reduceSub,Dm,Dl,DT,Dt,Bn,Bg,Gy]
  gi_wp2_with ((try refine⟨hdd _,?_⟩);refine hR'.mono ?_;clear hR';rintro e W2 ⟨rfl,hc4,HJ2⟩)
  gi_loopw [14] (λi wr=>∃(j:Nat),i=.int .i64 j/\j<=len/\Hid (∃(pre':List (Array Value)) (O':Nat->Prop) (m:Nat) (r':List PV),m<=N/\Ii m (ks.drop j)=some r'/\xs=pre'++((K3 w0 m (ks.drop j) ab (ao+j * 5)).map λu=>#[u])++post/\S pre' O' wr/\Kp O W O' wr)) (λi _=>len - (intOf i).toNat)
  case atStart=>
   obtain⟨O',h1,h2⟩:=HJ2.out;exact⟨0,rfl,Ca _,Lib.hid ⟨_,O',N,r,Ai _,HKS.out,by rw[HX.out];simp,h1,h2⟩⟩
  case round=>
   obtain⟨j,rfl,hjl,HJ⟩:=hrel;by_cases hlt:j<len
   ·obtain⟨pre',O',m,r',hm,hr',hx',hs',hk'⟩:=HJ.out;have hjk:j<ks.length:=by have:=HLEN.out;omega
    have hdr:ks.drop j=ks[j]::ks.drop (j+1):=BN hjk;rw[hdr] at hr' hx';cases m with
    |zero=>simp[Ii] at hr'
    |succ m=>
    obtain⟨l1,l2,e1,e2,_⟩:=Nc hr';cases m with
    |zero=>simp[JO] at e1
    |succ m=>
    obtain⟨k',t',st',en',x',hk1,_⟩:=IV e1;have hkj:ks[j]?=some (.agg [.int .i64 k',.str t',.int .i64 st',.int .i64 en',x']):=by rw[Af hjk,hk1]
    obtain⟨hl5,hsp,s',kv',hs1,hI',d0,d1,d2,d3,d4,hkr',hnode⟩:=xe HK.out hkj;clear hl5;dsimp only at hsp hI' d0 d1 d2 d3 d4 hnode;subst hsp
    obtain⟨ka,kn,kc,rfl⟩:∃ka kn kc,kv'=.slice ka kn kc:=by
     obtain⟨_,_,_,_,_,e4,h4⟩:=IV e1;rw[hk1] at e4;cases e4;rcases h4 with⟨rfl,_⟩ | ⟨_,_,_,rfl,_⟩
     ·cases hkr';exact⟨_,_,_,rfl⟩
     ·cases hkr';exact⟨_,_,_,rfl⟩
    have hsm:=HS.out.same _ _ _ hs'
    have hcell:∀i v,i<5->w0.cell? ⟨ab,ao+j * 5+i,Option.none⟩=some v->wr.cell? ⟨ab,ao+j * 5+i,Option.none⟩=some v:=λi v hi hv=>by
     rw[hsm.cell _ _ (hI' i hi)];exact hv
    have c0:wr.cell? ⟨ab,ao+j * 5,Option.none⟩=some (.int .i64 k'):=hcell 0 _ (by decide) d0
    have c1:=hcell 1 _ (by decide) d1
    have c2:=hcell 2 _ (by decide) d2
    have c3:=hcell 3 _ (by decide) d3
    have c4:=hcell 4 _ (by decide) d4
    have hrepk:Rep I w0 (Gy k' s' st' en' (.slice ka kn kc)) ks[j]:=by
     rw[hk1,<-hs1];refine .agg rfl λi p hp=>?_
     match i with
     |0=>simp at hp;subst hp;exact .int _ _
     |1=>simp at hp;subst hp;exact .str _
     |2=>simp at hp;subst hp;exact .int _ _
     |3=>simp at hp;subst hp;exact .int _ _
     |4=>simp at hp;subst hp;exact hkr'
     |i+5=>simp at hp
    have hvs:K3 w0 (m+1+1) (ks[j]::ks.drop (j+1)) ab (ao+j * 5)=Oz w0 (m+1) ks[j] (Gy k' s' st' en' (.slice ka kn kc))++K3 w0 (m+1) (ks.drop (j+1)) ab (ao+(j+1) * 5):=by
     rw[<-hnode,show ao+(j+1) * 5=ao+j * 5+5 from am];rfl
    rw[hvs] at hx'
    have hcall:=HIH.out (m+1) am ks[j] l1 e1 (n - 1) (Gy k' s' st' en' (.slice ka kn kc)) pre' ((K3 w0 (m+1) (ks.drop (j+1)) ab (ao+(j+1) * 5)).map (λu=>#[u])++post) O' (wr.alloc (.cells #[.int .i64 k',.string s',.int .i64 st',.int .i64 en',.slice ka kn kc] 24))
     hrepk (by rw[hx'];simp) H62.out (HS.out.alloc _ _ _ _ hs')
    have hcall':=hcall.mono (R':=λe W3=>e=.returned (.bool true)/\Hid (iC S xs ((K3 w0 (m+1) (ks.drop (j+1)) ab (ao+(j+1) * 5)).map (λu=>#[u])++post) O W W3)) (by
     rintro e W3 ⟨rfl,h⟩
     exact⟨rfl,(h.pre (Kp.alloc O' wr _)).pre hk'⟩)
    clear hcall;have HN:=Lib.hid (show m+1<=N by omega)
    have HE2:=Lib.hid e2;clear d0 d1 d2 d3 d4 hcell hsm hrepk hvs hx' hr' e1 e2 hkr' hI' hnode hkj hk1 hs' hk' hm hdr hs1;dsimp only[Gy] at hcall'
    gi_wp2_with ((try refine⟨hdd _,?_⟩);gi_at_call 173;refine hcall'.mono ?_;clear hcall';rintro e W3 ⟨rfl,HY3⟩)
    obtain⟨pre2,O2,hp2,hs2,hk2⟩:=HY3.out
    go_roundw
    case rel=>exact⟨j+1,by go_num,am,Lib.hid ⟨pre2,O2,m+1,l2,HN.out,HE2.out,by rw[hp2];simp,hs2,hk2⟩⟩
    case measure=>simp[intOf];omega
   ·gi_wp2
    go_ret
    obtain⟨pre',O',m,r',hm,hr',hx',hs',hk'⟩:=HJ.out;have hj:ks.drop j=[]:=Co (by have:=HLEN.out;omega)
    rw[hj] at hx';have hv0:K3 w0 m [] ab (ao+j * 5)=[]:=by cases m<;>rfl
    rw[hv0] at hx';exact⟨rfl,pre',O',by rw[hx'];simp,hs',hk'⟩
end Go.Abs.Z

namespace Go.Abs.Z
open Go.Proofs Go.RowKit Go.Shelf
attribute [local go_sem] Oper.semAt_some
def AzB{L:FuncId}{K:Array Value}{xs:List (Array Value)}{I:Imm}{w:World}(A:∀b x,I b x->b<w.heap.size)
  (h:∀(F:Fence),F.depth=none->(∀f,F.fn f)->F.round=none->∀(n l:Nat) (S:List (Array Value)->(Nat->Prop)->World->Prop),Stg I w S->YOk F Tryz.prog l xs S->∀W,Below w.heap.size w W->S [] (λb=>b<W.heap.size) W->
   CallsIn F n Tryz.prog L (#[.func (.yield l) #[] #[]]++K) W λe W'=>(∃v,e=.returned v)/\∃O,S xs O W'):y9 Tryz.prog L K xs I w:=by
 intro n l J W c Z hY h0
 let S:List (Array Value)->(Nat->Prop)->World->Prop:=λs O W'=>J s O W'/\Same I w W'/\(∀b,O b->b<W'.heap.size)/\w.heap.size<=W'.heap.size
 have i:Same I w W:=⟨λb o h=>cell_of_heap (c.block b (A b _ h)),λb h=>c.block b (A b _ h)⟩
 refine(h (FW none) rfl (λ_=>trivial) rfl n l S ⟨?_,λ_ _ _ h=>h.2.1,λ_ _ _ h=>h.2.2.1⟩ ?_ W c ⟨h0,i,λb h=>h,c.size⟩).mono ?_
 ·rintro s O C R ⟨G,B,E,z⟩ a
  refine⟨Z O s C R none G ⟨a.os,a.tape,a.output,a.size,λk Y _=>a.block k Y⟩ (λr e=>by cases e),B.trans ⟨λb p c=>?_,λb c=>?_⟩ (λ_ _ h=>h),λb c=>Bj (E b c) a.size,Bf z a.size⟩
  ·exact cell_of_heap (a.block b (Bj (A b _ c) z))
  ·exact a.block b (Bj (A b _ c) z)
 ·rintro m D x q O C Q ⟨G,B,E,z⟩
  obtain⟨T,y,d,u,V,hR⟩:=hY D x q O C Q G;refine Ww rfl m ⟨T,y,d,u,V,RoundIn.mono hR ?_⟩
  rintro e W' ⟨rfl,P,N,M,X⟩
  refine⟨rfl,_,⟨P,B.trans N (λ_ _ h=>h),λb c=>?_,Bf z M⟩,M,λb c H=>⟨λj=>?_,λcs t f j=>X b cs t f H j⟩⟩
  ·rcases c with c | c
   ·have:=E b c;omega
   ·exact c.2
  ·rcases j with j | j
   ·exact H j
   ·omega
 ·rintro e W' ⟨U,O,hS⟩
  exact⟨U,O,hS.1⟩
set_option maxRecDepth 100000 in
set_option maxHeartbeats 1000000 in
def oN(F:Fence)(hd:F.depth=none)(hfn:∀f,F.fn f)(hro:F.round=none)(n l:Nat)(I:Imm)(w0:World)(bx off:Nat)(k:Int)(s:ByteArray)(st en:Int)(kv:Value)(N:Nat)(T:PV)(L:List PV)(hL:JO N T=some L)
  (hrep:Rep I w0 (Gy k s st en kv) T) (h62:((Oz w0 N T (Gy k s st en kv)).map λu=>(#[u]:Array Value)).length<=2000000000) (S:List (Array Value)->(Nat->Prop)->World->Prop) (hS:Stg I w0 S)
  (hY:YOk F Tryz.prog l ((Oz w0 N T (Gy k s st en kv)).map λu=>#[u]) S) (W:World) (h0:S [] (λb=>b<W.heap.size) W)
  (c0:W.cell? ⟨bx,off,none⟩=some (.int .i64 k)) (c1:W.cell? ⟨bx,off+1,none⟩=some (.string s)) (c2:W.cell? ⟨bx,off+2,none⟩=some (.int .i64 st)) (c3:W.cell? ⟨bx,off+3,none⟩=some (.int .i64 en)) (c4:W.cell? ⟨bx,off+4,none⟩=some kv) :
  CallsIn F n Tryz.prog 172 #[.func (.yield l) #[] #[],.pointer (some ⟨bx,off,none⟩)] W λe W'=>(∃v,e=.returned v)/\∃O,S ((Oz w0 N T (Gy k s st en kv)).map λu=>#[u]) O W':=by
 have hdd:∀k:Nat,(F.depth.isSome=true->1<=k):=λk h=>by rw[hd] at h;cases h
 have h238:F.fn 173:=hfn 173;have hp:=qO F hd h238 hro l I w0 _ S hS hY N T L hL (n - 1) (Gy k s st en kv) [] [] _ W hrep (by simp) h62 h0
 generalize ((Oz w0 N T (Gy k s st en kv)).map λu=>(#[u]:Array Value))=xs at hp hY h62
 have hp':=hp.mono (R':=λe W1=>e=.returned (.bool true)/\Hid (∃O,S xs O W1)) (by
  rintro e W1 ⟨rfl,pre',O',h1,h2,_⟩
  rw[Az] at h1;subst h1;exact⟨rfl,O',h2⟩)
 clear hp hY hrep hL h62 h0 hS;dsimp only[Gy] at hp';have h237:F.fn 172:=hfn 172;refine callsIn_of_wp Tryz.func172 rfl h237 ?_ hro
 simp only[Tryz.ntmps172,Cq,Ah,Ba,Nat.reduceAdd,Nat.reduceSub,Dm,Dl,DT,Dt,Bn,Bg]
 gi_wp2_with ((try refine⟨hdd _,?_⟩);gi_at_call 173;refine hp'.mono ?_;clear hp';rintro e W1 ⟨rfl,HJ1⟩)
 go_end0
 exact⟨⟨_,rfl⟩,HJ1.out⟩
end Go.Abs.Z

namespace Go.Abs.Z
open Go.Proofs Go.RowKit Go.Shelf
attribute [local go_sem] Oper.semAt_some
def Good(I:Imm)(w:World)(vs:List Value)(l:List PV):Prop:=vs.length=l.length/\∀(j:Nat) (u:Value) (x:PV),vs[j]?=some u->l[j]?=some x->Rep I w u x
def Good.append{I:Imm}{w:World}{vs us:List Value}{l k:List PV}(h:Good I w vs l)(d:Good I w us k):Good I w (vs++us) (l++k):=by
 refine⟨by simp[h.1,d.1],λj u x b a=>?_⟩
 by_cases c:j<vs.length
 ·rw[AR c] at b;rw[AR (by rw[<-h.1];exact c)] at a
  exact h.2 j u x b a
 ·rw[Aq am] at b
  rw[Aq (by rw[<-h.1];omega),<-h.1] at a
  exact d.2 _ u x b a
def Good.cons{I:Imm}{w:World}{v:Value}{y:PV}{vs:List Value}{l:List PV}(c:Rep I w v y)(h:Good I w vs l):Good I w (v::vs) (y::l):=by
 refine⟨by simp[h.1],λj u x a b=>?_⟩
 cases j with
 |zero=>simp at a b;subst a b;exact c
 |succ j=>exact h.2 j u x (by simpa using a) (by simpa using b)
def WL{I:Imm}{w:World}{k st en:Int}{s:ByteArray}{b:Value}{x:PV}(h:Rep I w b x):Rep I w (Gy k s st en b) (.agg [.int .i64 k,.str s.data.toList,.int .i64 st,.int .i64 en,x]):=by
 refine .agg rfl λi p a=>?_
 match i with
 |0=>simp at a;subst a;exact .int _ _
 |1=>simp at a;subst a;exact .str _
 |2=>simp at a;subst a;exact .int _ _
 |3=>simp at a;subst a;exact .int _ _
 |4=>simp at a;subst a;exact h
 |i+5=>simp at a
def qQ{I:Imm}{w:World}:∀(N:Nat),(∀(T:PV) (L:List PV) (v:Value),JO N T=some L->Rep I w v T->Good I w (Oz w N T v) L)/\
  (∀(ks r:List PV) (b o:Nat),Ii N ks=some r->(∀(j:Nat) (e:PV),ks[j]?=some e->(∃m l,JO (m+1) e=some l)->Rep I w (nodeAt w b (o+j * 5)) e)->Good I w (K3 w N ks b o) r):=by
 intro N
 induction N with
 |zero=>exact⟨λT L v h=>by simp[JO] at h,λks r b o h=>by simp[Ii] at h⟩
 |succ N p=>
  refine⟨λT L v h n=>?_,λks r b o h A=>?_⟩
  ·obtain⟨k,t,st,en,x,rfl,E⟩:=IV h;obtain⟨s,G,rfl,rfl,g⟩:=Rb n;rcases E with⟨rfl,rfl⟩ | ⟨o,ks,r,rfl,y,rfl⟩
   ·exact Good.cons n ⟨rfl,λj u x h=>by simp at h⟩
   ·obtain⟨a,len,cap,rfl⟩:∃a len cap,G=.slice (some a) len cap:=by
     obtain⟨a,len,cap,cv,e,_⟩:=(BF.one (bl:=Bl.nil) (.inl g)).FY;exact⟨a,len,cap,e⟩
    refine Good.cons n (p.2 ks r a.block a.off y λj e q d=>?_)
    obtain⟨m,l,d⟩:=d;obtain⟨O,M,K,J,Q,rfl,_⟩:=IV d;obtain⟨_,_,P,C,i,_,_,_,_,_,_,f,c⟩:=xe g q;rw[c,<-i];exact WL f
  ·cases ks with
   |nil=>simp only[Ii] at h;cases h;exact⟨rfl,λj u x h=>by simp[K3] at h⟩
   |cons e ks=>
    obtain⟨B,D,z,F,rfl⟩:=Nc h;cases N with
    |zero=>simp[JO] at z
    |succ N=>
     refine Good.append (p.1 e B _ z (by have:=A 0 e rfl ⟨N,B,z⟩;simpa using this)) (p.2 ks D b (o+5) F λj H q d=>?_)
     have:=A (j+1) H (by simpa using q) d
     rw[show o+5+j * 5=o+(j+1) * 5 from am];exact this
def vT{v:Array Value}(h:v.size=1):v=#[v.getD 0 undef]:=by
 obtain⟨l⟩:=v
 match l,h with
 |[a],_=>rfl
def y8(d:FuncId)(a:List PV)(xs:List (List PV)):Prop:=
 ∀(I:Imm) (w:World) (cs:Array Value),(∀b x,I b x->b<w.heap.size)->cs.size=a.length->(∀(i:Nat) (p:PV),a[i]?=some p->Rep I w (cs.getD i undef) p)->
  ∃vs:List (Array Value),y9 Tryz.prog d cs vs I w/\vs.length=xs.length/\∀(j:Nat) (v:Array Value) (x:List PV),vs[j]?=some v->xs[j]?=some x->v.size=x.length/\∀(i:Nat) (p:PV),x[i]?=some p->Rep I w (v.getD i undef) p/\p.free=true/\p.Ag=p
def yJ{I:Imm}{w:World}{vs:List Value}{l:List PV}(h:Good I w vs l):(vs.map λu=>(#[u]:Array Value)).length=(l.map λx=>[x.Ag]).length/\
  ∀(j:Nat) (v:Array Value) (x:List PV),(vs.map λu=>(#[u]:Array Value))[j]?=some v->(l.map λx=>[x.Ag])[j]?=some x->v.size=x.length/\∀(i:Nat) (p:PV),x[i]?=some p->Rep I w (v.getD i undef) p/\p.free=true/\p.Ag=p:=by
 refine⟨by simp[h.1],λj v x c b=>?_⟩
 rw[Al] at c b;obtain⟨u,d,rfl⟩:=Ac.1 c;obtain⟨y,e,rfl⟩:=Ac.1 b;refine⟨rfl,λi p a=>?_⟩
 cases i with
 |zero=>
  simp at a;subst a;have:=h.2 j u y d e;exact⟨this.Ag,by rw[Di];exact Tc this,Oo y⟩
 |succ i=>simp at a
def oM{T:PV}{L:List PV}(o:JO 1000000 T=some L)(p:small L=true):y8 172 [.vptr T] (L.map λx=>[x.Ag]):=by
 intro I w cs u i a;have V:=a 0 _ rfl;obtain⟨f,off,cv,U,R,b,c⟩:=(BF.one (bl:=Bl.nil) (.inl V)).Kn;have d:=vT i;rw[U] at d;subst d;obtain⟨k,t,st,en,x,rfl,X⟩:=IV o;have C:=(BF.one (bl:=Bl.nil) (.inl (c 0 _ rfl))).CJ;obtain⟨s,A,rfl⟩:=(BF.one (bl:=Bl.nil) (.inl (c 1 _ rfl))).EC;have H:=(BF.one (bl:=Bl.nil) (.inl (c 2 _ rfl))).CJ;have M:=(BF.one (bl:=Bl.nil) (.inl (c 3 _ rfl))).CJ;have J:=c 4 x rfl;have q:=b 0 _ rfl;have d1:=b 1 _ rfl;have d2:=b 2 _ rfl;have y:=b 3 _ rfl;have G:=b 4 _ rfl;rw[C] at q;rw[A] at d1;rw[H] at d2;rw[M] at y;have r:=WL (k:=k) (st:=st) (en:=en) (s:=s) J;have z:=(qQ 1000000).1 _ L _ o r;obtain⟨N,a2⟩:=yJ z;refine⟨_,AzB u λF P g m n l S E D W Q h=>?_,N,a2⟩
 have e:∀j v,j<5->w.cell? ⟨f,off+j,none⟩=some v->W.cell? ⟨f,off+j,none⟩=some v:=λj v K B=>by
  have O:(PV.agg [.int .i64 k,.str s.data.toList,.int .i64 st,.int .i64 en,x]).cells.length=5:=rfl;have:=u _ _ (R j _ (Af (by rw[O];exact K)))
  rw[cell_of_heap (Q.block f this)];exact B
 refine oN F P g m n l I w f off k s st en (cv 4) 1000000 _ L o r ?_ S E D W h (e 0 _ (by decide) q) (e 1 _ (by decide) d1) (e 2 _ (by decide) d2) (e 3 _ (by decide) y) (e 4 _ (by decide) G)
 rw[Ap,z.1];have:=of_decide_eq_true p;omega
end Go.Abs.Z
