/- A part of the proof: I5 I4 Sh PJ PY ShR PR P0 M0. -/
import Derived.Test.YtgkkkgbknfhbaaaGreatDoorKan
import Derived.Shelf.Strings.Builder1
import Derived.Shelf.Strings.Builder2
import Derived.Shelf.Strings.OnBuilder
import Derived.Shelf.Strings.BuilderF
import Derived.Shelf.Strings.BuilderK
import Derived.Shelf.Strings.Count
import Derived.Shelf.Strings.Repeat
import Derived.Test.YtgkkkgbknfhbaaaGreatDoorProg
import Derived.Test.YtgkkkgbknfhbaaaGreatDoorKal
import Derived.Shelf.Strings.Replace

set_option linter.all false
namespace Go.Abs.Z
open Go.Proofs Go.RowKit Go.Shelf
attribute [local go_sem] Oper.semAt_some
def Jw(k a e st en:Int):Bool:=k != 5&&(decide (st<=a)&&decide (e<=en))
set_option maxRecDepth 100000 in
set_option maxHeartbeats 2000000 in
def Xj(F:Fence)(hd:F.depth=none)(hfn:∀f,F.fn f)(hro:F.round=none)(n:Nat)(W:World)(k f a e kd st en:Int)(sx:ByteArray)(kv:Value):
  CallsIn F n Tryz.prog 160 #[XX k f a e,.agg #[.int .i64 kd,.string sx,.int .i64 st,.int .i64 en,kv]] W λx W'=>x=.returned (.bool (Jw k a e st en))/\Below W.heap.size W W':=by
 have hdd:∀k:Nat,(F.depth.isSome=true->1<=k):=λk h=>by rw[hd] at h;cases h
 have h79:F.fn 160:=hfn 160;dsimp only[XX];refine callsIn_of_wp Tryz.func160 rfl h79 ?_ hro
 simp only[Tryz.ntmps160,Cq,Ah,Ba,Nat.reduceAdd,Nat.reduceSub,Dm,Dl,DT,Dt,Bn,Bg]
 gi_wp2
 all_goals go_ret
 all_goals refine⟨?_,((Below.refl W.heap.size W).alloc (Ai _) _).alloc (by simp) _⟩
 ·rename_i h1;simp[Jw,h1]
 ·rename_i h1 h2;simp[Jw,h1,h2]
 ·rename_i h1 h2;simp[Jw,Int.not_le.2 h2]
set_option maxRecDepth 100000 in
set_option maxHeartbeats 2000000 in
def pK(F:Fence)(hd:F.depth=none)(hfn:∀f,F.fn f)(hro:F.round=none)(n:Nat)(W:World)(bt:Nat)(k f a e kd st en:Int)(sx:ByteArray)(kv:Value)
  (d0:W.cell? ⟨bt,0,none⟩=some (.int .i64 k)) (d1:W.cell? ⟨bt,1,none⟩=some (.int .i64 f)) (d2:W.cell? ⟨bt,2,none⟩=some (.int .i64 a)) (d3:W.cell? ⟨bt,3,none⟩=some (.int .i64 e)) :
  CallsIn F n Tryz.prog 162 #[.agg #[.int .i64 kd,.string sx,.int .i64 st,.int .i64 en,kv],.pointer (some ⟨bt,0,none⟩)] W λx W'=>x=.returned (.bool (Jw k a e st en))/\Below W.heap.size W W':=by
 have hdd:∀k:Nat,(F.depth.isSome=true->1<=k):=λk h=>by rw[hd] at h;cases h
 have h81:F.fn 162:=hfn 162;have h79:F.fn 160:=hfn 160;have hc:=Xj F hd hfn hro (n - 1) (W.alloc (.cells #[.int .i64 kd,.string sx,.int .i64 st,.int .i64 en,kv] 24)) k f a e kd st en sx kv;dsimp only[XX] at hc
 have hc':=hc.mono (R':=λx W'=>x=.returned (.bool (Jw k a e st en))/\Hid (Below W.heap.size W W')) (by
  rintro x W' ⟨rfl,hb⟩
  exact⟨rfl,((Below.refl W.heap.size W).alloc (Ai _) _).trans (hb.mono (by simp))⟩)
 clear hc;have e0:=cell_below (Below.alloc (Below.refl W.heap.size W) (Ai _) (.cells #[.int .i64 kd,.string sx,.int .i64 st,.int .i64 en,kv] 24)) d0;have e1:=cell_below (Below.alloc (Below.refl W.heap.size W) (Ai _) (.cells #[.int .i64 kd,.string sx,.int .i64 st,.int .i64 en,kv] 24)) d1;have e2:=cell_below (Below.alloc (Below.refl W.heap.size W) (Ai _) (.cells #[.int .i64 kd,.string sx,.int .i64 st,.int .i64 en,kv] 24)) d2;have e3:=cell_below (Below.alloc (Below.refl W.heap.size W) (Ai _) (.cells #[.int .i64 kd,.string sx,.int .i64 st,.int .i64 en,kv] 24)) d3;refine callsIn_of_wp Tryz.func162 rfl h81 ?_ hro
 simp only[Tryz.ntmps162,Cq,Ah,Ba,Nat.reduceAdd,Nat.reduceSub,Dm,Dl,DT,Dt,Bn,Bg]
 gi_wp2_with ((try refine⟨hdd _,?_⟩);gi_at_call 160;refine hc'.mono ?_;clear hc';rintro x W' ⟨rfl,hb⟩)
 all_goals go_ret
 exact⟨rfl,hb.out⟩
set_option maxRecDepth 100000 in
set_option maxHeartbeats 2000000 in
def xC(F:Fence)(hd:F.depth=none)(hfn:∀f,F.fn f)(hro:F.round=none)(n:Nat)(W:World)(bt:Nat)(k f a e:Int)
  (d0:W.cell? ⟨bt,0,none⟩=some (.int .i64 k)) (d1:W.cell? ⟨bt,1,none⟩=some (.int .i64 f)) (d2:W.cell? ⟨bt,2,none⟩=some (.int .i64 a)) (d3:W.cell? ⟨bt,3,none⟩=some (.int .i64 e))
  (ad:Option Addr) (len cap:Nat) (h62:len<=1000000000) (hsp:len≠0->∃ab ao,ad=some ⟨ab,ao,none⟩) (kd st en:Nat->Int) (sx:Nat->ByteArray) (kv:Nat->Value)
  (hat:∀ab ao,ad=some ⟨ab,ao,none⟩->∀j,j<len->W.cell? ⟨ab,ao+j * 5,none⟩=some (.int .i64 (kd j))/\W.cell? ⟨ab,ao+j * 5+1,none⟩=some (.string (sx j))/\W.cell? ⟨ab,ao+j * 5+2,none⟩=some (.int .i64 (st j))/\W.cell? ⟨ab,ao+j * 5+3,none⟩=some (.int .i64 (en j))/\W.cell? ⟨ab,ao+j * 5+4,none⟩=some (kv j)) :
  CallsIn F n Tryz.prog 241 #[.slice ad len cap,.func (.func 162) #[] #[.pointer (some ⟨bt,0,none⟩)]] W λx W'=>(∃i:Int,x=.returned (.int .i64 i)/\((∃j,j<len/\i=j/\Jw k a e (st j) (en j)=true)\/(i=-1/\∀j,j<len->Jw k a e (st j) (en j)=false)))/\Below W.heap.size W W':=by
 have hdd:∀k:Nat,(F.depth.isSome=true->1<=k):=λk h=>by rw[hd] at h;cases h
 have h81:F.fn 162:=hfn 162;have h146:F.fn 241:=hfn 241;have HSP:=Lib.hid hsp;clear hsp;have HAT:=Lib.hid hat;clear hat;have hlen62:len<2000000000:=am
 have D0:=Lib.hid d0;clear d0;have D1:=Lib.hid d1;clear d1;have D2:=Lib.hid d2;clear d2;have D3:=Lib.hid d3;clear d3;refine callsIn_of_wp Tryz.func241 rfl h146 ?_ hro
 simp only[Tryz.ntmps241,Cq,Ah,Ba,Nat.reduceAdd,Nat.reduceSub,Dm,Dl,DT,Dt,Bn,Bg]
 gi_wp2
 gi_loopw [8] (λi wr=>∃(j:Nat),i=.int .i64 j/\j<=len/\Hid (Below W.heap.size W wr/\∀i,i<j->Jw k a e (st i) (en i)=false)) (λi _=>len - (intOf i).toNat)
 case atStart=>exact⟨0,rfl,Ca _,Lib.hid ⟨Below.refl _ _,λi h=>am⟩⟩
 case round=>
  obtain⟨j,rfl,hjl,HJ⟩:=hrel;by_cases hlt:j<len
  ·obtain⟨ab,ao,rfl⟩:=HSP.out am
   obtain⟨hbl,hno⟩:=HJ.out;obtain⟨k0,k1,k2,k3,k4⟩:=HAT.out ab ao rfl j hlt;have c0:=cell_below hbl k0;have c1:=cell_below hbl k1;have c2:=cell_below hbl k2;have c3:=cell_below hbl k3;have c4:=cell_below hbl k4;clear k0 k1 k2 k3 k4;have hc:=pK F hd hfn hro (n - 1) wr bt k f a e (kd j) (st j) (en j) (sx j) (kv j) (cell_below hbl D0.out) (cell_below hbl D1.out) (cell_below hbl D2.out) (cell_below hbl D3.out);cases hB:Jw k a e (st j) (en j) with
   |true=>
    rw[hB] at hc
    have hc':=hc.mono (R':=λx W'=>x=.returned (.bool true)/\Hid (Below W.heap.size W W')) (by
     rintro x W' ⟨rfl,hb⟩
     exact⟨rfl,hbl.trans (hb.mono hbl.size)⟩)
    clear hc
    gi_wp2_with ((try refine⟨hdd _,?_⟩);gi_at_call 162;refine hc'.mono ?_;clear hc';rintro x W1 ⟨rfl,HB⟩)
    go_ret
    exact⟨⟨_,rfl,.inl ⟨j,hlt,rfl,hB⟩⟩,HB.out⟩
   |false=>
    rw[hB] at hc
    have hc':=hc.mono (R':=λx W'=>x=.returned (.bool false)/\Hid (Below W.heap.size W W')) (by
     rintro x W' ⟨rfl,hb⟩
     exact⟨rfl,hbl.trans (hb.mono hbl.size)⟩)
    clear hc
    gi_wp2_with ((try refine⟨hdd _,?_⟩);gi_at_call 162;refine hc'.mono ?_;clear hc';rintro x W1 ⟨rfl,HB⟩)
    case roundEnd=>
     exact⟨⟨j+1,by go_num,am,Lib.hid ⟨HB.out,λi hi=>by
      rcases Be i j with h | h
      ·exact hno i h
      ·obtain rfl:i=j:=am
       exact hB⟩⟩,by simp only[intOf];omega⟩
  ·gi_wp2
   go_ret
   exact⟨⟨_,rfl,.inr ⟨rfl,λi hi=>HJ.out.2 i am⟩⟩,HJ.out.1⟩
def RN(B:Nat->Bool):Nat->Bool
 |0=>false
 |n+1=>RN B n||B n
def QW{B:Nat->Bool}:∀{n j:Nat},j<n->B j=true->RN B n=true
 |0,j,h,_=>am
 |n+1,j,h,c=>by
  rcases Be j n with b | b
  ·rw[RN,QW b c];rfl
  ·obtain rfl:j=n:=am
   rw[RN,c,Bool.or_true]
def UX{B:Nat->Bool}:∀{n:Nat},(∀j,j<n->B j=false)->RN B n=false
 |0,_=>rfl
 |n+1,h=>by rw[RN,UX λj b=>h j am,h n am];rfl
set_option maxRecDepth 100000 in
set_option maxHeartbeats 2000000 in
def gP(F:Fence)(hd:F.depth=none)(hfn:∀f,F.fn f)(hro:F.round=none)(n:Nat)(W:World)(bt:Nat)(k f a e:Int)
  (d0:W.cell? ⟨bt,0,none⟩=some (.int .i64 k)) (d1:W.cell? ⟨bt,1,none⟩=some (.int .i64 f)) (d2:W.cell? ⟨bt,2,none⟩=some (.int .i64 a)) (d3:W.cell? ⟨bt,3,none⟩=some (.int .i64 e))
  (ad:Option Addr) (len cap:Nat) (h62:len<=1000000000) (hsp:len≠0->∃ab ao,ad=some ⟨ab,ao,none⟩) (kd st en:Nat->Int) (sx:Nat->ByteArray) (kv:Nat->Value)
  (hat:∀ab ao,ad=some ⟨ab,ao,none⟩->∀j,j<len->W.cell? ⟨ab,ao+j * 5,none⟩=some (.int .i64 (kd j))/\W.cell? ⟨ab,ao+j * 5+1,none⟩=some (.string (sx j))/\W.cell? ⟨ab,ao+j * 5+2,none⟩=some (.int .i64 (st j))/\W.cell? ⟨ab,ao+j * 5+3,none⟩=some (.int .i64 (en j))/\W.cell? ⟨ab,ao+j * 5+4,none⟩=some (kv j)) :
  CallsIn F n Tryz.prog 161 #[.slice ad len cap,.func (.func 162) #[] #[.pointer (some ⟨bt,0,none⟩)]] W λx W'=>x=.returned (.bool (RN (λj=>Jw k a e (st j) (en j)) len))/\Below W.heap.size W W':=by
 have hdd:∀k:Nat,(F.depth.isSome=true->1<=k):=λk h=>by rw[hd] at h;cases h
 have h80:F.fn 161:=hfn 161;have h146:F.fn 241:=hfn 241
 have hc:=(xC F hd hfn hro (n - 1) W bt k f a e d0 d1 d2 d3 ad len cap h62 hsp kd st en sx kv hat).mono (R':=λx W'=>∃i:Int,x=.returned (.int .i64 i)/\decide (0<=i)=RN (λj=>Jw k a e (st j) (en j)) len/\Hid (Below W.heap.size W W')) (by
  rintro x W' ⟨⟨i,rfl,h⟩,hb⟩
  refine⟨i,rfl,?_,hb⟩
  rcases h with⟨j,hj,rfl,hB⟩ | ⟨rfl,hB⟩
  ·rw[QW (B:=λj=>Jw k a e (st j) (en j)) hj hB];exact decide_eq_true am
  ·rw[UX (B:=λj=>Jw k a e (st j) (en j)) hB];rfl)
 clear hat hsp d0 d1 d2 d3;generalize RN (λj=>Jw k a e (st j) (en j)) len=r at hc
 refine callsIn_of_wp Tryz.func161 rfl h80 ?_ hro
 simp only[Tryz.ntmps161,Cq,Ah,Ba,Nat.reduceAdd,Nat.reduceSub,Dm,Dl,DT,Dt,Bn,Bg]
 gi_wp2_with ((try refine⟨hdd _,?_⟩);gi_at_call 241;refine hc.mono ?_;clear hc;rintro x W1 ⟨i,rfl,hi,HB⟩)
 go_ret
 exact⟨rfl,HB.out⟩
end Go.Abs.Z

namespace Go.Abs.Z
open Go.Proofs Go.RowKit Go.Shelf
def tkI(i:Nat):PV->Int
 |.agg cs=>match cs[i]? with | some (.int _ z)=>z | _=>0
 |_=>0
def Lj(t:PV):Value:=XX (tkI 0 t) (tkI 1 t) (tkI 2 t) (tkI 3 t)
def jO(t:PV):Prop:=∃k f a e,t=.agg [.int .i64 k,.int .i64 f,.int .i64 a,.int .i64 e]
def pY(t:PV)(ks:List PV):Bool:=RN (λj=>Jw (tkI 0 t) (tkI 2 t) (tkI 3 t) (tkI 2 (ks.getD j .nils)) (tkI 3 (ks.getD j .nils))) ks.length
def ownB(st en kd:Int)(ks:List PV)(t:PV):Bool:=(Jw (tkI 0 t) (tkI 2 t) (tkI 3 t) st en||(tkI 0 t==5&&kd==2))&&!(pY t ks)
def TU{e:PV}(h:ai e=true):∃k s st en x,e=.agg [.int .i64 k,.str s,.int .i64 st,.int .i64 en,x]/\Oi x=true:=by
 unfold ai at h
 split at h
 ·exact⟨_,_,_,_,_,rfl,h⟩
 ·cases h
def xD{t n:PV}{b:Bool}(h:inP t n=some b):jO t:=by
 unfold inP at h
 split at h
 ·exact⟨_,_,_,_,rfl⟩
 ·cases h
def yI{B:Nat->Bool}:∀{n:Nat},RN B n=true↔∃j,j<n/\B j=true:=by
 intro n;constructor
 ·intro h
  induction n with
  |zero=>cases h
  |succ n c=>
   rw[RN,Dk] at h;rcases h with h | h
   ·obtain⟨j,b,a⟩:=c h;exact⟨j,am,a⟩
   ·exact⟨n,am,h⟩
 ·rintro⟨j,b,a⟩;exact QW b a
def nH{t:PV}(g:jO t):∀(ks:List PV),ks.all ai=true->yH t ks=some (ks.any λq=>Jw (tkI 0 t) (tkI 2 t) (tkI 3 t) (tkI 2 q) (tkI 3 q))
 |[],_=>rfl
 |q::ks,h=>by
  rw[Dv,Aj] at h;obtain⟨k,f,a,e,rfl⟩:=g;obtain⟨kd,s,st,en,x,rfl,d⟩:=TU h.1
  have c:inP (.agg [.int .i64 k,.int .i64 f,.int .i64 a,.int .i64 e]) (.agg [.int .i64 kd,.str s,.int .i64 st,.int .i64 en,x])=some (Jw k a e st en):=by
   show(if Oi x then some (Jw k a e st en) else none)=_
   rw[d];rfl
  rw[yH,c,List.any_cons];show _=some (Jw k a e st en||_)
  cases i:Jw k a e st en with
  |true=>rfl
  |false=>exact nH ⟨k,f,a,e,rfl⟩ ks h.2
def Aj0{t:PV}(d:jO t){ks:List PV}(h:ks.all ai=true):yH t ks=some (pY t ks):=by
 rw[nH d ks h];congr 1;rw[Bool.eq_iff_iff,List.any_eq_true];unfold pY;rw[yI];constructor
 ·rintro⟨q,c,b⟩
  obtain⟨j,a⟩:=BP.1 c;exact⟨j,(Ad.1 a).1,by rw[BA,a];exact b⟩
 ·rintro⟨j,a,b⟩
  refine⟨ks[j],Cg a,?_⟩
  rwa [BA,Af a] at b
def l9{t:PV}{kd st en:Int}{s:List UInt8}{x:PV}{ks:List PV}{b:Bool}(m:Oi x=true)(l:ks.all ai=true)(h:AYV t (.agg [.int .i64 kd,.str s,.int .i64 st,.int .i64 en,x]) kd ks=some b):jO t/\b=ownB st en kd ks t:=by
 unfold AYV at h
 split at h
 ·rename_i p g r' c;have d:=xD c;refine⟨d,?_⟩
  have o:=Aj0 d l;obtain⟨k,f,a,e,n⟩:=d;cases n
  have j:inP (.agg [.int .i64 g,.int .i64 f,.int .i64 a,.int .i64 e]) (.agg [.int .i64 kd,.str s,.int .i64 st,.int .i64 en,x])=some (Jw g a e st en):=by
   show(if Oi x then some (Jw g a e st en) else none)=_
   rw[m];rfl
  rw[j] at c;cases c;rw[o] at h;show b=((Jw g a e st en||(g==5&&kd==2))&&!(pY _ ks))
  split at h
  ·rename_i i;rw[i];cases h;rfl
  ·rename_i i;rw[Bool.eq_false_iff.2 i];cases h;rfl
 ·cases h
def Tw{kd st en:Int}{s:List UInt8}{x:PV}{ks:List PV}(c:Oi x=true)(d:ks.all ai=true):∀(ts l:List PV),eY (.agg [.int .i64 kd,.str s,.int .i64 st,.int .i64 en,x]) kd ks ts=some l->(∀t∈ts,jO t)/\l=ts.filter (ownB st en kd ks)
 |[],l,h=>by cases h;exact⟨λt h=>(by cases h),rfl⟩
 |t::ts,l,h=>by
  rw[eY] at h
  split at h
  ·rename_i m g k;obtain⟨e,i⟩:=l9 c d g;obtain⟨j,f⟩:=Tw c d ts m k;cases h;refine⟨λu b=>?_,by rw[EU,<-i,if_pos rfl,f]⟩
   rcases AU.1 b with rfl | b
   ·exact e
   ·exact j u b
  ·rename_i m g k;obtain⟨e,i⟩:=l9 c d g;obtain⟨j,f⟩:=Tw c d ts m k;cases h;refine⟨λu b=>?_,by rw[EU,<-i,if_neg (by decide),f]⟩
   rcases AU.1 b with rfl | b
   ·exact e
   ·exact j u b
  ·cases h
def AqM{I:Imm}{w:World}{t:PV}(h:jO t):Rep I w (Lj t) t:=by
 obtain⟨k,f,a,e,rfl⟩:=h;refine .agg rfl λi r b=>?_
 match i with
 |0=>simp at b;subst b;exact .int _ _
 |1=>simp at b;subst b;exact .int _ _
 |2=>simp at b;subst b;exact .int _ _
 |3=>simp at b;subst b;exact .int _ _
 |i+4=>simp at b
def AUF{K:FuncId}{H:Array Value}{xs:List (Array Value)}{I:Imm}{w:World}(A:∀b x,I b x->b<w.heap.size)
  (h:∀(n l:Nat) (S:List (Array Value)->(Nat->Prop)->World->Prop),Stg I w S->(∀s O W,S s O W->w.heap.size<=W.heap.size)->YOk (FW none) Tryz.prog l xs S->∀W,Below w.heap.size w W->S [] (λb=>b<W.heap.size) W->
   CallsIn (FW none) n Tryz.prog K (#[.func (.yield l) #[] #[]]++H) W λe W'=>(∃v,e=.returned v)/\∃O,S xs O W'):y9 Tryz.prog K H xs I w:=by
 intro n l J W c Y hY h0
 let S:List (Array Value)->(Nat->Prop)->World->Prop:=λs O W'=>J s O W'/\Same I w W'/\(∀b,O b->b<W'.heap.size)/\w.heap.size<=W'.heap.size
 have i:Same I w W:=⟨λb o h=>cell_of_heap (c.block b (A b _ h)),λb h=>c.block b (A b _ h)⟩
 refine(h n l S ⟨?_,λ_ _ _ h=>h.2.1,λ_ _ _ h=>h.2.2.1⟩ (λ_ _ _ h=>h.2.2.2) ?_ W c ⟨h0,i,λb h=>h,c.size⟩).mono ?_
 ·rintro s O C Q ⟨F,B,E,z⟩ a
  refine⟨Y O s C Q none F ⟨a.os,a.tape,a.output,a.size,λk X _=>a.block k X⟩ (λr e=>by cases e),B.trans ⟨λb p c=>?_,λb c=>?_⟩ (λ_ _ h=>h),λb c=>Bj (E b c) a.size,Bf z a.size⟩
  ·exact cell_of_heap (a.block b (Bj (A b _ c) z))
  ·exact a.block b (Bj (A b _ c) z)
 ·rintro m D x q O C P ⟨F,B,E,z⟩
  obtain⟨R,y,d,u,U,Z⟩:=hY D x q O C P F;refine Ww rfl m ⟨R,y,d,u,U,RoundIn.mono Z ?_⟩
  rintro e W' ⟨rfl,N,M,L,V⟩
  refine⟨rfl,_,⟨N,B.trans M (λ_ _ h=>h),λb c=>?_,Bf z L⟩,L,λb c G=>⟨λj=>?_,λcs t f j=>V b cs t f G j⟩⟩
  ·rcases c with c | c
   ·have:=E b c;omega
   ·exact c.2
  ·rcases j with j | j
   ·exact G j
   ·omega
 ·rintro e W' ⟨T,O,hS⟩
  exact⟨T,O,hS.1⟩
def GG{I:Imm}{w:World}{a:Addr}{len cap d:Nat}{g:Bool}{es:List PV}(h:Rep I w (.slice (some a) len cap) (.slice g d es)){j i:Nat}{e p:PV}(b:es[j]?=some e)(c:e.cells[i]?=some p):
  ∃u,(∀W,Same I w W->W.cell? ⟨a.block,a.off+j * d+i,none⟩=some u)/\Rep I w u p:=by
 cases h with
 |slice cv n q r o k l m=>exact⟨_,λW f=>(f.cell _ _ (k j _ i _ b c)).trans (l j _ i _ b c),m j _ i _ b c⟩
structure BqT(I:Imm)(w:World)(v:Value)(ks:List PV)(ad:Option Addr)(len cap:Nat)(sx:Nat->ByteArray)(kv:Nat->Value):Prop where
 hval:v=.slice ad len cap
 hlen:len=ks.length
 spot:len≠0->∃ab ao,ad=some ⟨ab,ao,none⟩
 cells:∀ab ao,ad=some ⟨ab,ao,none⟩->∀W,Same I w W->∀j,j<len->W.cell? ⟨ab,ao+j * 5,none⟩=some (.int .i64 (tkI 0 (ks.getD j .nils)))/\W.cell? ⟨ab,ao+j * 5+1,none⟩=some (.string (sx j))/\
  W.cell? ⟨ab,ao+j * 5+2,none⟩=some (.int .i64 (tkI 2 (ks.getD j .nils)))/\W.cell? ⟨ab,ao+j * 5+3,none⟩=some (.int .i64 (tkI 3 (ks.getD j .nils)))/\W.cell? ⟨ab,ao+j * 5+4,none⟩=some (kv j)
def Az8{I:Imm}{w:World}{v:Value}{z:PV}{ks:List PV}(h:Rep I w v z)(k:fJ z=some ks)(p:ks.all ai=true):∃P len cap R M,BqT I w v ks P len cap R M:=by
 unfold fJ at k
 split at k
 ·cases k;have:=(BF.one (bl:=Bl.nil) (.inl h)).F6;exact⟨none,0,0,λ_=>⟨#[]⟩,λ_=>undef,this,rfl,λh=>absurd rfl h,λt ao e=>by cases e⟩
 ·cases k;obtain⟨a,len,cap,cv,rfl,b,_,q,_⟩:=(BF.one (bl:=Bl.nil) (.inl h)).FY
  have g:∀j,j<len->∃i o n l d,ks[j]?=some (.agg [.int .i64 i,.str o,.int .i64 n,.int .i64 l,d]):=λj u=>by
   have f:j<ks.length:=am
   obtain⟨i,o,n,l,d,e,_⟩:=TU (Au.1 p _ (Cg f));exact⟨i,o,n,l,d,by rw[Af f,e]⟩
  refine⟨some a,len,cap,λj=>match w.cell? ⟨a.block,a.off+j * 5+1,none⟩ with | some (.string s)=>s | _=>⟨#[]⟩,λj=>(w.cell? ⟨a.block,a.off+j * 5+4,none⟩).getD undef,rfl,b,λO=>?_,λt ao e W m j u=>?_⟩
  ·have:=q (λe=>by rw[e] at b;exact O b)
   obtain⟨t,ao,r⟩:=a;exact⟨t,ao,by rw[show r=none from this]⟩
  ·cases e;obtain⟨i,o,n,l,d,c⟩:=g j u;obtain⟨Y,C,L⟩:=GG (i:=0) h c rfl;obtain⟨S,y,F⟩:=GG (i:=1) h c rfl;obtain⟨T,c2,N⟩:=GG (i:=2) h c rfl;obtain⟨X,D,H⟩:=GG (i:=3) h c rfl;obtain⟨V,x,U⟩:=GG (i:=4) h c rfl;have G:=(BF.one (bl:=Bl.nil) (.inl L)).CJ;obtain⟨s,J,rfl⟩:=(BF.one (bl:=Bl.nil) (.inl F)).EC;have Q:=(BF.one (bl:=Bl.nil) (.inl N)).CJ;have E:=(BF.one (bl:=Bl.nil) (.inl H)).CJ;subst G J Q E;have A:ks.getD j .nils=.agg [.int .i64 i,.str s.data.toList,.int .i64 n,.int .i64 l,d]:=by rw[BA,c];rfl
   rw[A];have B:=y w (Same.refl _ _);have K:=x w (Same.refl _ _);exact⟨C W m,by rw[B];exact y W m,c2 W m,D W m,by rw[K];exact x W m⟩
 ·cases k
def AxI{o:Bool}{s0 s2 tx:List UInt8}{i1 i3 i4 kd st en:Int}{k0 N:PV}{b ks:List PV}{bb:Bool}{l:List PV}(hk0:Oi k0=true)(hkp:Oi N=true)(X:fJ N=some ks)
  (hl:eY (.agg [.int .i64 kd,.str tx,.int .i64 st,.int .i64 en,N]) kd ks b=some l) (hst:small b=true) (hsk:small ks=true) (D:ks.all ai=true) :
  y8 159 [.vptr (.agg [.str s0,.int .i64 i1,.str s2,.int .i64 i3,.int .i64 i4,k0,.slice o 4 b,.bool bb]),.vptr (.agg [.int .i64 kd,.str tx,.int .i64 st,.int .i64 en,N])] (l.map λx=>[x.Ag]):=by
 intro I w cs hI M r;obtain⟨L,rfl⟩:=Tw hkp D b l hl;have h0:=r 0 _ rfl;have h1:=r 1 _ rfl;obtain⟨P,ox,cv,ev,Z,i2,U⟩:=(BF.one (bl:=Bl.nil) (.inl h0)).Kn;obtain⟨bn,on,cn,Y,G,E,J⟩:=(BF.one (bl:=Bl.nil) (.inl h1)).Kn
 have H:cs=#[cs.getD 0 undef,cs.getD 1 undef]:=by
  apply Array.ext
  ·simpa using M
  ·intro i hi1 hi2;have:cs.size=2:=by simpa using M
   match i with
   |0=>simp[Array.getD,this]
   |1=>simp[Array.getD,this]
   |i+2=>omega
 rw[ev,Y] at H;subst H;have v:=U 6 _ rfl;have c6:=i2 6 _ rfl;have I6:=Z 6 _ rfl;obtain⟨a,len,cap,cv',Q,q,_,R,_⟩:=(BF.one (bl:=Bl.nil) (.inl v)).FY;rw[Q] at c6 v;obtain⟨ad,p,m,sx,kv,z⟩:=Az8 (J 4 _ rfl) X D;obtain⟨y,ex,rfl⟩:=(BF.one (bl:=Bl.nil) (.inl (J 1 _ rfl))).EC;have q0:=(BF.one (bl:=Bl.nil) (.inl (J 0 _ rfl))).CJ;have q2:=(BF.one (bl:=Bl.nil) (.inl (J 2 _ rfl))).CJ;have q3:=(BF.one (bl:=Bl.nil) (.inl (J 3 _ rfl))).CJ;have p0:=E 0 _ rfl;have p1:=E 1 _ rfl;have p2:=E 2 _ rfl;have p3:=E 3 _ rfl;have p4:=E 4 _ rfl;rw[q0] at p0;rw[ex] at p1;rw[q2] at p2;rw[q3] at p3;rw[z.hval] at p4;have hs:=of_decide_eq_true hst;have hs2:=of_decide_eq_true hsk
 let d:Nat->PV:=λj=>b.getD j .nils
 have s:∀j,j<len->b[j]?=some (d j):=λj g=>by
  have hj':j<b.length:=am
  show _=some (b.getD j .nils);rw[BA,Af hj'];rfl
 have K:∀j,j<len->jO (d j):=λj g=>L _ (Am (s j g))
 let V:Nat->List (Array Value):=λj=>((b.take j).filter (ownB st en kd ks)).map λt=>#[Lj t]
 have hV:∀j,j<len->V (j+1)=if(Jw (tkI 0 (d j)) (tkI 2 (d j)) (tkI 3 (d j)) st en||(tkI 0 (d j)==5&&kd==2))&&!(pY (d j) ks) then V j++[#[XX (tkI 0 (d j)) (tkI 1 (d j)) (tkI 2 (d j)) (tkI 3 (d j))]] else V j:=λj g=>by
  show(((b.take (j+1)).filter (ownB st en kd ks)).map λt=>(#[Lj t]:Array Value))=_
  rw[List.take_add_one,s j g,E9,BV];show _++(([d j].filter (ownB st en kd ks)).map λt=>(#[Lj t]:Array Value))=_
  rw[EU];show _=if ownB st en kd ks (d j)=true then _ else _
  split
  ·rfl
  ·exact Az _
 have O:V len=((b.filter (ownB st en kd ks)).map Lj).map λu=>#[u]:=by
  show(((b.take len).filter (ownB st en kd ks)).map λt=>(#[Lj t]:Array Value))=_
  rw[Cn am,List.map_map];rfl
 have A:∀j,j<=len->∃F,V len=V j++F:=λj g=>by
  refine⟨((b.drop j).filter (ownB st en kd ks)).map (λt=>(#[Lj t]:Array Value)),?_⟩
  show(((b.take len).filter (ownB st en kd ks)).map λt=>(#[Lj t]:Array Value))=(((b.take j).filter (ownB st en kd ks)).map λt=>(#[Lj t]:Array Value))++_
  rw[<-BV,<-E9,BH,Cn am]
 have hg:Good I w ((b.filter (ownB st en kd ks)).map Lj) (b.filter (ownB st en kd ks)):=⟨by simp,λj u x hu hx=>by
  rw[Al,hx] at hu;cases hu;exact AqM (L x (Dj.1 (Am hx)).1)⟩
 obtain⟨a1,a2⟩:=yJ hg;rw[<-O] at a1 a2;refine⟨V len,AUF hI λn l S hS hw hY W hb T=>?_,a1,a2⟩
 have hW6:W.cell? ⟨P,ox+6,none⟩=some (.slice (some a) len cap):=by rw[cell_of_heap (hb.block P (hI _ _ I6))];exact c6
 refine AYU (FW none) rfl (λ_=>trivial) rfl n l I w P ox bn on a len cap (λhn=>R (λe=>by rw[e] at q;exact hn q)) am kd st en y (.slice ad p m) (λj=>tkI 0 (d j)) (λj=>tkI 1 (d j)) (λj=>tkI 2 (d j)) (λj=>tkI 3 (d j))
  (λj=>Jw (tkI 0 (d j)) (tkI 2 (d j)) (tkI 3 (d j)) st en) (λj=>pY (d j) ks) V rfl hV A ?_ ?_ ?_ ?_ S hS hw hY W T hW6
 ·intro W c j g;obtain⟨k,f,a',e,B⟩:=K j g;have h:=s j g;obtain⟨u0,c0,r0⟩:=GG (i:=0) v (B▸h) rfl;obtain⟨u1,c1,r1⟩:=GG (i:=1) v (B▸h) rfl;obtain⟨u2,c2,r2⟩:=GG (i:=2) v (B▸h) rfl;obtain⟨u3,c3,r3⟩:=GG (i:=3) v (B▸h) rfl;have e0:=(BF.one (bl:=Bl.nil) (.inl r0)).CJ;have Q:=(BF.one (bl:=Bl.nil) (.inl r1)).CJ;have e2:=(BF.one (bl:=Bl.nil) (.inl r2)).CJ;have e3:=(BF.one (bl:=Bl.nil) (.inl r3)).CJ;subst e0 Q e2 e3;rw[B];exact⟨c0 W c,c1 W c,c2 W c,c3 W c⟩
 ·intro W c;exact⟨by show W.cell? ⟨bn,on+0,none⟩=_;rw[c.cell _ _ (G 0 _ rfl)];exact p0,by rw[c.cell _ _ (G 1 _ rfl)];exact p1,by rw[c.cell _ _ (G 2 _ rfl)];exact p2,by rw[c.cell _ _ (G 3 _ rfl)];exact p3,by rw[c.cell _ _ (G 4 _ rfl)];exact p4⟩
 ·intro j g n W c C;exact Xj (FW none) rfl (λ_=>trivial) rfl n W _ _ _ _ kd st en y _
 ·intro j g hc n W bt c C hbt d0 d1 d2 d3;have:=gP (FW none) rfl (λ_=>trivial) rfl n W bt _ _ _ _ d0 d1 d2 d3 ad p m (by have:=z.hlen;omega) z.spot _ _ _ sx kv (λab ao e=>z.cells ab ao e W c)
  rw[z.hlen] at this ⊢;exact this
def xw:y7 Tryz.prog itr:=by
 intro m j xs h;have e:Ff Tryz.prog 172:=⟨Tryz.f172,Tryz.func172,by kernel_rfl,by kernel_rfl⟩
 have i:Ff Tryz.prog 159:=⟨Tryz.f159,Tryz.func159,by kernel_rfl,by kernel_rfl⟩
 unfold itr at h
 split at h
 ·rename_i f;subst f
  split at h
  ·split at h
   ·rename_i l g
    split at h
    ·rename_i k;cases h;exact⟨e,oM g k⟩
    ·cases h
   ·cases h
  ·cases h
 ·split at h
  ·rename_i f;subst f
   split at h
   ·split at h
    ·rename_i d
     split at h
     ·rename_i ks b
      split at h
      ·rename_i l g
       split at h
       ·rename_i c;cases h;rw[Aj,Aj] at c;exact⟨i,AxI d (by unfold fJ at b;split at b<;>first | rfl | cases b) b g c.1 c.2.1 c.2.2⟩
       ·cases h
      ·cases h
     ·cases h
    ·cases h
   ·cases h
  ·cases h
end Go.Abs.Z

namespace Go.Proofs
open Go.Shelf
def Tryz.Rc:Go.Shelf.Ren:=⟨λ| 156=>282 | 165=>175 | 166=>113 | 169=>115 | 240=>158 | 241=>251 | 276=>240 | 277=>281 | n=>n,λ| 31=>113 | 9=>9 | 3=>3 | 4=>4 | 0=>0 | 20=>20 | 72=>125 | 76=>128 | 70=>122 | 37=>123 | 75=>127 | 127=>174 | 164=>196 | 5=>5 | 80=>133 | n=>n,λ| n=>n⟩
def Tryz.mJ:Go.Proofs.Lays.n156 Tryz.prog Tryz.Rc:={
 mixed:=by kernel_rfl
 f156:=Tryz.func282.trans (congrArg some (by kernel_rfl))
 f165:=Tryz.func175.trans (congrArg some (by kernel_rfl))
 f166:=Tryz.func113.trans (congrArg some (by kernel_rfl))
 f169:=Tryz.func115.trans (congrArg some (by kernel_rfl))
 f240:=Tryz.func158.trans (congrArg some (by kernel_rfl))
 f241:=Tryz.func251.trans (congrArg some (by kernel_rfl))
 f276:=Tryz.func240.trans (congrArg some (by kernel_rfl))
 f277:=Tryz.func281.trans (congrArg some (by kernel_rfl))
 t0:=Tryz.underlying0
 a0:=Tryz.isAgg0
 z0:=Tryz.sizeOf0
 v0:=Tryz.zeroValue0
 t3:=Tryz.underlying3
 a3:=Tryz.isAgg3
 z3:=Tryz.sizeOf3
 v3:=Tryz.zeroValue3
 t4:=Tryz.underlying4
 a4:=Tryz.isAgg4
 z4:=Tryz.sizeOf4
 v4:=Tryz.zeroValue4
 t9:=Tryz.underlying9
 a9:=Tryz.isAgg9
 z9:=Tryz.sizeOf9
 v9:=Tryz.zeroValue9
 t20:=Tryz.underlying20
 a20:=Tryz.isAgg20
 z20:=Tryz.sizeOf20
 v20:=Tryz.zeroValue20
 t31:=Tryz.underlying113
 a31:=Tryz.isAgg113
 z31:=Tryz.sizeOf113
 v31:=Tryz.zeroValue113
 t37:=Tryz.underlying123
 a37:=Tryz.isAgg123
 z37:=Tryz.sizeOf123
 v37:=Tryz.zeroValue123
 t70:=Tryz.underlying122
 a70:=Tryz.isAgg122
 z70:=Tryz.sizeOf122
 v70:=Tryz.zeroValue122
 t72:=Tryz.underlying125
 a72:=Tryz.isAgg125
 z72:=Tryz.sizeOf125
 v72:=Tryz.zeroValue125
 t75:=Tryz.underlying127
 a75:=Tryz.isAgg127
 z75:=Tryz.sizeOf127
 v75:=Tryz.zeroValue127
 t76:=Tryz.underlying128
 a76:=Tryz.isAgg128
 z76:=Tryz.sizeOf128
 v76:=Tryz.zeroValue128
 t127:=Tryz.underlying174
 a127:=Tryz.isAgg174
 z127:=Tryz.sizeOf174
 v127:=Tryz.zeroValue174
 t164:=Tryz.underlying196
 a164:=Tryz.isAgg196
 z164:=Tryz.sizeOf196
 v164:=Tryz.zeroValue196 }
def Tryz.Lh:Builder.Extra Tryz.prog Tryz.Rc:={
 sizeBuilder:=by kernel_rfl
 liesBuilder:=by kernel_rfl
 t5:=Tryz.underlying5
 a5:=Tryz.isAgg5
 z5:=Tryz.sizeOf5
 v5:=Tryz.zeroValue5
 infoByte:=by kernel_rfl
 cellsByte:=by kernel_rfl
 sizeByte:=by kernel_rfl
 neB5:=by decide }
open Go.RowKit in
def Tryz.strings_Join_none(a:Option Addr)(c:Nat)(sep:ByteArray)(w:World):
  Calls Tryz.prog 282 #[.slice a 0 c,.string sep] w λe w'=>e=.returned (.string ⟨#[]⟩)/\w'=w:=Any.strings_Join_none Tryz.mJ Tryz.Lh a c sep w
open Go.RowKit in
def Tryz.strings_Join(bk o c:Nat)(xs:List ByteArray)(sep:ByteArray)(w:World)(hcells:∀(j:Nat) x,xs[j]?=some x->w.cell? ⟨bk,o+j,none⟩=some (.string x))(hbk:bk<w.heap.size)(hN:xs.length<=140737488355328)(hcap:xs.length<=c)(hlen:(Lib.join (xs.map (·.data.toList)) sep.data.toList).length<=140737488355328):
  Calls Tryz.prog 282 #[.slice (some ⟨bk,o,none⟩) xs.length c,.string sep] w λe w'=>e=.returned (.string ⟨(Lib.join (xs.map (·.data.toList)) sep.data.toList).toArray⟩)/\Below w.heap.size w w':=Any.strings_Join Tryz.mJ Tryz.Lh bk o c xs sep w hcells hbk hN hcap hlen
def Tryz.Rf:Go.Shelf.Ren:=⟨λ| 105=>283 | 212=>291 | 99=>292 | 165=>175 | 166=>113 | 170=>293 | 169=>115 | 263=>304 | 264=>305 | 206=>306 | 240=>158 | 241=>251 | 276=>240 | 277=>281 | n=>n,λ| 9=>9 | 3=>3 | 4=>4 | 20=>20 | 0=>0 | 46=>181 | 109=>226 | 5=>5 | 72=>125 | 76=>128 | 51=>201 | 146=>202 | 53=>233 | 148=>234 | 70=>122 | 37=>123 | 75=>127 | 127=>174 | 164=>196 | 80=>133 | n=>n,λ| n=>n⟩
def Tryz.Az4:Go.Proofs.Lays.n105 Tryz.prog Tryz.Rf:={
 mixed:=by kernel_rfl
 f99:=Tryz.func292.trans (congrArg some (by kernel_rfl))
 f105:=Tryz.func283.trans (congrArg some (by kernel_rfl))
 f165:=Tryz.func175.trans (congrArg some (by kernel_rfl))
 f166:=Tryz.func113.trans (congrArg some (by kernel_rfl))
 f169:=Tryz.func115.trans (congrArg some (by kernel_rfl))
 f170:=Tryz.func293.trans (congrArg some (by kernel_rfl))
 f206:=Tryz.func306.trans (congrArg some (by kernel_rfl))
 f212:=Tryz.func291.trans (congrArg some (by kernel_rfl))
 f240:=Tryz.func158.trans (congrArg some (by kernel_rfl))
 f241:=Tryz.func251.trans (congrArg some (by kernel_rfl))
 f263:=Tryz.func304.trans (congrArg some (by kernel_rfl))
 f264:=Tryz.func305.trans (congrArg some (by kernel_rfl))
 f276:=Tryz.func240.trans (congrArg some (by kernel_rfl))
 f277:=Tryz.func281.trans (congrArg some (by kernel_rfl))
 t0:=Tryz.underlying0
 a0:=Tryz.isAgg0
 z0:=Tryz.sizeOf0
 v0:=Tryz.zeroValue0
 t3:=Tryz.underlying3
 a3:=Tryz.isAgg3
 z3:=Tryz.sizeOf3
 v3:=Tryz.zeroValue3
 t4:=Tryz.underlying4
 a4:=Tryz.isAgg4
 z4:=Tryz.sizeOf4
 v4:=Tryz.zeroValue4
 t5:=Tryz.underlying5
 a5:=Tryz.isAgg5
 z5:=Tryz.sizeOf5
 v5:=Tryz.zeroValue5
 t9:=Tryz.underlying9
 a9:=Tryz.isAgg9
 z9:=Tryz.sizeOf9
 v9:=Tryz.zeroValue9
 t20:=Tryz.underlying20
 a20:=Tryz.isAgg20
 z20:=Tryz.sizeOf20
 v20:=Tryz.zeroValue20
 t37:=Tryz.underlying123
 a37:=Tryz.isAgg123
 z37:=Tryz.sizeOf123
 v37:=Tryz.zeroValue123
 t46:=Tryz.underlying181
 a46:=Tryz.isAgg181
 z46:=Tryz.sizeOf181
 v46:=Tryz.zeroValue181
 t51:=Tryz.underlying201
 a51:=Tryz.isAgg201
 z51:=Tryz.sizeOf201
 v51:=Tryz.zeroValue201
 t53:=Tryz.underlying233
 a53:=Tryz.isAgg233
 z53:=Tryz.sizeOf233
 v53:=Tryz.zeroValue233
 t70:=Tryz.underlying122
 a70:=Tryz.isAgg122
 z70:=Tryz.sizeOf122
 v70:=Tryz.zeroValue122
 t72:=Tryz.underlying125
 a72:=Tryz.isAgg125
 z72:=Tryz.sizeOf125
 v72:=Tryz.zeroValue125
 t75:=Tryz.underlying127
 a75:=Tryz.isAgg127
 z75:=Tryz.sizeOf127
 v75:=Tryz.zeroValue127
 t76:=Tryz.underlying128
 a76:=Tryz.isAgg128
 z76:=Tryz.sizeOf128
 v76:=Tryz.zeroValue128
 t109:=Tryz.underlying226
 a109:=Tryz.isAgg226
 z109:=Tryz.sizeOf226
 v109:=Tryz.zeroValue226
 t127:=Tryz.underlying174
 a127:=Tryz.isAgg174
 z127:=Tryz.sizeOf174
 v127:=Tryz.zeroValue174
 t146:=Tryz.underlying202
 a146:=Tryz.isAgg202
 z146:=Tryz.sizeOf202
 v146:=Tryz.zeroValue202
 t148:=Tryz.underlying234
 a148:=Tryz.isAgg234
 z148:=Tryz.sizeOf234
 v148:=Tryz.zeroValue234
 t164:=Tryz.underlying196
 a164:=Tryz.isAgg196
 z164:=Tryz.sizeOf196
 v164:=Tryz.zeroValue196 }
def Tryz.Qf:Builder.Extra Tryz.prog Tryz.Rf:={
 sizeBuilder:=by kernel_rfl
 liesBuilder:=by kernel_rfl
 t5:=Tryz.underlying5
 a5:=Tryz.isAgg5
 z5:=Tryz.sizeOf5
 v5:=Tryz.zeroValue5
 infoByte:=by kernel_rfl
 cellsByte:=by kernel_rfl
 sizeByte:=by kernel_rfl
 neB5:=by decide }
open Go.RowKit Go.Lib in
def Tryz.strings_Repeat(s:ByteArray)(c:Nat)(w:World)(hc:c<=9223372036854775807)(hlen:s.size * c<=140737488355328):
  Calls Tryz.prog 283 #[.string s,.int .i64 c] w λe w'=>e=.returned (.string ⟨(Lib.repeatL s.data.toList c).toArray⟩)/\Below w.heap.size w w':=Any.strings_Repeat Tryz.Az4 Tryz.Qf s c w hc hlen
end Go.Proofs

namespace Go.Abs.Z
open Go.Proofs Go.RowKit
def strsOf:List PV->Option (List (List UInt8))
 |[]=>some []
 |.str s::r=>(strsOf r).map (s::·)
 |_=>none
def l8:Nw:=λ_ xs c=>match xs with
 |[.nils,.str _]=>some (.str [],c)
 |[.slice _ size es,.str a]=>if size=1 then match strsOf es with
   |some l=>if l.length<=140737488355328/\(Lib.join l a).length<=140737488355328 then some (.str (Lib.join l a),c) else none
   |none=>none
  else none
 |_=>none
def OB:∀(es:List PV) (l:List (List UInt8)),strsOf es=some l->es=l.map PV.str
 |[],l,h=>by cases h;rfl
 |e::es,l,h=>by
  cases e with
  |str s=>
   simp only[strsOf] at h;obtain⟨r,b,rfl⟩:=Ac.1 h;rw[OB es r b];rfl
  |_=>simp[strsOf] at h
def AUT:Ff Tryz.prog 282:=⟨Tryz.f282,Tryz.func282,by kernel_rfl,by kernel_rfl⟩
def Az9:Jo Tryz.prog 282 l8:=by
 intro call hSc args σ r σ' R h;refine⟨AUT,λn vs w G K f b=>?_⟩
 unfold l8 at h
 split at h
 ·rename_i H;cases h;obtain⟨v,u,rfl,E,I⟩:=Nv f;have:=E.F6;subst this;obtain⟨s,rfl,_⟩:=I.EC;refine GH ((Tryz.strings_Join_none none 0 s w).mono ?_)
  rintro e P ⟨rfl,rfl⟩
  exact⟨_,G,rfl,Js [],Kl b (Below.refl _ _)⟩
 ·rename_i U size es H
  split at h
  ·rename_i D;subst D
   split at h
   ·rename_i l Y
    split at h
    ·rename_i Q;cases h;have M:=OB es l Y;subst M;obtain⟨v,u,rfl,E,I⟩:=Nv f;obtain⟨s,rfl,rfl⟩:=I.EC;obtain⟨a,len,cap,cv,rfl,rfl,A,k,N,Z,hc,T⟩:=E.FY;cases g:l with
     |nil=>
      subst g;refine GH ((Tryz.strings_Join_none (some a) cap s w).mono ?_)
      rintro e P ⟨rfl,rfl⟩
      exact⟨_,G,rfl,Js [],Kl b (Below.refl _ _)⟩
     |cons x0 r0=>
      have L:l.map PV.str≠[]:=by rw[g];simp
      have z:=k L;obtain⟨J,ao,asp⟩:=a;dsimp only at z;subst z
      have m:∀(j:Nat) (x:ByteArray),(l.map λy=>(⟨y.toArray⟩:ByteArray))[j]?=some x->w.cell? ⟨J,ao+j,none⟩=some (.string x):=by
       intro j x S;rw[Al] at S;obtain⟨y,hy,rfl⟩:=Ac.1 S;have B:(l.map PV.str)[j]?=some (.str y):=by rw[Al,hy];rfl
       have O:=hc j (.str y) 0 (.str y) B rfl;have X:=T j (.str y) 0 (.str y) B rfl;have V:=(BF.one (bl:=G.bl) (.inl X)).EC;obtain⟨t,ht,C⟩:=V;rw[ht] at O;simp only[Gg,FH] at O;rw[O];congr 2;cases t with
       |mk d=>
        cases d with
        |mk W=>
         have o:W=y:=C;rw[o]
      have F:J<w.heap.size:=by
       have B:(l.map PV.str)[0]?=some (.str x0):=by rw[g];rfl
       exact b.lt _ _ (Z 0 (.str x0) 0 (.str x0) B rfl)
      have i:(l.map λy=>(⟨y.toArray⟩:ByteArray)).map (λx=>x.data.toList)=l:=by
       rw[List.map_map];have hid:((λx:ByteArray=>x.data.toList)∘λy:List UInt8=>(⟨y.toArray⟩:ByteArray))=id:=by funext y;rfl
       rw[hid,List.map_id]
      have q:(l.map λy=>(⟨y.toArray⟩:ByteArray)).length=(l.map PV.str).length:=by simp
      rw[<-g];have:=Tryz.strings_Join J ao cap (l.map λy=>(⟨y.toArray⟩:ByteArray)) s w m F (by simpa using Q.1) (by simpa using A) (by rw[i];exact Q.2)
      rw[i,q] at this;refine GH (this.mono ?_)
      rintro e P ⟨rfl,p⟩
      exact⟨_,G,rfl,Js _,Kl b p⟩
    ·cases h
   ·cases h
  ·cases h
 ·cases h
def ZN:Nw:=λ_ xs σ=>match xs with
 |[.str s,.int .i64 n]=>if 0<=n/\n<=1048576/\s.length * n.toNat<=140737488355328 then some (.str (Lib.repeatL s n.toNat),σ) else none
 |_=>none
def AUS:Ff Tryz.prog 283:=⟨Tryz.f283,Tryz.func283,by kernel_rfl,by kernel_rfl⟩
def nV:Jo Tryz.prog 283 ZN:=by
 intro call hSc args σ r σ' hown h;refine⟨AUS,λn vs w G K hargs hpre=>?_⟩
 unfold ZN at h
 split at h
 ·rename_i s c
  split at h
  ·rename_i hb;cases h;obtain⟨v,u,rfl,hv,hu⟩:=Nv hargs;obtain⟨t,rfl,rfl⟩:=hv.EC;have:=hu.CJ;subst this;have hc:(c:Int)=(c.toNat:Nat):=am
   have hsz:t.size=t.data.toList.length:=Lib.size_eq t;have:=Tryz.strings_Repeat t c.toNat w am (by rw[hsz];exact hb.2.2)
   rw[<-hc] at this;refine GH (this.mono ?_)
   rintro e w' ⟨rfl,hbel⟩
   exact⟨_,G,rfl,Js _,Kl hpre hbel⟩
  ·cases h
 ·cases h
end Go.Abs.Z

namespace Go.Proofs
open Go.Shelf
def Tryz.Re:Go.Shelf.Ren:=⟨λ| 155=>62 | 154=>121 | 138=>174 | 165=>175 | 143=>176 | 166=>113 | 197=>132 | 169=>115 | 195=>249 | 218=>250 | 240=>158 | 241=>251 | 219=>130 | 260=>189 | 276=>240 | 277=>281 | 217=>185 | 225=>186 | 224=>187 | 267=>188 | 266=>254 | 314=>255 | n=>n,λ| 9=>9 | 3=>3 | 4=>4 | 72=>125 | 0=>0 | 76=>128 | 105=>151 | 21=>21 | 5=>5 | 70=>122 | 20=>20 | 37=>123 | 75=>127 | 127=>174 | 164=>196 | 46=>181 | 119=>204 | 139=>207 | 138=>206 | 146=>202 | 51=>201 | 80=>133 | n=>n,λ| 1=>0 | 3=>1 | 4=>2 | n=>n⟩
def Tryz.Az3:Go.Proofs.Lays.n155 Tryz.prog Tryz.Re:={
 mixed:=by kernel_rfl
 f138:=Tryz.func174.trans (congrArg some (by kernel_rfl))
 f143:=Tryz.func176.trans (congrArg some (by kernel_rfl))
 f154:=Tryz.func121.trans (congrArg some (by kernel_rfl))
 f155:=Tryz.func62.trans (congrArg some (by kernel_rfl))
 f165:=Tryz.func175.trans (congrArg some (by kernel_rfl))
 f166:=Tryz.func113.trans (congrArg some (by kernel_rfl))
 f169:=Tryz.func115.trans (congrArg some (by kernel_rfl))
 f195:=Tryz.func249.trans (congrArg some (by kernel_rfl))
 f197:=Tryz.func132.trans (congrArg some (by kernel_rfl))
 f217:=Tryz.func185.trans (congrArg some (by kernel_rfl))
 f218:=Tryz.func250.trans (congrArg some (by kernel_rfl))
 f219:=Tryz.func130.trans (congrArg some (by kernel_rfl))
 f224:=Tryz.func187.trans (congrArg some (by kernel_rfl))
 f225:=Tryz.func186.trans (congrArg some (by kernel_rfl))
 f240:=Tryz.func158.trans (congrArg some (by kernel_rfl))
 f241:=Tryz.func251.trans (congrArg some (by kernel_rfl))
 f260:=Tryz.func189.trans (congrArg some (by kernel_rfl))
 f266:=Tryz.func254.trans (congrArg some (by kernel_rfl))
 f267:=Tryz.func188.trans (congrArg some (by kernel_rfl))
 f276:=Tryz.func240.trans (congrArg some (by kernel_rfl))
 f277:=Tryz.func281.trans (congrArg some (by kernel_rfl))
 f314:=Tryz.func255.trans (congrArg some (by kernel_rfl))
 t0:=Tryz.underlying0
 a0:=Tryz.isAgg0
 z0:=Tryz.sizeOf0
 v0:=Tryz.zeroValue0
 t3:=Tryz.underlying3
 a3:=Tryz.isAgg3
 z3:=Tryz.sizeOf3
 v3:=Tryz.zeroValue3
 t4:=Tryz.underlying4
 a4:=Tryz.isAgg4
 z4:=Tryz.sizeOf4
 v4:=Tryz.zeroValue4
 t5:=Tryz.underlying5
 a5:=Tryz.isAgg5
 z5:=Tryz.sizeOf5
 v5:=Tryz.zeroValue5
 t9:=Tryz.underlying9
 a9:=Tryz.isAgg9
 z9:=Tryz.sizeOf9
 v9:=Tryz.zeroValue9
 t20:=Tryz.underlying20
 a20:=Tryz.isAgg20
 z20:=Tryz.sizeOf20
 v20:=Tryz.zeroValue20
 t21:=Tryz.underlying21
 a21:=Tryz.isAgg21
 z21:=Tryz.sizeOf21
 v21:=Tryz.zeroValue21
 t37:=Tryz.underlying123
 a37:=Tryz.isAgg123
 z37:=Tryz.sizeOf123
 v37:=Tryz.zeroValue123
 t46:=Tryz.underlying181
 a46:=Tryz.isAgg181
 z46:=Tryz.sizeOf181
 v46:=Tryz.zeroValue181
 t51:=Tryz.underlying201
 a51:=Tryz.isAgg201
 z51:=Tryz.sizeOf201
 v51:=Tryz.zeroValue201
 t70:=Tryz.underlying122
 a70:=Tryz.isAgg122
 z70:=Tryz.sizeOf122
 v70:=Tryz.zeroValue122
 t72:=Tryz.underlying125
 a72:=Tryz.isAgg125
 z72:=Tryz.sizeOf125
 v72:=Tryz.zeroValue125
 t75:=Tryz.underlying127
 a75:=Tryz.isAgg127
 z75:=Tryz.sizeOf127
 v75:=Tryz.zeroValue127
 t76:=Tryz.underlying128
 a76:=Tryz.isAgg128
 z76:=Tryz.sizeOf128
 v76:=Tryz.zeroValue128
 t105:=Tryz.underlying151
 a105:=Tryz.isAgg151
 z105:=Tryz.sizeOf151
 v105:=Tryz.zeroValue151
 t119:=Tryz.underlying204
 a119:=Tryz.isAgg204
 z119:=Tryz.sizeOf204
 t127:=Tryz.underlying174
 a127:=Tryz.isAgg174
 z127:=Tryz.sizeOf174
 v127:=Tryz.zeroValue174
 t138:=Tryz.underlying206
 a138:=Tryz.isAgg206
 z138:=Tryz.sizeOf206
 v138:=Tryz.zeroValue206
 t139:=Tryz.underlying207
 a139:=Tryz.isAgg207
 z139:=Tryz.sizeOf207
 v139:=Tryz.zeroValue207
 t146:=Tryz.underlying202
 a146:=Tryz.isAgg202
 z146:=Tryz.sizeOf202
 v146:=Tryz.zeroValue202
 t164:=Tryz.underlying196
 a164:=Tryz.isAgg196
 z164:=Tryz.sizeOf196
 v164:=Tryz.zeroValue196
 g1:=by kernel_rfl
 g3:=by kernel_rfl
 g4:=by kernel_rfl }
def Tryz.Qe:Builder.Extra Tryz.prog Tryz.Re:={
 sizeBuilder:=by kernel_rfl
 liesBuilder:=by kernel_rfl
 t5:=Tryz.underlying5
 a5:=Tryz.isAgg5
 z5:=Tryz.sizeOf5
 v5:=Tryz.zeroValue5
 infoByte:=by kernel_rfl
 cellsByte:=by kernel_rfl
 sizeByte:=by kernel_rfl
 neB5:=by decide }
open Go.RowKit Go.Lib in
def Tryz.strings_ReplaceAll(s old new:ByteArray)(m:Int)(w:World)(hs:s.size<4294967281)(hm:w.cell? ⟨0,0,none⟩=some (.int .i64 m))(h1:1<=old.size)(hlen:s.size+Lib.countB s old * new.size<=140737488355328):
  Calls Tryz.prog 62 #[.string s,.string old,.string new] w λe w'=>
   e=.returned (.string ⟨(Lib.replaceAll s.data.toList old.data.toList new.data.toList).toArray⟩)/\Below w.heap.size w w':=Any.strings_ReplaceAll Tryz.Az3 Tryz.Qe s old new m w hs hm h1 hlen
end Go.Proofs

namespace Go.Abs.Z
open Go.Proofs Go.RowKit
def yC{I:Imm}{bl:Bl}{w:World}{vs:Array Value}{p q r:PV}(h:FX I bl w vs.toList [p,q,r]):∃v u x,vs=#[v,u,x]/\BF I bl w v p/\BF I bl w u q/\BF I bl w x r:=by
 obtain⟨v,d,k⟩:=h.2 0 p rfl;obtain⟨u,f,g⟩:=h.2 1 q rfl;obtain⟨x,e,j⟩:=h.2 2 r rfl;have i:=h.1
 match vs,i,d,f,e with
 |⟨[a,b,c]⟩,_,d,f,e=>
  simp at d f e;subst d f e;exact⟨a,b,c,rfl,k,g,j⟩
def eU:Nw:=λ_ xs b=>match xs with
 |[.str s,.str o,.str n]=>if s.length<=1000000/\1<=o.length/\n.length<=1000000 then some (.str (Lib.replaceAll s o n),b) else none
 |_=>none
def BV9:Ff Tryz.prog 62:=⟨Tryz.f62,Tryz.func62,by kernel_rfl,by kernel_rfl⟩
def AqL:Jo Tryz.prog 62 eU:=by
 intro call l args C r A k h;refine⟨BV9,λn vs w G K f b=>?_⟩
 unfold eU at h
 split at h
 ·rename_i s o c
  split at h
  ·rename_i I;cases h;obtain⟨v,u,x,rfl,y,q,p⟩:=yC f;obtain⟨t,rfl,rfl⟩:=y.EC;obtain⟨d,rfl,rfl⟩:=q.EC;obtain⟨j,rfl,rfl⟩:=p.EC;obtain⟨_,m,z⟩:=b.Klt.tab;have z1:=Lib.size_eq t;have D:=Lib.size_eq d;have B:=Lib.size_eq j;have H:=Lib.countB_mul_le d am t.size t (Ai _)
   have F:Lib.countB t d * 1<=Lib.countB t d * d.size:=Nat.mul_le_mul_left _ am
   have J:Lib.countB t d * j.size<=1000000 * 1000000:=Nat.mul_le_mul am am
   refine GH ((Tryz.strings_ReplaceAll t d j m w am z am am).mono ?_)
   rintro e E ⟨rfl,i⟩
   exact⟨_,G,rfl,Js _,Kl b i⟩
  ·cases h
 ·cases h
end Go.Abs.Z

namespace Go.Abs.Z
noncomputable section
open Go.Proofs Go.RowKit
def vv:List (FuncId×Nw):=[(113,Tv),(115,ZM),(185,OH),(282,l8),(57,SQ pur itr 1000 lf57),(60,SQ pur itr 1000 lf60),(283,ZN),(62,eU)]
def wP(l:List (FuncId×Nw))(f:FuncId):Option Nw:=List.rec (motive:=λ_=>Option Nw) none (λp _ a=>cond (Nat.beq p.1 f) (some p.2) a) l
def vo(f:FuncId):Option Nw:=wP vv f
def fD:∀(l:List (FuncId×Nw)),(∀x∈l,Jo Tryz.prog x.1 x.2)->∀f g,wP l f=some g->Jo Tryz.prog f g
 |[],_,f,g,h=>by cases h
 |p::l,e,f,g,h=>by
  have c:cond (Nat.beq p.1 f) (some p.2) (wP l f)=some g:=h;cases d:Nat.beq p.1 f with
  |true=>
   rw[d] at c;cases c;have:p.1=f:=CQ d;rw[<-this];exact e p (AV ..)
  |false=>rw[d] at c;exact fD l (λx i=>e x (AP _ i)) f g c
def eP:∀f g,vo f=some g->Jo Tryz.prog f g:=by
 refine fD vv λx b=>?_
 simp only[vv,AU,ET,or_false] at b;rcases b with rfl | rfl | rfl | rfl | rfl | rfl | rfl | rfl
 ·exact qz
 ·exact nN
 ·exact ak
 ·exact Az9
 ·exact XA xw mixed Tryz.func57 (by kernel_rfl) BVL
 ·exact XA xw mixed Tryz.func60 (by kernel_rfl) BVK
 ·exact nV
 ·exact AqL
def run(n:Nat):Caller:=yl pur vo tab n
def Qm(n:Nat):Iu Tryz.prog (run n):=Nt mixed tN eP n
end
end Go.Abs.Z

namespace Go.Abs.Z
open Go.Proofs Go.RowKit
mutual
def eqV:Nat->PV->PV->Bool
 |0,_,_=>false
 |n+1,a,b=>match a,b with
  |.int k i,.int k' i'=>decide (k=k')&&decide (i=i')
  |.bool x,.bool y=>decide (x=y)
  |.str s,.str s'=>decide (s=s')
  |.nils,.nils=>true
  |.agg l,.agg l'=>Wl n l l'
  |.tuple l,.tuple l'=>Wl n l l'
  |.slice o z l,.slice o' z' l'=>decide (o=o')&&(decide (z=z')&&Wl n l l')
  |_,_=>false
def Wl:Nat->List PV->List PV->Bool
 |0,_,_=>false
 |n+1,a,b=>match a,b with
  |[],[]=>true
  |x::xs,y::ys=>eqV n x y&&Wl n xs ys
  |_,_=>false
end
def j3:∀n,(∀a b,eqV n a b=true->a=b)/\∀a b,Wl n a b=true->a=b:=by
 intro n
 induction n with
 |zero=>exact⟨λa b h=>by simp[eqV] at h,λa b h=>by simp[Wl] at h⟩
 |succ n c=>
  refine⟨λa b h=>?_,λa b h=>?_⟩
  ·unfold eqV at h
   split at h
   ·simp only[Aj,decide_eq_true_eq] at h;rw[h.1,h.2]
   ·rw[of_decide_eq_true h]
   ·rw[of_decide_eq_true h]
   ·rfl
   ·rw[c.2 _ _ h]
   ·rw[c.2 _ _ h]
   ·simp only[Aj,decide_eq_true_eq] at h;rw[h.1,h.2.1,c.2 _ _ h.2.2]
   ·cases h
  ·unfold Wl at h
   split at h
   ·rfl
   ·rw[Aj] at h;rw[c.1 _ _ h.1,c.2 _ _ h.2]
   ·cases h
def isR(r:PV):Option (PV×Sto)->Bool
 |some (x,[])=>eqV 100 r x
 |_=>false
def AUG{r:PV}:∀{x:Option (PV×Sto)},isR r x=true->x=some (r,[])
 |some (x,[]),h=>by rw[(j3 100).1 _ _ h]
 |some (x,_::_),h=>by cases h
 |none,h=>by cases h
def memo(l:List (List PV×PV)):Nw:=λ_ args a=>match a with
 |[]=>(l.find? λe=>Wl 100 e.1 args).map λe=>(e.2,[])
 |_=>none
def ZX{f:FuncId}{l:List (List PV×PV)}(k:Ff Tryz.prog f)(h:∀e∈l,LD Tryz.prog f e.1 [] e.2 []):Jo Tryz.prog f (memo l):=by
 intro call n args m r g c b;unfold memo at b
 split at b
 ·obtain⟨e,d,j⟩:=Ac.1 b;cases j;have i:=List.find?_some d
  rw[<-(j3 100).2 _ _ i];exact h e (List.mem_of_find?_eq_some d)
 ·cases b
end Go.Abs.Z
