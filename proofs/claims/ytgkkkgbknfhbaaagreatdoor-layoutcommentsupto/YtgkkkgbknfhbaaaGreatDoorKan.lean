/- A part of the proof: I3. -/
import Derived.Test.YtgkkkgbknfhbaaaGreatDoorKam

set_option linter.all false
namespace Go.Abs.Z
open Go.Proofs Go.RowKit Go.Shelf
attribute [local go_sem] Oper.semAt_some
def XX(k f a e:Int):Value:=.agg #[.int .i64 k,.int .i64 f,.int .i64 a,.int .i64 e]
def cell_below{W W':World}(h:Below W.heap.size W W'){b o:Nat}{v:Value}(a:W.cell? ⟨b,o,none⟩=some v):W'.cell? ⟨b,o,none⟩=some v:=by
 have d:b<W.heap.size:=by
  rcases Be b W.heap.size with c | c
  ·exact c
  ·unfold World.cell? at a;rw[DN c] at a;cases a
 rw[cell_of_heap (h.block b d)];exact a
def PT(W:World)(c:Array Value)(e:TypeId)(i:Nat):(W.alloc (.cells c e)).cell? ⟨W.heap.size,i,none⟩=c[i]?:=by
 have:=heap_alloc_new' W (.cells c e);unfold World.cell?;rw[this];rfl
set_option maxRecDepth 100000 in
set_option maxHeartbeats 4000000 in
def AYU(F:Fence)(hd:F.depth=none)(hfn:∀f,F.fn f)(hro:F.round=none)(n l:Nat)(I:Imm)(w0:World)(bx ox bn on:Nat)(a:Addr)(len cap:Nat)(hsp:len≠0->a.spot=none)(h62:len<=1000000000)
  (kd st en:Int) (sx:ByteArray) (kv:Value) (K T1 T2 T3:Nat->Int) (B1 B2:Nat->Bool) (V:Nat->List (Array Value))
  (hV0:V 0=[]) (hV:∀j,j<len->V (j+1)=if(B1 j||(K j==5&&kd==2))&&!B2 j then V j++[#[XX (K j) (T1 j) (T2 j) (T3 j)]] else V j) (hpre:∀j,j<=len->∃post,V len=V j++post)
  (hat:∀W,Same I w0 W->∀j,j<len->W.cell? ⟨a.block,a.off+j * 4,none⟩=some (.int .i64 (K j))/\W.cell? ⟨a.block,a.off+j * 4+1,none⟩=some (.int .i64 (T1 j))/\W.cell? ⟨a.block,a.off+j * 4+2,none⟩=some (.int .i64 (T2 j))/\W.cell? ⟨a.block,a.off+j * 4+3,none⟩=some (.int .i64 (T3 j)))
  (hn:∀W,Same I w0 W->W.cell? ⟨bn,on,none⟩=some (.int .i64 kd)/\W.cell? ⟨bn,on+1,none⟩=some (.string sx)/\W.cell? ⟨bn,on+2,none⟩=some (.int .i64 st)/\W.cell? ⟨bn,on+3,none⟩=some (.int .i64 en)/\W.cell? ⟨bn,on+4,none⟩=some kv)
  (hc79:∀j,j<len->∀n W,Same I w0 W->w0.heap.size<=W.heap.size->CallsIn F n Tryz.prog 160 #[XX (K j) (T1 j) (T2 j) (T3 j),.agg #[.int .i64 kd,.string sx,.int .i64 st,.int .i64 en,kv]] W λe W'=>e=.returned (.bool (B1 j))/\Below W.heap.size W W')
  (hc80:∀j,j<len->(B1 j||(K j==5&&kd==2))=true->∀n W bt,Same I w0 W->w0.heap.size<=W.heap.size->w0.heap.size<=bt->W.cell? ⟨bt,0,none⟩=some (.int .i64 (K j))->W.cell? ⟨bt,1,none⟩=some (.int .i64 (T1 j))->W.cell? ⟨bt,2,none⟩=some (.int .i64 (T2 j))->W.cell? ⟨bt,3,none⟩=some (.int .i64 (T3 j))->
   CallsIn F n Tryz.prog 161 #[kv,.func (.func 162) #[] #[.pointer (some ⟨bt,0,none⟩)]] W λe W'=>e=.returned (.bool (B2 j))/\Below W.heap.size W W')
  (S:List (Array Value)->(Nat->Prop)->World->Prop) (hS:Stg I w0 S) (hw:∀s O W,S s O W->w0.heap.size<=W.heap.size)
  (hY:YOk F Tryz.prog l (V len) S) (W:World) (h0:S [] (λb=>b<W.heap.size) W) (c6:W.cell? ⟨bx,ox+6,none⟩=some (.slice (some a) len cap)) :
  CallsIn F n Tryz.prog 159 #[.func (.yield l) #[] #[],.pointer (some ⟨bx,ox,none⟩),.pointer (some ⟨bn,on,none⟩)] W λe W'=>(∃v,e=.returned v)/\∃O,S (V len) O W':=by
 have hdd:∀k:Nat,(F.depth.isSome=true->1<=k):=λk h=>by rw[hd] at h;cases h
 have h78:F.fn 159:=hfn 159;have h79:F.fn 160:=hfn 160;have h80:F.fn 161:=hfn 161;obtain⟨ab,ao,asp⟩:=a;have HSP:=Lib.hid hsp;clear hsp;have HAT:=Lib.hid hat;clear hat;have HN:=Lib.hid hn;clear hn;have HS:=Lib.hid hS;clear hS;have HY:=Lib.hid hY;clear hY;have H0:=Lib.hid h0;clear h0;have HV0:=Lib.hid hV0;clear hV0;have HV:=Lib.hid hV;clear hV;have HP:=Lib.hid hpre;clear hpre;have HC79:=Lib.hid hc79;clear hc79;have HC80:=Lib.hid hc80;clear hc80;have HW:=Lib.hid hw;clear hw;have hlen62:len<2000000000:=am
 refine callsIn_of_wp Tryz.func159 rfl h78 ?_ hro
 simp only[Tryz.ntmps159,Cq,Ah,Ba,Nat.reduceAdd,Nat.reduceSub,Dm,Dl,DT,Dt,Bn,Bg]
 gi_wp2
 gi_loopw [10] (λi wr=>∃(j:Nat),i=.int .i64 j/\j<=len/\Hid (∃(O':Nat->Prop),S (V j) O' wr)) (λi _=>len - (intOf i).toNat)
 case atStart=>exact⟨0,rfl,Ca _,Lib.hid ⟨_,by rw[HV0.out];exact H0.out⟩⟩
 case round=>
  obtain⟨j,rfl,hjl,HJ⟩:=hrel;by_cases hlt:j<len
  ·obtain⟨O',hs'⟩:=HJ.out;obtain rfl:asp=Option.none:=HSP.out am
   have hsm:=HS.out.same _ _ _ hs';have hws:=HW.out _ _ _ hs';obtain⟨k0,k1,k2,k3⟩:=HAT.out _ hsm j hlt;have hsA:=HS.out.alloc _ _ _ (.cells #[.int .i64 (K j),.int .i64 (T1 j),.int .i64 (T2 j),.int .i64 (T3 j)] 103) hs';have hsmA:=HS.out.same _ _ _ hsA;have hwsA:=HW.out _ _ _ hsA;obtain⟨q0,q1,q2,q3,q4⟩:=HN.out _ hsmA;have hcall:=HC79.out j hlt (n - 1) _ hsmA hwsA;dsimp only[XX] at hcall;have b0:(wr.alloc (.cells #[.int .i64 (K j),.int .i64 (T1 j),.int .i64 (T2 j),.int .i64 (T3 j)] 103)).cell? ⟨wr.heap.size,0,Option.none⟩=some (.int .i64 (K j)):=PT wr _ _ 0;have b1:(wr.alloc (.cells #[.int .i64 (K j),.int .i64 (T1 j),.int .i64 (T2 j),.int .i64 (T3 j)] 103)).cell? ⟨wr.heap.size,1,Option.none⟩=some (.int .i64 (T1 j)):=PT wr _ _ 1;have b2:(wr.alloc (.cells #[.int .i64 (K j),.int .i64 (T1 j),.int .i64 (T2 j),.int .i64 (T3 j)] 103)).cell? ⟨wr.heap.size,2,Option.none⟩=some (.int .i64 (T2 j)):=PT wr _ _ 2;have b3:(wr.alloc (.cells #[.int .i64 (K j),.int .i64 (T1 j),.int .i64 (T2 j),.int .i64 (T3 j)] 103)).cell? ⟨wr.heap.size,3,Option.none⟩=some (.int .i64 (T3 j)):=PT wr _ _ 3;have hsz:wr.heap.size<(wr.alloc (.cells #[.int .i64 (K j),.int .i64 (T1 j),.int .i64 (T2 j),.int .i64 (T3 j)] 103)).heap.size:=by rw[World.size_alloc];omega
   have hcall':=hcall.mono (R':=λe W1=>e=.returned (.bool (B1 j))/\W1.cell? ⟨wr.heap.size,0,Option.none⟩=some (.int .i64 (K j))/\W1.cell? ⟨wr.heap.size,1,Option.none⟩=some (.int .i64 (T1 j))/\W1.cell? ⟨wr.heap.size,2,Option.none⟩=some (.int .i64 (T2 j))/\W1.cell? ⟨wr.heap.size,3,Option.none⟩=some (.int .i64 (T3 j))/\W1.cell? ⟨bn,on,Option.none⟩=some (.int .i64 kd)/\W1.cell? ⟨bn,on+4,Option.none⟩=some kv/\Hid (S (V j) O' W1/\wr.heap.size<W1.heap.size)) (by
    rintro e W1 ⟨rfl,hbl⟩
    exact⟨rfl,cell_below hbl b0,cell_below hbl b1,cell_below hbl b2,cell_below hbl b3,cell_below hbl q0,cell_below hbl q4,HS.out.below _ _ _ _ hsA hbl,Bj hsz hbl.size⟩)
   have hVj:=HV.out j hlt
   gi_wp2_with ((try refine⟨hdd _,?_⟩);gi_at_call 160;refine hcall'.mono ?_;clear hcall hcall';rintro e W1 ⟨rfl,d0,d1,d2,d3,e0,e4,HS1⟩)
   case roundEnd=>
    rw[if_neg (by rw[Bool.eq_false_iff.2 (‹¬B1 j=true›:B1 j≠true)];first | (rw[beq_eq_false_iff_ne.2 (‹¬kd=2›:kd≠2)];simp) | (rw[beq_eq_false_iff_ne.2 (‹¬K j=5›:K j≠5)];simp))] at hVj
    exact⟨⟨j+1,by go_num,am,Lib.hid ⟨O',by rw[hVj];exact HS1.out.1⟩⟩,by simp only[intOf];omega⟩
   case roundEnd=>
    rw[if_neg (by rw[Bool.eq_false_iff.2 (‹¬B1 j=true›:B1 j≠true)];first | (rw[beq_eq_false_iff_ne.2 (‹¬kd=2›:kd≠2)];simp) | (rw[beq_eq_false_iff_ne.2 (‹¬K j=5›:K j≠5)];simp))] at hVj
    exact⟨⟨j+1,by go_num,am,Lib.hid ⟨O',by rw[hVj];exact HS1.out.1⟩⟩,by simp only[intOf];omega⟩
   all_goals
    have hB:(B1 j||(K j==5&&kd==2))=true:=by first | (rw[‹B1 j=true›];rfl) | (rw[‹K j=5›,‹kd=2›];simp)
    try (rename K j=5=>h5;clear h5)
    obtain⟨hS1,hz1⟩:=HS1.out;have hc:=HC80.out j hlt hB (n - 1) W1 wr.heap.size (HS.out.same _ _ _ hS1) (HW.out _ _ _ hS1) hws d0 d1 d2 d3;rw[hB,Da] at hVj;cases hB2:B2 j with
    |true=>
     rw[hB2] at hVj hc
     have hc':=hc.mono (R':=λe W2=>e=.returned (.bool true)/\Hid (S (V j) O' W2)) (by
      rintro e W2 ⟨rfl,hbl⟩
      exact⟨rfl,HS.out.below _ _ _ _ hS1 hbl⟩)
     gi_wp2_with ((try refine⟨hdd _,?_⟩);gi_at_call 161;refine hc'.mono ?_;clear hc hc';rintro e W2 ⟨rfl,HS2⟩)
     case roundEnd=>
      rw[if_neg (by decide)] at hVj
      exact⟨⟨j+1,by go_num,am,Lib.hid ⟨O',by rw[hVj];exact HS2.out⟩⟩,by simp only[intOf];omega⟩
    |false=>
     rw[hB2] at hVj hc;rw[if_pos (by decide)] at hVj
     obtain⟨post,hpost⟩:=HP.out (j+1) am
     have hc':=hc.mono (R':=λe W2=>e=.returned (.bool false)/\W2.cell? ⟨wr.heap.size,0,Option.none⟩=some (.int .i64 (K j))/\W2.cell? ⟨wr.heap.size,1,Option.none⟩=some (.int .i64 (T1 j))/\W2.cell? ⟨wr.heap.size,2,Option.none⟩=some (.int .i64 (T2 j))/\W2.cell? ⟨wr.heap.size,3,Option.none⟩=some (.int .i64 (T3 j))/\
      ∃fn tmps assign body,(Instr.yield l #[.agg #[.int .i64 (K j),.int .i64 (T1 j),.int .i64 (T2 j),.int .i64 (T3 j)]]).run Tryz.prog W2=.ok (.round l fn tmps assign body) W2/\RoundIn F (n - 1) Tryz.prog l fn tmps assign body W2 λe W3=>e=.returned (.bool true)/\Hid (∃O',S (V (j+1)) O' W3)) (by
      rintro e W2 ⟨rfl,hbl⟩
      obtain⟨fn,tmps,assign,body,hy,hR⟩:=HY.out (n - 1) (V j) #[XX (K j) (T1 j) (T2 j) (T3 j)] post O' W2 (by rw[hpost,hVj];simp) (HS.out.below _ _ _ _ hS1 hbl)
      refine⟨rfl,cell_below hbl d0,cell_below hbl d1,cell_below hbl d2,cell_below hbl d3,fn,tmps,assign,body,hy,RoundIn.mono hR ?_⟩
      rintro e W3 ⟨rfl,O2,h1,_⟩
      exact⟨rfl,O2,by rw[hVj];exact h1⟩)
     gi_wp2_with ((try refine⟨hdd _,?_⟩);first | (gi_at_call 161;refine hc'.mono ?_;clear hc hc';rintro e W2 ⟨rfl,f0,f1,f2,f3,fn,tmps,assign,body,hy,hR'⟩) | (refine hR'.mono ?_;clear hR';rintro e W3 ⟨rfl,HJ2⟩))
     case roundEnd=>exact⟨⟨j+1,by go_num,am,HJ2⟩,by simp only[intOf];omega⟩
  ·gi_wp2
   go_end0
   obtain⟨O',hs'⟩:=HJ.out;obtain rfl:j=len:=am
   exact⟨⟨_,rfl⟩,O',hs'⟩
end Go.Abs.Z
