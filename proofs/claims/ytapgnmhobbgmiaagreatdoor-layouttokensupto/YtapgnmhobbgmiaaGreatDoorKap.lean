/- A part of the proof: I5 I4 Sh PJ P0 M0. -/
import Derived.Test.YtapgnmhobbgmiaaGreatDoorKao
import Derived.Shelf.Strings.Builder1
import Derived.Shelf.Strings.Builder2
import Derived.Shelf.Strings.OnBuilder
import Derived.Shelf.Strings.BuilderF
import Derived.Shelf.Strings.BuilderK
import Derived.Test.YtapgnmhobbgmiaaGreatDoorProg
import Derived.Test.YtapgnmhobbgmiaaGreatDoorKam

set_option linter.unusedVariables false
set_option linter.unusedSimpArgs false
namespace Go.Abs.Z
open Go.Proofs Go.RowKit Go.Shelf
set_option linter.unusedVariables false
attribute [local go_sem] Oper.semAt_some
def Jh(k a e st en:Int):Bool:=k != 5&&(decide (st≤a)&&decide (e≤en))
set_option maxRecDepth 100000 in
set_option maxHeartbeats 2000000 in
theorem V7(F:Fence)(hd:F.depth=none)(hfn:∀f,F.fn f)(hro:F.round=none)(n:Nat)(W:World)(k f a e kd st en:Int)(sx:ByteArray)(kv:Value):
  CallsIn F n Tryz.prog 64 #[WF k f a e,.agg #[.int .i64 kd,.string sx,.int .i64 st,.int .i64 en,kv]] W fun x W'=>x=.returned (.bool (Jh k a e st en))∧Below W.heap.size W W':=by
 have hdd:∀k:Nat,(F.depth.isSome=true→1≤k):=fun k h=>by rw[hd] at h;cases h
 have h79:F.fn 64:=hfn 64;dsimp only[WF];refine callsIn_of_wp Tryz.func64 rfl h79 ?_ hro
 simp only[Tryz.ntmps64,BX,Al,Bo,Nat.reduceAdd,Nat.reduceSub,Dh,Df,DN,Dn,Bj,BI]
 gi_wp2
 all_goals go_ret
 all_goals refine⟨?_,((Below.refl W.heap.size W).alloc (Ag _) _).alloc (by simp) _⟩
 ·rename_i h1;simp[Jh,h1]
 ·rename_i h1 h2;simp[Jh,h1,h2]
 ·rename_i h1 h2;simp[Jh,Int.not_le.2 h2]
set_option maxRecDepth 100000 in
set_option maxHeartbeats 2000000 in
theorem mh(F:Fence)(hd:F.depth=none)(hfn:∀f,F.fn f)(hro:F.round=none)(n:Nat)(W:World)(bt:Nat)(k f a e kd st en:Int)(sx:ByteArray)(kv:Value)
  (d0:W.cell? ⟨bt,0,none⟩=some (.int .i64 k)) (d1:W.cell? ⟨bt,1,none⟩=some (.int .i64 f)) (d2:W.cell? ⟨bt,2,none⟩=some (.int .i64 a)) (d3:W.cell? ⟨bt,3,none⟩=some (.int .i64 e)) :
  CallsIn F n Tryz.prog 66 #[.agg #[.int .i64 kd,.string sx,.int .i64 st,.int .i64 en,kv],.pointer (some ⟨bt,0,none⟩)] W fun x W'=>x=.returned (.bool (Jh k a e st en))∧Below W.heap.size W W':=by
 have hdd:∀k:Nat,(F.depth.isSome=true→1≤k):=fun k h=>by rw[hd] at h;cases h
 have h81:F.fn 66:=hfn 66;have h79:F.fn 64:=hfn 64;have hc:=V7 F hd hfn hro (n - 1) (W.alloc (.cells #[.int .i64 kd,.string sx,.int .i64 st,.int .i64 en,kv] 24)) k f a e kd st en sx kv;dsimp only[WF] at hc
 have hc':=hc.mono (R':=fun x W'=>x=.returned (.bool (Jh k a e st en))∧Hid (Below W.heap.size W W')) (by
  rintro x W' ⟨rfl,hb⟩
  exact⟨rfl,((Below.refl W.heap.size W).alloc (Ag _) _).trans (hb.mono (by simp))⟩)
 clear hc;have e0:=cell_below (Below.alloc (Below.refl W.heap.size W) (Ag _) (.cells #[.int .i64 kd,.string sx,.int .i64 st,.int .i64 en,kv] 24)) d0;have e1:=cell_below (Below.alloc (Below.refl W.heap.size W) (Ag _) (.cells #[.int .i64 kd,.string sx,.int .i64 st,.int .i64 en,kv] 24)) d1;have e2:=cell_below (Below.alloc (Below.refl W.heap.size W) (Ag _) (.cells #[.int .i64 kd,.string sx,.int .i64 st,.int .i64 en,kv] 24)) d2;have e3:=cell_below (Below.alloc (Below.refl W.heap.size W) (Ag _) (.cells #[.int .i64 kd,.string sx,.int .i64 st,.int .i64 en,kv] 24)) d3;refine callsIn_of_wp Tryz.func66 rfl h81 ?_ hro
 simp only[Tryz.ntmps66,BX,Al,Bo,Nat.reduceAdd,Nat.reduceSub,Dh,Df,DN,Dn,Bj,BI]
 gi_wp2_with ((try refine⟨hdd _,?_⟩);gi_at_call 64;refine hc'.mono ?_;clear hc';rintro x W' ⟨rfl,hb⟩)
 all_goals go_ret
 exact⟨rfl,hb.out⟩
set_option maxRecDepth 100000 in
set_option maxHeartbeats 2000000 in
theorem sw(F:Fence)(hd:F.depth=none)(hfn:∀f,F.fn f)(hro:F.round=none)(n:Nat)(W:World)(bt:Nat)(k f a e:Int)
  (d0:W.cell? ⟨bt,0,none⟩=some (.int .i64 k)) (d1:W.cell? ⟨bt,1,none⟩=some (.int .i64 f)) (d2:W.cell? ⟨bt,2,none⟩=some (.int .i64 a)) (d3:W.cell? ⟨bt,3,none⟩=some (.int .i64 e))
  (ad:Option Addr) (len cap:Nat) (h62:len≤1000000000) (hsp:len≠0→∃ab ao,ad=some ⟨ab,ao,none⟩) (kd st en:Nat→Int) (sx:Nat→ByteArray) (kv:Nat→Value)
  (hat:∀ab ao,ad=some ⟨ab,ao,none⟩→∀j,j<len→W.cell? ⟨ab,ao+j * 5,none⟩=some (.int .i64 (kd j))∧W.cell? ⟨ab,ao+j * 5+1,none⟩=some (.string (sx j))∧W.cell? ⟨ab,ao+j * 5+2,none⟩=some (.int .i64 (st j))∧W.cell? ⟨ab,ao+j * 5+3,none⟩=some (.int .i64 (en j))∧W.cell? ⟨ab,ao+j * 5+4,none⟩=some (kv j)) :
  CallsIn F n Tryz.prog 121 #[.slice ad len cap,.func (.func 66) #[] #[.pointer (some ⟨bt,0,none⟩)]] W fun x W'=>(∃i:Int,x=.returned (.int .i64 i)∧((∃j,j<len∧i=j∧Jh k a e (st j) (en j)=true)∨(i=-1∧∀j,j<len→Jh k a e (st j) (en j)=false)))∧Below W.heap.size W W':=by
 have hdd:∀k:Nat,(F.depth.isSome=true→1≤k):=fun k h=>by rw[hd] at h;cases h
 have h81:F.fn 66:=hfn 66;have h146:F.fn 121:=hfn 121;have HSP:=Lib.hid hsp;clear hsp;have HAT:=Lib.hid hat;clear hat;have hlen62:len<2000000000:=by omega
 have D0:=Lib.hid d0;clear d0;have D1:=Lib.hid d1;clear d1;have D2:=Lib.hid d2;clear d2;have D3:=Lib.hid d3;clear d3;refine callsIn_of_wp Tryz.func121 rfl h146 ?_ hro
 simp only[Tryz.ntmps121,BX,Al,Bo,Nat.reduceAdd,Nat.reduceSub,Dh,Df,DN,Dn,Bj,BI]
 gi_wp2
 gi_loopw [8] (fun i wr=>∃(j:Nat),i=.int .i64 j∧j≤len∧Hid (Below W.heap.size W wr∧∀i,i<j→Jh k a e (st i) (en i)=false)) (fun i _=>len - (intOf i).toNat)
 case atStart=>exact⟨0,rfl,CR _,Lib.hid ⟨Below.refl _ _,fun i h=>by omega⟩⟩
 case round=>
  obtain⟨j,rfl,hjl,HJ⟩:=hrel;by_cases hlt:j<len
  ·obtain⟨ab,ao,rfl⟩:=HSP.out (by omega)
   obtain⟨hbl,hno⟩:=HJ.out;obtain⟨k0,k1,k2,k3,k4⟩:=HAT.out ab ao rfl j hlt;have c0:=cell_below hbl k0;have c1:=cell_below hbl k1;have c2:=cell_below hbl k2;have c3:=cell_below hbl k3;have c4:=cell_below hbl k4;clear k0 k1 k2 k3 k4;have hc:=mh F hd hfn hro (n - 1) wr bt k f a e (kd j) (st j) (en j) (sx j) (kv j) (cell_below hbl D0.out) (cell_below hbl D1.out) (cell_below hbl D2.out) (cell_below hbl D3.out);cases hB:Jh k a e (st j) (en j) with
   |true=>
    rw[hB] at hc
    have hc':=hc.mono (R':=fun x W'=>x=.returned (.bool true)∧Hid (Below W.heap.size W W')) (by
     rintro x W' ⟨rfl,hb⟩
     exact⟨rfl,hbl.trans (hb.mono hbl.size)⟩)
    clear hc
    gi_wp2_with ((try refine⟨hdd _,?_⟩);gi_at_call 66;refine hc'.mono ?_;clear hc';rintro x W1 ⟨rfl,HB⟩)
    go_ret
    exact⟨⟨_,rfl,.inl ⟨j,hlt,rfl,hB⟩⟩,HB.out⟩
   |false=>
    rw[hB] at hc
    have hc':=hc.mono (R':=fun x W'=>x=.returned (.bool false)∧Hid (Below W.heap.size W W')) (by
     rintro x W' ⟨rfl,hb⟩
     exact⟨rfl,hbl.trans (hb.mono hbl.size)⟩)
    clear hc
    gi_wp2_with ((try refine⟨hdd _,?_⟩);gi_at_call 66;refine hc'.mono ?_;clear hc';rintro x W1 ⟨rfl,HB⟩)
    case roundEnd=>
     exact⟨⟨j+1,by go_num,by omega,Lib.hid ⟨HB.out,fun i hi=>by
      rcases Bc i j with h | h
      ·exact hno i h
      ·obtain rfl:i=j:=by omega
       exact hB⟩⟩,by simp only[intOf];omega⟩
  ·gi_wp2
   go_ret
   exact⟨⟨_,rfl,.inr ⟨rfl,fun i hi=>HJ.out.2 i (by omega)⟩⟩,HJ.out.1⟩
def Rt(B:Nat→Bool):Nat→Bool
 |0=>false
 |n+1=>Rt B n||B n
theorem QI{B:Nat→Bool}:∀{n j:Nat},j<n→B j=true→Rt B n=true
 |0,j,h,_=>by omega
 |n+1,j,h,hb=>by
  rcases Bc j n with h' | h'
  ·rw[Rt,QI h' hb];rfl
  ·obtain rfl:j=n:=by omega
   rw[Rt,hb,Bool.or_true]
theorem UC{B:Nat→Bool}:∀{n:Nat},(∀j,j<n→B j=false)→Rt B n=false
 |0,_=>rfl
 |n+1,h=>by rw[Rt,UC fun j hj=>h j (by omega),h n (by omega)];rfl
set_option maxRecDepth 100000 in
set_option maxHeartbeats 2000000 in
theorem dH(F:Fence)(hd:F.depth=none)(hfn:∀f,F.fn f)(hro:F.round=none)(n:Nat)(W:World)(bt:Nat)(k f a e:Int)
  (d0:W.cell? ⟨bt,0,none⟩=some (.int .i64 k)) (d1:W.cell? ⟨bt,1,none⟩=some (.int .i64 f)) (d2:W.cell? ⟨bt,2,none⟩=some (.int .i64 a)) (d3:W.cell? ⟨bt,3,none⟩=some (.int .i64 e))
  (ad:Option Addr) (len cap:Nat) (h62:len≤1000000000) (hsp:len≠0→∃ab ao,ad=some ⟨ab,ao,none⟩) (kd st en:Nat→Int) (sx:Nat→ByteArray) (kv:Nat→Value)
  (hat:∀ab ao,ad=some ⟨ab,ao,none⟩→∀j,j<len→W.cell? ⟨ab,ao+j * 5,none⟩=some (.int .i64 (kd j))∧W.cell? ⟨ab,ao+j * 5+1,none⟩=some (.string (sx j))∧W.cell? ⟨ab,ao+j * 5+2,none⟩=some (.int .i64 (st j))∧W.cell? ⟨ab,ao+j * 5+3,none⟩=some (.int .i64 (en j))∧W.cell? ⟨ab,ao+j * 5+4,none⟩=some (kv j)) :
  CallsIn F n Tryz.prog 65 #[.slice ad len cap,.func (.func 66) #[] #[.pointer (some ⟨bt,0,none⟩)]] W fun x W'=>x=.returned (.bool (Rt (fun j=>Jh k a e (st j) (en j)) len))∧Below W.heap.size W W':=by
 have hdd:∀k:Nat,(F.depth.isSome=true→1≤k):=fun k h=>by rw[hd] at h;cases h
 have h80:F.fn 65:=hfn 65;have h146:F.fn 121:=hfn 121
 have hc:=(sw F hd hfn hro (n - 1) W bt k f a e d0 d1 d2 d3 ad len cap h62 hsp kd st en sx kv hat).mono (R':=fun x W'=>∃i:Int,x=.returned (.int .i64 i)∧decide (0≤i)=Rt (fun j=>Jh k a e (st j) (en j)) len∧Hid (Below W.heap.size W W')) (by
  rintro x W' ⟨⟨i,rfl,h⟩,hb⟩
  refine⟨i,rfl,?_,hb⟩
  rcases h with⟨j,hj,rfl,hB⟩ | ⟨rfl,hB⟩
  ·rw[QI (B:=fun j=>Jh k a e (st j) (en j)) hj hB];exact decide_eq_true (by omega)
  ·rw[UC (B:=fun j=>Jh k a e (st j) (en j)) hB];rfl)
 clear hat hsp d0 d1 d2 d3;generalize Rt (fun j=>Jh k a e (st j) (en j)) len=r at hc
 refine callsIn_of_wp Tryz.func65 rfl h80 ?_ hro
 simp only[Tryz.ntmps65,BX,Al,Bo,Nat.reduceAdd,Nat.reduceSub,Dh,Df,DN,Dn,Bj,BI]
 gi_wp2_with ((try refine⟨hdd _,?_⟩);gi_at_call 121;refine hc.mono ?_;clear hc;rintro x W1 ⟨i,rfl,hi,HB⟩)
 go_ret
 exact⟨rfl,HB.out⟩
end Go.Abs.Z

namespace Go.Abs.Z
open Go.Proofs Go.RowKit Go.Shelf
set_option linter.unusedVariables false
def tkI(i:Nat):PV→Int
 |.agg cs=>match cs[i]? with | some (.int _ z)=>z | _=>0
 |_=>0
def KO(t:PV):Value:=WF (tkI 0 t) (tkI 1 t) (tkI 2 t) (tkI 3 t)
def gB(t:PV):Prop:=∃k f a e,t=.agg [.int .i64 k,.int .i64 f,.int .i64 a,.int .i64 e]
def mI(t:PV)(ks:List PV):Bool:=Rt (fun j=>Jh (tkI 0 t) (tkI 2 t) (tkI 3 t) (tkI 2 (ks.getD j .nils)) (tkI 3 (ks.getD j .nils))) ks.length
def ownB(st en kd:Int)(ks:List PV)(t:PV):Bool:=(Jh (tkI 0 t) (tkI 2 t) (tkI 3 t) st en||(tkI 0 t==5&&kd==2))&&!(mI t ks)
theorem TF{e:PV}(h:TG e=true):∃k s st en x,e=.agg [.int .i64 k,.str s,.int .i64 st,.int .i64 en,x]∧Mc x=true:=by
 unfold TG at h
 split at h
 ·exact⟨_,_,_,_,_,rfl,h⟩
 ·cases h
theorem sF{t n:PV}{b:Bool}(h:inP t n=some b):gB t:=by
 unfold inP at h
 split at h
 ·exact⟨_,_,_,_,rfl⟩
 ·cases h
theorem uk{B:Nat→Bool}:∀{n:Nat},Rt B n=true↔∃j,j<n∧B j=true:=by
 intro n;constructor
 ·intro h
  induction n with
  |zero=>cases h
  |succ n ih=>
   rw[Rt,CW] at h;rcases h with h | h
   ·obtain⟨j,h1,h2⟩:=ih h;exact⟨j,by omega,h2⟩
   ·exact⟨n,by omega,h⟩
 ·rintro⟨j,h1,h2⟩;exact QI h1 h2
theorem jZ{t:PV}(ht:gB t):∀(ks:List PV),ks.all TG=true→Zg t ks=some (ks.any fun q=>Jh (tkI 0 t) (tkI 2 t) (tkI 3 t) (tkI 2 q) (tkI 3 q))
 |[],_=>rfl
 |q::ks,h=>by
  rw[Dr,Ai] at h;obtain⟨k,f,a,e,rfl⟩:=ht;obtain⟨kd,s,st,en,x,rfl,hx⟩:=TF h.1
  have hq:inP (.agg [.int .i64 k,.int .i64 f,.int .i64 a,.int .i64 e]) (.agg [.int .i64 kd,.str s,.int .i64 st,.int .i64 en,x])=some (Jh k a e st en):=by
   show(if Mc x then some (Jh k a e st en) else none)=_
   rw[hx];rfl
  rw[Zg,hq,List.any_cons];show _=some (Jh k a e st en||_)
  cases hb:Jh k a e st en with
  |true=>rfl
  |false=>exact jZ ⟨k,f,a,e,rfl⟩ ks h.2
theorem yP{t:PV}(ht:gB t){ks:List PV}(h:ks.all TG=true):Zg t ks=some (mI t ks):=by
 rw[jZ ht ks h];congr 1;rw[Bool.eq_iff_iff,List.any_eq_true];unfold mI;rw[uk];constructor
 ·rintro⟨q,hq,hb⟩
  obtain⟨j,hj⟩:=BL.1 hq;exact⟨j,(Ad.1 hj).1,by rw[AC,hj];exact hb⟩
 ·rintro⟨j,hj,hb⟩
  refine⟨ks[j],Ci hj,?_⟩
  rwa [AC,Ah hj] at hb
theorem ji{t:PV}{kd st en:Int}{s:List UInt8}{x:PV}{ks:List PV}{b:Bool}(hx:Mc x=true)(hk:ks.all TG=true)(h:qa t (.agg [.int .i64 kd,.str s,.int .i64 st,.int .i64 en,x]) kd ks=some b):gB t∧b=ownB st en kd ks t:=by
 unfold qa at h
 split at h
 ·rename_i b' k' r' hin;have htk:=sF hin;refine⟨htk,?_⟩
  have ha:=yP htk hk;obtain⟨k,f,a,e,he⟩:=htk;cases he
  have hq:inP (.agg [.int .i64 k',.int .i64 f,.int .i64 a,.int .i64 e]) (.agg [.int .i64 kd,.str s,.int .i64 st,.int .i64 en,x])=some (Jh k' a e st en):=by
   show(if Mc x then some (Jh k' a e st en) else none)=_
   rw[hx];rfl
  rw[hq] at hin;cases hin;rw[ha] at h;show b=((Jh k' a e st en||(k'==5&&kd==2))&&!(mI _ ks))
  split at h
  ·rename_i hc;rw[hc];cases h;rfl
  ·rename_i hc;rw[Dp.2 hc];cases h;rfl
 ·cases h
theorem SY{kd st en:Int}{s:List UInt8}{x:PV}{ks:List PV}(hx:Mc x=true)(hk:ks.all TG=true):∀(ts l:List PV),QW (.agg [.int .i64 kd,.str s,.int .i64 st,.int .i64 en,x]) kd ks ts=some l→(∀t∈ts,gB t)∧l=ts.filter (ownB st en kd ks)
 |[],l,h=>by cases h;exact⟨fun t h=>(by cases h),rfl⟩
 |t::ts,l,h=>by
  rw[QW] at h
  split at h
  ·rename_i l' h1 h2;obtain⟨e1,e2⟩:=ji hx hk h1;obtain⟨e3,e4⟩:=SY hx hk ts l' h2;cases h;refine⟨fun u hu=>?_,by rw[Dy,←e2,if_pos rfl,e4]⟩
   rcases AY.1 hu with rfl | hu
   ·exact e1
   ·exact e3 u hu
  ·rename_i l' h1 h2;obtain⟨e1,e2⟩:=ji hx hk h1;obtain⟨e3,e4⟩:=SY hx hk ts l' h2;cases h;refine⟨fun u hu=>?_,by rw[Dy,←e2,if_neg (by decide),e4]⟩
   rcases AY.1 hu with rfl | hu
   ·exact e1
   ·exact e3 u hu
  ·cases h
theorem wE{I:Imm}{w:World}{t:PV}(h:gB t):Rep I w (KO t) t:=by
 obtain⟨k,f,a,e,rfl⟩:=h;refine .agg rfl fun i r hr=>?_
 match i with
 |0=>simp at hr;subst hr;exact .int _ _
 |1=>simp at hr;subst hr;exact .int _ _
 |2=>simp at hr;subst hr;exact .int _ _
 |3=>simp at hr;subst hr;exact .int _ _
 |i+4=>simp at hr
theorem AwP{gf:FuncId}{lb:Array Value}{xs:List (Array Value)}{I:Imm}{w:World}(hI:∀b x,I b x→b<w.heap.size)
  (h:∀(n l:Nat) (S:List (Array Value)→(Nat→Prop)→World→Prop),Stg I w S→(∀s O W,S s O W→w.heap.size≤W.heap.size)→YOk (FW none) Tryz.prog l xs S→∀W,Below w.heap.size w W→S [] (fun b=>b<W.heap.size) W→
   CallsIn (FW none) n Tryz.prog gf (#[.func (.yield l) #[] #[]]++lb) W fun e W'=>(∃v,e=.returned v)∧∃O,S xs O W'):uE Tryz.prog gf lb xs I w:=by
 intro n l J W hb hJ hY h0
 let S:List (Array Value)→(Nat→Prop)→World→Prop:=fun s O W'=>J s O W'∧Same I w W'∧(∀b,O b→b<W'.heap.size)∧w.heap.size≤W'.heap.size
 have hsame:Same I w W:=⟨fun b o h=>cell_of_heap (hb.block b (hI b _ h)),fun b h=>hb.block b (hI b _ h)⟩
 refine(h n l S ⟨?_,fun _ _ _ h=>h.2.1,fun _ _ _ h=>h.2.2.1⟩ (fun _ _ _ h=>h.2.2.2) ?_ W hb ⟨h0,hsame,fun b h=>h,hb.size⟩).mono ?_
 ·rintro s O W1 W2 ⟨h1,h2,h3,h4⟩ hbl
  refine⟨hJ O s W1 W2 none h1 ⟨hbl.os,hbl.tape,hbl.output,hbl.size,fun k hk _=>hbl.block k hk⟩ (fun r e=>by cases e),h2.trans ⟨fun b p hb=>?_,fun b hb=>?_⟩ (fun _ _ h=>h),fun b hb=>Bi (h3 b hb) hbl.size,Bf h4 hbl.size⟩
  ·exact cell_of_heap (hbl.block b (Bi (hI b _ hb) h4))
  ·exact hbl.block b (Bi (hI b _ hb) h4)
 ·rintro m pre x post O W1 hx ⟨h1,h2,h3,h4⟩
  obtain⟨fn,tmps,assign,body,hy,hR⟩:=hY pre x post O W1 hx h1;refine VA rfl m ⟨fn,tmps,assign,body,hy,RoundIn.mono hR ?_⟩
  rintro e W' ⟨rfl,k1,k2,k3,k4⟩
  refine⟨rfl,_,⟨k1,h2.trans k2 (fun _ _ h=>h),fun b hb=>?_,Bf h4 k3⟩,k3,fun b hb hO=>⟨fun hc=>?_,fun cs t f hc=>k4 b cs t f hO hc⟩⟩
  ·rcases hb with hb | hb
   ·have:=h3 b hb;omega
   ·exact hb.2
  ·rcases hc with hc | hc
   ·exact hO hc
   ·omega
 ·rintro e W' ⟨hv,O,hS⟩
  exact⟨hv,O,hS.1⟩
theorem Gl{I:Imm}{w:World}{a:Addr}{len cap sz:Nat}{ow:Bool}{es:List PV}(h:Rep I w (.slice (some a) len cap) (.slice ow sz es)){j i:Nat}{e p:PV}(hj:es[j]?=some e)(hp:e.cells[i]?=some p):
  ∃u,(∀W,Same I w W→W.cell? ⟨a.block,a.off+j * sz+i,none⟩=some u)∧Rep I w u p:=by
 cases h with
 |slice cv h1 h2 h3 h4 h5 h6 h7=>exact⟨_,fun W hs=>(hs.cell _ _ (h5 j _ i _ hj hp)).trans (h6 j _ i _ hj hp),h7 j _ i _ hj hp⟩
structure AQW(I:Imm)(w:World)(v:Value)(ks:List PV)(ad:Option Addr)(len cap:Nat)(sx:Nat→ByteArray)(kv:Nat→Value):Prop where
 hval:v=.slice ad len cap
 hlen:len=ks.length
 spot:len≠0→∃ab ao,ad=some ⟨ab,ao,none⟩
 cells:∀ab ao,ad=some ⟨ab,ao,none⟩→∀W,Same I w W→∀j,j<len→W.cell? ⟨ab,ao+j * 5,none⟩=some (.int .i64 (tkI 0 (ks.getD j .nils)))∧W.cell? ⟨ab,ao+j * 5+1,none⟩=some (.string (sx j))∧
  W.cell? ⟨ab,ao+j * 5+2,none⟩=some (.int .i64 (tkI 2 (ks.getD j .nils)))∧W.cell? ⟨ab,ao+j * 5+3,none⟩=some (.int .i64 (tkI 3 (ks.getD j .nils)))∧W.cell? ⟨ab,ao+j * 5+4,none⟩=some (kv j)
theorem xX{I:Imm}{w:World}{v:Value}{kp:PV}{ks:List PV}(h:Rep I w v kp)(hk:Ty kp=some ks)(hnd:ks.all TG=true):∃ad len cap sx kv,AQW I w v ks ad len cap sx kv:=by
 unfold Ty at hk
 split at hk
 ·cases hk;have:=(Bz.one (bl:=Bl.nil) (.inl h)).FK;exact⟨none,0,0,fun _=>⟨#[]⟩,fun _=>undef,this,rfl,fun h=>absurd rfl h,fun ab ao e=>by cases e⟩
 ·cases hk;obtain⟨a,len,cap,cv,rfl,hlen,_,hsp,_⟩:=(Bz.one (bl:=Bl.nil) (.inl h)).FB
  have hget:∀j,j<len→∃x1 x2 x3 x4 x5,ks[j]?=some (.agg [.int .i64 x1,.str x2,.int .i64 x3,.int .i64 x4,x5]):=fun j hj=>by
   have hj':j<ks.length:=by omega
   obtain⟨x1,x2,x3,x4,x5,e,_⟩:=TF (Av.1 hnd _ (Ci hj'));exact⟨x1,x2,x3,x4,x5,by rw[Ah hj',e]⟩
  refine⟨some a,len,cap,fun j=>match w.cell? ⟨a.block,a.off+j * 5+1,none⟩ with | some (.string s)=>s | _=>⟨#[]⟩,fun j=>(w.cell? ⟨a.block,a.off+j * 5+4,none⟩).getD undef,rfl,hlen,fun hn=>?_,fun ab ao e W hs j hj=>?_⟩
  ·have:=hsp (fun e=>by rw[e] at hlen;exact hn hlen)
   obtain⟨ab,ao,asp⟩:=a;exact⟨ab,ao,by rw[show asp=none from this]⟩
  ·cases e;obtain⟨x1,x2,x3,x4,x5,he⟩:=hget j hj;obtain⟨u0,c0,r0⟩:=Gl (i:=0) h he rfl;obtain⟨u1,c1,r1⟩:=Gl (i:=1) h he rfl;obtain⟨u2,c2,r2⟩:=Gl (i:=2) h he rfl;obtain⟨u3,c3,r3⟩:=Gl (i:=3) h he rfl;obtain⟨u4,c4,r4⟩:=Gl (i:=4) h he rfl;have e0:=(Bz.one (bl:=Bl.nil) (.inl r0)).CF;obtain⟨s,e1,rfl⟩:=(Bz.one (bl:=Bl.nil) (.inl r1)).EU;have e2:=(Bz.one (bl:=Bl.nil) (.inl r2)).CF;have e3:=(Bz.one (bl:=Bl.nil) (.inl r3)).CF;subst e0 e1 e2 e3;have hd:ks.getD j .nils=.agg [.int .i64 x1,.str s.data.toList,.int .i64 x3,.int .i64 x4,x5]:=by rw[AC,he];rfl
   rw[hd];have w1:=c1 w (Same.refl _ _);have w4:=c4 w (Same.refl _ _);exact⟨c0 W hs,by rw[w1];exact c1 W hs,c2 W hs,c3 W hs,by rw[w4];exact c4 W hs⟩
 ·cases hk
theorem xB{o:Bool}{s0 s2 tx:List UInt8}{i1 i3 i4 kd st en:Int}{k0 kp:PV}{toks ks:List PV}{bb:Bool}{l:List PV}(hk0:Mc k0=true)(hkp:Mc kp=true)(hks:Ty kp=some ks)
  (hl:QW (.agg [.int .i64 kd,.str tx,.int .i64 st,.int .i64 en,kp]) kd ks toks=some l) (hst:small toks=true) (hsk:small ks=true) (hnd:ks.all TG=true) :
  uD 63 [.vptr (.agg [.str s0,.int .i64 i1,.str s2,.int .i64 i3,.int .i64 i4,k0,.slice o 4 toks,.bool bb]),.vptr (.agg [.int .i64 kd,.str tx,.int .i64 st,.int .i64 en,kp])] (l.map fun x=>[x.Ae]):=by
 intro I w cs hI hsz hrep;obtain⟨htk,rfl⟩:=SY hkp hnd toks l hl;have h0:=hrep 0 _ rfl;have h1:=hrep 1 _ rfl;obtain⟨bx,ox,cv,ev,i1',i2,i3'⟩:=(Bz.one (bl:=Bl.nil) (.inl h0)).JV;obtain⟨bn,on,cn,en',j1,j2,j3⟩:=(Bz.one (bl:=Bl.nil) (.inl h1)).JV
 have hcs:cs=#[cs.getD 0 undef,cs.getD 1 undef]:=by
  apply Array.ext
  ·simpa using hsz
  ·intro i hi1 hi2;have:cs.size=2:=by simpa using hsz
   match i with
   |0=>simp[Array.getD,this]
   |1=>simp[Array.getD,this]
   |i+2=>omega
 rw[ev,en'] at hcs;subst hcs;have r6:=i3' 6 _ rfl;have c6:=i2 6 _ rfl;have I6:=i1' 6 _ rfl;obtain⟨a,len,cap,cv',e1,hlen,_,hsp,_⟩:=(Bz.one (bl:=Bl.nil) (.inl r6)).FB;rw[e1] at c6 r6;obtain⟨ad,klen,kcap,sx,kv,hK⟩:=xX (j3 4 _ rfl) hks hnd;obtain⟨txs,ex,rfl⟩:=(Bz.one (bl:=Bl.nil) (.inl (j3 1 _ rfl))).EU;have q0:=(Bz.one (bl:=Bl.nil) (.inl (j3 0 _ rfl))).CF;have q2:=(Bz.one (bl:=Bl.nil) (.inl (j3 2 _ rfl))).CF;have q3:=(Bz.one (bl:=Bl.nil) (.inl (j3 3 _ rfl))).CF;have p0:=j2 0 _ rfl;have p1:=j2 1 _ rfl;have p2:=j2 2 _ rfl;have p3:=j2 3 _ rfl;have p4:=j2 4 _ rfl;rw[q0] at p0;rw[ex] at p1;rw[q2] at p2;rw[q3] at p3;rw[hK.hval] at p4;have hs:=of_decide_eq_true hst;have hs2:=of_decide_eq_true hsk
 let tj:Nat→PV:=fun j=>toks.getD j .nils
 have htj:∀j,j<len→toks[j]?=some (tj j):=fun j hj=>by
  have hj':j<toks.length:=by omega
  show _=some (toks.getD j .nils);rw[AC,Ah hj'];rfl
 have htj2:∀j,j<len→gB (tj j):=fun j hj=>htk _ (Au (htj j hj))
 let V:Nat→List (Array Value):=fun j=>((toks.take j).filter (ownB st en kd ks)).map fun t=>#[KO t]
 have hV:∀j,j<len→V (j+1)=if(Jh (tkI 0 (tj j)) (tkI 2 (tj j)) (tkI 3 (tj j)) st en||(tkI 0 (tj j)==5&&kd==2))&&!(mI (tj j) ks) then V j++[#[WF (tkI 0 (tj j)) (tkI 1 (tj j)) (tkI 2 (tj j)) (tkI 3 (tj j))]] else V j:=fun j hj=>by
  show(((toks.take (j+1)).filter (ownB st en kd ks)).map fun t=>(#[KO t]:Array Value))=_
  rw[List.take_add_one,htj j hj,CL,Ca];show _++(([tj j].filter (ownB st en kd ks)).map fun t=>(#[KO t]:Array Value))=_
  rw[Dy];show _=if ownB st en kd ks (tj j)=true then _ else _
  split
  ·rfl
  ·exact Az _
 have hVl:V len=((toks.filter (ownB st en kd ks)).map KO).map fun u=>#[u]:=by
  show(((toks.take len).filter (ownB st en kd ks)).map fun t=>(#[KO t]:Array Value))=_
  rw[CS (by omega),List.map_map];rfl
 have hpre:∀j,j≤len→∃post,V len=V j++post:=fun j hj=>by
  refine⟨((toks.drop j).filter (ownB st en kd ks)).map (fun t=>(#[KO t]:Array Value)),?_⟩
  show(((toks.take len).filter (ownB st en kd ks)).map fun t=>(#[KO t]:Array Value))=(((toks.take j).filter (ownB st en kd ks)).map fun t=>(#[KO t]:Array Value))++_
  rw[←Ca,←CL,BK,CS (by omega)]
 have hg:Good I w ((toks.filter (ownB st en kd ks)).map KO) (toks.filter (ownB st en kd ks)):=⟨by simp,fun j u x hu hx=>by
  rw[Am,hx] at hu;cases hu;exact wE (htk x (Ck.1 (Au hx)).1)⟩
 obtain⟨a1,a2⟩:=ul hg;rw[←hVl] at a1 a2;refine⟨V len,AwP hI fun n l S hS hw hY W hb h0'=>?_,a1,a2⟩
 have hW6:W.cell? ⟨bx,ox+6,none⟩=some (.slice (some a) len cap):=by rw[cell_of_heap (hb.block bx (hI _ _ I6))];exact c6
 refine Aw8 (FW none) rfl (fun _=>trivial) rfl n l I w bx ox bn on a len cap (fun hn=>hsp (fun e=>by rw[e] at hlen;exact hn hlen)) (by omega) kd st en txs (.slice ad klen kcap) (fun j=>tkI 0 (tj j)) (fun j=>tkI 1 (tj j)) (fun j=>tkI 2 (tj j)) (fun j=>tkI 3 (tj j))
  (fun j=>Jh (tkI 0 (tj j)) (tkI 2 (tj j)) (tkI 3 (tj j)) st en) (fun j=>mI (tj j) ks) V rfl hV hpre ?_ ?_ ?_ ?_ S hS hw hY W h0' hW6
 ·intro W hsm j hj;obtain⟨k,f,a',e,he⟩:=htj2 j hj;have hgt:=htj j hj;obtain⟨u0,c0,r0⟩:=Gl (i:=0) r6 (he▸hgt) rfl;obtain⟨u1,c1,r1⟩:=Gl (i:=1) r6 (he▸hgt) rfl;obtain⟨u2,c2,r2⟩:=Gl (i:=2) r6 (he▸hgt) rfl;obtain⟨u3,c3,r3⟩:=Gl (i:=3) r6 (he▸hgt) rfl;have e0:=(Bz.one (bl:=Bl.nil) (.inl r0)).CF;have e1:=(Bz.one (bl:=Bl.nil) (.inl r1)).CF;have e2:=(Bz.one (bl:=Bl.nil) (.inl r2)).CF;have e3:=(Bz.one (bl:=Bl.nil) (.inl r3)).CF;subst e0 e1 e2 e3;rw[he];exact⟨c0 W hsm,c1 W hsm,c2 W hsm,c3 W hsm⟩
 ·intro W hsm;exact⟨by show W.cell? ⟨bn,on+0,none⟩=_;rw[hsm.cell _ _ (j1 0 _ rfl)];exact p0,by rw[hsm.cell _ _ (j1 1 _ rfl)];exact p1,by rw[hsm.cell _ _ (j1 2 _ rfl)];exact p2,by rw[hsm.cell _ _ (j1 3 _ rfl)];exact p3,by rw[hsm.cell _ _ (j1 4 _ rfl)];exact p4⟩
 ·intro j hj n W hsm hsz';exact V7 (FW none) rfl (fun _=>trivial) rfl n W _ _ _ _ kd st en txs _
 ·intro j hj hc n W bt hsm hsz' hbt d0 d1 d2 d3;have:=dH (FW none) rfl (fun _=>trivial) rfl n W bt _ _ _ _ d0 d1 d2 d3 ad klen kcap (by have:=hK.hlen;omega) hK.spot _ _ _ sx kv (fun ab ao e=>hK.cells ab ao e W hsm)
  rw[hK.hlen] at this ⊢;exact this
theorem YQ:uC Tryz.prog itr:=by
 intro gf caps xs h;have e74:FE Tryz.prog 169:=⟨Tryz.f169,Tryz.func169,by kernel_rfl,by kernel_rfl⟩
 have e78:FE Tryz.prog 63:=⟨Tryz.f63,Tryz.func63,by kernel_rfl,by kernel_rfl⟩
 unfold itr at h
 split at h
 ·rename_i hg;subst hg
  split at h
  ·split at h
   ·rename_i l hl
    split at h
    ·rename_i hs;cases h;exact⟨e74,lv hl hs⟩
    ·cases h
   ·cases h
  ·cases h
 ·split at h
  ·rename_i hg;subst hg
   split at h
   ·split at h
    ·rename_i hk0
     split at h
     ·rename_i ks hks
      split at h
      ·rename_i l hl
       split at h
       ·rename_i hc;cases h;rw[Ai,Ai] at hc;exact⟨e78,xB hk0 (by unfold Ty at hks;split at hks<;>first | rfl | cases hks) hks hl hc.1 hc.2.1 hc.2.2⟩
       ·cases h
      ·cases h
     ·cases h
    ·cases h
   ·cases h
  ·cases h
end Go.Abs.Z

namespace Go.Proofs
open Go.Shelf
def Tryz.Q3:Go.Shelf.Ren:=⟨fun | 156=>265 | 165=>182 | 166=>71 | 169=>72 | 240=>124 | 241=>243 | 276=>176 | 277=>264 | n=>n,fun | 31=>131 | 9=>9 | 3=>3 | 4=>4 | 0=>0 | 20=>20 | 72=>101 | 76=>104 | 70=>98 | 37=>99 | 75=>103 | 127=>148 | 164=>188 | 5=>5 | 80=>107 | n=>n,fun | n=>n⟩
theorem Tryz.jD:Go.Proofs.Lays.n156 Tryz.prog Tryz.Q3:={
 mixed:=by kernel_rfl
 f156:=Tryz.func265.trans (congrArg some (by kernel_rfl))
 f165:=Tryz.func182.trans (congrArg some (by kernel_rfl))
 f166:=Tryz.func71.trans (congrArg some (by kernel_rfl))
 f169:=Tryz.func72.trans (congrArg some (by kernel_rfl))
 f240:=Tryz.func124.trans (congrArg some (by kernel_rfl))
 f241:=Tryz.func243.trans (congrArg some (by kernel_rfl))
 f276:=Tryz.func176.trans (congrArg some (by kernel_rfl))
 f277:=Tryz.func264.trans (congrArg some (by kernel_rfl))
 t0:=Tryz.underlying0
 a0:=Tryz.isAgg0
 z0:=Tryz.sizeOf0
 v0:=Tryz.zeroValue0
 t3:=Tryz.underlying3
 a3:=Tryz.isAgg3
 z3:=Tryz.sizeOf3
 v3:=Tryz.zeroValue3
 t4:=Tryz.underlying4
 a4:=Tryz.isAgg4
 z4:=Tryz.sizeOf4
 v4:=Tryz.zeroValue4
 t9:=Tryz.underlying9
 a9:=Tryz.isAgg9
 z9:=Tryz.sizeOf9
 v9:=Tryz.zeroValue9
 t20:=Tryz.underlying20
 a20:=Tryz.isAgg20
 z20:=Tryz.sizeOf20
 v20:=Tryz.zeroValue20
 t31:=Tryz.underlying131
 a31:=Tryz.isAgg131
 z31:=Tryz.sizeOf131
 v31:=Tryz.zeroValue131
 t37:=Tryz.underlying99
 a37:=Tryz.isAgg99
 z37:=Tryz.sizeOf99
 v37:=Tryz.zeroValue99
 t70:=Tryz.underlying98
 a70:=Tryz.isAgg98
 z70:=Tryz.sizeOf98
 v70:=Tryz.zeroValue98
 t72:=Tryz.underlying101
 a72:=Tryz.isAgg101
 z72:=Tryz.sizeOf101
 v72:=Tryz.zeroValue101
 t75:=Tryz.underlying103
 a75:=Tryz.isAgg103
 z75:=Tryz.sizeOf103
 v75:=Tryz.zeroValue103
 t76:=Tryz.underlying104
 a76:=Tryz.isAgg104
 z76:=Tryz.sizeOf104
 v76:=Tryz.zeroValue104
 t127:=Tryz.underlying148
 a127:=Tryz.isAgg148
 z127:=Tryz.sizeOf148
 v127:=Tryz.zeroValue148
 t164:=Tryz.underlying188
 a164:=Tryz.isAgg188
 z164:=Tryz.sizeOf188
 v164:=Tryz.zeroValue188 }
theorem Tryz.KN:Builder.Extra Tryz.prog Tryz.Q3:={
 sizeBuilder:=by kernel_rfl
 liesBuilder:=by kernel_rfl
 t5:=Tryz.underlying5
 a5:=Tryz.isAgg5
 z5:=Tryz.sizeOf5
 v5:=Tryz.zeroValue5
 infoByte:=by kernel_rfl
 cellsByte:=by kernel_rfl
 sizeByte:=by kernel_rfl
 neB5:=by decide }
open Go.RowKit in
theorem Tryz.strings_Join_none(a:Option Addr)(c:Nat)(sep:ByteArray)(w:World):
  Calls Tryz.prog 265 #[.slice a 0 c,.string sep] w fun e w'=>e=.returned (.string ⟨#[]⟩)∧w'=w:=Any.strings_Join_none Tryz.jD Tryz.KN a c sep w
open Go.RowKit in
theorem Tryz.strings_Join(bk o c:Nat)(xs:List ByteArray)(sep:ByteArray)(w:World)(hcells:∀(j:Nat) x,xs[j]?=some x→w.cell? ⟨bk,o+j,none⟩=some (.string x))(hbk:bk<w.heap.size)(hN:xs.length≤140737488355328)(hcap:xs.length≤c)(hlen:(Lib.join (xs.map (·.data.toList)) sep.data.toList).length≤140737488355328):
  Calls Tryz.prog 265 #[.slice (some ⟨bk,o,none⟩) xs.length c,.string sep] w fun e w'=>e=.returned (.string ⟨(Lib.join (xs.map (·.data.toList)) sep.data.toList).toArray⟩)∧Below w.heap.size w w':=Any.strings_Join Tryz.jD Tryz.KN bk o c xs sep w hcells hbk hN hcap hlen
end Go.Proofs

namespace Go.Abs.Z
open Go.Proofs Go.RowKit
def strsOf:List PV→Option (List (List UInt8))
 |[]=>some []
 |.str s::r=>(strsOf r).map (s::·)
 |_=>none
def p8:OT:=fun _ xs σ=>match xs with
 |[.nils,.str _]=>some (.str [],σ)
 |[.slice _ size es,.str sep]=>if size=1 then match strsOf es with
   |some l=>if l.length≤140737488355328∧(Lib.join l sep).length≤140737488355328 then some (.str (Lib.join l sep),σ) else none
   |none=>none
  else none
 |_=>none
theorem R7:∀(es:List PV) (l:List (List UInt8)),strsOf es=some l→es=l.map PV.str
 |[],l,h=>by cases h;rfl
 |e::es,l,h=>by
  cases e with
  |str s=>
   simp only[strsOf] at h;obtain⟨r,hr,rfl⟩:=Ac.1 h;rw[R7 es r hr];rfl
  |_=>simp[strsOf] at h
theorem AwY:FE Tryz.prog 265:=⟨Tryz.f265,Tryz.func265,by kernel_rfl,by kernel_rfl⟩
theorem yg:JE Tryz.prog 265 p8:=by
 intro call hSc args σ r σ' hown h;refine⟨AwY,fun n vs w G K hargs hpre=>?_⟩
 unfold p8 at h
 split at h
 ·rename_i sep;cases h;obtain⟨v,u,rfl,hv,hu⟩:=PW hargs;have:=hv.FK;subst this;obtain⟨s,rfl,_⟩:=hu.EU;refine Iu ((Tryz.strings_Join_none none 0 s w).mono ?_)
  rintro e w' ⟨rfl,rfl⟩
  exact⟨_,G,rfl,K9 [],NB hpre (Below.refl _ _)⟩
 ·rename_i own size es sep
  split at h
  ·rename_i hsz;subst hsz
   split at h
   ·rename_i l hl
    split at h
    ·rename_i hb;cases h;have hes:=R7 es l hl;subst hes;obtain⟨v,u,rfl,hv,hu⟩:=PW hargs;obtain⟨s,rfl,rfl⟩:=hu.EU;obtain⟨a,len,cap,cv,rfl,rfl,hcap,hspot,hsize,hI,hc,hr⟩:=hv.FB;cases hll:l with
     |nil=>
      subst hll;refine Iu ((Tryz.strings_Join_none (some a) cap s w).mono ?_)
      rintro e w' ⟨rfl,rfl⟩
      exact⟨_,G,rfl,K9 [],NB hpre (Below.refl _ _)⟩
     |cons x0 r0=>
      have hne:l.map PV.str≠[]:=by rw[hll];simp
      have hsp:=hspot hne;obtain⟨ab,ao,asp⟩:=a;dsimp only at hsp;subst hsp
      have hcell:∀(j:Nat) (x:ByteArray),(l.map fun y=>(⟨y.toArray⟩:ByteArray))[j]?=some x→w.cell? ⟨ab,ao+j,none⟩=some (.string x):=by
       intro j x hx;rw[Am] at hx;obtain⟨y,hy,rfl⟩:=Ac.1 hx;have he:(l.map PV.str)[j]?=some (.str y):=by rw[Am,hy];rfl
       have h1:=hc j (.str y) 0 (.str y) he rfl;have h2:=hr j (.str y) 0 (.str y) he rfl;have h3:=(Bz.one (bl:=G.bl) (.inl h2)).EU;obtain⟨t,ht,hty⟩:=h3;rw[ht] at h1;simp only[FR,Nat.add_zero] at h1;rw[h1];congr 2;cases t with
       |mk d=>
        cases d with
        |mk dl=>
         have hty2:dl=y:=hty;rw[hty2]
      have hbk:ab<w.heap.size:=by
       have he:(l.map PV.str)[0]?=some (.str x0):=by rw[hll];rfl
       exact hpre.lt _ _ (hI 0 (.str x0) 0 (.str x0) he rfl)
      have hmap:(l.map fun y=>(⟨y.toArray⟩:ByteArray)).map (fun x=>x.data.toList)=l:=by
       rw[List.map_map];have hid:((fun x:ByteArray=>x.data.toList)∘fun y:List UInt8=>(⟨y.toArray⟩:ByteArray))=id:=by funext y;rfl
       rw[hid,List.map_id]
      have hlen:(l.map fun y=>(⟨y.toArray⟩:ByteArray)).length=(l.map PV.str).length:=by simp
      rw[←hll];have:=Tryz.strings_Join ab ao cap (l.map fun y=>(⟨y.toArray⟩:ByteArray)) s w hcell hbk (by simpa using hb.1) (by simpa using hcap) (by rw[hmap];exact hb.2)
      rw[hmap,hlen] at this;refine Iu (this.mono ?_)
      rintro e w' ⟨rfl,hbel⟩
      exact⟨_,G,rfl,K9 _,NB hpre hbel⟩
    ·cases h
   ·cases h
  ·cases h
 ·cases h
end Go.Abs.Z

namespace Go.Abs.Z
noncomputable section
open Go.Proofs Go.RowKit
def pO:List (FuncId×OT):=[(71,YB),(72,YC),(207,Ox),(265,p8),(61,Mx pur itr 1000 lf61),(27,Mx pur itr 1000 lf27),(62,Mx pur itr 1000 lf62),(114,Mx pur itr 1000 zk)]
def ru(l:List (FuncId×OT))(f:FuncId):Option OT:=List.rec (motive:=fun _=>Option OT) none (fun p _ ih=>cond (Nat.beq p.1 f) (some p.2) ih) l
def pM(f:FuncId):Option OT:=ru pO f
theorem bN:∀(l:List (FuncId×OT)),(∀x∈l,JE Tryz.prog x.1 x.2)→∀f g,ru l f=some g→JE Tryz.prog f g
 |[],_,f,g,h=>by cases h
 |p::l,hl,f,g,h=>by
  have h':cond (Nat.beq p.1 f) (some p.2) (ru l f)=some g:=h;cases hb:Nat.beq p.1 f with
  |true=>
   rw[hb] at h';cases h';have:p.1=f:=BP hb;rw[←this];exact hl p (AR ..)
  |false=>rw[hb] at h';exact bN l (fun x hx=>hl x (AA _ hx)) f g h'
theorem bg:∀f g,pM f=some g→JE Tryz.prog f g:=by
 refine bN pO fun x hx=>?_
 simp only[pO,AY,Fe,or_false] at hx;rcases hx with rfl | rfl | rfl | rfl | rfl | rfl | rfl | rfl
 ·exact mW
 ·exact kz
 ·exact YR
 ·exact yg
 ·exact Nv YQ mixed Tryz.func61 (by kernel_rfl) Bx7
 ·exact Nv YQ mixed Tryz.func27 (by kernel_rfl) Bx8
 ·exact Nv YQ mixed Tryz.func62 (by kernel_rfl) Bx6
 ·exact Nv YQ mixed Tryz.func114 (by kernel_rfl) AQG
def run(n:Nat):Caller:=dK pur pM tab n
theorem Qg(n:Nat):Ig Tryz.prog (run n):=M5 mixed nI bg n
end
end Go.Abs.Z

namespace Go.Abs.Z
open Go.Proofs Go.RowKit
mutual
def eqV:Nat→PV→PV→Bool
 |0,_,_=>false
 |n+1,a,b=>match a,b with
  |.int k i,.int k' i'=>decide (k=k')&&decide (i=i')
  |.bool x,.bool y=>decide (x=y)
  |.str s,.str s'=>decide (s=s')
  |.nils,.nils=>true
  |.agg l,.agg l'=>Vs n l l'
  |.tuple l,.tuple l'=>Vs n l l'
  |.slice o z l,.slice o' z' l'=>decide (o=o')&&(decide (z=z')&&Vs n l l')
  |_,_=>false
def Vs:Nat→List PV→List PV→Bool
 |0,_,_=>false
 |n+1,a,b=>match a,b with
  |[],[]=>true
  |x::xs,y::ys=>eqV n x y&&Vs n xs ys
  |_,_=>false
end
theorem gN:∀n,(∀a b,eqV n a b=true→a=b)∧∀a b,Vs n a b=true→a=b:=by
 intro n
 induction n with
 |zero=>exact⟨fun a b h=>by simp[eqV] at h,fun a b h=>by simp[Vs] at h⟩
 |succ n ih=>
  refine⟨fun a b h=>?_,fun a b h=>?_⟩
  ·unfold eqV at h
   split at h
   ·simp only[Ai,decide_eq_true_eq] at h;rw[h.1,h.2]
   ·rw[of_decide_eq_true h]
   ·rw[of_decide_eq_true h]
   ·rfl
   ·rw[ih.2 _ _ h]
   ·rw[ih.2 _ _ h]
   ·simp only[Ai,decide_eq_true_eq] at h;rw[h.1,h.2.1,ih.2 _ _ h.2.2]
   ·cases h
  ·unfold Vs at h
   split at h
   ·rfl
   ·rw[Ai] at h;rw[ih.1 _ _ h.1,ih.2 _ _ h.2]
   ·cases h
def isR(r:PV):Option (PV×Sto)→Bool
 |some (x,[])=>eqV 100 r x
 |_=>false
theorem AwQ{r:PV}:∀{x:Option (PV×Sto)},isR r x=true→x=some (r,[])
 |some (x,[]),h=>by rw[(gN 100).1 _ _ h]
 |some (x,_::_),h=>by cases h
 |none,h=>by cases h
def memo(l:List (List PV×PV)):OT:=fun _ args σ=>match σ with
 |[]=>(l.find? fun e=>Vs 100 e.1 args).map fun e=>(e.2,[])
 |_=>none
theorem YJ{f:FuncId}{l:List (List PV×PV)}(h0:FE Tryz.prog f)(h:∀e∈l,K3 Tryz.prog f e.1 [] e.2 []):JE Tryz.prog f (memo l):=by
 intro call hS args σ r σ' hown hr;unfold memo at hr
 split at hr
 ·obtain⟨e,he,h2⟩:=Ac.1 hr;cases h2;have h3:=List.find?_some he
  rw[←(gN 100).2 _ _ h3];exact h e (List.mem_of_find?_eq_some he)
 ·cases hr
end Go.Abs.Z
