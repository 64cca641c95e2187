/- A part of the proof: KN. -/
import Derived.Test.YtbkjmbhabkkoeaaGreatDoorKbf

set_option linter.unusedVariables false
set_option linter.unusedSimpArgs false
namespace Go.Abs.Z
open Go.Proofs Go.RowKit
set_option linter.unusedVariables false
open Classical
theorem qE{a b:Sto}(h:∀id,id<a.length→b[id]?=a[id]?):Old a b:=⟨Nat.le_of_not_lt fun hlt=>by
 have h1:=h b.length hlt;rw[AA (Bd _)] at h1;have:=List.getElem?_eq_none_iff.1 h1.symm
 omega,h⟩
theorem Ji{τ:Sto}:Rdd τ .nils []:=⟨rfl,rfl,rfl,fun j l hl=>by simp at hl⟩
section
variable{ps:List Pt}{gl kl:List (List Int)}{fw:Bool}
theorem ow(hv:Gr ps)(hg:D5 gl∧gl.length=ps.length)(hk:D5 kl∧kl.length=ps.length):(sy7 fw ps gl kl hv hg hk).sr=fun(i j:Nat)=>(i,j)∈Lb fw ps:=by
 funext i j
 exact propext (Vf hv).symm
theorem Zv{ls:List (List Int)}{n i v:Nat}(h:D5 ls)(hn:ls.length=n):(v<1024∧bit (Sb ls n i) v=true)↔(i<n∧(v:Int)∈ls.getD i []):=by
 unfold Sb;by_cases hi:i<n
 ·have hS:Set' (ls.getD i []):=by rw[Ns (by omega)];exact h _ (AU _)
  rw[if_pos hi];constructor
  ·rintro⟨h1,h2⟩
   rw[Zw hS.2 h1] at h2;exact⟨hi,of_decide_eq_true h2⟩
  ·rintro⟨_,h2⟩
   have h1:v<1024:=by have:=hS.2 _ h2;omega
   exact⟨h1,by rw[Zw hS.2 h1];exact decide_eq_true h2⟩
 ·rw[if_neg hi];constructor
  ·rintro⟨_,h2⟩
   rw[RF] at h2;cases h2
  ·rintro⟨h1,_⟩;exact absurd h1 hi
theorem cu(hv:Gr ps)(hg:D5 gl∧gl.length=ps.length)(hk:D5 kl∧kl.length=ps.length):(sy7 fw ps gl kl hv hg hk).gen=fun(i v:Nat)=>i<ps.length∧(v:Int)∈gl.getD i []:=by
 funext i v
 refine propext ?_
 show(i<ps.length∧v<1024∧bit (Sb gl ps.length i) v=true)↔_;rw[Zv hg.1 hg.2];exact⟨fun h=>h.2,fun h=>⟨h.1,h⟩⟩
theorem YB(hv:Gr ps)(hg:D5 gl∧gl.length=ps.length)(hk:D5 kl∧kl.length=ps.length):(sy7 fw ps gl kl hv hg hk).kill=fun(i v:Nat)=>(v:Int)∈kl.getD i []:=by
 funext i v
 refine propext ?_
 show(bit (Sb kl ps.length i) v=true)↔_;have hb:=Zv (i:=i) (v:=v) hk.1 hk.2;constructor
 ·intro h
  have h1:v<1024:=by
   refine Classical.byContradiction fun hc=>?_
   unfold bit at h;rw[Aj,AA (by rw[Qg hk.1 hk.2];omega)] at h
   simp at h
  exact(hb.1 ⟨h1,h⟩).2
 ·intro h
  have hi:i<ps.length:=by
   refine Classical.byContradiction fun hc=>?_
   rw[Aj,AA (by omega)] at h
   simp at h
  exact(hb.2 ⟨hi,h⟩).2
theorem iD{w:W}{l:List Int}(hl:Set' l)(h:∀v:Nat,v<1024→(bit w v=true↔(v:Int)∈l)):lst (bit w)=l:=by
 refine TM (Y6 _) hl.1 fun x=>?_
 rw[Y5];constructor
 ·rintro⟨v,h1,h2,rfl⟩
  exact(h v h1).1 h2
 ·intro hx;have:=hl.2 x hx;refine⟨x.toNat,by omega,?_,by omega⟩
  rw[h _ (by omega),show((x.toNat:Nat):Int)=x by omega];exact hx
end
theorem e3{τ:Sto}{f g k:PV}{ps:List Pt}{gs ks:List PV}{gl kl:List (List Int)}{fw:Bool}(hf:CE f ps)(hg:BH g gs gl)(hk:BH k ks kl)(hps:∀p∈ps,p.nx.length<4000000000)(hpl:ps.length<4000000000)(hgs:∀l∈gl,l.length<4000000000)(hks:∀l∈kl,l.length<4000000000)(hgl:gl.length<4000000000)(hkl:kl.length<4000000000):
  ∃τ',E 3 [.agg [f],.bool fw,g,k] τ (.bool true) τ':=by
 have h6:=e6 (τ:=τ++[[f]]) 14 hf hpl;have ho2:Old (τ++[[f]]) (τ++[[f]]++[[f]]++[[f]]):=Old.push.trans Old.push;by_cases hsm:U1 ps 14
 case neg=>
  rw[decide_eq_false hsm] at h6;exact⟨_,q3a hf hg hk h6⟩
 rw[decide_eq_true hsm] at h6;by_cases hg20:gl.length>20
 ·exact⟨_,q3b hf hg hk h6 hg20⟩
 by_cases hk20:kl.length>20
 ·exact⟨_,q3c hf hg hk h6 hg20 hk20⟩
 have hi2:(τ++[[f]]++[[f]]++[[f]])[τ.length]?=some [f]:=ho2.get Bv;rcases e7 (fw:=fw) (τ:=τ++[[f]]++[[f]]++[[f]]) hf hg hk hps hpl hgs hks with⟨hno,τ3,ho3,h7⟩ | ⟨hv,hag,hak,τ3,x,z,S,T,h7,ho3,hx,hz,hS,hT⟩
 ·have hi3:=ho3.get hi2;rcases e8 (fw:=fw) (τ:=τ3) hf hg hk hps hgl hkl hgs hks with⟨_,τ4,h8,_⟩ | ⟨hyes,_⟩
  ·have h9:=e9 (Ji (τ:=τ4)) Ji (by decide) (by simp)
   rw[decide_eq_true rfl] at h9;exact⟨τ4,q3e hf hg hk h6 hg20 hk20 hi2 hi3 h7 h8 Ji Ji Ji Ji Ji Ji h9 h9⟩
  ·exact absurd hyes hno
 ·have hi3:=ho3.get hi2;rcases e8 (fw:=fw) (τ:=τ3) hf hg hk hps hgl hkl hgs hks with⟨hno,_⟩ | ⟨_,τ4,u,w,S',T',h8,ho4,hu,hw,hset,hI,hR⟩
  ·exact absurd ⟨hv,hag,hak⟩ hno
  ·have hO4:=qE ho4
   have eS:∀i,i<ps.length→lst (bit (S i))=S' i:=fun i hi=>iD (hset i hi).1 fun v hv1=>by
    rw[hS i v hi hv1,hI i v hi];show Inn _ _ _ i v↔_;rw[ow,cu,YB]
   have eT:∀i,i<ps.length→lst (bit (T i))=T' i:=fun i hi=>iD (hset i hi).2 fun v hv1=>by
    rw[hT i v hi hv1,hR i v hi];show Rch _ _ _ i v↔_;rw[ow,cu,YB]
   have e1:((List.range ps.length).map fun i=>lst (bit ((if fw then S else T) i)))=(List.range ps.length).map (if fw then S' else T'):=DI fun i hi=>by
    have hi:=Be.1 hi;cases fw
    ·exact eT i hi
    ·exact eS i hi
   have e2:((List.range ps.length).map fun i=>lst (bit ((if fw then T else S) i)))=(List.range ps.length).map (if fw then T' else S'):=DI fun i hi=>by
    have hi:=Be.1 hi;cases fw
    ·exact eS i hi
    ·exact eT i hi
   rw[e1] at hx;rw[e2] at hz
   have b1:∀l∈(List.range ps.length).map (if fw then S' else T'),l.length<4000000000:=fun l hl=>by
    obtain⟨i,hi,rfl⟩:=Ch.1 hl;have hi:=Be.1 hi;have h1:=Gv (hset i hi).1;have h2:=Gv (hset i hi).2;cases fw<;>simp<;>omega
   have b2:∀l∈(List.range ps.length).map (if fw then T' else S'),l.length<4000000000:=fun l hl=>by
    obtain⟨i,hi,rfl⟩:=Ch.1 hl;have hi:=Be.1 hi;have h1:=Gv (hset i hi).1;have h2:=Gv (hset i hi).2;cases fw<;>simp<;>omega
   have h9:=e9 (hx τ4 hO4) hu (by simpa using hpl) b1
   have h9b:=e9 (hz τ4 hO4) hw (by simpa using hpl) b2
   rw[decide_eq_true rfl] at h9 h9b;exact⟨τ4,q3d hf hg hk h6 hg20 hk20 hi2 hi3 h7 h8 (hx τ3 Old.rfl') (hz τ3 Old.rfl') (hx τ4 hO4) (hz τ4 hO4) hu hw h9 h9b⟩
end Go.Abs.Z
