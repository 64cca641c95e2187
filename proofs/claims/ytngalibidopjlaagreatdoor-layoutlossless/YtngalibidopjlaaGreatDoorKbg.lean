/- A part of the proof: Y7. -/
import Derived.Test.YtngalibidopjlaaGreatDoorKbe
import Derived.Test.YtngalibidopjlaaGreatDoorKbf

set_option linter.unusedVariables false
set_option linter.unusedSimpArgs false
namespace Go.Abs.Z
open Go.Proofs Go.RowKit
set_option linter.unusedVariables false
mutual
theorem nds_size{ls:List Tk}:∀x:AT,(trP ls x).nds.length=x.size
 |.mk kd tx f k b ks=>by
  rw[trP,Tr.nds,List.length_cons,AZG ks,AT.size,Nat.add_comm]
theorem AZG{ls:List Tk}:∀xs:List AT,(ndss (trPs ls xs)).length=sizes xs
 |[]=>rfl
 |x::xs=>by rw[trPs,ndss,List.length_append,nds_size x,AZG xs,sizes]
end
mutual
theorem nds_wf:∀T:Tr,T.wf→∀U∈T.nds,U.wf∧U.nds.length≤T.nds.length
 |.mk k t a e n ks,w,U,h=>by
  rw[Tr.nds] at h;rcases List.mem_cons.1 h with rfl | h
  ·exact⟨w,Nat.le_refl _⟩
  ·obtain⟨h1,h2⟩:=ndss_wf ks w.2 U h;exact⟨h1,by rw[Tr.nds,List.length_cons];omega⟩
theorem ndss_wf:∀xs:List Tr,Tr.wfs xs→∀U∈ndss xs,U.wf∧U.nds.length≤(ndss xs).length
 |[],_,U,h=>by cases h
 |x::xs,w,U,h=>by
  rw[ndss] at h;rcases List.mem_append.1 h with h | h
  ·obtain⟨h1,h2⟩:=nds_wf x w.1 U h;exact⟨h1,by rw[ndss,List.length_append];omega⟩
  ·obtain⟨h1,h2⟩:=ndss_wf xs w.2 U h;exact⟨h1,by rw[ndss,List.length_append];omega⟩
end
section
variable{s:Str}{T:Tr}{ts:List Tk}
theorem ownr_loop{c j:Nat}{R:List Tk}(hR:R.length≤1000000000):∀(r:List Tk) (i:Nat) (L:List Tk),R.drop i=r→(L++r).Nodup→(L++r).length≤1000000000→
  LM a3 1 [(0,some (.str s)),(3,some (.vptr T.pv)),(6,some (.slice false 4 (ts.map Tk.pv))),(8,some (.mref 0)),(35,some (N c)),(36,some (N j)),(48,some (accD 4 (R.map Tk.pv))),(49,some (N R.length)),(50,some (N i))] (mS L) (.exit 2)
   [(0,some (.str s)),(3,some (.vptr T.pv)),(6,some (.slice false 4 (ts.map Tk.pv))),(8,some (.mref 0)),(35,some (N c)),(36,some (N j))] (mS (L++r))
 |[],i,L,hd,hn,hl=>by
  rw[List.append_nil];exact l3ix (by rw[List.drop_eq_nil_iff] at hd;omega)
 |t::r,i,L,hd,hn,hl=>by
  have ht:R[i]?=some t:=by
   have:=congrArg List.head? hd
   rwa [List.head?_drop,List.head?_cons] at this
  have hi:i<R.length:=(List.getElem?_eq_some_iff.1 ht).1
  have e:L++t::r=L++[t]++r:=by rw[List.append_assoc];rfl
  rw[e] at hn hl ⊢;refine l3in hi ht ?_ ?_ (by omega) (ownr_loop hR r (i+1) (L++[t]) (by rw[←List.tail_drop,hd];rfl) hn hl)
  ·intro hm;rw[←e] at hn;exact(List.nodup_append.1 hn).2.2 t hm t (List.mem_cons_self ..) rfl
  ·simp only[List.length_append,List.length_cons,List.length_nil] at hl;unfold AqC;omega
theorem out_loop(hts:ts.length≤1000000)(hc:T.nds.length≤400000)(h8:∀(j:Nat) (U:Tr),T.nds[j]?=some U→E 8 [.str s,T.pv,N j] [] (.tuple [accD 4 ((ts.filter (ownT U)).map Tk.pv),I 0]) []):∀(l:List Tr) (j:Nat) (L:List Tk),T.nds.drop j=l→(L++ownS ts l).Nodup→(L++ownS ts l).length≤1000000000→
  LM a3 0 [(0,some (.str s)),(3,some (.vptr T.pv)),(6,some (.slice false 4 (ts.map Tk.pv))),(8,some (.mref 0)),(35,some (N T.nds.length)),(36,some (N j))] (mS L) (.exit 0)
   [(0,some (.str s)),(3,some (.vptr T.pv)),(6,some (.slice false 4 (ts.map Tk.pv))),(8,some (.mref 0))] (mS (L++ownS ts l))
 |[],j,L,hd,hn,hl=>by
  show LR _ _ _ _ _ _ (mS (L++[]));rw[List.append_nil];exact l3x (by rw[List.drop_eq_nil_iff] at hd;omega)
 |U::l,j,L,hd,hn,hl=>by
  have hU:T.nds[j]?=some U:=by
   have:=congrArg List.head? hd
   rwa [List.head?_drop,List.head?_cons] at this
  have hj:=(List.getElem?_eq_some_iff.1 hU).1
  have e:L++ownS ts (U::l)=L++ts.filter (ownT U)++ownS ts l:=by
   rw[List.append_assoc];rfl
  rw[e] at hn hl ⊢;have hf:=List.length_filter_le (ownT U) ts;have h1:=(List.nodup_append.1 hn).1;have h2:(L++ts.filter (ownT U)).length≤1000000000:=by rw[List.length_append] at hl;omega
  exact l3n hj (evA (h8 j U hU)) (by omega) (ownr_loop (by omega) _ 0 L rfl h1 h2) (out_loop hts hc h8 l (j+1) _ (by rw[←List.tail_drop,hd];rfl) hn hl)
theorem tk_loop{L:List Tk}(hts:ts.length≤1000000)(hL:∀t∈ts,t∈L):∀(r:List Tk) (i:Nat),ts.drop i=r→
  LM a3 2 [(0,some (.str s)),(3,some (.vptr T.pv)),(6,some (.slice false 4 (ts.map Tk.pv))),(8,some (.mref 0)),(62,some (.slice false 4 (ts.map Tk.pv))),(63,some (N ts.length)),(64,some (N i))] (mS L) (.exit 4)
   [(0,some (.str s)),(3,some (.vptr T.pv)),(6,some (.slice false 4 (ts.map Tk.pv))),(8,some (.mref 0))] (mS L)
 |[],i,hd=>l3tx (by rw[List.drop_eq_nil_iff] at hd;omega)
 |t::r,i,hd=>by
  have ht:ts[i]?=some t:=by
   have:=congrArg List.head? hd
   rwa [List.head?_drop,List.head?_cons] at this
  have hi:=(List.getElem?_eq_some_iff.1 ht).1
  exact l3tn hi ht (hL t (List.mem_of_getElem? ht)) (by omega) (tk_loop hts hL r (i+1) (by rw[←List.tail_drop,hd];rfl))
end
theorem srt_nodup{l:List Tk}(h:Srt l):l.Nodup:=List.Pairwise.imp (fun {a b} h e=>by subst e;omega) h
theorem lossless_true(s:Str):∃σ,Runs a3 [.str s] [] (.bool true) σ:=by
 by_cases hs:s.length≤400
 ·have H:=AQ8 s (by omega)
  obtain⟨v,k,D,h⟩:=runs s (by omega) (.pg []) trivial (by simp)
  obtain⟨o2,o3,o4⟩:=runs_ok s (by omega) h
  obtain⟨b1,b2⟩:=o4 (by simp)
  have bk:=b2 0 (Nat.le_refl _);obtain⟨R,S1,E1⟩:=e8 (s:=s) (by omega) (n:=100000) (by decide) h
  have hw:(prT s (toksT s) v.2).wf:=⟨fun h=>AwR _ h,trPs_wf _⟩
  have hch:Chn s.length 0 (scanT s):=scan_chn s (s.length+1) 0 (by omega) (by omega)
  have hsr:=hch.srt;have hbd:=hch.bd;obtain⟨l1,l2⟩:=small_tok (s:=s) (by omega)
  have hsc:(scanT s).length≤s.length+1:=AjS (s.length+1) s 0;have hz:=szN _ _ _ _ _ _ _ h;have hz:sizes v.2≤0+16 * (k - 0):=hz;have hin:inss 0 (s.length:Nat) (trPs (toksT s) v.2):=pr_ins H bk o2;have hcut:cutss (scanT s) (trPs (toksT s) v.2):=AXV hsr (fun t ht=>(hbd t ht).2.1) (fun t ht=>(List.mem_filter.1 ht).1) v.2
  have hno:no2s (trPs (toksT s) v.2):=trPs_no2 _ _ (kd_N _ _ _ _ _ _ _ h trivial).2;have h6:=e97 s (by omega)
  have hnl:(prT s (toksT s) v.2).nds.length=(ndss (trPs (toksT s) v.2)).length+1:=rfl;rw[AZG] at hnl;have hprt:(prT s (toksT s) v.2).prt s (scanT s)=s:=prt_root hch hin hcut hno;have hperm:(ownS (scanT s) (prT s (toksT s) v.2).nds).Perm (scanT s):=ownS_root hch hin hno;have htx:(scanT s).flatMap (pcT s)=s:=hch.text rfl;have h0:∀t∈scanT s,t.a≤t.e∧(t.k≠5→t.a<t.e):=fun t ht=>⟨(hbd t ht).2.1,(hbd t ht).2.2.2.1⟩
  have hpb:(prT s (toksT s) v.2).pb s (scanT s):=by
   refine⟨?_,pbs_in hsr h0 (by rw[htx];omega) _ hin hcut hno (Int.le_refl _)⟩
   show((prT s (toksT s) v.2).prt s (scanT s)).length≤_;rw[hprt];omega
  have hT:(prT s (toksT s) v.2).nds.length≤400000:=by omega
  have h9:=e9_ hw hT (by omega) E1 h6 (by omega) (fun t ht=>?_) hpb
  ·rw[hprt] at h9;have hnd:(ownS (scanT s) (prT s (toksT s) v.2).nds).Nodup:=hperm.nodup_iff.2 (srt_nodup hsr);have hlen:=hperm.length_eq
   have l0:=out_loop (s:=s) (T:=prT s (toksT s) v.2) (ts:=scanT s) (by omega) hT (fun j U hU=>by
    obtain⟨w1,w2⟩:=nds_wf _ hw U (List.mem_of_getElem? hU);have:=nds_kids U;have:=AZL U.kids;exact e8_ hw hT (by omega) E1 h6 hU w1 (by omega)) (prT s (toksT s) v.2).nds 0 [] rfl (by rw[List.nil_append];exact hnd) (by rw[List.nil_append];omega)
   rw[List.nil_append] at l0;have l2:=tk_loop (s:=s) (T:=prT s (toksT s) v.2) (ts:=scanT s) (by omega) (fun t ht=>hperm.mem_iff.2 ht) _ 0 rfl
   exact⟨_,r3b (by omega) (evA E1) (evA h6) (evA (e7n hw hT)) (evA h9) hlen l0 l2⟩
  ·obtain⟨q1,q2,q3,q4,q5⟩:=hbd t ht;refine⟨?_,q3⟩
   have:=((Aw6 s (s.length+1) 0 (by omega) (by omega)).wf t ht).1.ord
   omega
 ·exact⟨_,r3a (by omega)⟩
end Go.Abs.Z
