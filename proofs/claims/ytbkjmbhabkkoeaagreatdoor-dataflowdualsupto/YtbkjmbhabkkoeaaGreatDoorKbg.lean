/- A part of the proof: WM KT. -/
import Derived.Test.YtbkjmbhabkkoeaaGreatDoorKbf

set_option linter.unusedVariables false
set_option linter.unusedSimpArgs false
namespace Go.Abs.Z
open PV
open Go.Proofs Go.RowKit
set_option linter.unusedVariables false
set_option linter.unusedSimpArgs false
section
variable{τ:Sto}
theorem N9{f:PV}{ps:List Pt}(h:Cw f ps):EM pur IR (.w .bxO) [.agg [f]] τ [some (.ref τ.length 0)] (τ++[[f]]):=by
 refine⟨0,fun n _=>?_⟩
 rcases h with rfl | ⟨rfl,_⟩<;>rfl
theorem nz(p:Pt):EM pur IR (.w (.stO 3)) [.hole 3,p.pv] τ [some (.ref τ.length 0)] (τ++[[I p.k,I p.n,p.v]]):=by
 refine⟨0,fun n _=>?_⟩
 obtain⟨k,m,v,nx,h⟩:=p;rcases h with rfl | ⟨rfl,_⟩<;>rfl
theorem TK:∀l:List Int,OD (ints l) (ints l)=true
 |[]=>rfl
 |x::l=>by
  show(peq (I x) (I x)&&OD (ints l) (ints l))=true;rw[TK l];simp[peq]
theorem mH{v:PV}{l:List Int}(h:Ls v l):K8 [some v] [some v]=true:=by
 rcases h with rfl | ⟨rfl,_⟩
 ·simp only[K8,peq,TK,Nat.beq_refl];rfl
 ·simp[K8,peq]
end
variable{τ τ2:Sto}{v w k f g:PV}{gs ks ws us:List PV}{a c:Nat}
theorem Q4:RQ 4 a4:=fun _ _ _=>by kernel_rfl
theorem Q16:RQ 16 a16:=fun _ _ _=>by kernel_rfl
theorem AvE{l m:List Int}(hv:Rd τ v l)(hw:Rd τ w m){k:Nat}{p q:PV}{x:Int}(hk:k<l.length)(hl:l.length<4000000000)(ip:AJ (.idx 1) [v,N k]=some [some p])(lp:BR (.ld 1 false) [p] τ=some [some (I x)])(iq:AJ (.idx 1) [w,N k]=some [some q])(lq:BR (.ld 1 false) [q] τ=some [some (I x)]){e:Bt}{ff1:FF}{σ1:Sto}(hnx:LQ (ml a16 0) (lc a16 0) [(0,v),(1,w),(12,N l.length),(13,N (k+1))] τ e ff1 σ1):LQ (ml a16 0) (lc a16 0) [(0,v),(1,w),(12,N l.length),(13,N k)] τ e ff1 σ1:=by
 exact Yt [0,1,12,13] [st 0 (PSq τ (Cm .i64 (show(k:Int) < (l.length:Int) by omega))),st 3 (PSq τ hv.mv),st 1 (PSq τ ip),st 0 (QSq τ lp),st 0 (PSq τ hw.mv),st 1 (PSq τ iq),st 0 (QSq τ lq),st 0 (PSq τ (IJ .i64 (x:=x) (y:=x) rfl)),st 1 (PSq τ (Di k 1 (by omega)))] hnx (by kernel_rfl)
theorem AvD{l:List Int}{k:Nat}(hk:¬k<l.length):LQ (ml a16 0) (lc a16 0) [(0,v),(1,w),(12,N l.length),(13,N k)] τ (.exit 0) [] τ:=by
 exact Yr [] [st 0 (PSq τ (CY .i64 (show ¬(k:Int) < (l.length:Int) by omega)))] (by kernel_rfl)
theorem q16{l m:List Int}(hv:Rd τ v l)(hw:Rd τ w m)(he:l.length=m.length)(L:LQ (ml a16 0) (lc a16 0) [(0,v),(1,w),(12,N l.length),(13,N 0)] τ (.exit 0) [] τ):EQ 16 [v,w] τ (.bool true) τ:=by
 exact TG Q16 [st 1 (PSq τ hv.mv),st 0 (PSq τ hv.len),st 0 (PSq τ hw.mv),st 0 (PSq τ hw.len),st 0 (PSq τ (IJ .i64 (show(l.length:Int)=(m.length:Int) by omega))),st 1 (PSq τ hv.mv),st 0 (PSq τ hv.len),sl 1 [0,1,12,13] L] (by kernel_rfl)
theorem q4a{ps:List Pt}{gl kl:List (List Int)}(hf:Cw f ps)(hg:Dk g gs gl)(hk:Dk k ks kl)(h5:∀σ,EQ 5 [] σ (.bool true) σ)(h6:EQ 6 [.agg [f],I 14] (τ++[[f]]) (.bool false) (τ++[[f]])):EQ 4 [.agg [f],g,k] τ (.bool true) (τ++[[f]]):=by
 exact TG Q4 [st 0 (N9 (τ:=τ) hf),st 1 (oWq (h5 (τ++[[f]])) (by kernel_rfl) ⟨rfl,rfl,rfl⟩),st 2 (QSq (τ++[[f]]) (E9 hf Bp)),st 0 (oWq h6 (by kernel_rfl) ⟨by rcases hf with rfl | ⟨rfl,_⟩<;>rfl,rfl,rfl⟩)] (by kernel_rfl)
theorem q4b{ps:List Pt}{gl kl:List (List Int)}(hf:Cw f ps)(hg:Dk g gs gl)(hk:Dk k ks kl)(h5:∀σ,EQ 5 [] σ (.bool true) σ)(h6:EQ 6 [.agg [f],I 14] (τ++[[f]]) (.bool true) (τ++[[f]]))(h10:EQ 10 [.agg [f]] (τ++[[f]]) (.bool false) (τ++[[f]])):EQ 4 [.agg [f],g,k] τ (.bool true) (τ++[[f]]):=by
 exact TG Q4 [st 0 (N9 (τ:=τ) hf),st 1 (oWq (h5 (τ++[[f]])) (by kernel_rfl) ⟨rfl,rfl,rfl⟩),st 2 (QSq (τ++[[f]]) (E9 hf Bp)),st 0 (oWq h6 (by kernel_rfl) ⟨by rcases hf with rfl | ⟨rfl,_⟩<;>rfl,rfl,rfl⟩),sg 2 (QSq (τ++[[f]]) (E9 hf Bp)),sg 0 (oWq h10 (by kernel_rfl) ⟨by rcases hf with rfl | ⟨rfl,_⟩<;>rfl,rfl,rfl⟩)] (by kernel_rfl)
theorem q4c{ps:List Pt}{gl kl:List (List Int)}(hf:Cw f ps)(hg:Dk g gs gl)(hk:Dk k ks kl)(h5:∀σ,EQ 5 [] σ (.bool true) σ)(h6:EQ 6 [.agg [f],I 14] (τ++[[f]]) (.bool true) (τ++[[f]]))(h10:EQ 10 [.agg [f]] (τ++[[f]]) (.bool true) (τ++[[f]]))(h11g:EQ 11 [.agg [f],g] [] (.bool false) []):EQ 4 [.agg [f],g,k] τ (.bool true) (τ++[[f]]):=by
 exact TG Q4 [st 0 (N9 (τ:=τ) hf),st 1 (oWq (h5 (τ++[[f]])) (by kernel_rfl) ⟨rfl,rfl,rfl⟩),st 2 (QSq (τ++[[f]]) (E9 hf Bp)),st 0 (oWq h6 (by kernel_rfl) ⟨by rcases hf with rfl | ⟨rfl,_⟩<;>rfl,rfl,rfl⟩),sg 2 (QSq (τ++[[f]]) (E9 hf Bp)),sg 0 (oWq h10 (by kernel_rfl) ⟨by rcases hf with rfl | ⟨rfl,_⟩<;>rfl,rfl,rfl⟩),sg 3 (QSq (τ++[[f]]) (E9 hf Bp)),sg 0 (PSq (τ++[[f]]) (EX hg)),sg 0 (oCq (τ++[[f]]) h11g ⟨by simp only[Bi,Cg,hg.free,hg.flat];rcases hf with rfl | ⟨rfl,_⟩<;>rfl,by simp only[AR,Bh,hg.dis];rcases hf with rfl | ⟨rfl,_⟩<;>rfl,rfl,rfl⟩)] (by kernel_rfl)
theorem q4d{ps:List Pt}{gl kl:List (List Int)}(hf:Cw f ps)(hg:Dk g gs gl)(hk:Dk k ks kl)(h5:∀σ,EQ 5 [] σ (.bool true) σ)(h6:EQ 6 [.agg [f],I 14] (τ++[[f]]) (.bool true) (τ++[[f]]))(h10:EQ 10 [.agg [f]] (τ++[[f]]) (.bool true) (τ++[[f]]))(h11g:EQ 11 [.agg [f],g] [] (.bool true) [])(h11k:EQ 11 [.agg [f],k] [] (.bool false) []):EQ 4 [.agg [f],g,k] τ (.bool true) (τ++[[f]]):=by
 exact TG Q4 [st 0 (N9 (τ:=τ) hf),st 1 (oWq (h5 (τ++[[f]])) (by kernel_rfl) ⟨rfl,rfl,rfl⟩),st 2 (QSq (τ++[[f]]) (E9 hf Bp)),st 0 (oWq h6 (by kernel_rfl) ⟨by rcases hf with rfl | ⟨rfl,_⟩<;>rfl,rfl,rfl⟩),sg 2 (QSq (τ++[[f]]) (E9 hf Bp)),sg 0 (oWq h10 (by kernel_rfl) ⟨by rcases hf with rfl | ⟨rfl,_⟩<;>rfl,rfl,rfl⟩),sg 3 (QSq (τ++[[f]]) (E9 hf Bp)),sg 0 (PSq (τ++[[f]]) (EX hg)),sg 0 (oCq (τ++[[f]]) h11g ⟨by simp only[Bi,Cg,hg.free,hg.flat];rcases hf with rfl | ⟨rfl,_⟩<;>rfl,by simp only[AR,Bh,hg.dis];rcases hf with rfl | ⟨rfl,_⟩<;>rfl,rfl,rfl⟩),sg 3 (QSq (τ++[[f]]) (E9 hf Bp)),sg 0 (PSq (τ++[[f]]) (EX hk)),sg 0 (oCq (τ++[[f]]) h11k ⟨by simp only[Bi,Cg,hk.free,hk.flat];rcases hf with rfl | ⟨rfl,_⟩<;>rfl,by simp only[AR,Bh,hk.dis];rcases hf with rfl | ⟨rfl,_⟩<;>rfl,rfl,rfl⟩)] (by kernel_rfl)
theorem q4e{ps qs:List Pt}{ws2 us2:List PV}(h5:∀σ,EQ 5 [] σ (.bool true) σ)(h6:EQ 6 [.agg [.slice false 3 (ps.map Pt.pv)],I 14] (τ++[[.slice false 3 (ps.map Pt.pv)]]) (.bool true) (τ++[[.slice false 3 (ps.map Pt.pv)]]))(h10:EQ 10 [.agg [.slice false 3 (ps.map Pt.pv)]] (τ++[[.slice false 3 (ps.map Pt.pv)]]) (.bool true) (τ++[[.slice false 3 (ps.map Pt.pv)]]))(h11g:EQ 11 [.agg [.slice false 3 (ps.map Pt.pv)],.slice false 1 gs] [] (.bool true) [])(h11k:EQ 11 [.agg [.slice false 3 (ps.map Pt.pv)],.slice false 1 ks] [] (.bool true) [])(h7:EQ 7 [.agg [.slice false 3 (ps.map Pt.pv)],.bool false,.slice false 1 gs,.slice false 1 ks] (τ++[[.slice false 3 (ps.map Pt.pv)]]) (.tuple [.slice false 1 ws,.slice false 1 us,I 0]) (τ++[[.slice false 3 (ps.map Pt.pv)]]))(h14:EQ 14 [.agg [.slice false 3 (ps.map Pt.pv)]] (τ++[[.slice false 3 (ps.map Pt.pv)]]) (.agg [.slice false 3 (qs.map Pt.pv)]) (τ++[[.slice false 3 (ps.map Pt.pv)]]))(tgs:EQ 12 [.slice false 1 gs] (τ++[[.slice false 3 (ps.map Pt.pv)]]) (.slice false 1 (swp gs)) (τ++[[.slice false 3 (ps.map Pt.pv)]]))(tks:EQ 12 [.slice false 1 ks] (τ++[[.slice false 3 (ps.map Pt.pv)]]) (.slice false 1 (swp ks)) (τ++[[.slice false 3 (ps.map Pt.pv)]]))(tws:EQ 12 [.slice false 1 ws] (τ++[[.slice false 3 (ps.map Pt.pv)]]) (.slice false 1 (swp ws)) (τ++[[.slice false 3 (ps.map Pt.pv)]]))(tus:EQ 12 [.slice false 1 us] (τ++[[.slice false 3 (ps.map Pt.pv)]]) (.slice false 1 (swp us)) (τ++[[.slice false 3 (ps.map Pt.pv)]]))(h72:EQ 7 [.agg [.slice false 3 (qs.map Pt.pv)],.bool true,.slice false 1 (swp gs),.slice false 1 (swp ks)] (τ++[[.slice false 3 (ps.map Pt.pv)]]) (.tuple [.slice false 1 ws2,.slice false 1 us2,I 0]) (τ++[[.slice false 3 (ps.map Pt.pv)]]))(l1:ws.length=(ps.map Pt.pv).length)(l2:us.length=(ps.map Pt.pv).length)(h91:EQ 9 [.slice false 1 (swp ws),.slice false 1 us2] (τ++[[.slice false 3 (ps.map Pt.pv)]]) (.bool true) (τ++[[.slice false 3 (ps.map Pt.pv)]]))(h92:EQ 9 [.slice false 1 (swp us),.slice false 1 ws2] (τ++[[.slice false 3 (ps.map Pt.pv)]]) (.bool true) (τ++[[.slice false 3 (ps.map Pt.pv)]])){τ2:Sto}(L:LQ (ml a4 0) (lc a4 0) [(1,slice false 1 gs),(2,slice false 1 ks),(7,slice false 1 ws),(8,slice false 1 us),(101,slice false 3 (ps.map Pt.pv)),(102,N (ps.map Pt.pv).length),(103,N 0)] (τ++[[.slice false 3 (ps.map Pt.pv)]]) (.exit 0) [] τ2):EQ 4 [.agg [.slice false 3 (ps.map Pt.pv)],.slice false 1 gs,.slice false 1 ks] τ (.bool true) τ2:=by
 exact TG Q4 [st 0 (N9 (τ:=τ) (.inl rfl:Cw (.slice false 3 (ps.map Pt.pv)) ps)),st 1 (oWq (h5 (τ++[[.slice false 3 (ps.map Pt.pv)]])) (by kernel_rfl) ⟨rfl,rfl,rfl⟩),st 2 (QSq (τ++[[.slice false 3 (ps.map Pt.pv)]]) (E9 (.inl rfl:Cw (.slice false 3 (ps.map Pt.pv)) ps) Bp)),st 0 (oWq h6 (by kernel_rfl) ⟨rfl,rfl,rfl⟩),sg 2 (QSq (τ++[[.slice false 3 (ps.map Pt.pv)]]) (E9 (.inl rfl:Cw (.slice false 3 (ps.map Pt.pv)) ps) Bp)),sg 0 (oWq h10 (by kernel_rfl) ⟨rfl,rfl,rfl⟩),sg 3 (QSq (τ++[[.slice false 3 (ps.map Pt.pv)]]) (E9 (.inl rfl:Cw (.slice false 3 (ps.map Pt.pv)) ps) Bp)),sg 1 (oCq (τ++[[.slice false 3 (ps.map Pt.pv)]]) h11g ⟨rfl,rfl,rfl,rfl⟩),sg 3 (QSq (τ++[[.slice false 3 (ps.map Pt.pv)]]) (E9 (.inl rfl:Cw (.slice false 3 (ps.map Pt.pv)) ps) Bp)),sg 1 (oCq (τ++[[.slice false 3 (ps.map Pt.pv)]]) h11k ⟨rfl,rfl,rfl,rfl⟩),st 3 (QSq (τ++[[.slice false 3 (ps.map Pt.pv)]]) (E9 (.inl rfl:Cw (.slice false 3 (ps.map Pt.pv)) ps) Bp)),st 2 (oWq h7 (by kernel_rfl) ⟨rfl,rfl,rfl⟩),st 8 (QSq (τ++[[.slice false 3 (ps.map Pt.pv)]]) (E9 (.inl rfl:Cw (.slice false 3 (ps.map Pt.pv)) ps) Bp)),st 0 (oWq h14 (by kernel_rfl) ⟨rfl,rfl,rfl⟩),st 2 (oDq tgs (by kernel_rfl) ⟨rfl,rfl,rfl⟩),st 2 (oDq tks (by kernel_rfl) ⟨rfl,rfl,rfl⟩),st 0 (oWq h72 (by kernel_rfl) ⟨rfl,rfl,rfl⟩),sg 17 (QSq (τ++[[.slice false 3 (ps.map Pt.pv)]]) (Dj (.inl rfl:Cw (.slice false 3 (ps.map Pt.pv)) ps) Bp)),sg 1 (PSq (τ++[[.slice false 3 (ps.map Pt.pv)]]) (IJ .i64 (show(ws.length:Int)=(((ps.map Pt.pv).length:Nat):Int) by omega))),sg 5 (QSq (τ++[[.slice false 3 (ps.map Pt.pv)]]) (Dj (.inl rfl:Cw (.slice false 3 (ps.map Pt.pv)) ps) Bp)),sg 1 (PSq (τ++[[.slice false 3 (ps.map Pt.pv)]]) (IJ .i64 (show(us.length:Int)=(((ps.map Pt.pv).length:Nat):Int) by omega))),sg 4 (oDq tws (by kernel_rfl) ⟨rfl,rfl,rfl⟩),sg 1 (oWq h91 (by kernel_rfl) ⟨rfl,rfl,rfl⟩),sg 5 (oDq tus (by kernel_rfl) ⟨rfl,rfl,rfl⟩),sg 1 (oWq h92 (by kernel_rfl) ⟨rfl,rfl,rfl⟩),st 4 (QSq (τ++[[.slice false 3 (ps.map Pt.pv)]]) (Dj (.inl rfl:Cw (.slice false 3 (ps.map Pt.pv)) ps) Bp)),sl 2 [1,2,7,8,101,102,103] L] (by kernel_rfl)
theorem q4y{ps:List Pt}(ha:¬a<(ps.map Pt.pv).length):LQ (ml a4 0) (lc a4 0) [(1,slice false 1 gs),(2,slice false 1 ks),(7,slice false 1 ws),(8,slice false 1 us),(101,slice false 3 (ps.map Pt.pv)),(102,N (ps.map Pt.pv).length),(103,N a)] τ (.exit 0) [] τ:=by
 exact Yr [] [st 0 (PSq τ (CY .i64 (show ¬(a:Int) < (((ps.map Pt.pv).length:Nat):Int) by omega)))] (by kernel_rfl)
theorem q4i{ps:List Pt}{p:Pt}{v2:PV}{b:Nat}{m:List Int}(hc:c<p.nx.length)(hcn:p.nx.length<4000000000)(hx:p.nx[c]?=some (b:Int))(hv:v.free=true∧v.Ag=v)(hv2:v2.free=true∧v2.Ag=v2)(hw:ws[b]?=some w)(hl:Ls w m)(happ:EM pur IR (.w (.Fa 1)) [v,w] τ [some v2] τ2){e:Bt}{ff1:FF}{σ1:Sto}(hnx:LQ (ml a4 1) (lc a4 1) [(1,slice false 1 gs),(2,slice false 1 ks),(7,slice false 1 ws),(8,slice false 1 us),(101,slice false 3 (ps.map Pt.pv)),(102,N (ps.map Pt.pv).length),(103,N a),(14,N a),(16,v2),(109,some p.v),(110,N p.nx.length),(111,N (c+1))] τ2 e ff1 σ1):LQ (ml a4 1) (lc a4 1) [(1,slice false 1 gs),(2,slice false 1 ks),(7,slice false 1 ws),(8,slice false 1 us),(101,slice false 3 (ps.map Pt.pv)),(102,N (ps.map Pt.pv).length),(103,N a),(14,N a),(16,v),(109,some p.v),(110,N p.nx.length),(111,N c)] τ e ff1 σ1:=by
 exact Yt [1,2,7,8,101,102,103,14,16,109,110,111] [st 0 (PSq τ (Cm .i64 (show(c:Int) < (p.nx.length:Int) by omega))),st 1 (PSq τ (by rw[p.ok.CQ hx];exact Dh (o:=false) hx:AJ (.idx 1) [p.v,N c]=some [some (.vptr (N b))])),st 2 (PSq τ (NN hv.1 hv.2)),st 2 (PSq τ (Gb hw)),st 0 (QSq τ (Eg hl)),st 0 happ,st 0 (PSq τ2 (NN hv2.1 hv2.2)),st 0 (PSq τ2 (Di c 1 (by omega)))] hnx (by kernel_rfl)
theorem q4z{ps:List Pt}{p:Pt}(hc:¬c<p.nx.length):LQ (ml a4 1) (lc a4 1) [(1,slice false 1 gs),(2,slice false 1 ks),(7,slice false 1 ws),(8,slice false 1 us),(101,slice false 3 (ps.map Pt.pv)),(102,N (ps.map Pt.pv).length),(103,N a),(14,N a),(16,v),(109,some p.v),(110,N p.nx.length),(111,N c)] τ (.exit 2) [(1,slice false 1 gs),(2,slice false 1 ks),(7,slice false 1 ws),(8,slice false 1 us),(101,slice false 3 (ps.map Pt.pv)),(102,N (ps.map Pt.pv).length),(103,N a),(14,N a),(16,v)] τ:=by
 exact Yr [1,2,7,8,101,102,103,14,16] [st 0 (PSq τ (CY .i64 (show ¬(c:Int) < (p.nx.length:Int) by omega)))] (by kernel_rfl)
theorem q4o{ps:List Pt}{p:Pt}{r r2:PV}{rl:List Int}{τ3 τ4:Sto}(ha:a<ps.length)(hs:ps.length<4000000000)(hp:ps[a]?=some p)(hv:v.free=true∧v.Ag=v)(hr:r.free=true∧r.Ag=r)(hr2:Ls r2 rl){w:PV}{lw:List Int}(gw:ws[a]?=some w)(ew:Ls w lw){u:PV}{lu:List Int}(gu:us[a]?=some u)(eu:Ls u lu){x:PV}{lx:List Int}(gx:gs[a]?=some x)(ex:Ls x lx){y:PV}{ly:List Int}(gy:ks[a]?=some y)(ey:Ls y ly)(L:LQ (ml a4 1) (lc a4 1) [(1,slice false 1 gs),(2,slice false 1 ks),(7,slice false 1 ws),(8,slice false 1 us),(101,slice false 3 (ps.map Pt.pv)),(102,N (ps.map Pt.pv).length),(103,N a),(14,N a),(16,nils),(109,some p.v),(110,N p.nx.length),(111,N 0)] (τ++[[I p.k,I p.n,p.v]]) (.exit 2) [(1,slice false 1 gs),(2,slice false 1 ks),(7,slice false 1 ws),(8,slice false 1 us),(101,slice false 3 (ps.map Pt.pv)),(102,N (ps.map Pt.pv).length),(103,N a),(14,N a),(16,v)] τ2)(hso:EQ 15 [v] τ2 (.tuple []) τ3)(hcp:EQ 17 [v] τ3 r τ4)(he:EQ 16 [r,u] τ4 (.bool true) τ4)(h18:EQ 18 [u,x,y] τ4 r2 τ4)(he2:EQ 16 [r2,w] τ4 (.bool true) τ4){e:Bt}{ff1:FF}{σ1:Sto}(hnx:LQ (ml a4 0) (lc a4 0) [(1,slice false 1 gs),(2,slice false 1 ks),(7,slice false 1 ws),(8,slice false 1 us),(101,slice false 3 (ps.map Pt.pv)),(102,N (ps.map Pt.pv).length),(103,N (a+1))] τ4 e ff1 σ1):LQ (ml a4 0) (lc a4 0) [(1,slice false 1 gs),(2,slice false 1 ks),(7,slice false 1 ws),(8,slice false 1 us),(101,slice false 3 (ps.map Pt.pv)),(102,N (ps.map Pt.pv).length),(103,N a)] τ e ff1 σ1:=by
 exact Yt [1,2,7,8,101,102,103] [st 0 (PSq τ (Cm .i64 (show(a:Int) < (((ps.map Pt.pv).length:Nat):Int) by rw[Am];omega))),st 2 (PSq τ (DW hp)),st 0 (QSq τ (aj p)),st 2 (nz p (τ:=τ)),st 2 (QSq (τ++[[I p.k,I p.n,p.v]]) (ak p Bp)),st 0 (PSq (τ++[[I p.k,I p.n,p.v]]) (E8 p.ok)),sl 1 [1,2,7,8,101,102,103,14,16,109,110,111] L,st 0 (PSq τ2 (NN hv.1 hv.2)),st 0 (oWq hso (by kernel_rfl) ⟨by simp only[AR,Bh,hv.2],by simp only[Bi,Cg,hv.1];rfl,rfl⟩),st 0 (PSq τ3 (NN hv.1 hv.2)),st 0 (oWq hcp (by kernel_rfl) ⟨by simp only[AR,Bh,hv.2],by simp only[Bi,Cg,hv.1];rfl,hr.2⟩),st 2 (PSq τ4 (Gb gu)),st 0 (QSq τ4 (Eg eu)),st 0 (oWq he (by kernel_rfl) ⟨by simp only[AR,Bh,hr.2,eu.dis],by simp only[Bi,Cg,hr.1,eu.free];rfl,rfl⟩),sg 4 (PSq τ4 (Gb gu)),sg 0 (QSq τ4 (Eg eu)),sg 2 (PSq τ4 (Gb gx)),sg 0 (QSq τ4 (Eg ex)),sg 2 (PSq τ4 (Gb gy)),sg 0 (QSq τ4 (Eg ey)),sg 0 (oWq h18 (by kernel_rfl) ⟨by simp only[AR,Bh,eu.dis,ex.dis,ey.dis],by simp only[Bi,Cg,eu.free,ex.free,ey.free];rfl,hr2.dis⟩),sg 2 (PSq τ4 (Gb gw)),sg 0 (QSq τ4 (Eg ew)),sg 0 (oWq he2 (by kernel_rfl) ⟨by simp only[AR,Bh,hr2.dis,ew.dis],by simp only[Bi,Cg,hr2.free,ew.free];rfl,rfl⟩),sd 2 (lqc (ldq (σ:=τ3) (σ':=τ4) (mH eu) (Eg eu) (Eg eu)) (lqc (ldq (σ:=τ4) (σ':=τ4) (mH ew) (Eg ew) (Eg ew)) trivial)),st 1 (PSq τ4 (Di a 1 (by omega)))] hnx (by kernel_rfl)
end Go.Abs.Z

namespace Go.Abs.Z
open Go.Proofs Go.RowKit Go.Lib
open Classical
set_option linter.unusedVariables false
section
variable{τ:Sto}{v w:PV}{l m:List Int}
theorem kE(hv:Rd τ v l)(hw:Rd τ w l)(hl:l.length<4000000000):∀(n k:Nat),n=l.length - k→k≤l.length→LQ (ml a16 0) (lc a16 0) [(0,some v),(1,some w),(12,some (N l.length)),(13,some (N k))] τ (.exit 0) [] τ
 |0,k,hn,hk=>AvD (by omega)
 |n+1,k,hn,hk=>by
  have hkl:k<l.length:=by omega
  have hx:=Ad hkl;obtain⟨p,ip,lp⟩:=hv.idx k _ hx;obtain⟨q,iq,lq⟩:=hw.idx k _ hx;exact AvE hv hw hkl hl ip lp iq lq (kE hv hw hl n (k+1) (by omega) (by omega))
theorem Az2(hv:Rd τ v l)(hw:Rd τ w l)(hl:l.length<4000000000):EQ 16 [v,w] τ (.bool true) τ:=q16 hv hw rfl (kE hv hw hl l.length 0 (by omega) (by omega))
def All(τ:Sto)(v:PV)(l:List Int):Prop:=(v=.nils∧l=[])∨(l≠[]∧∃id g,v=.arr id g 0 l.length 1∧τ[id]?=some [.arrv g 1 (ints l)])
theorem All.fd(h:All τ v l):v.free=true∧v.Ag=v:=by rcases h with⟨rfl,_⟩ | ⟨_,_,_,rfl,_⟩<;>exact⟨rfl,rfl⟩
theorem Xy(l:List Int):(ints l).all PV.okc=true:=by rw[ET];exact Ao.2 fun _ _=>rfl
theorem Xz(l:List Int):(ints l).map PV.Ag=ints l:=by rw[List.map_map];rfl
theorem All.row{id g:Nat}(h:τ[id]?=some [.arrv g 1 (ints l)]):Gs τ id g 0 l.length 1=some (ints l):=by
 unfold Gs;rw[h];simp[Dq];rw[BC (by simp)]
theorem qG(hv:All τ v l)(hw:Ls w m)(hs:l.length+m.length<4000000000):∃v2 τ2,EM pur IR (.w (.Fa 1)) [v,w] τ [some v2] τ2∧All τ2 v2 (l++m):=by
 have hm:Cb=4294967296:=rfl;have hx:Jn 1 τ w=some (ints m):=by rcases hw with rfl | ⟨rfl,rfl⟩<;>rfl
 by_cases hme:m=[]
 ·subst hme;rw[BD];refine⟨v,τ,⟨0,fun n _=>?_⟩,hv⟩
  show Cq pur (IR n) (.Fa 1) [v,w] τ=_;simp only[Cq,hx];rcases hv with⟨rfl,_⟩ | ⟨_,id,g,rfl,h⟩
  ·rfl
  ·simp only[Fa,if_true,All.row h];rfl
 ·have he:(ints m).isEmpty=false:=by cases m with | nil=>exact absurd rfl hme | cons=>rfl
  rcases hv with⟨rfl,rfl⟩ | ⟨hne,id,g,rfl,h⟩
  ·have h1:(ints m).length≤Cb∧(ints m).all PV.ones=true∧(ints m).all PV.okc=true:=⟨by rw[hm,Am];simp at hs;omega,Mm m,Xy m⟩
   refine⟨.arr τ.length 0 0 m.length 1,τ++[[.arrv 0 1 (ints m)]],⟨0,fun n _=>?_⟩,.inr ⟨by simpa using hme,_,_,by simp,Bp⟩⟩
   show Cq pur (IR n) (.Fa 1) [.nils,w] τ=_;simp only[Cq,hx,Fa,he,Bool.false_eq_true,if_false,Xz,Am];rw[Am] at h1;exact if_pos h1
  ·have h1:l.length+(ints m).length≤Cb∧(ints m).all PV.ones=true∧(ints m).all PV.okc=true:=⟨by rw[hm,Am];omega,Mm m,Xy m⟩
   refine⟨.arr id (g+1) 0 (l.length+m.length) 1,τ.set id [.arrv (g+1) 1 (ints (l++m))],⟨0,fun n _=>?_⟩,.inr ⟨by simp[hne],id,g+1,by rw[AV],AP (Ab.1 h).1⟩⟩
   show Cq pur (IR n) (.Fa 1) [.arr id g 0 l.length 1,w] τ=_;simp only[Cq,hx,Fa,if_true,All.row h,he,Bool.false_eq_true,if_false,Xz,Am];rw[Am] at h1;rw[if_pos h1,ints,ints,ints,Ed]
theorem OO:∀l:List Int,OP (ints l)=some l
 |[]=>rfl
 |x::l=>by
  show OP (I x::ints l)=_;simp only[OP,OO l]
theorem AQR(h:All τ v l)(hl:l.length<4000000000):∃τ',EQ 15 [v] τ (.tuple []) τ'∧All τ' v (Jq l):=by
 rcases h with⟨rfl,rfl⟩ | ⟨hne,id,g,rfl,h⟩
 ·exact⟨τ,eqP (g:=KY) rfl fun _=>rfl,.inl ⟨rfl,rfl⟩⟩
 ·have hsl:(Jq l).length=l.length:=(GN l).length_eq;have ha:Dq [PV.arrv g 1 (ints l)] g 1=some (ints l):=by simp[Dq]
  have hs:TD (ints l) 0 l.length=some (ints (Jq l)):=by
   unfold TD;rw[CS,BC (by simp),OO]
   dsimp only;rw[if_pos ⟨rfl,by omega⟩]
   simp
  refine⟨τ.set id [.arrv g 1 (ints (Jq l))],eqP (g:=KY) rfl fun c=>?_,.inr ⟨fun e=>hne (by rw[e] at hsl;exact Bq.1 hsl.symm),id,g,by rw[hsl],AP (Ab.1 h).1⟩⟩
  simp only[KY,if_true,h,ha,hs]
theorem AQQ(h:All τ v l)(hl:l.length<4000000000):∃r τ',EQ 17 [v] τ r τ'∧Rd τ' r (compact l)∧r.free=true∧r.Ag=r:=by
 rcases h with⟨rfl,rfl⟩ | ⟨hne,id,g,rfl,h⟩
 ·exact⟨.nils,τ,eqP (g:=JU) rfl fun _=>rfl,(show Ls .nils [] from .inr ⟨rfl,rfl⟩).rd,rfl,rfl⟩
 ·have ha:Dq [PV.arrv g 1 (ints l)] g 1=some (ints l):=by simp[Dq]
  have h0:0<l.length:=Ej.2 hne;have hc:=rW l;have ht:(ints l).take 0++(cpA l).map (PV.int .i64)++(ints l).drop (0+l.length)=ints (cpA l):=by simp
  refine⟨.arr id g 0 (compact l).length 1,τ.set id [.arrv g 1 (ints (cpA l))],eqP (g:=JU) rfl fun c=>?_,⟨rfl,rfl,rfl,fun k x hx=>⟨_,Vs (Ab.1 hx).1,?_⟩⟩,rfl,rfl⟩
  ·simp only[JU,if_true,h,ha,CS];rw[BC (by simp),OO]
   dsimp only;rw[if_pos ⟨rfl,h0,by omega⟩,ht]
  ·have hk:=(Ab.1 hx).1
   have he:(ints (cpA l))[k]?=some (I x):=by
    rw[Af];unfold cpA;rw[Ae hk,hx];rfl
   simp only[BR,AP (Ab.1 h).1,Dq,and_self,if_true,he];rfl
end
section
variable{ps:List Pt}{gs ks ws us:List PV}{gl kl:List (List Int)}{p:Pt}{a:Nat}
theorem jX{il:List (List Int)}(hw:Lss ws il)(hil:∀l∈il,l.length≤1024)(hcn:p.nx.length≤8)(hto:∀x∈p.nx,0≤x∧x<(il.length:Int)):∀(n c:Nat) (τ:Sto) (v:PV) (l:List Int),n=p.nx.length - c→c≤p.nx.length→All τ v l→l.length≤1024 * c→
  ∃(v':PV) (τ':Sto) (l':List Int),All τ' v' l'∧l'.length≤1024 * p.nx.length∧(∀x,x∈l'↔x∈l∨∃b∈(p.nx.drop c).map Int.toNat,x∈il.getD b [])∧
   LQ (ml a4 1) (lc a4 1) [(1,some (.slice false 1 gs)),(2,some (.slice false 1 ks)),(7,some (.slice false 1 ws)),(8,some (.slice false 1 us)),(101,some (.slice false 3 (ps.map Pt.pv))),(102,some (N (ps.map Pt.pv).length)),(103,some (N a)),(14,some (N a)),(16,some v),(109,some p.v),(110,some (N p.nx.length)),(111,some (N c))] τ (.exit 2)
    [(1,some (.slice false 1 gs)),(2,some (.slice false 1 ks)),(7,some (.slice false 1 ws)),(8,some (.slice false 1 us)),(101,some (.slice false 3 (ps.map Pt.pv))),(102,some (N (ps.map Pt.pv).length)),(103,some (N a)),(14,some (N a)),(16,some v')] τ'
 |0,c,τ,v,l,hn,hc,hv,hl=>by
  refine⟨v,τ,l,hv,by omega,fun x=>?_,q4z (by omega)⟩
  rw[Dw (by omega)]
  simp
 |n+1,c,τ,v,l,hn,hc,hv,hl=>by
  have hcl:c<p.nx.length:=by omega
  have hx:=Ad hcl;obtain⟨h1,h2⟩:=hto _ (AQ hcl);obtain⟨b,hb⟩:∃b:Nat,p.nx[c]=(b:Int):=⟨p.nx[c].toNat,by omega⟩
  have hbl:b<il.length:=by omega
  have hwb:=Ad (l:=ws) (show b<ws.length by rw[hw.1];exact hbl)
  have hls:=hw.2 b _ _ hwb (Ad hbl);have hm:=hil _ (AQ hbl);obtain⟨v2,τ2,h3,h4⟩:=qG hv hls (by omega)
  obtain⟨v',τ',l',h5,h6,h7,h8⟩:=jX hw hil hcn hto n (c+1) τ2 v2 (l++il[b]) (by omega) (by omega) h4 (by rw[AV];omega)
  refine⟨v',τ',l',h5,h6,fun x=>?_,q4i hcl (by omega) (by rw[hx,hb]) hv.fd h4.fd hwb hls h3 h8⟩
  rw[h7,List.mem_append,BB hcl,AR,hb,Bz,or_assoc];simp only[Av,exists_eq_or_imp];rw[show il.getD b []=il[b] from Ip hbl]
theorem xO{u x y:PV}{l k kc:List Int}(hu:Ls u l)(hx:Ls x k)(hy:Ls y kc)(hs:k.length+l.length<4000000000)(hkc:kc.length<4000000000):∃r,Iso 18 [u,x,y] r∧Ls r (Ih l k kc):=by
 obtain⟨r,h1,h2⟩:=e18 [] hu hx hy hs hkc
 exact⟨r,⟨r,[],h1,by
  have h:Hy (EH 3 ([]:Sto)) r=some r:=J6 ⟨h2.flat,h2.one,h2.dis⟩;rcases h2 with rfl | ⟨rfl,_⟩<;>exact h⟩,h2⟩
end
section
variable{ps:List Pt}{gl kl:List (List Int)}{gs ks ws us:List PV}
theorem Mv{n a:Nat}{β:Type}{g:Nat→β}(h:a<n):((List.range n).map g)[a]?=some (g a):=by rw[Af,Ck h];rfl
theorem Qn(p:Nat→Bool):(lst p).length≤1024:=by
 unfold lst;rw[Am];exact BM (Ez _ _) (by simp)
theorem rG(hv:Fj ps)(h8:∀p∈ps,p.nx.length≤8)(hg:Dg gl∧gl.length=ps.length)(hk:Dg kl∧kl.length=ps.length)(hgs:Lss gs gl)(hks:Lss ks kl)(hgl:∀l∈gl,l.length<1000000000)(hkl:∀l∈kl,l.length<1000000000){S T:Nat→W}(hS:∀i v,i<ps.length→v<1024→(bit (S i) v=true↔(sy7 false ps gl kl hv hg hk).In i v))(hT:∀i v,i<ps.length→v<1024→(bit (T i) v=true↔(sy7 false ps gl kl hv hg hk).R i v))
  (hws:Lss ws ((List.range ps.length).map fun i=>lst (bit (T i)))) (hus:Lss us ((List.range ps.length).map fun i=>lst (bit (S i)))):∀(n a:Nat) (τ:Sto),n=ps.length - a→a≤ps.length→
  ∃τ',LQ (ml a4 0) (lc a4 0) [(1,some (.slice false 1 gs)),(2,some (.slice false 1 ks)),(7,some (.slice false 1 ws)),(8,some (.slice false 1 us)),(101,some (.slice false 3 (ps.map Pt.pv))),(102,some (N (ps.map Pt.pv).length)),(103,some (N a))] τ (.exit 0) [] τ'
 |0,a,τ,hn,ha=>⟨τ,q4y (by rw[Am];omega)⟩
 |n+1,a,τ,hn,ha=>by
  have hm:=hv.most;have hal:a<ps.length:=by omega
  have hp:=Ad hal;have hpm:=AQ hal
  obtain⟨v,τ2,l,h1,h2,h3,h4⟩:=jX (ps:=ps) (gs:=gs) (ks:=ks) (us:=us) (a:=a) (p:=ps[a]) hws (fun l hl=>by
   obtain⟨i,_,rfl⟩:=Ce.1 hl;exact Qn _) (h8 _ hpm) (fun x hx=>by have:=hv.to _ hpm x hx;simp;omega) ps[a].nx.length 0 (τ++[[I ps[a].k,I ps[a].n,ps[a].v]]) .nils [] (by omega) (by omega) (.inl ⟨rfl,rfl⟩) (by simp)
  have h88:=h8 _ hpm;have hlen:l.length<4000000000:=by have:1024 * ps[a].nx.length≤1024 * 8:=Nat.mul_le_mul_left _ h88;omega
  obtain⟨τ3,h5,h6⟩:=AQR h1 hlen;have hsl:(Jq l).length=l.length:=(GN l).length_eq;obtain⟨r,τ4,h7,h8',h9⟩:=AQQ h6 (by omega)
  have hout:compact (Jq l)=lst (bit (S a)):=by
   refine QD (vB (Mg l)) (Vf _) fun x=>?_
   rw[vC (Mg l),(GN l).mem_iff,h3,qw hv hg hk hS hT hal,Mq hp,CS];constructor
   ·rintro(h | ⟨b,hb,h⟩)
    ·cases h
    ·have hbl:b<ps.length:=(Kn hv (show b∈nxN ps a by rw[Mq hp];exact hb)).2.2.2
     refine⟨b,hb,?_⟩
     rw[Aj,Mv hbl,CB] at h;exact h
   ·rintro⟨b,hb,h⟩
    have hbl:b<ps.length:=(Kn hv (show b∈nxN ps a by rw[Mq hp];exact hb)).2.2.2
    refine .inr ⟨b,hb,?_⟩
    rw[Aj,Mv hbl,CB];exact h
  rw[hout] at h8';have gw:=Ad (l:=ws) (show a<ws.length by rw[hws.1];simpa using hal)
  have gu:=Ad (l:=us) (show a<us.length by rw[hus.1];simpa using hal)
  have gx:=Ad (l:=gs) (show a<gs.length by rw[hgs.1];omega)
  have gy:=Ad (l:=ks) (show a<ks.length by rw[hks.1];omega)
  have ew:=hws.2 a _ _ gw (Mv hal);have eu:=hus.2 a _ _ gu (Mv hal);have ex:=hgs.2 a _ _ gx (Ad (l:=gl) (by omega))
  have ey:=hks.2 a _ _ gy (Ad (l:=kl) (by omega))
  have hl1:=Qn (bit (S a));have hl2:=Qn (bit (T a));have hgla:=hgl _ (AQ (l:=gl) (n:=a) (by omega))
  have hkla:=hkl _ (AQ (l:=kl) (n:=a) (by omega))
  obtain⟨r2,i18,er2⟩:=xO eu ex ey (by omega) (by omega)
  have ht:=dC hv hg hk hS hT hal;rw[Ip (show a<gl.length by omega),Ip (show a<kl.length by omega)] at ht
  rw[ht] at er2;obtain⟨τ',h10⟩:=rG hv h8 hg hk hgs hks hgl hkl hS hT hws hus n (a+1) τ4 (by omega) (by omega)
  exact⟨τ',q4o hal (by omega) hp h1.fd h9 er2 gw ew gu eu gx ex gy ey h4 h5 h7 (Az2 h8' eu.rd (by omega))
   (eqI (by kernel_rfl) i18 (by simp only[Bi,Cg,eu.flat,ex.flat,ey.flat];rfl) τ4) (Az2 er2.rd ew.rd (by omega)) h10⟩
end
section
variable{f:PV}{ps:List Pt}
theorem LF{n:FuncId}{args:List PV}{b:Bool}{τ:Sto}(h:E n args [] (.bool b) τ):Iso n args (.bool b):=⟨_,_,h,rfl⟩
theorem xM{ws us:List PV}{ls ms:List (List Int)}(hw:Lss ws ls)(hu:Lss us ms)(he:ls=ms)(hs:ls.length<4000000000)(hl:∀l∈ls,l.length<4000000000):Iso 9 [.slice false 1 ws,.slice false 1 us] (.bool true):=by
 have rdd:∀{ws:List PV} {ls:List (List Int)},Lss ws ls→Rdd ([]:Sto) (.slice false 1 ws) ls:=fun {ws ls} h=>⟨rfl,rfl,by rw[←h.1];rfl,fun j l hl=>by
  have hj:=(Ab.1 hl).1;have hw:=Ad (l:=ws) (show j<ws.length by rw[h.1];exact hj)
  have e:=h.2 j _ l hw hl;exact⟨_,_,Gb hw,Eg e,e.rd⟩⟩
 have:=e9 (rdd hw) (rdd hu) hs hl;rw[decide_eq_true he] at this;exact LF this
theorem eq4{τ:Sto}{g k:PV}{gs ks:List PV}{gl kl:List (List Int)}(hf:Cw f ps)(hg:Dk g gs gl)(hk:Dk k ks kl)(hps:∀p∈ps,p.nx.length<1000000000)(hpl:ps.length<1000000000)(hgs:∀l∈gl,l.length<1000000000)(hks:∀l∈kl,l.length<1000000000)(hgl:gl.length<1000000000)(hkl:kl.length<1000000000):
  ∃τ',EQ 4 [.agg [f],g,k] τ (.bool true) τ':=by
 have ff:([.agg [f]]:List PV).all PV.flat=true∧([.agg [f],I 14]:List PV).all PV.flat=true:=by rcases hf with rfl | ⟨rfl,_⟩<;>exact⟨rfl,rfl⟩
 have fg:∀{v:PV} {vs:List PV} {vl:List (List Int)},Dk v vs vl→([.agg [f],v]:List PV).all PV.flat=true:=fun h=>by
  rcases h.2 with rfl | ⟨rfl,_⟩<;>rcases hf with rfl | ⟨rfl,_⟩<;>rfl
 have h5:∀σ,EQ 5 [] σ (.bool true) σ:=fun σ=>eqI (by kernel_rfl) (LF (e5 [])) rfl σ
 have h6:EQ 6 [.agg [f],I 14] (τ++[[f]]) (.bool (decide (Te ps 14))) (τ++[[f]]):=eqI (by kernel_rfl) (LF (e6 (τ:=[]) 14 hf (by omega))) ff.2 _
 have h10:EQ 10 [.agg [f]] (τ++[[f]]) (.bool (decide (Fj ps))) (τ++[[f]]):=eqI (by kernel_rfl) (LF (e10 (τ:=[]) hf fun p hp=>by have:=hps p hp;omega)) ff.1 _
 have h11:∀{v:PV} {vs:List PV} {vl:List (List Int)},Dk v vs vl→vl.length<1000000000→(∀l∈vl,l.length<1000000000)→EQ 11 [.agg [f],v] [] (.bool (decide (Dg vl∧vl.length=ps.length))) []:=fun h h1 h2=>
  eqI (by kernel_rfl) (LF (e11 h hf (by omega) fun l hl=>by have:=h2 l hl;omega)) (fg h) _
 have hG:=h11 hg hgl hgs;have hK:=h11 hk hkl hks;by_cases hsm:Te ps 14
 case neg=>rw[decide_eq_false hsm] at h6;exact⟨_,q4a hf hg hk h5 h6⟩
 rw[decide_eq_true hsm] at h6;by_cases hv:Fj ps
 case neg=>rw[decide_eq_false hv] at h10;exact⟨_,q4b hf hg hk h5 h6 h10⟩
 rw[decide_eq_true hv] at h10;by_cases hag:Dg gl∧gl.length=ps.length
 case neg=>rw[decide_eq_false hag] at hG;exact⟨_,q4c hf hg hk h5 h6 h10 hG⟩
 rw[decide_eq_true hag] at hG;by_cases hak:Dg kl∧kl.length=ps.length
 case neg=>rw[decide_eq_false hak] at hK;exact⟨_,q4d hf hg hk h5 h6 h10 hG hK⟩
 rw[decide_eq_true hak] at hK;have h2:=hv.two;have hm:=hv.most;obtain⟨qs,hq,hq8,i14⟩:=xP hf hv hsm.1;have hw:=pu hv hq
 have sp:∀{v:PV} {vs:List PV} {vl:List (List Int)},Dk v vs vl→vl.length=ps.length→v=.slice false 1 vs:=fun h h1=>by
  rcases h.2 with h | ⟨_,h3⟩
  ·exact h
  ·have:=h.1.1;rw[h3] at this;simp at this;omega
 obtain rfl:=sp hg hag.2;obtain rfl:=sp hk hak.2
 have hfe:f=.slice false 3 (ps.map Pt.pv):=by
  rcases hf with h | ⟨_,h⟩
  ·exact h
  ·rw[h] at h2;simp at h2
 subst hfe;have big:∀{n:Nat},n<1000000000→n<4000000000:=fun h=>by omega
 obtain⟨ws,us,S,T,i7,hws,hus,hS,hT⟩:=xN (fw:=false) hf hg hk (fun p hp=>big (hps p hp)) (big hpl) (fun l hl=>big (hgs l hl)) (fun l hl=>big (hks l hl)) hv hag hak
 have hfq:Cw (.slice false 3 (qs.map Pt.pv)) qs:=.inl rfl;have hg':Dg (swp gl)∧(swp gl).length=qs.length:=⟨Zt hag.1,by rw[Me,hq.1];exact hag.2⟩
 have hk':Dg (swp kl)∧(swp kl).length=qs.length:=⟨Zt hak.1,by rw[Me,hq.1];exact hak.2⟩
 have hqn:∀p∈qs,p.nx.length<4000000000:=fun p hp=>by have:=hq8 p hp;omega
 have hgr:Dk (.slice false 1 (swp gs)) (swp gs) (swp gl):=⟨hg.1.swp (by omega),.inl rfl⟩
 have hkr:Dk (.slice false 1 (swp ks)) (swp ks) (swp kl):=⟨hk.1.swp (by omega),.inl rfl⟩
 obtain⟨ws2,us2,S2,T2,i72,hws2,hus2,hS2,hT2⟩:=xN (fw:=true) hfq hgr hkr hqn (by rw[hq.1];omega) (fun l hl=>by have:=ZI (hg'.1 l hl);omega) (fun l hl=>by have:=ZI (hk'.1 l hl);omega) hw hg' hk'
 simp only[Bool.false_eq_true,if_false,if_true,hq.1] at hws hus hws2 hus2;have hl2:∀(X:Nat→W),2≤((List.range ps.length).map fun i=>lst (bit (X i))).length:=fun X=>by simpa using h2
 have sw:∀(X Y:Nat→W),(∀i v,i<ps.length→v<1024→(bit (Y i) v=true↔bit (X (oth i)) v=true))→swp ((List.range ps.length).map fun i=>lst (bit (X i)))=(List.range ps.length).map fun i=>lst (bit (Y i)):=fun X Y h=>by
  refine BH fun i=>?_
  rw[swp_get (hl2 X)];by_cases hi:i<ps.length
  ·rw[Mv (Km hi h2),Mv hi,jU fun v hv1=>h i v hi hv1]
  ·rw[AC (by simp;exact Nat.le_of_not_lt fun h=>hi (by have:=Km h h2;rw[FL] at this;exact this)),AC (by simp;omega)]
 have hrs:∀{i v:Nat},_:=fun {i v}=>iF hv hq hw hag hak hg' hk' (i:=i) (v:=v)
 have e1:=sw T T2 fun i v hi hv1=>by rw[hT2 i v (by rw[hq.1];exact hi) hv1,hrs.2,←hT _ v (Km hi h2) hv1]
 have e2:=sw S S2 fun i v hi hv1=>by rw[hS2 i v (by rw[hq.1];exact hi) hv1,hrs.1,←hS _ v (Km hi h2) hv1]
 have ll:∀(X:Nat→W),∀l∈(List.range ps.length).map (fun i=>lst (bit (X i))),l.length<4000000000:=fun X l hl=>by
  obtain⟨i,_,rfl⟩:=Ce.1 hl;have:=Qn (bit (X i));omega
 have i91:=xM (hws.swp (hl2 T)) hus2 e1 (by rw[Me];simp;omega) (by rw[e1];exact ll T2)
 have i92:=xM (hus.swp (hl2 S)) hws2 e2 (by rw[Me];simp;omega) (by rw[e2];exact ll S2)
 have i12:∀{vs:List PV} {vl:List (List Int)},Lss vs vl→vl.length=ps.length→Iso 12 [.slice false 1 vs] (.slice false 1 (swp vs)):=fun h h1=>xQ h (by omega) (by omega)
 obtain⟨τ',hL⟩:=rG hv hsm.1 hag hak hg.1 hk.1 hgs hks hS hT hws hus ps.length 0 (τ++[[.slice false 3 (ps.map Pt.pv)]]) (by omega) (by omega)
 exact⟨τ',q4e h5 h6 h10 hG hK (eqI (by kernel_rfl) i7 rfl _) (eqI (by kernel_rfl) i14 rfl _) (eqI (by kernel_rfl) (i12 hg.1 hag.2) rfl _) (eqI (by kernel_rfl) (i12 hk.1 hak.2) rfl _) (eqI (by kernel_rfl) (i12 hws (by simp)) rfl _) (eqI (by kernel_rfl) (i12 hus (by simp)) rfl _)
  (eqI (by kernel_rfl) i72 rfl _) (by have:=hws.1;simpa using this) (by have:=hus.1;simpa using this) (eqI (by kernel_rfl) i91 rfl _) (eqI (by kernel_rfl) i92 rfl _) hL⟩
end
end Go.Abs.Z
