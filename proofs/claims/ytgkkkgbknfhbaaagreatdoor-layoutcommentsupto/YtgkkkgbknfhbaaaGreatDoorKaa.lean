/- A part of the proof: A0 A1 A2 A3 A4 A5. -/
import Derived.Lib.ItoaNum
import Derived.OrdersIn
import Derived.Below
import Derived.Lib.Strings
import Derived.WideShapes
import Derived.Laws.AppendOwn

set_option linter.all false
namespace Go.Abs
theorem am{p:Prop}(h:p:=by omega):p:=h
abbrev Ac:=@Option.map_eq_some_iff
abbrev Ad:=@List.getElem?_eq_some_iff
abbrev Ae:=@List.length_append
abbrev Af:=@List.getElem?_eq_getElem
abbrev Ah:=@List.length_cons
abbrev Ai:=@Nat.le_refl
abbrev Aj:=@Bool.and_eq_true
abbrev Al:=@List.getElem?_map
abbrev Ao:=@Array.getD_eq_getD_getElem?
abbrev AR:=@List.getElem?_append_left
abbrev Am:=@List.mem_of_getElem?
abbrev Aq:=@List.getElem?_append_right
abbrev Ak:=@List.length_eq_zero_iff
abbrev Ap:=@List.length_map
abbrev Au:=@List.all_eq_true
abbrev Aw:=@List.length_drop
abbrev AA:=@List.length_take
abbrev Bc:=@Array.getElem?_toList
abbrev AV:=@List.mem_cons_self
abbrev AJ:=@Option.map_some
abbrev Az:=@List.append_nil
abbrev AC:=@List.append_assoc
abbrev AB:=@Option.bind_eq_some_iff
abbrev AP:=@List.mem_cons_of_mem
abbrev Bp:=@Array.getElem?_eq_getElem
abbrev BA:=@List.getD_eq_getElem?_getD
abbrev AU:=@List.mem_cons
abbrev Ba:=@List.length_nil
abbrev AY:=@List.drop_eq_nil_iff
abbrev Be:=@Nat.lt_or_ge
abbrev Bf:=@Nat.le_trans
abbrev Bn:=@List.nil_append
abbrev Bg:=@List.cons_append
abbrev Bj:=@Nat.lt_of_lt_of_le
abbrev BB:=@Nat.zero_add
abbrev Bu:=@List.map_cons
abbrev BG:=@Array.getElem?_eq_some_iff
abbrev Bv:=@List.mem_append
abbrev BH:=@List.take_append_drop
abbrev BN:=@List.drop_eq_getElem_cons
abbrev BJ:=@Nat.mul_le_mul_right
abbrev Ey:=@List.getElem?_eq_none
abbrev BO:=@List.contains_cons
abbrev BV:=@List.map_append
abbrev BP:=@List.mem_iff_getElem?
abbrev BU:=@Nat.succ_mul
abbrev BR:=@List.mem_singleton
abbrev BS:=@List.takeWhile_cons
abbrev BZ:=@List.drop_drop
abbrev Cm:=@Nat.add_comm
abbrev Ca:=@Nat.zero_le
abbrev CQ:=@Nat.eq_of_beq_eq_true
abbrev Cg:=@List.getElem_mem
abbrev Cf:=@Nat.add_mul
abbrev Ce:=@Bool.and_eq_true_iff
abbrev Cq:=@List.size_toArray
abbrev CO:=@List.getElem?_take
abbrev Cj:=@List.drop_succ_cons
abbrev Co:=@List.drop_eq_nil_of_le
abbrev Cn:=@List.take_of_length_le
abbrev Cw:=@Array.toList_inj
abbrev Cr:=@List.contains_nil
abbrev CY:=@List.getElem?_drop
abbrev CS:=@Bool.false_or
abbrev Cv:=@List.length_pos_iff
abbrev CK:=@List.map_nil
abbrev CB:=@List.pairwise_cons
abbrev Dh:=@Array.getElem?_modify
abbrev Dk:=@Bool.or_eq_true
abbrev C9:=@List.length_set
abbrev CR:=@List.contains_iff_mem
abbrev CU:=@List.pairwise_singleton
abbrev Dy:=@List.mem_range
abbrev Da:=@Bool.true_and
abbrev Db:=@Bool.or_false
abbrev Dj:=@List.mem_filter
abbrev DN:=@Array.getElem?_eq_none
abbrev Df:=@ByteArray.toList_eq
abbrev Ex:=@List.getElem?_zipWith
abbrev DF:=@List.isEmpty_iff
abbrev Dm:=@Array.replicate_succ
abbrev Dl:=@Array.replicate_zero
abbrev GM:=@Nat.add_assoc
abbrev Dv:=@List.all_cons
abbrev DK:=@Array.getElem?_setIfInBounds_ne
abbrev Dt:=@List.append_toArray
abbrev Dz:=@List.getElem?_toArray
abbrev Dx:=@Option.isSome_iff_exists
abbrev Ep:=@Option.bind_some
abbrev DJ:=@Nat.le_of_lt
abbrev DT:=@List.push_toArray
abbrev DU:=@List.take_succ_cons
abbrev E5:=@Nat.sub_self
abbrev Ej:=@Array.getElem?_append_left
abbrev DY:=@List.prefix_append
abbrev DX:=@List.length_singleton
abbrev Eu:=@Nat.eq_zero_or_pos
abbrev DZ:=@List.drop_zero
abbrev Eh:=@Nat.mul_comm
abbrev Ea:=@Bool.or_eq_false_iff
abbrev EG:=@List.getElem?_set
abbrev Ee:=@List.ext_getElem?
abbrev F3:=@Bool.not_true
abbrev ES:=@Option.getD_some
abbrev Ew:=@List.length_filter_le
abbrev EH:=@Int.toNat_natCast
abbrev E8:=@List.mem_map
abbrev EU:=@List.filter_cons
abbrev ET:=@List.not_mem_nil
abbrev FP:=@Array.getElem?_push
abbrev FO:=@List.getElem?_range
abbrev EA:=@List.takeWhile_append_dropWhile
abbrev EN:=@List.getElem?_cons_zero
abbrev EM:=@Nat.add_sub_cancel_left
abbrev F9:=@List.foldl_cons
abbrev Fa:=@Array.foldl_toList
abbrev E9:=@List.filter_append
abbrev Fp:=@Array.size_append
abbrev Ik:=@Bool.not_eq_true'
abbrev FH:=@Nat.add_zero
abbrev Fe:=@Nat.div_lt_iff_lt_mul
abbrev FB:=@Bool.false_and
abbrev FL:=@Array.size_range
abbrev FJ:=@List.take_length
abbrev FK:=@Bool.not_eq_true
abbrev Je:=@List.getElem?_set_ne
abbrev Fg:=@Nat.lt_of_mul_lt_mul_right
abbrev FZ:=@Bool.or_assoc
abbrev Gg:=@Nat.mul_one
abbrev FN:=@List.map_congr_left
abbrev Ga:=@List.all_append
inductive Ky where
 |i (k:IntKind) (n:Int)
 |s (l:List UInt8)
 deriving DecidableEq,Inhabited
def Ky.val:Ky->Value
 |.i k n=>.int k n
 |.s l=>.string ⟨⟨l⟩⟩
inductive Kx where
 |i (k:IntKind) (n:Int)
 |s (l:List UInt8)
 |a (l:List (IntKind×Int))
 deriving DecidableEq,Inhabited
def Kx.val:Kx->Value
 |.i k n=>.int k n
 |.s l=>.string ⟨⟨l⟩⟩
 |.a l=>.agg (l.map λx=>Value.int x.1 x.2).toArray
inductive KD where
 |i (k:IntKind) | s | a (ks:List IntKind)
 deriving DecidableEq,Inhabited
inductive PV where
 |bool (b:Bool)
 |int (k:IntKind) (n:Int)
 |str (s:List UInt8)
 |nilp
 |vptr (v:PV)
 |ref (id off:Nat)
 |lref (slot off:Nat)
 |hole (n:Nat)
 |nils
 |slice (own:Bool) (size:Nat) (es:List PV)
 |nili
 |self
 |bld (t e:TypeId) (l:List UInt8)
 |dead
 |nilm
 |mapv (ks:List Ky) (vs:List PV)
 |mapb
 |nilf
 |func (f:FuncId) (first cap:List PV)
 |agg (cs:List PV)
 |tuple (vs:List PV)
 |arr (id gen off len size:Nat)
 |aptr (id gen size i off:Nat)
 |arrv (gen size:Nat) (es:List PV)
 |empt
 |aggr (cs:List PV)
 |mref (id:Nat)
 |mapo (d:KD) (z:PV) (ks:List Kx) (vs:List PV)
 deriving Inhabited
def PV.cells:PV->List PV
 |.agg cs=>cs
 |.aggr cs=>cs
 |v=>[v]
abbrev Imm:=Nat->Option Nat->Prop
structure Same(I:Imm)(w w':World):Prop where
 cell:∀b o,I b (some o)->w'.cell? ⟨b,o,none⟩=w.cell? ⟨b,o,none⟩
 blk:∀b,I b none->w'.heap[b]?=w.heap[b]?
def Same.refl(I:Imm)(w:World):Same I w w:=⟨by simp,by simp⟩
def Same.trans{I I':Imm}{a b c:World}(h:Same I a b)(k:Same I' b c)(e:∀b x,I b x->I' b x):Same I a c:=
 ⟨λb o d=>(k.cell b o (e _ _ d)).trans (h.cell b o d),λb d=>(k.blk b (e _ _ d)).trans (h.blk b d)⟩
inductive Rep(I:Imm)(w:World):Value->PV->Prop
 |bool (b:Bool):Rep I w (.bool b) (.bool b)
 |int (k:IntKind) (n:Int):Rep I w (.int k n) (.int k n)
 |str (s:ByteArray):Rep I w (.string s) (.str s.data.toList)
 |nilp:Rep I w (.pointer none) .nilp
 |vptr {b off:Nat} {v:PV} (cv:Nat->Value)
   (hI:∀(j:Nat) (p:PV),v.cells[j]?=some p->I b (some (off+j)))
   (hc:∀(j:Nat) (p:PV),v.cells[j]?=some p->w.cell? ⟨b,off+j,none⟩=some (cv j))
   (hr:∀(j:Nat) (p:PV),v.cells[j]?=some p->Rep I w (cv j) p):Rep I w (.pointer (some ⟨b,off,none⟩)) (.vptr v)
 |nils:Rep I w (.slice none 0 0) .nils
 |empt {a:Addr}:Rep I w (.slice (some a) 0 0) .empt
 |slice {a:Addr} {len cap size:Nat} {own:Bool} {es:List PV} (cv:Nat->Nat->Value)
   (hlen:len=es.length) (hcap:len<=cap) (hspot:es≠[]->a.spot=none)
   (hsz:∀(i:Nat) (e:PV),es[i]?=some e->e.cells.length=size)
   (hI:∀(i:Nat) (e:PV) (j:Nat) (p:PV),es[i]?=some e->e.cells[j]?=some p->I a.block (some (a.off+i * size+j)))
   (hc:∀(i:Nat) (e:PV) (j:Nat) (p:PV),es[i]?=some e->e.cells[j]?=some p->w.cell? ⟨a.block,a.off+i * size+j,none⟩=some (cv i j))
   (hr:∀(i:Nat) (e:PV) (j:Nat) (p:PV),es[i]?=some e->e.cells[j]?=some p->Rep I w (cv i j) p):Rep I w (.slice (some a) len cap) (.slice own size es)
 |nili:Rep I w .nilIface .nili
 |nilm:Rep I w (.map none) .nilm
 |mapv {r clock:Nat} {es:Array MapEntry} {ks:List Ky} {vs:List PV} (ix:Nat->Nat)
   (hI:I r none) (hb:w.heap[r]?=some (.map es clock)) (hv:vs.length=ks.length)
   (hkeys:∀(i:Nat) (e:MapEntry),es[i]?=some e->∃k∈ks,e.key=k.val)
   (hone:∀(i j:Nat) (e f:MapEntry),es[i]?=some e->es[j]?=some f->e.key=f.key->i=j)
   (hlt:∀(j:Nat) (k:Ky),ks[j]?=some k->((es[ix j]?).map (·.key))=some k.val)
   (hrv:∀(j:Nat) (e:MapEntry) (p:PV),es[ix j]?=some e->vs[j]?=some p->Rep I w e.val p):Rep I w (.map (some r)) (.mapv ks vs)
 |nilf:Rep I w .nilFunc .nilf
 |func {f:FuncId} {fs cs:Array Value} {first cap:List PV} (h1:fs.size=first.length) (h2:cs.size=cap.length)
   (hf:∀(i:Nat) (p:PV),first[i]?=some p->Rep I w (fs.getD i undef) p) (hc:∀(i:Nat) (p:PV),cap[i]?=some p->Rep I w (cs.getD i undef) p) :
   Rep I w (.func (.func f) fs cs) (.func f first cap)
 |agg {cs:Array Value} {ps:List PV} (h:cs.size=ps.length) (hr:∀(i:Nat) (p:PV),ps[i]?=some p->Rep I w (cs.getD i undef) p):Rep I w (.agg cs) (.agg ps)
 |tuple {cs:Array Value} {ps:List PV} (h:cs.size=ps.length) (hr:∀(i:Nat) (p:PV),ps[i]?=some p->Rep I w (cs.getD i undef) p):Rep I w (.tuple cs) (.tuple ps)
def Rep.mono{I I':Imm}{w z:World}(t:∀b x,I b x->I' b x)(y:Same I w z){v:Value}{p:PV}(h:Rep I w v p):Rep I' z v p:=by
 induction h with
 |bool b=>exact .bool b
 |int k n=>exact .int k n
 |str s=>exact .str s
 |nilp=>exact .nilp
 |vptr cv c d _ a=>exact .vptr _ (λj p h=>t _ _ (c j p h)) (λj p h=>(y.cell _ _ (c j p h)).trans (d j p h)) a
 |nils=>exact .nils
 |empt=>exact .empt
 |slice cv c d u m g o _ a=>
  exact .slice _ c d u m (λi e j p l f=>t _ _ (g i e j p l f)) (λi e j p l f=>(y.cell _ _ (g i e j p l f)).trans (o i e j p l f)) a
 |nili=>exact .nili
 |nilm=>exact .nilm
 |mapv A c d u m g o _ a=>exact .mapv _ (t _ _ c) ((y.blk _ c).trans d) u m g o a
 |nilf=>exact .nilf
 |func c d _ _ q r=>exact .func c d q r
 |agg h _ a=>exact .agg h a
 |tuple h _ a=>exact .tuple h a
structure Bl where
 l:List Nat
 ab:Nat->Nat->Option (Nat×Nat×Nat)
def Bl.nil:Bl:=⟨[],λ_ _=>none⟩
def Bl.le(x y:Bl):Prop:=x.l <+: y.l/\∀id g a,x.ab id g=some a->y.ab id g=some a
def Bl.le_refl(x:Bl):x.le x:=⟨by simp,by simp⟩
def Bl.le.trans{x y z:Bl}(h:x.le y)(k:y.le z):x.le z:=⟨h.1.trans k.1,λi g a e=>k.2 i g a (h.2 i g a e)⟩
inductive Jn(bl:Bl):Value->PV->Prop
 |ref {id off b:Nat} (h:bl.l[id]?=some b):Jn bl (.pointer (some ⟨b,off,none⟩)) (.ref id off)
 |arr {id gen off len size b base n cap b' o':Nat} (h:bl.ab id gen=some (b,base,n)) (hl:len<=cap) (hc:base+(off+cap) * size<=n) (ha:0<cap->b'=b/\o'=base+off * size) :
   Jn bl (.slice (some ⟨b',o',none⟩) len cap) (.arr id gen off len size)
 |aptr {id gen size i off b base n:Nat} (h:bl.ab id gen=some (b,base,n)):Jn bl (.pointer (some ⟨b,base+i * size+off,none⟩)) (.aptr id gen size i off)
 |mref {id b:Nat} (h:bl.l[id]?=some b):Jn bl (.map (some b)) (.mref id)
def Jn.mono{bl a:Bl}(c:bl.le a){v:Value}{p:PV}(h:Jn bl v p):Jn a v p:=by
 cases h with
 |@ref id off b h=>
  refine .ref ?_
  let ⟨r,g⟩:=c.1
  grind
 |arr h f e d=>exact .arr (c.2 _ _ _ h) f e d
 |aptr h=>exact .aptr (c.2 _ _ _ h)
 |@mref id b h=>
  refine .mref ?_
  let ⟨r,_⟩:=c.1
  grind
def JZ(I:Imm)(bl:Bl)(w:World)(v:Value)(p:PV):Prop:=Rep I w v p\/Jn bl v p
inductive BF(I:Imm)(bl:Bl)(w:World):Value->PV->Prop
 |one {v:Value} {p:PV} (h:JZ I bl w v p):BF I bl w v p
 |func {f:FuncId} {fs cs:Array Value} {first cap:List PV} (h1:fs.size=first.length) (h2:cs.size=cap.length)
   (hf:∀(i:Nat) (p:PV),first[i]?=some p->JZ I bl w (fs.getD i undef) p) (hc:∀(i:Nat) (p:PV),cap[i]?=some p->JZ I bl w (cs.getD i undef) p) :
   BF I bl w (.func (.func f) fs cs) (.func f first cap)
 |tuple {cs:Array Value} {ps:List PV} (h:cs.size=ps.length) (hr:∀(i:Nat) (p:PV),ps[i]?=some p->JZ I bl w (cs.getD i undef) p):BF I bl w (.tuple cs) (.tuple ps)
 |aggr {cs:Array Value} {ps:List PV} (h:cs.size=ps.length) (hr:∀(i:Nat) (p:PV),ps[i]?=some p->JZ I bl w (cs.getD i undef) p):BF I bl w (.agg cs) (.aggr ps)
def JZ.mono{I I':Imm}{bl a:Bl}{w c:World}(e:∀b x,I b x->I' b x)(f:Same I w c)(d:bl.le a){v:Value}{p:PV}
  (h:JZ I bl w v p):JZ I' a c v p:=by
 rcases h with h | h
 ·exact .inl (h.mono e f)
 ·exact .inr (h.mono d)
def BF.mono{I I':Imm}{bl e:Bl}{w g:World}(a:∀b x,I b x->I' b x)(d:Same I w g)(c:bl.le e){v:Value}{p:PV}
  (h:BF I bl w v p):BF I' e g v p:=by
 cases h with
 |one h=>exact .one (h.mono a d c)
 |func j l k m=>exact .func j l (λi p h=>(k i p h).mono a d c) (λi p h=>(m i p h).mono a d c)
 |tuple h f=>exact .tuple h (λi p h=>(f i p h).mono a d c)
 |aggr h f=>exact .aggr h (λi p h=>(f i p h).mono a d c)
abbrev Frm:=List (Option PV)
abbrev Sto:=List (List PV)
def Frm.get(A:Frm)(t:Nat):Option PV:=match A[t]? with | some v=>v | none=>none
def Frm.ext{A B:Frm}(b:A.length=B.length)(h:∀t,A.get t=B.get t):A=B:=by
 apply List.ext_getElem b;intro i a c;have:=h i
 simp  [Frm.get,Af a,Af c] at this
 exact this
def Closed(ops:Array Oper)(L:Nat->Bool):Prop:=
 ∀j o,ops[j]?=some o->L j=true->∀e∈o.after,Region.binds .any e=true->L e.on=true
def Ahead(ops:Array Oper)(i j:Nat):Prop:=
 ∀L:Nat->Bool,Closed ops L->(∀o,ops[j]?=some o->∀e∈o.after,Region.binds .any e=true->L e.on=true)->L i=true
structure NW(rd wr:Nat->List Nat)(W H Pu:Nat->Bool)(i j:Nat):Prop where
 a:∀t,t∈wr i->t∉rd j
 b:∀t,t∈wr j->t∉rd i
 c:∀t,t∈wr i->t∉wr j
 d:W i=true->Pu j=true\/(H i=false/\W j=false)
 e:W j=true->Pu i=true\/(H j=false/\W i=false)
section
variable{F:Fence}{p:Nat}{P:Program}{ops:Array Oper}{Q:Exit->Act->World->Prop}
variable(A:Nat->Frm)(S:Nat->Sto)(x:Nat->Frm->Sto->Option (Frm×Sto))(rd wr:Nat->List Nat)(W H Pu:Nat->Bool)(E:Sto->Sto->Prop)
variable(Sim:Act->World->Frm->Sto->Prop)
def Lu(a:∀i,i<ops.size->∀t,t∉wr i->(A (i+1)).get t=(A i).get t)(t:Nat):
  ∀d k,k+d<=ops.size->(∀j,k<=j->j<k+d->t∉wr j)->(A (k+d)).get t=(A k).get t:=by
 intro d
 induction d with
 |zero=>grind
 |succ d b=>
  grind
def Lm(a:∀i,i<ops.size->W i=false->S (i+1)=S i):
  ∀d k,k+d<=ops.size->(∀j,k<=j->j<k+d->W j=false)->S (k+d)=S k:=by
 intro d
 induction d with
 |zero=>grind
 |succ d b=>
  grind
def MR(l:∀a,E a a)(f:∀a b c,E a b->E b c->E a c)(e:∀i,i<ops.size->H i=false->E (S (i+1)) (S i)):
  ∀d k,k+d<=ops.size->(∀j,k<=j->j<k+d->H j=false)->E (S (k+d)) (S k):=by
 intro d
 induction d with
 |zero=>grind
 |succ d m=>
  intro k n h;exact f _ _ _ (e (k+d) am (h _ (by simp) (by simp))) (m k am (λj g o=>h j g am))
structure RInv(L:Nat->Bool)(B:Frm)(τ:Sto):Prop where
 closed:Closed ops L
 len:B.length=(A 0).length
 slot:∀t,∃k,k<=ops.size/\B.get t=(A k).get t/\∀j,j<ops.size->t∈wr j->(L j=true↔j<k)
 sto:∃k,k<=ops.size/\τ=S k/\∀j,j<ops.size->W j=true->(L j=true↔j<k)
def Sj(hE1:∀a,E a a)(hE2:∀a b,E a b->E b a)(hE3:∀a b c,E a b->E b c->E a c)
  (hsoft:∀i,i<ops.size->H i=false->E (S (i+1)) (S i))
  (hlenA:∀i,i<=ops.size->(A i).length=(A 0).length)
  (hfrm:∀i,i<ops.size->∀t,t∉wr i->(A (i+1)).get t=(A i).get t)
  (hS:∀i,i<ops.size->W i=false->S (i+1)=S i)
  (hWP:∀i,i<ops.size->W i=true->Pu i=false)
  (hHW:∀i,i<ops.size->H i=true->W i=true)
  (hloc:∀i,i<ops.size->∀B τ,B.length=(A 0).length->(∀t,t∈rd i->B.get t=(A i).get t)->(W i=true->τ=S i)->(Pu i=false->E τ (S i))->
   ∃B' τ',x i B τ=some (B',τ')/\B'.length=B.length/\(∀t,t∈wr i->B'.get t=(A (i+1)).get t)/\(∀t,t∉wr i->B'.get t=B.get t)/\
    (W i=true->τ'=S (i+1))/\(W i=false->τ'=τ))
  (hind:∀i j,i<j->j<ops.size->Ahead ops i j\/NW rd wr W H Pu i j)
  (hacy:∀(i:Nat) (o:Oper),ops[i]?=some o->∀e∈o.after,Region.binds .any e=true->e.on<i)
  (hsim:∀i,i<ops.size->∀a w B τ B' τ' K,Sim a w B τ->x i B τ=some (B',τ')->(∀a' w',Sim a' w' B' τ'->K a' w')->wpOpIn F p P ops Q i K a w)
  (hend:∀a' w',Sim a' w' (A ops.size) (S ops.size)->Q .normal a' w') :
  ∀(fuel:Nat) (listed:Array Bool) (U:List Nat) (B:Frm) (τ:Sto) (a:Act) (w:World),listed.size=ops.size->U.length<=fuel->
   (∀j,j<ops.size->listed.getD j false=false->j∈U)->RInv (ops:=ops) A S wr W (λj=>listed.getD j false) B τ->Sim a w B τ->
   wpAnyIn F p P .any ops Q fuel listed a w:=by
 have hall:∀(listed:Array Bool) (B:Frm) (τ:Sto) (a:Act) (w:World),(∀j,j<ops.size->listed.getD j false=true)->
   RInv (ops:=ops) A S wr W (λj=>listed.getD j false) B τ->Sim a w B τ->Q .normal a w:=by
  intro listed B τ a w hl hi hs
  have hB:B=A ops.size:=by
   refine Frm.ext (by rw[hi.len,hlenA _ (Ai _)]) λt=>?_
   obtain⟨k,hk,hg,hj⟩:=hi.slot t;rw[hg]
   have:=Lu (ops:=ops) A wr hfrm t (ops.size - k) k am (λj h1 h2 hw=>by
    have:=(hj j am hw).1 (hl j am);omega)
   rw[show k+(ops.size - k)=ops.size from am] at this
   exact this.symm
  have hτ:τ=S ops.size:=by
   obtain⟨k,hk,hg,hj⟩:=hi.sto
   have:=Lm (ops:=ops) S W hS (ops.size - k) k am (λj h1 h2=>by
    cases hw:W j with
    |false=>rfl
    |true=>have:=(hj j am hw).1 (hl j am);omega)
   rw[show k+(ops.size - k)=ops.size from am] at this
   rw[hg,this]
  subst hB hτ;exact hend _ _ hs
 have hready:∀(listed:Array Bool),listed.size=ops.size->Region.ready .any ops listed=[]->∀j,j<ops.size->listed.getD j false=true:=by
  intro listed hsz hr j
  induction j using Nat.strongRecOn with
  |_ j ih=>
   intro hj;cases hL:listed.getD j false with
   |true=>rfl
   |false=>
    exfalso
    have hmem:j∈Region.ready .any ops listed:=by
     unfold Region.ready;rw[Dj];refine⟨Dy.2 hj,?_⟩
     have h1:listed.getD j true=false:=by
      have hlt:j<listed.size:=am
      simp only[Array.getD,hlt,dif_pos] at hL ⊢;exact hL
     have h2:ops[j]?=some ops[j]:=Bp hj;simp only[h1,Bool.not_false,Da,h2,AJ,ES];rw[Array.all_eq_true'];intro e he;cases hb:Region.binds .any e with
     |false=>rfl
     |true=>
      have hlt:=hacy j _ h2 e he hb;simpa using ih e.on hlt am
    rw[hr] at hmem;cases hmem
 intro fuel
 induction fuel with
 |zero=>
  intro listed U B τ a w hsz hU hun hi hs;have hU0:U=[]:=Ak.1 am
  subst hU0
  have hl:∀j,j<ops.size->listed.getD j false=true:=λj hj=>by
   cases h:listed.getD j false with
   |true=>rfl
   |false=>exact absurd (hun j hj h) (by simp)
  refine⟨?_,hall listed B τ a w hl hi hs⟩
  unfold Region.ready;rw[List.filter_eq_nil_iff];intro j hj;have hj':=Dy.1 hj;have h1:=hl j hj';have hlt:j<listed.size:=am
  have h2:listed.getD j true=true:=by
   simp only[Array.getD,hlt,dif_pos] at h1 ⊢;exact h1
  simp only[h2,F3,FB];simp
 |succ fuel ih=>
  intro listed U B τ a w hsz hU hun hi hs;refine⟨λhr=>hall listed B τ a w (hready listed hsz hr) hi hs,λi hmem=>?_⟩
  unfold Region.ready at hmem;rw[Dj] at hmem;obtain⟨hir,hcond⟩:=hmem;have hi':i<ops.size:=Dy.1 hir;have hlt:i<listed.size:=am
  have hoi:ops[i]?=some ops[i]:=Bp hi';simp only[hoi,AJ,ES,Aj] at hcond;obtain⟨hnot,hpre⟩:=hcond
  have hLi:listed.getD i false=false:=by
   simp only[Array.getD,hlt,dif_pos] at hnot ⊢;simpa using hnot
  have hpreds:∀o,ops[i]?=some o->∀e∈o.after,Region.binds .any e=true->listed.getD e.on false=true:=by
   intro o ho e he hb;rw[hoi] at ho;cases ho;rw[Array.all_eq_true'] at hpre;have:=hpre e he;simpa [hb] using this
  have hbefore:∀j,j<i->¬NW rd wr W H Pu j i->listed.getD j false=true:=λj hj hn=>
   (hind j i hj hi').resolve_right hn (λj=>listed.getD j false) hi.closed hpreds
  have hbehind:∀j,i<j->j<ops.size->¬NW rd wr W H Pu i j->listed.getD j false=false:=by
   intro j hj hjn hn;cases h:listed.getD j false with
   |false=>rfl
   |true=>
    have:=(hind i j hj hjn).resolve_right hn (λj=>listed.getD j false) hi.closed (λo ho=>hi.closed j o ho h)
    rw[hLi] at this;cases this
  have hrd:∀t,t∈rd i->B.get t=(A i).get t:=by
   intro t ht;obtain⟨k,hk,hg,hj⟩:=hi.slot t;rw[hg]
   have hno:∀j,j<ops.size->(k<=j/\j<i\/i<=j/\j<k)->t∉wr j:=by
    intro j hjn hc hw;have hiff:=hj j hjn hw;rcases hc with⟨h1,h2⟩ | ⟨h1,h2⟩
    ·have:=hbefore j h2 (λu=>u.a t hw ht)
     have:=hiff.1 this;omega
    ·by_cases hji:j=i
     ·subst hji;have:=hiff.2 h2;rw[hLi] at this;cases this
     ·have:=hbehind j am hjn (λu=>u.b t hw ht)
      rw[hiff.2 h2] at this;cases this
   by_cases hki:k<=i
   ·have:=Lu (ops:=ops) A wr hfrm t (i - k) k am (λj h1 h2=>hno j am (.inl ⟨h1,am⟩))
    rw[show k+(i - k)=i from am] at this
    exact this.symm
   ·have:=Lu (ops:=ops) A wr hfrm t (k - i) i am (λj h1 h2=>hno j am (.inr ⟨h1,am⟩))
    rw[show i+(k - i)=k from am] at this
    exact this
  have hst:W i=true->τ=S i:=by
   intro hwi;have hpu:=hWP i hi' hwi;obtain⟨k,hk,hg,hj⟩:=hi.sto;rw[hg]
   have hno:∀j,j<ops.size->(k<=j/\j<i\/i<=j/\j<k)->W j=false:=by
    intro j hjn hc;cases hw:W j with
    |false=>rfl
    |true=>
     exfalso
     have hiff:=hj j hjn hw;rcases hc with⟨h1,h2⟩ | ⟨h1,h2⟩
     ·have:=hbefore j h2 (λu=>by rcases u.d hw with h | ⟨_,h⟩<;>simp_all)
      have:=hiff.1 this;omega
     ·by_cases hji:j=i
      ·subst hji;have:=hiff.2 h2;rw[hLi] at this;cases this
      ·have:=hbehind j am hjn (λu=>by rcases u.e hw with h | ⟨_,h⟩<;>simp_all)
       rw[hiff.2 h2] at this;cases this
   by_cases hki:k<=i
   ·have:=Lm (ops:=ops) S W hS (i - k) k am (λj h1 h2=>hno j am (.inl ⟨h1,am⟩))
    rw[show k+(i - k)=i from am] at this
    exact this.symm
   ·have:=Lm (ops:=ops) S W hS (k - i) i am (λj h1 h2=>hno j am (.inr ⟨h1,am⟩))
    rw[show i+(k - i)=k from am] at this
    exact this
  have hstE:Pu i=false->E τ (S i):=by
   intro hpu;obtain⟨k,hk,hg,hj⟩:=hi.sto;rw[hg]
   have hno:∀j,j<ops.size->(k<=j/\j<i\/i<=j/\j<k)->H j=false:=by
    intro j hjn hc;cases hh:H j with
    |false=>rfl
    |true=>
     exfalso
     have hw:=hHW j hjn hh;have hiff:=hj j hjn hw;rcases hc with⟨h1,h2⟩ | ⟨h1,h2⟩
     ·have:=hbefore j h2 (λu=>by rcases u.d hw with h | ⟨h,_⟩<;>simp_all)
      have:=hiff.1 this;omega
     ·by_cases hji:j=i
      ·subst hji;have:=hiff.2 h2;rw[hLi] at this;cases this
      ·have:=hbehind j am hjn (λu=>by rcases u.e hw with h | ⟨h,_⟩<;>simp_all)
       rw[hiff.2 h2] at this;cases this
   by_cases hki:k<=i
   ·have:=MR (ops:=ops) S H E hE1 hE3 hsoft (i - k) k am (λj h1 h2=>hno j am (.inl ⟨h1,am⟩))
    rw[show k+(i - k)=i from am] at this
    exact hE2 _ _ this
   ·have:=MR (ops:=ops) S H E hE1 hE3 hsoft (k - i) i am (λj h1 h2=>hno j am (.inr ⟨h1,am⟩))
    rw[show i+(k - i)=k from am] at this
    exact this
  obtain⟨B',τ',hx,hlen',hw1,hw2,hs1,hs2⟩:=hloc i hi' B τ hi.len hrd hst hstE;refine hsim i hi' a w B τ B' τ' _ hs hx λa' w' hs'=>?_
  have hget:∀j,(listed.setIfInBounds i true).getD j false=if j=i then true else listed.getD j false:=by
   intro j;by_cases hji:j=i
   ·subst hji;simp[Array.getD,hlt]
   ·have hne:i≠j:=λe=>hji e.symm
    by_cases hjl:j<listed.size
    ·simp[Array.getD,hjl,hji,Array.getElem_setIfInBounds_ne,hne]
    ·simp[Array.getD,hjl,hji]
  have hmemU:i∈U:=hun i hi' hLi;refine ih (listed.setIfInBounds i true) (U.erase i) B' τ' a' w' (by simpa using hsz) (by rw[List.length_erase_of_mem hmemU];omega) ?_ ?_ hs'
  ·intro j hjn hLj;rw[hget] at hLj;by_cases hji:j=i
   ·simp[hji] at hLj
   ·rw[if_neg hji] at hLj;exact(List.mem_erase_of_ne hji).2 (hun j hjn hLj)
  ·refine⟨?_,by rw[hlen'];exact hi.len,?_,?_⟩
   ·intro j o ho hLj e he hb;show(listed.setIfInBounds i true).getD e.on false=true;have hLj':(listed.setIfInBounds i true).getD j false=true:=hLj;rw[hget] at hLj' ⊢;by_cases hei:e.on=i
    ·simp[hei]
    ·rw[if_neg hei];by_cases hji:j=i
     ·subst hji;exact hpreds o ho e he hb
     ·rw[if_neg hji] at hLj';exact hi.closed j o ho hLj' e he hb
   ·intro t;by_cases ht:t∈wr i
    ·refine⟨i+1,am,hw1 t ht,λj hjn hw=>?_⟩
     show(listed.setIfInBounds i true).getD j false=true↔_;rw[hget];by_cases hji:j=i
     ·simp[hji]
     ·rw[if_neg hji];by_cases hlt':j<i
      ·have:=hbefore j hlt' (λu=>u.c t hw ht)
       constructor
       ·intro _;omega
       ·intro _;exact this
      ·have:=hbehind j am hjn (λu=>u.c t ht hw)
       constructor
       ·intro h;rw[this] at h;cases h
       ·intro h;omega
    ·obtain⟨k,hk,hg,hj⟩:=hi.slot t;refine⟨k,hk,by rw[hw2 t ht,hg],λj hjn hw=>?_⟩
     show(listed.setIfInBounds i true).getD j false=true↔_;rw[hget];by_cases hji:j=i
     ·subst hji;exact absurd hw ht
     ·rw[if_neg hji];exact hj j hjn hw
   ·by_cases hW:W i=true
    ·refine⟨i+1,am,hs1 hW,λj hjn hw=>?_⟩
     show(listed.setIfInBounds i true).getD j false=true↔_;rw[hget];have hpi:=hWP i hi' hW;have hpj:=hWP j hjn hw;by_cases hji:j=i
     ·simp[hji]
     ·rw[if_neg hji];by_cases hlt':j<i
      ·have:=hbefore j hlt' (λu=>by rcases u.d hw with h | ⟨_,h⟩<;>simp_all)
       constructor
       ·intro _;omega
       ·intro _;exact this
      ·have:=hbehind j am hjn (λu=>by rcases u.d hW with h | ⟨_,h⟩<;>simp_all)
       constructor
       ·intro h;rw[this] at h;cases h
       ·intro h;omega
    ·have hW':W i=false:=by simpa using hW
     obtain⟨k,hk,hg,hj⟩:=hi.sto;refine⟨k,hk,by rw[hs2 hW',hg],λj hjn hw=>?_⟩
     show(listed.setIfInBounds i true).getD j false=true↔_;rw[hget];by_cases hji:j=i
     ·subst hji;exact absurd hw hW
     ·rw[if_neg hji];exact hj j hjn hw
end
def PV.Ck:PV->PV
 |.slice _ a es=>.slice false a es
 |v=>v
def PV.Ag:PV->PV
 |.slice _ a es=>.slice false a es
 |.agg cs=>.agg (cs.map PV.Ck)
 |.aggr cs=>.aggr (cs.map PV.Ck)
 |v=>v
def PV.free:PV->Bool
 |.lref _ _=>false
 |.hole _=>false
 |.mapb=>false
 |.self | .bld _ _ _ | .dead | .arrv _ _ _ | .mapo _ _ _ _=>false
 |_=>true
def PV.KO:PV->Bool
 |.ref _ _ | .lref _ _ | .hole _ | .mapb | .self | .bld _ _ _ | .dead=>false
 |.arr _ _ _ _ _ | .aptr _ _ _ _ _ | .arrv _ _ _ | .aggr _ | .mref _ | .mapo _ _ _ _=>false
 |_=>true
def PV.flat:PV->Bool
 |.ref _ _ | .lref _ _ | .hole _ | .mapb | .self | .bld _ _ _ | .dead=>false
 |.arr _ _ _ _ _ | .aptr _ _ _ _ _ | .arrv _ _ _ | .aggr _ | .mref _ | .mapo _ _ _ _=>false
 |.func _ fs cs=>fs.all PV.KO&&cs.all PV.KO
 |.tuple vs=>vs.all PV.KO
 |_=>true
def PV.one:PV->Bool
 |.agg _ | .tuple _ | .aggr _=>false
 |_=>true
def PV.ones(p:PV):Bool:=p.cells.all PV.one
def PV.Fz:PV->Bool
 |.ref _ _ | .arr _ _ _ _ _ | .aptr _ _ _ _ _ | .mref _=>true
 |_=>false
def PV.AzF:PV->Bool
 |.func _ _ _=>true
 |_=>false
def PV.okc:PV->Bool
 |.aggr cs=>cs.all λc=>(c.flat||c.Fz)&&c.one
 |p=>p.flat||p.Fz||p.AzF
def KG:Value->Option PV
 |.bool b=>some (.bool b)
 |.int k n=>some (.int k n)
 |.string s=>some (.str s.data.toList)
 |.pointer none=>some .nilp
 |.slice none 0 0=>some .nils
 |.map none=>some .nilm
 |.nilIface=>some .nili
 |.nilFunc=>some .nilf
 |_=>none
def QB:List Value->Option (List PV)
 |[]=>some []
 |v::vs=>match KG v,QB vs with
  |some p,some ps=>some (p::ps)
  |_,_=>none
def Ra:Value->Option PV
 |.agg cs=>(QB cs.toList).map .agg
 |v=>KG v
def PV.isAgg:PV->Bool
 |.agg _ | .aggr _=>true
 |_=>false
def PV.isSelf:PV->Bool
 |.self | .bld _ _ _ | .dead | .arrv _ _ _ | .mapo _ _ _ _=>true
 |_=>false
def sub(v:PV)(off n:Nat)(ag:Bool):Option PV:=
 match ag with
 |true=>match v with
  |.agg cs=>if off+n<=cs.length/\((cs.drop off).take n).all PV.flat=true then some (.agg ((cs.drop off).take n)) else none
  |_=>none
 |false=>match v.cells[off]? with
  |some x=>if x.isAgg||x.isSelf then none else some x
  |none=>none
def Sz(v:PV)(off n:Nat)(ag:Bool):Option PV:=
 match sub v off n ag with
 |some x=>some x
 |none=>match ag with
  |true=>match v with
   |.agg cs=>if off+n<=cs.length/\((cs.drop off).take n).all (λc=>(c.flat||c.Fz)&&c.one)=true then some (.aggr ((cs.drop off).take n)) else none
   |_=>none
  |false=>none
def upd(v:PV)(off:Nat)(x:PV):Option PV:=
 match v with
 |.agg cs=>if off+x.cells.length<=cs.length then some (.agg (cs.take off++x.cells++cs.drop (off+x.cells.length))) else none
 |.aggr cs=>if off+x.cells.length<=cs.length then some (.agg (cs.take off++x.cells++cs.drop (off+x.cells.length))) else none
 |_=>match x with
  |.agg _ | .aggr _=>none
  |x=>if off=0 then some x else none
def bytesLess:List UInt8->List UInt8->Bool:=Op.bytesLess
def CL:Nat:=1099511627776
def Bo:Nat:=4294967296
def BqE(c:BinOp)(k:IntKind)(a b:Int):Option PV:=
 match c with
 |.add=>some (.int k (k.wrap (a+b)))
 |.sub=>some (.int k (k.wrap (a - b)))
 |.mul=>some (.int k (k.wrap (a * b)))
 |.eql=>some (.bool (a==b))
 |.neq=>some (.bool (a != b))
 |.lss=>some (.bool (a<b))
 |.leq=>some (.bool (a<=b))
 |.gtr=>some (.bool (a>b))
 |.geq=>some (.bool (a>=b))
 |_=>match Go.binOp c 0 (.int k a) (.int k b) with
  |.pure (.int d n)=>some (.int d n)
  |_=>none
def pQ(c:BinOp)(a b:List UInt8):Option PV:=
 match c with
 |.add=>if a.length+b.length<=CL then some (.str (a++b)) else none
 |.eql=>some (.bool (a==b))
 |.neq=>some (.bool (!(a==b)))
 |.lss=>some (.bool (bytesLess a b))
 |.leq=>some (.bool (bytesLess a b||a==b))
 |.gtr=>some (.bool (!(bytesLess a b||a==b)))
 |.geq=>some (.bool (!bytesLess a b))
 |_=>none
def BqF(c:BinOp)(a b:Bool):Option PV:=
 match c with
 |.eql=>some (.bool (a==b))
 |.neq=>some (.bool (!(a==b)))
 |_=>none
def RB:PV->Option Ky
 |.int k n=>some (.i k n)
 |.str l=>some (.s l)
 |_=>none
def findKey(k:Ky):List Ky->List PV->Option PV
 |x::ks,v::vs=>if x=k then some v else findKey k ks vs
 |_,_=>none
def Ky.pv:Ky->PV
 |.i k n=>.int k n
 |.s l=>.str l
def entries:List Ky->List PV->Option (List PV)
 |[],[]=>some []
 |k::ks,.tuple [a,v]::r=>match RB a,entries ks r with
  |some c,some vs=>if c=k then some (v::vs) else none
  |_,_=>none
 |_,_=>none
def sameKind:Ky->Ky->Bool
 |.i k _,.i a _=>k==a
 |.s _,.s _=>true
 |_,_=>false
def zh(c:Nat):PV->Bool
 |.bool _=>c==1
 |.func _ _ _ | .nilf=>c==2
 |_=>true
def fH(st:Bool):PV->Option PV
 |.str s=>if st then some (.int .i64 s.length) else none
 |.slice _ _ es=>if st then none else some (.int .i64 es.length)
 |.nils | .empt=>if st then none else some (.int .i64 0)
 |.arr _ _ _ len _=>if st then none else some (.int .i64 len)
 |_=>none
def fZ(size:Nat)(x i:PV):Option PV:=match x with
 |.slice _ a es=>match i with
  |.int _ i=>if a=size/\0<=i then(es[i.toNat]?).map λv=>.vptr v else none
  |_=>none
 |.arr id gen off len a=>match i with
  |.int _ i=>if a=size/\0<=i/\i<len then some (.aptr id gen size (off+i.toNat) 0) else none
  |_=>none
 |_=>none
def WH(x i:PV):Option PV:=match x with
 |.str s=>match i with
  |.int _ i=>if 0<=i then(s[i.toNat]?).map λb=>.int .u8 b.toNat else none
  |_=>none
 |_=>none
def faV(off n:Nat)(ag:Bool):PV->Option PV
 |.vptr v=>(sub v off n ag).map λx=>.vptr x
 |.ref id o=>some (.ref id (o+off))
 |.lref d o=>some (.lref d (o+off))
 |.aptr id gen size i o=>some (.aptr id gen size i (o+off))
 |_=>none
def fits(n:Nat)(ag:Bool)(v:PV):Bool:=match v with
 |.agg cs=>ag&&cs.length==n
 |.aggr _=>false
 |_=>!ag
def ldV(n:Nat)(ag:Bool):PV->Option PV
 |.vptr v=>if fits n ag v/\v.free then some v else none
 |_=>none
def wF(x y:PV):Option PV:=match x with
 |.int k a=>match y with
  |.int _ b=>some (.int k (if b<a then b else a))
  |_=>none
 |_=>none
def wH(x y:PV):Option PV:=match x with
 |.int k a=>match y with
  |.int _ b=>some (.int k (if a<b then b else a))
  |_=>none
 |_=>none
def QP(lo hi:Bool)(n:Nat)(a:List PV):Option (Nat×Nat):=
 match lo,hi,a with
 |true,true,[.int _ l,.int _ h]=>if 0<=l/\l<=h/\h<=n then some (l.toNat,h.toNat) else none
 |true,false,[.int _ l]=>if 0<=l/\l<=n then some (l.toNat,n) else none
 |false,true,[.int _ h]=>if 0<=h/\h<=n then some (0,h.toNat) else none
 |false,false,[]=>some (0,n)
 |_,_,_=>none
def Ky.isInt:Ky->Bool
 |.i _ _=>true
 |_=>false
def IX(z:PV)(ok a:Bool)(x k:PV):Option PV:=match x with
 |.nilm=>match RB k with
  |some k=>if k.isInt=a then some (if ok then .tuple [z.Ag,.bool false] else z.Ag) else none
  |none=>none
 |.mapv ks b=>match RB k with
  |some k=>if ks.all (sameKind k)/\k.isInt=a then match findKey k ks b with
    |some v=>if v.free then some (if ok then .tuple [v.Ag,.bool true] else v.Ag) else none
    |none=>some (if ok then .tuple [z.Ag,.bool false] else z.Ag)
   else none
  |none=>none
 |_=>none
def AzD:BinOp->Bool
 |.shl | .shr=>true
 |_=>false
def RH(c:BinOp)(x y:PV):Option PV:=
 match x with
 |.int k a=>match y with
  |.int d b=>if AzD c then(match Go.binOp c 0 (.int k a) (.int d b) with
    |.pure (.int d n)=>some (.int d n)
    |_=>none)
   else if k=d then BqE c k a b else none
  |_=>none
 |.str a=>match y with
  |.str b=>pQ c a b
  |_=>none
 |.bool a=>match y with
  |.bool b=>BqF c a b
  |_=>none
 |.func _ _ _=>match y with
  |.nilf=>match c with
   |.eql=>some (.bool false)
   |.neq=>some (.bool true)
   |_=>none
  |_=>none
 |.nilf=>match y with
  |.nilf=>match c with
   |.eql=>some (.bool true)
   |.neq=>some (.bool false)
   |_=>none
  |_=>none
 |_=>none
def eqC(t:Nat):PV->PV->Option Bool
 |.int k a,.int c b=>if t=0/\k=c then some (a==b) else none
 |.bool a,.bool b=>if t=1 then some (a==b) else none
 |.str a,.str b=>if t=2 then some (a==b) else none
 |_,_=>none
def eqL:List Nat->List PV->List PV->Option Bool
 |[],_,_=>some true
 |t::ts,x::xs,y::ys=>match eqC t x y with
  |some true=>eqL ts xs ys
  |some false=>some false
  |none=>none
 |_,_,_=>none
def ixV(n size:Nat)(ag:Bool)(x i:PV):Option PV:=match i with
 |.int _ z=>if 0<=z/\z<n then faV (z.toNat * size) size ag x else none
 |_=>none
def JV:List PV->Option (List (IntKind×Int))
 |[]=>some []
 |c::r=>match c,JV r with
  |.int k n,some l=>some ((k,n)::l)
  |_,_=>none
def TP(d:KD)(p:PV):Option Kx:=match d with
 |.i k=>match p with
  |.int a n=>if a=k then some (.i k n) else none
  |_=>none
 |.s=>match p with
  |.str l=>some (.s l)
  |_=>none
 |.a l=>match p with
  |.agg cs=>match JV cs with
   |some r=>if r.map (·.1)=l then some (.a r) else none
   |none=>none
  |_=>none
def J9:KD->Kx->Bool
 |.i k,.i a _=>a==k
 |.s,.s _=>true
 |.a l,.a r=>r.map (·.1)==l
 |_,_=>false
def XN:PV->PV->Bool
 |.int k a,.int c b=>k==c&&a==b
 |.bool a,.bool b=>a==b
 |.str a,.str b=>a==b
 |.nils,.nils | .nilp,.nilp | .nilm,.nilm | .nilf,.nilf | .nili,.nili=>true
 |_,_=>false
def Qh:List PV->List PV->Bool
 |[],[]=>true
 |x::xs,y::ys=>XN x y&&Qh xs ys
 |_,_=>false
def Wv:PV->PV->Bool
 |.agg xs,.agg ys=>Qh xs ys
 |x,y=>XN x y
def Ji(x:Kx):List Kx->Option Nat
 |[]=>none
 |k::ks=>if k=x then some 0 else(Ji x ks).map (·+1)
def Lc(x:Kx)(ks:List Kx)(vs:List PV):Option PV:=(Ji x ks).bind λj=>vs[j]?
def mapOf(cs:Option (List PV)):Option (KD×PV×List Kx×List PV):=match cs with
 |some [.mapo d z ks vs]=>some (d,z,ks,vs)
 |_=>none
def lkR(ok:Bool)(v:PV)(b:Bool):Option (List (Option PV)):=
 if ok then(if v.flat||v.Fz then some [some (.tuple [v.Ag,.bool b])] else none) else if v.free then some [some v.Ag] else none
inductive PK where
 |mv | mvo | pick
 |bx | bxl | zl (z:PV) | zi (n:Nat) | sti (n:Nat)
 |ldl (off n:Nat) (ag:Bool) | ldf (d n:Nat) (ag:Bool) | stl (off n:Nat) | stf (d n:Nat)
 |ldfo (d:Nat) | stfo (d:Nat)
 |fal (d off:Nat) | fa (off n:Nat) (ag:Bool) | ldp (n:Nat) (ag:Bool)
 |build (zero:List PV) (parts:List (Nat×Nat)) | bsl (size:Nat)
 |bin (op:BinOp) (c:Nat) | not | cvt (k:IntKind) | mkf (f:FuncId) (nf:Nat)
 |look (zero:PV) (ok int:Bool)
 |idx (size:Nat) | sidx | ssl (lo hi:Bool) | vsl (size:Nat) (lo hi:Bool) | len (str:Bool) | ext (i:Nat) | chk | min | max
 |app (size:Nat)
 |mkm | ins (key:Ky) (keys:List Ky) | mvb (keys:List Ky)
 |cvb | cvs
 |cvi | fld (off n:Nat) (ag:Bool) | no
 |cut0 | cap0
 |bse | snil (neq:Bool)
 |aeq (neq:Bool) (ts:List Nat) | ixa (n size:Nat) (ag:Bool) | ixl (d n size:Nat)
 deriving Inhabited
def Fw(cs:List PV)(off:Nat)(x:List PV):List PV:=cs.take off++x++cs.drop (off+x.length)
def Rk:List PV->List (Nat×Nat)->List PV->Option (List PV)
 |cs,[],[]=>some cs
 |cs,(off,n)::ps,v::vs=>if v.cells.length=n/\off+n<=cs.length/\v.flat then Rk (Fw cs off v.Ag.cells) ps vs else none
 |_,_,_=>none
def RJ(size:Nat):PV->Option (List PV)
 |.slice true a es=>if a=size then some es else none
 |.nils=>some []
 |_=>none
def RI(size:Nat):PV->Option (List PV)
 |.slice _ a xs=>if a=size then some xs else none
 |.nils | .empt=>some []
 |.str l=>if size=1 then some (l.map λb=>.int .u8 b.toNat) else none
 |_=>none
def AzV(size:Nat)(s x:PV):Option (List (Option PV)):=
 match RJ size s,RI size x with
 |some es,some xs=>
  if xs.isEmpty then some [some s,some s.Ag]
  else if es.length+xs.length<=Bo/\xs.all PV.ones then some [some (.slice true size (es++xs)),some s.Ag] else none
 |_,_=>none
def AQ(k:PK)(vs:List PV):Option (List (Option PV)):=
 match k,vs with
 |.mv,[v]=>if v.free then some [some v.Ag] else none
 |.mvo,[v]=>if v.free then some [some v,some v.Ag] else none
 |.pick,[.bool c,a,b]=>let v:=if c then a else b;if v.free then some [some v.Ag] else none
 |.bx,[v]=>if v.flat then some [some (.vptr v.Ag)] else none
 |.bxl,[v]=>if v.okc then some [some v.Ag] else none
 |.zl z,[]=>some [some z]
 |.zi n,[]=>some [some (.hole n)]
 |.sti n,[.hole m,v]=>if m=n/\v.cells.length=n/\v.flat/\v.ones then some [some (.vptr v.Ag)] else none
 |.ldl off n ag,[c]=>(Sz c off n ag).map λv=>[some v.Ag]
 |.ldf d n ag,[.lref s off,c]=>if s=d then(sub c off n ag).map λv=>[some v.Ag] else none
 |.stl off n,[c,v]=>if v.cells.length=n/\v.okc/\v.ones then(upd c off v.Ag).map λc'=>[some c'] else none
 |.stf d n,[.lref s off,c,v]=>if s=d/\v.cells.length=n/\v.okc/\v.ones then(upd c off v.Ag).map λc'=>[some c'] else none
 |.ldfo d,[.lref s off,c]=>if s=d then match c.cells[off]? with
   |some v=>match v with
    |.slice _ _ _ | .nils=>(upd c off v.Ag).map λc'=>[some v,some c']
    |_=>none
   |none=>none
  else none
 |.stfo d,[.lref s off,c,v]=>if s=d then match v with
   |.slice _ _ _ | .nils=>(upd c off v).map λc'=>[some c',some v.Ag]
   |_=>none
  else none
 |.fal d off,[_]=>some [some (.lref d off)]
 |.fa off n ag,[x]=>(faV off n ag x).map λv=>[some v]
 |.ldp n ag,[x]=>(ldV n ag x).map λv=>[some v.Ag]
 |.build zero j,vs=>(Rk zero j vs).map λcs=>[some (.agg cs)]
 |.bsl size,vs=>if vs.all (λv=>v.cells.length==size&&v.flat) then some [some (.slice true size (vs.map PV.Ag))] else none
 |.bin u c,[x,y]=>if zh c x then(RH u x y).map λv=>[some v] else none
 |.not,[.bool b]=>some [some (.bool !b)]
 |.cvt k,[.int _ n]=>some [some (.int k (k.wrap n))]
 |.mkf f t,vs=>if vs.all (λv=>v.flat||v.Fz) then some [some (.func f ((vs.map PV.Ag).take t) ((vs.map PV.Ag).drop t))] else none
 |.look z ok q,[x,k]=>(IX z ok q x k).map λv=>[some v]
 |.mkm,[]=>some [some .mapb]
 |.ins r e,[.mapb,k,v]=>match RB k with
  |some p=>if p=r/\e.contains p/\e.all (sameKind p)/\v.flat then some [some (.tuple [k,v.Ag])] else none
  |none=>none
 |.mvb e,.mapb::ps=>(entries e ps).map λvs=>[some (.mapv e vs),none]
 |.cvb,[.str l]=>some [some (.slice false 1 (l.map λb=>.int .u8 b.toNat))]
 |.cvi,[.slice true g es]=>if g=1 then some [some (.slice false 1 es),some (.slice false 1 es)] else none
 |.fld off n ag,[.agg cs]=>(sub (.agg cs) off n ag).map λv=>[some v.Ag]
 |.idx size,[x,i]=>(fZ size x i).map λv=>[some v]
 |.sidx,[x,i]=>(WH x i).map λv=>[some v]
 |.ssl lo hi,x::o=>match x with
  |.str s=>(QP lo hi s.length o).map fun(l,h)=>[some (.str ((s.drop l).take (h - l)))]
  |_=>none
 |.vsl size lo hi,x::o=>match x with
  |.slice _ g es=>if g=size then(QP lo hi es.length o).map fun(l,h)=>[some (.slice false g ((es.drop l).take (h - l)))] else none
  |.arr id gen off len g=>if g=size then(QP lo hi len o).map fun(l,h)=>[some (.arr id gen (off+l) (h - l) g)] else none
  |.nils=>(QP lo hi 0 o).map λ_=>[some .nils]
  |.empt=>(QP lo hi 0 o).map λ_=>[some .empt]
  |_=>none
 |.cut0,[x]=>match x with
  |.nils=>some [some .nils]
  |.slice _ _ _ | .arr _ _ _ _ _ | .empt=>some [some .empt]
  |_=>none
 |.bse,[]=>some [some .empt]
 |.snil ne,[x,.nils]=>match x with
  |.nils=>some [some (.bool (!ne))]
  |.slice _ _ _ | .arr _ _ _ _ _ | .empt=>some [some (.bool ne)]
  |_=>none
 |.cap0,[x]=>match x with
  |.nils | .empt=>some [some (.int .i64 0)]
  |_=>none
 |.len st,[x]=>(fH st x).map λv=>[some v]
 |.ext i,[.tuple vs]=>if vs.all PV.free then(vs[i]?).map λv=>[some v.Ag] else none
 |.chk,[v]=>match v with
  |.vptr _ | .ref _ _ | .func _ _ _ | .aptr _ _ _ _ _=>some [some v]
  |_=>none
 |.min,[x,y]=>(wF x y).map λv=>[some v]
 |.max,[x,y]=>(wH x y).map λv=>[some v]
 |.app size,[s,x]=>AzV size s x
 |.aeq ne ts,[.agg xs,.agg ys]=>(eqL ts xs ys).map λb=>[some (.bool (b != ne))]
 |.ixa n size ag,[x,i]=>(ixV n size ag x i).map λv=>[some v]
 |.ixl d n size,[_,.int _ z]=>if 0<=z/\z<n then some [some (.lref d (z.toNat * size))] else none
 |_,_=>none
inductive RK where
 |ld (n:Nat) (ag:Bool)
 |lkM (z:PV) (ok:Bool) (d:KD) | lnM
 deriving Inhabited
def X3(cs:List PV)(off n:Nat)(ag:Bool):Option PV:=
 match ag with
 |true=>if off+n<=cs.length/\((cs.drop off).take n).all PV.flat=true then some (.agg ((cs.drop off).take n)) else none
 |false=>match cs[off]? with
  |some x=>if x.isAgg||x.isSelf then none else some x
  |none=>none
def Jl(cs:List PV)(gen size:Nat):Option (List PV):=match cs with
 |[.arrv g a es]=>if g=gen/\a=size then some es else none
 |_=>none
def Dq(k:RK)(vs:List PV)(a:Sto):Option (List (Option PV)):=
 match k,vs with
 |.ld n ag,[.vptr v]=>(ldV n ag (.vptr v)).map λv=>[some v.Ag]
 |.ld n ag,[.ref id off]=>match a[id]? with
  |some cs=>(X3 cs off n ag).map λv=>[some v.Ag]
  |none=>none
 |.ld n ag,[.aptr id gen size i off]=>match a[id]? with
  |some cs=>match Jl cs gen size with
   |some es=>match es[i]? with
    |some e=>(sub e off n ag).map λv=>[some v.Ag]
    |none=>none
   |none=>none
  |none=>none
 |.lkM z ok d,[.mref id,k]=>match mapOf a[id]?,TP d k with
  |some (c,b,ks,vs),some x=>if c=d/\Wv z b=true then(match Lc x ks vs with
    |some v=>lkR ok v true
    |none=>lkR ok b false) else none
  |_,_=>none
 |.lkM z ok d,[.nilm,k]=>match TP d k with
  |some _=>lkR ok z false
  |none=>none
 |.lnM,[.mref id]=>match mapOf a[id]? with
  |some (_,_,ks,_)=>some [some (.int .i64 ks.length)]
  |none=>none
 |.lnM,[.nilm]=>some [some (.int .i64 0)]
 |_,_=>none
inductive WK where
 |alO (z:List PV) | alB (t e:TypeId) | bxO | st (n:Nat) | ldo | sto
 |call (f:FuncId) | DC
 |Gj (size:Nat) | frz
 |mks (size:Nat) (z:PV) | appZ (size:Nat) (z:PV) | callz (f:FuncId) | ldz (n k:Nat)
 |mkM (z:PV) (d:KD) | upM (d:KD) | enM (z:PV) (d:KD) | esM
 deriving Inhabited
abbrev Caller:=FuncId->List PV->Sto->Option (PV×Sto)
def JM(a:Sto)(id gen off len size:Nat):Option (List PV):=match a[id]? with
 |some cs=>match Jl cs gen size with
  |some es=>if off+len<=es.length then some ((es.drop off).take len) else none
  |none=>none
 |none=>none
def I7(size:Nat)(b:Sto):PV->Option (List PV)
 |.slice _ a xs=>if a=size then some xs else none
 |.nils | .empt=>some []
 |.arr id gen off len a=>if a=size then JM b id gen off len size else none
 |_=>none
def Gj(size:Nat)(s:PV)(xs:List PV)(a:Sto):Option (List (Option PV)×Sto):=match s with
 |.nils=>if xs.isEmpty then some ([some .nils],a)
  else if xs.length<=Bo/\xs.all PV.ones/\xs.all PV.okc then some ([some (.arr a.length 0 0 xs.length size)],a++[[.arrv 0 size (xs.map PV.Ag)]]) else none
 |.empt=>if xs.isEmpty then some ([some (.slice false size [])],a)
  else if xs.length<=Bo/\xs.all PV.ones/\xs.all PV.okc then some ([some (.arr a.length 0 0 xs.length size)],a++[[.arrv 0 size (xs.map PV.Ag)]]) else none
 |.arr id gen off len b=>if b=size then match JM a id gen off len size with
   |some es=>if xs.isEmpty then some ([some s],a)
    else if len+xs.length<=Bo/\xs.all PV.ones/\xs.all PV.okc then
     some ([some (.arr id (gen+1) 0 (len+xs.length) size)],a.set id [.arrv (gen+1) size (es++xs.map PV.Ag)])
    else none
   |none=>none
  else none
 |_=>none
def Uf:List PV->Sto->Option (List PV×Sto)
 |[],d=>some ([],d)
 |c::cs,d=>match c with
  |.arr id gen off len size=>match JM d id gen off len size with
   |some es=>if es.all (λe=>e.flat&&e.cells.all PV.flat) then(Uf cs (d.set id [.dead])).map fun(vs,a)=>(.slice false size es::vs,a) else none
   |none=>none
  |c=>if c.flat then(Uf cs d).map fun(vs,a)=>(c.Ck::vs,a) else none
def o5(r:PV)(a:Sto):Option (PV×Sto):=match r with
 |.aggr cs=>(Uf cs a).map fun(vs,b)=>(.agg vs,b)
 |.arr id gen off len size=>match JM a id gen off len size with
  |some es=>if es.all (λe=>e.flat&&e.cells.all PV.flat) then some (.slice false size es,a.set id [.dead]) else none
  |none=>none
 |r=>some (r.Ag,a)
def Fj(pur:FuncId->Bool)(call:Caller)(k:WK)(vs:List PV)(a:Sto):Option (List (Option PV)×Sto):=
 match k,vs with
 |.alO z,[]=>some ([some (.ref a.length 0)],a++[z])
 |.alB t e,[]=>some ([some (.ref a.length 0)],a++[[.bld t e []]])
 |.bxO,[v]=>if v.okc then some ([some (.ref a.length 0)],a++[v.Ag.cells]) else none
 |.st n,[.ref id off,v]=>match a[id]? with
  |some cs=>if v.cells.length=n/\off+n<=cs.length/\v.okc/\v.ones/\cs.any PV.isSelf=false then some ([],a.set id (Fw cs off v.Ag.cells)) else none
  |none=>none
 |.ldo,[.ref id off]=>match a[id]? with
  |some cs=>match cs[off]? with
   |some v=>match v with
    |.slice _ _ _ | .nils=>some ([some v],a.set id (Fw cs off [v.Ag]))
    |_=>none
   |none=>none
  |none=>none
 |.sto,[.ref id off,v]=>match a[id]? with
  |some cs=>match v with
   |.slice _ _ _ | .nils=>if off+1<=cs.length/\cs.any PV.isSelf=false then some ([some v.Ag],a.set id (Fw cs off [v])) else none
   |_=>none
  |none=>none
 |.st n,[.aptr id gen size i off,v]=>match a[id]? with
  |some cs=>match Jl cs gen size with
   |some es=>match es[i]? with
    |some e=>if v.cells.length=n/\v.okc/\v.ones then(upd e off v.Ag).map λo=>([],a.set id [.arrv gen size (es.set i o)]) else none
    |none=>none
   |none=>none
  |none=>none
 |.Gj size,[s,x]=>match I7 size a x with
  |some xs=>Gj size s xs a
  |none=>none
 |.frz,[.arr id gen off len size]=>match JM a id gen off len size with
  |some es=>if es.all (λe=>e.flat&&e.cells.all PV.flat) then some ([some (.slice false size es)],a.set id [.dead]) else none
  |none=>none
 |.frz,[.nils]=>some ([some .nils],a)
 |.frz,[.empt]=>some ([some .empt],a)
 |.mks size z,[.int _ n,.int _ m]=>if n=m/\0<=n/\n<=Bo/\z.cells.length=size/\z.ones then some ([some (.arr a.length 0 0 n.toNat size)],a++[[.arrv 0 size (List.replicate n.toNat z)]]) else none
 |.appZ size z,[.nils,.int _ n]=>if 0<n/\n<=Bo/\z.cells.length=size then some ([some (.arr a.length 0 0 n.toNat size)],a++[[.arrv 0 size (List.replicate n.toNat z)]]) else none
 |.callz f,vs=>if vs.all PV.free then(call f (vs.map PV.Ag) a).bind fun(r,b)=>(o5 r b).map fun(r',h)=>([some r'],h) else none
 |.ldz n k,[.agg cs]=>match cs[k]? with
  |some (.arr id gen off len size)=>match JM a id gen off len size with
   |some es=>if es.all (λe=>e.flat&&e.cells.all PV.flat) then(sub (.agg (cs.set k (.slice false size es))) 0 n true).map λv=>([some v.Ag,some (.agg (cs.set k (.slice false size es)))],a.set id [.dead]) else none
   |none=>none
  |_=>(sub (.agg cs) 0 n true).map λv=>([some v.Ag,some (.agg cs)],a)
 |.call f,vs=>if vs.all PV.free then
   if pur f then(if vs.all PV.flat then(call f (vs.map PV.Ag) []).bind fun(r,_)=>if r.flat then some ([some r.Ag],a) else none else none)
   else(call f (vs.map PV.Ag) a).map fun(r,b)=>([some r.Ag],b)
  else none
 |.DC,.func f fs cs::vs=>if vs.all PV.free then
   let l:=(fs++vs++cs).map PV.Ag
   if pur f then(if l.all PV.flat then(call f l []).bind fun(r,_)=>if r.flat then some ([some r.Ag],a) else none else none)
   else(call f l a).map fun(r,b)=>([some r.Ag],b)
  else none
 |.mkM z d,[]=>some ([some (.mref a.length)],a++[[.mapo d z.Ag [] []]])
 |.upM d,[.mref id,k,v]=>match mapOf a[id]?,TP d k with
  |some (g,c,ks,vs),some x=>if g=d/\v.free then(match Ji x ks with
    |some j=>some ([],a.set id [.mapo g c ks (vs.set j v.Ag)])
    |none=>if ks.length<Bo then some ([],a.set id [.mapo g c (ks++[x]) (vs++[v.Ag])]) else none) else none
  |_,_=>none
 |.enM z d,[.mref id,k]=>match mapOf a[id]?,TP d k with
  |some (g,c,ks,vs),some x=>if g=d/\Wv z c=true/\c.flat then(match Ji x ks with
    |some j=>match vs[j]? with
     |some v=>if v.flat||v.Fz then some ([some (.tuple [v.Ag,.int .i64 j])],a) else none
     |none=>none
    |none=>if ks.length<Bo/\vs.length=ks.length then some ([some (.tuple [c.Ag,.int .i64 ks.length])],a.set id [.mapo g c (ks++[x]) (vs++[c])]) else none) else none
  |_,_=>none
 |.esM,[.mref id,.int _ i,v]=>match mapOf a[id]? with
  |some (g,c,ks,vs)=>if 0<=i/\i<vs.length/\v.free then some ([],a.set id [.mapo g c ks (vs.set i.toNat v.Ag)]) else none
  |none=>none
 |_,_=>none
inductive AK where
 |p (k:PK) | r (k:RK) | w (k:WK)
 |c (f:FuncId)
 deriving Inhabited
def sem(pur:FuncId->Bool)(call:Caller)(k:AK)(vs:List PV)(a:Sto):Option (List (Option PV)×Sto):=
 match k with
 |.p k=>(AQ k vs).map (·,a)
 |.r k=>(Dq k vs a).map (·,a)
 |.w k=>Fj pur call k vs a
 |.c f=>if vs.all PV.free&&vs.all PV.flat then(call f (vs.map PV.Ag) []).bind fun(r,_)=>if r.flat then some ([some r.Ag],a) else none else none
inductive CW where
 |slot (t:Nat) | val (v:PV)
 deriving Inhabited
structure AOp where
 guard:Option (Nat×Bool):=none
 dst:Option Nat
 k:AK
 args:List CW
 ex:List Nat:=[]
 clr:List Nat:=[]
 deriving Inhabited
def Cc(A:Frm):List CW->Option (List PV)
 |[]=>some []
 |.slot t::r=>match A.get t,Cc A r with
  |some v,some vs=>some (v::vs)
  |_,_=>none
 |.val v::r=>(Cc A r).map (v::·)
def Dw:Frm->List Nat->List (Option PV)->Frm
 |A,t::ts,v::vs=>Dw (A.set t v) ts vs
 |A,_,_=>A
def AOp.wr(o:AOp):List Nat:=o.dst.toList++o.ex++o.clr
def PX:List CW->List Nat
 |[]=>[]
 |.slot t::r=>t::PX r
 |.val _::r=>PX r
def AOp.rd(o:AOp):List Nat:=(match o.guard with | some (g,_)=>[g] | none=>[])++PX o.args
def Li:PV:=.tuple []
def Iy(A:Frm):Option (Nat×Bool)->Option Bool
 |none=>some true
 |some (g,b)=>match A.get g with
  |some (.bool c)=>some (c==b)
  |some (.tuple [])=>some false
  |_=>none
def Cb(pur:FuncId->Bool)(call:Caller)(o:AOp)(A:Frm)(c:Sto):Option (Frm×Sto):=
 match Cc A o.args with
 |some vs=>match sem pur call o.k vs c with
  |some (b,a)=>
   if b.length=o.dst.toList.length+o.ex.length then some (Dw A o.wr (b++o.clr.map λ_=>none),a)
   else if o.dst.isNone/\o.ex=[]/\o.clr=[] then some (A,a) else none
  |none=>none
 |none=>none
def H6(pur:FuncId->Bool)(call:Caller)(o:AOp)(A:Frm)(a:Sto):Option (Frm×Sto):=
 match Iy A o.guard with
 |some true=>Cb pur call o A a
 |some false=>if o.ex=[]/\o.clr=[] then some (Dw A o.wr [some Li],a) else none
 |none=>none
def Jj(pur:FuncId->Bool)(call:Caller):List AOp->Frm->Sto->Option (Frm×Sto)
 |[],A,c=>some (A,c)
 |o::d,A,c=>match H6 pur call o A c with
  |some (A',b)=>Jj pur call d A' b
  |none=>none
inductive De where
 |skip
 |region (ops:List AOp)
 |seq (a b:De)
 |cond (c:CW) (t e:De)
 |block (id:Nat) (c:De)
 |loop (keep:List Bool) (c:De)
 |exit (id:Nat)
 |ret
 deriving Inhabited
inductive CE where
 |normal | exit (id:Nat) | ret
 deriving DecidableEq,Inhabited
def mask(a:List Bool)(A:Frm):Frm:=List.zipWith (λb v=>if b then v else none) a A
def iter(b:List Bool)(a:Frm->Sto->Option (CE×Frm×Sto)):Nat->Frm->Sto->Option (CE×Frm×Sto)
 |0,_,_=>none
 |n+1,A,e=>match a A e with
  |some (.normal,A',c)=>iter b a n (mask b A') c
  |r=>r
def Ig(pur:FuncId->Bool)(call:Caller)(n:Nat):De->Frm->Sto->Option (CE×Frm×Sto)
 |.skip,A,f=>some (.normal,A,f)
 |.region ops,A,f=>(Jj pur call ops A f).map (CE.normal,·)
 |.seq a b,A,f=>match Ig pur call n a A f with
  |some (.normal,A',h)=>Ig pur call n b A' h
  |r=>r
 |.cond c t e,A,f=>match Cc A [c] with
  |some [.bool true]=>Ig pur call n t A f
  |some [.bool false]=>Ig pur call n e A f
  |_=>none
 |.block id c,A,f=>match Ig pur call n c A f with
  |some (.exit i,A',h)=>if i=id then some (.normal,A',h) else some (.exit i,A',h)
  |r=>r
 |.loop g c,A,f=>if g.length=A.length then iter g (Ig pur call n c) n (mask g A) f else none
 |.exit id,A,f=>some (.exit id,A,f)
 |.ret,A,f=>some (.ret,A,f)
structure Ay where
 nargs:Nat
 ntmps:Nat
 extra:Nat
 results:List (Nat×Option Nat)
 code:De
 deriving Inhabited
def LU(v:PV):Option Nat->Bool
 |none=>v.free
 |some n=>fits n true v&&v.cells.all PV.flat
def M5(v:PV):Option Nat->Option PV
 |none=>none
 |some n=>if fits n true v&&v.cells.all (λc=>(c.flat||c.Fz)&&c.one) then some (.aggr (v.cells.map PV.Ck)) else none
def Gu(A:Frm):List (Nat×Option Nat)->Option (List PV)
 |[]=>some []
 |(t,n)::ts=>match A.get t,Gu A ts with
  |some v,some vs=>if LU v n then some (v.Ag::vs) else(M5 v n).map λr=>r::vs
  |_,_=>none
def CX:List PV->Option PV
 |[v]=>some v
 |vs=>if vs.all (λv=>v.flat||v.Fz) then some (.tuple vs) else none
def lS(pur:FuncId->Bool)(call:Caller)(n:Nat)(a:Ay)(args:List PV)(c:Sto):Option (PV×Sto):=
 if args.length=a.nargs/\args.length<=a.ntmps then
  match Ig pur call n a.code (args.map some++List.replicate (a.ntmps+a.extra - args.length) none) c with
  |some (.normal,A,b) | some (.ret,A,b)=>(Gu A a.results).bind λvs=>(CX vs).map λr=>(r,b)
  |_=>none
 else none
end Go.Abs

namespace Go.Abs
open Go.RowKit
inductive SK where
 |plain | box | imm | obj | mapb (keys:List Ky) | ent (m:Nat) (key:Ky)
 deriving DecidableEq,Inhabited
inductive Tag where
 |slot (t:Nat) (j:Option Nat)
 |obj (id:Nat) (j:Option Nat)
 deriving DecidableEq
structure Gh where
 I:Imm
 ω:Nat->Option Tag
 bl:Bl
structure Cx where
 K:Nat->Prop
 I0:Imm
 w0:World
 bl0:Bl
 kd:Nat->SK
 nt:Nat
 al:Nat->Option Nat
 ents:∀t m,(∃key,kd t=.ent m key)->∃keys,kd m=.mapb keys
 uniq:∀t t' m key,kd t=.ent m key->kd t'=.ent m key->t=t'
 ds:List Deferred:=[]
def nC{w a:World}{b o:Nat}(h:a.heap[b]?=w.heap[b]?):a.cell? ⟨b,o,none⟩=w.cell? ⟨b,o,none⟩:=by simp only[World.cell?,h]
structure KOk(K:Nat->Prop)(w:World):Prop where
 lt:∀b,K b->b<w.heap.size
 tab:K 0/\∃m,w.cell? ⟨0,0,none⟩=some (.int .i64 m)
instance {K:Nat->Prop} {w:World}:CoeFun (KOk K w) (λ_=>∀b,K b->b<w.heap.size):=⟨KOk.lt⟩
structure Base(cx:Cx)(G:Gh)(w:World):Prop where
 keep:∀b,cx.K b->w.heap[b]?=cx.w0.heap[b]?
 same:Same cx.I0 cx.w0 w
 sub:∀b x,cx.I0 b x->G.I b x
 new:∀b x,G.I b x->cx.I0 b x\/¬cx.K b
 lt:∀b x,G.I b x->b<w.heap.size
 own:∀b tag,G.ω b=some tag->b<w.heap.size/\¬cx.K b
 Klt:KOk cx.K cx.w0
 grow:cx.w0.heap.size<=w.heap.size
 bl:cx.bl0.le G.bl
 os:w.os=cx.w0.os
 tape:w.tape=cx.w0.tape
 output:w.output=cx.w0.output
def yO(G:Gh)(w:World)(d:Tag)(size:Nat)(c:Value)(n:Nat):Prop:=
 ∃b off cap cs a,c=.slice (some ⟨b,off,none⟩) n cap/\G.ω b=some d/\¬G.I b none/\(∀o,off+n * size<=o->¬G.I b (some o))/\
  w.heap[b]?=some (.cells cs a (0,0))/\off+cap * size<=cs.size/\0<size/\n<=cap
def EB(G:Gh)(w:World)(a:Tag)(c:Value)(p:PV):Prop:=
 match p with
 |.slice true size es=>yO G w a size c es.length
 |_=>True
def Nz(G:Gh)(w:World)(b:Nat)(a:Tag)(c:Value)(p:PV):Prop:=(BF G.I G.bl w c p/\EB G w a c p)\/(p=.self/\c=.pointer (some ⟨b,0,none⟩))
def Gr(G:Gh)(w:World)(b:Nat)(c:Option Nat->Tag)(a:List PV):Prop:=
 G.ω b=some (c none)/\(∀x,¬G.I b x)/\∃cs d,w.heap[b]?=some (.cells cs d (0,0))/\cs.size=a.length/\
  ∀(j:Nat) (p:PV),a[j]?=some p->Nz G w b (c (some j)) (cs.getD j undef) p
def U7(G:Gh)(w:World)(b:Nat)(c:Tag)(n:Nat):Prop:=
 G.ω b=some c/\(∀x,¬G.I b x)/\∃cs a,w.heap[b]?=some (.cells cs a (0,0))/\cs.size=n
def Qg(G:Gh)(w:World)(r:Nat)(c:Tag)(b:List Ky):Prop:=
 G.ω r=some c/\(∀x,¬G.I r x)/\∃es a,w.heap[r]?=some (.map es a)/\(∀(i:Nat) (e:MapEntry),es[i]?=some e->∃k∈b,e.key=k.val)/\
  (∀(i j:Nat) (e f:MapEntry),es[i]?=some e->es[j]?=some f->e.key=f.key->i=j)
def Qd(G:Gh)(w:World)(r:Nat)(b:Tag)(k:Ky)(v:PV):Prop:=
 G.ω r=some b/\∃(es:Array MapEntry) (a i:Nat) (e:MapEntry),w.heap[r]?=some (.map es a)/\es[i]?=some e/\e.key=k.val/\Rep G.I w e.val v
def at'(a:Act)(t:Nat):Value:=a.tmps.getD t undef
def Ei(cx:Cx)(G:Gh)(a:Act)(w:World)(t:Nat)(v:PV):Prop:=
 match cx.kd t with
 |.box=>∃b,at' a t=.pointer (some ⟨b,0,none⟩)/\Gr G w b (.slot t) v.cells
 |.mapb c=>v=.mapb/\∃r,at' a t=.map (some r)/\Qg G w r (.slot t none) c
 |.ent m e=>∃k x f r,v=.tuple [k,x]/\RB k=some f/\at' a m=.map (some r)/\Qd G w r (.slot m none) f x/\f=e
 |_=>match v with
  |.lref d off=>cx.kd d=.box/\cx.al t=some d/\∃b,at' a d=.pointer (some ⟨b,0,none⟩)/\at' a t=.pointer (some (Addr.add ⟨b,0,none⟩ off))
  |.hole n=>∃b,at' a t=.pointer (some ⟨b,0,none⟩)/\U7 G w b (.slot t none) n
  |v=>BF G.I G.bl w (at' a t) v/\EB G w (.slot t none) (at' a t) v
def BOk(G:Gh)(w:World)(b id:Nat)(t e:TypeId)(l:List UInt8):Prop:=
 G.ω b=some (.obj id none)/\(∀x,¬G.I b x)/\∃p v,(p=.pointer none\/p=.pointer (some ⟨b,0,none⟩))/\w.heap[b]?=some (.cells #[p,v] t (0,0))/\
  w.ownsRow 0 e 1 v l.length (l.map λc=>Value.int .u8 c.toNat)/\∀g,v.ownBlock=some g->g≠b/\G.ω g=some (.obj id (some 1))/\∀x,¬G.I g x
def Rw(G:Gh)(w:World)(id gen size:Nat)(es:List PV):Prop:=
 ∃b base n cs a,G.bl.ab id gen=some (b,base,n)/\(∀g,gen<g->G.bl.ab id g=none)/\G.ω b=some (.obj id none)/\(∀x,¬G.I b x)/\
  w.heap[b]?=some (.cells cs a (0,0))/\cs.size=n/\0<size/\base+es.length * size<=n/\
  ∀(i:Nat) (e:PV),es[i]?=some e->e.cells.length=size/\∀(j:Nat) (p:PV),e.cells[j]?=some p->BF G.I G.bl w (cs.getD (base+i * size+j) undef) p
def Ot(G:Gh)(w:World)(b id:Nat)(d:KD)(ks:List Kx)(vs:List PV):Prop:=
 G.ω b=some (.obj id none)/\(∀x,¬G.I b x)/\(vs.length=ks.length/\ks.all (J9 d)=true)/\∃es:Array MapEntry,w.heap[b]?=some (.map es es.size)/\es.size=ks.length/\
  ∀(j:Nat) (e:MapEntry),es[j]?=some e->e.born=j/\(ks[j]?).map Kx.val=some e.key/\∀p,vs[j]?=some p->BF G.I G.bl w e.val p
def Jp(G:Gh)(w:World)(id:Nat)(cs:List PV):Prop:=
 ∃b,G.bl.l[id]?=some b/\(Gr G w b (.obj id) cs\/(∃t e l,cs=[.bld t e l]/\BOk G w b id t e l)\/cs=[.dead] \/
  (∃gen size es,cs=[.arrv gen size es]/\Rw G w id gen size es)\/∃d z ks vs,cs=[.mapo d z ks vs]/\Ot G w b id d ks vs)
structure Inv(cx:Cx)(G:Gh)(a:Act)(w:World)(A:Frm)(σ:Sto):Prop where
 defers:a.defers=cx.ds
 size:a.tmps.size=cx.nt
 room:cx.nt<=A.length
 base:Base cx G w
 slot:∀t v,A.get t=some v->Ei cx G a w t v
 obj:∀(id:Nat) (cs:List PV),σ[id]?=some cs->Jp G w id cs
 len:G.bl.l.length=σ.length
 abl:∀id g a,G.bl.ab id g=some a->id<σ.length
def Sim(cx:Cx)(a:Act)(w:World)(A:Frm)(b:Sto):Prop:=∃G,Inv cx G a w A b
structure Ext(X:Tag->Prop)(G G':Gh)(w w':World):Prop where
 I:∀b x,G.I b x->G'.I b x
 same:Same G.I w w'
 bl:G.bl.le G'.bl
 ab:∀id,id<G.bl.l.length->(∀j,¬X (.obj id j))->∀g,G'.bl.ab id g=G.bl.ab id g
 fix:∀b tag,G.ω b=some tag->¬X tag->G'.ω b=some tag/\w'.heap[b]?=w.heap[b]?/\∀x,G'.I b x->G.I b x
def Ext.refl(X:Tag->Prop)(G:Gh)(w:World):Ext X G G w w:=
 ⟨by simp,Same.refl _ _,Bl.le_refl _,by simp,λ_ _ h _=>⟨h,rfl,by simp⟩⟩
def EB.ext{X:Tag->Prop}{G G':Gh}{w g:World}(h:Ext X G G' w g){a:Tag}(q:¬X a){c:Value}{p:PV}(e:EB G w a c p):EB G' g a c p:=by
 unfold EB ;split
 ·obtain⟨b,off,cap,cs,d,rfl,f,j,n,s,k,r,l⟩:=e
  let ⟨m,_,i⟩:=h.fix b _ f q
  exact⟨b,_,_,_,d,rfl,m,λhi=>j (i _ hi),λo e hi=>n o e (i _ hi),by grind,k,r,l⟩
 ·trivial
def Nz.ext{X:Tag->Prop}{G G':Gh}{w e:World}(h:Ext X G G' w e){b:Nat}{a:Tag}(g:¬X a){c:Value}{p:PV}(f:Nz G w b a c p):Nz G' e b a c p:=by
 rcases f with⟨d,i⟩ | d
 ·exact .inl ⟨d.mono h.I h.same h.bl,i.ext h g⟩
 ·exact .inr d
def Nz.rep{G:Gh}{w:World}{b:Nat}{a:Tag}{c:Value}{p:PV}(d:Nz G w b a c p)(e:p≠.self):BF G.I G.bl w c p/\EB G w a c p:=by
 rcases d with h | ⟨h,_⟩
 ·exact h
 grind
def Gr.ext{X:Tag->Prop}{G G':Gh}{w g:World}(h:Ext X G G' w g){b:Nat}{c:Option Nat->Tag}(f:∀j,¬X (c j)){a:List PV}(k:Gr G w b c a):Gr G' g b c a:=by
 let ⟨e,i,_,d,_,l,q⟩:=k
 let ⟨m,_,n⟩:=h.fix b _ e (f _)
 exact⟨m,λx hi=>i x (n x hi),_,d,by grind,l,λj p o=>(q j p o).ext h (f _)⟩
def U7.ext{X:Tag->Prop}{G G':Gh}{w e:World}(h:Ext X G G' w e){b:Nat}{a:Tag}(k:¬X a){n:Nat}(l:U7 G w b a n):U7 G' e b a n:=by
 let ⟨d,f,_,c,_,g⟩:=l
 let ⟨i,_,j⟩:=h.fix b _ d k
 exact⟨i,λx hi=>f x (j x hi),_,c,by grind,g⟩
def Qg.ext{X:Tag->Prop}{G G':Gh}{w e:World}(h:Ext X G G' w e){r:Nat}{c:Tag}(l:¬X c){a:List Ky}(i:Qg G w r c a):Qg G' e r c a:=by
 let ⟨d,f,_,b,_,g,m⟩:=i
 let ⟨j,_,k⟩:=h.fix r _ d l
 exact⟨j,λx hi=>f x (k x hi),_,b,by grind,g,m⟩
def Qd.ext{X:Tag->Prop}{G G':Gh}{w d:World}(h:Ext X G G' w d){r:Nat}{a:Tag}(n:¬X a){k:Ky}{v:PV}(l:Qd G w r a k v):Qd G' d r a k v:=by
 let ⟨c,es,b,i,e,_,g,f,j⟩:=l
 let ⟨m,_,_⟩:=h.fix r _ c n
 exact⟨m,_,b,i,e,by grind,g,f,j.mono h.I h.same⟩
def Ei.ext{X:Tag->Prop}{cx:Cx}{G G':Gh}{a a':Act}{w p:World}(h:Ext X G G' w p){t:Nat}(l:∀j,¬X (.slot t j)){v:PV}
  (z:at' a' t=at' a t) (D:∀d off,v=.lref d off->cx.kd d=.box->at' a' d=at' a d)
  (B:∀m,(∃i,cx.kd t=.ent m i)->at' a' m=at' a m/\¬X (.slot m none)) (c:Ei cx G a w t v):Ei cx G' a' p t v:=by
 unfold Ei at *;rw[z];cases g:cx.kd t with
 |box=>
  rw[g] at c;obtain⟨b,e,f⟩:=c;exact⟨b,e,f.ext h l⟩
 |mapb q=>
  rw[g] at c;obtain⟨o,r,e,f⟩:=c;exact⟨o,r,e,f.ext h (l _)⟩
 |ent m i=>
  rw[g] at c;obtain⟨k,x,C,r,o,e,f,A,s⟩:=c;obtain⟨y,u⟩:=B m ⟨_,g⟩;exact⟨k,x,C,r,o,e,by rw[y];exact f,A.ext h u,s⟩
 |_=>
  rw[g] at c;dsimp only at c ⊢;split
  ·grind
  ·rename_i n;obtain⟨b,e,f⟩:=c;exact⟨b,e,f.ext h (l _)⟩
  ·rename_i v e f
   split at c
   ·grind
   ·grind
   ·exact⟨c.1.mono h.I h.same h.bl,c.2.ext h (l _)⟩
def BOk.ext{X:Tag->Prop}{G G':Gh}{w f:World}(h:Ext X G G' w f){b id:Nat}(c:∀j,¬X (.obj id j)){t e:TypeId}{l:List UInt8}(y:BOk G w b id t e l):BOk G' f b id t e l:=by
 let ⟨m,u,p,v,z,F,i,d⟩:=y
 let ⟨s,H,A⟩:=h.fix b _ m (c _)
 refine⟨s,λx q=>u x (A x q),p,v,z,by grind,?_,λg k=>?_⟩
 ·refine⟨i.1,?_⟩
  rcases i.2 with h | ⟨g,cap,B,n,K,k,r⟩
  ·exact .inl h
  ·subst n;obtain⟨_,a,_⟩:=d g rfl
   let ⟨_,I,_⟩:=h.fix g _ a (c _)
   grind
 ·obtain⟨D,o,C⟩:=d g k
  let ⟨J,_,E⟩:=h.fix g _ o (c _)
  grind
def Rw.ext{X:Tag->Prop}{G G':Gh}{w d:World}(h:Ext X G G' w d){id gen size:Nat}(u:id<G.bl.l.length)(k:∀j,¬X (.obj id j)){es:List PV}(t:Rw G w id gen size es):Rw G' d id gen size es:=by
 let ⟨b,_,n,cs,a,l,z,C,v,_,o,B,r,c⟩:=t
 let ⟨y,_,A⟩:=h.fix b _ C (k _)
 exact⟨b,_,n,_,a,h.bl.2 _ _ _ l,λg m=>(h.ab _ u k g).trans (z g m),y,λx s=>v x (A x s),by grind,o,B,r,
  λi e f=>⟨(c i e f).1,λj p q=>((c i e f).2 j p q).mono h.I h.same h.bl⟩⟩
def Ot.ext{X:Tag->Prop}{G G':Gh}{w g:World}(h:Ext X G G' w g){b id:Nat}(r:∀j,¬X (.obj id j)){d:KD}{ks:List Kx}{vs:List PV}(l:Ot G w b id d ks vs):Ot G' g b id d ks vs:=by
 let ⟨a,i,o,_,_,k,c⟩:=l
 let ⟨n,_,q⟩:=h.fix b _ a (r _)
 exact⟨n,λx hi=>i x (q x hi),o,_,by grind,k,λj e f=>⟨(c j e f).1,(c j e f).2.1,λp m=>((c j e f).2.2 p m).mono h.I h.same h.bl⟩⟩
def Jp.ext{X:Tag->Prop}{G G':Gh}{w f:World}(h:Ext X G G' w f){id:Nat}(c:∀j,¬X (.obj id j)){cs:List PV}(i:Jp G w id cs):Jp G' f id cs:=by
 let ⟨b,g,a⟩:=i
 let ⟨r,k⟩:=h.bl.1
 refine⟨b,?_,?_⟩
 ·grind
 ·rcases a with a | ⟨t,e,l,rfl,a⟩ | a | ⟨gen,size,es,rfl,a⟩ | ⟨d,z,ks,vs,rfl,a⟩
  ·exact .inl (a.ext h c)
  ·exact .inr (.inl ⟨t,e,l,rfl,a.ext h c⟩)
  ·grind
  ·exact .inr (.inr (.inr (.inl ⟨_,_,_,rfl,a.ext h ((Ad.1 g).1) c⟩)))
  ·exact .inr (.inr (.inr (.inr ⟨d,z,ks,_,rfl,a.ext h c⟩)))
def GI(a:Act)(d:Option Nat)(v:Value)(t:Nat)(h:d≠some t):at' (a.put d v) t=at' a t:=by
 cases d with
 |none=>rfl
 |some d=>
  simp  [at',Act.put,Ao,DK λe=>h _]
def Gc(a:Act)(d:Nat)(v:Value)(h:d<a.tmps.size):at' (a.put (some d) v) d=v:=by
 simp[at',Act.put,h]
def Dp(A:Frm)(t:Nat)(v:Option PV)(s:Nat):Frm.get (A.set t v) s=if s=t/\t<A.length then v else A.get s:=by
 unfold Frm.get
 grind
def Inv.forget{cx:Cx}{G:Gh}{a:Act}{w:World}{A A':Frm}{b:Sto}(h:Inv cx G a w A b)(c:A'.length=A.length)(e:∀t v,A'.get t=some v->A.get t=some v):Inv cx G a w A' b:=
 ⟨h.defers,h.size,by rw[c];exact h.room,h.base,λt v d=>h.slot t v (e t v d),h.obj,h.len,h.abl⟩
structure BW2(cx:Cx)(X:Tag->Prop)(dst:Option Nat)(t:Nat)(p:PV):Prop where
 ne:dst≠some t
 tag:∀j,¬X (.slot t j)
 lref:∀d off,p=.lref d off->cx.kd d=.box->dst≠some d
 ent:∀m,(∃key,cx.kd t=.ent m key)->dst≠some m/\¬X (.slot m none)
def Inv.step{cx:Cx}{G G':Gh}{a:Act}{w n:World}{A A':Frm}{s c:Sto}(X:Tag->Prop)(h:Inv cx G a w A s)(b:Option Nat)(v:Value)
  (u:Ext X G G' w n) (x:Base cx G' n) (y:A'.length=A.length)
  (q:∀t p,A'.get t=some p->(A.get t=some p/\BW2 cx X b t p)\/Ei cx G' (a.put b v) n t p)
  (r:∀(id:Nat) (cs:List PV),c[id]?=some cs->(s[id]?=some cs/\∀j,¬X (.obj id j))\/Jp G' n id cs)
  (l:G'.bl.l.length=c.length) (o:∀id g a,G'.bl.ab id g=some a->id<c.length):Inv cx G' (a.put b v) n A' c:=by
 refine⟨?_,?_,by rw[y];exact h.room,x,?_,?_,l,o⟩
 ·cases b<;>exact h.defers
 ·rw[<-h.size];cases b<;>simp[Act.put]
 ·intro t p B;rcases q t p B with⟨f,i⟩ | f
  ·exact(h.slot t p f).ext u i.tag (GI _ _ _ _ i.ne) (λd off e k=>GI _ _ _ _ (i.lref d _ e k))
    (λm e=>⟨GI _ _ _ _ (i.ent m e).1,(i.ent m e).2⟩)
  ·exact f
 ·intro id cs z;rcases r _ _ z with⟨f,i⟩ | f
  ·exact(h.obj _ _ f).ext u i
  ·exact f
end Go.Abs

namespace Go.Abs
structure FI where
 kd:List SK
 al:List (Nat×Nat)
 keep:List Bool
 nt:Nat
 ps:List (Nat×Nat×Nat)
 bt:Option (TypeId×TypeId)
 md:List (Nat×Nat×Nat)
def FI.kind(fi:FI)(t:Nat):SK:=fi.kd.getD t .plain
def FI.alias(fi:FI)(t:Nat):Option Nat:=(fi.al.find? (·.1==t)).map (·.2)
def FI.mode(fi:FI)(id j:Nat):Nat:=((fi.md.find? λx=>x.1==id&&x.2.1==j).map (·.2.2)).getD 0
def FI.LB(fi:FI)(m:Nat):List Nat:=(List.range fi.kd.length).filter λt=>match fi.kind t with | .ent a _=>a==m | _=>false
def FI.ptrs(fi:FI)(d:Nat):List Nat:=(fi.al.filter (·.2==d)).map (·.1)
structure RG where
 ps:Option Nat
 src:List Nat
 dst:List Nat
 md:Nat
def _root_.Go.TypeDesc.isInt:TypeDesc->Bool
 |.int _=>true
 |_=>false
def xz:TypeDesc->Bool
 |.struct _ | .array _ _=>true
 |_=>false
def Hg(fi:FI):Operand->Option CW
 |.tmp t=>match fi.kind t with
  |.plain | .imm | .obj=>if t<fi.nt then some (.slot t) else none
  |_=>none
 |.const v=>(Ra v).map .val
 |.func f=>some (.val (.func f [] []))
 |.global _=>none
def Ar(fi:FI):List Operand->Option (List CW)
 |[]=>some []
 |x::xs=>match Hg fi x,Ar fi xs with
  |some a,some c=>some (a::c)
  |_,_=>none
def Cy(P:Program)(t:TypeId):Option (Nat×Bool):=
 match P.info? t,P.underlying t with
 |some i,some d=>some (i.size,xz d)
 |_,_=>none
def F4(P:Program)(t:TypeId):Option PV:=
 match P.info? t with
 |some i=>i.zero.bind Ra
 |none=>none
def PH:Nat->List (Nat×Operand)->Bool
 |_,[]=>true
 |n,(i,_)::r=>i==n&&PH (n+1) r
def KC(a:List (Nat×Nat)):List (Nat×Operand)->Option (List (Nat×Nat))
 |[]=>some []
 |(i,_)::r=>match a[i]?,KC a r with
  |some p,some ps=>some (p::ps)
  |_,_=>none
def Dn(fi:FI)(t:Nat):Bool:=decide (t<fi.nt)&&(match fi.kind t with | .plain=>true | _=>false)
def BK(fi:FI)(d:Option Nat):Bool:=match d with | some t=>Dn fi t | none=>true
def mk(fi:FI)(d:Option Nat)(k:AK)(args:Option (List CW))(ex:List Nat:=[]):Option AOp:=
 if BK fi d&&ex.all (Dn fi)&&ex.all (λt=>d != some t) then args.map λb=>{ dst:=d,k,args:=b,ex } else none
def MF(P:Program)(t:TypeId):Option Nat:=match P.underlying t with
 |some (.int _)=>some 0
 |some .bool=>some 1
 |some .string=>some 2
 |_=>none
def Lx(P:Program):Nat->List Field->Option (List Nat)
 |_,[]=>some []
 |i,f::fs=>match MF P f.type,Lx P (i+1) fs with
  |some k,some ks=>if f.name != "_" && f.offset==i then some (k::ks) else none
  |_,_=>none
def Nq(P:Program)(t:TypeId):Option (List Nat):=if P.stoodInHeld t||P.eqGuardType P.depth t then none else match P.underlying t with
 |some (.struct fs)=>Lx P 0 fs.toList
 |some (.array n e)=>(if P.cellsOf e=1 then MF P e else none).map (List.replicate n)
 |_=>none
def Z8(P:Program):List Field->Option (List IntKind)
 |[]=>some []
 |f::fs=>match P.underlying f.type,Z8 P fs with
  |some (.int k),some ks=>some (k::ks)
  |_,_=>none
def N7(P:Program)(t:TypeId):Option KD:=match P.underlying t with
 |some (.int k)=>some (.i k)
 |some .string=>some .s
 |some (.struct fs)=>match Nq P t,Z8 P fs.toList with
  |some _,some ks=>some (.a ks)
  |_,_=>none
 |_=>none
def Cu(P:Program)(pur:FuncId->Bool)(fi:FI)(h:RG)(o:Oper):Option AOp:=
 let d:=o.dst
 match o.op with
 |.move x=>if h.md=2 then mk fi d (.w .frz) (Ar fi [x]) else match x,d with
  |.tmp s,some t=>match fi.kind s with
   |.mapb j=>if Dn fi t/\s<fi.nt then some { dst:=d,k:=.p (.mvb j),args:=.slot s::(fi.LB s).map .slot,ex:=[s],clr:=fi.LB s } else none
   |_=>if h.src.contains t then mk fi d (.p .mvo) (Ar fi [x]) [s] else mk fi d (.p .mv) (Ar fi [x])
  |_,_=>mk fi d (.p .mv) (Ar fi [x])
 |.assign x=>match x with
  |.tmp s=>if h.dst.contains s then mk fi d (.p .mvo) (Ar fi [x]) [s] else mk fi d (.p .mv) (Ar fi [x])
  |_=>mk fi d (.p .mv) (Ar fi [x])
 |.pick c a b=>mk fi d (.p .pick) (Ar fi [c,a,b])
 |.box t x=>match d,Cy P t with
  |some s,some _=>if fi.nt<=s then none else match fi.kind s with
   |.box=>(Ar fi [x]).map λg=>{ dst:=d,k:=.p .bxl,args:=g,clr:=fi.ptrs s }
   |.imm=>(Ar fi [x]).map λg=>{ dst:=d,k:=.p .bx,args:=g }
   |.obj=>(Ar fi [x]).map λg=>{ dst:=d,k:=.w .bxO,args:=g }
   |_=>none
  |_,_=>none
 |.alloc t=>match d,Cy P t,F4 P t with
  |some s,some (n,_),some z=>if fi.nt<=s then none else match fi.kind s with
   |.box=>some { dst:=d,k:=.p (.zl z),args:=[],clr:=fi.ptrs s }
   |.imm=>if z.cells.length=n then some { dst:=d,k:=.p (.zi n),args:=[] } else none
   |.obj=>match fi.bt with
    |some (F,G)=>if F=t then(match z with | .agg [.nilp,.nils]=>some { dst:=d,k:=.w (.alB t G),args:=[] } | _=>none) else some { dst:=d,k:=.w (.alO z.cells),args:=[] }
    |none=>some { dst:=d,k:=.w (.alO z.cells),args:=[] }
   |_=>none
  |_,_,_=>none
 |.build t ps=>match P.underlying t,F4 P t with
  |some (.struct fs),some (.agg z)=>match fs.toList.mapM (λf=>(P.info? f.type).map λi=>(f.offset,i.size)) with
   |some A=>match KC A ps.toList with
    |some H=>mk fi d (.p (.build z H)) (Ar fi (ps.toList.map (·.2)))
    |none=>none
   |none=>none
  |_,_=>none
 |.buildSlice t n ps=>if h.md=5 then(match P.underlying t with
  |some (.slice e)=>match Cy P e with
   |some _=>if n=0/\ps=#[] then mk fi d (.p .bse) (some []) else none
   |none=>none
  |_=>none) else match P.underlying t with
  |some (.slice e)=>match Cy P e with
   |some (size,_)=>if PH 0 ps.toList&&ps.size==n&&decide (n<=1000)&&decide (0<size)&&decide (size<=100)&&(P.info? e).any (·.zero.isSome) then mk fi d (.p (.bsl size)) (Ar fi (ps.toList.map (·.2))) else none
   |none=>none
  |_=>none
 |.load t x=>match Cy P t with
  |some (n,ag)=>match x with
   |.tmp s=>if fi.nt<=s then none else match fi.kind s with
    |.box=>if 10<=h.md then(if BK fi d&&d.isSome&&ag then some { dst:=d,k:=.w (.ldz n (h.md - 10)),args:=[.slot s],ex:=[s] } else none) else mk fi d (.p (.ldl 0 n ag)) (some [.slot s])
    |_=>match fi.alias s with
     |some b=>if fi.kind b=.box then
       (if !ag&&(match d with | some t=>h.src.contains t | none=>false) then(if BK fi d then some { dst:=d,k:=.p (.ldfo b),args:=[.slot s,.slot b],ex:=[b] } else none)
       else mk fi d (.p (.ldf b n ag)) (some [.slot s,.slot b])) else none
     |none=>if !ag&&(match d with | some t=>h.src.contains t | none=>false) then mk fi d (.w .ldo) (Ar fi [x])
      else if h.md=3 then mk fi d (.p (.ldp n ag)) (Ar fi [x]) else if n=0 then none else mk fi d (.r (.ld n ag)) (Ar fi [x])
   |_=>none
  |none=>none
 |.store t a x=>match Cy P t,a,d with
  |some (n,_),.tmp s,none=>if fi.nt<=s then none else match fi.kind s with
   |.box=>(Ar fi [x]).map λg=>{ dst:=none,k:=.p (.stl 0 n),args:=.slot s::g,ex:=[s] }
   |.imm=>(Ar fi [x]).map λg=>{ dst:=none,k:=.p (.sti n),args:=.slot s::g,ex:=[s] }
   |_=>match fi.alias s with
    |some b=>if fi.kind b=.box then(match x with
      |.tmp u=>if h.dst.contains u&&Dn fi u&&n==1 then some { dst:=none,k:=.p (.stfo b),args:=[.slot s,.slot b,.slot u],ex:=[b,u] }
       else(Ar fi [x]).map λg=>{ dst:=none,k:=.p (.stf b n),args:=.slot s::.slot b::g,ex:=[b] }
      |_=>(Ar fi [x]).map λg=>{ dst:=none,k:=.p (.stf b n),args:=.slot s::.slot b::g,ex:=[b] }) else none
    |none=>match x with
     |.tmp u=>if h.dst.contains u&&Dn fi u&&n==1 then some { dst:=none,k:=.w .sto,args:=[.slot s,.slot u],ex:=[u] }
      else(Ar fi [x]).map λg=>{ dst:=none,k:=.w (.st n),args:=.slot s::g }
     |_=>(Ar fi [x]).map λg=>{ dst:=none,k:=.w (.st n),args:=.slot s::g }
  |_,_,_=>none
 |.nilCheck x=>mk fi d (.p .chk) (Ar fi [x])
 |.binOp C t x y _=>match P.underlying t with
  |some (.int _) | some .string=>mk fi d (.p (.bin C 0)) (Ar fi [x,y])
  |some .bool=>mk fi d (.p (.bin C 1)) (Ar fi [x,y])
  |some (.func _ _ _)=>mk fi d (.p (.bin C 2)) (Ar fi [x,y])
  |some (.slice _)=>match C with
   |.eql=>mk fi d (.p (.snil false)) (Ar fi [x,y])
   |.neq=>mk fi d (.p (.snil true)) (Ar fi [x,y])
   |_=>mk fi d (.p .no) (some [])
  |_=>match Nq P t with
   |some ts=>match C with
    |.eql=>mk fi d (.p (.aeq false ts)) (Ar fi [x,y])
    |.neq=>mk fi d (.p (.aeq true ts)) (Ar fi [x,y])
    |_=>mk fi d (.p .no) (some [])
   |none=>mk fi d (.p .no) (some [])
 |.unOp .not _ x=>mk fi d (.p .not) (Ar fi [x])
 |.convert s t x=>match P.underlying s,P.underlying t with
  |some (.int _),some (.int k)=>mk fi d (.p (.cvt k)) (Ar fi [x])
  |some .string,some (.slice e)=>match P.underlying e,Cy P e with
   |some (.int .u8),some (1,_)=>mk fi d (.p .cvb) (Ar fi [x])
   |_,_=>none
  |some (.slice _),some (.slice e)=>match P.underlying e,x,d with
   |some (.int .u8),.tmp u,some _=>if s=t then mk fi d (.p .cvi) (Ar fi [.tmp u]) [u] else none
   |_,_,_=>none
  |_,_=>none
 |.makeFunc (.func f) r cap=>mk fi d (.p (.mkf f r.size)) (Ar fi (r.toList++cap.toList))
 |.makeMap t none=>match d,P.underlying t with
  |some s,some (.map w e)=>match fi.kind s with
   |.plain=>match N7 P w,F4 P e with
    |some kd,some z=>mk fi d (.w (.mkM z kd)) (some [])
    |_,_=>none
   |.mapb _=>if s<fi.nt then some { dst:=d,k:=.p .mkm,args:=[],clr:=fi.LB s } else none
   |_=>none
  |_,_=>none
 |.mapUpdate t m k x=>match P.underlying t with
  |some (.map w _)=>match N7 P w,d with
   |some kd,none=>mk fi d (.w (.upM kd)) (Ar fi [m,k,x])
   |_,_=>none
  |_=>none
 |.mapEntry t m k=>match P.underlying t with
  |some (.map w e)=>match N7 P w,F4 P e with
   |some kd,some z=>mk fi d (.w (.enM z kd)) (Ar fi [m,k])
   |_,_=>none
  |_=>none
 |.entryStore _ m i x=>match d with
  |none=>mk fi d (.w .esM) (Ar fi [m,i,x])
  |some _=>none
 |.insert t (.tmp m) k x=>match P.underlying t,fi.kind m,h.ps,d with
  |some (.map w _),.mapb j,some s,none=>match P.underlying w,fi.kind s with
   |some (.int _),.ent D v=>if v.isInt=true/\m=D/\m<fi.nt/\fi.nt<=s then(Ar fi [k,x]).map λg=>{ dst:=none,k:=.p (.ins v j),args:=.slot m::g,ex:=[s] } else none
   |some .string,.ent D v=>if v.isInt=false/\m=D/\m<fi.nt/\fi.nt<=s then(Ar fi [k,x]).map λg=>{ dst:=none,k:=.p (.ins v j),args:=.slot m::g,ex:=[s] } else none
   |_,_=>none
  |some (.map w _),.plain,_,none=>match N7 P w with
   |some kd=>mk fi d (.w (.upM kd)) (Ar fi [.tmp m,k,x])
   |none=>none
  |_,_,_,_=>none
 |.lookup t x i ok=>if h.md=6 then(match P.underlying t with
  |some (.map k e)=>match N7 P k,F4 P e with
   |some kd,some z=>mk fi d (.r (.lkM z ok kd)) (Ar fi [x,i])
   |_,_=>none
  |_=>none) else match P.underlying t with
  |some (.map k e)=>match P.underlying k,F4 P e with
   |some (.int _),some z=>mk fi d (.p (.look z ok true)) (Ar fi [x,i])
   |some .string,some z=>mk fi d (.p (.look z ok false)) (Ar fi [x,i])
   |_,_=>none
  |_=>none
 |.indexAddr t x i=>match P.underlying t with
  |some (.slice e)=>match Cy P e with
   |some (size,_)=>if 0<size then mk fi d (.p (.idx size)) (Ar fi [x,i]) else none
   |none=>none
  |some (.array n e)=>match Cy P e with
   |some (size,ag)=>if size=0 then none else match x,d with
    |.tmp s,some u=>if fi.nt<=s then none else match fi.kind s with
     |.box=>if fi.alias u=some s then mk fi d (.p (.ixl s n size)) ((Ar fi [i]).map λg=>.slot s::g) else none
     |_=>match fi.alias s with
      |some b=>if fi.alias u=some b/\fi.kind b=.box then mk fi d (.p (.ixa n size ag)) ((Ar fi [i]).map λg=>.slot s::g) else none
      |none=>mk fi d (.p (.ixa n size ag)) ((Ar fi [i]).map λg=>.slot s::g)
    |_,_=>none
   |none=>none
  |_=>none
 |.index t x i=>match P.underlying t with
  |some .string=>mk fi d (.p .sidx) (Ar fi [x,i])
  |_=>none
 |.slice t x none (some (.const (.int _ p))) (some (.const (.int _ q)))=>if p=0/\q=0 then(match P.underlying t with
   |some (.slice e)=>match Cy P e with
    |some _=>mk fi d (.p .cut0) (Ar fi [x])
    |none=>none
   |_=>none) else none
 |.makeSlice t l c=>match P.underlying t,d with
  |some (.slice e),some _=>match P.info? e,F4 P e with
   |some i,some z=>if 0<i.size/\i.bytes<=4096/\z.cells.length=i.size then mk fi d (.w (.mks i.size z)) (Ar fi [l,c]) else none
   |_,_=>none
  |_,_=>none
 |.slice t x lo hi none=>match P.underlying t with
  |some .string=>match Ar fi (x::(lo.toList++hi.toList)) with
   |some g=>mk fi d (.p (.ssl lo.isSome hi.isSome)) (some g)
   |none=>none
  |some (.slice e)=>match Cy P e,Ar fi (x::(lo.toList++hi.toList)) with
   |some (size,_),some g=>if 0<size then mk fi d (.p (.vsl size lo.isSome hi.isSome)) (some g) else none
   |_,_=>none
  |_=>none
 |.fieldAddr t x f=>match P.underlying t with
  |some (.struct fs)=>match fs[f]? with
   |some B=>match Cy P B.type with
    |some (n,ag)=>if n=0 then none else match x,d with
     |.tmp s,some u=>if fi.nt<=s then none else match fi.kind s with
      |.box=>if fi.alias u=some s then mk fi d (.p (.fal s B.offset)) (some [.slot s]) else none
      |_=>match fi.alias s with
       |some b=>if fi.alias u=some b/\fi.kind b=.box then mk fi d (.p (.fa B.offset n ag)) (some [.slot s]) else none
       |none=>mk fi d (.p (.fa B.offset n ag)) (some [.slot s])
     |_,_=>none
    |none=>none
   |none=>none
  |_=>none
 |.field t x f=>match P.underlying t with
  |some (.struct fs)=>match fs[f]? with
   |some B=>match Cy P B.type with
    |some (n,ag)=>mk fi d (.p (.fld B.offset n ag)) (Ar fi [x])
    |none=>none
   |none=>none
  |_=>none
 |.extract x i=>mk fi d (.p (.ext i)) (Ar fi [x])
 |.call c=>match c.callee with
  |.value (.func f)=>if pur f then mk fi d (.c f) (Ar fi c.args.toList) else if h.md=4/\d.isSome=true then mk fi d (.w (.callz f)) (Ar fi c.args.toList) else mk fi d (.w (.call f)) (Ar fi c.args.toList)
  |.value x=>mk fi d (.w .DC) (Ar fi (x::c.args.toList))
  |.builtin .len=>match c.argTypes.toList.map P.underlying with
   |[some .string]=>mk fi d (.p (.len true)) (Ar fi c.args.toList)
   |[some (.slice _)]=>mk fi d (.p (.len false)) (Ar fi c.args.toList)
   |[some (.map _ _)]=>mk fi d (.r .lnM) (Ar fi c.args.toList)
   |_=>none
  |.builtin .cap=>match c.argTypes.toList.map P.underlying with
   |[some (.slice _)]=>mk fi d (.p .cap0) (Ar fi c.args.toList)
   |_=>none
  |.builtin .append=>if h.md=1 then(match c.argTypes.toList,c.args.toList,d with
   |[s,x],[y,z],some _=>match P.underlying s,P.underlying x with
    |some (.slice e),some (.slice _)=>match P.info? e with
     |some i=>if 0<i.size/\i.bytes<=4096/\(i.zero.map (·.cells.size))=some i.size then mk fi d (.w (.Gj i.size)) (Ar fi [y,z]) else none
     |none=>none
    |some (.slice e),some (.int _)=>match P.info? e,F4 P e with
     |some i,some E=>if 0<i.size/\i.bytes<=4096/\E.cells.length=i.size then mk fi d (.w (.appZ i.size E)) (Ar fi [y,z]) else none
     |_,_=>none
    |_,_=>none
   |_,_,_=>none) else match c.argTypes.toList,c.args.toList,d with
   |[s,x],[.tmp u,y],some _=>match P.underlying s,P.underlying x with
    |some (.slice e),some (.slice _)=>match P.info? e with
     |some i=>if 0<i.size/\i.bytes<=4096/\(i.zero.map (·.cells.size))=some i.size then mk fi d (.p (.app i.size)) (Ar fi [.tmp u,y]) [u] else none
     |none=>none
    |some (.slice e),some .string=>match P.info? e with
     |some i=>if i.size=1/\i.bytes<=4096/\(i.zero.map (·.cells.size))=some i.size then mk fi d (.p (.app i.size)) (Ar fi [.tmp u,y]) [u] else none
     |none=>none
    |_,_=>none
   |_,_,_=>none
  |.builtin .min=>if c.args.size=2 then mk fi d (.p .min) (Ar fi c.args.toList) else none
  |.builtin .max=>if c.args.size=2 then mk fi d (.p .max) (Ar fi c.args.toList) else none
  |_=>none
 |.panic _ | .makeInterface _ _=>mk fi d (.p .no) (some [])
 |_=>none
def NR(P:Program)(pur:FuncId->Bool)(fi:FI)(b:RG)(o:Oper):Option AOp:=
 match Cu P pur fi b o with
 |some a=>some a
 |none=>some { dst:=o.dst,k:=.p .no,args:=[] }
def Mc(fi:FI)(ops:Array Oper):Option (Nat×Bool)->Option (Option (Nat×Bool))
 |none=>some none
 |some (j,b)=>match(ops[j]?).bind (·.dst) with
  |some t=>if Dn fi t then some (some (t,b)) else none
  |none=>none
def aP(fi:FI)(id:Nat):Nat->List Oper->List Nat
 |_,[]=>[]
 |j,o::b=>match o.op with
  |.call { callee:=.builtin .append,args,.. }=>(if fi.mode id j=1 then[] else match(args[0]?:Option Operand) with | some (.tmp u)=>[u] | _=>[])++aP fi id (j+1) b
  |_=>aP fi id (j+1) b
def aR(fi:FI)(id:Nat):Nat->List Oper->List Nat
 |_,[]=>[]
 |j,o::b=>match o.op with
  |.call { callee:=.builtin .append,.. } | .buildSlice _ _ _=>(if fi.mode id j=1 then[] else o.dst.toList)++aR fi id (j+1) b
  |_=>aR fi id (j+1) b
def PN(P:Program)(pur:FuncId->Bool)(fi:FI)(id:Nat)(c:RG)(ops:Array Oper):Nat->List Oper->Option (List AOp)
 |_,[]=>some []
 |j,o::e=>match NR P pur fi { c with ps:=((fi.ps.find? λx=>x.1==id&&x.2.1==j).map (·.2.2)),md:=fi.mode id j } o,Mc fi ops o.guard,PN P pur fi id c ops (j+1) e with
  |some a,some g,some d=>if g.isSome/\(a.ex≠[]\/a.clr≠[]\/BK fi a.dst=false) then none else some ({ a with guard:=g }::d)
  |_,_,_=>none
def XJ(b:List Nat)(o:Oper):Nat:=
 o.after.foldl (λs e=>if Region.binds .any e then s ||| 2 ^ e.on ||| b.getD e.on 0 else s) 0
def aV:List Nat->List Oper->List Nat
 |a,[]=>a
 |a,o::c=>aV (a++[XJ a o]) c
def isW:AK->Bool
 |.w _=>true
 |.r .lnM | .r (.lkM _ true _)=>true
 |_=>false
def isH:AK->Bool
 |.w .ldo | .w (.enM _ _)=>false
 |.w _=>true
 |_=>false
def isP:AK->Bool
 |.p _ | .c _=>true
 |_=>false
def NQ(a b:List Nat):Bool:=a.all λt=>!b.contains t
def aU(x y:AOp):Bool:=
 NQ x.wr y.rd&&NQ y.wr x.rd&&NQ x.wr y.wr&&(!isW x.k||isP y.k||(!isH x.k&&!isW y.k))&&(!isW y.k||isP x.k||(!isH y.k&&!isW x.k))
def R3(bits:List Nat)(b:List AOp):Nat->Bool
 |0=>true
 |j+1=>R3 bits b j&&(List.range j).all λi=>(bits.getD j 0).testBit i||aU (b.getD i default) (b.getD j default)
def Sg(ops:List Oper):Nat->Bool
 |0=>true
 |i+1=>Sg ops i&&(match ops[i]? with | some o=>o.after.all λe=>!Region.binds .any e||decide (e.on<i) | none=>true)
def OU(P:Program)(pur:FuncId->Bool)(fi:FI)(id:Nat)(ops:Array Oper)(a:Bool):Option (List AOp):=
 match PN P pur fi id ⟨none,aP fi id 0 ops.toList,aR fi id 0 ops.toList,0⟩ ops 0 ops.toList with
 |some b=>if a then(if Sg ops.toList ops.size&&R3 (aV [] ops.toList) b ops.size then some b else none) else some b
 |none=>none
def comp(P:Program)(pur:FuncId->Bool)(fi:FI):Code->Option De
 |.skip=>some .skip
 |.region id ops f=>(OU P pur fi id ops f).map .region
 |.seq a b=>match comp P pur fi a,comp P pur fi b with
  |some x,some y=>some (.seq x y)
  |_,_=>none
 |.cond c t e=>match Hg fi c,comp P pur fi t,comp P pur fi e with
  |some x,some y,some z=>some (.cond x y z)
  |_,_,_=>none
 |.block id c=>(comp P pur fi c).map (.block id)
 |.loop c=>(comp P pur fi c).map (.loop fi.keep)
 |.exit id=>some (.exit id)
 |.ret=>some .ret
 |_=>none
def Jd(P:Program)(fi:FI):List ResultVar->Option (List (Nat×Option Nat))
 |[]=>some []
 |.tmp t::r=>if Dn fi t then(Jd P fi r).map ((t,none)::·) else none
 |.cell t b::r=>match Cy P b with
  |some (n,true)=>if t<fi.nt/\fi.kind t=.box then(Jd P fi r).map ((t,some n)::·) else none
  |_=>none
def FI.okB(fi:FI):Bool:=(List.range fi.kd.length).all λt=>match fi.kind t with
 |.ent m b=>(match fi.kind m with | .mapb _=>true | _=>false)&&(List.range fi.kd.length).all (λc=>c==t||(match fi.kind c with | .ent d a=>!(decide (d=m)&&decide (a=b)) | _=>true))
 |_=>true
def SK.Nk:SK->Bool
 |.plain | .imm | .obj=>true
 |_=>false
def Md(P:Program)(pur:FuncId->Bool)(fi:FI)(a:Func):Option Ay:=
 match a.body with
 |some c=>match comp P pur fi c,Jd P fi a.results.toList with
  |some b,some d=>if fi.nt≠a.ntmps\/fi.okB=false\/(List.range (a.params.size+a.nfree)).all (λt=>(fi.kind t).Nk)=false then none else some { nargs:=a.params.size+a.nfree,ntmps:=a.ntmps,extra:=fi.ps.length,results:=d,code:=b }
  |_,_=>none
 |none=>none
end Go.Abs
