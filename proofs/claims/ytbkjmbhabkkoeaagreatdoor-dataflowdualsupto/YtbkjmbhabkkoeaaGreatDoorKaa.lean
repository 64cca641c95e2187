/- A part of the proof: A0 A1 A2 A3 A4. -/
import Derived.Lib.ItoaNum
import Derived.OrdersIn
import Derived.Below
import Derived.Lib.Strings
import Derived.WideShapes
import Derived.Laws.AppendOwn

set_option linter.unusedVariables false
set_option linter.unusedSimpArgs false
namespace Go.Abs
def tabs:Nat→Option (Array Value):=fun _=>none
end Go.Abs

namespace Go.Abs
abbrev Ab:=@List.getElem?_eq_some_iff
abbrev Ac:=@Option.map_eq_some_iff
abbrev Ad:=@List.getElem?_eq_getElem
abbrev Ae:=@List.getElem?_append_left
abbrev Af:=@List.getElem?_map
abbrev Ah:=@Array.getD_eq_getD_getElem?
abbrev Aj:=@List.getD_eq_getElem?_getD
abbrev Ak:=@Bool.and_eq_true
abbrev Al:=@List.getElem?_append_right
abbrev Am:=@List.length_map
abbrev Ao:=@List.all_eq_true
abbrev Ap:=@List.getElem?_set_ne
abbrev Av:=@List.mem_cons
abbrev Aw:=@Array.getElem?_toList
abbrev Ay:=@Option.map_some
abbrev Az:=@Array.getElem?_eq_getElem
abbrev AA:=@List.mem_of_getElem?
abbrev AB:=@List.not_mem_nil
abbrev AC:=@List.getElem?_eq_none
abbrev AO:=@Option.bind_eq_some_iff
abbrev AP:=@List.getElem?_set_self
abbrev AQ:=@List.getElem_mem
abbrev AR:=@List.map_cons
abbrev AU:=@Nat.eq_of_beq_eq_true
abbrev AV:=@List.length_append
abbrev Bb:=@List.mem_iff_getElem?
abbrev Bc:=@Nat.zero_add
abbrev Bd:=@Array.getElem?_eq_some_iff
abbrev Be:=@Nat.le_refl
abbrev Bg:=@List.mem_range
abbrev Bh:=@List.map_nil
abbrev Bi:=@List.all_cons
abbrev Bj:=@List.length_take
abbrev Bn:=@Nat.lt_of_lt_of_le
abbrev Bo:=@List.length_set
abbrev Bq:=@List.length_eq_zero_iff
abbrev Bw:=@List.mem_cons_of_mem
abbrev Bv:=@Nat.mul_le_mul_right
abbrev Bz:=@Int.toNat_natCast
abbrev BB:=@List.drop_eq_getElem_cons
abbrev BD:=@List.append_nil
abbrev BC:=@List.take_of_length_le
abbrev BG:=@List.mem_cons_self
abbrev BH:=@List.ext_getElem?
abbrev BI:=@List.length_cons
abbrev BK:=@List.nil_append
abbrev BM:=@Nat.le_trans
abbrev BN:=@List.getElem?_drop
abbrev BP:=@List.append_assoc
abbrev BO:=@List.getElem?_set
abbrev BS:=@Nat.add_mul
abbrev BQ:=@List.getElem?_take
abbrev Ce:=@List.mem_map
abbrev Cc:=@Nat.lt_or_ge
abbrev BZ:=@Array.toList_inj
abbrev Cg:=@List.all_nil
abbrev Ch:=@Array.getElem?_modify
abbrev Cf:=@List.getElem?_zipWith
abbrev Ck:=@List.getElem?_range
abbrev Cn:=@List.foldl_cons
abbrev Co:=@Int.ofNat_eq_natCast
abbrev Cr:=@List.prefix_append
abbrev Cs:=@List.getElem?_replicate
abbrev Cv:=@List.drop_eq_nil_of_le
abbrev CF:=@List.cons_append
abbrev CK:=@Nat.succ_mul
abbrev CB:=@Option.getD_some
abbrev CE:=@List.mem_flatMap
abbrev Cz:=@List.getElem?_toArray
abbrev CL:=@List.size_toArray
abbrev CO:=@List.length_range
abbrev CU:=@Nat.add_assoc
abbrev CS:=@List.drop_zero
abbrev CX:=@List.length_drop
abbrev CZ:=@ByteArray.toList_eq
abbrev CW:=@Option.isSome_iff_exists
abbrev Df:=@Bool.or_eq_true
abbrev De:=@List.length_nil
abbrev Da:=@Array.getElem?_setIfInBounds_ne
abbrev Dn:=@Option.bind_some
abbrev Dv:=@Nat.mul_one
abbrev DI:=@List.mem_filter
abbrev Dx:=@Array.getElem?_eq_none
abbrev Du:=@Nat.ne_of_beq_eq_false
abbrev Dw:=@List.drop_of_length_le
abbrev Dt:=@Array.getElem?_append_left
abbrev DK:=@Nat.le_of_ble_eq_true
abbrev DL:=@List.length_replicate
abbrev DV:=@Int.negSucc_eq
abbrev DJ:=@List.getLast?_eq_getElem?
abbrev DU:=@List.range_eq_range'
abbrev D7:=@Bool.not_true
abbrev D5:=@List.map_congr_left
abbrev D9:=@List.isEmpty_iff
abbrev Ed:=@List.map_append
abbrev Eh:=@Bool.false_or
abbrev Ee:=@List.isEmpty_cons
abbrev Ec:=@List.pairwise_iff_getElem
abbrev Eo:=@List.range'_succ
abbrev El:=@Array.getElem?_push
abbrev Ej:=@List.length_pos_iff
abbrev Eu:=@Array.getElem?_map
abbrev Ew:=@Array.foldl_toList
abbrev Et:=@List.pairwise_cons
abbrev EE:=@Array.size_append
abbrev ED:=@Bool.not_eq_true'
abbrev Ey:=@Nat.div_lt_iff_lt_mul
abbrev ET:=@List.all_map
abbrev Ez:=@List.length_filter_le
abbrev ES:=@Nat.mod_eq_of_lt
abbrev EU:=@Array.size_range
abbrev EA:=@Nat.add_mul_mod_self_right
abbrev Fs:=@Nat.zero_le
abbrev EY:=@List.replicate_succ
abbrev Ff:=@List.all_append
inductive Ky where
 |i (k:IntKind) (n:Int)
 |s (l:List UInt8)
 deriving DecidableEq,Inhabited
def Ky.val:Ky→Value
 |.i k n=>.int k n
 |.s l=>.string ⟨⟨l⟩⟩
inductive Kx where
 |i (k:IntKind) (n:Int)
 |s (l:List UInt8)
 |a (l:List (IntKind×Int))
 deriving DecidableEq,Inhabited
def Kx.val:Kx→Value
 |.i k n=>.int k n
 |.s l=>.string ⟨⟨l⟩⟩
 |.a l=>.agg (l.map fun x=>Value.int x.1 x.2).toArray
inductive KD where
 |i (k:IntKind) | s | a (ks:List IntKind)
 deriving DecidableEq,Inhabited
inductive PV where
 |bool (b:Bool)
 |int (k:IntKind) (n:Int)
 |str (s:List UInt8)
 |nilp
 |vptr (v:PV)
 |ref (id off:Nat)
 |lref (slot off:Nat)
 |hole (n:Nat)
 |nils
 |slice (own:Bool) (size:Nat) (es:List PV)
 |nili
 |self
 |bld (t e:TypeId) (l:List UInt8)
 |dead
 |nilm
 |mapv (ks:List Ky) (vs:List PV)
 |mapb
 |nilf
 |func (f:FuncId) (first cap:List PV)
 |agg (cs:List PV)
 |tuple (vs:List PV)
 |arr (id gen off len size:Nat)
 |aptr (id gen size i off:Nat)
 |arrv (gen size:Nat) (es:List PV)
 |empt
 |aggr (cs:List PV)
 |mref (id:Nat)
 |mapo (d:KD) (z:PV) (ks:List Kx) (vs:List PV)
 |fresh (size n:Nat) (z:PV)
 |itr (mid since:Nat) (seen:List Nat)
 deriving Inhabited
def PV.cells:PV→List PV
 |.agg cs=>cs
 |.aggr cs=>cs
 |v=>[v]
abbrev Imm:=Nat→Option Nat→Prop
structure Same(I:Imm)(w w':World):Prop where
 cell:∀b o,I b (some o)→w'.cell? ⟨b,o,none⟩=w.cell? ⟨b,o,none⟩
 blk:∀b,I b none→w'.heap[b]?=w.heap[b]?
theorem Same.refl(I:Imm)(w:World):Same I w w:=⟨fun _ _ _=>rfl,fun _ _=>rfl⟩
theorem Same.trans{I I':Imm}{a b c:World}(h:Same I a b)(k:Same I' b c)(hI:∀b x,I b x→I' b x):Same I a c:=
 ⟨fun b o h'=>(k.cell b o (hI _ _ h')).trans (h.cell b o h'),fun b h'=>(k.blk b (hI _ _ h')).trans (h.blk b h')⟩
inductive Rep(I:Imm)(w:World):Value→PV→Prop
 |bool (b:Bool):Rep I w (.bool b) (.bool b)
 |int (k:IntKind) (n:Int):Rep I w (.int k n) (.int k n)
 |str (s:ByteArray):Rep I w (.string s) (.str s.data.toList)
 |nilp:Rep I w (.pointer none) .nilp
 |vptr {b off:Nat} {v:PV} (cv:Nat→Value)
   (hI:∀(j:Nat) (p:PV),v.cells[j]?=some p→I b (some (off+j)))
   (hc:∀(j:Nat) (p:PV),v.cells[j]?=some p→w.cell? ⟨b,off+j,none⟩=some (cv j))
   (hr:∀(j:Nat) (p:PV),v.cells[j]?=some p→Rep I w (cv j) p):Rep I w (.pointer (some ⟨b,off,none⟩)) (.vptr v)
 |nils:Rep I w (.slice none 0 0) .nils
 |empt {a:Addr}:Rep I w (.slice (some a) 0 0) .empt
 |slice {a:Addr} {len cap size:Nat} {own:Bool} {es:List PV} (cv:Nat→Nat→Value)
   (hlen:len=es.length) (hcap:len≤cap) (hspot:es≠[]→a.spot=none)
   (hsz:∀(i:Nat) (e:PV),es[i]?=some e→e.cells.length=size)
   (hI:∀(i:Nat) (e:PV) (j:Nat) (p:PV),es[i]?=some e→e.cells[j]?=some p→I a.block (some (a.off+i * size+j)))
   (hc:∀(i:Nat) (e:PV) (j:Nat) (p:PV),es[i]?=some e→e.cells[j]?=some p→w.cell? ⟨a.block,a.off+i * size+j,none⟩=some (cv i j))
   (hr:∀(i:Nat) (e:PV) (j:Nat) (p:PV),es[i]?=some e→e.cells[j]?=some p→Rep I w (cv i j) p):Rep I w (.slice (some a) len cap) (.slice own size es)
 |nili:Rep I w .nilIface .nili
 |nilm:Rep I w (.map none) .nilm
 |mapv {r clock:Nat} {es:Array MapEntry} {ks:List Ky} {vs:List PV} (ix:Nat→Nat)
   (hI:I r none) (hb:w.heap[r]?=some (.map es clock)) (hv:vs.length=ks.length)
   (hkeys:∀(i:Nat) (e:MapEntry),es[i]?=some e→∃k∈ks,e.key=k.val)
   (hone:∀(i j:Nat) (e f:MapEntry),es[i]?=some e→es[j]?=some f→e.key=f.key→i=j)
   (hlt:∀(j:Nat) (k:Ky),ks[j]?=some k→((es[ix j]?).map (·.key))=some k.val)
   (hrv:∀(j:Nat) (e:MapEntry) (p:PV),es[ix j]?=some e→vs[j]?=some p→Rep I w e.val p):Rep I w (.map (some r)) (.mapv ks vs)
 |nilf:Rep I w .nilFunc .nilf
 |func {f:FuncId} {fs cs:Array Value} {first cap:List PV} (h1:fs.size=first.length) (h2:cs.size=cap.length)
   (hf:∀(i:Nat) (p:PV),first[i]?=some p→Rep I w (fs.getD i undef) p) (hc:∀(i:Nat) (p:PV),cap[i]?=some p→Rep I w (cs.getD i undef) p) :
   Rep I w (.func (.func f) fs cs) (.func f first cap)
 |agg {cs:Array Value} {ps:List PV} (h:cs.size=ps.length) (hr:∀(i:Nat) (p:PV),ps[i]?=some p→Rep I w (cs.getD i undef) p):Rep I w (.agg cs) (.agg ps)
 |tuple {cs:Array Value} {ps:List PV} (h:cs.size=ps.length) (hr:∀(i:Nat) (p:PV),ps[i]?=some p→Rep I w (cs.getD i undef) p):Rep I w (.tuple cs) (.tuple ps)
theorem Rep.mono{I I':Imm}{w w':World}(hI:∀b x,I b x→I' b x)(hs:Same I w w'){v:Value}{p:PV}(h:Rep I w v p):Rep I' w' v p:=by
 induction h with
 |bool b=>exact .bool b
 |int k n=>exact .int k n
 |str s=>exact .str s
 |nilp=>exact .nilp
 |vptr cv h1 h2 _ ih=>exact .vptr cv (fun j p h=>hI _ _ (h1 j p h)) (fun j p h=>(hs.cell _ _ (h1 j p h)).trans (h2 j p h)) ih
 |nils=>exact .nils
 |empt=>exact .empt
 |slice cv h1 h2 h3 h4 h5 h6 _ ih=>
  exact .slice cv h1 h2 h3 h4 (fun i e j p he hp=>hI _ _ (h5 i e j p he hp)) (fun i e j p he hp=>(hs.cell _ _ (h5 i e j p he hp)).trans (h6 i e j p he hp)) ih
 |nili=>exact .nili
 |nilm=>exact .nilm
 |mapv ix h1 h2 h3 h4 h5 h6 _ ih=>exact .mapv ix (hI _ _ h1) ((hs.blk _ h1).trans h2) h3 h4 h5 h6 ih
 |nilf=>exact .nilf
 |func h1 h2 _ _ ih1 ih2=>exact .func h1 h2 ih1 ih2
 |agg h _ ih=>exact .agg h ih
 |tuple h _ ih=>exact .tuple h ih
structure Bl where
 l:List Nat
 ab:Nat→Nat→Option (Nat×Nat×Nat)
def Bl.nil:Bl:=⟨[],fun _ _=>none⟩
def Bl.le(x y:Bl):Prop:=x.l <+: y.l∧∀id g a,x.ab id g=some a→y.ab id g=some a
theorem Bl.le_refl(x:Bl):x.le x:=⟨List.prefix_rfl,fun _ _ _ h=>h⟩
theorem Bl.le.trans{x y z:Bl}(h:x.le y)(k:y.le z):x.le z:=⟨h.1.trans k.1,fun i g a e=>k.2 i g a (h.2 i g a e)⟩
inductive F6(bl:Bl):Value→PV→Prop
 |ref {id off b:Nat} (h:bl.l[id]?=some b):F6 bl (.pointer (some ⟨b,off,none⟩)) (.ref id off)
 |arr {id gen off len size b base n cap b' o':Nat} (h:bl.ab id gen=some (b,base,n)) (hl:len≤cap) (hc:base+(off+cap) * size≤n) (ha:0<cap→b'=b∧o'=base+off * size) :
   F6 bl (.slice (some ⟨b',o',none⟩) len cap) (.arr id gen off len size)
 |aptr {id gen size i off b base n:Nat} (h:bl.ab id gen=some (b,base,n)):F6 bl (.pointer (some ⟨b,base+i * size+off,none⟩)) (.aptr id gen size i off)
 |mref {id b:Nat} (h:bl.l[id]?=some b):F6 bl (.map (some b)) (.mref id)
theorem F6.mono{bl bl':Bl}(hb:bl.le bl'){v:Value}{p:PV}(h:F6 bl v p):F6 bl' v p:=by
 cases h with
 |@ref id off b h=>
  refine .ref ?_
  obtain⟨r,hr⟩:=hb.1;rw[←hr,Ae]
  ·exact h
  ·exact(Ab.1 h).1
 |arr h h1 h2 h3=>exact .arr (hb.2 _ _ _ h) h1 h2 h3
 |aptr h=>exact .aptr (hb.2 _ _ _ h)
 |@mref id b h=>
  refine .mref ?_
  obtain⟨r,hr⟩:=hb.1;rw[←hr,Ae]
  ·exact h
  ·exact(Ab.1 h).1
def GL(I:Imm)(bl:Bl)(w:World)(v:Value)(p:PV):Prop:=Rep I w v p∨F6 bl v p
def PZ(I:Imm)(bl:Bl)(w:World)(v:Value)(p:PV):Prop:=GL I bl w v p∨∃(cs:Array Value) (ps:List PV),v=.agg cs∧p=.aggr ps∧cs.size=ps.length∧∀(i:Nat) (q:PV),ps[i]?=some q→GL I bl w (cs.getD i undef) q
inductive Bu(I:Imm)(bl:Bl)(w:World):Value→PV→Prop
 |one {v:Value} {p:PV} (h:GL I bl w v p):Bu I bl w v p
 |func {f:FuncId} {fs cs:Array Value} {first cap:List PV} (h1:fs.size=first.length) (h2:cs.size=cap.length)
   (hf:∀(i:Nat) (p:PV),first[i]?=some p→GL I bl w (fs.getD i undef) p) (hc:∀(i:Nat) (p:PV),cap[i]?=some p→GL I bl w (cs.getD i undef) p) :
   Bu I bl w (.func (.func f) fs cs) (.func f first cap)
 |tuple {cs:Array Value} {ps:List PV} (h:cs.size=ps.length) (hr:∀(i:Nat) (p:PV),ps[i]?=some p→PZ I bl w (cs.getD i undef) p):Bu I bl w (.tuple cs) (.tuple ps)
 |aggr {cs:Array Value} {ps:List PV} (h:cs.size=ps.length) (hr:∀(i:Nat) (p:PV),ps[i]?=some p→GL I bl w (cs.getD i undef) p):Bu I bl w (.agg cs) (.aggr ps)
theorem GL.mono{I I':Imm}{bl bl':Bl}{w w':World}(hI:∀b x,I b x→I' b x)(hs:Same I w w')(hb:bl.le bl'){v:Value}{p:PV}
  (h:GL I bl w v p):GL I' bl' w' v p:=by
 rcases h with h | h
 ·exact .inl (h.mono hI hs)
 ·exact .inr (h.mono hb)
theorem PZ.mono{I I':Imm}{bl bl':Bl}{w w':World}(hI:∀b x,I b x→I' b x)(hs:Same I w w')(hb:bl.le bl'){v:Value}{p:PV}
  (h:PZ I bl w v p):PZ I' bl' w' v p:=by
 rcases h with h | ⟨cs,ps,rfl,rfl,h1,h2⟩
 ·exact .inl (h.mono hI hs hb)
 ·exact .inr ⟨cs,ps,rfl,rfl,h1,fun i q hq=>(h2 i q hq).mono hI hs hb⟩
theorem PZ.wO{I:Imm}{bl:Bl}{w:World}{v:Value}{p:PV}(h:PZ I bl w v p):Bu I bl w v p:=by
 rcases h with h | ⟨cs,ps,rfl,rfl,h1,h2⟩
 ·exact .one h
 ·exact .aggr h1 h2
theorem Bu.mono{I I':Imm}{bl bl':Bl}{w w':World}(hI:∀b x,I b x→I' b x)(hs:Same I w w')(hb:bl.le bl'){v:Value}{p:PV}
  (h:Bu I bl w v p):Bu I' bl' w' v p:=by
 cases h with
 |one h=>exact .one (h.mono hI hs hb)
 |func h1 h2 hf hc=>exact .func h1 h2 (fun i p h=>(hf i p h).mono hI hs hb) (fun i p h=>(hc i p h).mono hI hs hb)
 |tuple h hr=>exact .tuple h (fun i p h=>(hr i p h).mono hI hs hb)
 |aggr h hr=>exact .aggr h (fun i p h=>(hr i p h).mono hI hs hb)
end Go.Abs

namespace Go.Abs
abbrev Frm:=List (Option PV)
abbrev Sto:=List (List PV)
def Frm.get(A:Frm)(t:Nat):Option PV:=match A[t]? with | some v=>v | none=>none
theorem Frm.ext{A B:Frm}(hl:A.length=B.length)(h:∀t,A.get t=B.get t):A=B:=by
 apply List.ext_getElem hl;intro i h1 h2;have:=h i;simp only[Frm.get,Ad h1,Ad h2] at this;exact this
def Closed(ops:Array Oper)(L:Nat→Bool):Prop:=
 ∀j o,ops[j]?=some o→L j=true→∀e∈o.after,Region.binds .any e=true→L e.on=true
def Ahead(ops:Array Oper)(i j:Nat):Prop:=
 ∀L:Nat→Bool,Closed ops L→(∀o,ops[j]?=some o→∀e∈o.after,Region.binds .any e=true→L e.on=true)→L i=true
structure Ic(rd wr:Nat→List Nat)(W:Nat→Bool)(H:Nat→Nat→Bool)(Pu:Nat→Bool)(i j:Nat):Prop where
 a:∀t,t∈wr i→t∉rd j
 b:∀t,t∈wr j→t∉rd i
 c:∀t,t∈wr i→t∉wr j
 d:W i=true→Pu j=true∨(H i j=false∧W j=false)
 e:W j=true→Pu i=true∨(H j i=false∧W i=false)
section
variable{F:Fence}{fn:Nat}{P:Program}{ops:Array Oper}{Q:Exit→Act→World→Prop}
variable(A:Nat→Frm)(S:Nat→Sto)(x:Nat→Frm→Sto→Option (Frm×Sto))(rd wr:Nat→List Nat)(W:Nat→Bool)(H:Nat→Nat→Bool)(Pu:Nat→Bool)(E:Nat→Sto→Sto→Prop)
variable(Sim:Act→World→Frm→Sto→Prop)
theorem JL(hfrm:∀i,i<ops.size→∀t,t∉wr i→(A (i+1)).get t=(A i).get t)(t:Nat):
  ∀d k,k+d≤ops.size→(∀j,k≤j→j<k+d→t∉wr j)→(A (k+d)).get t=(A k).get t:=by
 intro d
 induction d with
 |zero=>intro k _ _;rfl
 |succ d ih=>
  intro k hk h;rw[show k+(d+1)=(k+d)+1 from by omega,hfrm (k+d) (by omega) t (h _ (by omega) (by omega))]
  exact ih k (by omega) (fun j h1 h2=>h j h1 (by omega))
theorem JI(hS:∀i,i<ops.size→W i=false→S (i+1)=S i):
  ∀d k,k+d≤ops.size→(∀j,k≤j→j<k+d→W j=false)→S (k+d)=S k:=by
 intro d
 induction d with
 |zero=>intro k _ _;rfl
 |succ d ih=>
  intro k hk h;rw[show k+(d+1)=(k+d)+1 from by omega,hS (k+d) (by omega) (h _ (by omega) (by omega))]
  exact ih k (by omega) (fun j h1 h2=>h j h1 (by omega))
theorem Lb(r:Nat)(hE1:∀a,E r a a)(hE3:∀a b c,E r a b→E r b c→E r a c)(hsoft:∀i,i<ops.size→H i r=false→E r (S (i+1)) (S i)):
  ∀d k,k+d≤ops.size→(∀j,k≤j→j<k+d→H j r=false)→E r (S (k+d)) (S k):=by
 intro d
 induction d with
 |zero=>intro k _ _;exact hE1 _
 |succ d ih=>
  intro k hk h;rw[show k+(d+1)=(k+d)+1 from by omega]
  exact hE3 _ _ _ (hsoft (k+d) (by omega) (h _ (by omega) (by omega))) (ih k (by omega) (fun j h1 h2=>h j h1 (by omega)))
structure RInv(L:Nat→Bool)(B:Frm)(τ:Sto):Prop where
 closed:Closed ops L
 len:B.length=(A 0).length
 slot:∀t,∃k,k≤ops.size∧B.get t=(A k).get t∧∀j,j<ops.size→t∈wr j→(L j=true↔j<k)
 sto:∃k,k≤ops.size∧τ=S k∧∀j,j<ops.size→W j=true→(L j=true↔j<k)
theorem Qt(hE1:∀r a,E r a a)(hE2:∀r a b,E r a b→E r b a)(hE3:∀r a b c,E r a b→E r b c→E r a c)
  (hsoft:∀i r,i<ops.size→r<ops.size→Pu r=false→H i r=false→E r (S (i+1)) (S i))
  (hlenA:∀i,i≤ops.size→(A i).length=(A 0).length)
  (hfrm:∀i,i<ops.size→∀t,t∉wr i→(A (i+1)).get t=(A i).get t)
  (hS:∀i,i<ops.size→W i=false→S (i+1)=S i)
  (hWP:∀i,i<ops.size→W i=true→Pu i=false)
  (hHW:∀i r,i<ops.size→H i r=true→W i=true)
  (hloc:∀i,i<ops.size→∀B τ,B.length=(A 0).length→(∀t,t∈rd i→B.get t=(A i).get t)→(W i=true→τ=S i)→(Pu i=false→E i τ (S i))→
   ∃B' τ',x i B τ=some (B',τ')∧B'.length=B.length∧(∀t,t∈wr i→B'.get t=(A (i+1)).get t)∧(∀t,t∉wr i→B'.get t=B.get t)∧
    (W i=true→τ'=S (i+1))∧(W i=false→τ'=τ))
  (hind:∀i j,i<j→j<ops.size→Ahead ops i j∨Ic rd wr W H Pu i j)
  (hacy:∀(i:Nat) (o:Oper),ops[i]?=some o→∀e∈o.after,Region.binds .any e=true→e.on<i)
  (hsim:∀i,i<ops.size→∀a w B τ B' τ' K,Sim a w B τ→x i B τ=some (B',τ')→(∀a' w',Sim a' w' B' τ'→K a' w')→wpOpIn F fn P ops Q i K a w)
  (hend:∀a' w',Sim a' w' (A ops.size) (S ops.size)→Q .normal a' w') :
  ∀(fuel:Nat) (listed:Array Bool) (U:List Nat) (B:Frm) (τ:Sto) (a:Act) (w:World),listed.size=ops.size→U.length≤fuel→
   (∀j,j<ops.size→listed.getD j false=false→j∈U)→RInv (ops:=ops) A S wr W (fun j=>listed.getD j false) B τ→Sim a w B τ→
   wpAnyIn F fn P .any ops Q fuel listed a w:=by
 have hall:∀(listed:Array Bool) (B:Frm) (τ:Sto) (a:Act) (w:World),(∀j,j<ops.size→listed.getD j false=true)→
   RInv (ops:=ops) A S wr W (fun j=>listed.getD j false) B τ→Sim a w B τ→Q .normal a w:=by
  intro listed B τ a w hl hi hs
  have hB:B=A ops.size:=by
   refine Frm.ext (by rw[hi.len,hlenA _ (Be _)]) fun t=>?_
   obtain⟨k,hk,hg,hj⟩:=hi.slot t;rw[hg]
   have:=JL (ops:=ops) A wr hfrm t (ops.size - k) k (by omega) (fun j h1 h2 hw=>by
    have:=(hj j (by omega) hw).1 (hl j (by omega));omega)
   rw[show k+(ops.size - k)=ops.size from by omega] at this
   exact this.symm
  have hτ:τ=S ops.size:=by
   obtain⟨k,hk,hg,hj⟩:=hi.sto
   have:=JI (ops:=ops) S W hS (ops.size - k) k (by omega) (fun j h1 h2=>by
    cases hw:W j with
    |false=>rfl
    |true=>have:=(hj j (by omega) hw).1 (hl j (by omega));omega)
   rw[show k+(ops.size - k)=ops.size from by omega] at this
   rw[hg,this]
  subst hB hτ;exact hend _ _ hs
 have hready:∀(listed:Array Bool),listed.size=ops.size→Region.ready .any ops listed=[]→∀j,j<ops.size→listed.getD j false=true:=by
  intro listed hsz hr j
  induction j using Nat.strongRecOn with
  |_ j ih=>
   intro hj;cases hL:listed.getD j false with
   |true=>rfl
   |false=>
    exfalso
    have hmem:j∈Region.ready .any ops listed:=by
     unfold Region.ready;rw[DI];refine⟨Bg.2 hj,?_⟩
     have h1:listed.getD j true=false:=by
      have hlt:j<listed.size:=by omega
      simp only[Array.getD,hlt,dif_pos] at hL ⊢;exact hL
     have h2:ops[j]?=some ops[j]:=Az hj;simp only[h1,Bool.not_false,Bool.true_and,h2,Ay,CB];rw[Array.all_eq_true'];intro e he;cases hb:Region.binds .any e with
     |false=>rfl
     |true=>
      have hlt:=hacy j _ h2 e he hb;simpa using ih e.on hlt (by omega)
    rw[hr] at hmem;cases hmem
 intro fuel
 induction fuel with
 |zero=>
  intro listed U B τ a w hsz hU hun hi hs;have hU0:U=[]:=Bq.1 (by omega)
  subst hU0
  have hl:∀j,j<ops.size→listed.getD j false=true:=fun j hj=>by
   cases h:listed.getD j false with
   |true=>rfl
   |false=>exact absurd (hun j hj h) (by simp)
  refine⟨?_,hall listed B τ a w hl hi hs⟩
  unfold Region.ready;rw[List.filter_eq_nil_iff];intro j hj;have hj':=Bg.1 hj;have h1:=hl j hj';have hlt:j<listed.size:=by omega
  have h2:listed.getD j true=true:=by
   simp only[Array.getD,hlt,dif_pos] at h1 ⊢;exact h1
  simp only[h2,D7,Bool.false_and];simp
 |succ fuel ih=>
  intro listed U B τ a w hsz hU hun hi hs;refine⟨fun hr=>hall listed B τ a w (hready listed hsz hr) hi hs,fun i hmem=>?_⟩
  unfold Region.ready at hmem;rw[DI] at hmem;obtain⟨hir,hcond⟩:=hmem;have hi':i<ops.size:=Bg.1 hir;have hlt:i<listed.size:=by omega
  have hoi:ops[i]?=some ops[i]:=Az hi';simp only[hoi,Ay,CB,Ak] at hcond;obtain⟨hnot,hpre⟩:=hcond
  have hLi:listed.getD i false=false:=by
   simp only[Array.getD,hlt,dif_pos] at hnot ⊢;simpa using hnot
  have hpreds:∀o,ops[i]?=some o→∀e∈o.after,Region.binds .any e=true→listed.getD e.on false=true:=by
   intro o ho e he hb;rw[hoi] at ho;cases ho;rw[Array.all_eq_true'] at hpre;have:=hpre e he;simpa [hb] using this
  have hbefore:∀j,j<i→¬Ic rd wr W H Pu j i→listed.getD j false=true:=fun j hj hn=>
   (hind j i hj hi').resolve_right hn (fun j=>listed.getD j false) hi.closed hpreds
  have hbehind:∀j,i<j→j<ops.size→¬Ic rd wr W H Pu i j→listed.getD j false=false:=by
   intro j hj hjn hn;cases h:listed.getD j false with
   |false=>rfl
   |true=>
    have:=(hind i j hj hjn).resolve_right hn (fun j=>listed.getD j false) hi.closed (fun o ho=>hi.closed j o ho h)
    rw[hLi] at this;cases this
  have hrd:∀t,t∈rd i→B.get t=(A i).get t:=by
   intro t ht;obtain⟨k,hk,hg,hj⟩:=hi.slot t;rw[hg]
   have hno:∀j,j<ops.size→(k≤j∧j<i∨i≤j∧j<k)→t∉wr j:=by
    intro j hjn hc hw;have hiff:=hj j hjn hw;rcases hc with⟨h1,h2⟩ | ⟨h1,h2⟩
    ·have:=hbefore j h2 (fun u=>u.a t hw ht)
     have:=hiff.1 this;omega
    ·by_cases hji:j=i
     ·subst hji;have:=hiff.2 h2;rw[hLi] at this;cases this
     ·have:=hbehind j (by omega) hjn (fun u=>u.b t hw ht)
      rw[hiff.2 h2] at this;cases this
   by_cases hki:k≤i
   ·have:=JL (ops:=ops) A wr hfrm t (i - k) k (by omega) (fun j h1 h2=>hno j (by omega) (.inl ⟨h1,by omega⟩))
    rw[show k+(i - k)=i from by omega] at this
    exact this.symm
   ·have:=JL (ops:=ops) A wr hfrm t (k - i) i (by omega) (fun j h1 h2=>hno j (by omega) (.inr ⟨h1,by omega⟩))
    rw[show i+(k - i)=k from by omega] at this
    exact this
  have hst:W i=true→τ=S i:=by
   intro hwi;have hpu:=hWP i hi' hwi;obtain⟨k,hk,hg,hj⟩:=hi.sto;rw[hg]
   have hno:∀j,j<ops.size→(k≤j∧j<i∨i≤j∧j<k)→W j=false:=by
    intro j hjn hc;cases hw:W j with
    |false=>rfl
    |true=>
     exfalso
     have hiff:=hj j hjn hw;rcases hc with⟨h1,h2⟩ | ⟨h1,h2⟩
     ·have:=hbefore j h2 (fun u=>by rcases u.d hw with h | ⟨_,h⟩<;>simp_all)
      have:=hiff.1 this;omega
     ·by_cases hji:j=i
      ·subst hji;have:=hiff.2 h2;rw[hLi] at this;cases this
      ·have:=hbehind j (by omega) hjn (fun u=>by rcases u.e hw with h | ⟨_,h⟩<;>simp_all)
       rw[hiff.2 h2] at this;cases this
   by_cases hki:k≤i
   ·have:=JI (ops:=ops) S W hS (i - k) k (by omega) (fun j h1 h2=>hno j (by omega) (.inl ⟨h1,by omega⟩))
    rw[show k+(i - k)=i from by omega] at this
    exact this.symm
   ·have:=JI (ops:=ops) S W hS (k - i) i (by omega) (fun j h1 h2=>hno j (by omega) (.inr ⟨h1,by omega⟩))
    rw[show i+(k - i)=k from by omega] at this
    exact this
  have hstE:Pu i=false→E i τ (S i):=by
   intro hpu;obtain⟨k,hk,hg,hj⟩:=hi.sto;rw[hg]
   have hno:∀j,j<ops.size→(k≤j∧j<i∨i≤j∧j<k)→H j i=false:=by
    intro j hjn hc;cases hh:H j i with
    |false=>rfl
    |true=>
     exfalso
     have hw:=hHW j i hjn hh;have hiff:=hj j hjn hw;rcases hc with⟨h1,h2⟩ | ⟨h1,h2⟩
     ·have:=hbefore j h2 (fun u=>by rcases u.d hw with h | ⟨h,_⟩<;>simp_all)
      have:=hiff.1 this;omega
     ·by_cases hji:j=i
      ·subst hji;have:=hiff.2 h2;rw[hLi] at this;cases this
      ·have:=hbehind j (by omega) hjn (fun u=>by rcases u.e hw with h | ⟨h,_⟩<;>simp_all)
       rw[hiff.2 h2] at this;cases this
   by_cases hki:k≤i
   ·have:=Lb (ops:=ops) S H E i (hE1 i) (hE3 i) (fun j hj hh=>hsoft j i hj hi' hpu hh) (i - k) k (by omega) (fun j h1 h2=>hno j (by omega) (.inl ⟨h1,by omega⟩))
    rw[show k+(i - k)=i from by omega] at this
    exact hE2 _ _ _ this
   ·have:=Lb (ops:=ops) S H E i (hE1 i) (hE3 i) (fun j hj hh=>hsoft j i hj hi' hpu hh) (k - i) i (by omega) (fun j h1 h2=>hno j (by omega) (.inr ⟨h1,by omega⟩))
    rw[show i+(k - i)=k from by omega] at this
    exact this
  obtain⟨B',τ',hx,hlen',hw1,hw2,hs1,hs2⟩:=hloc i hi' B τ hi.len hrd hst hstE;refine hsim i hi' a w B τ B' τ' _ hs hx fun a' w' hs'=>?_
  have hget:∀j,(listed.setIfInBounds i true).getD j false=if j=i then true else listed.getD j false:=by
   intro j;by_cases hji:j=i
   ·subst hji;simp[Array.getD,hlt]
   ·have hne:i≠j:=fun e=>hji e.symm
    by_cases hjl:j<listed.size
    ·simp[Array.getD,hjl,hji,Array.getElem_setIfInBounds_ne,hne]
    ·simp[Array.getD,hjl,hji]
  have hmemU:i∈U:=hun i hi' hLi;refine ih (listed.setIfInBounds i true) (U.erase i) B' τ' a' w' (by simpa using hsz) (by rw[List.length_erase_of_mem hmemU];omega) ?_ ?_ hs'
  ·intro j hjn hLj;rw[hget] at hLj;by_cases hji:j=i
   ·simp[hji] at hLj
   ·rw[if_neg hji] at hLj;exact(List.mem_erase_of_ne hji).2 (hun j hjn hLj)
  ·refine⟨?_,by rw[hlen'];exact hi.len,?_,?_⟩
   ·intro j o ho hLj e he hb;show(listed.setIfInBounds i true).getD e.on false=true;have hLj':(listed.setIfInBounds i true).getD j false=true:=hLj;rw[hget] at hLj' ⊢;by_cases hei:e.on=i
    ·simp[hei]
    ·rw[if_neg hei];by_cases hji:j=i
     ·subst hji;exact hpreds o ho e he hb
     ·rw[if_neg hji] at hLj';exact hi.closed j o ho hLj' e he hb
   ·intro t;by_cases ht:t∈wr i
    ·refine⟨i+1,by omega,hw1 t ht,fun j hjn hw=>?_⟩
     show(listed.setIfInBounds i true).getD j false=true↔_;rw[hget];by_cases hji:j=i
     ·simp[hji]
     ·rw[if_neg hji];by_cases hlt':j<i
      ·have:=hbefore j hlt' (fun u=>u.c t hw ht)
       constructor
       ·intro _;omega
       ·intro _;exact this
      ·have:=hbehind j (by omega) hjn (fun u=>u.c t ht hw)
       constructor
       ·intro h;rw[this] at h;cases h
       ·intro h;omega
    ·obtain⟨k,hk,hg,hj⟩:=hi.slot t;refine⟨k,hk,by rw[hw2 t ht,hg],fun j hjn hw=>?_⟩
     show(listed.setIfInBounds i true).getD j false=true↔_;rw[hget];by_cases hji:j=i
     ·subst hji;exact absurd hw ht
     ·rw[if_neg hji];exact hj j hjn hw
   ·by_cases hW:W i=true
    ·refine⟨i+1,by omega,hs1 hW,fun j hjn hw=>?_⟩
     show(listed.setIfInBounds i true).getD j false=true↔_;rw[hget];have hpi:=hWP i hi' hW;have hpj:=hWP j hjn hw;by_cases hji:j=i
     ·simp[hji]
     ·rw[if_neg hji];by_cases hlt':j<i
      ·have:=hbefore j hlt' (fun u=>by rcases u.d hw with h | ⟨_,h⟩<;>simp_all)
       constructor
       ·intro _;omega
       ·intro _;exact this
      ·have:=hbehind j (by omega) hjn (fun u=>by rcases u.d hW with h | ⟨_,h⟩<;>simp_all)
       constructor
       ·intro h;rw[this] at h;cases h
       ·intro h;omega
    ·have hW':W i=false:=by simpa using hW
     obtain⟨k,hk,hg,hj⟩:=hi.sto;refine⟨k,hk,by rw[hs2 hW',hg],fun j hjn hw=>?_⟩
     show(listed.setIfInBounds i true).getD j false=true↔_;rw[hget];by_cases hji:j=i
     ·subst hji;exact absurd hw hW
     ·rw[if_neg hji];exact hj j hjn hw
end
end Go.Abs

namespace Go.Abs
def PV.D8:PV→PV
 |.slice _ sz es=>.slice false sz es
 |v=>v
def PV.Ag:PV→PV
 |.slice _ sz es=>.slice false sz es
 |.agg cs=>.agg (cs.map PV.D8)
 |.aggr cs=>.aggr (cs.map PV.D8)
 |v=>v
def PV.free:PV→Bool
 |.lref _ _=>false
 |.hole _=>false
 |.mapb=>false
 |.self | .bld _ _ _ | .dead | .arrv _ _ _ | .mapo _ _ _ _ | .fresh _ _ _ | .itr _ _ _=>false
 |_=>true
def PV.LP:PV→Bool
 |.ref _ _ | .lref _ _ | .hole _ | .mapb | .self | .bld _ _ _ | .dead | .fresh _ _ _ | .itr _ _ _=>false
 |.arr _ _ _ _ _ | .aptr _ _ _ _ _ | .arrv _ _ _ | .aggr _ | .mref _ | .mapo _ _ _ _=>false
 |_=>true
def PV.flat:PV→Bool
 |.ref _ _ | .lref _ _ | .hole _ | .mapb | .self | .bld _ _ _ | .dead | .fresh _ _ _ | .itr _ _ _=>false
 |.arr _ _ _ _ _ | .aptr _ _ _ _ _ | .arrv _ _ _ | .aggr _ | .mref _ | .mapo _ _ _ _=>false
 |.func _ fs cs=>fs.all PV.LP&&cs.all PV.LP
 |.tuple vs=>vs.all PV.LP
 |_=>true
def PV.one:PV→Bool
 |.agg _ | .tuple _ | .aggr _=>false
 |_=>true
def PV.ones(p:PV):Bool:=p.cells.all PV.one
def PV.EF:PV→Bool
 |.ref _ _ | .arr _ _ _ _ _ | .aptr _ _ _ _ _ | .mref _=>true
 |_=>false
def PV.qi:PV→Bool
 |.func _ _ _=>true
 |_=>false
def PV.okc:PV→Bool
 |.aggr cs=>cs.all fun c=>(c.flat||c.EF)&&c.one
 |p=>p.flat||p.EF||p.qi
def PV.okt:PV→Bool
 |.aggr cs=>cs.all fun c=>(c.flat||c.EF)&&c.one
 |p=>p.flat||p.EF
def Jd:Value→Option PV
 |.bool b=>some (.bool b)
 |.int k n=>some (.int k n)
 |.string s=>some (.str s.data.toList)
 |.pointer none=>some .nilp
 |.slice none 0 0=>some .nils
 |.map none=>some .nilm
 |.nilIface=>some .nili
 |.nilFunc=>some .nilf
 |_=>none
def OH:List Value→Option (List PV)
 |[]=>some []
 |v::vs=>match Jd v,OH vs with
  |some p,some ps=>some (p::ps)
  |_,_=>none
def Pk:Value→Option PV
 |.agg cs=>(OH cs.toList).map .agg
 |v=>Jd v
def PV.isAgg:PV→Bool
 |.agg _ | .aggr _=>true
 |_=>false
def PV.isSelf:PV→Bool
 |.self | .bld _ _ _ | .dead | .arrv _ _ _ | .mapo _ _ _ _ | .itr _ _ _=>true
 |_=>false
def sub(v:PV)(off n:Nat)(ag:Bool):Option PV:=
 match ag with
 |true=>match v with
  |.agg cs=>if off+n≤cs.length∧((cs.drop off).take n).all PV.flat=true then some (.agg ((cs.drop off).take n)) else none
  |_=>none
 |false=>match v.cells[off]? with
  |some x=>if x.isAgg||x.isSelf then none else some x
  |none=>none
def Tm(v:PV)(off n:Nat)(ag:Bool):Option PV:=
 match sub v off n ag with
 |some x=>some x
 |none=>match ag with
  |true=>match v with
   |.agg cs=>if off+n≤cs.length∧((cs.drop off).take n).all (fun c=>(c.flat||c.EF)&&c.one)=true then some (.aggr ((cs.drop off).take n)) else none
   |_=>none
  |false=>none
def Iu(cs:List PV):Option PV:=if cs.all PV.flat=true then some (.agg cs) else if cs.all (fun c=>(c.flat||c.EF)&&c.one)=true then some (.aggr cs) else none
def Yg(v:PV)(off n:Nat)(ag:Bool):Option PV:=match ag with
 |true=>match v with
  |.agg cs | .aggr cs=>if off+n≤cs.length then Iu ((cs.drop off).take n) else none
  |_=>none
 |false=>sub v off n false
def upd(v:PV)(off:Nat)(x:PV):Option PV:=
 match v with
 |.agg cs=>if off+x.cells.length≤cs.length then some (.agg (cs.take off++x.cells++cs.drop (off+x.cells.length))) else none
 |.aggr cs=>if off+x.cells.length≤cs.length then some (.agg (cs.take off++x.cells++cs.drop (off+x.cells.length))) else none
 |_=>match x with
  |.agg _ | .aggr _=>none
  |x=>if off=0 then some x else none
def bytesLess:List UInt8→List UInt8→Bool:=Op.bytesLess
def jL:Nat:=1099511627776
def Cb:Nat:=4294967296
def X0(op:BinOp)(k:IntKind)(a b:Int):Option PV:=
 match op with
 |.add=>some (.int k (k.wrap (a+b)))
 |.sub=>some (.int k (k.wrap (a - b)))
 |.mul=>some (.int k (k.wrap (a * b)))
 |.eql=>some (.bool (a==b))
 |.neq=>some (.bool (a != b))
 |.lss=>some (.bool (a<b))
 |.leq=>some (.bool (a≤b))
 |.gtr=>some (.bool (a>b))
 |.geq=>some (.bool (a≥b))
 |_=>match Go.binOp op 0 (.int k a) (.int k b) with
  |.pure (.int k' n)=>some (.int k' n)
  |_=>none
def qz(op:BinOp)(a b:List UInt8):Option PV:=
 match op with
 |.add=>if a.length+b.length≤jL then some (.str (a++b)) else none
 |.eql=>some (.bool (a==b))
 |.neq=>some (.bool (!(a==b)))
 |.lss=>some (.bool (bytesLess a b))
 |.leq=>some (.bool (bytesLess a b||a==b))
 |.gtr=>some (.bool (!(bytesLess a b||a==b)))
 |.geq=>some (.bool (!bytesLess a b))
 |_=>none
def vQ(op:BinOp)(a b:Bool):Option PV:=
 match op with
 |.eql=>some (.bool (a==b))
 |.neq=>some (.bool (!(a==b)))
 |_=>none
def OL:PV→Option Ky
 |.int k n=>some (.i k n)
 |.str l=>some (.s l)
 |_=>none
def findKey(k:Ky):List Ky→List PV→Option PV
 |x::ks,v::vs=>if x=k then some v else findKey k ks vs
 |_,_=>none
def Ky.pv:Ky→PV
 |.i k n=>.int k n
 |.s l=>.str l
def entries:List Ky→List PV→Option (List PV)
 |[],[]=>some []
 |k::ks,.tuple [a,v]::r=>match OL a,entries ks r with
  |some k',some vs=>if k'=k then some (v::vs) else none
  |_,_=>none
 |_,_=>none
def sameKind:Ky→Ky→Bool
 |.i k _,.i k' _=>k==k'
 |.s _,.s _=>true
 |_,_=>false
def eQ(c:Nat):PV→Bool
 |.bool _=>c==1
 |.func _ _ _ | .nilf=>c==2
 |_=>true
def Xh(st:Bool):PV→Option PV
 |.str s=>if st then some (.int .i64 s.length) else none
 |.slice _ _ es=>if st then none else some (.int .i64 es.length)
 |.nils | .empt=>if st then none else some (.int .i64 0)
 |.arr _ _ _ len _=>if st then none else some (.int .i64 len)
 |_=>none
def K7(size:Nat)(x i:PV):Option PV:=match x with
 |.slice _ sz es=>match i with
  |.int _ i=>if sz=size∧0≤i then(es[i.toNat]?).map fun v=>.vptr v else none
  |_=>none
 |.arr id gen off len sz=>match i with
  |.int _ i=>if sz=size∧0≤i∧i<len then some (.aptr id gen size (off+i.toNat) 0) else none
  |_=>none
 |_=>none
def Wi(x i:PV):Option PV:=match x with
 |.str s=>match i with
  |.int _ i=>if 0≤i then(s[i.toNat]?).map fun b=>.int .u8 b.toNat else none
  |_=>none
 |_=>none
def faV(off n:Nat)(ag:Bool):PV→Option PV
 |.vptr v=>(sub v off n ag).map fun x=>.vptr x
 |.ref id o=>some (.ref id (o+off))
 |.lref d o=>some (.lref d (o+off))
 |.aptr id gen size i o=>some (.aptr id gen size i (o+off))
 |_=>none
def fits(n:Nat)(ag:Bool)(v:PV):Bool:=match v with
 |.agg cs=>ag&&cs.length==n
 |.aggr _=>false
 |_=>!ag
def ldV(n:Nat)(ag:Bool):PV→Option PV
 |.vptr v=>if fits n ag v∧v.free then some v else none
 |_=>none
def jI(x y:PV):Option PV:=match x with
 |.int k a=>match y with
  |.int _ b=>some (.int k (if b<a then b else a))
  |_=>none
 |_=>none
def jK(x y:PV):Option PV:=match x with
 |.int k a=>match y with
  |.int _ b=>some (.int k (if a<b then b else a))
  |_=>none
 |_=>none
def Tt(lo hi:Bool)(n:Nat)(bs:List PV):Option (Nat×Nat):=
 match lo,hi,bs with
 |true,true,[.int _ l,.int _ h]=>if 0≤l∧l≤h∧h≤n then some (l.toNat,h.toNat) else none
 |true,false,[.int _ l]=>if 0≤l∧l≤n then some (l.toNat,n) else none
 |false,true,[.int _ h]=>if 0≤h∧h≤n then some (0,h.toNat) else none
 |false,false,[]=>some (0,n)
 |_,_,_=>none
def Ky.isInt:Ky→Bool
 |.i _ _=>true
 |_=>false
def Xd(z:PV)(ok int:Bool)(x k:PV):Option PV:=match x with
 |.nilm=>match OL k with
  |some k=>if k.isInt=int then some (if ok then .tuple [z.Ag,.bool false] else z.Ag) else none
  |none=>none
 |.mapv ks ws=>match OL k with
  |some k=>if ks.all (sameKind k)∧k.isInt=int then match findKey k ks ws with
    |some v=>if v.free then some (if ok then .tuple [v.Ag,.bool true] else v.Ag) else none
    |none=>some (if ok then .tuple [z.Ag,.bool false] else z.Ag)
   else none
  |none=>none
 |_=>none
def JD:BinOp→Bool
 |.shl | .shr=>true
 |_=>false
def J8(op:BinOp)(x y:PV):Option PV:=
 match x with
 |.int k a=>match y with
  |.int k' b=>if JD op then(match Go.binOp op 0 (.int k a) (.int k' b) with
    |.pure (.int k' n)=>some (.int k' n)
    |_=>none)
   else if k=k' then X0 op k a b else none
  |_=>none
 |.str a=>match y with
  |.str b=>qz op a b
  |_=>none
 |.bool a=>match y with
  |.bool b=>vQ op a b
  |_=>none
 |.func _ _ _=>match y with
  |.nilf=>match op with
   |.eql=>some (.bool false)
   |.neq=>some (.bool true)
   |_=>none
  |_=>none
 |.nilf=>match y with
  |.nilf=>match op with
   |.eql=>some (.bool true)
   |.neq=>some (.bool false)
   |_=>none
  |_=>none
 |_=>none
def eqC(t:Nat):PV→PV→Option Bool
 |.int k a,.int k' b=>if t=0∧k=k' then some (a==b) else none
 |.bool a,.bool b=>if t=1 then some (a==b) else none
 |.str a,.str b=>if t=2 then some (a==b) else none
 |_,_=>none
def eqL:List Nat→List PV→List PV→Option Bool
 |[],_,_=>some true
 |t::ts,x::xs,y::ys=>match eqC t x y with
  |some true=>eqL ts xs ys
  |some false=>some false
  |none=>none
 |_,_,_=>none
def ixV(n size:Nat)(ag:Bool)(x i:PV):Option PV:=match i with
 |.int _ z=>if 0≤z∧z<n then faV (z.toNat * size) size ag x else none
 |_=>none
def Nc:List PV→Option (List (IntKind×Int))
 |[]=>some []
 |c::r=>match c,Nc r with
  |.int k n,some l=>some ((k,n)::l)
  |_,_=>none
def MJ(d:KD)(p:PV):Option Kx:=match d with
 |.i k=>match p with
  |.int k' n=>if k'=k then some (.i k n) else none
  |_=>none
 |.s=>match p with
  |.str l=>some (.s l)
  |_=>none
 |.a l=>match p with
  |.agg cs=>match Nc cs with
   |some r=>if r.map (·.1)=l then some (.a r) else none
   |none=>none
  |_=>none
def IB:KD→Kx→Bool
 |.i k,.i k' _=>k'==k
 |.s,.s _=>true
 |.a l,.a r=>r.map (·.1)==l
 |_,_=>false
def UA:PV→PV→Bool
 |.int k a,.int k' b=>k==k'&&a==b
 |.bool a,.bool b=>a==b
 |.str a,.str b=>a==b
 |.nils,.nils | .nilp,.nilp | .nilm,.nilm | .nilf,.nilf | .nili,.nili=>true
 |_,_=>false
def Oo:List PV→List PV→Bool
 |[],[]=>true
 |x::xs,y::ys=>UA x y&&Oo xs ys
 |_,_=>false
def O9:PV→PV→Bool
 |.agg xs,.agg ys=>Oo xs ys
 |x,y=>UA x y
def FT(x:Kx):List Kx→Option Nat
 |[]=>none
 |k::ks=>if k=x then some 0 else(FT x ks).map (·+1)
def Gq(x:Kx)(ks:List Kx)(vs:List PV):Option PV:=(FT x ks).bind fun j=>vs[j]?
def mapOf(cs:Option (List PV)):Option (KD×PV×List Kx×List PV):=match cs with
 |some [.mapo d z ks vs]=>some (d,z,ks,vs)
 |_=>none
def lkR(ok:Bool)(v:PV)(b:Bool):Option (List (Option PV)):=
 if ok then(if v.flat||v.EF then some [some (.tuple [v.Ag,.bool b])] else none) else if v.free then some [some v.Ag] else none
inductive PK where
 |mv | mvo | pick
 |bx | bxl | zl (z:PV) | zi (n:Nat) | sti (n:Nat)
 |ldl (off n:Nat) (ag:Bool) | ldf (d n:Nat) (ag:Bool) | stl (off n:Nat) | stf (d n:Nat)
 |ldfo (d:Nat) | stfo (d:Nat)
 |fal (d off:Nat) | fa (off n:Nat) (ag:Bool) | ldp (n:Nat) (ag:Bool)
 |build (zero:List PV) (parts:List (Nat×Nat)) | bsl (size:Nat)
 |bin (op:BinOp) (c:Nat) | not | cvt (k:IntKind) | mkf (f:FuncId) (nf:Nat)
 |look (zero:PV) (ok int:Bool)
 |idx (size:Nat) | sidx | ssl (lo hi:Bool) | vsl (size:Nat) (lo hi:Bool) | len (str:Bool) | ext (i:Nat) | chk | min | max
 |app (size:Nat)
 |mkm | ins (key:Ky) (keys:List Ky) | mvb (keys:List Ky)
 |cvb | cvs
 |cvi | fld (off n:Nat) (ag:Bool) | no
 |cut0 | cap0
 |bse | snil (neq:Bool)
 |aeq (neq:Bool) (ts:List Nat) | ixa (n size:Nat) (ag:Bool) | ixl (d n size:Nat)
 |mkz (size:Nat) (z:PV) | pnil (neq:Bool)
 deriving Inhabited
def EJ(cs:List PV)(off:Nat)(x:List PV):List PV:=cs.take off++x++cs.drop (off+x.length)
def Sb:List PV→List (Nat×Nat)→List PV→Option (List PV)
 |cs,[],[]=>some cs
 |cs,(off,n)::ps,v::vs=>if v.cells.length=n∧off+n≤cs.length∧v.okt then Sb (EJ cs off v.Ag.cells) ps vs else none
 |_,_,_=>none
def Td(size:Nat):PV→Option (List PV)
 |.slice true sz es=>if sz=size then some es else none
 |.nils=>some []
 |_=>none
def Tc(size:Nat):PV→Option (List PV)
 |.slice _ sz xs=>if sz=size then some xs else none
 |.nils | .empt=>some []
 |.str l=>if size=1 then some (l.map fun b=>.int .u8 b.toNat) else none
 |_=>none
def dS(size:Nat)(s x:PV):Option (List (Option PV)):=
 match Td size s,Tc size x with
 |some es,some xs=>
  if xs.isEmpty then some [some s,some s.Ag]
  else if es.length+xs.length≤Cb∧xs.all PV.ones then some [some (.slice true size (es++xs)),some s.Ag] else none
 |_,_=>none
def AJ(k:PK)(vs:List PV):Option (List (Option PV)):=
 match k,vs with
 |.mv,[v]=>if v.free then some [some v.Ag] else none
 |.mvo,[v]=>if v.free then some [some v,some v.Ag] else none
 |.pick,[.bool c,a,b]=>let v:=if c then a else b;if v.free then some [some v.Ag] else none
 |.bx,[v]=>if v.flat then some [some (.vptr v.Ag)] else none
 |.bxl,[v]=>if v.okc then some [some v.Ag] else none
 |.zl z,[]=>some [some z]
 |.zi n,[]=>some [some (.hole n)]
 |.sti n,[.hole m,v]=>if m=n∧v.cells.length=n∧v.flat∧v.ones then some [some (.vptr v.Ag)] else none
 |.ldl off n ag,[c]=>(Tm c off n ag).map fun v=>[some v.Ag]
 |.ldf d n ag,[.lref s off,c]=>if s=d then(sub c off n ag).map fun v=>[some v.Ag] else none
 |.stl off n,[c,v]=>if v.cells.length=n∧v.okc∧v.ones then(upd c off v.Ag).map fun c'=>[some c'] else none
 |.stf d n,[.lref s off,c,v]=>if s=d∧v.cells.length=n∧v.okc∧v.ones then(upd c off v.Ag).map fun c'=>[some c'] else none
 |.ldfo d,[.lref s off,c]=>if s=d then match c.cells[off]? with
   |some v=>match v with
    |.slice _ _ _ | .nils=>(upd c off v.Ag).map fun c'=>[some v,some c']
    |_=>none
   |none=>none
  else none
 |.stfo d,[.lref s off,c,v]=>if s=d then match v with
   |.slice _ _ _ | .nils=>(upd c off v).map fun c'=>[some c',some v.Ag]
   |_=>none
  else none
 |.fal d off,[_]=>some [some (.lref d off)]
 |.fa off n ag,[x]=>(faV off n ag x).map fun v=>[some v]
 |.ldp n ag,[x]=>(ldV n ag x).map fun v=>[some v.Ag]
 |.build zero parts,vs=>(Sb zero parts vs).bind fun cs=>(Iu cs).map fun v=>[some v]
 |.bsl size,vs=>if vs.all (fun v=>v.cells.length==size&&v.flat) then some [some (.slice true size (vs.map PV.Ag))] else none
 |.bin op c,[x,y]=>if eQ c x then(J8 op x y).map fun v=>[some v] else none
 |.not,[.bool b]=>some [some (.bool !b)]
 |.cvt k,[.int _ n]=>some [some (.int k (k.wrap n))]
 |.mkf f nf,vs=>if vs.all (fun v=>v.flat||v.EF) then some [some (.func f ((vs.map PV.Ag).take nf) ((vs.map PV.Ag).drop nf))] else none
 |.look z ok int,[x,k]=>(Xd z ok int x k).map fun v=>[some v]
 |.mkm,[]=>some [some .mapb]
 |.ins key keys,[.mapb,k,v]=>match OL k with
  |some k'=>if k'=key∧keys.contains k'∧keys.all (sameKind k')∧v.flat then some [some (.tuple [k,v.Ag])] else none
  |none=>none
 |.mvb keys,.mapb::ps=>(entries keys ps).map fun vs=>[some (.mapv keys vs),none]
 |.cvb,[.str l]=>some [some (.slice false 1 (l.map fun b=>.int .u8 b.toNat))]
 |.cvi,[.slice true sz es]=>if sz=1 then some [some (.slice false 1 es),some (.slice false 1 es)] else none
 |.fld off n ag,[.agg cs]=>(sub (.agg cs) off n ag).map fun v=>[some v.Ag]
 |.idx size,[x,i]=>(K7 size x i).map fun v=>[some v]
 |.sidx,[x,i]=>(Wi x i).map fun v=>[some v]
 |.ssl lo hi,x::bs=>match x with
  |.str s=>(Tt lo hi s.length bs).map fun(l,h)=>[some (.str ((s.drop l).take (h - l)))]
  |_=>none
 |.vsl size lo hi,x::bs=>match x with
  |.slice _ sz es=>if sz=size then(Tt lo hi es.length bs).map fun(l,h)=>[some (.slice false sz ((es.drop l).take (h - l)))] else none
  |.arr id gen off len sz=>if sz=size then(Tt lo hi len bs).map fun(l,h)=>[some (.arr id gen (off+l) (h - l) sz)] else none
  |.nils=>(Tt lo hi 0 bs).map fun _=>[some .nils]
  |.empt=>(Tt lo hi 0 bs).map fun _=>[some .empt]
  |_=>none
 |.cut0,[x]=>match x with
  |.nils=>some [some .nils]
  |.slice _ _ _ | .arr _ _ _ _ _ | .empt=>some [some .empt]
  |_=>none
 |.bse,[]=>some [some .empt]
 |.snil ne,[x,.nils]=>match x with
  |.nils=>some [some (.bool (!ne))]
  |.slice _ _ _ | .arr _ _ _ _ _ | .empt=>some [some (.bool ne)]
  |_=>none
 |.cap0,[x]=>match x with
  |.nils | .empt=>some [some (.int .i64 0)]
  |_=>none
 |.len st,[x]=>(Xh st x).map fun v=>[some v]
 |.ext i,[.tuple vs]=>if vs.all PV.free then(vs[i]?).map fun v=>[some v.Ag] else none
 |.chk,[v]=>match v with
  |.vptr _ | .ref _ _ | .func _ _ _ | .aptr _ _ _ _ _=>some [some v]
  |_=>none
 |.min,[x,y]=>(jI x y).map fun v=>[some v]
 |.max,[x,y]=>(jK x y).map fun v=>[some v]
 |.app size,[s,x]=>dS size s x
 |.aeq ne ts,[.agg xs,.agg ys]=>(eqL ts xs ys).map fun b=>[some (.bool (b != ne))]
 |.ixa n size ag,[x,i]=>(ixV n size ag x i).map fun v=>[some v]
 |.mkz size z,[.int _ n,.int _ m]=>if n=m∧0≤n∧n≤Cb∧z.cells.length=size∧z.ones then some [some (.fresh size n.toNat z)] else none
 |.pnil ne,[x,.nilp]=>match x with
  |.nilp=>some [some (.bool (!ne))]
  |.vptr _ | .ref _ _ | .aptr _ _ _ _ _=>some [some (.bool ne)]
  |_=>none
 |.ixl d n size,[_,.int _ z]=>if 0≤z∧z<n then some [some (.lref d (z.toNat * size))] else none
 |_,_=>none
inductive RK where
 |ld (n:Nat) (ag:Bool)
 |lkM (z:PV) (ok:Bool) (d:KD) | lnM
 |enI
 deriving Inhabited
def K9(cs:List PV)(off n:Nat)(ag:Bool):Option PV:=
 match ag with
 |true=>if off+n≤cs.length then Iu ((cs.drop off).take n) else none
 |false=>match cs[off]? with
  |some x=>if x.isAgg||x.isSelf then none else some x
  |none=>none
def Dq(cs:List PV)(gen size:Nat):Option (List PV):=match cs with
 |[.arrv g sz es]=>if g=gen∧sz=size then some es else none
 |_=>none
def FC(o:Option (List PV)):Option (Nat×Nat×List Nat):=match o with
 |some [.itr mid since seen]=>some (mid,since,seen)
 |_=>none
def Kx.pv:Kx→PV
 |.i k n=>.int k n
 |.s l=>.str l
 |.a l=>.agg (l.map fun x=>PV.int x.1 x.2)
def Fe(n:Nat)(seen:List Nat):List Nat:=(List.range n).filter fun j=>!seen.contains j
def BR(k:RK)(vs:List PV)(σ:Sto):Option (List (Option PV)):=
 match k,vs with
 |.ld n ag,[.vptr v]=>(ldV n ag (.vptr v)).map fun v=>[some v.Ag]
 |.ld n ag,[.ref id off]=>match σ[id]? with
  |some cs=>(K9 cs off n ag).map fun v=>[some v.Ag]
  |none=>none
 |.ld n ag,[.aptr id gen size i off]=>match σ[id]? with
  |some cs=>match Dq cs gen size with
   |some es=>match es[i]? with
    |some e=>(Yg e off n ag).map fun v=>[some v.Ag]
    |none=>none
   |none=>none
  |none=>none
 |.lkM z ok d,[.mref id,k]=>match mapOf σ[id]?,MJ d k with
  |some (d',z',ks,vs),some x=>if d'=d∧O9 z z'=true then(match Gq x ks vs with
    |some v=>lkR ok v true
    |none=>lkR ok z' false) else none
  |_,_=>none
 |.lkM z ok d,[.nilm,k]=>match MJ d k with
  |some _=>lkR ok z false
  |none=>none
 |.lnM,[.mref id]=>match mapOf σ[id]? with
  |some (_,_,ks,_)=>some [some (.int .i64 ks.length)]
  |none=>none
 |.lnM,[.nilm]=>some [some (.int .i64 0)]
 |.enI,[.ref id 0]=>match FC σ[id]? with
  |some (mid,since,seen)=>match mapOf σ[mid]?,seen.getLast? with
   |some (_,_,ks,vs),some j=>match ks[j]?,vs[j]? with
    |some k,some v=>if ks.length=since∧(v.flat||v.EF)=true then some [some (.tuple [k.pv,v.Ag])] else none
    |_,_=>none
   |_,_=>none
  |none=>none
 |_,_=>none
inductive WK where
 |alO (z:List PV) | alB (t e:TypeId) | bxO | st (n:Nat) | ldo | sto
 |call (f:FuncId) | calld
 |Fa (size:Nat) | frz
 |mks (size:Nat) (z:PV) | appZ (size:Nat) (z:PV) | callz (f:FuncId) | ldz (n k:Nat)
 |mkM (z:PV) (d:KD) | upM (d:KD) | enM (z:PV) (d:KD) | esM
 |toA | bsA (size:Nat) | rgM | nxM
 |stO (n:Nat)
 deriving Inhabited
abbrev Caller:=FuncId→List PV→Sto→Option (PV×Sto)
def Gs(σ:Sto)(id gen off len size:Nat):Option (List PV):=match σ[id]? with
 |some cs=>match Dq cs gen size with
  |some es=>if off+len≤es.length then some ((es.drop off).take len) else none
  |none=>none
 |none=>none
def Jn(size:Nat)(σ:Sto):PV→Option (List PV)
 |.slice _ sz xs=>if sz=size then some xs else none
 |.nils | .empt=>some []
 |.arr id gen off len sz=>if sz=size then Gs σ id gen off len size else none
 |_=>none
def Fa(size:Nat)(s:PV)(xs:List PV)(σ:Sto):Option (List (Option PV)×Sto):=match s with
 |.nils=>if xs.isEmpty then some ([some .nils],σ)
  else if xs.length≤Cb∧xs.all PV.ones∧xs.all PV.okc then some ([some (.arr σ.length 0 0 xs.length size)],σ++[[.arrv 0 size (xs.map PV.Ag)]]) else none
 |.empt=>if xs.isEmpty then some ([some .empt],σ)
  else if xs.length≤Cb∧xs.all PV.ones∧xs.all PV.okc then some ([some (.arr σ.length 0 0 xs.length size)],σ++[[.arrv 0 size (xs.map PV.Ag)]]) else none
 |.arr id gen off len sz=>if sz=size then match Gs σ id gen off len size with
   |some es=>if xs.isEmpty then some ([some s],σ)
    else if len+xs.length≤Cb∧xs.all PV.ones∧xs.all PV.okc then
     some ([some (.arr id (gen+1) 0 (len+xs.length) size)],σ.set id [.arrv (gen+1) size (es++xs.map PV.Ag)])
    else none
   |none=>none
  else none
 |_=>none
def RP:List PV→Sto→Option (List PV×Sto)
 |[],σ=>some ([],σ)
 |c::cs,σ=>match c with
  |.arr id gen off len size=>match Gs σ id gen off len size with
   |some es=>if es.all (fun e=>e.flat&&e.cells.all PV.flat) then(RP cs (σ.set id [.dead])).map fun(vs,σ')=>(.slice false size es::vs,σ') else none
   |none=>none
  |c=>if c.flat then(RP cs σ).map fun(vs,σ')=>(c.D8::vs,σ') else none
def u7(r:PV)(σ:Sto):Option (PV×Sto):=match r with
 |.aggr cs=>(RP cs σ).map fun(vs,σ')=>(.agg vs,σ')
 |.arr id gen off len size=>match Gs σ id gen off len size with
  |some es=>if es.all (fun e=>e.flat&&e.cells.all PV.flat) then some (.slice false size es,σ.set id [.dead]) else none
  |none=>none
 |r=>some (r.Ag,σ)
mutual

def peq:PV→PV→Bool
 |.bool a,.bool b=>a==b
 |.int k n,.int k' n'=>decide (k=k')&&decide (n=n')
 |.str s,.str s'=>decide (s=s')
 |.nilp,.nilp | .nils,.nils | .nili,.nili | .self,.self | .dead,.dead | .nilm,.nilm | .mapb,.mapb | .nilf,.nilf | .empt,.empt=>true
 |.vptr v,.vptr v'=>peq v v'
 |.ref i o,.ref i' o'=>Nat.beq i i'&&Nat.beq o o'
 |.slice o s es,.slice o' s' es'=>o==o'&&(Nat.beq s s'&&OD es es')
 |.func f a b,.func f' a' b'=>Nat.beq f f'&&(OD a a'&&OD b b')
 |.agg cs,.agg cs' | .aggr cs,.aggr cs' | .tuple cs,.tuple cs'=>OD cs cs'
 |.arr a b c d e,.arr a' b' c' d' e'=>Nat.beq a a'&&(Nat.beq b b'&&(Nat.beq c c'&&(Nat.beq d d'&&Nat.beq e e')))
 |.aptr a b c d e,.aptr a' b' c' d' e'=>Nat.beq a a'&&(Nat.beq b b'&&(Nat.beq c c'&&(Nat.beq d d'&&Nat.beq e e')))
 |.arrv g s es,.arrv g' s' es'=>Nat.beq g g'&&(Nat.beq s s'&&OD es es')
 |.mref i,.mref i'=>Nat.beq i i'
 |.mapo d z ks vs,.mapo d' z' ks' vs'=>decide (d=d')&&(peq z z'&&(decide (ks=ks')&&OD vs vs'))
 |.itr a b c,.itr a' b' c'=>Nat.beq a a'&&(Nat.beq b b'&&decide (c=c'))
 |_,_=>false
def OD:List PV→List PV→Bool
 |[],[]=>true
 |v::vs,v'::vs'=>peq v v'&&OD vs vs'
 |_,_=>false
end
def Cq(pur:FuncId→Bool)(call:Caller)(k:WK)(vs:List PV)(σ:Sto):Option (List (Option PV)×Sto):=
 match k,vs with
 |.alO z,[]=>some ([some (.ref σ.length 0)],σ++[z])
 |.alB t e,[]=>some ([some (.ref σ.length 0)],σ++[[.bld t e []]])
 |.bxO,[v]=>if v.okc then some ([some (.ref σ.length 0)],σ++[v.Ag.cells]) else none
 |.st n,[.ref id off,v]=>match σ[id]? with
  |some cs=>if v.cells.length=n∧off+n≤cs.length∧v.okc∧v.ones∧cs.any PV.isSelf=false then some ([],σ.set id (EJ cs off v.Ag.cells)) else none
  |none=>none
 |.ldo,[.ref id off]=>match σ[id]? with
  |some cs=>match cs[off]? with
   |some v=>match v with
    |.slice _ _ _ | .nils=>some ([some v],σ.set id (EJ cs off [v.Ag]))
    |_=>none
   |none=>none
  |none=>none
 |.sto,[.ref id off,v]=>match σ[id]? with
  |some cs=>match v with
   |.slice _ _ _ | .nils=>if off+1≤cs.length∧cs.any PV.isSelf=false then some ([some v.Ag],σ.set id (EJ cs off [v])) else none
   |_=>none
  |none=>none
 |.st n,[.aptr id gen size i off,v]=>match σ[id]? with
  |some cs=>match Dq cs gen size with
   |some es=>match es[i]? with
    |some e=>if v.cells.length=n∧v.okc∧v.ones then(upd e off v.Ag).map fun e'=>([],σ.set id [.arrv gen size (es.set i e')]) else none
    |none=>none
   |none=>none
  |none=>none
 |.Fa size,[s,x]=>match Jn size σ x with
  |some xs=>Fa size s xs σ
  |none=>none
 |.frz,[.arr id gen off len size]=>match Gs σ id gen off len size with
  |some es=>if es.all (fun e=>e.flat&&e.cells.all PV.flat) then some ([some (.slice false size es)],σ.set id [.dead]) else none
  |none=>none
 |.frz,[.nils]=>some ([some .nils],σ)
 |.frz,[.empt]=>some ([some .empt],σ)
 |.mks size z,[.int _ n,.int _ m]=>if n=m∧0≤n∧n≤Cb∧z.cells.length=size∧z.ones then some ([some (.arr σ.length 0 0 n.toNat size)],σ++[[.arrv 0 size (List.replicate n.toNat z)]]) else none
 |.appZ size z,[.nils,.int _ n]=>if 0<n∧n≤Cb∧z.cells.length=size then some ([some (.arr σ.length 0 0 n.toNat size)],σ++[[.arrv 0 size (List.replicate n.toNat z)]]) else none
 |.callz f,vs=>if vs.all PV.free then(call f (vs.map PV.Ag) σ).bind fun(r,σ')=>(u7 r σ').map fun(r',σ'')=>([some r'],σ'') else none
 |.ldz n k,[.agg cs]=>match cs[k]? with
  |some (.arr id gen off len size)=>match Gs σ id gen off len size with
   |some es=>if es.all (fun e=>e.flat&&e.cells.all PV.flat) then(sub (.agg (cs.set k (.slice false size es))) 0 n true).map fun v=>([some v.Ag,some (.agg (cs.set k (.slice false size es)))],σ.set id [.dead]) else none
   |none=>none
  |_=>(sub (.agg cs) 0 n true).map fun v=>([some v.Ag,some (.agg cs)],σ)
 |.call f,vs=>if vs.all PV.free then
   if pur f then(if vs.all PV.flat then(call f (vs.map PV.Ag) []).bind fun(r,_)=>if r.flat then some ([some r.Ag],σ) else none else none)
   else(call f (vs.map PV.Ag) σ).map fun(r,σ')=>([some r.Ag],σ')
  else none
 |.calld,.func f fs cs::vs=>if vs.all PV.free then
   let az:=(fs++vs++cs).map PV.Ag
   if pur f then(if az.all PV.flat then(call f az []).bind fun(r,_)=>if r.flat then some ([some r.Ag],σ) else none else none)
   else(call f az σ).map fun(r,σ')=>([some r.Ag],σ')
  else none
 |.mkM z d,[]=>some ([some (.mref σ.length)],σ++[[.mapo d z.Ag [] []]])
 |.upM d,[.mref id,k,v]=>match mapOf σ[id]?,MJ d k with
  |some (d',z',ks,vs),some x=>if d'=d∧v.free then(match FT x ks with
    |some j=>some ([],σ.set id [.mapo d' z' ks (vs.set j v.Ag)])
    |none=>if ks.length<Cb then some ([],σ.set id [.mapo d' z' (ks++[x]) (vs++[v.Ag])]) else none) else none
  |_,_=>none
 |.enM z d,[.mref id,k]=>match mapOf σ[id]?,MJ d k with
  |some (d',z',ks,vs),some x=>if d'=d∧O9 z z'=true∧z'.flat then(match FT x ks with
    |some j=>match vs[j]? with
     |some v=>if v.flat||v.EF then some ([some (.tuple [v.Ag,.int .i64 j])],σ) else none
     |none=>none
    |none=>if ks.length<Cb∧vs.length=ks.length then some ([some (.tuple [z'.Ag,.int .i64 ks.length])],σ.set id [.mapo d' z' (ks++[x]) (vs++[z'])]) else none) else none
  |_,_=>none
 |.toA,[.fresh size n z]=>some ([some (.arr σ.length 0 0 n size),none],σ++[[.arrv 0 size (List.replicate n z)]])
 |.bsA size,vs=>if vs≠[]∧vs.all (fun v=>v.cells.length==size&&v.okc&&v.ones) then some ([some (.arr σ.length 0 0 vs.length size)],σ++[[.arrv 0 size (vs.map PV.Ag)]]) else none
 |.stO n,[.hole m,v]=>if m=n∧v.cells.length=n∧v.okc∧v.ones then some ([some (.ref σ.length 0)],σ++[v.Ag.cells]) else none
 |.rgM,[.mref id]=>match mapOf σ[id]? with
  |some (_,_,ks,_)=>some ([some (.ref σ.length 0)],σ++[[.itr id ks.length []]])
  |none=>none
 |.nxM,[.ref id 0]=>match FC σ[id]? with
  |some (mid,since,seen)=>match mapOf σ[mid]? with
   |some (_,_,ks,vs)=>if ks.length=since then match Fe since seen with
    |[]=>some ([some (.tuple [.bool false])],σ)
    |[j]=>match ks[j]?,vs[j]? with
     |some k,some v=>if(v.flat||v.EF)=true then some ([some (.tuple [.bool true,k.pv,v.Ag])],σ.set id [.itr mid since (seen++[j])]) else none
     |_,_=>none
    |_=>none
    else none
   |none=>none
  |none=>none
 |.esM,[.mref id,.int _ i,v]=>match mapOf σ[id]? with
  |some (d',z',ks,vs)=>if 0≤i∧i<vs.length∧v.free then some ([],σ.set id [.mapo d' z' ks (vs.set i.toNat v.Ag)]) else none
  |none=>none
 |_,_=>none
inductive AK where
 |p (k:PK) | r (k:RK) | w (k:WK)
 |c (f:FuncId)
 deriving Inhabited
def sem(pur:FuncId→Bool)(call:Caller)(k:AK)(vs:List PV)(σ:Sto):Option (List (Option PV)×Sto):=
 match k with
 |.p k=>(AJ k vs).map (·,σ)
 |.r k=>(BR k vs σ).map (·,σ)
 |.w k=>Cq pur call k vs σ
 |.c f=>if vs.all PV.free&&vs.all PV.flat then(call f (vs.map PV.Ag) []).bind fun(r,_)=>if r.flat then some ([some r.Ag],σ) else none else none
inductive Ct where
 |slot (t:Nat) | val (v:PV)
 deriving Inhabited
structure AOp where
 guard:Option (Nat×Bool):=none
 dst:Option Nat
 k:AK
 args:List Ct
 ex:List Nat:=[]
 clr:List Nat:=[]
 deriving Inhabited
def BJ(A:Frm):List Ct→Option (List PV)
 |[]=>some []
 |.slot t::r=>match A.get t,BJ A r with
  |some v,some vs=>some (v::vs)
  |_,_=>none
 |.val v::r=>(BJ A r).map (v::·)
def CV:Frm→List Nat→List (Option PV)→Frm
 |A,t::ts,v::vs=>CV (A.set t v) ts vs
 |A,_,_=>A
def AOp.wr(o:AOp):List Nat:=o.dst.toList++o.ex++o.clr
def Od:List Ct→List Nat
 |[]=>[]
 |.slot t::r=>t::Od r
 |.val _::r=>Od r
def AOp.rd(o:AOp):List Nat:=(match o.guard with | some (g,_)=>[g] | none=>[])++Od o.args
def Iy:PV:=.tuple []
def FK(A:Frm):Option (Nat×Bool)→Option Bool
 |none=>some true
 |some (g,b)=>match A.get g with
  |some (.bool c)=>some (c==b)
  |some (.tuple [])=>some false
  |_=>none
def BV(pur:FuncId→Bool)(call:Caller)(o:AOp)(A:Frm)(σ:Sto):Option (Frm×Sto):=
 match BJ A o.args with
 |some vs=>match sem pur call o.k vs σ with
  |some (rs,σ')=>
   if rs.length=o.dst.toList.length+o.ex.length then some (CV A o.wr (rs++o.clr.map fun _=>none),σ')
   else if o.dst.isNone∧o.ex=[]∧o.clr=[] then some (A,σ') else none
  |none=>none
 |none=>none
def FU(pur:FuncId→Bool)(call:Caller)(o:AOp)(A:Frm)(σ:Sto):Option (Frm×Sto):=
 match FK A o.guard with
 |some true=>BV pur call o A σ
 |some false=>if o.ex=[]∧o.clr=[] then some (CV A o.wr [some Iy],σ) else none
 |none=>none
def Gn(pur:FuncId→Bool)(call:Caller):List AOp→Frm→Sto→Option (Frm×Sto)
 |[],A,σ=>some (A,σ)
 |o::os,A,σ=>match FU pur call o A σ with
  |some (A',σ')=>Gn pur call os A' σ'
  |none=>none
def JB(o:AOp)(A:Frm)(σ:Sto):Option (List (Option PV)):=match FK A o.guard with
 |some true=>match o.k,BJ A o.args with
  |.r k,some vs=>BR k vs σ
  |_,_=>none
 |some false=>some []
 |none=>none
def K8:List (Option PV)→List (Option PV)→Bool
 |[],[]=>true
 |some v::r,some v'::r'=>peq v v'&&K8 r r'
 |_,_=>false
def Oe:Option (List (Option PV))→Option (List (Option PV))→Bool
 |some l,some l'=>K8 l l'
 |_,_=>false
def Kw(pur:FuncId→Bool)(call:Caller):List AOp→Frm→Sto→Option (List (Frm×Sto))
 |[],A,σ=>some [(A,σ)]
 |o::os,A,σ=>match FU pur call o A σ with
  |some (A',σ')=>(Kw pur call os A' σ').map ((A,σ)::·)
  |none=>none
def Vh(ops:List AOp)(tr:List (Frm×Sto))(lo:List (Nat×Nat)):Bool:=lo.all fun p=>match ops[p.2]?,tr[p.2]?,tr[p.1]?,tr[p.1+1]? with
 |some o,some (A,_),some (_,σ),some (_,σ')=>Oe (JB o A σ) (JB o A σ')
 |_,_,_,_=>false
def Gw(pur:FuncId→Bool)(call:Caller)(ops:List AOp)(lo:List (Nat×Nat))(A:Frm)(σ:Sto):Option (Frm×Sto):=match Kw pur call ops A σ with
 |some tr=>if Vh ops tr lo then tr.getLast? else none
 |none=>none
inductive Dc where
 |skip
 |region (ops:List AOp)
 |seq (a b:Dc)
 |cond (c:Ct) (t e:Dc)
 |block (id:Nat) (c:Dc)
 |loop (keep:List Bool) (c:Dc)
 |exit (id:Nat)
 |ret
 |draw (ops:List AOp) (lo:List (Nat×Nat))
 deriving Inhabited
inductive Bt where
 |normal | exit (id:Nat) | ret
 deriving DecidableEq,Inhabited
def mask(keep:List Bool)(A:Frm):Frm:=List.zipWith (fun b v=>if b then v else none) keep A
def iter(keep:List Bool)(body:Frm→Sto→Option (Bt×Frm×Sto)):Nat→Frm→Sto→Option (Bt×Frm×Sto)
 |0,_,_=>none
 |n+1,A,σ=>match body A σ with
  |some (.normal,A',σ')=>iter keep body n (mask keep A') σ'
  |r=>r
def F4(pur:FuncId→Bool)(call:Caller)(n:Nat):Dc→Frm→Sto→Option (Bt×Frm×Sto)
 |.skip,A,σ=>some (.normal,A,σ)
 |.region ops,A,σ=>(Gn pur call ops A σ).map (Bt.normal,·)
 |.draw ops lo,A,σ=>(Gw pur call ops lo A σ).map (Bt.normal,·)
 |.seq a b,A,σ=>match F4 pur call n a A σ with
  |some (.normal,A',σ')=>F4 pur call n b A' σ'
  |r=>r
 |.cond c t e,A,σ=>match BJ A [c] with
  |some [.bool true]=>F4 pur call n t A σ
  |some [.bool false]=>F4 pur call n e A σ
  |_=>none
 |.block id c,A,σ=>match F4 pur call n c A σ with
  |some (.exit i,A',σ')=>if i=id then some (.normal,A',σ') else some (.exit i,A',σ')
  |r=>r
 |.loop keep c,A,σ=>if keep.length=A.length then iter keep (F4 pur call n c) n (mask keep A) σ else none
 |.exit id,A,σ=>some (.exit id,A,σ)
 |.ret,A,σ=>some (.ret,A,σ)
structure Cy where
 nargs:Nat
 ntmps:Nat
 extra:Nat
 results:List (Nat×Option Nat)
 code:Dc
 deriving Inhabited
def Lg(v:PV):Option Nat→Bool
 |none=>v.free
 |some n=>fits n true v&&v.cells.all PV.flat
def Lh(v:PV):Option Nat→Option PV
 |none=>none
 |some n=>if fits n true v&&v.cells.all (fun c=>(c.flat||c.EF)&&c.one) then some (.aggr (v.cells.map PV.D8)) else none
def Fz(A:Frm):List (Nat×Option Nat)→Option (List PV)
 |[]=>some []
 |(t,n)::ts=>match A.get t,Fz A ts with
  |some v,some vs=>if Lg v n then some (v.Ag::vs) else(Lh v n).map fun r=>r::vs
  |_,_=>none
def Fu:List PV→Option PV
 |[v]=>some v
 |vs=>if vs.all PV.okt then some (.tuple vs) else none
def ZM(pur:FuncId→Bool)(call:Caller)(n:Nat)(fn:Cy)(args:List PV)(σ:Sto):Option (PV×Sto):=
 if args.length=fn.nargs∧args.length≤fn.ntmps then
  match F4 pur call n fn.code (args.map some++List.replicate (fn.ntmps+fn.extra - args.length) none) σ with
  |some (.normal,A,σ') | some (.ret,A,σ')=>(Fz A fn.results).bind fun vs=>(Fu vs).map fun r=>(r,σ')
  |_=>none
 else none
end Go.Abs

namespace Go.Abs
open Go.RowKit
inductive SK where
 |plain | box | imm | obj | mapb (keys:List Ky) | ent (m:Nat) (key:Ky)
 deriving DecidableEq,Inhabited
inductive Tag where
 |slot (t:Nat) (j:Option Nat)
 |obj (id:Nat) (j:Option Nat)
 deriving DecidableEq
structure Gh where
 I:Imm
 ω:Nat→Option Tag
 bl:Bl
structure Cx where
 K:Nat→Prop
 I0:Imm
 w0:World
 bl0:Bl
 kd:Nat→SK
 nt:Nat
 al:Nat→Option Nat
 ents:∀t m,(∃key,kd t=.ent m key)→∃keys,kd m=.mapb keys
 uniq:∀t t' m key,kd t=.ent m key→kd t'=.ent m key→t=t'
 ds:List Deferred:=[]
structure KOk(K:Nat→Prop)(w:World):Prop where
 lt:∀b,K b→b<w.heap.size
 tab:∀b cs,tabs b=some cs→K b∧∃t f,w.heap[b]?=some (.cells cs t f)
instance {K:Nat→Prop} {w:World}:CoeFun (KOk K w) (fun _=>∀b,K b→b<w.heap.size):=⟨KOk.lt⟩
structure Base(cx:Cx)(G:Gh)(w:World):Prop where
 keep:∀b,cx.K b→w.heap[b]?=cx.w0.heap[b]?
 same:Same cx.I0 cx.w0 w
 sub:∀b x,cx.I0 b x→G.I b x
 new:∀b x,G.I b x→cx.I0 b x∨¬cx.K b
 lt:∀b x,G.I b x→b<w.heap.size
 own:∀b tag,G.ω b=some tag→b<w.heap.size∧¬cx.K b
 Klt:KOk cx.K cx.w0
 grow:cx.w0.heap.size≤w.heap.size
 bl:cx.bl0.le G.bl
 os:w.os=cx.w0.os
 tape:w.tape=cx.w0.tape
 output:w.output=cx.w0.output
def mU(G:Gh)(w:World)(tag:Tag)(size:Nat)(c:Value)(n:Nat):Prop:=
 ∃b off cap cs elem,c=.slice (some ⟨b,off,none⟩) n cap∧G.ω b=some tag∧¬G.I b none∧(∀o,off+n * size≤o→¬G.I b (some o))∧
  w.heap[b]?=some (.cells cs elem (0,0))∧off+cap * size≤cs.size∧0<size∧n≤cap
def Eb(G:Gh)(w:World)(tag:Tag)(c:Value)(p:PV):Prop:=
 match p with
 |.slice true size es=>mU G w tag size c es.length
 |_=>True
def L8(G:Gh)(w:World)(b:Nat)(tag:Tag)(c:Value)(p:PV):Prop:=(Bu G.I G.bl w c p∧Eb G w tag c p)∨(p=.self∧c=.pointer (some ⟨b,0,none⟩))
def Fx(G:Gh)(w:World)(b:Nat)(tag:Option Nat→Tag)(cells:List PV):Prop:=
 G.ω b=some (tag none)∧(∀x,¬G.I b x)∧∃cs elem,w.heap[b]?=some (.cells cs elem (0,0))∧cs.size=cells.length∧
  ∀(j:Nat) (p:PV),cells[j]?=some p→L8 G w b (tag (some j)) (cs.getD j undef) p
def Ti(G:Gh)(w:World)(b:Nat)(tag:Tag)(n:Nat):Prop:=
 G.ω b=some tag∧(∀x,¬G.I b x)∧∃cs elem,w.heap[b]?=some (.cells cs elem (0,0))∧cs.size=n
def Oj(G:Gh)(w:World)(b:Nat)(tag:Tag)(size n:Nat)(z:PV):Prop:=
 G.ω b=some tag∧(∀x,¬G.I b x)∧0<size∧z.cells.length=size∧∃cs elem,w.heap[b]?=some (.cells cs elem (0,0))∧cs.size=n * size∧
  ∀(i j:Nat) (p:PV),i<n→z.cells[j]?=some p→Bu G.I G.bl w (cs.getD (i * size+j) undef) p
def Om(G:Gh)(w:World)(r:Nat)(tag:Tag)(keys:List Ky):Prop:=
 G.ω r=some tag∧(∀x,¬G.I r x)∧∃es clock,w.heap[r]?=some (.map es clock)∧(∀(i:Nat) (e:MapEntry),es[i]?=some e→∃k∈keys,e.key=k.val)∧
  (∀(i j:Nat) (e f:MapEntry),es[i]?=some e→es[j]?=some f→e.key=f.key→i=j)
def Ol(G:Gh)(w:World)(r:Nat)(tag:Tag)(k:Ky)(v:PV):Prop:=
 G.ω r=some tag∧∃(es:Array MapEntry) (clock i:Nat) (e:MapEntry),w.heap[r]?=some (.map es clock)∧es[i]?=some e∧e.key=k.val∧Rep G.I w e.val v
def at'(a:Act)(t:Nat):Value:=a.tmps.getD t undef
def DY(cx:Cx)(G:Gh)(a:Act)(w:World)(t:Nat)(v:PV):Prop:=
 match cx.kd t with
 |.box=>∃b,at' a t=.pointer (some ⟨b,0,none⟩)∧Fx G w b (.slot t) v.cells
 |.mapb keys=>v=.mapb∧∃r,at' a t=.map (some r)∧Om G w r (.slot t none) keys
 |.ent m key=>∃k x ky r,v=.tuple [k,x]∧OL k=some ky∧at' a m=.map (some r)∧Ol G w r (.slot m none) ky x∧ky=key
 |_=>match v with
  |.lref d off=>cx.kd d=.box∧cx.al t=some d∧∃b,at' a d=.pointer (some ⟨b,0,none⟩)∧at' a t=.pointer (some (Addr.add ⟨b,0,none⟩ off))
  |.hole n=>∃b,at' a t=.pointer (some ⟨b,0,none⟩)∧Ti G w b (.slot t none) n
  |.fresh size n z=>∃b,at' a t=.slice (some ⟨b,0,none⟩) n n∧Oj G w b (.slot t none) size n z
  |v=>Bu G.I G.bl w (at' a t) v∧Eb G w (.slot t none) (at' a t) v
def BOk(G:Gh)(w:World)(b id:Nat)(t e:TypeId)(l:List UInt8):Prop:=
 G.ω b=some (.obj id none)∧(∀x,¬G.I b x)∧∃p v,(p=.pointer none∨p=.pointer (some ⟨b,0,none⟩))∧w.heap[b]?=some (.cells #[p,v] t (0,0))∧
  w.ownsRow 0 e 1 v l.length (l.map fun c=>Value.int .u8 c.toNat)∧∀g,v.ownBlock=some g→g≠b∧G.ω g=some (.obj id (some 1))∧∀x,¬G.I g x
def L9(G:Gh)(w:World)(id gen size:Nat)(es:List PV):Prop:=
 ∃b base n cs elem,G.bl.ab id gen=some (b,base,n)∧(∀g,gen<g→G.bl.ab id g=none)∧G.ω b=some (.obj id none)∧(∀x,¬G.I b x)∧
  w.heap[b]?=some (.cells cs elem (0,0))∧cs.size=n∧0<size∧base+es.length * size≤n∧
  ∀(i:Nat) (e:PV),es[i]?=some e→e.cells.length=size∧∀(j:Nat) (p:PV),e.cells[j]?=some p→Bu G.I G.bl w (cs.getD (base+i * size+j) undef) p
def MW(G:Gh)(w:World)(b id:Nat)(d:KD)(ks:List Kx)(vs:List PV):Prop:=
 G.ω b=some (.obj id none)∧(∀x,¬G.I b x)∧(vs.length=ks.length∧ks.all (IB d)=true)∧∃es:Array MapEntry,w.heap[b]?=some (.map es es.size)∧es.size=ks.length∧
  ∀(j:Nat) (e:MapEntry),es[j]?=some e→e.born=j∧(ks[j]?).map Kx.val=some e.key∧∀p,vs[j]?=some p→Bu G.I G.bl w e.val p
def X9(G:Gh)(w:World)(b id mid since:Nat)(seen:List Nat):Prop:=
 G.ω b=some (.obj id none)∧(∀x,¬G.I b x)∧∃m,G.bl.l[mid]?=some m∧w.heap[b]?=some (.mapIter (some m) since seen.toArray since)
def Gx(G:Gh)(w:World)(id:Nat)(cs:List PV):Prop:=
 ∃b,G.bl.l[id]?=some b∧(Fx G w b (.obj id) cs∨(∃t e l,cs=[.bld t e l]∧BOk G w b id t e l)∨cs=[.dead] ∨
  (∃gen size es,cs=[.arrv gen size es]∧L9 G w id gen size es)∨(∃d z ks vs,cs=[.mapo d z ks vs]∧MW G w b id d ks vs)∨∃mid since seen,cs=[.itr mid since seen]∧X9 G w b id mid since seen)
structure Inv(cx:Cx)(G:Gh)(a:Act)(w:World)(A:Frm)(σ:Sto):Prop where
 defers:a.defers=cx.ds
 size:a.tmps.size=cx.nt
 room:cx.nt≤A.length
 base:Base cx G w
 slot:∀t v,A.get t=some v→DY cx G a w t v
 obj:∀(id:Nat) (cs:List PV),σ[id]?=some cs→Gx G w id cs
 len:G.bl.l.length=σ.length
 abl:∀id g a,G.bl.ab id g=some a→id<σ.length
def Sim(cx:Cx)(a:Act)(w:World)(A:Frm)(σ:Sto):Prop:=∃G,Inv cx G a w A σ
structure Ext(X:Tag→Prop)(G G':Gh)(w w':World):Prop where
 I:∀b x,G.I b x→G'.I b x
 same:Same G.I w w'
 bl:G.bl.le G'.bl
 ab:∀id,id<G.bl.l.length→(∀j,¬X (.obj id j))→∀g,G'.bl.ab id g=G.bl.ab id g
 fix:∀b tag,G.ω b=some tag→¬X tag→G'.ω b=some tag∧w'.heap[b]?=w.heap[b]?∧∀x,G'.I b x→G.I b x
theorem Ext.refl(X:Tag→Prop)(G:Gh)(w:World):Ext X G G w w:=
 ⟨fun _ _ h=>h,Same.refl _ _,Bl.le_refl _,fun _ _ _ _=>rfl,fun _ _ h _=>⟨h,rfl,fun _ h=>h⟩⟩
theorem Eb.ext{X:Tag→Prop}{G G':Gh}{w w':World}(h:Ext X G G' w w'){tag:Tag}(hX:¬X tag){c:Value}{p:PV}(ho:Eb G w tag c p):Eb G' w' tag c p:=by
 unfold Eb at *;split
 ·rename_i size es;obtain⟨b,off,cap,cs,elem,rfl,hω,h1,h2,h3,h4,h5,h6⟩:=ho;obtain⟨f1,f2,f3⟩:=h.fix b tag hω hX;exact⟨b,off,cap,cs,elem,rfl,f1,fun hi=>h1 (f3 _ hi),fun o ho hi=>h2 o ho (f3 _ hi),by rw[f2];exact h3,h4,h5,h6⟩
 ·trivial
theorem L8.ext{X:Tag→Prop}{G G':Gh}{w w':World}(h:Ext X G G' w w'){b:Nat}{tag:Tag}(hX:¬X tag){c:Value}{p:PV}(hc:L8 G w b tag c p):L8 G' w' b tag c p:=by
 rcases hc with⟨h1,h2⟩ | h1
 ·exact .inl ⟨h1.mono h.I h.same h.bl,h2.ext h hX⟩
 ·exact .inr h1
theorem L8.rep{G:Gh}{w:World}{b:Nat}{tag:Tag}{c:Value}{p:PV}(hc:L8 G w b tag c p)(hp:p≠.self):Bu G.I G.bl w c p∧Eb G w tag c p:=by
 rcases hc with h | ⟨h,_⟩
 ·exact h
 ·exact absurd h hp
theorem Fx.ext{X:Tag→Prop}{G G':Gh}{w w':World}(h:Ext X G G' w w'){b:Nat}{tag:Option Nat→Tag}(hX:∀j,¬X (tag j)){cells:List PV}(hc:Fx G w b tag cells):Fx G' w' b tag cells:=by
 obtain⟨hω,h1,cs,elem,h2,h3,h4⟩:=hc;obtain⟨f1,f2,f3⟩:=h.fix b _ hω (hX none);exact⟨f1,fun x hi=>h1 x (f3 x hi),cs,elem,by rw[f2];exact h2,h3,fun j p hp=>(h4 j p hp).ext h (hX _)⟩
theorem Ti.ext{X:Tag→Prop}{G G':Gh}{w w':World}(h:Ext X G G' w w'){b:Nat}{tag:Tag}(hX:¬X tag){n:Nat}(hc:Ti G w b tag n):Ti G' w' b tag n:=by
 obtain⟨hω,h1,cs,elem,h2,h3⟩:=hc;obtain⟨f1,f2,f3⟩:=h.fix b _ hω hX;exact⟨f1,fun x hi=>h1 x (f3 x hi),cs,elem,by rw[f2];exact h2,h3⟩
theorem Oj.ext{X:Tag→Prop}{G G':Gh}{w w':World}(h:Ext X G G' w w'){b:Nat}{tag:Tag}(hX:¬X tag){size n:Nat}{z:PV}(hc:Oj G w b tag size n z):Oj G' w' b tag size n z:=by
 obtain⟨hω,h1,h0,hz,cs,elem,h2,h3,h4⟩:=hc;obtain⟨f1,f2,f3⟩:=h.fix b _ hω hX;exact⟨f1,fun x hi=>h1 x (f3 x hi),h0,hz,cs,elem,by rw[f2];exact h2,h3,fun i j p hi hp=>(h4 i j p hi hp).mono h.I h.same h.bl⟩
theorem Om.ext{X:Tag→Prop}{G G':Gh}{w w':World}(h:Ext X G G' w w'){r:Nat}{tag:Tag}(hX:¬X tag){keys:List Ky}(hc:Om G w r tag keys):Om G' w' r tag keys:=by
 obtain⟨hω,h1,es,clock,h2,h3,h4⟩:=hc;obtain⟨f1,f2,f3⟩:=h.fix r _ hω hX;exact⟨f1,fun x hi=>h1 x (f3 x hi),es,clock,by rw[f2];exact h2,h3,h4⟩
theorem Ol.ext{X:Tag→Prop}{G G':Gh}{w w':World}(h:Ext X G G' w w'){r:Nat}{tag:Tag}(hX:¬X tag){k:Ky}{v:PV}(hc:Ol G w r tag k v):Ol G' w' r tag k v:=by
 obtain⟨hω,es,clock,i,e,h2,h3,h4,h5⟩:=hc;obtain⟨f1,f2,f3⟩:=h.fix r _ hω hX;exact⟨f1,es,clock,i,e,by rw[f2];exact h2,h3,h4,h5.mono h.I h.same⟩
theorem DY.ext{X:Tag→Prop}{cx:Cx}{G G':Gh}{a a':Act}{w w':World}(h:Ext X G G' w w'){t:Nat}(hX:∀j,¬X (.slot t j)){v:PV}
  (ht:at' a' t=at' a t) (hd:∀d off,v=.lref d off→cx.kd d=.box→at' a' d=at' a d)
  (hm:∀m,(∃key,cx.kd t=.ent m key)→at' a' m=at' a m∧¬X (.slot m none)) (hs:DY cx G a w t v):DY cx G' a' w' t v:=by
 unfold DY at *;rw[ht];cases hk:cx.kd t with
 |box=>
  rw[hk] at hs;obtain⟨b,h1,h2⟩:=hs;exact⟨b,h1,h2.ext h hX⟩
 |mapb keys=>
  rw[hk] at hs;obtain⟨h0,r,h1,h2⟩:=hs;exact⟨h0,r,h1,h2.ext h (hX _)⟩
 |ent m key=>
  rw[hk] at hs;obtain⟨k,x,ky,r,h0,h1,h2,h3,h4⟩:=hs;obtain⟨e1,e2⟩:=hm m ⟨_,hk⟩;exact⟨k,x,ky,r,h0,h1,by rw[e1];exact h2,h3.ext h e2,h4⟩
 |_=>
  rw[hk] at hs;dsimp only at hs ⊢;split
  ·rename_i d off;obtain⟨hb,hal,b,h1,h2⟩:=hs;exact⟨hb,hal,b,by rw[hd d off rfl hb];exact h1,h2⟩
  ·rename_i n;obtain⟨b,h1,h2⟩:=hs;exact⟨b,h1,h2.ext h (hX _)⟩
  ·obtain⟨b,h1,h2⟩:=hs;exact⟨b,h1,h2.ext h (hX _)⟩
  ·rename_i v h1 h2 h3
   split at hs
   ·exact absurd rfl (h1 _ _)
   ·exact absurd rfl (h2 _)
   ·exact absurd rfl (h3 _ _ _)
   ·exact⟨hs.1.mono h.I h.same h.bl,hs.2.ext h (hX _)⟩
theorem BOk.ext{X:Tag→Prop}{G G':Gh}{w w':World}(h:Ext X G G' w w'){b id:Nat}(hX:∀j,¬X (.obj id j)){t e:TypeId}{l:List UInt8}(ho:BOk G w b id t e l):BOk G' w' b id t e l:=by
 obtain⟨h1,h2,p,v,hp,h3,h4,h5⟩:=ho;obtain⟨f1,f2,f3⟩:=h.fix b _ h1 (hX _);refine⟨f1,fun x hx=>h2 x (f3 x hx),p,v,hp,by rw[f2];exact h3,?_,fun g hg=>?_⟩
 ·refine⟨h4.1,?_⟩
  rcases h4.2 with h | ⟨g,cap,cur,hv,hb,hg,r⟩
  ·exact .inl h
  ·subst hv;obtain⟨_,hω,_⟩:=h5 g rfl;obtain⟨_,g2,_⟩:=h.fix g _ hω (hX _);exact .inr ⟨g,cap,cur,rfl,hb,by rw[g2];exact hg,r⟩
 ·obtain⟨e1,e2,e3⟩:=h5 g hg;obtain⟨g1,_,g3⟩:=h.fix g _ e2 (hX _);exact⟨e1,g1,fun x hx=>e3 x (g3 x hx)⟩
theorem L9.ext{X:Tag→Prop}{G G':Gh}{w w':World}(h:Ext X G G' w w'){id gen size:Nat}(hl:id<G.bl.l.length)(hX:∀j,¬X (.obj id j)){es:List PV}(ho:L9 G w id gen size es):L9 G' w' id gen size es:=by
 obtain⟨b,base,n,cs,elem,h1,h2,h3,h4,h5,h6,h7,h8,h9⟩:=ho;obtain⟨f1,f2,f3⟩:=h.fix b _ h3 (hX _)
 exact⟨b,base,n,cs,elem,h.bl.2 _ _ _ h1,fun g hg=>(h.ab id hl hX g).trans (h2 g hg),f1,fun x hx=>h4 x (f3 x hx),by rw[f2];exact h5,h6,h7,h8,
  fun i e he=>⟨(h9 i e he).1,fun j p hp=>((h9 i e he).2 j p hp).mono h.I h.same h.bl⟩⟩
theorem MW.ext{X:Tag→Prop}{G G':Gh}{w w':World}(h:Ext X G G' w w'){b id:Nat}(hX:∀j,¬X (.obj id j)){d:KD}{ks:List Kx}{vs:List PV}(ho:MW G w b id d ks vs):MW G' w' b id d ks vs:=by
 obtain⟨hω,h1,h2,es,h3,h4,h5⟩:=ho;obtain⟨f1,f2,f3⟩:=h.fix b _ hω (hX none);exact⟨f1,fun x hi=>h1 x (f3 x hi),h2,es,by rw[f2];exact h3,h4,fun j e he=>⟨(h5 j e he).1,(h5 j e he).2.1,fun p hp=>((h5 j e he).2.2 p hp).mono h.I h.same h.bl⟩⟩
theorem X9.ext{X:Tag→Prop}{G G':Gh}{w w':World}(h:Ext X G G' w w'){b id:Nat}(hX:∀j,¬X (.obj id j)){mid since:Nat}{seen:List Nat}(ho:X9 G w b id mid since seen):X9 G' w' b id mid since seen:=by
 obtain⟨hω,h1,m,h2,h3⟩:=ho;obtain⟨f1,f2,f3⟩:=h.fix b _ hω (hX none);obtain⟨r,hr⟩:=h.bl.1;exact⟨f1,fun x hi=>h1 x (f3 x hi),m,by rw[←hr,Ae (Ab.1 h2).1];exact h2,by rw[f2];exact h3⟩
theorem Gx.ext{X:Tag→Prop}{G G':Gh}{w w':World}(h:Ext X G G' w w'){id:Nat}(hX:∀j,¬X (.obj id j)){cs:List PV}(ho:Gx G w id cs):Gx G' w' id cs:=by
 obtain⟨b,h1,h2⟩:=ho;have hid:=(Ab.1 h1).1;obtain⟨r,hr⟩:=h.bl.1;refine⟨b,?_,?_⟩
 ·rw[←hr,Ae (Ab.1 h1).1];exact h1
 ·rcases h2 with h2 | ⟨t,e,l,rfl,h2⟩ | h2 | ⟨gen,size,es,rfl,h2⟩ | ⟨d,z,ks,vs,rfl,h2⟩ | ⟨mid,since,seen,rfl,h2⟩
  ·exact .inl (h2.ext h hX)
  ·exact .inr (.inl ⟨t,e,l,rfl,h2.ext h hX⟩)
  ·exact .inr (.inr (.inl h2))
  ·exact .inr (.inr (.inr (.inl ⟨gen,size,es,rfl,h2.ext h hid hX⟩)))
  ·exact .inr (.inr (.inr (.inr (.inl ⟨d,z,ks,vs,rfl,h2.ext h hX⟩))))
  ·exact .inr (.inr (.inr (.inr (.inr ⟨mid,since,seen,rfl,h2.ext h hX⟩))))
theorem FO(a:Act)(d:Option Nat)(v:Value)(t:Nat)(h:d≠some t):at' (a.put d v) t=at' a t:=by
 cases d with
 |none=>rfl
 |some d=>
  have hne:d≠t:=fun e=>h (by rw[e])
  simp only[at',Act.put,Ah,Da hne]
theorem EL(a:Act)(d:Nat)(v:Value)(h:d<a.tmps.size):at' (a.put (some d) v) d=v:=by
 simp[at',Act.put,h]
theorem C8(A:Frm)(t:Nat)(v:Option PV)(s:Nat):Frm.get (A.set t v) s=if s=t∧t<A.length then v else A.get s:=by
 unfold Frm.get;by_cases h:s=t
 ·subst h;by_cases hl:s<A.length
  ·simp[hl]
  ·have h1:A[s]?=none:=AC (by omega)
   have h2:(List.set A s v)[s]?=none:=AC (by simp;omega)
   simp[hl]
 ·have hne:t≠s:=fun e=>h e.symm
  simp[Ap hne,h]
theorem Inv.forget{cx:Cx}{G:Gh}{a:Act}{w:World}{A A':Frm}{σ:Sto}(h:Inv cx G a w A σ)(hl:A'.length=A.length)(hg:∀t v,A'.get t=some v→A.get t=some v):Inv cx G a w A' σ:=
 ⟨h.defers,h.size,by rw[hl];exact h.room,h.base,fun t v hv=>h.slot t v (hg t v hv),h.obj,h.len,h.abl⟩
structure AzM(cx:Cx)(X:Tag→Prop)(dst:Option Nat)(t:Nat)(p:PV):Prop where
 ne:dst≠some t
 tag:∀j,¬X (.slot t j)
 lref:∀d off,p=.lref d off→cx.kd d=.box→dst≠some d
 ent:∀m,(∃key,cx.kd t=.ent m key)→dst≠some m∧¬X (.slot m none)
theorem Inv.step{cx:Cx}{G G':Gh}{a:Act}{w w':World}{A A':Frm}{σ σ':Sto}(X:Tag→Prop)(h:Inv cx G a w A σ)(dst:Option Nat)(v:Value)
  (he:Ext X G G' w w') (hb:Base cx G' w') (hl:A'.length=A.length)
  (hold:∀t p,A'.get t=some p→(A.get t=some p∧AzM cx X dst t p)∨DY cx G' (a.put dst v) w' t p)
  (hobj:∀(id:Nat) (cs:List PV),σ'[id]?=some cs→(σ[id]?=some cs∧∀j,¬X (.obj id j))∨Gx G' w' id cs)
  (hlen:G'.bl.l.length=σ'.length) (habl:∀id g a,G'.bl.ab id g=some a→id<σ'.length):Inv cx G' (a.put dst v) w' A' σ':=by
 refine⟨?_,?_,by rw[hl];exact h.room,hb,?_,?_,hlen,habl⟩
 ·cases dst<;>exact h.defers
 ·rw[←h.size];cases dst<;>simp[Act.put]
 ·intro t p hp;rcases hold t p hp with⟨h1,h2⟩ | h1
  ·exact(h.slot t p h1).ext he h2.tag (FO _ _ _ _ h2.ne) (fun d off e k=>FO _ _ _ _ (h2.lref d off e k))
    (fun m e=>⟨FO _ _ _ _ (h2.ent m e).1,(h2.ent m e).2⟩)
  ·exact h1
 ·intro id cs hc;rcases hobj id cs hc with⟨h1,h2⟩ | h1
  ·exact(h.obj id cs h1).ext he h2
  ·exact h1
end Go.Abs
