/- The engine, part 1: data, abstract values, what it means that they describe memory. Own work; no condition. -/
import Derived.WalkKit
import Derived.OrdersIn
import Derived.Test.YtkkccchkmcjcpaaGreatU0
set_option linter.defProp false
set_option linter.unusedVariables false
set_option linter.unusedSimpArgs false
set_option linter.unnecessarySimpa false
namespace Go.El
open Go Go.RowKit
abbrev FH:=Nat→Nat→Option Value
inductive ET where
 |int (k:IntKind)|bool|z|q|sl (T:ET)|pr (A B:ET)
@[reducible] def ET.den : ET → Type
 | .int _=>Int
 | .bool=>Bool
 | .z=>Int
 | .q=>Rat
 | .sl T=>List T.den
 | .pr A B=>A.den×B.den
@[reducible] def ET.eR : (T : ET) → T.den
 | .int _=>(0:Int)
 | .bool=>false
 | .z=>(0:Int)
 | .q=>(0:Rat)
 | .sl _=>[]
 | .pr A B=>(A.eR,B.eR)
@[reducible] def ET.n : ET → Nat
 | .int _=>1
 | .bool=>1
 | .z=>2
 | .q=>4
 | .sl _=>1
 | .pr A B=>A.n+B.n
def ET.DP:∀T:ET,0<T.n
 | .int _=>Nat.one_pos
 | .bool=>Nat.one_pos
 | .z=>Nat.two_pos
 | .q=>by decide
 | .sl _=>Nat.one_pos
 | .pr A B=>by have:=A.DP;simp only[ET.n];omega
def zJ:Nat→Nat→List Int
 |0,_=>[]
 |f+1,n=>if n=0 then[]else((n%4294967296:Nat):Int)::zJ f (n/4294967296)
def az(n:Nat):List Int:=zJ n n
def bN(z:Int):Bool:=decide (z<0)
def dc(z:Int):List Int:=az z.natAbs
def nt{α:Type}(R:α→List Value→Prop)(n:Nat)(H:FH)(xs:List α)(v:Value):Prop:=
 ∃a cap,v= .slice a xs.length cap∧xs.length≤cap∧xs.length*n≤140737488355328∧
  (xs=[]∨∃b off,a=some ⟨b,off,none⟩∧∀i(h:i<xs.length),∃cs,cs.length=n∧R xs[i] cs∧
   ∀j(hj:j<cs.length),H b (off+i*n+j)=some cs[j])
def DQ(H:FH)(ws:List Int)(v:Value):Prop:=nt (λn cs=>cs=[.int .u32 n]) 1 H ws v
def tQ(H:FH)(z:Int)(vs:List Value):Prop:=∃m,vs=[.bool (bN z),m]∧DQ H (dc z) m
def dm(H:FH):(T:ET)→T.den→List Value→Prop
 | .int k,n,vs=>vs=[.int k n]
 | .bool,b,vs=>vs=[.bool b]
 | .z,z,vs=>tQ H z vs
 | .q,r,vs=>∃a b,vs=a++b∧tQ H r.num a∧tQ H (r.den:Int) b
 | .sl T,xs,vs=>∃v,vs=[v]∧nt (dm H T) T.n H xs v
 | .pr A B,x,vs=>∃a b,vs=a++b∧dm H A x.1 a∧dm H B x.2 b
def cF(H H':FH):Prop:=∀b o v,H b o=some v→H' b o=some v
def cF.refl(H:FH):cF H H:=λ_ _ _ h=>h
def cF.trans{H1 H2 H3:FH}(h:cF H1 H2)(k:cF H2 H3):cF H1 H3:=λb o v e=>k b o v (h b o v e)
def nt.mono{α:Type}{R R':α→List Value→Prop}{n:Nat}{H H':FH}{xs:List α}{v:Value}(h:nt R n H xs v)
  (hl:cF H H') (hr:∀x cs,R x cs→R' x cs):nt R' n H' xs v:=by
 obtain⟨a,cap,e,h1,h2,h4⟩:=h
 refine⟨a,cap,e,h1,h2,?_⟩
 rcases h4 with h4|⟨b,off,ea,hc⟩
 ·exact .inl h4
 ·refine .inr ⟨b,off,ea,λi hi=>?_⟩;obtain⟨cs,l,r,c⟩:=hc i hi;exact⟨cs,l,hr _ _ r,λj hj=>hl _ _ _ (c j hj)⟩
def DQ.mono{H H':FH}{ws v}(h:DQ H ws v)(hl:cF H H'):DQ H' ws v:=nt.mono h hl λ_ _ h=>h
def tQ.mono{H H':FH}{z vs}(h:tQ H z vs)(hl:cF H H'):tQ H' z vs:=by obtain⟨m,e,h⟩:=h;exact⟨m,e,h.mono hl⟩
def dm.mono{H H':FH}(hl:cF H H'):∀(T:ET)(x:T.den)(vs:List Value),dm H T x vs→dm H' T x vs
 | .int _,_,_,h=>h
 | .bool,_,_,h=>h
 | .z,_,_,h=>tQ.mono h hl
 | .q,_,_,h=>by obtain⟨a,b,e,h1,h2⟩:=h;exact⟨a,b,e,h1.mono hl,h2.mono hl⟩
 | .sl T,_,_,h=>by obtain⟨v,e,h1⟩:=h;exact⟨v,e,h1.mono hl (λx cs=>dm.mono hl T x cs)⟩
 | .pr A B,_,_,h=>by obtain⟨a,b,e,h1,h2⟩:=h;exact⟨a,b,e,dm.mono hl A _ _ h1,dm.mono hl B _ _ h2⟩
def tQ.length{H z vs}(h:tQ H z vs):vs.length=2:=by obtain⟨m,rfl,_⟩:=h;rfl
def dm.length{H:FH}:∀(T:ET)(x:T.den)(vs:List Value),dm H T x vs→vs.length=T.n
 | .int _,_,_,h=>by simp only[dm]at h;subst h;rfl
 | .bool,_,_,h=>by simp only[dm]at h;subst h;rfl
 | .z,_,_,h=>tQ.length h
 | .q,_,_,h=>by obtain⟨a,b,rfl,h1,h2⟩:=h;simp[h1.length,h2.length]
 | .sl T,_,_,h=>by obtain⟨v,rfl,_⟩:=h;rfl
 | .pr A B,_,_,h=>by obtain⟨a,b,rfl,h1,h2⟩:=h;simp[dm.length A _ _ h1,dm.length B _ _ h2]
structure MP where
 p:FH→Value→Prop
 mono:∀H H' v,cF H H'→p H v→p H' v
inductive C where
 |any
 |B (b:Bool)
 |I (k:IntKind) (n:Int)
 |V (v:Value)
 |S (T:ET) (xs:List T.den)
 |P (id off:Nat)
 |X (id:Nat)
 |Y (id:Nat) (n i off:Nat)
 |E (T:ET) (x:T.den) (off:Nat)
 |M (m:MP)
 |L (id off len:Nat) (cap:Option Nat)
 |W (id off len:Nat)
inductive AV where
 |c (x:C)
 |a (cs:List C)
 |t (vs:List (Bool×List C))
def av:(T:ET)→T.den→List C
 | .int k,n=>[.I k n]
 | .bool,b=>[.B b]
 | .z,z=>[.B (bN z),.S (.int .u32) (dc z)]
 | .q,r=>[.B (bN r.num),.S (.int .u32) (dc r.num),.B (bN (r.den:Int)),.S (.int .u32) (dc (r.den:Int))]
 | .sl T,xs=>[.S T xs]
 | .pr A B,x=>av A x.1++av B x.2
structure Gh where
 H:FH
 γ:Nat→Value
def cQ:Value→Option Nat
 | .pointer (some a)=>some a.block
 | .slice (some a) _ _=>some a.block
 |_=>none
def dt(g:Gh):C→Value→Prop
 | .any,_=>True
 | .B b,v=>v= .bool b
 | .I k n,v=>v= .int k n
 | .V u,v=>v=u
 | .S T xs,v=>nt (dm g.H T) T.n g.H xs v
 | .P id off,v=>∃b,cQ (g.γ id)=some b∧v= .pointer (some ⟨b,off,none⟩)
 | .X id,v=>v=g.γ id
 | .Y id n i off,v=>∃b len cap,g.γ id= .slice (some ⟨b,0,none⟩) len cap∧v= .pointer (some ⟨b,i*n+off,none⟩)
 | .E T x off,v=>∃b o cs,v= .pointer (some ⟨b,o+off,none⟩)∧dm g.H T x cs∧∀j(hj:j<cs.length),g.H b (o+j)=some cs[j]
 | .M m,v=>m.p g.H v
 | .L id off len (some c),v=>∃b,cQ (g.γ id)=some b∧v= .slice (some ⟨b,off,none⟩) len c
 | .L id off len none,v=>off=0∧∃b c,g.γ id= .slice (some ⟨b,0,none⟩) 0 c∧v= .slice (some ⟨b,0,none⟩) len c∧len≤c
 | .W id off len,v=>∃b c,cQ (g.γ id)=some b∧v= .slice (some ⟨b,off,none⟩) len c∧len≤c
def bU(g:Gh):List C→List Value→Prop
 |[],vs=>vs=[]
 |c::cs,vs=>∃v r,vs=v::r∧dt g c v∧bU g cs r
def Bx(g:Gh):Bool×List C→Value→Prop
 | (true,cs),v=>∃vs,v= .agg vs.toArray∧bU g cs vs
 | (false,[c]),v=>dt g c v
 | (false,_),_=>False
def dv(g:Gh):List (Bool×List C)→List Value→Prop
 |[],vs=>vs=[]
 |s::ss,vs=>∃v r,vs=v::r∧Bx g s v∧dv g ss r
def bP(g:Gh):AV→Value→Prop
 | .c x,v=>dt g x v
 | .a cs,v=>∃vs,v= .agg vs.toArray∧bU g cs vs
 | .t ss,v=>∃vs,v= .tuple vs.toArray∧dv g ss vs
def bU.length{g:Gh}:∀{cs:List C}{vs:List Value},bU g cs vs→vs.length=cs.length
 |[],_,h=>by simp only[bU]at h;subst h;rfl
 |_::cs,_,h=>by obtain⟨v,r,rfl,_,h⟩:=h;simp[bU.length h]
def bU.append{g:Gh}:∀{cs ds:List C}{vs us:List Value},bU g cs vs→bU g ds us→bU g (cs++ds) (vs++us)
 |[],_,_,_,h,k=>by simp only[bU]at h;subst h;exact k
 |_::cs,_,_,_,h,k=>by obtain⟨v,r,rfl,h1,h2⟩:=h;exact⟨v,_,ae,h1,bU.append h2 k⟩
def agY{g:Gh}{ws v}(h:DQ g.H ws v):dt g (.S (.int .u32) ws) v:=h
def KP{g:Gh}{z vs}(h:tQ g.H z vs):bU g (av .z z) vs:=by obtain⟨m,rfl,h⟩:=h;exact⟨_,_,ae,ae,_,_,ae,agY h,ae⟩
def DR{g:Gh}:∀(T:ET)(x:T.den)(vs:List Value),dm g.H T x vs→bU g (av T x) vs
 | .int _,_,_,h=>by simp only[dm]at h;subst h;exact⟨_,_,ae,ae,ae⟩
 | .bool,_,_,h=>by simp only[dm]at h;subst h;exact⟨_,_,ae,ae,ae⟩
 | .z,_,_,h=>KP h
 | .q,r,_,h=>by obtain⟨a,b,rfl,h1,h2⟩:=h;exact bU.append (KP h1) (KP h2)
 | .sl T,_,_,h=>by obtain⟨v,rfl,h⟩:=h;exact⟨_,_,ae,h,ae⟩
 | .pr A B,_,_,h=>by obtain⟨a,b,rfl,h1,h2⟩:=h;exact bU.append (DR A _ _ h1) (DR B _ _ h2)
def GP{g:Gh}:∀{cs ds:List C}{vs:List Value},bU g (cs++ds) vs→∃a b,vs=a++b∧bU g cs a∧bU g ds b
 |[],_,vs,h=>⟨[],vs,ae,ae,h⟩
 |_::cs,_,_,h=>by obtain⟨v,r,rfl,h1,h2⟩:=h;obtain⟨a,b,rfl,h3,h4⟩:=GP h2;exact⟨v::a,b,ae,⟨v,a,ae,h1,h3⟩,h4⟩
def PO{g:Gh}{z vs}(h:bU g (av .z z) vs):tQ g.H z vs:=by obtain⟨v,r,rfl,h1,m,r',rfl,h2,h3⟩:=h;simp only[bU]at h3;simp only[dt]at h1;subst h3 h1;exact⟨m,ae,h2⟩
def zK{g:Gh}:∀(T:ET)(x:T.den)(vs:List Value),bU g (av T x) vs→dm g.H T x vs
 | .int _,_,_,h=>by obtain⟨v,r,rfl,h1,h2⟩:=h;simp only[bU]at h2;simp only[dt]at h1;subst h1 h2;rfl
 | .bool,_,_,h=>by obtain⟨v,r,rfl,h1,h2⟩:=h;simp only[bU]at h2;simp only[dt]at h1;subst h1 h2;rfl
 | .z,_,_,h=>PO h
 | .q,r,vs,h=>by obtain⟨a,b,rfl,h1,h2⟩:=GP (cs:=av .z r.num) (ds:=av .z (r.den:Int)) h;exact⟨a,b,ae,PO h1,PO h2⟩
 | .sl T,_,_,h=>by obtain⟨v,r,rfl,h1,h2⟩:=h;simp only[bU]at h2;subst h2;exact⟨v,ae,h1⟩
 | .pr A B,x,vs,h=>by obtain⟨a,b,rfl,h1,h2⟩:=GP (cs:=av A x.1) (ds:=av B x.2) h;exact⟨a,b,ae,zK A _ _ h1,zK B _ _ h2⟩
def C.aD:C→List Nat
 | .P id _=>[id]
 | .X id=>[id]
 | .Y id _ _ _=>[id]
 | .L id _ _ _=>[id]
 | .W id _ _=>[id]
 |_=>[]
def cD:List C→List Nat
 |[]=>[]
 |c::cs=>c.aD++cD cs
def fJ:List (Bool×List C)→List Nat
 |[]=>[]
 |s::ss=>cD s.2++fJ ss
def AV.aD:AV→List Nat
 | .c x=>x.aD
 | .a cs=>cD cs
 | .t ss=>fJ ss
structure iL(known:Nat→Prop)(g g':Gh):Prop where
 H:cF g.H g'.H
 γ:∀id,known id→g'.γ id=g.γ id
def dt.mono{known:Nat→Prop}{g g':Gh}(hl:iL known g g'):∀{c:C}{v:Value},(∀id∈c.aD,known id)→dt g c v→dt g' c v
 | .any,_,_,_=>trivial
 | .B _,_,_,h=>h
 | .I _ _,_,_,h=>h
 | .V _,_,_,h=>h
 | .S T _,_,_,h=>nt.mono h hl.H (λx cs=>dm.mono hl.H T x cs)
 | .P id _,_,hk,h=>by obtain⟨b,e,h⟩:=h;exact⟨b,by rw[hl.γ id (hk id Gi)];exact e,h⟩
 | .X id,_,hk,h=>by simp only[dt]at h⊢;rw[hl.γ id (hk id Gi)];exact h
 | .Y id _ _ _,_,hk,h=>by obtain⟨b,l,c,e,h⟩:=h;exact⟨b,l,c,by rw[hl.γ id (hk id Gi)];exact e,h⟩
 | .E T _ _,_,_,h=>by obtain⟨b,o,cs,e,h1,h2⟩:=h;exact⟨b,o,cs,e,dm.mono hl.H T _ _ h1,λj hj=>hl.H _ _ _ (h2 j hj)⟩
 | .M m,_,_,h=>m.mono _ _ _ hl.H h
 | .L id _ _ (some _),_,hk,h=>by obtain⟨b,e,h⟩:=h;exact⟨b,by rw[hl.γ id (hk id Gi)];exact e,h⟩
 | .L id _ _ none,_,hk,h=>by obtain⟨h0,b,c,e,h⟩:=h;exact⟨h0,b,c,by rw[hl.γ id (hk id Gi)];exact e,h⟩
 | .W id _ _,_,hk,h=>by obtain⟨b,c,e,h⟩:=h;exact⟨b,c,by rw[hl.γ id (hk id Gi)];exact e,h⟩
def bU.mono{known:Nat→Prop}{g g':Gh}(hl:iL known g g'):∀{cs:List C}{vs:List Value},(∀id∈cD cs,known id)→bU g cs vs→bU g' cs vs
 |[],_,_,h=>h
 |_::_,_,hk,h=>by obtain⟨v,r,e,h1,h2⟩:=h;exact⟨v,r,e,dt.mono hl (λid al=>hk id (by simp[cD,al])) h1,bU.mono hl (λid al=>hk id (by simp[cD,al])) h2⟩
def Bx.mono{known:Nat→Prop}{g g':Gh}(hl:iL known g g'):∀{s:Bool×List C}{v:Value},(∀id∈cD s.2,known id)→Bx g s v→Bx g' s v
 | (true,_),_,hk,h=>by obtain⟨vs,e,h⟩:=h;exact⟨vs,e,bU.mono hl hk h⟩
 | (false,[c]),_,hk,h=>dt.mono hl (λid al=>hk id (by simp[cD,al])) h
 | (false,[]),_,_,h=>h
 | (false,_::_::_),_,_,h=>h
def dv.mono{known:Nat→Prop}{g g':Gh}(hl:iL known g g'):∀{cs:List (Bool×List C)}{vs:List Value},(∀id∈fJ cs,known id)→dv g cs vs→dv g' cs vs
 |[],_,_,h=>h
 |_::_,_,hk,h=>by obtain⟨v,r,e,h1,h2⟩:=h;exact⟨v,r,e,Bx.mono hl (λid al=>hk id (by simp[fJ,al])) h1,dv.mono hl (λid al=>hk id (by simp[fJ,al])) h2⟩
def bP.mono{known:Nat→Prop}{g g':Gh}(hl:iL known g g'):∀{x:AV}{v:Value},(∀id∈x.aD,known id)→bP g x v→bP g' x v
 | .c _,_,hk,h=>dt.mono hl hk h
 | .a _,_,hk,h=>by obtain⟨vs,e,h⟩:=h;exact⟨vs,e,bU.mono hl hk h⟩
 | .t _,_,hk,h=>by obtain⟨vs,e,h⟩:=h;exact⟨vs,e,dv.mono hl hk h⟩
end Go.El
namespace Go.El
def val:List Int→Int
 |[]=>0
 |w::r=>w+4294967296*val r
def bV(ws:List Int):Prop:=∀w∈ws,0≤w∧w<4294967296
def PQ:bV []:=λ_ h=>by cases h
def zL{w:Int}{ws:List Int}:bV (w::ws)↔(0≤w∧w<4294967296)∧bV ws:=by simp[bV]
def jY{ws:List Int}(h:bV ws)(n:Nat):bV (ws.take n):=λw hw=>h w (Kx hw)
def zM{ws:List Int}(h:bV ws)(n:Nat):bV (ws.drop n):=λw hw=>h w (List.mem_of_mem_drop hw)
def PR{a b:List Int}(h:bV a)(k:bV b):bV (a++b):=λw hw=>(b6.mp hw).elim (h w) (k w)
def zN{ws:List Int}(h:bV ws)(i:Nat){w:Int}(hw:0≤w∧w<4294967296):bV (ws.set i w):=λx hx=>(List.mem_or_eq_of_mem_set hx).elim (h x) (λe=>e▸hw)
def sJ(n:Nat):bV (List.replicate n 0):=λw hw=>by have:=Kr hw;subst this;decide
def dd{ws:List Int}(h:bV ws)(i:Nat):0≤ws.getD i 0∧ws.getD i 0<4294967296:=by
 by_cases hi:i<ws.length
 ·simp only[aU,cr hi,DG];exact h _ (k6 hi)
 ·simp[aU,nn (GF hi)]
def DS(a b:List Int):val (a++b)=val a+4294967296^a.length*val b:=by
 induction a with
 |nil=>simp[val]
 |cons w r ih=>simp only[mX,val,ih,fv,fU];grind
def agZ(ws:List Int)(i:Nat)(h:i<ws.length):val (ws.take (i+1))=val (ws.take i)+ws.getD i 0*4294967296^i:=by rw[uV,DS,fI,tN (KG h)];simp[cr h,val,aU];grind
def nv(ws:List Int)(i:Nat)(h:ws.length≤i):val (ws.take i)=val ws:=by rw[lI h]
def lh(ws:List Int)(i:Nat):val (ws.take (i+1))=val (ws.take i)+ws.getD i 0*4294967296^i:=by
 by_cases h:i<ws.length
 ·exact agZ ws i h
 ·rw[nv ws _ af,nv ws i af];simp[aU,nn (GF h)]
def PU(ws:List Int)(i:Nat)(w:Int)(h:i<ws.length):val (ws.set i w)=val ws+(w-ws.getD i 0)*4294967296^i:=by
 induction ws generalizing i with
 |nil=>simp at h
 |cons x r ih=>
  cases i with
  |zero=>simp[val];omega
  |succ i=>
   have:=ih i cq
   simp only[Ky,val,this,List.getD_cons_succ,fU];grind
def wK(n:Nat):val (List.replicate n 0)=0:=by
 induction n with
 |zero=>rfl
 |succ n ih=>simp[wC,val,ih]
def mz{ws:List Int}(h:bV ws):0≤val ws:=by
 induction ws with
 |nil=>exact jB _
 |cons w r ih=>
  obtain⟨h1,h2⟩:=zL.mp h
  have:=ih h2
  simp only[val];omega
def nX{ws:List Int}(h:bV ws):val ws<4294967296^ws.length:=by
 induction ws with
 |nil=>decide
 |cons w r ih=>
  obtain⟨h1,h2⟩:=zL.mp h
  have:=ih h2
  simp only[val,fv,fU];omega
def ag0:∀(f g n:Nat),n≤f→n≤g→zJ f n=zJ g n:=by
 intro f;induction f with
 |zero=>
  intro g n h _;have:n=0:=by omega
  subst this;cases g<;>simp[zJ]
 |succ f ih=>
  intro g n h1 h2
  cases g with
  |zero=>
   have:n=0:=by omega
   subst this;simp[zJ]
  |succ g=>
   simp only[zJ]
   split
   ·rfl
   ·rw[ih g (n/4294967296) af af]
def DT:az 0=[]:=rfl
def x6{n:Nat}(h:n≠0):az n=((n%4294967296:Nat):Int)::az (n/4294967296):=by
 unfold az;obtain⟨m,rfl⟩:∃m,n=m+1:=⟨n-1,by omega⟩;conv=>lhs;unfold zJ
 rw[aq h,ag0 m _ _ af (bD _)]
def ff(n:Nat):val (az n)=n:=by
 induction n using Nat.strongRecOn with
 |ind n ih=>
  by_cases h:n=0
  ·subst h;rfl
  ·rw[x6 h];simp only[val,ih (n/4294967296) af];omega
def eK(n:Nat):bV (az n):=by
 induction n using Nat.strongRecOn with
 |ind n ih=>
  by_cases h:n=0
  ·subst h;exact PQ
  ·rw[x6 h];exact zL.mpr ⟨by omega,ih _ af⟩
def can(ws:List Int):Prop:=ws=[]∨ws.getD (ws.length-1) 0≠0
def ag1{ws:List Int}(h:bV ws)(hc:can ws):ws=az (val ws).toNat:=by
 induction ws with
 |nil=>rfl
 |cons w r ih=>
  obtain⟨h1,h2⟩:=zL.mp h
  have hr:can r:=by
   cases r with
   |nil=>exact .inl ae
   |cons x s=>exact .inr (by rcases hc with hc|hc;cases hc;simpa using hc)
  have hv:=mz h2
  have aR:(val (w::r)).toNat≠0:=by
   simp only[val];intro h0;have h3:w=0∧val r=0:=af;cases r with
   |nil=>rcases hc with hc|hc;cases hc;simp at hc;exact hc h3.1
   |cons x s=>
    have:=ih h2 hr
    rw[h3.2]at this
    exact absurd this (by simp[DT])
  rw[x6 aR]
  have e1:(val (w::r)).toNat/4294967296=(val r).toNat:=by simp only[val];omega
  have e2:(((val (w::r)).toNat%4294967296:Nat):Int)=w:=by simp only[val];omega
  rw[e1,e2,←ih h2 hr]
def u9(n:Nat):can (az n):=by
 induction n using Nat.strongRecOn with
 |ind n ih=>
  by_cases h:n=0
  ·subst h;exact .inl ae
  ·rw[x6 h];refine .inr ?_;by_cases h2:n/4294967296=0
   ·rw[h2,DT];simp;omega
   ·have:=ih (n/4294967296) af;rcases this with h3|h3
    ·exfalso;have:=ff (n/4294967296);rw[h3]at this;simp[val]at this;omega
    ·cases hw:az (n/4294967296)with
     |nil=>rw[hw]at h3;simp at h3
     |cons x s=>rw[hw]at h3;simpa using h3
def iM(ws:List Int):Nat→Nat
 |0=>0
 |n+1=>if ws.getD n 0=0 then iM ws n else n+1
def a7(ws:List Int):List Int:=ws.take (iM ws ws.length)
def WY(ws:List Int):∀n,iM ws n≤n
 |0=>bD _
 |n+1=>by simp only[iM];split;exact Nat.le_succ_of_le (WY ws n);exact bD _
def WZ(ws:List Int):∀n,val (ws.take (iM ws n))=val (ws.take n)
 |0=>rfl
 |n+1=>by
  simp only[iM];split
  ·rename_i h;rw[WZ ws n,lh,h];omega
  ·rfl
def W0(ws:List Int):∀n,iM ws n=0∨ws.getD (iM ws n-1) 0≠0
 |0=> .inl ae
 |n+1=>by
  simp only[iM];split
  ·exact W0 ws n
  ·rename_i h;exact .inr cq
def W4(ws:List Int):val (a7 ws)=val ws:=by unfold a7;rw[WZ,iK]
def W5{ws:List Int}(h:bV ws):bV (a7 ws):=jY h _
def W6(ws:List Int):can (a7 ws):=by
 unfold a7 can;have h1:=WY ws ws.length;rcases W0 ws ws.length with h|h
 ·left;rw[h];rfl
 ·by_cases h0:iM ws ws.length=0
  ·left;rw[h0];rfl
  ·right;rw[fI,tN h1,aU,Du af,←aU];exact h
def qn{ws:List Int}(h:bV ws):a7 ws=az (val ws).toNat:=by have:=ag1 (W5 h) (W6 ws);rwa[W4]at this
def PV(n:Nat):a7 (az n)=az n:=by rw[qn (eK n),ff];simp
def va{n:Nat}:(n:Int)<4294967296^(az n).length:=by have:=nX (eK n);rwa[ff]at this
def jZ(n:Nat):(0:Int)<4294967296^n:=sI ak
def vb{m n:Nat}(h:m≤n):(4294967296:Int)^m≤4294967296^n:=by obtain⟨k,rfl⟩:=Nat.exists_eq_add_of_le h;rw[Int.pow_add];have h1:=jZ m;have h2:=jZ k;have:(4294967296:Int)^m*1≤4294967296^m*4294967296^k:=jx af af;omega
def KQ{ws:List Int}(h:bV ws)(hc:can ws)(aR:ws≠[]):(4294967296:Int)^(ws.length-1)≤val ws:=by have h0:0<ws.length:=cZ.mpr aR;have h1:=lh ws (ws.length-1);rw[Nat.sub_add_cancel h0,iK]at h1;have h2:ws.getD (ws.length-1) 0≠0:=hc.resolve_left aR;have h3:=dd h (ws.length-1);have h4:=mz (jY h (ws.length-1));have h5:=jZ (ws.length-1);have h6:1*(4294967296:Int)^(ws.length-1)≤ws.getD (ws.length-1) 0*4294967296^(ws.length-1):=jI af af;omega
def By{n k:Nat}(h:(n:Int)<4294967296^k):(az n).length≤k:=by
 apply Decidable.byContradiction;intro hk;have aR:az n≠[]:=by intro h0;rw[h0]at hk;simp at hk
 have h1:=KQ (eK n) (u9 n) aR;rw[ff]at h1;have h2:(4294967296:Int)^k≤4294967296^((az n).length-1):=vb af;omega
def KR{a b:List Int}(ha:bV a)(hb:bV b)(hc:can b)(h:a.length<b.length):val a<val b:=by have h1:=nX ha;have h2:=KQ hb hc (by intro h0;rw[h0]at h;simp at h);have h3:(4294967296:Int)^a.length≤4294967296^(b.length-1):=vb af;omega
def KS{a b:List Int}(ha:bV a)(hb:bV b)(i:Nat)(hd:a.drop (i+1)=b.drop (i+1))(hl:a.length=b.length)(hi:i<a.length)(h:a.getD i 0<b.getD i 0):val a<val b:=by
 have e1:val a=val (a.take (i+1))+4294967296^(i+1)*val (a.drop (i+1)):=by have:=DS (a.take (i+1)) (a.drop (i+1));rwa[xP,fI,tN af]at this
 have e2:val b=val (b.take (i+1))+4294967296^(i+1)*val (b.drop (i+1)):=by have:=DS (b.take (i+1)) (b.drop (i+1));rwa[xP,fI,tN af]at this
 rw[hd]at e1;rw[lh]at e1 e2;have h1:=nX (jY ha i);rw[fI,tN af]at h1;have h2:=mz (jY hb i);have h3:=jZ i;have h4:(a.getD i 0+1)*(4294967296:Int)^i≤b.getD i 0*4294967296^i:=jI af af;rw[lK]at h4;omega
structure Kn1(M v1 v2 v' v t u2 u' u:Int):Prop where
 hM:0<M
 kD:2147483648≤v1
 ag2:v1<4294967296
 sK:0≤v2
 W7:v2<4294967296
 kh:0≤v'
 W8:v'<M
 ht:0≤t
 nw:0≤u2
 ag3:u2<4294967296
 jm:0≤u'
 ag4:u'<M
 ev:v=(v1*4294967296+v2)*M+v'
 eu:u=(t*4294967296+u2)*M+u'
 lt:u<v*4294967296
namespace Kn1
variable{M v1 v2 v' v t u2 u' u:Int}(h:Kn1 M v1 v2 v' v t u2 u' u)
include h
def DU:0<v:=by have h1:=h.ev;have:0<(v1*4294967296+v2)*M:=Bu (by have:=h.kD;have:=h.sK;omega) h.hM;have:=h.kh;omega
def vge:4294967296*M≤v:=by have h1:=h.ev;have h2:4294967296*M≤(v1*4294967296+v2)*M:=jI (by have:=h.kD;have:=h.sK;omega) xL;have:=h.kh;omega
def vlt:v<(v1+1)*4294967296*M:=by have h1:=h.ev;have h2:(v1*4294967296+v2+1)*M≤(v1+1)*4294967296*M:=jI (by have:=h.W7;omega) xL;have h3:(v1*4294967296+v2+1)*M=(v1*4294967296+v2)*M+M:=Kc;have:=h.W8;omega
def W9:t*4294967296*M≤u:=by have h1:=h.eu;have h2:t*4294967296*M≤(t*4294967296+u2)*M:=jI (by have:=h.nw;omega) xL;have:=h.jm;omega
def Xa:u<(t*4294967296+u2+1)*M:=by have h1:=h.eu;have h3:(t*4294967296+u2+1)*M=(t*4294967296+u2)*M+M:=Kc;have:=h.ag4;omega
def Xb:t<(v1+1)*4294967296:=by
 have h1:=h.W9;have h2:=h.lt;have h3:=h.vlt;have h4:t*(4294967296*M)<(v1+1)*4294967296*(4294967296*M):=by
  have e1:t*(4294967296*M)=t*4294967296*M:=by rw[ke]
  have e2:(v1+1)*4294967296*(4294967296*M)=(v1+1)*4294967296*M*4294967296:=by rw[ke _ M,fh M]
  rw[e1,e2];omega
 exact Int.lt_of_mul_lt_mul_right h4 xL
def DV:u/v<4294967296:=DB h.DU (by rw[fh];exact h.lt)
def q0:0≤u/v:=by refine xS ?_ (by have:=h.DU;omega);have:=h.W9;have:0≤t*4294967296*M:=jX (by have:=h.ht;omega) xL;omega
def ag7:u/v*v≤u:=Int.ediv_mul_le u (by have:=h.DU;omega)
def first:u/v≤t/v1:=by
 apply Int.le_ediv_of_mul_le (by have:=h.kD;omega);have h1:=h.ag7;have h2:u/v*(v1*4294967296*M)≤u/v*v:=jx (by have h1:=h.ev;have h3:v1*4294967296*M≤(v1*4294967296+v2)*M:=jI (by have:=h.sK;omega) xL;have:=h.kh;omega) h.q0;have h3:=h.Xa;have h4:(t*4294967296+u2+1)*M≤(t+1)*4294967296*M:=jI (by have:=h.ag3;omega) xL;have h5:u/v*v1*(4294967296*M)<(t+1)*(4294967296*M):=by
  have e1:u/v*v1*(4294967296*M)=u/v*(v1*4294967296*M):=by simp only[ke]
  have e2:(t+1)*(4294967296*M)=(t+1)*4294967296*M:=by simp only[ke]
  rw[e1,e2];omega
 have:=Int.lt_of_mul_lt_mul_right h5 xL;omega
def down{q r:Int}(ht:t=q*v1+r)(hq:0≤q)(hc:q*v2>r*4294967296+u2):u/v<q:=by
 apply DB h.DU;have h1:=h.Xa;have h2:(t*4294967296+u2+1)*M≤q*(v1*4294967296+v2)*M:=jI (by
  have e:q*(v1*4294967296+v2)=q*v1*4294967296+q*v2:=by rw[px,ke]
  rw[e];generalize q*v1=x at*;generalize q*v2=y at*;omega) xL
 have h3:q*v=q*(v1*4294967296+v2)*M+q*v':=by rw[h.ev,px,ke q]
 have h4:0≤q*v':=jX hq h.kh;omega
def close{q r:Int}(ht:t=q*v1+r)(hq:0≤q)(hB:q<4294967296)(hc:q*v2≤r*4294967296+u2):q-1≤u/v:=by
 apply Int.le_ediv_of_mul_le h.DU;have h2:q*(v1*4294967296+v2)*M≤(t*4294967296+u2)*M:=jI (by
  have e:q*(v1*4294967296+v2)=q*v1*4294967296+q*v2:=by rw[px,ke]
  rw[e];generalize q*v1=x at*;generalize q*v2=y at*;omega) xL
 have h3:q*v=q*(v1*4294967296+v2)*M+q*v':=by rw[h.ev,px,ke q]
 have h4:q*v'≤4294967296*M:=Bo af (by have:=h.W8;omega) h.kh ak;have h5:=h.vge;have h6:=h.eu;have h7:=h.jm;have h8:(q-1)*v=q*v-v:=by rw[x5,ja]
 omega
def ag8{q r:Int}(ht:t=q*v1+r)(hr:4294967296≤r):q<4294967296:=by
 have h1:=h.Xb;have hv:=h.kD;by_cases hq:q<4294967296
 ·exact hq
 ·exfalso;have:4294967296*v1≤q*v1:=jI af af;have e:(v1+1)*4294967296=v1*4294967296+4294967296:=Kc;rw[e]at h1;omega
def small{q r:Int}(ht:t=q*v1+r)(hr:0≤r):q≤4294967297:=by
 have h1:=h.Xb;have hv:=h.kD;have kh:=h.ag2;by_cases hq:q≤4294967297
 ·exact hq
 ·exfalso;have:4294967298*v1≤q*v1:=jI af af;have e:(v1+1)*4294967296=v1*4294967296+4294967296:=Kc;rw[e]at h1;omega
end Kn1
section
variable{κ ι:Type}[DecidableEq κ]
def bc(u:List (κ×Option ι))(k:κ):Option (Option ι):=
 match u with
 |[]=>none
 | (k',x)::r=>if k'=k then some x else bc r k
def dI(σ:κ→Option ι)(u:List (κ×Option ι)):κ→Option ι:=λk=>
 match bc u k with
 |some x=>x
 |none=>σ k
def fold(wr:Nat→List (κ×Option ι))(σ:κ→Option ι)(s:List Nat):κ→Option ι:=s.foldl (λσ i=>dI σ (wr i)) σ
def rG(u:List (κ×Option ι))(k:κ):Bool:=(bc u k).isSome
def ag9{σ:κ→Option ι}{u:List (κ×Option ι)}{k:κ}(h:rG u k=false):dI σ u k=σ k:=by
 unfold rG at h;unfold dI;cases hs:bc u k with
 |none=>rfl
 |some x=>rw[hs]at h;simp at h
def ag'{σ σ':κ→Option ι}{u:List (κ×Option ι)}{k:κ}(h:σ k=σ' k):dI σ u k=dI σ' u k:=by unfold dI;rw[h]
def Xc(wr:Nat→List (κ×Option ι))(k:κ):∀(s:List Nat){σ σ':κ→Option ι},σ k=σ' k→fold wr σ s k=fold wr σ' s k
 |[],_,_,h=>h
 |i::s,_,_,h=>Xc wr k s (ag' h)
def fold_filter(wr:Nat→List (κ×Option ι))(k:κ):∀(s:List Nat)(σ:κ→Option ι),fold wr σ s k=fold wr σ (s.filter λi=>rG (wr i) k) k
 |[],_=>rfl
 |i::s,σ=>by
  cases h:rG (wr i) k with
  |true=>
   rw[List.filter_cons_of_pos cq]
   exact fold_filter wr k s _
  |false=>
   rw[List.filter_cons_of_neg (by simp[h])]
   have h1:=fold_filter wr k s σ
   rw[←h1]
   exact Xc wr k s (ag9 h)
def PW(wr:Nat→List (κ×Option ι))(σ:κ→Option ι)(s:List Nat)(i:Nat):fold wr σ (s++[i])=dI (fold wr σ s) (wr i):=by simp[fold]
def PX:∀{l m:List Nat},l.Pairwise (·<·)→m.Pairwise (·<·)→(∀x,x∈l↔x∈m)→l=m
 |[],[],_,_,_=>rfl
 |[],y::m,_,_,h=>absurd ((h y).2 (DE)) be
 |x::l,[],_,_,h=>absurd ((h x).1 (DE)) be
 |x::l,y::m,hl,hm,h=>by
  have GQ:=jW.1 hl;have PY:=jW.1 hm;have PZ:x=y:=by
   have h1:=(h x).1 (DE);have h2:=(h y).2 (DE);rcases dC.1 h1 with e|h1
   ·exact e
   ·rcases dC.1 h2 with e|h2
    ·exact e.symm
    ·have a:=PY.1 x h1;have b:=GQ.1 y h2;omega
  subst PZ;congr 1;refine PX GQ.2 PY.2 (λz=>?_);constructor
  ·intro hz;rcases dC.1 ((h z).1 (wB _ hz))with e|h1
   ·have:=GQ.1 z hz;omega
   ·exact h1
  ·intro hz;rcases dC.1 ((h z).2 (wB _ hz))with e|h1
   ·have:=PY.1 z hz;omega
   ·exact h1
def aha(n:Nat):(List.range n).Pairwise (·<·):=WD
structure sL(n:Nat)(ny:Nat→Nat→Prop)(s:List Nat):Prop where
 nodup:s.Nodup
 lt:∀i∈s,i<n
 closed:∀p i r,s=p++i::r→∀j,ny j i→j∈p
def sL.nil(n:Nat)(ny:Nat→Nat→Prop):sL n ny []:=⟨List.nodup_nil,by simp,λp i r h=>by simp at h⟩
def sL.snoc{n:Nat}{ny:Nat→Nat→Prop}{s:List Nat}(h:sL n ny s){i:Nat}(hi:i<n)(hn:i∉s)(ha:∀j,ny j i→j∈s):sL n ny (s++[i]):=by
 refine⟨?_,?_,?_⟩
 ·rw[WR];exact⟨h.nodup,by simp,λa sM b hb=>by simp at hb;subst hb;exact λe=>hn (e▸sM)⟩
 ·intro j hj;rcases b6.1 hj with hj|hj
  ·exact h.lt j hj
  ·simp at hj;omega
 ·intro p k r hs j hj;rcases List.eq_nil_or_concat r with rfl|⟨r',x,rfl⟩
  ·have h1:s=p∧i=k:=by have:=List.append_inj' (s₁:=s) (t₁:=[i]) (s₂:=p) (t₂:=[k]) hs ae;exact⟨this.1,by simpa using this.2⟩
   obtain⟨rfl,rfl⟩:=h1;exact ha j hj
  ·have h1:s=p++k::r':=by
    have zO:s++[i]=(p++k::r')++[x]:=by rw[hs];simp
    exact(List.append_inj' zO ae).1
   exact h.closed p k r' h1 j hj
def sL.Xd{n:Nat}{ny:Nat→Nat→Prop}{s:List Nat}(h:sL n ny s)(q:Nat→Bool)
  (hc:∀i j,i<j→j<n→q i=true→q j=true→ny i j):(s.filter q).Pairwise (·<·):=by
 have key:∀p r,s=p++r→(r.filter q).Pairwise (·<·):=by
  intro p r;induction r generalizing p with
  |nil=>intro _;simp
  |cons x r ih=>
   intro hs
   have Xe:=ih (p++[x]) (by rw[hs];simp)
   cases hx:q x with
   |false=>rw[List.filter_cons_of_neg kZ];exact Xe
   |true=>
    rw[List.filter_cons_of_pos hx,jW]
    refine⟨λy hy=>?_,Xe⟩
    obtain⟨Xf,hy2⟩:=xT.1 hy
    have Bz:x∈s:=by rw[hs];simp
    have aR:x≠y:=by intro e;have:=h.nodup;rw[hs,WR]at this;have:=this.2.1;rw[Bm]at this;exact this.1 (e▸Xf)
    rcases wI x y with br|tR
    ·exact br
    ·have br:y<x:=by omega
     have ha:=hc y x br (h.lt x Bz) hy2 hx;have hp:=h.closed p x r hs y ha;have:=h.nodup;rw[hs,WR]at this;exact absurd ae (this.2.2 y hp y (wB _ Xf))
 exact key [] s ae
def Xg(n:Nat)(q:Nat→Bool):((List.range n).filter q).Pairwise (·<·):=(aha n).filter _
def sL.read{n:Nat}{ny:Nat→Nat→Prop}{s:List Nat}(h:sL n ny s)(wr:Nat→List (κ×Option ι))(σ:κ→Option ι)(k:κ)(i:Nat)(hi:i<n)(hn:i∉s)
  (ha:∀j,ny j i→j∈s)
  (hw:∀a b,a<b→b<n→rG (wr a) k=true→rG (wr b) k=true→ny a b)
  (h1:∀a,a<i→rG (wr a) k=true→ny a i) (h2:∀b,i<b→b<n→rG (wr b) k=true→ny i b):
  fold wr σ s k=fold wr σ (List.range i) k:=by
 rw[fold_filter wr k s,fold_filter wr k (List.range i)]
 congr 1
 refine PX (h.Xd _ (λa b kQ hb qa qb=>hw a b kQ hb qa qb)) (Xg i _) (λx=>?_)
 rw[xT,xT,k7]
 constructor
 ·rintro⟨hx,qx⟩;refine⟨?_,qx⟩;rcases GB x i with br|he|hgt
  ·exact br
  ·exact absurd hx (he▸hn)
  ·have hb:=h2 x hgt (h.lt x hx) qx;obtain⟨p,r,hs⟩:=Bi hx;have:=h.closed p x r hs i hb;exact absurd (by rw[hs];exact fS _ this) hn
 ·rintro⟨hx,qx⟩;exact⟨ha x (h1 x hx qx),qx⟩
def sL.all{n:Nat}{ny:Nat→Nat→Prop}{s:List Nat}(h:sL n ny s)(wr:Nat→List (κ×Option ι))(σ:κ→Option ι)(nz:∀i,i<n→i∈s)
  (hw:∀k a b,a<b→b<n→rG (wr a) k=true→rG (wr b) k=true→ny a b):fold wr σ s=fold wr σ (List.range n):=by
 funext k
 rw[fold_filter wr k s,fold_filter wr k (List.range n)]
 congr 1
 refine PX (h.Xd _ (λa b kQ hb qa qb=>hw k a b kQ hb qa qb)) (Xg n _) (λx=>?_)
 rw[xT,xT,k7]
 exact⟨λ⟨hx,q⟩=>⟨h.lt x hx,q⟩,λ⟨hx,q⟩=>⟨nz x hx,q⟩⟩
end
end Go.El
namespace Go.El
open Go Go.RowKit
inductive aK where
 |box (E:TypeId) (sz:Nat) (cs:List C)
 |vec (E:TypeId) (T:ET) (xs:List T.den)
 |fW (f:FuncId) (first caps:List (Bool×List C))
 |fz (E:TypeId) (cs:List C)
inductive Key where
 |s (t:Nat)
 |m (id:Nat)
 deriving DecidableEq
inductive Info where
 |v (x:AV)
 |b (x:aK)
def aK.aD:aK→List Nat
 | .box _ _ cs=>cD cs
 | .vec _ _ _=>[]
 | .fW _ first caps=>fJ first++fJ caps
 | .fz _ cs=>cD cs
def Info.aD:Info→List Nat
 | .v x=>x.aD
 | .b x=>x.aD
abbrev Kn:=Key→Option Info
def Sub(H:FH)(w:World):Prop:=∀b o v,H b o=some v→w.cell? ⟨b,o,none⟩=some v
def jn(N:Nat→Prop)(g:Gh)(W:World)(id:Nat):aK→Prop
 | .box E sz cs=>∃b,∃vs rest:List Value,cQ (g.γ id)=some b∧W.heap[b]? =some (.cells (vs++rest).toArray E (0,0))∧bU g cs vs∧N b∧(∀o,g.H b o=none)∧(sz≠0→∃c,g.γ id= .slice (some ⟨b,0,none⟩) 0 c∧(vs++rest).length=c*sz)
 | .vec E T xs=>(g.γ id= .slice none 0 0∧xs=[])∨∃b cap,∃vs:List Value,g.γ id= .slice (some ⟨b,0,none⟩) xs.length cap∧W.heap[b]? =some (.cells vs.toArray E (0,0))∧
   vs.length=cap*T.n∧xs.length≤cap∧xs.length*T.n≤140737488355328∧(∀i(h:i<xs.length),dm g.H T xs[i] ((vs.drop (i*T.n)).take T.n))∧N b∧∀o,g.H b o=none
 | .fW f first caps=>∃us ws:List Value,g.γ id= .func (.func f) us.toArray ws.toArray∧dv g first us∧dv g caps ws
 | .fz E cs=>∃b,∃vs rest:List Value,cQ (g.γ id)=some b∧W.heap[b]? =some (.cells (vs++rest).toArray E (0,0))∧bU g cs vs∧N b∧(∀o,g.H b o=(vs++rest)[o]?)
structure de where
 w0:World
 H0:FH
 n:Nat
 own:Nat→Prop:=λ_=>False
 k0:Nat:=0
 γ0:Nat→Value:=λ_=>undef
 ds:List Deferred:=[]
 rd:Option Nat:=none
def de.N(F:de)(b:Nat):Prop:=F.w0.heap.size≤b∨F.own b
structure DW(own:Nat→Prop)(w w':World):Prop where
 os:w'.os=w.os
 tape:w'.tape=w.tape
 output:w'.output=w.output
 size:w.heap.size≤w'.heap.size
 block:∀k,k<w.heap.size→¬own k→w'.heap[k]? =w.heap[k]?
structure bJ(F:de)(known:Nat→Prop)(σ:Kn)(g:Gh)(W:World)(a:Act):Prop where
 size:a.tmps.size=F.n
 defers:a.defers=F.ds
 gG:∀t v,σ (.s t)=some (.v v)→bP g v (a.tmps.getD t undef)
 df:∀id b,σ (.m id)=some (.b b)→jn F.N g W id b
 inj:∀id b9 b b' k,σ (.m id)=some (.b b)→σ (.m b9)=some (.b b')→cQ (g.γ id)=some k→cQ (g.γ b9)=some k→id=b9
 aD:∀k x,σ k=some x→∀id∈x.aD,known id
 fF:∀id x,σ (.m id)=some x→known id
 sub:Sub g.H W
 below:DW F.own F.w0 W
 le:cF F.H0 g.H
 fresh:∀b o,b<F.w0.heap.size→¬F.own b→g.H b o=F.H0 b o
 iz:∀id,id<F.k0→known id∧g.γ id=F.γ0 id
structure Ext(known chg:Nat→Prop)(g:Gh)(W:World)(g':Gh)(W':World):Prop where
 le:iL known g g'
 fresh:∀b o,b<W.heap.size→g'.H b o=g.H b o
 sub:Sub g'.H W'
 size:W.heap.size≤W'.heap.size
 heap:∀k,k<W.heap.size→(∀id,chg id→cQ (g.γ id)≠some k)→W'.heap[k]? =W.heap[k]?
 os:W'.os=W.os
 tape:W'.tape=W.tape
 output:W'.output=W.output
def jn.block{N:Nat→Prop}{g:Gh}{W:World}{id:Nat}{b:aK}(h:jn N g W id b){k:Nat}(hk:cQ (g.γ id)=some k):N k∧k<W.heap.size:=by
 cases b with
 |box E sz cs=>
  obtain⟨b,vs,rest,e,hh,_,hn,_⟩:=h
  rw[e]at hk
  simp only[aO]at hk
  subst hk
  exact⟨hn,(jU.1 hh).1⟩
 |vec E T xs=>
  rcases h with⟨e,_⟩|⟨b,cap,vs,e,hh,_,_,_,_,hn,_⟩
  ·rw[e]at hk;simp[cQ]at hk
  ·rw[e]at hk;simp only[cQ,aO]at hk;subst hk;exact⟨hn,(jU.1 hh).1⟩
 |fW f first caps=>
  obtain⟨us,ws,e,_⟩:=h
  rw[e]at hk;simp[cQ]at hk
 |fz E cs=>
  obtain⟨b,vs,rest,e,hh,_,hn,_⟩:=h
  rw[e]at hk
  simp only[aO]at hk
  subst hk
  exact⟨hn,(jU.1 hh).1⟩
def jn.step{known chg:Nat→Prop}{N:Nat→Prop}{g g':Gh}{W W':World}{id:Nat}{b:aK}(h:jn N g W id b)(hx:Ext known chg g W g' W')
  (al:known id) (hm:∀j∈b.aD,known j) (aR:∀j k,chg j→cQ (g.γ id)=some k→cQ (g.γ j)≠some k):jn N g' W' id b:=by
 cases b with
 |box E sz cs=>
  obtain⟨b,vs,rest,e,hh,hr,hn,hz,hc⟩:=h
  have hb:b<W.heap.size:=(jU.1 hh).1
  refine⟨b,vs,rest,by rw[hx.le.γ id al];exact e,?_,bU.mono hx.le hm hr,hn,λo=>by rw[hx.fresh b o hb];exact hz o,by rw[hx.le.γ id al];exact hc⟩
  rw[hx.heap b hb (λj hj=>aR j b hj e)];exact hh
 |vec E T xs=>
  rcases h with⟨e,DX⟩|⟨b,cap,vs,e,hh,h1,h2,qo,h3,hn,hz⟩
  ·exact .inl ⟨by rw[hx.le.γ id al];exact e,DX⟩
  ·have hb:b<W.heap.size:=(jU.1 hh).1;refine .inr ⟨b,cap,vs,by rw[hx.le.γ id al];exact e,?_,h1,h2,qo,λi hi=>dm.mono hx.le.H T _ _ (h3 i hi),hn,λo=>by rw[hx.fresh b o hb];exact hz o⟩;rw[hx.heap b hb (λj hj=>aR j b hj (by rw[e];rfl))];exact hh
 |fW f first caps=>
  obtain⟨us,ws,e,h1,h2⟩:=h
  exact⟨us,ws,by rw[hx.le.γ id al];exact e,dv.mono hx.le (λj hj=>hm j (fS _ hj)) h1,dv.mono hx.le (λj hj=>hm j (j9 _ hj)) h2⟩
 |fz E cs=>
  obtain⟨b,vs,rest,e,hh,hr,hn,hz⟩:=h
  have hb:b<W.heap.size:=(jU.1 hh).1
  refine⟨b,vs,rest,by rw[hx.le.γ id al];exact e,?_,bU.mono hx.le hm hr,hn,λo=>by rw[hx.fresh b o hb];exact hz o⟩
  rw[hx.heap b hb (λj hj=>aR j b hj e)];exact hh
def bJ.step{F:de}{known chg:Nat→Prop}{σ:Kn}{g g':Gh}{W W':World}{a a':Act}(h:bJ F known σ g W a)(hx:Ext known chg g W g' W')
  (wr:List (Key×Option Info)) (new:Nat) (dX:¬known new)
  (cR:a'.tmps.size=a.tmps.size) (KT:a'.defers=F.ds)
  (ahd:∀t,bc wr (.s t)=none→a'.tmps.getD t undef=a.tmps.getD t undef)
  (Xh:∀id,chg id→bc wr (.m id)≠none∧∃b,σ (.m id)=some (.b b))
  (hs:∀t v,bc wr (.s t)=some (some (.v v))→bP g' v (a'.tmps.getD t undef))
  (hb:∀id b,bc wr (.m id)=some (some (.b b))→jn F.N g' W' id b∧((known id∧∃b',σ (.m id)=some (.b b'))∨(id=new∧∀k,cQ (g'.γ id)=some k→W.heap.size≤k∨∃j b',σ (.m j)=some (.b b')∧bc wr (.m j)=some none∧cQ (g.γ j)=some k)))
  (hm:∀k x,bc wr k=some (some x)→∀id∈x.aD,known id∨id=new)
  (rH:∀id x,bc wr (.m id)=some (some x)→known id∨id=new):
  bJ F (λid=>known id∨id=new) (dI σ wr) g' W' a':=by
 have hold:∀k x,dI σ wr k=some x→(bc wr k=none∧σ k=some x)∨bc wr k=some (some x):=by
  intro k x hk;unfold dI at hk;cases DY:bc wr k with
  |none=>rw[DY]at hk;exact .inl ⟨ae,hk⟩
  |some y=>rw[DY]at hk;simp only at hk;rw[hk];exact .inr ae
 refine⟨by rw[cR];exact h.size,KT,?_,?_,?_,?_,?_,hx.sub,?_,h.le.trans hx.le.H,?_,λid al=>⟨.inl (h.iz id al).1,by rw[hx.le.γ id (h.iz id al).1];exact(h.iz id al).2⟩⟩
 ·intro t v ht;rcases hold _ _ ht with⟨h1,h2⟩|h1
  ·rw[ahd t h1];exact bP.mono hx.le (λid al=>h.aD _ _ h2 id al) (h.gG t v h2)
  ·exact hs t v h1
 ·intro id b al;rcases hold _ _ al with⟨h1,h2⟩|h1
  ·refine(h.df id b h2).step hx (h.fF _ _ h2) (λj hj=>h.aD _ _ h2 j hj) (λj k hj hk hjk=>?_);obtain⟨fo,b',jC⟩:=Xh j hj;have:=h.inj id j b b' k h2 jC hk hjk;subst this;exact fo h1
  ·exact(hb id b h1).1
 ·intro id b9 b b' k al sO hk dx;have low:∀id b,(bc wr (.m id)=none∧σ (.m id)=some (.b b))∨bc wr (.m id)=some (some (.b b))→cQ (g'.γ id)=some k→
    (∃GR,σ (.m id)=some (.b GR)∧cQ (g.γ id)=some k∧k<W.heap.size∧bc wr (.m id)≠some none)∨(id=new∧(W.heap.size≤k∨∃j b',σ (.m j)=some (.b b')∧bc wr (.m j)=some none∧cQ (g.γ j)=some k)):=by
   intro id b pz hk
   rcases pz with⟨h1,h2⟩|h1
   ·rw[hx.le.γ id (h.fF _ _ h2)]at hk;exact .inl ⟨b,h2,hk,((h.df id b h2).block hk).2,by rw[h1];simp⟩
   ·rcases(hb id b h1).2 with⟨eS,GR,h2⟩|⟨rfl,tR⟩
    ·rw[hx.le.γ id eS]at hk;exact .inl ⟨GR,h2,hk,((h.df id GR h2).block hk).2,by rw[h1];simp⟩
    ·exact .inr ⟨ae,tR k hk⟩
  rcases low id b (hold _ _ al) hk with⟨c,h1,h2,h3,h4⟩|⟨e1,h3⟩<;>rcases low b9 b' (hold _ _ sO) dx with⟨c',zP,qo,wL,rI⟩|⟨rJ,wL⟩
  ·exact h.inj id b9 c c' k h1 zP h2 qo
  ·rcases wL with wL|⟨j,bj,fo,jC,nY⟩
   ·omega
   ·have:=h.inj id j c bj k h1 fo h2 nY;subst this;exact absurd jC h4
  ·rcases h3 with h3|⟨j,bj,fo,jC,nY⟩
   ·omega
   ·have:=h.inj b9 j c' bj k zP fo qo nY;subst this;exact absurd jC rI
  ·rw[e1,rJ]
 ·intro k x hk id al;rcases hold _ _ hk with⟨_,h2⟩|h1
  ·exact .inl (h.aD _ _ h2 id al)
  ·exact hm k x h1 id al
 ·intro id x hk;rcases hold _ _ hk with⟨_,h2⟩|h1
  ·exact .inl (h.fF _ _ h2)
  ·exact rH id x h1
 ·refine⟨hx.os.trans h.below.os,hx.tape.trans h.below.tape,hx.output.trans h.below.output,dF h.below.size hx.size,λk hk dY=>?_⟩;have dx:k<W.heap.size:=kv hk h.below.size;rw[←h.below.block k hk dY];refine hx.heap k dx (λid al qq=>?_);obtain⟨_,b,hσ⟩:=Xh id al;rcases((h.df id b hσ).block qq).1 with h1|h1
  ·omega
  ·exact dY h1
 ·intro b o du dY;rw[hx.fresh b o (kv du h.below.size)];exact h.fresh b o du dY
def bJ.weaken{F:de}{known Xi:Nat→Prop}{σ:Kn}{g:Gh}{W:World}{a:Act}(h:bJ F known σ g W a)(hk:∀id,known id→Xi id):bJ F Xi σ g W a:=
 ⟨h.size,h.defers,h.gG,h.df,h.inj,λk x e id al=>hk _ (h.aD k x e id al),λid x e=>hk _ (h.fF id x e),h.sub,h.below,h.le,h.fresh,λid al=>⟨hk _ (h.iz id al).1,(h.iz id al).2⟩⟩
def bJ.drew{F:de}{known:Nat→Prop}{σ:Kn}{g:Gh}{W:World}{a:Act}(h:bJ F known σ g W a):bJ F known σ g {W with drawn:=W.drawn+1} a:=by
 refine⟨h.size,h.defers,h.gG,?_,h.inj,h.aD,h.fF,h.sub,⟨h.below.os,h.below.tape,h.below.output,h.below.size,h.below.block⟩,h.le,h.fresh,h.iz⟩;intro id b e;have:=h.df id b e;cases b with
 |box E sz cs=>exact this
 |vec E T xs=>exact this
 |fW f first caps=>exact this
 |fz E cs=>exact this
def gH(r:Option Nat):Fence:={Fence.wide with round:=r}
def zQ(r:Option Nat)(ops:Array Oper):Prop:=∀(i:Nat)(o:Oper),ops[i]? =some o→r=none∨∀c,o.op≠ .defer c
def ahf{ops:Array Oper}:zQ none ops:=λ_ _ _=> .inl ae
def ahg{P:Program}{c:Code}{Q:Exit→Act→World→Prop}{a:Act}{w:World}{r:Option Nat}(hr:r=none):c.wpIn (gH r) 0 P Q a w↔c.wp P Q a w:=by subst hr;exact wpIn_wide
def P0{P:Program}{ops:Array Oper}{i:Nat}{K:Act→World→Prop}{a:Act}{W:World}{r:Option Nat}{Q:Exit→Act→World→Prop}(hd:∀o,ops[i]? =some o→r=none∨∀c,o.op≠ .defer c)(h:wpOp P ops (λ_ _ _=>False) i K a W):
  wpOpIn (gH r) 0 P ops Q i K a W:=by
 unfold wpOp at h
 unfold wpOpIn
 cases ho:ops[i]? with
 |none=>rw[ho]at h;exact h
 |some o=>
  rw[ho]at h
  simp only at h⊢
  split
  ·rename_i hw;rw[aw hw]at h;have h1:o.wp P a W K (λ_ _ _=>False):=by
    rcases h with h|⟨_,_,_,hf⟩
    ·exact h
    ·exact hf.elim
   refine⟨λ_ _=>trivial,?_⟩;have he:(o.semAt (gH r).round a.eval)=execOp a.eval o:=by
    rcases hd o ho with hn|hn
    ·subst hn;exact Oper.semAt_none _ _
    ·exact Oper.semAt_eq _ _ _ hn
   rw[he];unfold Oper.wp at h1;generalize (execOp a.eval o).run P W=x at h1;cases x with
   |ok y w'=>
    cases y<;>simp only[Oper.upon,Oper.uponIn]at h1⊢
    all_goals first
     |exact h1
     |exact h1.elim
     |skip
    ·refine⟨λhh=>by simp[gH,Fence.wide]at hh,?_⟩;have h2:=(callsIn_wide (n:=0)).2 h1;refine CallsIn.mono (F:=gH r) h2 (λe Xj he=>?_);cases e with
     |returned v=>exact he
     |panicked c=>exact he.elim
     |outgrown=>obtain⟨_,_,hf⟩:=he;exact hf.elim
    ·refine⟨λhh=>by simp[gH,Fence.wide]at hh,?_⟩;intro c cs _;obtain⟨v,Xj,hr,dh⟩:=h1 c cs;exact⟨v,Xj,hr,stepsIn_wide.2 dh⟩
   |halt y w'=>
    cases y<;>simp only[Oper.upon]at h1⊢<;>exact h1.elim
  ·rename_i hw;rw[aq hw]at h;exact⟨λ_ _=>trivial,h⟩
def mA(P:Program)(n:Nat)(ops:Array Oper)(i:Nat)(rd:List (Key×Info))(wr:List (Key×Option Info))(new:Nat):Prop:=
 ∀(F:de),F.n=n→∀(Q:Exit→Act→World→Prop)(known:Nat→Prop)(σ:Kn)(g:Gh)(W:World)(a:Act)(K:Act→World→Prop),¬known new→bJ F known σ g W a→
  (∀kx∈rd,σ kx.1=some kx.2)→(∀g' W' a',bJ F (λid=>known id∨id=new) (dI σ wr) g' W' a'→K a' W')→wpOp P ops Q i K a W
def zR(P:Program)(n:Nat)(ops:Array Oper)(i:Nat)(rd:List (Key×Info))(wr:List (Key×Option Info))(new:Nat→Prop):Prop:=
 ∀(F:de),F.n=n→∀(Q:Exit→Act→World→Prop)(known:Nat→Prop)(σ:Kn)(g:Gh)(W:World)(a:Act)(K:Act→World→Prop),(∀id,new id→¬known id)→bJ F known σ g W a→
  (∀kx∈rd,σ kx.1=some kx.2)→(∀g' W' a',bJ F (λid=>known id∨new id) (dI σ wr) g' W' a'→K a' W')→wpOp P ops Q i K a W
def mA.Xk{P:Program}{n:Nat}{ops:Array Oper}{i:Nat}{rd:List (Key×Info)}{wr:List (Key×Option Info)}{m:Nat}(h:mA P n ops i rd wr m){new:Nat→Prop}(hm:new m):zR P n ops i rd wr new:=by
 intro F hF Q known σ g W a K dX aJ bw hK;refine h F hF Q known σ g W a K (dX m hm) aJ bw (λg' W' a' h'=>hK g' W' a' (h'.weaken ?_));rintro id (h|rfl)
 ·exact .inl h
 ·exact .inr hm
def sQ(c:Nat→Nat)(i:Nat):Nat→Prop:=λid=>c i≤id∧id<c (i+1)
def GS{c:Nat→Nat}(hc:∀i,c i≤c (i+1)){i j:Nat}(h:i≤j):c i≤c j:=by
 induction h with
 |refl=>exact bD _
 |step _ ih=>exact dF ih (hc _)
section
variable{P:Program}{ops:Array Oper}{Q:Exit→Act→World→Prop}{F:de}{σ:Kn}{rd:Nat→List (Key×Info)}{wr:Nat→List (Key×Option Info)}{nx:Nat}
def Xl{id:Nat}{g:Gh}{W:World}{a:Act}{c:Nat→Nat}(hc:∀i,c i≤c (i+1))(h0:bJ F (·<c 0) σ g W a)
  (hs:∀i,i<ops.size→zR P F.n ops i (rd i) (wr i) (sQ c i))
  (ht:∀i,i<ops.size→∀kx∈rd i,fold wr σ (List.range i) kx.1=some kx.2)
  (hQ:∀g W a,bJ F (·<c ops.size) (fold wr σ (List.range ops.size)) g W a→Q .normal a W) (fK:zQ F.rd ops):(Code.region id ops false).wpIn (gH F.rd) 0 P Q a W:=by
 refine wpIn_region ?_
 have key:∀m k,k+m=ops.size→∀g W a,bJ F (·<c k) (fold wr σ (List.range k)) g W a→wpOpsIn (gH F.rd) 0 P ops Q (List.range' k m) a W:=by
  intro m;induction m with
  |zero=>intro k hk g W a h;simp only[kg]at hk;subst hk;exact hQ g W a h
  |succ m ih=>
   intro k hk g W a h
   rw[List.range'_succ,wpOpsIn_cons]
   refine P0 (fK k) ?_
   refine hs k af F ae _ (·<c k) _ g W a _ (λid h1 h2=>by simp only[sQ]at h1;omega) h (ht k af) (λg' W' a' h'=>?_)
   refine ih (k+1) af g' W' a' ?_
   rw[qk,PW]
   exact h'.weaken (λid al=>by have:=hc k;simp only[sQ]at al;omega)
 have:=key ops.size 0 af g W a h0
 rwa[←List.range_eq_range']at this
inductive oL(ops:Array Oper):Nat→Nat→Prop where
 |one {i j:Nat} {o:Oper} {e:Edge} (ho:ops[i]? =some o) (he:e∈o.after) (hb:Region.binds .any e=true) (hj:e.on=j):oL ops j i
 |more {i j k:Nat} {o:Oper} {e:Edge} (ho:ops[i]? =some o) (he:e∈o.after) (hb:Region.binds .any e=true) (hk:e.on=k) (h:oL ops j k):oL ops j i
def oL.closed{s:List Nat}{i:Nat}(rK:∀k∈s,∀j,oL ops j k→j∈s)(Xm:∀o,ops[i]? =some o→∀e∈o.after,Region.binds .any e=true→e.on∈s):∀j,oL ops j i→j∈s:=by
 intro j hj;cases hj with
 |one ho he hb hj=>subst hj;exact Xm _ ho _ he hb
 |more ho he hb hk h=>subst hk;exact rK _ (Xm _ ho _ he hb) j h
def fi(u:List (Key×Option Info)):List Key:=u.map (·.1)
def dT(u:List (Key×Info)):List Key:=u.map (·.1)
def DZ{u:List (Key×Option Info)}{k:Key}(h:rG u k=true):k∈fi u:=by
 induction u with
 |nil=>simp[rG,bc]at h
 |cons p u ih=>
  obtain⟨k',x⟩:=p
  by_cases e:k'=k
  ·simp[fi,e]
  ·have:rG u k=true:=by simpa[rG,bc,e]using h
   have:=ih this;simp only[fi,jL,dC];exact .inr this
def Xn{id:Nat}{g:Gh}{W:World}{a:Act}{c:Nat→Nat}(hc:∀i,c i≤c (i+1))(oM:P.follows .mixedOrders=true)(br:∀i o e,ops[i]? =some o→e∈o.after→Region.binds .any e=true→e.on<i)(h0:bJ F (·<c 0) σ g W a)
  (hs:∀i,i<ops.size→zR P F.n ops i (rd i) (wr i) (sQ c i))
  (ht:∀i,i<ops.size→∀kx∈rd i,fold wr σ (List.range i) kx.1=some kx.2)
  (Xo:∀i j,i<j→j<ops.size→∀k,k∈fi (wr i)→k∈fi (wr j)→oL ops i j)
  (zS:∀i j,i<j→j<ops.size→∀k,k∈fi (wr i)→k∈dT (rd j)→oL ops i j)
  (sT:∀i j,i<j→j<ops.size→∀k,k∈dT (rd i)→k∈fi (wr j)→oL ops i j)
  (hQ:∀g W a,bJ F (·<c ops.size) (fold wr σ (List.range ops.size)) g W a→Q .normal a W) (fK:zQ F.rd ops):(Code.region id ops true).wpIn (gH F.rd) 0 P Q a W:=by
 refine wpIn_region_any oM ?_
 have key:∀fuel rM s g W a,rM.size=ops.size→sL ops.size (oL ops) s→(∀i,i<ops.size→(rM.getD i true=true↔i∈s))→fuel+s.length=ops.size→
   bJ F (λid=>id<c 0∨∃i∈s,sQ c i id) (fold wr σ s) g W a→wpAnyIn (gH F.rd) 0 P .any ops Q fuel rM a W:=by
  intro fuel
  induction fuel with
  |zero=>
   intro rM s g W a cR b7 hl ahh h
   have nz:∀i,i<ops.size→i∈s:=by
    intro i hi;refine gE λhn=>?_
    have fK:(i::s).Nodup:=Bm.2 ⟨hn,b7.nodup⟩;have eL:i::s⊆List.range ops.size:=λx hx=>by
     rcases dC.1 hx with rfl|hx
     ·exact k7.2 hi
     ·exact k7.2 (b7.lt x hx)
    have:=fK.length_le_of_subset eL;simp at this;omega
   refine⟨?_,?_⟩
   ·cases hr:Region.ready .any ops rM with
    |nil=>rfl
    |cons x xs=>
     have hx:x∈Region.ready .any ops rM:=by rw[hr];exact DE
     obtain⟨wM,o,ho,_⟩:=mem_ready.1 hx
     have Bz:x<ops.size:=(jU.1 ho).1
     have:=(hl x Bz).2 (nz x Bz)
     rw[this]at wM
     cases wM
   ·refine hQ g W a ?_;rw[←b7.all wr σ nz (λk i j nA hj pC rN=>Xo i j nA hj k (DZ pC) (DZ rN))];refine h.weaken (λid al=>?_);rcases al with al|⟨i,hi,hf⟩
    ·exact kv al (GS hc (bK _))
    ·have:=GS hc (show i+1≤ops.size from b7.lt i hi);simp only[sQ]at hf;omega
  |succ fuel ih=>
   intro rM s g W a cR b7 hl ahh h
   refine⟨λhr=>?_,λi hi=>?_⟩
   ·exfalso;have hex:∃i,i<ops.size∧i∉s:=by
     refine gE λaR=>?_
     have nz:∀i∈List.range ops.size,i∈s:=λi hi=>gE λhn=>aR ⟨i,k7.1 hi,hn⟩
     have:=(List.nodup_range (n:=ops.size)).length_le_of_subset nz;simp at this;omega
    have ahi:∀m,∀i,i≤m→i<ops.size→i∉s→∃i,i<ops.size∧i∉s∧∀j,j<i→j∈s:=by
     intro m;induction m with
     |zero=>intro i h1 h2 h3;exact⟨i,h2,h3,λj hj=>by omega⟩
     |succ m ihm=>
      intro i h1 h2 h3
      by_cases hj:∃j,j<i∧j∉s
      ·obtain⟨j,fo,jC⟩:=hj;exact ihm j af af jC
      ·exact⟨i,h2,h3,λj rN=>gE λhn=>hj ⟨j,rN,hn⟩⟩
    obtain⟨i0,BA,D0⟩:=hex;obtain⟨i,hi,hn,ahk⟩:=ahi i0 i0 (bD _) BA D0;have:i∈Region.ready .any ops rM:=by
     rw[mem_ready];refine⟨?_,ops[i],by simp[hi],λe he hb=>?_⟩
     ·cases hg:rM.getD i true with
      |false=>rfl
      |true=>exact absurd ((hl i hi).1 hg) hn
     ·have h1:=br i ops[i] e (by simp[hi]) he hb;have h2:=(hl e.on af).2 (ahk e.on h1);have h3:e.on<rM.size:=af;simpa[h3]using h2
    rw[hr]at this;cases this
   ·obtain⟨KU,o,ho,nz⟩:=mem_ready.1 hi;have pC:i<ops.size:=(jU.1 ho).1;have hn:i∉s:=λiA=>by rw[(hl i pC).2 iA]at KU;cases KU
    have rK:∀k∈s,∀j,oL ops j k→j∈s:=by intro k hk j hj;obtain⟨p,r,zO⟩:=Bi hk;rw[zO];exact fS _ (b7.closed p k r zO j hj)
    have ahl:∀o',ops[i]? =some o'→∀e∈o'.after,Region.binds .any e=true→e.on∈s:=by
     intro o' KV e he hb;rw[ho]at KV;cases KV;have h1:=nz e he hb;have br:e.on<ops.size:=by
      rcases wI e.on rM.size with h2|h2
      ·omega
      ·simp[Array.getElem?_eq_none h2]at h1
     refine(hl e.on br).1 ?_;have ahm:e.on<rM.size:=af;simpa[ahm]using h1
    have Xp:=oL.closed rK ahl;have bw:∀kx∈rd i,fold wr σ s kx.1=some kx.2:=by intro kx aS;have hk:kx.1∈dT (rd i):=nW.2 ⟨kx,aS,ae⟩;rw[b7.read wr σ kx.1 i pC hn Xp (λa b kQ hb sM du=>Xo a b kQ hb _ (DZ sM) (DZ du)) (λa ha hwa=>zS a i ha pC _ (DZ hwa) hk) (λb hb tS GU=>sT i b hb tS _ hk (DZ GU))];exact ht i pC kx aS
    refine P0 (fK i) ?_;refine hs i pC F ae _ _ _ g W a _ (λid hf eS=>?_) h bw (λg' W' a' h'=>?_)
    ·rcases eS with eS|⟨j,hj,e⟩
     ·have:=GS hc (bK i);simp only[sQ]at hf;omega
     ·have:i=j:=by
       simp only[sQ]at hf e;rcases GB i j with h1|h1|h1
       ·have:=GS hc (show i+1≤j from h1);omega
       ·exact h1
       ·have:=GS hc (show j+1≤i from h1);omega
      exact hn (this▸hj)
    ·refine ih (rM.setIfInBounds i true) (s++[i]) g' W' a' (by simp[cR]) (b7.snoc pC hn Xp) (λj hj=>?_) cT ?_
     ·by_cases D1:j=i
      ·subst D1;have:j<rM.size:=af;simp[this]
      ·rw[getD_set_ne true (Ne.symm D1),hl j hj];simp[D1]
     ·rw[PW];refine h'.weaken (λid al=>?_);rcases al with(al|⟨j,hj,e⟩)|al
      ·exact .inl al
      ·exact .inr ⟨j,fS _ hj,e⟩
      ·exact .inr ⟨i,by simp,al⟩
 refine key ops.size _ [] g _ a be (sL.nil _ _) (λi hi=>?_) be ?_
 ·simp[hi]
 ·exact h0.drew.weaken (λid al=> .inl al)
end
def ao{α:Type}(t:Nat):List (Nat×α)→Option α
 |[]=>none
 | (k,x)::r=>if k=t then some x else ao t r
inductive ZV where
 |b|i (k:IntKind)|s|f|t|p
def ZV.gj:ZV→Value
 | .b=> .bool false
 | .i k=> .int k 0
 | .s=> .slice none 0 0
 | .f=> .nilFunc
 | .t=> .string ⟨⟨[]⟩⟩
 | .p=> .pointer none
def ZV.sU:ZV→C
 | .b=> .B false
 | .i k=> .I k 0
 | .s=> .V (.slice none 0 0)
 | .f=> .V .nilFunc
 | .t=> .V (.string ⟨⟨[]⟩⟩)
 | .p=> .V (.pointer none)
def ZV.ok:ZV→Value→Bool
 | .b,.bool false=>true
 | .i k,.int k' n=>k=k'&&n=0
 | .s,.slice none 0 0=>true
 | .f,.nilFunc=>true
 | .t,.string ⟨⟨[]⟩⟩=>true
 | .p,.pointer none=>true
 |_,_=>false
def ZV.ok_eq:∀{z:ZV}{v:Value},z.ok v=true→v=z.gj:=by
 intro z v h;unfold ZV.ok at h;split at h
 ·rfl
 ·simp only[eX,decide_eq_true_eq]at h;obtain⟨rfl,rfl⟩:=h;rfl
 ·rfl
 ·rfl
 ·rfl
 ·rfl
 ·cases h
inductive TK where
 |int (k:IntKind)|bool|sl (E:Nat)|st|arr (len E:Nat)|str|other
structure TI where
 kind:TK
 size:Nat
 bytes:Nat
 fields:List (Nat×Nat×Bool)
 zero:List ZV
abbrev TT:=List (Nat×TI)
def TI.agg(t:TI):Bool:=match t.kind with| .st=>true| .arr _ _=>true|_=>false
def wN(P:Program)(t:TypeId):Option Bool:=match P.underlying t with
 |some (.struct _)=>some true
 |some (.array _ _)=>some true
 |some _=>some false
 |none=>none
def D2:List ZV→List Value→Bool
 |[],[]=>true
 |z::zs,v::vs=>z.ok v&&D2 zs vs
 |_,_=>false
def Xq:∀{zs:List ZV}{vs:List Value},D2 zs vs=true→vs=zs.map ZV.gj
 |[],[],_=>rfl
 |_::_,_::_,h=>by simp only[D2,eX]at h;simp[ZV.ok_eq h.1,Xq h.2]
 |[],_::_,h=>by simp[D2]at h
 |_::_,[],h=>by simp[D2]at h
def tT(P:Program):List (Nat×Nat×Bool)→List Field→Bool
 |[],[]=>true
 | (off,sz,ag)::r,f::fs=>f.offset=off&&((P.info? f.type).map (·.size)==some sz)&&sz≠0&&(wN P f.type==some ag)&&tT P r fs
 |_,_=>false
def P1(P:Program)(t:Nat)(ti:TI):Bool:=
 match P.info? t with
 |none=>false
 |some i=>i.size=ti.size&&ti.zero.length=ti.size&&i.bytes=ti.bytes&&(match i.zero with|some z=>D2 ti.zero z.cells.toList|none=>false)&&
  match ti.kind,P.underlying t with
  | .int k,some (.int k')=>k=k'
  | .bool,some .bool=>true
  | .sl E,some (.slice E')=>E=E'
  | .st,some (.struct fs)=>tT P ti.fields fs.toList
  | .arr n e,some (.array n' e')=>n=n'&&e=e'
  | .str,some .string=>true
  | .other,some d=>(match d with| .struct _=>false| .array _ _=>false|_=>true)
  |_,_=>false
structure Xr(P:Program)(t:Nat)(ti:TI):Prop where
 P2:ti.zero.length=ti.size
 info:∃i,P.info? t=some i∧i.size=ti.size∧i.bytes=ti.bytes∧∃z,i.zero=some z∧z.cells.toList=ti.zero.map ZV.gj
 agg:wN P t=some ti.agg
 kind:match ti.kind with
  | .int k=>P.underlying t=some (.int k)
  | .bool=>P.underlying t=some .bool
  | .sl E=>P.underlying t=some (.slice E)
  | .st=>∃fs,P.underlying t=some (.struct fs)∧tT P ti.fields fs.toList=true
  | .arr n e=>P.underlying t=some (.array n e)
  | .str=>P.underlying t=some .string
  | .other=>True
def aho{P:Program}{t:Nat}{ti:TI}(h:P1 P t ti=true):Xr P t ti:=by
 unfold P1 at h;cases hi:P.info? t with
 |none=>rw[hi]at h;simp at h
 |some i=>
  rw[hi]at h
  simp only[eX,decide_eq_true_eq]at h
  obtain⟨⟨⟨⟨h1,h0⟩,h2⟩,h3⟩,h4⟩:=h
  have hz:∃z,i.zero=some z∧z.cells.toList=ti.zero.map ZV.gj:=by
   cases hz:i.zero with
   |none=>rw[hz]at h3;simp at h3
   |some z=>rw[hz]at h3;exact⟨z,ae,Xq h3⟩
  refine⟨h0,⟨i,hi,h1,h2,hz⟩,?_,?_⟩
  ·unfold wN TI.agg;cases hk:ti.kind<;>rw[hk]at h4<;>cases hu:P.underlying t<;>rw[hu]at h4<;>try(simp at h4;done)
   all_goals (rename_i d;cases d<;>first|rfl| (simp at h4;done))
  ·cases hk:ti.kind<;>rw[hk]at h4<;>cases hu:P.underlying t<;>rw[hu]at h4<;>try(simp at h4;done)
   all_goals (rename_i d;cases d<;>first|trivial| (simp at h4;done)| (simp at h4;subst h4;rfl)| (simp at h4;obtain⟨h5,h6⟩:=h4;subst h5 h6;rfl)|exact⟨_,rfl,h4⟩)
def cM(P:Program):TT→Bool
 |[]=>true
 | (t,ti)::r=>P1 P t ti&&cM P r
def gR{P:Program}:∀{tt:TT},cM P tt=true→∀{t ti},ao t tt=some ti→Xr P t ti
 |[],_,_,_,h=>by simp[ao]at h
 | (k,x)::r,hb,t,ti,h=>by
  simp only[cM,eX]at hb;simp only[ao]at h;split at h
  ·rename_i e;subst e;cases h;exact aho hb.1
  ·exact gR hb.2 h
structure St where
 sl:List (Nat×AV)
 mem:List (Nat×aK)
 nx:Nat
 gd:List (Nat×Bool):=[]
def St.kn(st:St):Kn
 | .s t=>(ao t st.sl).map .v
 | .m id=>(ao id st.mem).map .b
def P3:Value→AV
 | .bool b=> .c (.B b)
 | .int k n=> .c (.I k n)
 |v=> .c (.V v)
def St.ev(st:St):Operand→Option AV
 | .tmp t=>ao t st.sl
 | .const v=>some (P3 v)
 | .func f=>some (.c (.V (.func (.func f) #[] #[])))
 | .global _=>none
def dU(st:St):Operand→List (Key×Info)
 | .tmp t=>match ao t st.sl with
  |some v=>[(.s t,.v v)]
  |none=>[]
 |_=>[]
def ahp(g:Gh)(v:Value):bP g (P3 v) v:=by cases v<;>exact ae
def gI{F:de}{known:Nat→Prop}{σ:Kn}{g:Gh}{W:World}{a:Act}(h:bJ F known σ g W a)(st:St)(x:Operand)(v:AV)(he:st.ev x=some v)
  (hr:∀kx∈dU st x,σ kx.1=some kx.2):bP g v (a.eval x):=by
 cases x with
 |tmp t=>
  simp only[St.ev]at he
  have:=hr (.s t,.v v) (by simp[dU,he])
  exact h.gG t v this
 |const u=>simp only[St.ev,aO]at he;subst he;exact ahp g u
 |func f=>simp only[St.ev,aO]at he;subst he;rfl
 |global _=>simp[St.ev]at he
def vd{F:de}{known:Nat→Prop}{σ:Kn}{g:Gh}{W:World}{a:Act}(h:bJ F known σ g W a)(st:St)(x:Operand)(v:AV)(he:st.ev x=some v)
  (hr:∀kx∈dU st x,σ kx.1=some kx.2):∀id∈v.aD,known id:=by
 cases x with
 |tmp t=>
  simp only[St.ev]at he
  have:=hr (.s t,.v v) (by simp[dU,he])
  exact λid al=>h.aD _ _ this id al
 |const u=>simp only[St.ev,aO]at he;subst he;intro id al;cases u<;>simp[P3,AV.aD,C.aD]at al
 |func f=>simp only[St.ev,aO]at he;subst he;intro id al;simp[AV.aD,C.aD]at al
 |global _=>simp[St.ev]at he
def ve{P:Program}{ops:Array Oper}{i:Nat}{o:Oper}{d:Nat}(ho:ops[i]? =some o)(hg:o.guard=none)(hd:o.dst=some d){n:Nat}(aV:d<n)
  (rd:List (Key×Info)) (x:AV) (new:Nat)
  (h:∀(F:de)(known:Nat→Prop)(σ:Kn)(g:Gh)(W:World)(a:Act),bJ F known σ g W a→(∀kx∈rd,σ kx.1=some kx.2)→
   (∀id∈x.aD,known id)∧∃v,(execOp a.eval o).run P W= .ok (.value v) W∧bP g x v):
  mA P n ops i rd [(.s d,some (.v x))] new:=by
 intro F gk Q known σ g W a K dX aJ bw hK
 obtain⟨hm,v,b7,bW⟩:=h F known σ g W a aJ bw
 unfold wpOp
 simp only[ho,Region.wanted,hg,cP]
 refine .inl ?_
 unfold Oper.wp
 rw[b7]
 simp only[Oper.upon,hd]
 have cR:d<a.tmps.size:=rA
 refine hK g W _ (aJ.step (chg:=λ_=>False) (g':=g) (W':=W) ⟨⟨cF.refl _,λ_ _=>rfl⟩,λ_ _ _=>rfl,aJ.sub,bD _,λ_ _ _=>rfl,ae,ae,ae⟩ _ new dX sC aJ.defers ?_ (λ_ h=>h.elim) ?_ ?_ ?_ ?_)
 ·intro t ht;have aR:d≠t:=by intro e;subst e;simp[bc]at ht
  simp[Act.put,nT aR]
 ·intro t u ht;simp only[bc]at ht;split at ht
  ·rename_i e;simp only[Key.s.injEq]at e;simp only[aO,Info.v.injEq]at ht;subst e;subst ht;simpa[Act.put,cR]using bW
  ·simp at ht
 ·intro id b ht;simp[bc]at ht
 ·intro k y ht;simp only[bc]at ht;split at ht
  ·simp only[aO]at ht;subst ht;exact λid al=> .inl (hm id al)
  ·simp at ht
 ·intro id y ht;simp[bc]at ht
def aA(n:Int):Prop:= -9223372036854775808≤n∧n≤9223372036854775807
inductive Pr where
 |t
 |i64 (n:Int)
 |P4 (b:Int)
 |le (a b:Int)
 |lt (a b:Int)
 |KW (a b:Nat)
 |BB (a b:Bool)
 |and (p q:Pr)
def Pr.h:Pr→Prop
 | .t=>True
 | .i64 n=>aA n
 | .P4 b=>b≠0
 | .le a b=>a≤b
 | .lt a b=>a<b
 | .KW a b=>a<b
 | .BB a b=>a=b
 | .and p q=>p.h∧q.h
def Pr.an:Pr→Pr→Pr
 | .t,q=>q
 |p,.t=>p
 |p,q=> .and p q
def Pr.D3{p q:Pr}(h:(p.an q).h):p.h∧q.h:=by
 unfold Pr.an at h;split at h
 ·exact⟨ah,h⟩
 ·exact⟨h,ah⟩
 ·exact h
instance:CoeSort Pr Prop:=⟨Pr.h⟩
def num(k:IntKind)(n:Int):C×Pr:=match k with
 | .i64=>(.I .i64 n,.i64 n)
 |k=>(.I k (k.wrap n),.t)
def D4(k:IntKind)(n:Int)(h:(num k n).2.h)(g:Gh):dt g (num k n).1 (.int k (k.wrap n)):=by cases k<;>first|exact rfl| (show Value.int .i64 _=_;rw[Go.IntWalk.i64_in n h])
def GV(op:BinOp)(k:IntKind)(a b:Int):Option (C×Pr):=match op with
 | .add=>some (num k (a+b))
 | .sub=>some (num k (a-b))
 | .mul=>some (num k (a*b))
 | .quo=>some ((num k (a.tdiv b)).1,.and (.P4 b) (num k (a.tdiv b)).2)
 | .rem=>some (.I k (a.tmod b),.P4 b)
 | .and=>some (.I k (k.wrap (BitVec.ofInt k.bits a&&& BitVec.ofInt k.bits b).toNat),.t)
 | .or=>some (.I k (k.wrap (BitVec.ofInt k.bits a|||BitVec.ofInt k.bits b).toNat),.t)
 | .eql=>some (.B (a==b),.t)
 | .neq=>some (.B (a !=b),.t)
 | .lss=>some (.B (decide (a<b)),.t)
 | .leq=>some (.B (decide (a≤b)),.t)
 | .gtr=>some (.B (decide (a>b)),.t)
 | .geq=>some (.B (decide (a≥b)),.t)
 |_=>none
def D5(op:BinOp)(k:IntKind)(a b:Int):Option (C×Pr):=match op with
 | .shl=>some (.I k (k.wrap (a*2^(min b.toNat k.bits))),.le 0 b)
 | .shr=>some (.I k (a.fdiv (2^(min b.toNat k.bits))),.le 0 b)
 |_=>none
def KX(op:BinOp):C→C→Option (C×Pr)
 | .I k a,.I k' b=>match op with
  | .shl=>D5 .shl k a b
  | .shr=>D5 .shr k a b
  |op=>if k=k' then GV op k a b else none
 | .B a,.B b=>match op with
  | .eql=>some (.B (a==b),.t)
  | .neq=>some (.B (a !=b),.t)
  |_=>none
 |_,_=>none
def ahq{P:Program}{op:BinOp}{k:IntKind}{a b:Int}{c:C}{pre:Pr}(h:GV op k a b=some (c,pre))(hp:pre)(g:Gh)(t:TypeId)(W:World):
  ∃v,(binOp op t (.int k a) (.int k b)).run P W= .ok v W∧dt g c v:=by
 cases op<;>simp only[GV,aO,cE,reduceCtorEq]at h
 case add=>have h':num k (a+b)=(c,pre):=h;refine⟨.int k (k.wrap (a+b)),by simp[binOp,Op.intArith,pure],?_⟩;have:=D4 k (a+b) (by rw[h'];exact hp) g;rw[h']at this;exact this
 case sub=>have h':num k (a-b)=(c,pre):=h;refine⟨.int k (k.wrap (a-b)),by simp[binOp,Op.intArith,pure],?_⟩;have:=D4 k (a-b) (by rw[h'];exact hp) g;rw[h']at this;exact this
 case mul=>have h':num k (a*b)=(c,pre):=h;refine⟨.int k (k.wrap (a*b)),by simp[binOp,Op.intArith,pure],?_⟩;have:=D4 k (a*b) (by rw[h'];exact hp) g;rw[h']at this;exact this
 case quo=>
  obtain⟨rfl,rfl⟩:=h
  exact⟨.int k (k.wrap (a.tdiv b)),by simp[binOp,Op.intDiv,show b≠0 from(show b≠0∧_ from hp).1,pure],D4 k _ (show b≠0∧_ from hp).2 g⟩
 case rem=>
  obtain⟨rfl,rfl⟩:=h
  exact⟨.int k (a.tmod b),by simp[binOp,Op.intDiv,show b≠0 from hp,pure],ae⟩
 case and=>obtain⟨rfl,rfl⟩:=h;exact⟨_,by simp[binOp,Op.intBits,pure],ae⟩
 case or=>obtain⟨rfl,rfl⟩:=h;exact⟨_,by simp[binOp,Op.intBits,pure],ae⟩
 case eql=>obtain⟨rfl,rfl⟩:=h;exact⟨_,by simp[binOp,Op.intCmp,pure],ae⟩
 case neq=>obtain⟨rfl,rfl⟩:=h;exact⟨_,by simp[binOp,Op.intCmp,pure],ae⟩
 case lss=>obtain⟨rfl,rfl⟩:=h;exact⟨_,by simp[binOp,Op.intCmp,pure],ae⟩
 case leq=>obtain⟨rfl,rfl⟩:=h;exact⟨_,by simp[binOp,Op.intCmp,pure],ae⟩
 case gtr=>obtain⟨rfl,rfl⟩:=h;exact⟨_,by simp[binOp,Op.intCmp,pure],ae⟩
 case geq=>obtain⟨rfl,rfl⟩:=h;exact⟨_,by simp[binOp,Op.intCmp,pure],ae⟩
def run_equal_bool{P:Program}{t:TypeId}(hu:P.underlying t=some .bool)(a b:Bool)(W:World):(Op.equal t (.bool a) (.bool b)).run P W= .ok (a==b) W:=by rw[Op.equal,show Op.maxDepth=9999+1 from ae,Op.equalIn];simp[run_underlying hu]
def Xs(tt:TT)(t:Nat):Bool:=match ao t tt with
 |some ti=>(match ti.kind with| .bool=>true|_=>false)
 |none=>false
def GW(tt:TT)(op:BinOp)(t:Nat)(x y:C):Option (C×Pr):=match x,y with
 | .B a,.B b=>if Xs tt t then KX op (.B a) (.B b)else none
 |x,y=>KX op x y
def ahr{P:Program}{tt:TT}(aT:cM P tt=true){op:BinOp}{t:TypeId}{x y:C}{c:C}{pre:Pr}(h:GW tt op t x y=some (c,pre))(hp:pre)(g:Gh){vx vy:Value}(hx:dt g x vx)(hy:dt g y vy)(W:World)
  (ox oy:Operand):∃v,(do eqGuard op t ox oy vx vy;binOp op t vx vy:Sem Value).run P W= .ok v W∧dt g c v:=by
 cases x<;>cases y<;>simp only[GW,KX,reduceCtorEq]at h
 case B.B a b=>
  split at h
  ·rename_i hb;have hu:P.underlying t=some .bool:=by
    unfold Xs at hb;cases hl:ao t tt with
    |none=>rw[hl]at hb;simp at hb
    |some ti=>
     rw[hl]at hb
     have:=(gR aT hl).kind
     cases hk:ti.kind<;>simp only[hk]at hb this<;>first|exact this| (simp at hb)
   simp only[dt]at hx hy;subst hx hy;cases op<;>simp only[aO,cE,reduceCtorEq]at h
   ·obtain⟨rfl,rfl⟩:=h;exact⟨.bool (a==b),by simp[eqGuard,binOp,run_equal_bool hu],ae⟩
   ·obtain⟨rfl,rfl⟩:=h;exact⟨.bool (a !=b),by simp[eqGuard,binOp,run_equal_bool hu,bne],ae⟩
  ·simp at h
 case I.I k a k' b=>
  simp only[dt]at hx hy
  subst hx hy
  have hq:∀op,(do eqGuard op t ox oy (.int k a) (.int k' b);binOp op t (.int k a) (.int k' b):Sem Value).run P W=(binOp op t (.int k a) (.int k' b)).run P W:=by intro op;cases op<;>simp[eqGuard]
  rw[hq]
  cases op
  case shl=>
   simp only[D5,aO,cE]at h
   obtain⟨rfl,rfl⟩:=h
   exact⟨_,by simp[binOp,Op.shift,Int.not_lt.2 (show(0:Int)≤_ from hp),pure],ae⟩
  case shr=>
   simp only[D5,aO,cE]at h
   obtain⟨rfl,rfl⟩:=h
   exact⟨_,by simp[binOp,Op.shift,Int.not_lt.2 (show(0:Int)≤_ from hp),pure],ae⟩
  all_goals
   simp only at h
   split at h
   ·rename_i e;subst e;exact ahq h hp g t W
   ·simp at h
def KY{P:Program}{t:TypeId}{b:Bool}(h:wN P t=some b)(W:World):(isAgg t).run P W= .ok b W:=by
 unfold wN at h;cases hu:P.underlying t with
 |none=>rw[hu]at h;simp at h
 |some d=>
  rw[hu]at h
  simp only[isAgg,Sem.run_bind,run_underlying hu,Result.andThen]
  cases d<;>simp at h<;>subst h<;>rfl
def run_sizeOf{P:Program}{t:TypeId}{i:TypeInfo}(h:P.info? t=some i)(W:World):(sizeOf t).run P W= .ok i.size W:=by simp[sizeOf,typeInfo,h]
def KZ{P:Program}:∀{l:List (Nat×Nat×Bool)}{fs:List Field},tT P l fs=true→∀{k:Nat}{off sz:Nat}{ag:Bool},l[k]? =some (off,sz,ag)→
  ∃f,fs[k]? =some f∧f.offset=off∧(∃i,P.info? f.type=some i∧i.size=sz)∧sz≠0∧wN P f.type=some ag
 |[],_,_,_,_,_,_,h=>by simp at h
 | (o,s,g)::r,[],hb,_,_,_,_,_=>by simp[tT]at hb
 | (o,s,g)::r,f::fs,hb,0,off,sz,ag,h=>by
  simp only[tT,eX,decide_eq_true_eq,beq_iff_eq]at hb;simp only[Bf,aO,cE]at h;obtain⟨rfl,rfl,rfl⟩:=h;obtain⟨⟨⟨⟨h1,h2⟩,h3⟩,h4⟩,_⟩:=hb;refine⟨f,by simp,h1,?_,by simpa using h3,h4⟩;cases hi:P.info? f.type with
  |none=>rw[hi]at h2;simp at h2
  |some i=>rw[hi]at h2;simp at h2;exact⟨i,ae,h2⟩
 | (o,s,g)::r,f::fs,hb,k+1,off,sz,ag,h=>by simp only[tT,eX]at hb;simp only[Dv]at h;obtain⟨f',h1,h2⟩:=KZ hb.2 h;exact⟨f',by simpa using h1,h2⟩
def pD(cs:List C)(off sz:Nat)(ag:Bool):Option AV:=
 if ag then(if off+sz≤cs.length then some (.a ((cs.drop off).take sz))else none)else(cs[off]?).map .c
def bU.get{g:Gh}:∀{cs:List C}{vs:List Value},bU g cs vs→∀{k:Nat}{c:C},cs[k]? =some c→∃v,vs[k]? =some v∧dt g c v
 |[],_,_,_,_,h=>by simp at h
 |_::_,_,hr,0,c,h=>by obtain⟨v,r,rfl,h1,_⟩:=hr;simp at h;subst h;exact⟨v,by simp,h1⟩
 |_::_,_,hr,k+1,c,h=>by obtain⟨v,r,rfl,_,h2⟩:=hr;simp at h;obtain⟨u,h3,h4⟩:=bU.get h2 h;exact⟨u,by simpa using h3,h4⟩
def bU.drop{g:Gh}:∀{cs:List C}{vs:List Value},bU g cs vs→∀k,bU g (cs.drop k) (vs.drop k)
 |[],_,h,k=>by simp only[bU]at h;subst h;simp[bU]
 |_::_,_,h,0=>by simpa using h
 |_::_,_,h,k+1=>by obtain⟨v,r,rfl,_,h2⟩:=h;simpa using bU.drop h2 k
def bU.take{g:Gh}:∀{cs:List C}{vs:List Value},bU g cs vs→∀k,bU g (cs.take k) (vs.take k)
 |[],_,h,k=>by simp only[bU]at h;subst h;simp[bU]
 |_::_,_,_,0=>by simp[bU]
 |_::_,_,h,k+1=>by obtain⟨v,r,rfl,h1,h2⟩:=h;simpa using⟨v,_,ae,h1,bU.take h2 k⟩
def K0(cs:List C)(k:Nat):∀id∈cD (cs.drop k),id∈cD cs:=by
 induction cs generalizing k with
 |nil=>simp
 |cons c cs ih=>cases k with
  |zero=>simp
  |succ k=>intro id h;simp only[List.drop_succ_cons]at h;simp only[cD,b6];exact .inr (ih k id h)
def K1(cs:List C)(k:Nat):∀id∈cD (cs.take k),id∈cD cs:=by
 induction cs generalizing k with
 |nil=>simp
 |cons c cs ih=>cases k with
  |zero=>simp[cD]
  |succ k=>
   intro id h
   simp only[List.take_succ_cons,cD,b6]at h⊢
   exact h.imp (λx=>x) (ih k id)
def ahs{cs:List C}{k:Nat}{c:C}(h:cs[k]? =some c):∀id∈c.aD,id∈cD cs:=by
 induction cs generalizing k with
 |nil=>simp at h
 |cons d cs ih=>cases k with
  |zero=>simp at h;subst h;intro id al;simp[cD,al]
  |succ k=>simp at h;intro id al;simp only[cD,b6];exact .inr (ih h id al)
def Xt{P:Program}{g:Gh}{cs:List C}{vs:List Value}(hr:bU g cs vs){off sz:Nat}{ag:Bool}{x:AV}(h:pD cs off sz ag=some x){t:TypeId}(tU:wN P t=some ag)
  {i:TypeInfo} (hi:P.info? t=some i) (hs:i.size=sz) (W:World):∃v,(part t vs.toArray off).run P W= .ok v W∧bP g x v:=by
 unfold pD at h
 cases ag with
 |true=>
  simp only[cP]at h
  split at h
  ·rename_i hle;simp only[aO]at h;subst h;have hlen:=hr.length;refine⟨.agg (vs.toArray.extract off (off+sz)),?_,⟨(vs.drop off).take sz,?_,(hr.drop off).take sz⟩⟩
   ·simp only[part,Sem.run_bind,KY tU,Result.andThen,cP,run_sizeOf hi,hs];rfl
   ·congr 1;simp[List.extract_toArray,List.extract_eq_take_drop]
  ·simp at h
 |false=>
  simp only[mV,cV,ct]at h
  obtain⟨c,hc,rfl⟩:=h
  obtain⟨v,hv,bW⟩:=hr.get hc
  refine⟨v,?_,bW⟩
  simp only[part,Sem.run_bind,KY tU,Result.andThen,mV,cV,Ku,hv];rfl
def D6{cs:List C}{off sz:Nat}{ag:Bool}{x:AV}(h:pD cs off sz ag=some x):∀id∈x.aD,id∈cD cs:=by
 unfold pD at h;cases ag with
 |true=>
  simp only[cP]at h
  split at h
  ·simp only[aO]at h;subst h;exact λid al=>K0 _ _ id (K1 _ _ id al)
  ·simp at h
 |false=>
  simp only[mV,cV,ct]at h
  obtain⟨c,hc,rfl⟩:=h
  exact ahs hc
def Xu(c x y:Option AV):Option (AV×Pr):=match c with
 |some (.c (.B b))=>match x,y with
  |some (.c (.B p)),some (.c (.B q))=>some (.c (.B (cond b p q)),.t)
  |some v,none=>some (v,.BB b true)
  |none,some v=>some (v,.BB b false)
  |some v,some (.c .any)=>some (v,.BB b true)
  |some (.c .any),some v=>some (v,.BB b false)
  |_,_=>none
 |_=>none
def P6(op:UnOp)(x:AV):Option (AV×Pr):=match op,x with
 | .not,.c (.B b)=>some (.c (.B (!b)),.t)
 | .neg,.c (.I k n)=>some (.c (num k (0-n)).1,(num k (0-n)).2)
 |_,_=>none
def P7(tt:TT)(src dst:Nat)(x:AV):Option (AV×Pr):=match ao src tt,ao dst tt,x with
 |some _,some ti,.c (.I _ n)=>(match ti.kind with
  | .int k=>some (.c (num k n).1,(num k n).2)
  |_=>none)
 |_,_,_=>none
def P8(tt:TT)(t:Nat)(x:AV)(f:Nat):Option AV:=match x,ao t tt with
 | .a cs,some ti=>(match ti.kind,ti.fields[f]? with
  | .st,some (off,sz,ag)=>pD cs off sz ag
  |_,_=>none)
 |_,_=>none
def P9(tt:TT)(t:Nat)(x:AV)(f:Nat):Option AV:=match ao t tt with
 |some ti=>(match ti.kind,ti.fields[f]? with
  | .st,some (off,_,_)=>(match x with
   | .c (.P id o)=>some (.c (.P id (o+off)))
   | .c (.E T e o)=>some (.c (.E T e (o+off)))
   | .c (.Y id n i o)=>some (.c (.Y id n i (o+off)))
   |_=>none)
  |_,_=>none)
 |none=>none
def P'(x:AV)(k:Nat):Option AV:=match x with
 | .t ss=>(match ss[k]? with
  |some (true,cs)=>some (.a cs)
  |some (false,[c])=>some (.c c)
  |_=>none)
 |_=>none
def wO(tt:TT)(t:Nat)(n:Nat):Bool:=match ao t tt with
 |some ti=>(match ti.kind with
  | .sl e=>(match ao e tt with|some ei=>ei.size=n|none=>false)
  |_=>false)
 |none=>false
def Qa(tt:TT)(t:Nat)(x i:AV):Option (AV×Pr):=match x,i with
 | .c (.S T xs),.c (.I _ k)=>if wO tt t T.n then some (.c (.E T (xs.getD k.toNat T.eR) 0),.and (.le 0 k) (.lt k xs.length))else none
 |_,_=>none
def K2(tt:TT)(t:Nat)(x:AV):Option AV:=match ao t tt with
 |some ti=>(match ti.kind with
  | .sl _=>(match x with
   | .c (.S _ xs)=>some (.c (.I .i64 xs.length))
   | .c (.V (.slice none 0 0))=>some (.c (.I .i64 0))
   | .c (.W _ _ len)=>some (.c (.I .i64 len))
   |_=>none)
  |_=>none)
 |none=>none
def K3(n:Nat):Option AV→Nat→Option (Nat×Pr)
 |none,d=>some (d,.t)
 |some (.c (.I _ k)),_=>some (k.toNat,.and (.le 0 k) (.le k n))
 |_,_=>none
def Qb(tt:TT)(t:Nat)(x:AV)(lo hi:Option AV):Option (AV×Pr):=match x with
 | .c (.S T xs)=>if wO tt t T.n then
   (match K3 xs.length hi xs.length with
   |some (h,p)=>(match K3 h lo 0 with
    |some (l,q)=>some (.c (.S T ((xs.take h).drop l)),.and p q)
    |none=>none)
   |none=>none)
  else none
 |_=>none
def K4(mx:Bool):List AV→Option AV
 |[.c (.I k a),.c (.I k' b)]=>if k=k' then some (.c (.I k (if mx then(if b>a then b else a)else(if b<a then b else a))))else none
 |_=>none
def zT(st:St):Option Operand→Option (Option AV)
 |none=>some none
 |some x=>(st.ev x).map some
def GX(tt:TT)(st:St):Op→Option (AV×Pr)
 | .move x=>(match st.ev x with|some v=>some (v,.t)|none=>none)
 | .assign x=>(match st.ev x with|some v=>some (v,.t)|none=>none)
 | .pick c x y=>Xu (st.ev c) (st.ev x) (st.ev y)
 | .binOp op t x y _=>(match st.ev x,st.ev y with
  |some (.c a),some (.c b)=>(match GW tt op t a b with|some (c,p)=>some (.c c,p)|none=>none)
  |_,_=>none)
 | .unOp op _ x=>(match st.ev x with|some v=>P6 op v|none=>none)
 | .convert s d x=>(match st.ev x with|some v=>P7 tt s d v|none=>none)
 | .field t x f=>(match st.ev x with|some v=>(match P8 tt t v f with|some u=>some (u,.t)|none=>none)|none=>none)
 | .fieldAddr t x f=>(match st.ev x with|some v=>(match P9 tt t v f with|some u=>some (u,.t)|none=>none)|none=>none)
 | .extract x k=>(match st.ev x with|some v=>(match P' v k with|some u=>some (u,.t)|none=>none)|none=>none)
 | .indexAddr t x i=>(match st.ev x,st.ev i with|some v,some w=>Qa tt t v w|_,_=>none)
 | .slice t x lo hi none=>(match st.ev x,zT st lo,zT st hi with|some v,some l,some h=>Qb tt t v l h|_,_,_=>none)
 | .call ⟨.builtin .len,args,dn⟩=>(match args.toList,dn.toList with
  |[x],[t]=>(match st.ev x with|some v=>(match K2 tt t v with|some u=>some (u,.t)|none=>none)|none=>none)
  |_,_=>none)
 | .call ⟨.builtin .max,args,_⟩=>(match args.toList with
  |[x,y]=>(match st.ev x,st.ev y with|some v,some w=>(match K4 true [v,w]with|some u=>some (u,.t)|none=>none)|_,_=>none)
  |_=>none)
 | .call ⟨.builtin .min,args,_⟩=>(match args.toList with
  |[x,y]=>(match st.ev x,st.ev y with|some v,some w=>(match K4 false [v,w]with|some u=>some (u,.t)|none=>none)|_,_=>none)
  |_=>none)
 |_=>none
def pE(st:St)(op:Op):List (Key×Info):=op.operands.toList.flatMap (dU st)
section
variable{P:Program}{tt:TT}{g:Gh}{W:World}
def aht{op:UnOp}{x:AV}{y:AV}{p:Pr}(h:P6 op x=some (y,p))(hp:p){v:Value}(hv:bP g x v):(∃u,(Op.unary op v).run P W= .ok u W∧bP g y u)∧∀id∈y.aD,id∈x.aD:=by
 unfold P6 at h;split at h
 ·simp only[aO,cE]at h;obtain⟨rfl,rfl⟩:=h;simp only[bP,dt]at hv;subst hv;exact⟨⟨_,by simp[Op.unary,pure],ae⟩,by simp[AV.aD,C.aD]⟩
 ·rename_i k n;simp only[aO,cE]at h;obtain⟨rfl,rfl⟩:=h;simp only[bP,dt]at hv;subst hv;refine⟨⟨.int k (k.wrap (0-n)),by simp[Op.unary,Op.intArith,pure],D4 k _ hp g⟩,?_⟩;intro id al;cases k<;>simp[num,AV.aD,C.aD]at al
 ·simp at h
def GY(k:IntKind)(n:Int):(num k n).1.aD=[]:=by cases k<;>rfl
def ahu(aT:cM P tt=true){s d:Nat}{x y:AV}{p:Pr}(h:P7 tt s d x=some (y,p))(hp:p){v:Value}(hv:bP g x v):(∃u,(convert s d v).run P W= .ok u W∧bP g y u)∧y.aD=[]:=by
 unfold P7 at h;split at h
 ·rename_i ti' ti k' n hs hd;split at h
  ·rename_i k hk;simp only[aO,cE]at h;obtain⟨rfl,rfl⟩:=h;simp only[bP,dt]at hv;subst hv;have h2:=(gR aT hd).kind;rw[hk]at h2;have h1:∃ds,P.underlying s=some ds:=by
    have:=(gR aT hs).agg;unfold wN at this;cases hu:P.underlying s with
    |none=>rw[hu]at this;simp at this
    |some ds=>exact⟨ds,ae⟩
   obtain⟨ds,h1⟩:=h1;refine⟨⟨.int k (k.wrap n),?_,D4 k n hp g⟩,GY k n⟩;simp only[convert,Sem.run_bind,run_underlying h1,run_underlying h2,Result.andThen];cases ds<;>rfl
  ·simp at h
 ·simp at h
def ahv(aT:cM P tt=true){t f:Nat}{x y:AV}(h:P8 tt t x f=some y){v:Value}(hv:bP g x v):(∃u,(Instr.field t v f).run P W= .ok u W∧bP g y u)∧∀id∈y.aD,id∈x.aD:=by
 unfold P8 at h;split at h
 ·rename_i cs ti hl;split at h
  ·rename_i off sz ag hk hf;have h2:=(gR aT hl).kind;rw[hk]at h2;obtain⟨fs,hu,vf⟩:=h2;obtain⟨fd,BC,rfl,⟨i,hi,cR⟩,_,tU⟩:=KZ vf hf;obtain⟨vs,rfl,hr⟩:=hv;obtain⟨u,b7,bW⟩:=Xt (W:=W) hr h tU hi cR;refine⟨⟨u,?_,bW⟩,D6 h⟩;have Qc:fs[f]? =some fd:=by simpa using BC
   simp only[Instr.field,Sem.run_bind,run_underlying hu,Result.andThen,Qc,asAgg];simpa using b7
  ·simp at h
 ·simp at h
def qt(b o n:Nat):(Addr.mk b o none).add n=⟨b,o+n,none⟩:=by
 unfold Addr.add;split
 ·rename_i e;subst e;rfl
 ·rfl
def ahw(aT:cM P tt=true){t f:Nat}{x y:AV}(h:P9 tt t x f=some y){v:Value}(hv:bP g x v):(∃u,(Instr.fieldAt t v f).run P W= .ok u W∧bP g y u)∧∀id∈y.aD,id∈x.aD:=by
 unfold P9 at h;split at h
 ·rename_i ti hl;split at h
  ·rename_i off sz ag hk hf;have h2:=(gR aT hl).kind;rw[hk]at h2;obtain⟨fs,hu,vf⟩:=h2;obtain⟨fd,BC,rfl,⟨i,hi,cR⟩,hnz,tU⟩:=KZ vf hf;have Qc:fs[f]? =some fd:=by simpa using BC
   have b7:∀b o,(Instr.fieldAt t (.pointer (some ⟨b,o,none⟩)) f).run P W= .ok (.pointer (some ⟨b,o+fd.offset,none⟩)) W:=by intro b o;simp only[Instr.fieldAt,Sem.run_bind,run_underlying hu,Result.andThen,Qc,Instr.sureAddr,fieldPlace,run_sizeOf hi];simp[cR,hnz,qt]
   split at h
   ·simp only[aO]at h;subst h;obtain⟨b,hb,rfl⟩:=hv;exact⟨⟨_,b7 _ _,b,hb,ae⟩,by simp[AV.aD,C.aD]⟩
   ·simp only[aO]at h;subst h;obtain⟨b,o,cs,rfl,h3,h4⟩:=hv;exact⟨⟨_,b7 _ _,b,o,cs,by simp[tO],h3,h4⟩,by simp[AV.aD,C.aD]⟩
   ·simp only[aO]at h;subst h;obtain⟨b,l,c,hb,rfl⟩:=hv;exact⟨⟨_,b7 _ _,b,l,c,hb,by simp[tO]⟩,by simp[AV.aD,C.aD]⟩
   ·simp at h
  ·simp at h
 ·simp at h
def dv.get{g:Gh}:∀{ss:List (Bool×List C)}{vs:List Value},dv g ss vs→∀{k:Nat}{s:Bool×List C},ss[k]? =some s→∃v,vs[k]? =some v∧Bx g s v
 |[],_,_,_,_,h=>by simp at h
 |_::_,_,hr,0,c,h=>by obtain⟨v,r,rfl,h1,_⟩:=hr;simp at h;subst h;exact⟨v,by simp,h1⟩
 |_::_,_,hr,k+1,c,h=>by obtain⟨v,r,rfl,_,h2⟩:=hr;simp at h;obtain⟨u,h3,h4⟩:=dv.get h2 h;exact⟨u,by simpa using h3,h4⟩
def Xv{cs:List (Bool×List C)}{k:Nat}{c:Bool×List C}(h:cs[k]? =some c):∀id∈cD c.2,id∈fJ cs:=by
 induction cs generalizing k with
 |nil=>simp at h
 |cons d cs ih=>cases k with
  |zero=>simp at h;subst h;intro id al;simp[fJ,al]
  |succ k=>simp at h;intro id al;simp only[fJ,b6];exact .inr (ih h id al)
def ahy{x y:AV}{k:Nat}(h:P' x k=some y){v:Value}(hv:bP g x v):(∃u,(Instr.extract v k).run P W= .ok u W∧bP g y u)∧∀id∈y.aD,id∈x.aD:=by
 unfold P' at h;split at h
 ·rename_i ss;obtain⟨vs,rfl,hr⟩:=hv;split at h
  ·rename_i cs hs;simp only[aO]at h;subst h;obtain⟨u,hu,bW⟩:=hr.get hs;exact⟨⟨u,by simp[Instr.extract,hu,pure],bW⟩,Xv hs⟩
  ·rename_i c hs;simp only[aO]at h;subst h;obtain⟨u,hu,bW⟩:=hr.get hs;exact⟨⟨u,by simp[Instr.extract,hu,pure],bW⟩,λid al=>Xv hs id (by simp[cD];exact al)⟩
  ·simp at h
 ·simp at h
def D7(aT:cM P tt=true){t n:Nat}(h:wO tt t n=true):∃e i,P.underlying t=some (.slice e)∧P.info? e=some i∧i.size=n:=by
 unfold wO at h;split at h
 ·rename_i ti hl;split at h
  ·rename_i e hk;split at h
   ·rename_i ei he;have h2:=(gR aT hl).kind;rw[hk]at h2;obtain⟨i,hi,hs,_⟩:=(gR aT he).info;exact⟨e,i,h2,hi,by rw[hs];simpa using h⟩
   ·simp at h
  ·simp at h
 ·simp at h
def ahz(aT:cM P tt=true){t:Nat}{x i y:AV}{p:Pr}(h:Qa tt t x i=some (y,p))(hp:p){v u:Value}(hv:bP g x v)(hu:bP g i u):(∃z,(Instr.indexAt t v u).run P W= .ok z W∧bP g y z)∧y.aD=[]:=by
 unfold Qa at h;split at h
 ·rename_i T xs k' k;split at h
  ·rename_i dh;simp only[aO,cE]at h;obtain⟨rfl,rfl⟩:=h;obtain⟨e,i,mZ,hi,hs⟩:=D7 aT dh;simp only[bP,dt]at hu;subst hu;obtain⟨a,cap,rfl,h1,h2,h3⟩:=hv;obtain⟨jo,iN⟩:=(show 0≤k∧k<(xs.length:Int)from hp);have br:k.toNat<xs.length:=af;rcases h3 with h3|⟨b,off,rfl,h3⟩
   ·subst h3;simp at br
   ·obtain⟨cs,hl,hr,hc⟩:=h3 k.toNat br;refine⟨⟨.pointer (some ⟨b,off+k.toNat*T.n,none⟩),?_,b,off+k.toNat*T.n,cs,ae,?_,?_⟩,ae⟩
    ·have sV:(0≤k∧k<(xs.length:Int)):=⟨jo,iN⟩;simp only[Instr.indexAt,asIntOf,Sem.run_bind,run_underlying mZ,Result.andThen];simp[sV,run_sizeOf hi,hs,qt]
    ·rw[aU,cr br];exact hr
    ·intro j hj;have:=hc j hj;rw[this]
  ·simp at h
 ·simp at h
def ahA(aT:cM P tt=true){t r:Nat}{x y:AV}(h:K2 tt t x=some y){v:Value}(hv:bP g x v):(∃u,(Builtin.len_ #[t] r #[v]).run P W= .ok u W∧bP g y u)∧y.aD=[]:=by
 unfold K2 at h;split at h
 ·rename_i ti hl;split at h
  ·rename_i e hk;have h2:=(gR aT hl).kind;rw[hk]at h2;split at h
   ·rename_i T xs;simp only[aO]at h;subst h;obtain⟨a,cap,rfl,_⟩:=hv;exact⟨⟨_,by simp[Builtin.len_,run_underlying h2,goInt,Sem.run,pure],ae⟩,ae⟩
   ·simp only[aO]at h;subst h;simp only[bP,dt]at hv;subst hv;exact⟨⟨_,by simp[Builtin.len_,run_underlying h2,goInt,Sem.run,pure],ae⟩,ae⟩
   ·simp only[aO]at h;subst h;obtain⟨b,c,_,rfl,_⟩:=hv;exact⟨⟨_,by simp[Builtin.len_,run_underlying h2,goInt,Sem.run,pure],ae⟩,ae⟩
   ·simp at h
  ·simp at h
 ·simp at h
def Xw{mx:Bool}{l:List AV}{y:AV}(h:K4 mx l=some y){v w:Value}{x1 x2:AV}(hl:l=[x1,x2])(hv:bP g x1 v)(hw:bP g x2 w)(t:Array TypeId)(r:TypeId):
  (∃u,(if mx then Builtin.max_ t r #[v,w]else Builtin.min_ t r #[v,w]).run P W= .ok u W∧bP g y u)∧y.aD=[]:=by
 unfold K4 at h
 split at h
 ·rename_i k a k' b;split at h
  ·rename_i e;subst e;simp only[aO]at h;subst h;simp only[Pw,and_true]at hl;obtain⟨rfl,rfl⟩:=hl;simp only[bP,dt]at hv hw;subst hv hw;cases mx
   ·exact⟨⟨_,by simp[Builtin.min_,Builtin.min2,Sem.run,pure],ae⟩,ae⟩
   ·exact⟨⟨_,by simp[Builtin.max_,Builtin.max2,Sem.run,pure],ae⟩,ae⟩
  ·simp at h
 ·simp at h
end
section
variable{P:Program}{tt:TT}{g:Gh}{W:World}
def zW(g:Gh):Option AV→Option Value→Prop
 |none,none=>True
 |some a,some u=>bP g a u
 |_,_=>False
def ahB{op:BinOp}{t:Nat}{x y c:C}{p:Pr}(h:GW tt op t x y=some (c,p)):c.aD=[]:=by
 cases x<;>cases y<;>simp only[GW,KX,reduceCtorEq]at h;case B.B a b=>
  split at h
  ·cases op<;>simp only[aO,cE,reduceCtorEq]at h;all_goals (obtain⟨rfl,_⟩:=h;rfl)
  ·simp at h
 case I.I k a k' b=>
  have hb:∀op,GV op k a b=some (c,p)→c.aD=[]:=by
   intro op h;cases op<;>simp only[GV,aO,reduceCtorEq]at h;case add=>have:=ay Prod.fst h;simp only at this;rw[←this];exact GY _ _
   case sub=>have:=ay Prod.fst h;simp only at this;rw[←this];exact GY _ _
   case mul=>have:=ay Prod.fst h;simp only at this;rw[←this];exact GY _ _
   all_goals
    simp only[cE]at h
    obtain⟨rfl,_⟩:=h
    first|rfl|exact GY _ _
  cases op
  case shl=>simp only[D5,aO,cE]at h;obtain⟨rfl,_⟩:=h;rfl
  case shr=>simp only[D5,aO,cE]at h;obtain⟨rfl,_⟩:=h;rfl
  all_goals
   simp only at h
   split at h
   ·exact hb _ h
   ·simp at h
def Qd{n:Nat}{x:Option AV}{d h:Nat}{p:Pr}(hb:K3 n x d=some (h,p))(hp:p){v:Option Value}(hv:zW g x v)
  (m:Nat) (hm:n≤m) (code:BoundsCode):
  (x=none∧v=none∧h=d)∨(∃u,v=some u∧h≤n∧(Instr.sliceBound u m code).run P W= .ok h W):=by
 unfold K3 at hb
 split at hb
 ·simp only[aO,cE]at hb;cases v with
  |none=>exact .inl ⟨ae,ae,hb.1.symm⟩
  |some u=>exact hv.elim
 ·rename_i k' k;simp only[aO,cE]at hb;obtain⟨rfl,rfl⟩:=hb;cases v with
  |none=>exact hv.elim
  |some u=>
   have kh:u= .int k' k:=hv
   subst kh
   have Qe:0≤k∧k≤(n:Int):=hp
   refine .inr ⟨_,ae,by omega,?_⟩
   have:0≤k∧k≤(m:Int):=⟨Qe.1,by omega⟩
   simp[Instr.sliceBound,asIntOf,this,Sem.run,pure]
 ·simp at hb
def nt.sub{α:Type}{R:α→List Value→Prop}{n:Nat}{H:FH}{xs:List α}{a:Option Addr}{cap:Nat}(h:nt R n H xs (.slice a xs.length cap)){l hh:Nat}(h1:l≤hh)(h2:hh≤xs.length):
  nt R n H ((xs.take hh).drop l) (.slice (if cap=l then a else a.map (·.add (l*n))) (hh-l) (cap-l)):=by
 obtain⟨a',Qf,e,h3,h4,h5⟩:=h
 simp only[Value.slice.injEq,true_and]at e
 obtain⟨rfl,rfl⟩:=e
 have hlen:((xs.take hh).drop l).length=hh-l:=cT
 refine⟨_,cap-l,by rw[hlen],by omega,?_,?_⟩
 ·rw[hlen];exact dF (eJ n af) h4
 ·by_cases hz:hh=l
  ·left;apply iu;omega
  ·right;rcases h5 with h5|⟨b,off,rfl,h5⟩
   ·subst h5;simp at h2;omega
   ·refine⟨b,off+l*n,?_,λi hi=>?_⟩
    ·rw[aq af];simp[qt]
    ·obtain⟨cs,hl,hr,hc⟩:=h5 (l+i) af;refine⟨cs,hl,?_,λj hj=>?_⟩
     ·simpa using hr
     ·have:=hc j hj;rw[show off+l*n+i*n+j=off+(l+i)*n+j by rw[fV];omega];exact this
def ahC(aT:cM P tt=true){t:Nat}{x y:AV}{lo hi:Option AV}{p:Pr}(h:Qb tt t x lo hi=some (y,p))(hp:p){v:Value}{vl vh:Option Value}(hv:bP g x v)
  (hl:zW g lo vl) (hh:zW g hi vh):
  (∃z,(Instr.sliceAt t v vl vh none).run P W= .ok z W∧bP g y z)∧y.aD=[]:=by
 unfold Qb at h
 split at h
 ·rename_i T xs;split at h
  ·rename_i dh;obtain⟨e,i,mZ,x7,hs⟩:=D7 aT dh;split at h
   ·rename_i nB p1 jq;split at h
    ·rename_i l p2 dO;simp only[aO,cE]at h;obtain⟨rfl,rfl⟩:=h;obtain⟨jo,iN⟩:=hp;have kh:=hv;obtain⟨a,cap,rfl,h1,h2,h3⟩:=kh;have GZ:=Qd (P:=P) (W:=W) jq jo hh cap h1 (.sliceAcap);have hle:nB≤xs.length:=by rcases GZ with⟨_,_,e⟩|⟨_,_,h,_⟩<;>omega
     have G3:=Qd (P:=P) (W:=W) dO iN hl nB (bD _) (.sliceB);have G4:l≤nB:=by rcases G3 with⟨_,_,e⟩|⟨_,_,h,_⟩<;>omega
     have bW:=nt.sub hv G4 hle;refine⟨⟨_,?_,bW⟩,ae⟩;have nZ:(Instr.sliceBounds true xs.length cap vl vh none).run P W= .ok (l,nB,cap) W:=by rcases GZ with⟨_,rfl,rfl⟩|⟨u,rfl,_,n5⟩<;>rcases G3 with⟨_,rfl,rfl⟩|⟨u',rfl,_,qu⟩<;>simp[Instr.sliceBounds, *]
     simp only[Instr.sliceAt,Sem.run_bind,run_underlying mZ,Result.andThen,Instr.slice,nZ,run_sizeOf x7,hs];rfl
    ·simp at h
   ·simp at h
  ·simp at h
 ·simp at h
def G5{F:de}{known:Nat→Prop}{σ:Kn}{a:Act}(h:bJ F known σ g W a)(st:St)(x:Option Operand)(v:Option AV)(he:zT st x=some v)
  (hr:∀o,x=some o→∀kx∈dU st o,σ kx.1=some kx.2):zW g v (x.map a.eval):=by
 cases x with
 |none=>simp only[zT,aO]at he;subst he;trivial
 |some o=>
  simp only[zT,ct]at he
  obtain⟨u,hu,rfl⟩:=he
  exact gI h st o u hu (hr o ae)
def Qg(aT:cM P tt=true){ops:Array Oper}{i:Nat}{o:Oper}{d:Nat}(ho:ops[i]? =some o)(hg:o.guard=none)(hd:o.dst=some d){n:Nat}(aV:d<n)
  {st:St} {x:AV} {p:Pr} (he:GX tt st o.op=some (x,p)) (hp:p) (new:Nat):mA P n ops i (pE st o.op) [(.s d,some (.v x))] new:=by
 refine ve ho hg hd aV _ x new ?_
 intro F known σ g W a aJ bw
 have eT:∀y∈o.op.operands,∀u,st.ev y=some u→bP g u (a.eval y)∧∀id∈u.aD,known id:=by
  intro y hy u hu;have hr:∀kx∈dU st y,σ kx.1=some kx.2:=λkx aS=>bw kx (jK.2 ⟨y,by simpa using hy,aS⟩)
  exact⟨gI aJ st y u hu hr,vd aJ st y u hu hr⟩
 have fM:∀y∈o.op.operands,∀kx∈dU st y,σ kx.1=some kx.2:=λy hy kx aS=>bw kx (jK.2 ⟨y,by simpa using hy,aS⟩)
 obtain⟨od,op,Qh,asZ,as0,ogd⟩:=o
 simp only at he eT fM
 unfold GX at he
 split at he
 ·rename_i y;split at he
  ·rename_i v hv;simp only[aO,cE]at he;obtain⟨rfl,rfl⟩:=he;have:=eT y iJ _ hv;exact⟨this.2,_,by simp[execOp,pure],this.1⟩
  ·simp at he
 ·rename_i y;split at he
  ·rename_i v hv;simp only[aO,cE]at he;obtain⟨rfl,rfl⟩:=he;have:=eT y iJ _ hv;exact⟨this.2,_,by simp[execOp,pure],this.1⟩
  ·simp at he
 ·rename_i c y z;unfold Xu at he;split at he
  ·rename_i b hb;have cy:=(eT c iJ _ hb).1;simp only[bP,dt]at cy;split at he
   ·rename_i p1 q1 hy hz;simp only[aO,cE]at he;obtain⟨rfl,rfl⟩:=he;have h1:=(eT y iJ _ hy).1;have h2:=(eT z iJ _ hz).1;simp only[bP,dt]at h1 h2;refine⟨by simp[AV.aD,C.aD],.bool (cond b p1 q1),?_,ae⟩;cases b<;>simp[execOp,cy,asBool,h1,h2,Sem.run,pure]
   ·rename_i v hy hz;simp only[aO,cE]at he;obtain⟨rfl,rfl⟩:=he;have h1:=eT y iJ _ hy;simp only[Pr.h]at hp;subst hp;exact⟨h1.2,_,by simp[execOp,cy,asBool,Sem.run,pure],h1.1⟩
   ·rename_i v hy hz;simp only[aO,cE]at he;obtain⟨rfl,rfl⟩:=he;have h1:=eT z iJ _ hz;simp only[Pr.h]at hp;subst hp;exact⟨h1.2,_,by simp[execOp,cy,asBool,Sem.run,pure],h1.1⟩
   ·rename_i v hy hz;simp only[aO,cE]at he;obtain⟨rfl,rfl⟩:=he;have h1:=eT y iJ _ hy;simp only[Pr.h]at hp;subst hp;exact⟨h1.2,_,by simp[execOp,cy,asBool,Sem.run,pure],h1.1⟩
   ·rename_i v hy hz;simp only[aO,cE]at he;obtain⟨rfl,rfl⟩:=he;have h1:=eT z iJ _ hz;simp only[Pr.h]at hp;subst hp;exact⟨h1.2,_,by simp[execOp,cy,asBool,Sem.run,pure],h1.1⟩
   ·simp at he
  ·simp at he
 ·rename_i op t y z _;split at he
  ·rename_i u w hu hw;split at he
   ·rename_i c q hc;simp only[aO,cE]at he;obtain⟨rfl,rfl⟩:=he;have h1:=(eT y iJ _ hu).1;have h2:=(eT z iJ _ hw).1;obtain⟨v,b7,bW⟩:=ahr (P:=P) aT hc hp g h1 h2 W y z;refine⟨?_,v,?_,bW⟩
    ·intro id al;simp only[AV.aD,ahB hc]at al;cases al
    ·simp only[execOp,Sem.run_bind];rw[Sem.run_bind]at b7;simp only[b7];simp[Result.andThen,pure]
   ·simp at he
  ·simp at he
 ·rename_i op t y;split at he
  ·rename_i v hv;have h1:=eT y iJ _ hv;obtain⟨⟨u,b7,bW⟩,hm⟩:=aht (P:=P) (W:=W) he hp h1.1;exact⟨λid al=>h1.2 id (hm id al),u,by simp[execOp,b7,Sem.run,pure],bW⟩
  ·simp at he
 ·rename_i s d' y;split at he
  ·rename_i v hv;have h1:=eT y iJ _ hv;obtain⟨⟨u,b7,bW⟩,hm⟩:=ahu (P:=P) (W:=W) aT he hp h1.1;exact⟨λid al=>Gj,u,by simp[execOp,b7,Sem.run,pure],bW⟩
  ·simp at he
 ·rename_i t y f;split at he
  ·rename_i v hv;split at he
   ·rename_i u hu;simp only[aO,cE]at he;obtain⟨rfl,rfl⟩:=he;have h1:=eT y iJ _ hv;obtain⟨⟨u,b7,bW⟩,hm⟩:=ahv (P:=P) (W:=W) aT hu h1.1;exact⟨λid al=>h1.2 id (hm id al),u,by simp[execOp,b7,Sem.run,pure],bW⟩
   ·simp at he
  ·simp at he
 ·rename_i t y f;split at he
  ·rename_i v hv;split at he
   ·rename_i u hu;simp only[aO,cE]at he;obtain⟨rfl,rfl⟩:=he;have h1:=eT y iJ _ hv;obtain⟨⟨u,b7,bW⟩,hm⟩:=ahw (P:=P) (W:=W) aT hu h1.1;exact⟨λid al=>h1.2 id (hm id al),u,by simp[execOp,b7,Sem.run,pure],bW⟩
   ·simp at he
  ·simp at he
 ·rename_i y k;split at he
  ·rename_i v hv;split at he
   ·rename_i u hu;simp only[aO,cE]at he;obtain⟨rfl,rfl⟩:=he;have h1:=eT y iJ _ hv;obtain⟨⟨u,b7,bW⟩,hm⟩:=ahy (P:=P) (W:=W) hu h1.1;exact⟨λid al=>h1.2 id (hm id al),u,by simp[execOp,b7,Sem.run,pure],bW⟩
   ·simp at he
  ·simp at he
 ·rename_i t y z;split at he
  ·rename_i v w hv hw;have h1:=eT y iJ _ hv;have h2:=eT z iJ _ hw;obtain⟨⟨u,b7,bW⟩,hm⟩:=ahz (P:=P) (W:=W) aT he hp h1.1 h2.1;exact⟨λid al=>Gj,u,by simp[execOp,b7,Sem.run,pure],bW⟩
  ·simp at he
 ·rename_i t y lo hi;split at he
  ·rename_i v l h hv hl hh;have h1:=eT y iJ _ hv;have h2:=G5 aJ st lo l hl (λq hq=>fM q Kd);have h3:=G5 aJ st hi h hh (λq hq=>fM q Kd);obtain⟨⟨u,b7,bW⟩,hm⟩:=ahC (P:=P) (W:=W) aT he hp h1.1 h2 h3;exact⟨λid al=>Gj,u,by simp[execOp,b7,Sem.run,pure],bW⟩
  ·simp at he
 ·rename_i args dn;split at he
  ·rename_i y t ha ht;have kE:args= #[y]:=Ke;have G6:dn= #[t]:=Wh;subst kE G6;split at he
   ·rename_i v hv;split at he
    ·rename_i u hu;simp only[aO,cE]at he;obtain⟨rfl,rfl⟩:=he;have h1:=eT y Gk _ hv;obtain⟨⟨u,b7,bW⟩,hm⟩:=ahA (P:=P) (W:=W) (r:=Qh) aT hu h1.1;exact⟨λid al=>Gj,u,by simp[execOp,resolve,invoke,builtin,b7,Sem.run,pure],bW⟩
    ·simp at he
   ·simp at he
  ·simp at he
 ·rename_i args dn;split at he
  ·rename_i y z ha;have kE:args= #[y,z]:=Ke;subst kE;split at he
   ·rename_i v w hv hw;split at he
    ·rename_i u hu;simp only[aO,cE]at he;obtain⟨rfl,rfl⟩:=he;have h1:=eT y Gk _ hv;have h2:=eT z Gk _ hw;obtain⟨⟨u,b7,bW⟩,hm⟩:=Xw (P:=P) (W:=W) hu ae h1.1 h2.1 dn Qh;simp only[cP]at b7;exact⟨λid al=>Gj,u,by simp[execOp,resolve,invoke,builtin,b7,Sem.run,pure],bW⟩
    ·simp at he
   ·simp at he
  ·simp at he
 ·rename_i args dn;split at he
  ·rename_i y z ha;have kE:args= #[y,z]:=Ke;subst kE;split at he
   ·rename_i v w hv hw;split at he
    ·rename_i u hu;simp only[aO,cE]at he;obtain⟨rfl,rfl⟩:=he;have h1:=eT y Gk _ hv;have h2:=eT z Gk _ hw;obtain⟨⟨u,b7,bW⟩,hm⟩:=Xw (P:=P) (W:=W) hu ae h1.1 h2.1 dn Qh;simp only[mV,cV]at b7;exact⟨λid al=>Gj,u,by simp[execOp,resolve,invoke,builtin,b7,Sem.run,pure],bW⟩
    ·simp at he
   ·simp at he
  ·simp at he
 ·simp at he
end
section
variable{P:Program}{tt:TT}{g:Gh}{W:World}
def run_load{a:Addr}{v:Value}(h:W.cell? a=some v):(load a).run P W= .ok v W:=by simp[load,Sem.run,h]
def run_loadCellsFrom(b:Nat):∀(n i off:Nat)(vs:List Value)(acc:Array Value),vs.length=n→(∀j(hj:j<vs.length),W.cell? ⟨b,off+i+j,none⟩=some vs[j])→
  (loadCellsFrom ⟨b,off,none⟩ i n acc).run P W= .ok (acc++vs.toArray) W
 |0,i,off,vs,acc,hl,_=>by have:vs=[]:=iu hl;subst this;simp[loadCellsFrom,pure]
 |n+1,i,off,[],acc,hl,_=>by simp at hl
 |n+1,i,off,v::vs,acc,hl,hc=>by have h0:=hc 0 be;simp only[kg,xO]at h0;have ih:=run_loadCellsFrom b n (i+1) off vs (acc.push v) Gl (λj hj=>by have:=hc (j+1) cT;simp only[Gw]at this;rw[show off+(i+1)+j=off+i+(j+1)by omega];exact this);simp only[loadCellsFrom,qt,Sem.run_bind,run_load h0,Result.andThen,ih];congr 1;apply tP;simp
def ahD{t:TypeId}{ag:Bool}(tU:wN P t=some ag){i:TypeInfo}(hi:P.info? t=some i)(b off:Nat)(vs:List Value)(hl:vs.length=i.size)(iO:ag=false→i.size=1)
  (hc:∀j(hj:j<vs.length),W.cell? ⟨b,off+j,none⟩=some vs[j]):∃v,(loadVar t ⟨b,off,none⟩).run P W= .ok v W∧((ag=true∧v= .agg vs.toArray)∨(ag=false∧vs=[v])):=by
 cases ag with
 |true=>
  refine⟨.agg vs.toArray,?_,.inl ⟨ae,ae⟩⟩
  simp only[loadVar,Sem.run_bind,KY tU,Result.andThen,cP,run_sizeOf hi,loadCells]
  rw[run_loadCellsFrom b i.size 0 off vs #[] hl (by simpa using hc)]
  simp[pure]
 |false=>
  have h1:vs.length=1:=by rw[hl];exact iO ae
  match vs,h1 with
  |[v],_=>
   refine⟨v,?_,.inr ⟨ae,ae⟩⟩
   have:=hc 0 be
   simp only[kg,xO]at this
   simp only[loadVar,Sem.run_bind,KY tU,Result.andThen,mV,cV,run_load this]
def qv(tt:TT)(t:Nat):Option (Nat×Bool):=match ao t tt with
 |some ti=>if ti.agg then some (ti.size,true)else if ti.size=1 then some (1,false)else none
 |none=>none
def G7(aT:cM P tt=true){t sz:Nat}{ag:Bool}(h:qv tt t=some (sz,ag)):wN P t=some ag∧(∃i,P.info? t=some i∧i.size=sz)∧(ag=false→sz=1):=by
 unfold qv at h;split at h
 ·rename_i ti hl;have ho:=gR aT hl;obtain⟨i,hi,hs,_⟩:=ho.info;split at h
  ·rename_i ha;simp only[aO,cE]at h;obtain⟨rfl,rfl⟩:=h;exact⟨by rw[ho.agg,ha],⟨i,hi,hs⟩,by simp⟩
  ·rename_i ha;split at h
   ·rename_i h1;simp only[aO,cE]at h;obtain⟨rfl,rfl⟩:=h;exact⟨by rw[ho.agg];simpa using ha,⟨i,hi,by rw[hs];exact h1⟩,λ_=>rfl⟩
   ·simp at h
 ·simp at h
def G8(aT:cM P tt=true){t sz:Nat}{ag:Bool}(h:qv tt t=some (sz,ag)){cs:List C}{vs:List Value}(hr:bU g cs vs){off:Nat}{x:AV}(hx:pD cs off sz ag=some x)
  (b o:Nat) (hc:∀j(hj:j<vs.length),W.cell? ⟨b,o+j,none⟩=some vs[j]):∃v,(Instr.loadAt t (.pointer (some ⟨b,o+off,none⟩))).run P W= .ok v W∧bP g x v:=by
 obtain⟨tU,⟨i,hi,hs⟩,iO⟩:=G7 aT h
 have hlen:=hr.length
 have hle:off+sz≤cs.length:=by
  unfold pD at hx;cases ag with
  |true=>simp only[cP]at hx;split at hx<;>simp_all
  |false=>
   simp only[mV,cV,ct]at hx
   obtain⟨c,wP,_⟩:=hx
   have:=(wA.1 wP).1
   have:=iO ae
   omega
 obtain⟨v,b7,hv⟩:=ahD (W:=W) tU hi b (o+off) ((vs.drop off).take sz) cT (by rw[hs];exact iO) (λj hj=>by simp at hj;have:=hc (off+j) af;simp only[uW,wF];rw[show o+off+j=o+(off+j)by omega];exact this)
 refine⟨v,by simpa[Instr.loadAt,Instr.sureAddr]using b7,?_⟩
 unfold pD at hx
 cases ag with
 |true=>
  simp only[cP]at hx
  split at hx
  ·simp only[aO]at hx;subst hx;rcases hv with⟨_,rfl⟩|⟨h0,_⟩
   ·exact⟨_,ae,(hr.drop off).take sz⟩
   ·simp at h0
  ·rename_i hn;exact absurd hle hn
 |false=>
  simp only[mV,cV,ct]at hx
  obtain⟨c,wP,rfl⟩:=hx
  rcases hv with⟨h0,_⟩|⟨_,hv⟩
  ·simp at h0
  ·obtain⟨u,hu,bW⟩:=hr.get wP;have h1:=iO ae;subst h1;have:(vs.drop off).take 1=[u]:=by rw[List.take_one,List.head?_drop,hu];rfl
   rw[this]at hv;simp only[Pw,and_true]at hv;subst hv;exact bW
def G9(tt:TT)(st:St)(t:Nat)(x:AV):Option (AV×Pr×List Nat):=match qv tt t with
 |some (sz,ag)=>(match x with
  | .c (.P id off)=>(match ao id st.mem with
   |some (.box _ _ cs)=>(match pD cs off sz ag with|some y=>some (y,.t,[id])|none=>none)
   |some (.fz _ cs)=>(match pD cs off sz ag with|some y=>some (y,.t,[id])|none=>none)
   |_=>none)
  | .c (.E T e off)=>(match pD (av T e) off sz ag with|some y=>some (y,.t,[])|none=>none)
  | .c (.Y id n i off)=>(match ao id st.mem with
   |some (.vec _ T xs)=>if T.n=n then(match pD (av T (xs.getD i T.eR)) off sz ag with|some y=>some (y,.KW i xs.length,[id])|none=>none)else none
   |_=>none)
  |_=>none)
 |none=>none
def g7(st:St)(ids:List Nat):List (Key×Info):=ids.flatMap λid=>match ao id st.mem with
 |some b=>[(.m id,.b b)]
 |none=>[]
def tV{b:Nat}{vs:List Value}{E:TypeId}{f:Nat×Nat}(h:W.heap[b]? =some (.cells vs.toArray E f))(j:Nat)(hj:j<vs.length):W.cell? ⟨b,j,none⟩=some vs[j]:=by simp[World.cell?,h,hj]
def Hd:∀(T:ET)(x:T.den),cD (av T x)=[]
 | .int _,_=>rfl
 | .bool,_=>rfl
 | .z,_=>rfl
 | .q,_=>rfl
 | .sl _,_=>rfl
 | .pr A B,x=>by
  have h:∀(a b:List C),cD a=[]→cD b=[]→cD (a++b)=[]:=by
   intro a;induction a with
   |nil=>intro b _ hb;exact hb
   |cons c a ih=>
    intro b ha hb
    simp only[cD,Gx]at ha
    simp only[mX,cD,Gx]
    exact⟨ha.1,ih b ha.2 hb⟩
  exact h _ _ (Hd A x.1) (Hd B x.2)
def ahE(aT:cM P tt=true){ops:Array Oper}{i:Nat}{o:Oper}{d:Nat}(ho:ops[i]? =some o)(hg:o.guard=none)(hd:o.dst=some d){n:Nat}(aV:d<n){t:TypeId}{x:Operand}(ck:o.op= .load t x)
  {st:St} {v y:AV} {p:Pr} {ids:List Nat} (hx:st.ev x=some v) (he:G9 tt st t v=some (y,p,ids)) (hp:p) (new:Nat):
  mA P n ops i (dU st x++g7 st ids) [(.s d,some (.v y))] new:=by
 refine ve ho hg hd aV _ y new ?_
 intro F known σ g W a aJ bw
 have bW:=gI aJ st x v hx (λkx aS=>bw kx (fS _ aS))
 have iA:∀id∈ids,∀b,ao id st.mem=some b→σ (.m id)=some (.b b):=by intro id al b hb;exact bw (.m id,.b b) (j9 _ (jK.2 ⟨id,al,by simp[hb]⟩))
 have lM:execOp a.eval o=(do pure (.value (←Instr.loadAt t (a.eval x)))):=zj
 unfold G9 at he
 split at he
 ·rename_i sz ag ki;split at he
  ·rename_i id off;split at he
   ·rename_i E bz cs hl;split at he
    ·rename_i z hz;simp only[aO,cE]at he;obtain⟨rfl,rfl,rfl⟩:=he;have hσ:=iA id be _ hl;obtain⟨b,vs,rest,hγ,hh,hr,_,_⟩:=aJ.df id _ hσ;obtain⟨b',fy,hv⟩:=bW;rw[hγ]at fy;simp only[aO]at fy;subst fy;obtain⟨u,b7,hu⟩:=G8 (W:=W) aT ki hr hz b 0 (λj hj=>by have:=tV hh j cT;rw[zv hj]at this;simpa using this);refine⟨λb9 sO=>aJ.aD _ _ hσ b9 (D6 hz b9 sO),u,?_,hu⟩;rw[lM,hv];simp only[eZ]at b7;simp[b7,Sem.run,pure]
    ·simp at he
   ·rename_i E cs hl;split at he
    ·rename_i z hz;simp only[aO,cE]at he;obtain⟨rfl,rfl,rfl⟩:=he;have hσ:=iA id be _ hl;obtain⟨b,vs,rest,hγ,hh,hr,_⟩:=aJ.df id _ hσ;obtain⟨b',fy,hv⟩:=bW;rw[hγ]at fy;simp only[aO]at fy;subst fy;obtain⟨u,b7,hu⟩:=G8 (W:=W) aT ki hr hz b 0 (λj hj=>by have:=tV hh j cT;rw[zv hj]at this;simpa using this);refine⟨λb9 sO=>aJ.aD _ _ hσ b9 (D6 hz b9 sO),u,?_,hu⟩;rw[lM,hv];simp only[eZ]at b7;simp[b7,Sem.run,pure]
    ·simp at he
   ·simp at he
  ·rename_i T e off;split at he
   ·rename_i z hz;simp only[aO,cE]at he;obtain⟨rfl,rfl,rfl⟩:=he;obtain⟨b,o',cs,hv,ahF,hc⟩:=bW;obtain⟨u,b7,hu⟩:=G8 (W:=W) aT ki (DR T e cs ahF) hz b o' (λj hj=>aJ.sub _ _ _ (hc j hj));refine⟨λb9 sO=>?_,u,?_,hu⟩
    ·have:=D6 hz b9 sO;rw[Hd]at this;cases this
    ·rw[lM,hv];simp[b7,Sem.run,pure]
   ·simp at he
  ·rename_i id m k off;split at he
   ·rename_i E T xs hl;split at he
    ·rename_i kR;split at he
     ·rename_i z hz;simp only[aO,cE]at he;obtain⟨rfl,rfl,rfl⟩:=he;have hσ:=iA id be _ hl;obtain⟨b',l,c,fy,hv⟩:=bW;rcases aJ.df id _ hσ with⟨_,h0⟩|⟨b,cap,vs,hγ,hh,hlen,hle,_,hr,_,_⟩
      ·subst h0;simp[Pr.h]at hp
      ·rw[hγ]at fy;simp only[Value.slice.injEq,aO,Addr.mk.injEq,and_true]at fy;obtain⟨rfl,_,_⟩:=fy;have hp:k<xs.length:=hp;have BD:=hr k hp;rw[show xs[k]=xs.getD k T.eR by rw[aU,cr hp];rfl]at BD;have pG:(k+1)*T.n≤cap*T.n:=eJ _ af;rw[fV,jb]at pG;have as2:((vs.drop (k*T.n)).take T.n).length=T.n:=cT;obtain⟨u,b7,hu⟩:=G8 (W:=W) aT ki (DR T _ _ BD) hz b (k*T.n) (λj hj=>by have rN:j<T.n:=af;have:=tV hh (k*T.n+j) af;simp only[uW,wF];exact this);refine⟨λb9 sO=>?_,u,?_,hu⟩
       ·have:=D6 hz b9 sO;rw[Hd]at this;cases this
       ·rw[lM,hv,←kR];simp[b7,Sem.run,pure]
     ·simp at he
    ·simp at he
   ·simp at he
  ·simp at he
 ·simp at he
end
section
variable{P:Program}{tt:TT}{g:Gh}{W:World}
def pH:Value→Bool
 | .agg _=>false
 | .tuple _=>false
 |_=>true
def rO:C→Bool
 | .any=>false
 | .V v=>pH v
 | .M _=>false
 | .X _=>false
 |_=>true
def Xx{c:C}{v:Value}(h:rO c=true)(hr:dt g c v):pH v=true:=by
 cases c with
 |any=>simp[rO]at h
 |B b=>simp only[dt]at hr;subst hr;rfl
 |I k n=>simp only[dt]at hr;subst hr;rfl
 |V u=>simp only[dt]at hr;subst hr;exact h
 |S T xs=>obtain⟨a,cap,rfl,_⟩:=hr;rfl
 |P id off=>obtain⟨b,_,rfl⟩:=hr;rfl
 |X id=>simp[rO]at h
 |Y id n i off=>obtain⟨b,l,c,_,rfl⟩:=hr;rfl
 |E T x off=>obtain⟨b,o,cs,rfl,_⟩:=hr;rfl
 |M m=>simp[rO]at h
 |L id off len cap=>
  cases cap with
  |some c=>obtain⟨b,_,rfl⟩:=hr;rfl
  |none=>obtain⟨_,b,c,_,rfl,_⟩:=hr;rfl
 |W id off len=>obtain⟨b,c,_,rfl,_⟩:=hr;rfl
def jr(W:World)(b:Nat)(vs:List Value)(E:TypeId):World:={W with heap:=W.heap.setIfInBounds b (.cells vs.toArray E (0,0))}
def D8{b:Nat}{vs:List Value}{E:TypeId}(h:b<W.heap.size):(jr W b vs E).heap[b]? =some (.cells vs.toArray E (0,0)):=by simp[jr,h]
def D9{b k:Nat}{vs:List Value}{E:TypeId}(h:b≠k):(jr W b vs E).heap[k]? =W.heap[k]? :=by simp[jr,nT h]
def ahG{b j:Nat}{vs:List Value}{E:TypeId}(h:W.heap[b]? =some (.cells vs.toArray E (0,0)))(hj:j<vs.length){v:Value}(hv:pH v=true):
  (store ⟨b,j,none⟩ v).run P W= .ok () (jr W b (vs.set j v) E):=by
 have hb:b<W.heap.size:=(jU.1 h).1
 have hc:W.cell? ⟨b,j,none⟩=some vs[j]:=tV h j hj
 have hf:W.frozen? ⟨b,j,none⟩=false:=by simp[World.frozen?,h]
 have hs:W.setCell ⟨b,j,none⟩ v=jr W b (vs.set j v) E:=by
  unfold World.setCell jr;congr 1;apply Array.ext_getElem?;intro k;rw[Array.getElem?_modify,Array.getElem?_setIfInBounds];have du:W.heap[b]= .cells vs.toArray E (0,0):=(jU.1 h).2;by_cases e:b=k
  ·subst e;simp[hb,du]
  ·simp[e]
 cases v<;>simp[store,Sem.run,hc,hf,hs]<;>simp[pH]at hv
def ahH{b:Nat}{vs us:List Value}{E E':TypeId}:jr (jr W b vs E) b us E'=jr W b us E':=by simp[jr]
def ahI{b:Nat}{vs:List Value}{E:TypeId}(h:W.heap[b]? =some (.cells vs.toArray E (0,0))):jr W b vs E=W:=by
 have hb:b<W.heap.size:=(jU.1 h).1;have:W.heap.setIfInBounds b (.cells vs.toArray E (0,0))=W.heap:=by
  apply Array.ext_getElem?;intro k;rw[Array.getElem?_setIfInBounds];by_cases e:b=k
  ·subst e;have du:W.heap[b]= .cells vs.toArray E (0,0):=(jU.1 h).2;simp[hb,du]
  ·simp[e]
 unfold jr;rw[this]
def dG{α:Type}(vs us:List α)(off:Nat):List α:=vs.take off++us++vs.drop (off+us.length)
def Ea{α:Type}(vs us:List α)(off:Nat)(h:off+us.length≤vs.length):(dG vs us off).length=vs.length:=by simp[dG];omega
def Xy{α:Type}(vs us:List α)(u:α)(off:Nat)(h:off<vs.length):dG (vs.set off u) us (off+1)=dG vs (u::us) off:=by
 unfold dG;rw[List.drop_set_of_lt af];have h1:(vs.set off u).take (off+1)=vs.take off++[u]:=by rw[Kk cq];simp only[List.take_set,List.getElem_set_self];rw[List.set_eq_of_length_le cT]
 rw[h1];simp only[fv,np,mX,wH];rw[show off+1+us.length=off+(us.length+1)by omega]
def Ec(b:Nat){E:TypeId}:∀(us:List Value)(W:World)(vs:List Value)(o i:Nat),W.heap[b]? =some (.cells vs.toArray E (0,0))→o+i+us.length≤vs.length→(∀u∈us,pH u=true)→
  (storeCells ⟨b,o,none⟩ us i).run P W= .ok () (jr W b (dG vs us (o+i)) E)
 |[],W,vs,o,i,h,_,_=>by
  have:dG vs [] (o+i)=vs:=by simp[dG]
  rw[this,ahI h];simp[storeCells,pure]
 |u::us,W,vs,o,i,h,hle,iO=>by simp only[fv]at hle;have hb:b<W.heap.size:=(jU.1 h).1;have h1:=ahG (P:=P) h (j:=o+i) af (iO u be);have h2:=Ec b us (jr W b (vs.set (o+i) u) E) (vs.set (o+i) u) o (i+1) (D8 hb) cT (λx hx=>iO x kZ);simp only[storeCells,qt,Sem.run_bind,h1,Result.andThen,h2,ahH];rw[show o+(i+1)=o+i+1 by omega,Xy _ _ _ _ af]
def js:AV→Option (List C)
 | .c x=>some [x]
 | .a cs=>some cs
 | .t _=>none
def K5{x:AV}{cs:List C}(h:js x=some cs){v:Value}(hr:bP g x v)(iO:∀c∈cs,rO c=true):∃vs,v.cells=vs.toArray∧bU g cs vs:=by
 cases x with
 |c y=>
  simp only[js,aO]at h
  subst h
  have h1:=Xx (iO y be) hr
  refine⟨[v],?_,v,[],ae,hr,ae⟩
  cases v<;>first|rfl| (simp[pH]at h1)
 |a ds=>
  simp only[js,aO]at h
  subst h
  obtain⟨vs,rfl,hr⟩:=hr
  exact⟨vs,ae,hr⟩
 |t _=>simp[js]at h
def bU.one{cs:List C}{vs:List Value}(hr:bU g cs vs)(iO:∀c∈cs,rO c=true):∀v∈vs,pH v=true:=by
 induction cs generalizing vs with
 |nil=>simp only[bU]at hr;subst hr;simp
 |cons c cs ih=>
  obtain⟨v,r,rfl,h1,h2⟩:=hr
  intro u hu
  rcases dC.1 hu with rfl|hu
  ·exact Xx (iO c be) h1
  ·exact ih h2 (λc' pI=>iO c' (by simp[pI])) u hu
def bU.dG{cs ds:List C}{vs us:List Value}(hr:bU g cs vs)(hs:bU g ds us)(off:Nat):bU g (Go.El.dG cs ds off) (Go.El.dG vs us off):=by unfold Go.El.dG;rw[hs.length];exact bU.append (bU.append (hr.take off) hs) (hr.drop _)
def K6(a b:List C):∀id∈cD (a++b),id∈cD a∨id∈cD b:=by
 induction a with
 |nil=>intro id h;exact .inr h
 |cons c a ih=>
  intro id h
  simp only[mX,cD,b6]at h⊢
  rcases h with h|h
  ·exact .inl (.inl h)
  ·rcases ih id h with h|h
   ·exact .inl (.inr h)
   ·exact .inr h
end
section
variable{P:Program}{tt:TT}
def Qi(tt:TT)(st:St)(t:Nat)(x v:AV):Option (Nat×aK):=match qv tt t,x,js v with
 |some (sz,_),.c (.P id off),some us=>(match ao id st.mem with
  |some (.box E bz cs)=>if us.length=sz∧off+sz≤cs.length∧us.all rO=true then some (id,.box E bz (dG cs us off))else none
  |_=>none)
 |_,_,_=>none
def Qj(cs us:List C)(off:Nat):∀id∈cD (dG cs us off),id∈cD cs∨id∈cD us:=by
 intro id al;unfold dG at al;rcases K6 _ _ id al with h|h
 ·rcases K6 _ _ id h with h|h
  ·exact .inl (K1 _ _ id h)
  ·exact .inr h
 ·exact .inl (K0 _ _ id h)
def He{H:FH}{W:World}(h:Sub H W){b:Nat}{vs:List Value}{E:TypeId}(hb:∀o,H b o=none):Sub H (jr W b vs E):=by
 intro b' o v hv;have h1:=h b' o v hv;by_cases e:b=b'
 ·subst e;rw[hb o]at hv;cases hv
 ·simp only[World.cell?,D9 e];exact h1
def Xz{α:Type}(vs rest ws:List α)(off:Nat)(h:off+ws.length≤vs.length):dG (vs++rest) ws off=dG vs ws off++rest:=by unfold dG;rw[Bc af,Kl af];simp[np]
def ahJ(aT:cM P tt=true){ops:Array Oper}{i:Nat}{o:Oper}(ho:ops[i]? =some o)(hg:o.guard=none)(hd:o.dst=none){n:Nat}{t:TypeId}{x y:Operand}(ck:o.op= .store t x y)
  {st:St} {vx vy:AV} {id:Nat} {bk:aK} (hx:st.ev x=some vx) (hy:st.ev y=some vy) (he:Qi tt st t vx vy=some (id,bk)) (new:Nat):
  mA P n ops i (dU st x++dU st y++g7 st [id]) [(.m id,some (.b bk))] new:=by
 intro F gk Q known σ g W a K dX aJ bw hK
 have lN:=gI aJ st x vx hx (λkx aS=>bw kx jw)
 have pJ:=gI aJ st y vy hy (λkx aS=>bw kx jw)
 have Qk:=vd aJ st y vy hy (λkx aS=>bw kx jw)
 unfold Qi at he
 split at he
 ·rename_i _ sz ag b9 off us ki dQ;split at he
  ·rename_i E bz cs hl;split at he
   ·rename_i sV;obtain⟨h1,h2,h3⟩:=sV;simp only[aO,cE]at he;obtain⟨rfl,rfl⟩:=he;have hσ:σ (.m b9)=some (.b (.box E bz cs)):=bw (.m b9,.b (.box E bz cs)) uR;obtain⟨b,vs,rest,hγ,hh,hr,hN,hz,BE⟩:=aJ.df b9 _ hσ;obtain⟨b',fy,hv⟩:=lN;rw[hγ]at fy;simp only[aO]at fy;subst fy;have iO:∀c∈us,rO c=true:=λc hc=>wG.1 h3 c hc
    obtain⟨ws,lj,sT⟩:=K5 dQ pJ iO;obtain⟨_,⟨ti,fA,XA⟩,_⟩:=G7 aT ki;have as3:=sT.length;have ahK:=hr.length;have b7:(Instr.storeAt t (a.eval x) (a.eval y)).run P W= .ok () (jr W b (dG (vs++rest) ws off) E):=by rw[hv];simp only[Instr.storeAt,Instr.sureAddr,storeVar,Sem.run_bind,Sem.run_pure,Result.andThen,run_sizeOf fA,lj];have:¬(ws.toArray.size≠ti.size):=cT;simp only[this,cV];have:=Ec (P:=P) b ws W (vs++rest) off 0 hh cT (sT.one iO);simp only[kg]at this;simpa using this
    unfold wpOp;simp only[ho,Region.wanted,hg,cP];refine .inl ?_;unfold Oper.wp;have hex:(execOp a.eval o).run P W= .ok .skip (jr W b (dG (vs++rest) ws off) E):=by rw[execOp,ck];simp[b7,Sem.run,pure]
    rw[hex];simp only[Oper.upon,hd,Act.put];have hb:b<W.heap.size:=(jU.1 hh).1;refine hK g _ a (aJ.step (chg:=λj=>j=b9) (g':=g) ⟨⟨cF.refl _,λ_ _=>rfl⟩,λ_ _ _=>rfl,He aJ.sub hz,by simp[jr],?_,ae,ae,ae⟩ _ new dX ae aJ.defers (λ_ _=>rfl) ?_ ?_ ?_ ?_ ?_)
    ·intro k hk aR;have:b≠k:=λe=>aR b9 ae (by rw[hγ,e])
     exact D9 this
    ·intro j hj;subst hj;exact⟨by simp[bc],_,hσ⟩
    ·intro t' v' ht;simp[bc]at ht
    ·intro j bk hj;simp only[bc]at hj;split at hj
     ·rename_i e;simp only[Key.m.injEq]at e;subst e;simp only[aO,Info.b.injEq]at hj;subst hj;have BF:dG (vs++rest) ws off=dG vs ws off++rest:=Xz vs rest ws off af;exact⟨⟨b,dG vs ws off,rest,hγ,by rw[D8 hb,BF],hr.dG sT off,hN,hz,λh0=>by obtain⟨c,e1,e2⟩:=BE h0;refine⟨c,e1,?_⟩;rw[←BF,Ea _ _ _ cT];exact e2⟩,.inl ⟨aJ.fF _ _ hσ,_,hσ⟩⟩
     ·simp at hj
    ·intro k z g8;simp only[bc]at g8;split at g8
     ·simp only[aO]at g8;subst g8;intro j hj;rcases Qj _ _ _ j hj with h|h
      ·exact .inl (aJ.aD _ _ hσ j h)
      ·refine .inl (Qk j ?_);cases vy with
       |c q=>simp only[js,aO]at dQ;subst dQ;simpa[cD,AV.aD]using h
       |a q=>simp only[js,aO]at dQ;subst dQ;exact h
       |t q=>simp[js]at dQ
     ·simp at g8
    ·intro j z g8;simp only[bc]at g8;split at g8
     ·rename_i e;simp only[Key.m.injEq]at e;subst e;exact .inl (aJ.fF _ _ hσ)
     ·simp at g8
   ·simp at he
  ·simp at he
 ·simp at he
def Hf(W:World)(o:Obj)(k:Nat)(h:k<W.heap.size):(W.heap.push o)[k]? =W.heap[k]? :=by rw[Array.getElem?_push,aq af]
def Hg{H:FH}{W:World}(h:Sub H W)(o:Obj):Sub H {W with heap:=W.heap.push o}:=by intro b off v hv;have h1:=h b off v hv;have hb:=World.block_lt_of_cell? W _ h1;simp only[World.cell?]at h1⊢;rw[Hf W o b hb];exact h1
def XB{ops:Array Oper}{i:Nat}{o:Oper}{d:Nat}(ho:ops[i]? =some o)(hg:o.guard=none)(hd:o.dst=some d){n:Nat}(aV:d<n){E:TypeId}(rd:List (Key×Info))(cs:List C)(new:Nat)
  (h:∀(F:de)(known:Nat→Prop)(σ:Kn)(g:Gh)(W:World)(a:Act),bJ F known σ g W a→(∀kx∈rd,σ kx.1=some kx.2)→
   (∀id∈cD cs,known id)∧∃vs,bU g cs vs∧(execOp a.eval o).run P W= .ok (.value (.pointer (some ⟨W.heap.size,0,none⟩))) {W with heap:=W.heap.push (.cells vs.toArray E (0,0))}):
  mA P n ops i rd [(.s d,some (.v (.c (.P new 0)))),(.m new,some (.b (.box E 0 cs)))] new:=by
 intro F gk Q known σ g W a K dX aJ bw hK
 obtain⟨hm,vs,hr,b7⟩:=h F known σ g W a aJ bw
 unfold wpOp
 simp only[ho,Region.wanted,hg,cP]
 refine .inl ?_
 unfold Oper.wp
 rw[b7]
 simp only[Oper.upon,hd]
 have cR:d<a.tmps.size:=rA
 let g':Gh:=⟨g.H,λid=>if id=new then .pointer (some ⟨W.heap.size,0,none⟩)else g.γ id⟩
 have hle:iL known g g':=⟨cF.refl _,λid al=>by
  have:id≠new:=λe=>dX (e▸al)
  simp[g',this]⟩
 have x8:∀o,g.H W.heap.size o=none:=by
  intro o;cases hv:g.H W.heap.size o with
  |none=>rfl
  |some v=>
   have:=World.block_lt_of_cell? W _ (aJ.sub _ _ _ hv)
   simp at this
 refine hK g' _ _ (aJ.step (chg:=λ_=>False) (g':=g') ⟨hle,λ_ _ _=>rfl,Hg aJ.sub _,by simp,λk hk _=>Hf W _ k hk,ae,ae,ae⟩ _ new dX sC aJ.defers ?_ (λ_ h=>h.elim) ?_ ?_ ?_ ?_)
 ·intro t ht;have aR:d≠t:=tL;simp[Act.put,nT aR]
 ·intro t u ht;simp only[bc]at ht;split at ht
  ·rename_i e;simp only[Key.s.injEq]at e;simp only[aO,Info.v.injEq]at ht;subst e;subst ht;refine⟨W.heap.size,by simp[g',cQ],?_⟩;simp[Act.put,cR]
  ·split at ht
   ·simp at ht
   ·simp at ht
 ·intro id b ht;simp only[bc,reduceCtorEq,cV]at ht;split at ht
  ·rename_i e;simp only[Key.m.injEq]at e;subst e;simp only[aO,Info.b.injEq]at ht;subst ht;refine⟨⟨W.heap.size,vs,[],by simp[g',cQ],by simp,bU.mono hle hm hr,.inl aJ.below.size,x8,by simp⟩,.inr ⟨ae,λk hk=> .inl ?_⟩⟩;simp only[g',cP,cQ,aO]at hk;omega
  ·simp at ht
 ·intro k y ht;simp only[bc]at ht;split at ht
  ·simp only[aO]at ht;subst ht;intro id al;simp[Info.aD,AV.aD,C.aD]at al;exact .inr al
  ·split at ht
   ·simp only[aO]at ht;subst ht;exact λid al=> .inl (hm id al)
   ·simp at ht
 ·intro id y ht;simp only[bc,reduceCtorEq,cV]at ht;split at ht
  ·rename_i e;simp only[Key.m.injEq]at e;exact .inr e.symm
  ·simp at ht
def ahL{ops:Array Oper}{i:Nat}{o:Oper}{d:Nat}(ho:ops[i]? =some o)(hg:o.guard=none)(hd:o.dst=some d){n:Nat}(aV:d<n){E:TypeId}{x:Operand}(ck:o.op= .box E x)
  {st:St} {v:AV} {cs:List C} (hx:st.ev x=some v) (dQ:js v=some cs) (rP:cs.all rO=true) (new:Nat):
  mA P n ops i (dU st x) [(.s d,some (.v (.c (.P new 0)))),(.m new,some (.b (.box E 0 cs)))] new:=by
 refine XB ho hg hd aV _ cs new ?_
 intro F known σ g W a aJ bw
 have hr:=gI aJ st x v hx bw
 have hm:=vd aJ st x v hx bw
 obtain⟨vs,Hh,kF⟩:=K5 dQ hr (λc hc=>wG.1 rP c hc)
 refine⟨λid al=>hm id ?_,vs,kF,?_⟩
 ·cases v with
  |c q=>simp only[js,aO]at dQ;subst dQ;simpa[cD,AV.aD]using al
  |a q=>simp only[js,aO]at dQ;subst dQ;exact al
  |t q=>simp[js]at dQ
 ·rw[execOp,ck];simp[Instr.box,newVar,newRow,newObj,Hh,Sem.run,pure]
def Ed(g:Gh):∀zs:List ZV,bU g (zs.map ZV.sU) (zs.map ZV.gj)
 |[]=>rfl
 |z::zs=>⟨_,_,ae,by cases z<;>rfl,Ed g zs⟩
def ahM(aT:cM P tt=true){ops:Array Oper}{i:Nat}{o:Oper}{d:Nat}(ho:ops[i]? =some o)(hg:o.guard=none)(hd:o.dst=some d){n:Nat}(aV:d<n){E:TypeId}(ck:o.op= .alloc E)
  {ti:TI} (fA:ao E tt=some ti) (new:Nat):
  mA P n ops i [] [(.s d,some (.v (.c (.P new 0)))),(.m new,some (.b (.box E 0 (ti.zero.map ZV.sU))))] new:=by
 refine XB ho hg hd aV _ _ new ?_
 intro F known σ g W a aJ bw
 obtain⟨i',hi,_,_,z,hz,qw⟩:=(gR aT fA).info
 refine⟨?_,ti.zero.map ZV.gj,Ed g _,?_⟩
 ·intro id al;exfalso;have:∀zs:List ZV,cD (zs.map ZV.sU)=[]:=by
   intro zs;induction zs with
   |nil=>rfl
   |cons z zs ih=>simp only[jL,cD,ih];cases z<;>rfl
  rw[this]at al;cases al
 ·have vg:z.cells=(ti.zero.map ZV.gj).toArray:=by rw[←sD];simpa using qw
  rw[execOp,ck];simp[Instr.alloc,zeroValue,typeInfo,hi,hz,newVar,newRow,newObj,vg,Sem.run,pure]
end
end Go.El
