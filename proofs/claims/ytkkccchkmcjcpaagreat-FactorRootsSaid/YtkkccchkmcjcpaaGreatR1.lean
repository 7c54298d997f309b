/- The engine, part 1: data, abstract values, what it means that they describe memory. Own work; no condition. -/
import Derived.WalkKit
import Derived.OrdersIn
import Derived.Test.YtkkccchkmcjcpaaGreatR0
set_option linter.defProp false
set_option linter.unusedVariables false
set_option linter.unusedSimpArgs false
set_option linter.unnecessarySimpa false
namespace Go.El
open Go Go.RowKit
abbrev FH:=Nat→Nat→Option Value
inductive ET where
 |int (k:IntKind)|bool|z|q|sl (T:ET)|pr (A B:ET)
@[reducible] def ET.den : ET → Type
 | .int _=>Int
 | .bool=>Bool
 | .z=>Int
 | .q=>Rat
 | .sl T=>List T.den
 | .pr A B=>A.den×B.den
@[reducible] def ET.kU : (T : ET) → T.den
 | .int _=>(0:Int)
 | .bool=>false
 | .z=>(0:Int)
 | .q=>(0:Rat)
 | .sl _=>[]
 | .pr A B=>(A.kU,B.kU)
@[reducible] def ET.n : ET → Nat
 | .int _=>1
 | .bool=>1
 | .z=>2
 | .q=>4
 | .sl _=>1
 | .pr A B=>A.n+B.n
def ET.Dp:∀T:ET,0<T.n
 | .int _=>Nat.one_pos
 | .bool=>Nat.one_pos
 | .z=>Nat.two_pos
 | .q=>by decide
 | .sl _=>Nat.one_pos
 | .pr A B=>by have:=A.Dp;simp only[ET.n];omega
def zn:Nat→Nat→List Int
 |0,_=>[]
 |f+1,n=>if n=0 then[]else((n%4294967296:Nat):Int)::zn f (n/4294967296)
def ay(n:Nat):List Int:=zn n n
def bN(z:Int):Bool:=decide (z<0)
def cY(z:Int):List Int:=ay z.natAbs
def nn{α:Type}(R:α→List Value→Prop)(n:Nat)(H:FH)(xs:List α)(v:Value):Prop:=
 ∃a cap,v= .slice a xs.length cap∧xs.length≤cap∧xs.length*n≤140737488355328∧
  (xs=[]∨∃b off,a=some ⟨b,off,none⟩∧∀i(h:i<xs.length),∃cs,cs.length=n∧R xs[i] cs∧
   ∀j(hj:j<cs.length),H b (off+i*n+j)=some cs[j])
def Dq(H:FH)(ws:List Int)(v:Value):Prop:=nn (λn cs=>cs=[.int .u32 n]) 1 H ws v
def tC(H:FH)(z:Int)(vs:List Value):Prop:=∃m,vs=[.bool (bN z),m]∧Dq H (cY z) m
def dh(H:FH):(T:ET)→T.den→List Value→Prop
 | .int k,n,vs=>vs=[.int k n]
 | .bool,b,vs=>vs=[.bool b]
 | .z,z,vs=>tC H z vs
 | .q,r,vs=>∃a b,vs=a++b∧tC H r.num a∧tC H (r.den:Int) b
 | .sl T,xs,vs=>∃v,vs=[v]∧nn (dh H T) T.n H xs v
 | .pr A B,x,vs=>∃a b,vs=a++b∧dh H A x.1 a∧dh H B x.2 b
def cC(H H':FH):Prop:=∀b o v,H b o=some v→H' b o=some v
def cC.refl(H:FH):cC H H:=λ_ _ _ h=>h
def cC.trans{H1 H2 H3:FH}(h:cC H1 H2)(k:cC H2 H3):cC H1 H3:=λb o v e=>k b o v (h b o v e)
def nn.mono{α:Type}{R R':α→List Value→Prop}{n:Nat}{H H':FH}{xs:List α}{v:Value}(h:nn R n H xs v)
  (hl:cC H H') (hr:∀x cs,R x cs→R' x cs):nn R' n H' xs v:=by
 obtain⟨a,cap,e,h1,h2,h4⟩:=h
 refine⟨a,cap,e,h1,h2,?_⟩
 rcases h4 with h4|⟨b,off,ea,hc⟩
 ·exact .inl h4
 ·refine .inr ⟨b,off,ea,λi hi=>?_⟩;obtain⟨cs,l,r,c⟩:=hc i hi;exact⟨cs,l,hr _ _ r,λj hj=>hl _ _ _ (c j hj)⟩
def Dq.mono{H H':FH}{ws v}(h:Dq H ws v)(hl:cC H H'):Dq H' ws v:=nn.mono h hl λ_ _ h=>h
def tC.mono{H H':FH}{z vs}(h:tC H z vs)(hl:cC H H'):tC H' z vs:=by obtain⟨m,e,h⟩:=h;exact⟨m,e,h.mono hl⟩
def dh.mono{H H':FH}(hl:cC H H'):∀(T:ET)(x:T.den)(vs:List Value),dh H T x vs→dh H' T x vs
 | .int _,_,_,h=>h
 | .bool,_,_,h=>h
 | .z,_,_,h=>tC.mono h hl
 | .q,_,_,h=>by obtain⟨a,b,e,h1,h2⟩:=h;exact⟨a,b,e,h1.mono hl,h2.mono hl⟩
 | .sl T,_,_,h=>by obtain⟨v,e,h1⟩:=h;exact⟨v,e,h1.mono hl (λx cs=>dh.mono hl T x cs)⟩
 | .pr A B,_,_,h=>by obtain⟨a,b,e,h1,h2⟩:=h;exact⟨a,b,e,dh.mono hl A _ _ h1,dh.mono hl B _ _ h2⟩
def tC.length{H z vs}(h:tC H z vs):vs.length=2:=by obtain⟨m,rfl,_⟩:=h;rfl
def dh.length{H:FH}:∀(T:ET)(x:T.den)(vs:List Value),dh H T x vs→vs.length=T.n
 | .int _,_,_,h=>by simp only[dh]at h;subst h;rfl
 | .bool,_,_,h=>by simp only[dh]at h;subst h;rfl
 | .z,_,_,h=>tC.length h
 | .q,_,_,h=>by obtain⟨a,b,rfl,h1,h2⟩:=h;simp[h1.length,h2.length]
 | .sl T,_,_,h=>by obtain⟨v,rfl,_⟩:=h;rfl
 | .pr A B,_,_,h=>by obtain⟨a,b,rfl,h1,h2⟩:=h;simp[dh.length A _ _ h1,dh.length B _ _ h2]
structure MP where
 p:FH→Value→Prop
 mono:∀H H' v,cC H H'→p H v→p H' v
inductive C where
 |any
 |B (b:Bool)
 |I (k:IntKind) (n:Int)
 |V (v:Value)
 |S (T:ET) (xs:List T.den)
 |P (id off:Nat)
 |X (id:Nat)
 |Y (id:Nat) (n i off:Nat)
 |E (T:ET) (x:T.den) (off:Nat)
 |M (m:MP)
 |L (id off len:Nat) (cap:Option Nat)
 |W (id off len:Nat)
inductive AV where
 |c (x:C)
 |a (cs:List C)
 |t (vs:List (Bool×List C))
def av:(T:ET)→T.den→List C
 | .int k,n=>[.I k n]
 | .bool,b=>[.B b]
 | .z,z=>[.B (bN z),.S (.int .u32) (cY z)]
 | .q,r=>[.B (bN r.num),.S (.int .u32) (cY r.num),.B (bN (r.den:Int)),.S (.int .u32) (cY (r.den:Int))]
 | .sl T,xs=>[.S T xs]
 | .pr A B,x=>av A x.1++av B x.2
structure Gh where
 H:FH
 γ:Nat→Value
def cN:Value→Option Nat
 | .pointer (some a)=>some a.block
 | .slice (some a) _ _=>some a.block
 |_=>none
def dk(g:Gh):C→Value→Prop
 | .any,_=>True
 | .B b,v=>v= .bool b
 | .I k n,v=>v= .int k n
 | .V u,v=>v=u
 | .S T xs,v=>nn (dh g.H T) T.n g.H xs v
 | .P id off,v=>∃b,cN (g.γ id)=some b∧v= .pointer (some ⟨b,off,none⟩)
 | .X id,v=>v=g.γ id
 | .Y id n i off,v=>∃b len cap,g.γ id= .slice (some ⟨b,0,none⟩) len cap∧v= .pointer (some ⟨b,i*n+off,none⟩)
 | .E T x off,v=>∃b o cs,v= .pointer (some ⟨b,o+off,none⟩)∧dh g.H T x cs∧∀j(hj:j<cs.length),g.H b (o+j)=some cs[j]
 | .M m,v=>m.p g.H v
 | .L id off len (some c),v=>∃b,cN (g.γ id)=some b∧v= .slice (some ⟨b,off,none⟩) len c
 | .L id off len none,v=>off=0∧∃b c,g.γ id= .slice (some ⟨b,0,none⟩) 0 c∧v= .slice (some ⟨b,0,none⟩) len c∧len≤c
 | .W id off len,v=>∃b c,cN (g.γ id)=some b∧v= .slice (some ⟨b,off,none⟩) len c∧len≤c
def bS(g:Gh):List C→List Value→Prop
 |[],vs=>vs=[]
 |c::cs,vs=>∃v r,vs=v::r∧dk g c v∧bS g cs r
def Bd(g:Gh):Bool×List C→Value→Prop
 | (true,cs),v=>∃vs,v= .agg vs.toArray∧bS g cs vs
 | (false,[c]),v=>dk g c v
 | (false,_),_=>False
def dt(g:Gh):List (Bool×List C)→List Value→Prop
 |[],vs=>vs=[]
 |s::ss,vs=>∃v r,vs=v::r∧Bd g s v∧dt g ss r
def bP(g:Gh):AV→Value→Prop
 | .c x,v=>dk g x v
 | .a cs,v=>∃vs,v= .agg vs.toArray∧bS g cs vs
 | .t ss,v=>∃vs,v= .tuple vs.toArray∧dt g ss vs
def bS.length{g:Gh}:∀{cs:List C}{vs:List Value},bS g cs vs→vs.length=cs.length
 |[],_,h=>by simp only[bS]at h;subst h;rfl
 |_::cs,_,h=>by obtain⟨v,r,rfl,_,h⟩:=h;simp[bS.length h]
def bS.append{g:Gh}:∀{cs ds:List C}{vs us:List Value},bS g cs vs→bS g ds us→bS g (cs++ds) (vs++us)
 |[],_,_,_,h,k=>by simp only[bS]at h;subst h;exact k
 |_::cs,_,_,_,h,k=>by obtain⟨v,r,rfl,h1,h2⟩:=h;exact⟨v,_,ae,h1,bS.append h2 k⟩
def af6{g:Gh}{ws v}(h:Dq g.H ws v):dk g (.S (.int .u32) ws) v:=h
def J9{g:Gh}{z vs}(h:tC g.H z vs):bS g (av .z z) vs:=by obtain⟨m,rfl,h⟩:=h;exact⟨_,_,ae,ae,_,_,ae,af6 h,ae⟩
def Dr{g:Gh}:∀(T:ET)(x:T.den)(vs:List Value),dh g.H T x vs→bS g (av T x) vs
 | .int _,_,_,h=>by simp only[dh]at h;subst h;exact⟨_,_,ae,ae,ae⟩
 | .bool,_,_,h=>by simp only[dh]at h;subst h;exact⟨_,_,ae,ae,ae⟩
 | .z,_,_,h=>J9 h
 | .q,r,_,h=>by obtain⟨a,b,rfl,h1,h2⟩:=h;exact bS.append (J9 h1) (J9 h2)
 | .sl T,_,_,h=>by obtain⟨v,rfl,h⟩:=h;exact⟨_,_,ae,h,ae⟩
 | .pr A B,_,_,h=>by obtain⟨a,b,rfl,h1,h2⟩:=h;exact bS.append (Dr A _ _ h1) (Dr B _ _ h2)
def Gj{g:Gh}:∀{cs ds:List C}{vs:List Value},bS g (cs++ds) vs→∃a b,vs=a++b∧bS g cs a∧bS g ds b
 |[],_,vs,h=>⟨[],vs,ae,ae,h⟩
 |_::cs,_,_,h=>by obtain⟨v,r,rfl,h1,h2⟩:=h;obtain⟨a,b,rfl,h3,h4⟩:=Gj h2;exact⟨v::a,b,ae,⟨v,a,ae,h1,h3⟩,h4⟩
def O9{g:Gh}{z vs}(h:bS g (av .z z) vs):tC g.H z vs:=by obtain⟨v,r,rfl,h1,m,r',rfl,h2,h3⟩:=h;simp only[bS]at h3;simp only[dk]at h1;subst h3 h1;exact⟨m,ae,h2⟩
def zo{g:Gh}:∀(T:ET)(x:T.den)(vs:List Value),bS g (av T x) vs→dh g.H T x vs
 | .int _,_,_,h=>by obtain⟨v,r,rfl,h1,h2⟩:=h;simp only[bS]at h2;simp only[dk]at h1;subst h1 h2;rfl
 | .bool,_,_,h=>by obtain⟨v,r,rfl,h1,h2⟩:=h;simp only[bS]at h2;simp only[dk]at h1;subst h1 h2;rfl
 | .z,_,_,h=>O9 h
 | .q,r,vs,h=>by obtain⟨a,b,rfl,h1,h2⟩:=Gj (cs:=av .z r.num) (ds:=av .z (r.den:Int)) h;exact⟨a,b,ae,O9 h1,O9 h2⟩
 | .sl T,_,_,h=>by obtain⟨v,r,rfl,h1,h2⟩:=h;simp only[bS]at h2;subst h2;exact⟨v,ae,h1⟩
 | .pr A B,x,vs,h=>by obtain⟨a,b,rfl,h1,h2⟩:=Gj (cs:=av A x.1) (ds:=av B x.2) h;exact⟨a,b,ae,zo A _ _ h1,zo B _ _ h2⟩
def C.aD:C→List Nat
 | .P id _=>[id]
 | .X id=>[id]
 | .Y id _ _ _=>[id]
 | .L id _ _ _=>[id]
 | .W id _ _=>[id]
 |_=>[]
def cA:List C→List Nat
 |[]=>[]
 |c::cs=>c.aD++cA cs
def fE:List (Bool×List C)→List Nat
 |[]=>[]
 |s::ss=>cA s.2++fE ss
def AV.aD:AV→List Nat
 | .c x=>x.aD
 | .a cs=>cA cs
 | .t ss=>fE ss
structure iH(known:Nat→Prop)(g g':Gh):Prop where
 H:cC g.H g'.H
 γ:∀id,known id→g'.γ id=g.γ id
def dk.mono{known:Nat→Prop}{g g':Gh}(hl:iH known g g'):∀{c:C}{v:Value},(∀id∈c.aD,known id)→dk g c v→dk g' c v
 | .any,_,_,_=>trivial
 | .B _,_,_,h=>h
 | .I _ _,_,_,h=>h
 | .V _,_,_,h=>h
 | .S T _,_,_,h=>nn.mono h hl.H (λx cs=>dh.mono hl.H T x cs)
 | .P id _,_,hk,h=>by obtain⟨b,e,h⟩:=h;exact⟨b,by rw[hl.γ id (hk id FJ)];exact e,h⟩
 | .X id,_,hk,h=>by simp only[dk]at h⊢;rw[hl.γ id (hk id FJ)];exact h
 | .Y id _ _ _,_,hk,h=>by obtain⟨b,l,c,e,h⟩:=h;exact⟨b,l,c,by rw[hl.γ id (hk id FJ)];exact e,h⟩
 | .E T _ _,_,_,h=>by obtain⟨b,o,cs,e,h1,h2⟩:=h;exact⟨b,o,cs,e,dh.mono hl.H T _ _ h1,λj hj=>hl.H _ _ _ (h2 j hj)⟩
 | .M m,_,_,h=>m.mono _ _ _ hl.H h
 | .L id _ _ (some _),_,hk,h=>by obtain⟨b,e,h⟩:=h;exact⟨b,by rw[hl.γ id (hk id FJ)];exact e,h⟩
 | .L id _ _ none,_,hk,h=>by obtain⟨h0,b,c,e,h⟩:=h;exact⟨h0,b,c,by rw[hl.γ id (hk id FJ)];exact e,h⟩
 | .W id _ _,_,hk,h=>by obtain⟨b,c,e,h⟩:=h;exact⟨b,c,by rw[hl.γ id (hk id FJ)];exact e,h⟩
def bS.mono{known:Nat→Prop}{g g':Gh}(hl:iH known g g'):∀{cs:List C}{vs:List Value},(∀id∈cA cs,known id)→bS g cs vs→bS g' cs vs
 |[],_,_,h=>h
 |_::_,_,hk,h=>by obtain⟨v,r,e,h1,h2⟩:=h;exact⟨v,r,e,dk.mono hl (λid al=>hk id (by simp[cA,al])) h1,bS.mono hl (λid al=>hk id (by simp[cA,al])) h2⟩
def Bd.mono{known:Nat→Prop}{g g':Gh}(hl:iH known g g'):∀{s:Bool×List C}{v:Value},(∀id∈cA s.2,known id)→Bd g s v→Bd g' s v
 | (true,_),_,hk,h=>by obtain⟨vs,e,h⟩:=h;exact⟨vs,e,bS.mono hl hk h⟩
 | (false,[c]),_,hk,h=>dk.mono hl (λid al=>hk id (by simp[cA,al])) h
 | (false,[]),_,_,h=>h
 | (false,_::_::_),_,_,h=>h
def dt.mono{known:Nat→Prop}{g g':Gh}(hl:iH known g g'):∀{cs:List (Bool×List C)}{vs:List Value},(∀id∈fE cs,known id)→dt g cs vs→dt g' cs vs
 |[],_,_,h=>h
 |_::_,_,hk,h=>by obtain⟨v,r,e,h1,h2⟩:=h;exact⟨v,r,e,Bd.mono hl (λid al=>hk id (by simp[fE,al])) h1,dt.mono hl (λid al=>hk id (by simp[fE,al])) h2⟩
def bP.mono{known:Nat→Prop}{g g':Gh}(hl:iH known g g'):∀{x:AV}{v:Value},(∀id∈x.aD,known id)→bP g x v→bP g' x v
 | .c _,_,hk,h=>dk.mono hl hk h
 | .a _,_,hk,h=>by obtain⟨vs,e,h⟩:=h;exact⟨vs,e,bS.mono hl hk h⟩
 | .t _,_,hk,h=>by obtain⟨vs,e,h⟩:=h;exact⟨vs,e,dt.mono hl hk h⟩
end Go.El
namespace Go.El
def val:List Int→Int
 |[]=>0
 |w::r=>w+4294967296*val r
def bT(ws:List Int):Prop:=∀w∈ws,0≤w∧w<4294967296
def Pa:bT []:=λ_ h=>by cases h
def zp{w:Int}{ws:List Int}:bT (w::ws)↔(0≤w∧w<4294967296)∧bT ws:=by simp[bT]
def jQ{ws:List Int}(h:bT ws)(n:Nat):bT (ws.take n):=λw hw=>h w (OI hw)
def zq{ws:List Int}(h:bT ws)(n:Nat):bT (ws.drop n):=λw hw=>h w (List.mem_of_mem_drop hw)
def Pb{a b:List Int}(h:bT a)(k:bT b):bT (a++b):=λw hw=>(bX.mp hw).elim (h w) (k w)
def zr{ws:List Int}(h:bT ws)(i:Nat){w:Int}(hw:0≤w∧w<4294967296):bT (ws.set i w):=λx hx=>(List.mem_or_eq_of_mem_set hx).elim (h x) (λe=>e▸hw)
def so(n:Nat):bT (List.replicate n 0):=λw hw=>by have:=JP hw;subst this;decide
def cZ{ws:List Int}(h:bT ws)(i:Nat):0≤ws.getD i 0∧ws.getD i 0<4294967296:=by
 by_cases hi:i<ws.length
 ·simp only[aY,ct hi,De];exact h _ (mO hi)
 ·simp[aY,ni (F9 hi)]
def Ds(a b:List Int):val (a++b)=val a+4294967296^a.length*val b:=by
 induction a with
 |nil=>simp[val]
 |cons w r ih=>simp only[mQ,val,ih,fk,fO];grind
def af7(ws:List Int)(i:Nat)(h:i<ws.length):val (ws.take (i+1))=val (ws.take i)+ws.getD i 0*4294967296^i:=by rw[wc,Ds,fD,tx (O2 h)];simp[ct h,val,aY];grind
def np(ws:List Int)(i:Nat)(h:ws.length≤i):val (ws.take i)=val ws:=by rw[lD h]
def kV(ws:List Int)(i:Nat):val (ws.take (i+1))=val (ws.take i)+ws.getD i 0*4294967296^i:=by
 by_cases h:i<ws.length
 ·exact af7 ws i h
 ·rw[np ws _ af,np ws i af];simp[aY,ni (F9 h)]
def Pc(ws:List Int)(i:Nat)(w:Int)(h:i<ws.length):val (ws.set i w)=val ws+(w-ws.getD i 0)*4294967296^i:=by
 induction ws generalizing i with
 |nil=>simp at h
 |cons x r ih=>
  cases i with
  |zero=>simp[val];omega
  |succ i=>
   have:=ih i cd
   simp only[JS,val,this,List.getD_cons_succ,fO];grind
def wq(n:Nat):val (List.replicate n 0)=0:=by
 induction n with
 |zero=>rfl
 |succ n ih=>simp[v9,val,ih]
def mi{ws:List Int}(h:bT ws):0≤val ws:=by
 induction ws with
 |nil=>exact jH _
 |cons w r ih=>
  obtain⟨h1,h2⟩:=zp.mp h
  have:=ih h2
  simp only[val];omega
def nR{ws:List Int}(h:bT ws):val ws<4294967296^ws.length:=by
 induction ws with
 |nil=>decide
 |cons w r ih=>
  obtain⟨h1,h2⟩:=zp.mp h
  have:=ih h2
  simp only[val,fk,fO];omega
def af8:∀(f g n:Nat),n≤f→n≤g→zn f n=zn g n:=by
 intro f;induction f with
 |zero=>
  intro g n h _;have:n=0:=by omega
  subst this;cases g<;>simp[zn]
 |succ f ih=>
  intro g n h1 h2
  cases g with
  |zero=>
   have:n=0:=by omega
   subst this;simp[zn]
  |succ g=>
   simp only[zn]
   split
   ·rfl
   ·rw[ih g (n/4294967296) af af]
def Dt:ay 0=[]:=rfl
def xL{n:Nat}(h:n≠0):ay n=((n%4294967296:Nat):Int)::ay (n/4294967296):=by
 unfold ay;obtain⟨m,rfl⟩:∃m,n=m+1:=⟨n-1,by omega⟩;conv=>lhs;unfold zn
 rw[aq h,af8 m _ _ af (bF _)]
def eT(n:Nat):val (ay n)=n:=by
 induction n using Nat.strongRecOn with
 |ind n ih=>
  by_cases h:n=0
  ·subst h;rfl
  ·rw[xL h];simp only[val,ih (n/4294967296) af];omega
def eH(n:Nat):bT (ay n):=by
 induction n using Nat.strongRecOn with
 |ind n ih=>
  by_cases h:n=0
  ·subst h;exact Pa
  ·rw[xL h];exact zp.mpr ⟨by omega,ih _ af⟩
def can(ws:List Int):Prop:=ws=[]∨ws.getD (ws.length-1) 0≠0
def af9{ws:List Int}(h:bT ws)(hc:can ws):ws=ay (val ws).toNat:=by
 induction ws with
 |nil=>rfl
 |cons w r ih=>
  obtain⟨h1,h2⟩:=zp.mp h
  have hr:can r:=by
   cases r with
   |nil=>exact .inl ae
   |cons x s=>exact .inr (by rcases hc with hc|hc;cases hc;simpa using hc)
  have hv:=mi h2
  have aN:(val (w::r)).toNat≠0:=by
   simp only[val];intro h0;have h3:w=0∧val r=0:=af;cases r with
   |nil=>rcases hc with hc|hc;cases hc;simp at hc;exact hc h3.1
   |cons x s=>
    have:=ih h2 hr
    rw[h3.2]at this
    exact absurd this (by simp[Dt])
  rw[xL aN]
  have e1:(val (w::r)).toNat/4294967296=(val r).toNat:=by simp only[val];omega
  have e2:(((val (w::r)).toNat%4294967296:Nat):Int)=w:=by simp only[val];omega
  rw[e1,e2,←ih h2 hr]
def uO(n:Nat):can (ay n):=by
 induction n using Nat.strongRecOn with
 |ind n ih=>
  by_cases h:n=0
  ·subst h;exact .inl ae
  ·rw[xL h];refine .inr ?_;by_cases h2:n/4294967296=0
   ·rw[h2,Dt];simp;omega
   ·have:=ih (n/4294967296) af;rcases this with h3|h3
    ·exfalso;have:=eT (n/4294967296);rw[h3]at this;simp[val]at this;omega
    ·cases hw:ay (n/4294967296)with
     |nil=>rw[hw]at h3;simp at h3
     |cons x s=>rw[hw]at h3;simpa using h3
def iI(ws:List Int):Nat→Nat
 |0=>0
 |n+1=>if ws.getD n 0=0 then iI ws n else n+1
def a6(ws:List Int):List Int:=ws.take (iI ws ws.length)
def Wd(ws:List Int):∀n,iI ws n≤n
 |0=>bF _
 |n+1=>by simp only[iI];split;exact Nat.le_succ_of_le (Wd ws n);exact bF _
def We(ws:List Int):∀n,val (ws.take (iI ws n))=val (ws.take n)
 |0=>rfl
 |n+1=>by
  simp only[iI];split
  ·rename_i h;rw[We ws n,kV,h];omega
  ·rfl
def Wf(ws:List Int):∀n,iI ws n=0∨ws.getD (iI ws n-1) 0≠0
 |0=> .inl ae
 |n+1=>by
  simp only[iI];split
  ·exact Wf ws n
  ·rename_i h;exact .inr cd
def Wg(ws:List Int):val (a6 ws)=val ws:=by unfold a6;rw[We,iV]
def Wh{ws:List Int}(h:bT ws):bT (a6 ws):=jQ h _
def Wi(ws:List Int):can (a6 ws):=by
 unfold a6 can;have h1:=Wd ws ws.length;rcases Wf ws ws.length with h|h
 ·left;rw[h];rfl
 ·by_cases h0:iI ws ws.length=0
  ·left;rw[h0];rfl
  ·right;rw[fD,tx h1,aY,C3 af,←aY];exact h
def pX{ws:List Int}(h:bT ws):a6 ws=ay (val ws).toNat:=by have:=af9 (Wh h) (Wi ws);rwa[Wg]at this
def Pd(n:Nat):a6 (ay n)=ay n:=by rw[pX (eH n),eT];simp
def uP{n:Nat}:(n:Int)<4294967296^(ay n).length:=by have:=nR (eH n);rwa[eT]at this
def jR(n:Nat):(0:Int)<4294967296^n:=sn ak
def uQ{m n:Nat}(h:m≤n):(4294967296:Int)^m≤4294967296^n:=by obtain⟨k,rfl⟩:=Nat.exists_eq_add_of_le h;rw[Int.pow_add];have h1:=jR m;have h2:=jR k;have:(4294967296:Int)^m*1≤4294967296^m*4294967296^k:=ju af af;omega
def J'{ws:List Int}(h:bT ws)(hc:can ws)(aN:ws≠[]):(4294967296:Int)^(ws.length-1)≤val ws:=by have h0:0<ws.length:=cX.mpr aN;have h1:=kV ws (ws.length-1);rw[Nat.sub_add_cancel h0,iV]at h1;have h2:ws.getD (ws.length-1) 0≠0:=hc.resolve_left aN;have h3:=cZ h (ws.length-1);have h4:=mi (jQ h (ws.length-1));have h5:=jR (ws.length-1);have h6:1*(4294967296:Int)^(ws.length-1)≤ws.getD (ws.length-1) 0*4294967296^(ws.length-1):=jD af af;omega
def Be{n k:Nat}(h:(n:Int)<4294967296^k):(ay n).length≤k:=by
 apply Decidable.byContradiction;intro hk;have aN:ay n≠[]:=by intro h0;rw[h0]at hk;simp at hk
 have h1:=J' (eH n) (uO n) aN;rw[eT]at h1;have h2:(4294967296:Int)^k≤4294967296^((ay n).length-1):=uQ af;omega
def Ka{a b:List Int}(ha:bT a)(hb:bT b)(hc:can b)(h:a.length<b.length):val a<val b:=by have h1:=nR ha;have h2:=J' hb hc (by intro h0;rw[h0]at h;simp at h);have h3:(4294967296:Int)^a.length≤4294967296^(b.length-1):=uQ af;omega
def Kb{a b:List Int}(ha:bT a)(hb:bT b)(i:Nat)(hd:a.drop (i+1)=b.drop (i+1))(hl:a.length=b.length)(hi:i<a.length)(h:a.getD i 0<b.getD i 0):val a<val b:=by
 have e1:val a=val (a.take (i+1))+4294967296^(i+1)*val (a.drop (i+1)):=by have:=Ds (a.take (i+1)) (a.drop (i+1));rwa[AY,fD,tx af]at this
 have e2:val b=val (b.take (i+1))+4294967296^(i+1)*val (b.drop (i+1)):=by have:=Ds (b.take (i+1)) (b.drop (i+1));rwa[AY,fD,tx af]at this
 rw[hd]at e1;rw[kV]at e1 e2;have h1:=nR (jQ ha i);rw[fD,tx af]at h1;have h2:=mi (jQ hb i);have h3:=jR i;have h4:(a.getD i 0+1)*(4294967296:Int)^i≤b.getD i 0*4294967296^i:=jD af af;rw[lF]at h4;omega
structure Kn1(M v1 v2 v' v t u2 u' u:Int):Prop where
 hM:0<M
 ku:2147483648≤v1
 af':v1<4294967296
 sr:0≤v2
 Wj:v2<4294967296
 j7:0≤v'
 Wl:v'<M
 ht:0≤t
 nq:0≤u2
 aga:u2<4294967296
 jh:0≤u'
 agb:u'<M
 ev:v=(v1*4294967296+v2)*M+v'
 eu:u=(t*4294967296+u2)*M+u'
 lt:u<v*4294967296
namespace Kn1
variable{M v1 v2 v' v t u2 u' u:Int}(h:Kn1 M v1 v2 v' v t u2 u' u)
include h
def Du:0<v:=by have h1:=h.ev;have:0<(v1*4294967296+v2)*M:=Ba (by have:=h.ku;have:=h.sr;omega) h.hM;have:=h.j7;omega
def vge:4294967296*M≤v:=by have h1:=h.ev;have h2:4294967296*M≤(v1*4294967296+v2)*M:=jD (by have:=h.ku;have:=h.sr;omega) xu;have:=h.j7;omega
def vlt:v<(v1+1)*4294967296*M:=by have h1:=h.ev;have h2:(v1*4294967296+v2+1)*M≤(v1+1)*4294967296*M:=jD (by have:=h.Wj;omega) xu;have h3:(v1*4294967296+v2+1)*M=(v1*4294967296+v2)*M+M:=JC;have:=h.Wl;omega
def Wm:t*4294967296*M≤u:=by have h1:=h.eu;have h2:t*4294967296*M≤(t*4294967296+u2)*M:=jD (by have:=h.nq;omega) xu;have:=h.jh;omega
def Wn:u<(t*4294967296+u2+1)*M:=by have h1:=h.eu;have h3:(t*4294967296+u2+1)*M=(t*4294967296+u2)*M+M:=JC;have:=h.agb;omega
def Wo:t<(v1+1)*4294967296:=by
 have h1:=h.Wm;have h2:=h.lt;have h3:=h.vlt;have h4:t*(4294967296*M)<(v1+1)*4294967296*(4294967296*M):=by
  have e1:t*(4294967296*M)=t*4294967296*M:=by rw[j5]
  have e2:(v1+1)*4294967296*(4294967296*M)=(v1+1)*4294967296*M*4294967296:=by rw[j5 _ M,fc M]
  rw[e1,e2];omega
 exact Int.lt_of_mul_lt_mul_right h4 xu
def Dv:u/v<4294967296:=C' h.Du (by rw[fc];exact h.lt)
def q0:0≤u/v:=by refine xB ?_ (by have:=h.Du;omega);have:=h.Wm;have:0≤t*4294967296*M:=j4 (by have:=h.ht;omega) xu;omega
def age:u/v*v≤u:=Int.ediv_mul_le u (by have:=h.Du;omega)
def first:u/v≤t/v1:=by
 apply Int.le_ediv_of_mul_le (by have:=h.ku;omega);have h1:=h.age;have h2:u/v*(v1*4294967296*M)≤u/v*v:=ju (by have h1:=h.ev;have h3:v1*4294967296*M≤(v1*4294967296+v2)*M:=jD (by have:=h.sr;omega) xu;have:=h.j7;omega) h.q0;have h3:=h.Wn;have h4:(t*4294967296+u2+1)*M≤(t+1)*4294967296*M:=jD (by have:=h.aga;omega) xu;have h5:u/v*v1*(4294967296*M)<(t+1)*(4294967296*M):=by
  have e1:u/v*v1*(4294967296*M)=u/v*(v1*4294967296*M):=by simp only[j5]
  have e2:(t+1)*(4294967296*M)=(t+1)*4294967296*M:=by simp only[j5]
  rw[e1,e2];omega
 have:=Int.lt_of_mul_lt_mul_right h5 xu;omega
def down{q r:Int}(ht:t=q*v1+r)(hq:0≤q)(hc:q*v2>r*4294967296+u2):u/v<q:=by
 apply C' h.Du;have h1:=h.Wn;have h2:(t*4294967296+u2+1)*M≤q*(v1*4294967296+v2)*M:=jD (by
  have e:q*(v1*4294967296+v2)=q*v1*4294967296+q*v2:=by rw[oX,j5]
  rw[e];generalize q*v1=x at*;generalize q*v2=y at*;omega) xu
 have h3:q*v=q*(v1*4294967296+v2)*M+q*v':=by rw[h.ev,oX,j5 q]
 have h4:0≤q*v':=j4 hq h.j7;omega
def close{q r:Int}(ht:t=q*v1+r)(hq:0≤q)(hB:q<4294967296)(hc:q*v2≤r*4294967296+u2):q-1≤u/v:=by
 apply Int.le_ediv_of_mul_le h.Du;have h2:q*(v1*4294967296+v2)*M≤(t*4294967296+u2)*M:=jD (by
  have e:q*(v1*4294967296+v2)=q*v1*4294967296+q*v2:=by rw[oX,j5]
  rw[e];generalize q*v1=x at*;generalize q*v2=y at*;omega) xu
 have h3:q*v=q*(v1*4294967296+v2)*M+q*v':=by rw[h.ev,oX,j5 q]
 have h4:q*v'≤4294967296*M:=A4 af (by have:=h.Wl;omega) h.j7 ak;have h5:=h.vge;have h6:=h.eu;have h7:=h.jh;have h8:(q-1)*v=q*v-v:=by rw[xK,iY]
 omega
def agf{q r:Int}(ht:t=q*v1+r)(hr:4294967296≤r):q<4294967296:=by
 have h1:=h.Wo;have hv:=h.ku;by_cases hq:q<4294967296
 ·exact hq
 ·exfalso;have:4294967296*v1≤q*v1:=jD af af;have e:(v1+1)*4294967296=v1*4294967296+4294967296:=JC;rw[e]at h1;omega
def small{q r:Int}(ht:t=q*v1+r)(hr:0≤r):q≤4294967297:=by
 have h1:=h.Wo;have hv:=h.ku;have j7:=h.af';by_cases hq:q≤4294967297
 ·exact hq
 ·exfalso;have:4294967298*v1≤q*v1:=jD af af;have e:(v1+1)*4294967296=v1*4294967296+4294967296:=JC;rw[e]at h1;omega
end Kn1
section
variable{κ ι:Type}[DecidableEq κ]
def a9(u:List (κ×Option ι))(k:κ):Option (Option ι):=
 match u with
 |[]=>none
 | (k',x)::r=>if k'=k then some x else a9 r k
def dC(σ:κ→Option ι)(u:List (κ×Option ι)):κ→Option ι:=λk=>
 match a9 u k with
 |some x=>x
 |none=>σ k
def fold(wr:Nat→List (κ×Option ι))(σ:κ→Option ι)(s:List Nat):κ→Option ι:=s.foldl (λσ i=>dC σ (wr i)) σ
def rh(u:List (κ×Option ι))(k:κ):Bool:=(a9 u k).isSome
def agh{σ:κ→Option ι}{u:List (κ×Option ι)}{k:κ}(h:rh u k=false):dC σ u k=σ k:=by
 unfold rh at h;unfold dC;cases hs:a9 u k with
 |none=>rfl
 |some x=>rw[hs]at h;simp at h
def agi{σ σ':κ→Option ι}{u:List (κ×Option ι)}{k:κ}(h:σ k=σ' k):dC σ u k=dC σ' u k:=by unfold dC;rw[h]
def Wp(wr:Nat→List (κ×Option ι))(k:κ):∀(s:List Nat){σ σ':κ→Option ι},σ k=σ' k→fold wr σ s k=fold wr σ' s k
 |[],_,_,h=>h
 |i::s,_,_,h=>Wp wr k s (agi h)
def fold_filter(wr:Nat→List (κ×Option ι))(k:κ):∀(s:List Nat)(σ:κ→Option ι),fold wr σ s k=fold wr σ (s.filter λi=>rh (wr i) k) k
 |[],_=>rfl
 |i::s,σ=>by
  cases h:rh (wr i) k with
  |true=>
   rw[List.filter_cons_of_pos cd]
   exact fold_filter wr k s _
  |false=>
   rw[List.filter_cons_of_neg (by simp[h])]
   have h1:=fold_filter wr k s σ
   rw[←h1]
   exact Wp wr k s (agh h)
def Pe(wr:Nat→List (κ×Option ι))(σ:κ→Option ι)(s:List Nat)(i:Nat):fold wr σ (s++[i])=dC (fold wr σ s) (wr i):=by simp[fold]
def Pf:∀{l m:List Nat},l.Pairwise (·<·)→m.Pairwise (·<·)→(∀x,x∈l↔x∈m)→l=m
 |[],[],_,_,_=>rfl
 |[],y::m,_,_,h=>absurd ((h y).2 (Db)) be
 |x::l,[],_,_,h=>absurd ((h x).1 (Db)) be
 |x::l,y::m,hl,hm,h=>by
  have Gk:=jZ.1 hl;have Pg:=jZ.1 hm;have Ph:x=y:=by
   have h1:=(h x).1 (Db);have h2:=(h y).2 (Db);rcases dx.1 h1 with e|h1
   ·exact e
   ·rcases dx.1 h2 with e|h2
    ·exact e.symm
    ·have a:=Pg.1 x h1;have b:=Gk.1 y h2;omega
  subst Ph;congr 1;refine Pf Gk.2 Pg.2 (λz=>?_);constructor
  ·intro hz;rcases dx.1 ((h z).1 (v8 _ hz))with e|h1
   ·have:=Gk.1 z hz;omega
   ·exact h1
  ·intro hz;rcases dx.1 ((h z).2 (v8 _ hz))with e|h1
   ·have:=Pg.1 z hz;omega
   ·exact h1
def agj(n:Nat):(List.range n).Pairwise (·<·):=VW
structure sx(n:Nat)(nr:Nat→Nat→Prop)(s:List Nat):Prop where
 nodup:s.Nodup
 lt:∀i∈s,i<n
 closed:∀p i r,s=p++i::r→∀j,nr j i→j∈p
def sx.nil(n:Nat)(nr:Nat→Nat→Prop):sx n nr []:=⟨List.nodup_nil,by simp,λp i r h=>by simp at h⟩
def sx.snoc{n:Nat}{nr:Nat→Nat→Prop}{s:List Nat}(h:sx n nr s){i:Nat}(hi:i<n)(hn:i∉s)(ha:∀j,nr j i→j∈s):sx n nr (s++[i]):=by
 refine⟨?_,?_,?_⟩
 ·rw[V8];exact⟨h.nodup,by simp,λa sy b hb=>by simp at hb;subst hb;exact λe=>hn (e▸sy)⟩
 ·intro j hj;rcases bX.1 hj with hj|hj
  ·exact h.lt j hj
  ·simp at hj;omega
 ·intro p k r hs j hj;rcases List.eq_nil_or_concat r with rfl|⟨r',x,rfl⟩
  ·have h1:s=p∧i=k:=by have:=List.append_inj' (s₁:=s) (t₁:=[i]) (s₂:=p) (t₂:=[k]) hs ae;exact⟨this.1,by simpa using this.2⟩
   obtain⟨rfl,rfl⟩:=h1;exact ha j hj
  ·have h1:s=p++k::r':=by
    have zt:s++[i]=(p++k::r')++[x]:=by rw[hs];simp
    exact(List.append_inj' zt ae).1
   exact h.closed p k r' h1 j hj
def sx.Wq{n:Nat}{nr:Nat→Nat→Prop}{s:List Nat}(h:sx n nr s)(q:Nat→Bool)
  (hc:∀i j,i<j→j<n→q i=true→q j=true→nr i j):(s.filter q).Pairwise (·<·):=by
 have key:∀p r,s=p++r→(r.filter q).Pairwise (·<·):=by
  intro p r;induction r generalizing p with
  |nil=>intro _;simp
  |cons x r ih=>
   intro hs
   have Wr:=ih (p++[x]) (by rw[hs];simp)
   cases hx:q x with
   |false=>rw[List.filter_cons_of_neg lC];exact Wr
   |true=>
    rw[List.filter_cons_of_pos hx,jZ]
    refine⟨λy hy=>?_,Wr⟩
    obtain⟨Ws,hy2⟩:=xC.1 hy
    have Bf:x∈s:=by rw[hs];simp
    have aN:x≠y:=by intro e;have:=h.nodup;rw[hs,V8]at this;have:=this.2.1;rw[zc]at this;exact this.1 (e▸Ws)
    rcases wj x y with bh|tD
    ·exact bh
    ·have bh:y<x:=by omega
     have ha:=hc y x bh (h.lt x Bf) hy2 hx;have hp:=h.closed p x r hs y ha;have:=h.nodup;rw[hs,V8]at this;exact absurd ae (this.2.2 y hp y (v8 _ Ws))
 exact key [] s ae
def Wt(n:Nat)(q:Nat→Bool):((List.range n).filter q).Pairwise (·<·):=(agj n).filter _
def sx.read{n:Nat}{nr:Nat→Nat→Prop}{s:List Nat}(h:sx n nr s)(wr:Nat→List (κ×Option ι))(σ:κ→Option ι)(k:κ)(i:Nat)(hi:i<n)(hn:i∉s)
  (ha:∀j,nr j i→j∈s)
  (hw:∀a b,a<b→b<n→rh (wr a) k=true→rh (wr b) k=true→nr a b)
  (h1:∀a,a<i→rh (wr a) k=true→nr a i) (h2:∀b,i<b→b<n→rh (wr b) k=true→nr i b):
  fold wr σ s k=fold wr σ (List.range i) k:=by
 rw[fold_filter wr k s,fold_filter wr k (List.range i)]
 congr 1
 refine Pf (h.Wq _ (λa b kK hb qa qb=>hw a b kK hb qa qb)) (Wt i _) (λx=>?_)
 rw[xC,xC,kR]
 constructor
 ·rintro⟨hx,qx⟩;refine⟨?_,qx⟩;rcases JV x i with bh|he|hgt
  ·exact bh
  ·exact absurd hx (he▸hn)
  ·have hb:=h2 x hgt (h.lt x hx) qx;obtain⟨p,r,hs⟩:=Dc hx;have:=h.closed p x r hs i hb;exact absurd (by rw[hs];exact fM _ this) hn
 ·rintro⟨hx,qx⟩;exact⟨ha x (h1 x hx qx),qx⟩
def sx.all{n:Nat}{nr:Nat→Nat→Prop}{s:List Nat}(h:sx n nr s)(wr:Nat→List (κ×Option ι))(σ:κ→Option ι)(ns:∀i,i<n→i∈s)
  (hw:∀k a b,a<b→b<n→rh (wr a) k=true→rh (wr b) k=true→nr a b):fold wr σ s=fold wr σ (List.range n):=by
 funext k
 rw[fold_filter wr k s,fold_filter wr k (List.range n)]
 congr 1
 refine Pf (h.Wq _ (λa b kK hb qa qb=>hw k a b kK hb qa qb)) (Wt n _) (λx=>?_)
 rw[xC,xC,kR]
 exact⟨λ⟨hx,q⟩=>⟨h.lt x hx,q⟩,λ⟨hx,q⟩=>⟨ns x hx,q⟩⟩
end
end Go.El
namespace Go.El
open Go Go.RowKit
inductive aJ where
 |box (E:TypeId) (sz:Nat) (cs:List C)
 |vec (E:TypeId) (T:ET) (xs:List T.den)
 |fQ (f:FuncId) (first caps:List (Bool×List C))
 |fz (E:TypeId) (cs:List C)
inductive Key where
 |s (t:Nat)
 |m (id:Nat)
 deriving DecidableEq
inductive Info where
 |v (x:AV)
 |b (x:aJ)
def aJ.aD:aJ→List Nat
 | .box _ _ cs=>cA cs
 | .vec _ _ _=>[]
 | .fQ _ first caps=>fE first++fE caps
 | .fz _ cs=>cA cs
def Info.aD:Info→List Nat
 | .v x=>x.aD
 | .b x=>x.aD
abbrev Kn:=Key→Option Info
def Sub(H:FH)(w:World):Prop:=∀b o v,H b o=some v→w.cell? ⟨b,o,none⟩=some v
def ji(N:Nat→Prop)(g:Gh)(W:World)(id:Nat):aJ→Prop
 | .box E sz cs=>∃b,∃vs rest:List Value,cN (g.γ id)=some b∧W.heap[b]? =some (.cells (vs++rest).toArray E (0,0))∧bS g cs vs∧N b∧(∀o,g.H b o=none)∧(sz≠0→∃c,g.γ id= .slice (some ⟨b,0,none⟩) 0 c∧(vs++rest).length=c*sz)
 | .vec E T xs=>(g.γ id= .slice none 0 0∧xs=[])∨∃b cap,∃vs:List Value,g.γ id= .slice (some ⟨b,0,none⟩) xs.length cap∧W.heap[b]? =some (.cells vs.toArray E (0,0))∧
   vs.length=cap*T.n∧xs.length≤cap∧xs.length*T.n≤140737488355328∧(∀i(h:i<xs.length),dh g.H T xs[i] ((vs.drop (i*T.n)).take T.n))∧N b∧∀o,g.H b o=none
 | .fQ f first caps=>∃us ws:List Value,g.γ id= .func (.func f) us.toArray ws.toArray∧dt g first us∧dt g caps ws
 | .fz E cs=>∃b,∃vs rest:List Value,cN (g.γ id)=some b∧W.heap[b]? =some (.cells (vs++rest).toArray E (0,0))∧bS g cs vs∧N b∧(∀o,g.H b o=(vs++rest)[o]?)
structure c8 where
 w0:World
 H0:FH
 n:Nat
 own:Nat→Prop:=λ_=>False
 k0:Nat:=0
 γ0:Nat→Value:=λ_=>undef
 ds:List Deferred:=[]
 rd:Option Nat:=none
def c8.N(F:c8)(b:Nat):Prop:=F.w0.heap.size≤b∨F.own b
structure Dw(own:Nat→Prop)(w w':World):Prop where
 os:w'.os=w.os
 tape:w'.tape=w.tape
 output:w'.output=w.output
 size:w.heap.size≤w'.heap.size
 block:∀k,k<w.heap.size→¬own k→w'.heap[k]? =w.heap[k]?
structure bJ(F:c8)(known:Nat→Prop)(σ:Kn)(g:Gh)(W:World)(a:Act):Prop where
 size:a.tmps.size=F.n
 defers:a.defers=F.ds
 gw:∀t v,σ (.s t)=some (.v v)→bP g v (a.tmps.getD t undef)
 c9:∀id b,σ (.m id)=some (.b b)→ji F.N g W id b
 inj:∀id b6 b b' k,σ (.m id)=some (.b b)→σ (.m b6)=some (.b b')→cN (g.γ id)=some k→cN (g.γ b6)=some k→id=b6
 aD:∀k x,σ k=some x→∀id∈x.aD,known id
 fy:∀id x,σ (.m id)=some x→known id
 sub:Sub g.H W
 below:Dw F.own F.w0 W
 le:cC F.H0 g.H
 fresh:∀b o,b<F.w0.heap.size→¬F.own b→g.H b o=F.H0 b o
 iu:∀id,id<F.k0→known id∧g.γ id=F.γ0 id
structure Ext(known chg:Nat→Prop)(g:Gh)(W:World)(g':Gh)(W':World):Prop where
 le:iH known g g'
 fresh:∀b o,b<W.heap.size→g'.H b o=g.H b o
 sub:Sub g'.H W'
 size:W.heap.size≤W'.heap.size
 heap:∀k,k<W.heap.size→(∀id,chg id→cN (g.γ id)≠some k)→W'.heap[k]? =W.heap[k]?
 os:W'.os=W.os
 tape:W'.tape=W.tape
 output:W'.output=W.output
def ji.block{N:Nat→Prop}{g:Gh}{W:World}{id:Nat}{b:aJ}(h:ji N g W id b){k:Nat}(hk:cN (g.γ id)=some k):N k∧k<W.heap.size:=by
 cases b with
 |box E sz cs=>
  obtain⟨b,vs,rest,e,hh,_,hn,_⟩:=h
  rw[e]at hk
  simp only[aO]at hk
  subst hk
  exact⟨hn,(jO.1 hh).1⟩
 |vec E T xs=>
  rcases h with⟨e,_⟩|⟨b,cap,vs,e,hh,_,_,_,_,hn,_⟩
  ·rw[e]at hk;simp[cN]at hk
  ·rw[e]at hk;simp only[cN,aO]at hk;subst hk;exact⟨hn,(jO.1 hh).1⟩
 |fQ f first caps=>
  obtain⟨us,ws,e,_⟩:=h
  rw[e]at hk;simp[cN]at hk
 |fz E cs=>
  obtain⟨b,vs,rest,e,hh,_,hn,_⟩:=h
  rw[e]at hk
  simp only[aO]at hk
  subst hk
  exact⟨hn,(jO.1 hh).1⟩
def ji.step{known chg:Nat→Prop}{N:Nat→Prop}{g g':Gh}{W W':World}{id:Nat}{b:aJ}(h:ji N g W id b)(hx:Ext known chg g W g' W')
  (al:known id) (hm:∀j∈b.aD,known j) (aN:∀j k,chg j→cN (g.γ id)=some k→cN (g.γ j)≠some k):ji N g' W' id b:=by
 cases b with
 |box E sz cs=>
  obtain⟨b,vs,rest,e,hh,hr,hn,hz,hc⟩:=h
  have hb:b<W.heap.size:=(jO.1 hh).1
  refine⟨b,vs,rest,by rw[hx.le.γ id al];exact e,?_,bS.mono hx.le hm hr,hn,λo=>by rw[hx.fresh b o hb];exact hz o,by rw[hx.le.γ id al];exact hc⟩
  rw[hx.heap b hb (λj hj=>aN j b hj e)];exact hh
 |vec E T xs=>
  rcases h with⟨e,Dx⟩|⟨b,cap,vs,e,hh,h1,h2,pY,h3,hn,hz⟩
  ·exact .inl ⟨by rw[hx.le.γ id al];exact e,Dx⟩
  ·have hb:b<W.heap.size:=(jO.1 hh).1;refine .inr ⟨b,cap,vs,by rw[hx.le.γ id al];exact e,?_,h1,h2,pY,λi hi=>dh.mono hx.le.H T _ _ (h3 i hi),hn,λo=>by rw[hx.fresh b o hb];exact hz o⟩;rw[hx.heap b hb (λj hj=>aN j b hj (by rw[e];rfl))];exact hh
 |fQ f first caps=>
  obtain⟨us,ws,e,h1,h2⟩:=h
  exact⟨us,ws,by rw[hx.le.γ id al];exact e,dt.mono hx.le (λj hj=>hm j (fM _ hj)) h1,dt.mono hx.le (λj hj=>hm j (jY _ hj)) h2⟩
 |fz E cs=>
  obtain⟨b,vs,rest,e,hh,hr,hn,hz⟩:=h
  have hb:b<W.heap.size:=(jO.1 hh).1
  refine⟨b,vs,rest,by rw[hx.le.γ id al];exact e,?_,bS.mono hx.le hm hr,hn,λo=>by rw[hx.fresh b o hb];exact hz o⟩
  rw[hx.heap b hb (λj hj=>aN j b hj e)];exact hh
def bJ.step{F:c8}{known chg:Nat→Prop}{σ:Kn}{g g':Gh}{W W':World}{a a':Act}(h:bJ F known σ g W a)(hx:Ext known chg g W g' W')
  (wr:List (Key×Option Info)) (new:Nat) (dT:¬known new)
  (cR:a'.tmps.size=a.tmps.size) (Kc:a'.defers=F.ds)
  (agm:∀t,a9 wr (.s t)=none→a'.tmps.getD t undef=a.tmps.getD t undef)
  (Wu:∀id,chg id→a9 wr (.m id)≠none∧∃b,σ (.m id)=some (.b b))
  (hs:∀t v,a9 wr (.s t)=some (some (.v v))→bP g' v (a'.tmps.getD t undef))
  (hb:∀id b,a9 wr (.m id)=some (some (.b b))→ji F.N g' W' id b∧((known id∧∃b',σ (.m id)=some (.b b'))∨(id=new∧∀k,cN (g'.γ id)=some k→W.heap.size≤k∨∃j b',σ (.m j)=some (.b b')∧a9 wr (.m j)=some none∧cN (g.γ j)=some k)))
  (hm:∀k x,a9 wr k=some (some x)→∀id∈x.aD,known id∨id=new)
  (ri:∀id x,a9 wr (.m id)=some (some x)→known id∨id=new):
  bJ F (λid=>known id∨id=new) (dC σ wr) g' W' a':=by
 have hold:∀k x,dC σ wr k=some x→(a9 wr k=none∧σ k=some x)∨a9 wr k=some (some x):=by
  intro k x hk;unfold dC at hk;cases Dy:a9 wr k with
  |none=>rw[Dy]at hk;exact .inl ⟨ae,hk⟩
  |some y=>rw[Dy]at hk;simp only at hk;rw[hk];exact .inr ae
 refine⟨by rw[cR];exact h.size,Kc,?_,?_,?_,?_,?_,hx.sub,?_,h.le.trans hx.le.H,?_,λid al=>⟨.inl (h.iu id al).1,by rw[hx.le.γ id (h.iu id al).1];exact(h.iu id al).2⟩⟩
 ·intro t v ht;rcases hold _ _ ht with⟨h1,h2⟩|h1
  ·rw[agm t h1];exact bP.mono hx.le (λid al=>h.aD _ _ h2 id al) (h.gw t v h2)
  ·exact hs t v h1
 ·intro id b al;rcases hold _ _ al with⟨h1,h2⟩|h1
  ·refine(h.c9 id b h2).step hx (h.fy _ _ h2) (λj hj=>h.aD _ _ h2 j hj) (λj k hj hk hjk=>?_);obtain⟨fh,b',jy⟩:=Wu j hj;have:=h.inj id j b b' k h2 jy hk hjk;subst this;exact fh h1
  ·exact(hb id b h1).1
 ·intro id b6 b b' k al sA hk du;have low:∀id b,(a9 wr (.m id)=none∧σ (.m id)=some (.b b))∨a9 wr (.m id)=some (some (.b b))→cN (g'.γ id)=some k→
    (∃Gl,σ (.m id)=some (.b Gl)∧cN (g.γ id)=some k∧k<W.heap.size∧a9 wr (.m id)≠some none)∨(id=new∧(W.heap.size≤k∨∃j b',σ (.m j)=some (.b b')∧a9 wr (.m j)=some none∧cN (g.γ j)=some k)):=by
   intro id b oZ hk
   rcases oZ with⟨h1,h2⟩|h1
   ·rw[hx.le.γ id (h.fy _ _ h2)]at hk;exact .inl ⟨b,h2,hk,((h.c9 id b h2).block hk).2,by rw[h1];simp⟩
   ·rcases(hb id b h1).2 with⟨eP,Gl,h2⟩|⟨rfl,tD⟩
    ·rw[hx.le.γ id eP]at hk;exact .inl ⟨Gl,h2,hk,((h.c9 id Gl h2).block hk).2,by rw[h1];simp⟩
    ·exact .inr ⟨ae,tD k hk⟩
  rcases low id b (hold _ _ al) hk with⟨c,h1,h2,h3,h4⟩|⟨e1,h3⟩<;>rcases low b6 b' (hold _ _ sA) du with⟨c',zu,pY,wu,rj⟩|⟨rq,wu⟩
  ·exact h.inj id b6 c c' k h1 zu h2 pY
  ·rcases wu with wu|⟨j,bj,fh,jy,nS⟩
   ·omega
   ·have:=h.inj id j c bj k h1 fh h2 nS;subst this;exact absurd jy h4
  ·rcases h3 with h3|⟨j,bj,fh,jy,nS⟩
   ·omega
   ·have:=h.inj b6 j c' bj k zu fh pY nS;subst this;exact absurd jy rj
  ·rw[e1,rq]
 ·intro k x hk id al;rcases hold _ _ hk with⟨_,h2⟩|h1
  ·exact .inl (h.aD _ _ h2 id al)
  ·exact hm k x h1 id al
 ·intro id x hk;rcases hold _ _ hk with⟨_,h2⟩|h1
  ·exact .inl (h.fy _ _ h2)
  ·exact ri id x h1
 ·refine⟨hx.os.trans h.below.os,hx.tape.trans h.below.tape,hx.output.trans h.below.output,dG h.below.size hx.size,λk hk ef=>?_⟩;have du:k<W.heap.size:=kl hk h.below.size;rw[←h.below.block k hk ef];refine hx.heap k du (λid al pZ=>?_);obtain⟨_,b,hσ⟩:=Wu id al;rcases((h.c9 id b hσ).block pZ).1 with h1|h1
  ·omega
  ·exact ef h1
 ·intro b o dm ef;rw[hx.fresh b o (kl dm h.below.size)];exact h.fresh b o dm ef
def bJ.weaken{F:c8}{known Wv:Nat→Prop}{σ:Kn}{g:Gh}{W:World}{a:Act}(h:bJ F known σ g W a)(hk:∀id,known id→Wv id):bJ F Wv σ g W a:=
 ⟨h.size,h.defers,h.gw,h.c9,h.inj,λk x e id al=>hk _ (h.aD k x e id al),λid x e=>hk _ (h.fy id x e),h.sub,h.below,h.le,h.fresh,λid al=>⟨hk _ (h.iu id al).1,(h.iu id al).2⟩⟩
def bJ.drew{F:c8}{known:Nat→Prop}{σ:Kn}{g:Gh}{W:World}{a:Act}(h:bJ F known σ g W a):bJ F known σ g {W with drawn:=W.drawn+1} a:=by
 refine⟨h.size,h.defers,h.gw,?_,h.inj,h.aD,h.fy,h.sub,⟨h.below.os,h.below.tape,h.below.output,h.below.size,h.below.block⟩,h.le,h.fresh,h.iu⟩;intro id b e;have:=h.c9 id b e;cases b with
 |box E sz cs=>exact this
 |vec E T xs=>exact this
 |fQ f first caps=>exact this
 |fz E cs=>exact this
def gx(r:Option Nat):Fence:={Fence.wide with round:=r}
def zv(r:Option Nat)(ops:Array Oper):Prop:=∀(i:Nat)(o:Oper),ops[i]? =some o→r=none∨∀c,o.op≠ .defer c
def ago{ops:Array Oper}:zv none ops:=λ_ _ _=> .inl ae
def agp{P:Program}{c:Code}{Q:Exit→Act→World→Prop}{a:Act}{w:World}{r:Option Nat}(hr:r=none):c.wpIn (gx r) 0 P Q a w↔c.wp P Q a w:=by subst hr;exact wpIn_wide
def Pj{P:Program}{ops:Array Oper}{i:Nat}{K:Act→World→Prop}{a:Act}{W:World}{r:Option Nat}{Q:Exit→Act→World→Prop}(hd:∀o,ops[i]? =some o→r=none∨∀c,o.op≠ .defer c)(h:wpOp P ops (λ_ _ _=>False) i K a W):
  wpOpIn (gx r) 0 P ops Q i K a W:=by
 unfold wpOp at h
 unfold wpOpIn
 cases ho:ops[i]? with
 |none=>rw[ho]at h;exact h
 |some o=>
  rw[ho]at h
  simp only at h⊢
  split
  ·rename_i hw;rw[aw hw]at h;have h1:o.wp P a W K (λ_ _ _=>False):=by
    rcases h with h|⟨_,_,_,hf⟩
    ·exact h
    ·exact hf.elim
   refine⟨λ_ _=>trivial,?_⟩;have he:(o.semAt (gx r).round a.eval)=execOp a.eval o:=by
    rcases hd o ho with hn|hn
    ·subst hn;exact Oper.semAt_none _ _
    ·exact Oper.semAt_eq _ _ _ hn
   rw[he];unfold Oper.wp at h1;generalize (execOp a.eval o).run P W=x at h1;cases x with
   |ok y w'=>
    cases y<;>simp only[Oper.upon,Oper.uponIn]at h1⊢
    all_goals first
     |exact h1
     |exact h1.elim
     |skip
    ·refine⟨λhh=>by simp[gx,Fence.wide]at hh,?_⟩;have h2:=(callsIn_wide (n:=0)).2 h1;refine CallsIn.mono (F:=gx r) h2 (λe Ww he=>?_);cases e with
     |returned v=>exact he
     |panicked c=>exact he.elim
     |outgrown=>obtain⟨_,_,hf⟩:=he;exact hf.elim
    ·refine⟨λhh=>by simp[gx,Fence.wide]at hh,?_⟩;intro c cs _;obtain⟨v,Ww,hr,dc⟩:=h1 c cs;exact⟨v,Ww,hr,stepsIn_wide.2 dc⟩
   |halt y w'=>
    cases y<;>simp only[Oper.upon]at h1⊢<;>exact h1.elim
  ·rename_i hw;rw[aq hw]at h;exact⟨λ_ _=>trivial,h⟩
def mj(P:Program)(n:Nat)(ops:Array Oper)(i:Nat)(rd:List (Key×Info))(wr:List (Key×Option Info))(new:Nat):Prop:=
 ∀(F:c8),F.n=n→∀(Q:Exit→Act→World→Prop)(known:Nat→Prop)(σ:Kn)(g:Gh)(W:World)(a:Act)(K:Act→World→Prop),¬known new→bJ F known σ g W a→
  (∀kx∈rd,σ kx.1=some kx.2)→(∀g' W' a',bJ F (λid=>known id∨id=new) (dC σ wr) g' W' a'→K a' W')→wpOp P ops Q i K a W
def zw(P:Program)(n:Nat)(ops:Array Oper)(i:Nat)(rd:List (Key×Info))(wr:List (Key×Option Info))(new:Nat→Prop):Prop:=
 ∀(F:c8),F.n=n→∀(Q:Exit→Act→World→Prop)(known:Nat→Prop)(σ:Kn)(g:Gh)(W:World)(a:Act)(K:Act→World→Prop),(∀id,new id→¬known id)→bJ F known σ g W a→
  (∀kx∈rd,σ kx.1=some kx.2)→(∀g' W' a',bJ F (λid=>known id∨new id) (dC σ wr) g' W' a'→K a' W')→wpOp P ops Q i K a W
def mj.Wx{P:Program}{n:Nat}{ops:Array Oper}{i:Nat}{rd:List (Key×Info)}{wr:List (Key×Option Info)}{m:Nat}(h:mj P n ops i rd wr m){new:Nat→Prop}(hm:new m):zw P n ops i rd wr new:=by
 intro F hF Q known σ g W a K dT aH bt hK;refine h F hF Q known σ g W a K (dT m hm) aH bt (λg' W' a' h'=>hK g' W' a' (h'.weaken ?_));rintro id (h|rfl)
 ·exact .inl h
 ·exact .inr hm
def sB(c:Nat→Nat)(i:Nat):Nat→Prop:=λid=>c i≤id∧id<c (i+1)
def Gm{c:Nat→Nat}(hc:∀i,c i≤c (i+1)){i j:Nat}(h:i≤j):c i≤c j:=by
 induction h with
 |refl=>exact bF _
 |step _ ih=>exact dG ih (hc _)
section
variable{P:Program}{ops:Array Oper}{Q:Exit→Act→World→Prop}{F:c8}{σ:Kn}{rd:Nat→List (Key×Info)}{wr:Nat→List (Key×Option Info)}{nx:Nat}
def Wy{id:Nat}{g:Gh}{W:World}{a:Act}{c:Nat→Nat}(hc:∀i,c i≤c (i+1))(h0:bJ F (·<c 0) σ g W a)
  (hs:∀i,i<ops.size→zw P F.n ops i (rd i) (wr i) (sB c i))
  (ht:∀i,i<ops.size→∀kx∈rd i,fold wr σ (List.range i) kx.1=some kx.2)
  (hQ:∀g W a,bJ F (·<c ops.size) (fold wr σ (List.range ops.size)) g W a→Q .normal a W) (fF:zv F.rd ops):(Code.region id ops false).wpIn (gx F.rd) 0 P Q a W:=by
 refine wpIn_region ?_
 have key:∀m k,k+m=ops.size→∀g W a,bJ F (·<c k) (fold wr σ (List.range k)) g W a→wpOpsIn (gx F.rd) 0 P ops Q (List.range' k m) a W:=by
  intro m;induction m with
  |zero=>intro k hk g W a h;simp only[j6]at hk;subst hk;exact hQ g W a h
  |succ m ih=>
   intro k hk g W a h
   rw[List.range'_succ,wpOpsIn_cons]
   refine Pj (fF k) ?_
   refine hs k af F ae _ (·<c k) _ g W a _ (λid h1 h2=>by simp only[sB]at h1;omega) h (ht k af) (λg' W' a' h'=>?_)
   refine ih (k+1) af g' W' a' ?_
   rw[pW,Pe]
   exact h'.weaken (λid al=>by have:=hc k;simp only[sB]at al;omega)
 have:=key ops.size 0 af g W a h0
 rwa[←List.range_eq_range']at this
inductive ow(ops:Array Oper):Nat→Nat→Prop where
 |one {i j:Nat} {o:Oper} {e:Edge} (ho:ops[i]? =some o) (he:e∈o.after) (hb:Region.binds .any e=true) (hj:e.on=j):ow ops j i
 |more {i j k:Nat} {o:Oper} {e:Edge} (ho:ops[i]? =some o) (he:e∈o.after) (hb:Region.binds .any e=true) (hk:e.on=k) (h:ow ops j k):ow ops j i
def ow.closed{s:List Nat}{i:Nat}(ru:∀k∈s,∀j,ow ops j k→j∈s)(Wz:∀o,ops[i]? =some o→∀e∈o.after,Region.binds .any e=true→e.on∈s):∀j,ow ops j i→j∈s:=by
 intro j hj;cases hj with
 |one ho he hb hj=>subst hj;exact Wz _ ho _ he hb
 |more ho he hb hk h=>subst hk;exact ru _ (Wz _ ho _ he hb) j h
def fe(u:List (Key×Option Info)):List Key:=u.map (·.1)
def dO(u:List (Key×Info)):List Key:=u.map (·.1)
def Dz{u:List (Key×Option Info)}{k:Key}(h:rh u k=true):k∈fe u:=by
 induction u with
 |nil=>simp[rh,a9]at h
 |cons p u ih=>
  obtain⟨k',x⟩:=p
  by_cases e:k'=k
  ·simp[fe,e]
  ·have:rh u k=true:=by simpa[rh,a9,e]using h
   have:=ih this;simp only[fe,jF,dx];exact .inr this
def WA{id:Nat}{g:Gh}{W:World}{a:Act}{c:Nat→Nat}(hc:∀i,c i≤c (i+1))(oz:P.follows .mixedOrders=true)(bh:∀i o e,ops[i]? =some o→e∈o.after→Region.binds .any e=true→e.on<i)(h0:bJ F (·<c 0) σ g W a)
  (hs:∀i,i<ops.size→zw P F.n ops i (rd i) (wr i) (sB c i))
  (ht:∀i,i<ops.size→∀kx∈rd i,fold wr σ (List.range i) kx.1=some kx.2)
  (WB:∀i j,i<j→j<ops.size→∀k,k∈fe (wr i)→k∈fe (wr j)→ow ops i j)
  (zy:∀i j,i<j→j<ops.size→∀k,k∈fe (wr i)→k∈dO (rd j)→ow ops i j)
  (sC:∀i j,i<j→j<ops.size→∀k,k∈dO (rd i)→k∈fe (wr j)→ow ops i j)
  (hQ:∀g W a,bJ F (·<c ops.size) (fold wr σ (List.range ops.size)) g W a→Q .normal a W) (fF:zv F.rd ops):(Code.region id ops true).wpIn (gx F.rd) 0 P Q a W:=by
 refine wpIn_region_any oz ?_
 have key:∀fuel rv s g W a,rv.size=ops.size→sx ops.size (ow ops) s→(∀i,i<ops.size→(rv.getD i true=true↔i∈s))→fuel+s.length=ops.size→
   bJ F (λid=>id<c 0∨∃i∈s,sB c i id) (fold wr σ s) g W a→wpAnyIn (gx F.rd) 0 P .any ops Q fuel rv a W:=by
  intro fuel
  induction fuel with
  |zero=>
   intro rv s g W a cR bZ hl agq h
   have ns:∀i,i<ops.size→i∈s:=by
    intro i hi;refine gn λhn=>?_
    have fF:(i::s).Nodup:=zc.2 ⟨hn,bZ.nodup⟩;have eI:i::s⊆List.range ops.size:=λx hx=>by
     rcases dx.1 hx with rfl|hx
     ·exact kR.2 hi
     ·exact kR.2 (bZ.lt x hx)
    have:=fF.length_le_of_subset eI;simp at this;omega
   refine⟨?_,?_⟩
   ·cases hr:Region.ready .any ops rv with
    |nil=>rfl
    |cons x xs=>
     have hx:x∈Region.ready .any ops rv:=by rw[hr];exact Db
     obtain⟨wy,o,ho,_⟩:=mem_ready.1 hx
     have Bf:x<ops.size:=(jO.1 ho).1
     have:=(hl x Bf).2 (ns x Bf)
     rw[this]at wy
     cases wy
   ·refine hQ g W a ?_;rw[←bZ.all wr σ ns (λk i j nt hj o0 ry=>WB i j nt hj k (Dz o0) (Dz ry))];refine h.weaken (λid al=>?_);rcases al with al|⟨i,hi,hf⟩
    ·exact kl al (Gm hc (bK _))
    ·have:=Gm hc (show i+1≤ops.size from bZ.lt i hi);simp only[sB]at hf;omega
  |succ fuel ih=>
   intro rv s g W a cR bZ hl agq h
   refine⟨λhr=>?_,λi hi=>?_⟩
   ·exfalso;have hex:∃i,i<ops.size∧i∉s:=by
     refine gn λaN=>?_
     have ns:∀i∈List.range ops.size,i∈s:=λi hi=>gn λhn=>aN ⟨i,kR.1 hi,hn⟩
     have:=(List.nodup_range (n:=ops.size)).length_le_of_subset ns;simp at this;omega
    have agr:∀m,∀i,i≤m→i<ops.size→i∉s→∃i,i<ops.size∧i∉s∧∀j,j<i→j∈s:=by
     intro m;induction m with
     |zero=>intro i h1 h2 h3;exact⟨i,h2,h3,λj hj=>by omega⟩
     |succ m ihm=>
      intro i h1 h2 h3
      by_cases hj:∃j,j<i∧j∉s
      ·obtain⟨j,fh,jy⟩:=hj;exact ihm j af af jy
      ·exact⟨i,h2,h3,λj ry=>gn λhn=>hj ⟨j,ry,hn⟩⟩
    obtain⟨i0,DA,DB⟩:=hex;obtain⟨i,hi,hn,agt⟩:=agr i0 i0 (bF _) DA DB;have:i∈Region.ready .any ops rv:=by
     rw[mem_ready];refine⟨?_,ops[i],by simp[hi],λe he hb=>?_⟩
     ·cases hg:rv.getD i true with
      |false=>rfl
      |true=>exact absurd ((hl i hi).1 hg) hn
     ·have h1:=bh i ops[i] e (by simp[hi]) he hb;have h2:=(hl e.on af).2 (agt e.on h1);have h3:e.on<rv.size:=af;simpa[h3]using h2
    rw[hr]at this;cases this
   ·obtain⟨Kd,o,ho,ns⟩:=mem_ready.1 hi;have o0:i<ops.size:=(jO.1 ho).1;have hn:i∉s:=λjz=>by rw[(hl i o0).2 jz]at Kd;cases Kd
    have ru:∀k∈s,∀j,ow ops j k→j∈s:=by intro k hk j hj;obtain⟨p,r,zt⟩:=Dc hk;rw[zt];exact fM _ (bZ.closed p k r zt j hj)
    have agu:∀o',ops[i]? =some o'→∀e∈o'.after,Region.binds .any e=true→e.on∈s:=by
     intro o' Ke e he hb;rw[ho]at Ke;cases Ke;have h1:=ns e he hb;have bh:e.on<ops.size:=by
      rcases wj e.on rv.size with h2|h2
      ·omega
      ·simp[Array.getElem?_eq_none h2]at h1
     refine(hl e.on bh).1 ?_;have agv:e.on<rv.size:=af;simpa[agv]using h1
    have WC:=ow.closed ru agu;have bt:∀kx∈rd i,fold wr σ s kx.1=some kx.2:=by intro kx aS;have hk:kx.1∈dO (rd i):=nQ.2 ⟨kx,aS,ae⟩;rw[bZ.read wr σ kx.1 i o0 hn WC (λa b kK hb sy dm=>WB a b kK hb _ (Dz sy) (Dz dm)) (λa ha hwa=>zy a i ha o0 _ (Dz hwa) hk) (λb hb tE Gn=>sC i b hb tE _ hk (Dz Gn))];exact ht i o0 kx aS
    refine Pj (fF i) ?_;refine hs i o0 F ae _ _ _ g W a _ (λid hf eP=>?_) h bt (λg' W' a' h'=>?_)
    ·rcases eP with eP|⟨j,hj,e⟩
     ·have:=Gm hc (bK i);simp only[sB]at hf;omega
     ·have:i=j:=by
       simp only[sB]at hf e;rcases JV i j with h1|h1|h1
       ·have:=Gm hc (show i+1≤j from h1);omega
       ·exact h1
       ·have:=Gm hc (show j+1≤i from h1);omega
      exact hn (this▸hj)
    ·refine ih (rv.setIfInBounds i true) (s++[i]) g' W' a' (by simp[cR]) (bZ.snoc o0 hn WC) (λj hj=>?_) cO ?_
     ·by_cases DC:j=i
      ·subst DC;have:j<rv.size:=af;simp[this]
      ·rw[getD_set_ne true (Ne.symm DC),hl j hj];simp[DC]
     ·rw[Pe];refine h'.weaken (λid al=>?_);rcases al with(al|⟨j,hj,e⟩)|al
      ·exact .inl al
      ·exact .inr ⟨j,fM _ hj,e⟩
      ·exact .inr ⟨i,by simp,al⟩
 refine key ops.size _ [] g _ a be (sx.nil _ _) (λi hi=>?_) be ?_
 ·simp[hi]
 ·exact h0.drew.weaken (λid al=> .inl al)
end
def ao{α:Type}(t:Nat):List (Nat×α)→Option α
 |[]=>none
 | (k,x)::r=>if k=t then some x else ao t r
inductive ZV where
 |b|i (k:IntKind)|s|f|t|p
def ZV.fV:ZV→Value
 | .b=> .bool false
 | .i k=> .int k 0
 | .s=> .slice none 0 0
 | .f=> .nilFunc
 | .t=> .string ⟨⟨[]⟩⟩
 | .p=> .pointer none
def ZV.sD:ZV→C
 | .b=> .B false
 | .i k=> .I k 0
 | .s=> .V (.slice none 0 0)
 | .f=> .V .nilFunc
 | .t=> .V (.string ⟨⟨[]⟩⟩)
 | .p=> .V (.pointer none)
def ZV.ok:ZV→Value→Bool
 | .b,.bool false=>true
 | .i k,.int k' n=>k=k'&&n=0
 | .s,.slice none 0 0=>true
 | .f,.nilFunc=>true
 | .t,.string ⟨⟨[]⟩⟩=>true
 | .p,.pointer none=>true
 |_,_=>false
def ZV.ok_eq:∀{z:ZV}{v:Value},z.ok v=true→v=z.fV:=by
 intro z v h;unfold ZV.ok at h;split at h
 ·rfl
 ·simp only[eQ,decide_eq_true_eq]at h;obtain⟨rfl,rfl⟩:=h;rfl
 ·rfl
 ·rfl
 ·rfl
 ·rfl
 ·cases h
inductive TK where
 |int (k:IntKind)|bool|sl (E:Nat)|st|arr (len E:Nat)|str|other
structure TI where
 kind:TK
 size:Nat
 bytes:Nat
 fields:List (Nat×Nat×Bool)
 zero:List ZV
abbrev TT:=List (Nat×TI)
def TI.agg(t:TI):Bool:=match t.kind with| .st=>true| .arr _ _=>true|_=>false
def wz(P:Program)(t:TypeId):Option Bool:=match P.underlying t with
 |some (.struct _)=>some true
 |some (.array _ _)=>some true
 |some _=>some false
 |none=>none
def DD:List ZV→List Value→Bool
 |[],[]=>true
 |z::zs,v::vs=>z.ok v&&DD zs vs
 |_,_=>false
def WD:∀{zs:List ZV}{vs:List Value},DD zs vs=true→vs=zs.map ZV.fV
 |[],[],_=>rfl
 |_::_,_::_,h=>by simp only[DD,eQ]at h;simp[ZV.ok_eq h.1,WD h.2]
 |[],_::_,h=>by simp[DD]at h
 |_::_,[],h=>by simp[DD]at h
def tG(P:Program):List (Nat×Nat×Bool)→List Field→Bool
 |[],[]=>true
 | (off,sz,ag)::r,f::fs=>f.offset=off&&((P.info? f.type).map (·.size)==some sz)&&sz≠0&&(wz P f.type==some ag)&&tG P r fs
 |_,_=>false
def Pk(P:Program)(t:Nat)(ti:TI):Bool:=
 match P.info? t with
 |none=>false
 |some i=>i.size=ti.size&&ti.zero.length=ti.size&&i.bytes=ti.bytes&&(match i.zero with|some z=>DD ti.zero z.cells.toList|none=>false)&&
  match ti.kind,P.underlying t with
  | .int k,some (.int k')=>k=k'
  | .bool,some .bool=>true
  | .sl E,some (.slice E')=>E=E'
  | .st,some (.struct fs)=>tG P ti.fields fs.toList
  | .arr n e,some (.array n' e')=>n=n'&&e=e'
  | .str,some .string=>true
  | .other,some d=>(match d with| .struct _=>false| .array _ _=>false|_=>true)
  |_,_=>false
structure WE(P:Program)(t:Nat)(ti:TI):Prop where
 Pl:ti.zero.length=ti.size
 info:∃i,P.info? t=some i∧i.size=ti.size∧i.bytes=ti.bytes∧∃z,i.zero=some z∧z.cells.toList=ti.zero.map ZV.fV
 agg:wz P t=some ti.agg
 kind:match ti.kind with
  | .int k=>P.underlying t=some (.int k)
  | .bool=>P.underlying t=some .bool
  | .sl E=>P.underlying t=some (.slice E)
  | .st=>∃fs,P.underlying t=some (.struct fs)∧tG P ti.fields fs.toList=true
  | .arr n e=>P.underlying t=some (.array n e)
  | .str=>P.underlying t=some .string
  | .other=>True
def agx{P:Program}{t:Nat}{ti:TI}(h:Pk P t ti=true):WE P t ti:=by
 unfold Pk at h;cases hi:P.info? t with
 |none=>rw[hi]at h;simp at h
 |some i=>
  rw[hi]at h
  simp only[eQ,decide_eq_true_eq]at h
  obtain⟨⟨⟨⟨h1,h0⟩,h2⟩,h3⟩,h4⟩:=h
  have hz:∃z,i.zero=some z∧z.cells.toList=ti.zero.map ZV.fV:=by
   cases hz:i.zero with
   |none=>rw[hz]at h3;simp at h3
   |some z=>rw[hz]at h3;exact⟨z,ae,WD h3⟩
  refine⟨h0,⟨i,hi,h1,h2,hz⟩,?_,?_⟩
  ·unfold wz TI.agg;cases hk:ti.kind<;>rw[hk]at h4<;>cases hu:P.underlying t<;>rw[hu]at h4<;>try(simp at h4;done)
   all_goals (rename_i d;cases d<;>first|rfl| (simp at h4;done))
  ·cases hk:ti.kind<;>rw[hk]at h4<;>cases hu:P.underlying t<;>rw[hu]at h4<;>try(simp at h4;done)
   all_goals (rename_i d;cases d<;>first|trivial| (simp at h4;done)| (simp at h4;subst h4;rfl)| (simp at h4;obtain⟨h5,h6⟩:=h4;subst h5 h6;rfl)|exact⟨_,rfl,h4⟩)
def cL(P:Program):TT→Bool
 |[]=>true
 | (t,ti)::r=>Pk P t ti&&cL P r
def gL{P:Program}:∀{tt:TT},cL P tt=true→∀{t ti},ao t tt=some ti→WE P t ti
 |[],_,_,_,h=>by simp[ao]at h
 | (k,x)::r,hb,t,ti,h=>by
  simp only[cL,eQ]at hb;simp only[ao]at h;split at h
  ·rename_i e;subst e;cases h;exact agx hb.1
  ·exact gL hb.2 h
structure St where
 sl:List (Nat×AV)
 mem:List (Nat×aJ)
 nx:Nat
 gd:List (Nat×Bool):=[]
def St.kn(st:St):Kn
 | .s t=>(ao t st.sl).map .v
 | .m id=>(ao id st.mem).map .b
def Pm:Value→AV
 | .bool b=> .c (.B b)
 | .int k n=> .c (.I k n)
 |v=> .c (.V v)
def St.ev(st:St):Operand→Option AV
 | .tmp t=>ao t st.sl
 | .const v=>some (Pm v)
 | .func f=>some (.c (.V (.func (.func f) #[] #[])))
 | .global _=>none
def dQ(st:St):Operand→List (Key×Info)
 | .tmp t=>match ao t st.sl with
  |some v=>[(.s t,.v v)]
  |none=>[]
 |_=>[]
def agy(g:Gh)(v:Value):bP g (Pm v) v:=by cases v<;>exact ae
def gy{F:c8}{known:Nat→Prop}{σ:Kn}{g:Gh}{W:World}{a:Act}(h:bJ F known σ g W a)(st:St)(x:Operand)(v:AV)(he:st.ev x=some v)
  (hr:∀kx∈dQ st x,σ kx.1=some kx.2):bP g v (a.eval x):=by
 cases x with
 |tmp t=>
  simp only[St.ev]at he
  have:=hr (.s t,.v v) (by simp[dQ,he])
  exact h.gw t v this
 |const u=>simp only[St.ev,aO]at he;subst he;exact agy g u
 |func f=>simp only[St.ev,aO]at he;subst he;rfl
 |global _=>simp[St.ev]at he
def uR{F:c8}{known:Nat→Prop}{σ:Kn}{g:Gh}{W:World}{a:Act}(h:bJ F known σ g W a)(st:St)(x:Operand)(v:AV)(he:st.ev x=some v)
  (hr:∀kx∈dQ st x,σ kx.1=some kx.2):∀id∈v.aD,known id:=by
 cases x with
 |tmp t=>
  simp only[St.ev]at he
  have:=hr (.s t,.v v) (by simp[dQ,he])
  exact λid al=>h.aD _ _ this id al
 |const u=>simp only[St.ev,aO]at he;subst he;intro id al;cases u<;>simp[Pm,AV.aD,C.aD]at al
 |func f=>simp only[St.ev,aO]at he;subst he;intro id al;simp[AV.aD,C.aD]at al
 |global _=>simp[St.ev]at he
def uS{P:Program}{ops:Array Oper}{i:Nat}{o:Oper}{d:Nat}(ho:ops[i]? =some o)(hg:o.guard=none)(hd:o.dst=some d){n:Nat}(aV:d<n)
  (rd:List (Key×Info)) (x:AV) (new:Nat)
  (h:∀(F:c8)(known:Nat→Prop)(σ:Kn)(g:Gh)(W:World)(a:Act),bJ F known σ g W a→(∀kx∈rd,σ kx.1=some kx.2)→
   (∀id∈x.aD,known id)∧∃v,(execOp a.eval o).run P W= .ok (.value v) W∧bP g x v):
  mj P n ops i rd [(.s d,some (.v x))] new:=by
 intro F fW Q known σ g W a K dT aH bt hK
 obtain⟨hm,v,bZ,bU⟩:=h F known σ g W a aH bt
 unfold wpOp
 simp only[ho,Region.wanted,hg,cM]
 refine .inl ?_
 unfold Oper.wp
 rw[bZ]
 simp only[Oper.upon,hd]
 have cR:d<a.tmps.size:=qY
 refine hK g W _ (aH.step (chg:=λ_=>False) (g':=g) (W':=W) ⟨⟨cC.refl _,λ_ _=>rfl⟩,λ_ _ _=>rfl,aH.sub,bF _,λ_ _ _=>rfl,ae,ae,ae⟩ _ new dT sc aH.defers ?_ (λ_ h=>h.elim) ?_ ?_ ?_ ?_)
 ·intro t ht;have aN:d≠t:=by intro e;subst e;simp[a9]at ht
  simp[Act.put,nN aN]
 ·intro t u ht;simp only[a9]at ht;split at ht
  ·rename_i e;simp only[Key.s.injEq]at e;simp only[aO,Info.v.injEq]at ht;subst e;subst ht;simpa[Act.put,cR]using bU
  ·simp at ht
 ·intro id b ht;simp[a9]at ht
 ·intro k y ht;simp only[a9]at ht;split at ht
  ·simp only[aO]at ht;subst ht;exact λid al=> .inl (hm id al)
  ·simp at ht
 ·intro id y ht;simp[a9]at ht
def aA(n:Int):Prop:= -9223372036854775808≤n∧n≤9223372036854775807
inductive Pr where
 |t
 |i64 (n:Int)
 |Pn (b:Int)
 |le (a b:Int)
 |lt (a b:Int)
 |Kf (a b:Nat)
 |Bg (a b:Bool)
 |and (p q:Pr)
def Pr.h:Pr→Prop
 | .t=>True
 | .i64 n=>aA n
 | .Pn b=>b≠0
 | .le a b=>a≤b
 | .lt a b=>a<b
 | .Kf a b=>a<b
 | .Bg a b=>a=b
 | .and p q=>p.h∧q.h
def Pr.an:Pr→Pr→Pr
 | .t,q=>q
 |p,.t=>p
 |p,q=> .and p q
def Pr.DE{p q:Pr}(h:(p.an q).h):p.h∧q.h:=by
 unfold Pr.an at h;split at h
 ·exact⟨ah,h⟩
 ·exact⟨h,ah⟩
 ·exact h
instance:CoeSort Pr Prop:=⟨Pr.h⟩
def num(k:IntKind)(n:Int):C×Pr:=match k with
 | .i64=>(.I .i64 n,.i64 n)
 |k=>(.I k (k.wrap n),.t)
def DF(k:IntKind)(n:Int)(h:(num k n).2.h)(g:Gh):dk g (num k n).1 (.int k (k.wrap n)):=by cases k<;>first|exact rfl| (show Value.int .i64 _=_;rw[Go.IntWalk.i64_in n h])
def Gp(op:BinOp)(k:IntKind)(a b:Int):Option (C×Pr):=match op with
 | .add=>some (num k (a+b))
 | .sub=>some (num k (a-b))
 | .mul=>some (num k (a*b))
 | .quo=>some ((num k (a.tdiv b)).1,.and (.Pn b) (num k (a.tdiv b)).2)
 | .rem=>some (.I k (a.tmod b),.Pn b)
 | .and=>some (.I k (k.wrap (BitVec.ofInt k.bits a&&& BitVec.ofInt k.bits b).toNat),.t)
 | .or=>some (.I k (k.wrap (BitVec.ofInt k.bits a|||BitVec.ofInt k.bits b).toNat),.t)
 | .eql=>some (.B (a==b),.t)
 | .neq=>some (.B (a !=b),.t)
 | .lss=>some (.B (decide (a<b)),.t)
 | .leq=>some (.B (decide (a≤b)),.t)
 | .gtr=>some (.B (decide (a>b)),.t)
 | .geq=>some (.B (decide (a≥b)),.t)
 |_=>none
def DG(op:BinOp)(k:IntKind)(a b:Int):Option (C×Pr):=match op with
 | .shl=>some (.I k (k.wrap (a*2^(min b.toNat k.bits))),.le 0 b)
 | .shr=>some (.I k (a.fdiv (2^(min b.toNat k.bits))),.le 0 b)
 |_=>none
def Kg(op:BinOp):C→C→Option (C×Pr)
 | .I k a,.I k' b=>match op with
  | .shl=>DG .shl k a b
  | .shr=>DG .shr k a b
  |op=>if k=k' then Gp op k a b else none
 | .B a,.B b=>match op with
  | .eql=>some (.B (a==b),.t)
  | .neq=>some (.B (a !=b),.t)
  |_=>none
 |_,_=>none
def agz{P:Program}{op:BinOp}{k:IntKind}{a b:Int}{c:C}{pre:Pr}(h:Gp op k a b=some (c,pre))(hp:pre)(g:Gh)(t:TypeId)(W:World):
  ∃v,(binOp op t (.int k a) (.int k b)).run P W= .ok v W∧dk g c v:=by
 cases op<;>simp only[Gp,aO,cD,reduceCtorEq]at h
 case add=>have h':num k (a+b)=(c,pre):=h;refine⟨.int k (k.wrap (a+b)),by simp[binOp,Op.intArith,pure],?_⟩;have:=DF k (a+b) (by rw[h'];exact hp) g;rw[h']at this;exact this
 case sub=>have h':num k (a-b)=(c,pre):=h;refine⟨.int k (k.wrap (a-b)),by simp[binOp,Op.intArith,pure],?_⟩;have:=DF k (a-b) (by rw[h'];exact hp) g;rw[h']at this;exact this
 case mul=>have h':num k (a*b)=(c,pre):=h;refine⟨.int k (k.wrap (a*b)),by simp[binOp,Op.intArith,pure],?_⟩;have:=DF k (a*b) (by rw[h'];exact hp) g;rw[h']at this;exact this
 case quo=>
  obtain⟨rfl,rfl⟩:=h
  exact⟨.int k (k.wrap (a.tdiv b)),by simp[binOp,Op.intDiv,show b≠0 from(show b≠0∧_ from hp).1,pure],DF k _ (show b≠0∧_ from hp).2 g⟩
 case rem=>
  obtain⟨rfl,rfl⟩:=h
  exact⟨.int k (a.tmod b),by simp[binOp,Op.intDiv,show b≠0 from hp,pure],ae⟩
 case and=>obtain⟨rfl,rfl⟩:=h;exact⟨_,by simp[binOp,Op.intBits,pure],ae⟩
 case or=>obtain⟨rfl,rfl⟩:=h;exact⟨_,by simp[binOp,Op.intBits,pure],ae⟩
 case eql=>obtain⟨rfl,rfl⟩:=h;exact⟨_,by simp[binOp,Op.intCmp,pure],ae⟩
 case neq=>obtain⟨rfl,rfl⟩:=h;exact⟨_,by simp[binOp,Op.intCmp,pure],ae⟩
 case lss=>obtain⟨rfl,rfl⟩:=h;exact⟨_,by simp[binOp,Op.intCmp,pure],ae⟩
 case leq=>obtain⟨rfl,rfl⟩:=h;exact⟨_,by simp[binOp,Op.intCmp,pure],ae⟩
 case gtr=>obtain⟨rfl,rfl⟩:=h;exact⟨_,by simp[binOp,Op.intCmp,pure],ae⟩
 case geq=>obtain⟨rfl,rfl⟩:=h;exact⟨_,by simp[binOp,Op.intCmp,pure],ae⟩
def run_equal_bool{P:Program}{t:TypeId}(hu:P.underlying t=some .bool)(a b:Bool)(W:World):(Op.equal t (.bool a) (.bool b)).run P W= .ok (a==b) W:=by rw[Op.equal,show Op.maxDepth=9999+1 from ae,Op.equalIn];simp[run_underlying hu]
def WG(tt:TT)(t:Nat):Bool:=match ao t tt with
 |some ti=>(match ti.kind with| .bool=>true|_=>false)
 |none=>false
def Gq(tt:TT)(op:BinOp)(t:Nat)(x y:C):Option (C×Pr):=match x,y with
 | .B a,.B b=>if WG tt t then Kg op (.B a) (.B b)else none
 |x,y=>Kg op x y
def agA{P:Program}{tt:TT}(aT:cL P tt=true){op:BinOp}{t:TypeId}{x y:C}{c:C}{pre:Pr}(h:Gq tt op t x y=some (c,pre))(hp:pre)(g:Gh){vx vy:Value}(hx:dk g x vx)(hy:dk g y vy)(W:World)
  (ox oy:Operand):∃v,(do eqGuard op t ox oy vx vy;binOp op t vx vy:Sem Value).run P W= .ok v W∧dk g c v:=by
 cases x<;>cases y<;>simp only[Gq,Kg,reduceCtorEq]at h
 case B.B a b=>
  split at h
  ·rename_i hb;have hu:P.underlying t=some .bool:=by
    unfold WG at hb;cases hl:ao t tt with
    |none=>rw[hl]at hb;simp at hb
    |some ti=>
     rw[hl]at hb
     have:=(gL aT hl).kind
     cases hk:ti.kind<;>simp only[hk]at hb this<;>first|exact this| (simp at hb)
   simp only[dk]at hx hy;subst hx hy;cases op<;>simp only[aO,cD,reduceCtorEq]at h
   ·obtain⟨rfl,rfl⟩:=h;exact⟨.bool (a==b),by simp[eqGuard,binOp,run_equal_bool hu],ae⟩
   ·obtain⟨rfl,rfl⟩:=h;exact⟨.bool (a !=b),by simp[eqGuard,binOp,run_equal_bool hu,bne],ae⟩
  ·simp at h
 case I.I k a k' b=>
  simp only[dk]at hx hy
  subst hx hy
  have hq:∀op,(do eqGuard op t ox oy (.int k a) (.int k' b);binOp op t (.int k a) (.int k' b):Sem Value).run P W=(binOp op t (.int k a) (.int k' b)).run P W:=by intro op;cases op<;>simp[eqGuard]
  rw[hq]
  cases op
  case shl=>
   simp only[DG,aO,cD]at h
   obtain⟨rfl,rfl⟩:=h
   exact⟨_,by simp[binOp,Op.shift,Int.not_lt.2 (show(0:Int)≤_ from hp),pure],ae⟩
  case shr=>
   simp only[DG,aO,cD]at h
   obtain⟨rfl,rfl⟩:=h
   exact⟨_,by simp[binOp,Op.shift,Int.not_lt.2 (show(0:Int)≤_ from hp),pure],ae⟩
  all_goals
   simp only at h
   split at h
   ·rename_i e;subst e;exact agz h hp g t W
   ·simp at h
def Kh{P:Program}{t:TypeId}{b:Bool}(h:wz P t=some b)(W:World):(isAgg t).run P W= .ok b W:=by
 unfold wz at h;cases hu:P.underlying t with
 |none=>rw[hu]at h;simp at h
 |some d=>
  rw[hu]at h
  simp only[isAgg,Sem.run_bind,run_underlying hu,Result.andThen]
  cases d<;>simp at h<;>subst h<;>rfl
def run_sizeOf{P:Program}{t:TypeId}{i:TypeInfo}(h:P.info? t=some i)(W:World):(sizeOf t).run P W= .ok i.size W:=by simp[sizeOf,typeInfo,h]
def Ki{P:Program}:∀{l:List (Nat×Nat×Bool)}{fs:List Field},tG P l fs=true→∀{k:Nat}{off sz:Nat}{ag:Bool},l[k]? =some (off,sz,ag)→
  ∃f,fs[k]? =some f∧f.offset=off∧(∃i,P.info? f.type=some i∧i.size=sz)∧sz≠0∧wz P f.type=some ag
 |[],_,_,_,_,_,_,h=>by simp at h
 | (o,s,g)::r,[],hb,_,_,_,_,_=>by simp[tG]at hb
 | (o,s,g)::r,f::fs,hb,0,off,sz,ag,h=>by
  simp only[tG,eQ,decide_eq_true_eq,beq_iff_eq]at hb;simp only[AW,aO,cD]at h;obtain⟨rfl,rfl,rfl⟩:=h;obtain⟨⟨⟨⟨h1,h2⟩,h3⟩,h4⟩,_⟩:=hb;refine⟨f,by simp,h1,?_,by simpa using h3,h4⟩;cases hi:P.info? f.type with
  |none=>rw[hi]at h2;simp at h2
  |some i=>rw[hi]at h2;simp at h2;exact⟨i,ae,h2⟩
 | (o,s,g)::r,f::fs,hb,k+1,off,sz,ag,h=>by simp only[tG,eQ]at hb;simp only[C4]at h;obtain⟨f',h1,h2⟩:=Ki hb.2 h;exact⟨f',by simpa using h1,h2⟩
def o8(cs:List C)(off sz:Nat)(ag:Bool):Option AV:=
 if ag then(if off+sz≤cs.length then some (.a ((cs.drop off).take sz))else none)else(cs[off]?).map .c
def bS.get{g:Gh}:∀{cs:List C}{vs:List Value},bS g cs vs→∀{k:Nat}{c:C},cs[k]? =some c→∃v,vs[k]? =some v∧dk g c v
 |[],_,_,_,_,h=>by simp at h
 |_::_,_,hr,0,c,h=>by obtain⟨v,r,rfl,h1,_⟩:=hr;simp at h;subst h;exact⟨v,by simp,h1⟩
 |_::_,_,hr,k+1,c,h=>by obtain⟨v,r,rfl,_,h2⟩:=hr;simp at h;obtain⟨u,h3,h4⟩:=bS.get h2 h;exact⟨u,by simpa using h3,h4⟩
def bS.drop{g:Gh}:∀{cs:List C}{vs:List Value},bS g cs vs→∀k,bS g (cs.drop k) (vs.drop k)
 |[],_,h,k=>by simp only[bS]at h;subst h;simp[bS]
 |_::_,_,h,0=>by simpa using h
 |_::_,_,h,k+1=>by obtain⟨v,r,rfl,_,h2⟩:=h;simpa using bS.drop h2 k
def bS.take{g:Gh}:∀{cs:List C}{vs:List Value},bS g cs vs→∀k,bS g (cs.take k) (vs.take k)
 |[],_,h,k=>by simp only[bS]at h;subst h;simp[bS]
 |_::_,_,_,0=>by simp[bS]
 |_::_,_,h,k+1=>by obtain⟨v,r,rfl,h1,h2⟩:=h;simpa using⟨v,_,ae,h1,bS.take h2 k⟩
def Kj(cs:List C)(k:Nat):∀id∈cA (cs.drop k),id∈cA cs:=by
 induction cs generalizing k with
 |nil=>simp
 |cons c cs ih=>cases k with
  |zero=>simp
  |succ k=>intro id h;simp only[List.drop_succ_cons]at h;simp only[cA,bX];exact .inr (ih k id h)
def Kk(cs:List C)(k:Nat):∀id∈cA (cs.take k),id∈cA cs:=by
 induction cs generalizing k with
 |nil=>simp
 |cons c cs ih=>cases k with
  |zero=>simp[cA]
  |succ k=>
   intro id h
   simp only[List.take_succ_cons,cA,bX]at h⊢
   exact h.imp (λx=>x) (ih k id)
def agB{cs:List C}{k:Nat}{c:C}(h:cs[k]? =some c):∀id∈c.aD,id∈cA cs:=by
 induction cs generalizing k with
 |nil=>simp at h
 |cons d cs ih=>cases k with
  |zero=>simp at h;subst h;intro id al;simp[cA,al]
  |succ k=>simp at h;intro id al;simp only[cA,bX];exact .inr (ih h id al)
def WH{P:Program}{g:Gh}{cs:List C}{vs:List Value}(hr:bS g cs vs){off sz:Nat}{ag:Bool}{x:AV}(h:o8 cs off sz ag=some x){t:TypeId}(tH:wz P t=some ag)
  {i:TypeInfo} (hi:P.info? t=some i) (hs:i.size=sz) (W:World):∃v,(part t vs.toArray off).run P W= .ok v W∧bP g x v:=by
 unfold o8 at h
 cases ag with
 |true=>
  simp only[cM]at h
  split at h
  ·rename_i hle;simp only[aO]at h;subst h;have hlen:=hr.length;refine⟨.agg (vs.toArray.extract off (off+sz)),?_,⟨(vs.drop off).take sz,?_,(hr.drop off).take sz⟩⟩
   ·simp only[part,Sem.run_bind,Kh tH,Result.andThen,cM,run_sizeOf hi,hs];rfl
   ·congr 1;simp[List.extract_toArray,List.extract_eq_take_drop]
  ·simp at h
 |false=>
  simp only[mN,cP,cq]at h
  obtain⟨c,hc,rfl⟩:=h
  obtain⟨v,hv,bU⟩:=hr.get hc
  refine⟨v,?_,bU⟩
  simp only[part,Sem.run_bind,Kh tH,Result.andThen,mN,cP,JR,hv];rfl
def DH{cs:List C}{off sz:Nat}{ag:Bool}{x:AV}(h:o8 cs off sz ag=some x):∀id∈x.aD,id∈cA cs:=by
 unfold o8 at h;cases ag with
 |true=>
  simp only[cM]at h
  split at h
  ·simp only[aO]at h;subst h;exact λid al=>Kj _ _ id (Kk _ _ id al)
  ·simp at h
 |false=>
  simp only[mN,cP,cq]at h
  obtain⟨c,hc,rfl⟩:=h
  exact agB hc
def WI(c x y:Option AV):Option (AV×Pr):=match c with
 |some (.c (.B b))=>match x,y with
  |some (.c (.B p)),some (.c (.B q))=>some (.c (.B (cond b p q)),.t)
  |some v,none=>some (v,.Bg b true)
  |none,some v=>some (v,.Bg b false)
  |some v,some (.c .any)=>some (v,.Bg b true)
  |some (.c .any),some v=>some (v,.Bg b false)
  |_,_=>none
 |_=>none
def Po(op:UnOp)(x:AV):Option (AV×Pr):=match op,x with
 | .not,.c (.B b)=>some (.c (.B (!b)),.t)
 | .neg,.c (.I k n)=>some (.c (num k (0-n)).1,(num k (0-n)).2)
 |_,_=>none
def Pp(tt:TT)(src dst:Nat)(x:AV):Option (AV×Pr):=match ao src tt,ao dst tt,x with
 |some _,some ti,.c (.I _ n)=>(match ti.kind with
  | .int k=>some (.c (num k n).1,(num k n).2)
  |_=>none)
 |_,_,_=>none
def Pq(tt:TT)(t:Nat)(x:AV)(f:Nat):Option AV:=match x,ao t tt with
 | .a cs,some ti=>(match ti.kind,ti.fields[f]? with
  | .st,some (off,sz,ag)=>o8 cs off sz ag
  |_,_=>none)
 |_,_=>none
def Ps(tt:TT)(t:Nat)(x:AV)(f:Nat):Option AV:=match ao t tt with
 |some ti=>(match ti.kind,ti.fields[f]? with
  | .st,some (off,_,_)=>(match x with
   | .c (.P id o)=>some (.c (.P id (o+off)))
   | .c (.E T e o)=>some (.c (.E T e (o+off)))
   | .c (.Y id n i o)=>some (.c (.Y id n i (o+off)))
   |_=>none)
  |_,_=>none)
 |none=>none
def Pt(x:AV)(k:Nat):Option AV:=match x with
 | .t ss=>(match ss[k]? with
  |some (true,cs)=>some (.a cs)
  |some (false,[c])=>some (.c c)
  |_=>none)
 |_=>none
def wA(tt:TT)(t:Nat)(n:Nat):Bool:=match ao t tt with
 |some ti=>(match ti.kind with
  | .sl e=>(match ao e tt with|some ei=>ei.size=n|none=>false)
  |_=>false)
 |none=>false
def Pu(tt:TT)(t:Nat)(x i:AV):Option (AV×Pr):=match x,i with
 | .c (.S T xs),.c (.I _ k)=>if wA tt t T.n then some (.c (.E T (xs.getD k.toNat T.kU) 0),.and (.le 0 k) (.lt k xs.length))else none
 |_,_=>none
def Kl(tt:TT)(t:Nat)(x:AV):Option AV:=match ao t tt with
 |some ti=>(match ti.kind with
  | .sl _=>(match x with
   | .c (.S _ xs)=>some (.c (.I .i64 xs.length))
   | .c (.V (.slice none 0 0))=>some (.c (.I .i64 0))
   | .c (.W _ _ len)=>some (.c (.I .i64 len))
   |_=>none)
  |_=>none)
 |none=>none
def Ko(n:Nat):Option AV→Nat→Option (Nat×Pr)
 |none,d=>some (d,.t)
 |some (.c (.I _ k)),_=>some (k.toNat,.and (.le 0 k) (.le k n))
 |_,_=>none
def Pv(tt:TT)(t:Nat)(x:AV)(lo hi:Option AV):Option (AV×Pr):=match x with
 | .c (.S T xs)=>if wA tt t T.n then
   (match Ko xs.length hi xs.length with
   |some (h,p)=>(match Ko h lo 0 with
    |some (l,q)=>some (.c (.S T ((xs.take h).drop l)),.and p q)
    |none=>none)
   |none=>none)
  else none
 |_=>none
def Kp(mx:Bool):List AV→Option AV
 |[.c (.I k a),.c (.I k' b)]=>if k=k' then some (.c (.I k (if mx then(if b>a then b else a)else(if b<a then b else a))))else none
 |_=>none
def zz(st:St):Option Operand→Option (Option AV)
 |none=>some none
 |some x=>(st.ev x).map some
def Gr(tt:TT)(st:St):Op→Option (AV×Pr)
 | .move x=>(match st.ev x with|some v=>some (v,.t)|none=>none)
 | .assign x=>(match st.ev x with|some v=>some (v,.t)|none=>none)
 | .pick c x y=>WI (st.ev c) (st.ev x) (st.ev y)
 | .binOp op t x y _=>(match st.ev x,st.ev y with
  |some (.c a),some (.c b)=>(match Gq tt op t a b with|some (c,p)=>some (.c c,p)|none=>none)
  |_,_=>none)
 | .unOp op _ x=>(match st.ev x with|some v=>Po op v|none=>none)
 | .convert s d x=>(match st.ev x with|some v=>Pp tt s d v|none=>none)
 | .field t x f=>(match st.ev x with|some v=>(match Pq tt t v f with|some u=>some (u,.t)|none=>none)|none=>none)
 | .fieldAddr t x f=>(match st.ev x with|some v=>(match Ps tt t v f with|some u=>some (u,.t)|none=>none)|none=>none)
 | .extract x k=>(match st.ev x with|some v=>(match Pt v k with|some u=>some (u,.t)|none=>none)|none=>none)
 | .indexAddr t x i=>(match st.ev x,st.ev i with|some v,some w=>Pu tt t v w|_,_=>none)
 | .slice t x lo hi none=>(match st.ev x,zz st lo,zz st hi with|some v,some l,some h=>Pv tt t v l h|_,_,_=>none)
 | .call ⟨.builtin .len,args,di⟩=>(match args.toList,di.toList with
  |[x],[t]=>(match st.ev x with|some v=>(match Kl tt t v with|some u=>some (u,.t)|none=>none)|none=>none)
  |_,_=>none)
 | .call ⟨.builtin .max,args,_⟩=>(match args.toList with
  |[x,y]=>(match st.ev x,st.ev y with|some v,some w=>(match Kp true [v,w]with|some u=>some (u,.t)|none=>none)|_,_=>none)
  |_=>none)
 | .call ⟨.builtin .min,args,_⟩=>(match args.toList with
  |[x,y]=>(match st.ev x,st.ev y with|some v,some w=>(match Kp false [v,w]with|some u=>some (u,.t)|none=>none)|_,_=>none)
  |_=>none)
 |_=>none
def o9(st:St)(op:Op):List (Key×Info):=op.operands.toList.flatMap (dQ st)
section
variable{P:Program}{tt:TT}{g:Gh}{W:World}
def agC{op:UnOp}{x:AV}{y:AV}{p:Pr}(h:Po op x=some (y,p))(hp:p){v:Value}(hv:bP g x v):(∃u,(Op.unary op v).run P W= .ok u W∧bP g y u)∧∀id∈y.aD,id∈x.aD:=by
 unfold Po at h;split at h
 ·simp only[aO,cD]at h;obtain⟨rfl,rfl⟩:=h;simp only[bP,dk]at hv;subst hv;exact⟨⟨_,by simp[Op.unary,pure],ae⟩,by simp[AV.aD,C.aD]⟩
 ·rename_i k n;simp only[aO,cD]at h;obtain⟨rfl,rfl⟩:=h;simp only[bP,dk]at hv;subst hv;refine⟨⟨.int k (k.wrap (0-n)),by simp[Op.unary,Op.intArith,pure],DF k _ hp g⟩,?_⟩;intro id al;cases k<;>simp[num,AV.aD,C.aD]at al
 ·simp at h
def Gs(k:IntKind)(n:Int):(num k n).1.aD=[]:=by cases k<;>rfl
def agD(aT:cL P tt=true){s d:Nat}{x y:AV}{p:Pr}(h:Pp tt s d x=some (y,p))(hp:p){v:Value}(hv:bP g x v):(∃u,(convert s d v).run P W= .ok u W∧bP g y u)∧y.aD=[]:=by
 unfold Pp at h;split at h
 ·rename_i ti' ti k' n hs hd;split at h
  ·rename_i k hk;simp only[aO,cD]at h;obtain⟨rfl,rfl⟩:=h;simp only[bP,dk]at hv;subst hv;have h2:=(gL aT hd).kind;rw[hk]at h2;have h1:∃ds,P.underlying s=some ds:=by
    have:=(gL aT hs).agg;unfold wz at this;cases hu:P.underlying s with
    |none=>rw[hu]at this;simp at this
    |some ds=>exact⟨ds,ae⟩
   obtain⟨ds,h1⟩:=h1;refine⟨⟨.int k (k.wrap n),?_,DF k n hp g⟩,Gs k n⟩;simp only[convert,Sem.run_bind,run_underlying h1,run_underlying h2,Result.andThen];cases ds<;>rfl
  ·simp at h
 ·simp at h
def agE(aT:cL P tt=true){t f:Nat}{x y:AV}(h:Pq tt t x f=some y){v:Value}(hv:bP g x v):(∃u,(Instr.field t v f).run P W= .ok u W∧bP g y u)∧∀id∈y.aD,id∈x.aD:=by
 unfold Pq at h;split at h
 ·rename_i cs ti hl;split at h
  ·rename_i off sz ag hk hf;have h2:=(gL aT hl).kind;rw[hk]at h2;obtain⟨fs,hu,uT⟩:=h2;obtain⟨fd,Bh,rfl,⟨i,hi,cR⟩,_,tH⟩:=Ki uT hf;obtain⟨vs,rfl,hr⟩:=hv;obtain⟨u,bZ,bU⟩:=WH (W:=W) hr h tH hi cR;refine⟨⟨u,?_,bU⟩,DH h⟩;have Pw:fs[f]? =some fd:=by simpa using Bh
   simp only[Instr.field,Sem.run_bind,run_underlying hu,Result.andThen,Pw,asAgg];simpa using bZ
  ·simp at h
 ·simp at h
def p5(b o n:Nat):(Addr.mk b o none).add n=⟨b,o+n,none⟩:=by
 unfold Addr.add;split
 ·rename_i e;subst e;rfl
 ·rfl
def agF(aT:cL P tt=true){t f:Nat}{x y:AV}(h:Ps tt t x f=some y){v:Value}(hv:bP g x v):(∃u,(Instr.fieldAt t v f).run P W= .ok u W∧bP g y u)∧∀id∈y.aD,id∈x.aD:=by
 unfold Ps at h;split at h
 ·rename_i ti hl;split at h
  ·rename_i off sz ag hk hf;have h2:=(gL aT hl).kind;rw[hk]at h2;obtain⟨fs,hu,uT⟩:=h2;obtain⟨fd,Bh,rfl,⟨i,hi,cR⟩,hnz,tH⟩:=Ki uT hf;have Pw:fs[f]? =some fd:=by simpa using Bh
   have bZ:∀b o,(Instr.fieldAt t (.pointer (some ⟨b,o,none⟩)) f).run P W= .ok (.pointer (some ⟨b,o+fd.offset,none⟩)) W:=by intro b o;simp only[Instr.fieldAt,Sem.run_bind,run_underlying hu,Result.andThen,Pw,Instr.sureAddr,fieldPlace,run_sizeOf hi];simp[cR,hnz,p5]
   split at h
   ·simp only[aO]at h;subst h;obtain⟨b,hb,rfl⟩:=hv;exact⟨⟨_,bZ _ _,b,hb,ae⟩,by simp[AV.aD,C.aD]⟩
   ·simp only[aO]at h;subst h;obtain⟨b,o,cs,rfl,h3,h4⟩:=hv;exact⟨⟨_,bZ _ _,b,o,cs,by simp[tA],h3,h4⟩,by simp[AV.aD,C.aD]⟩
   ·simp only[aO]at h;subst h;obtain⟨b,l,c,hb,rfl⟩:=hv;exact⟨⟨_,bZ _ _,b,l,c,hb,by simp[tA]⟩,by simp[AV.aD,C.aD]⟩
   ·simp at h
  ·simp at h
 ·simp at h
def dt.get{g:Gh}:∀{ss:List (Bool×List C)}{vs:List Value},dt g ss vs→∀{k:Nat}{s:Bool×List C},ss[k]? =some s→∃v,vs[k]? =some v∧Bd g s v
 |[],_,_,_,_,h=>by simp at h
 |_::_,_,hr,0,c,h=>by obtain⟨v,r,rfl,h1,_⟩:=hr;simp at h;subst h;exact⟨v,by simp,h1⟩
 |_::_,_,hr,k+1,c,h=>by obtain⟨v,r,rfl,_,h2⟩:=hr;simp at h;obtain⟨u,h3,h4⟩:=dt.get h2 h;exact⟨u,by simpa using h3,h4⟩
def WJ{cs:List (Bool×List C)}{k:Nat}{c:Bool×List C}(h:cs[k]? =some c):∀id∈cA c.2,id∈fE cs:=by
 induction cs generalizing k with
 |nil=>simp at h
 |cons d cs ih=>cases k with
  |zero=>simp at h;subst h;intro id al;simp[fE,al]
  |succ k=>simp at h;intro id al;simp only[fE,bX];exact .inr (ih h id al)
def agH{x y:AV}{k:Nat}(h:Pt x k=some y){v:Value}(hv:bP g x v):(∃u,(Instr.extract v k).run P W= .ok u W∧bP g y u)∧∀id∈y.aD,id∈x.aD:=by
 unfold Pt at h;split at h
 ·rename_i ss;obtain⟨vs,rfl,hr⟩:=hv;split at h
  ·rename_i cs hs;simp only[aO]at h;subst h;obtain⟨u,hu,bU⟩:=hr.get hs;exact⟨⟨u,by simp[Instr.extract,hu,pure],bU⟩,WJ hs⟩
  ·rename_i c hs;simp only[aO]at h;subst h;obtain⟨u,hu,bU⟩:=hr.get hs;exact⟨⟨u,by simp[Instr.extract,hu,pure],bU⟩,λid al=>WJ hs id (by simp[cA];exact al)⟩
  ·simp at h
 ·simp at h
def DI(aT:cL P tt=true){t n:Nat}(h:wA tt t n=true):∃e i,P.underlying t=some (.slice e)∧P.info? e=some i∧i.size=n:=by
 unfold wA at h;split at h
 ·rename_i ti hl;split at h
  ·rename_i e hk;split at h
   ·rename_i ei he;have h2:=(gL aT hl).kind;rw[hk]at h2;obtain⟨i,hi,hs,_⟩:=(gL aT he).info;exact⟨e,i,h2,hi,by rw[hs];simpa using h⟩
   ·simp at h
  ·simp at h
 ·simp at h
def agI(aT:cL P tt=true){t:Nat}{x i y:AV}{p:Pr}(h:Pu tt t x i=some (y,p))(hp:p){v u:Value}(hv:bP g x v)(hu:bP g i u):(∃z,(Instr.indexAt t v u).run P W= .ok z W∧bP g y z)∧y.aD=[]:=by
 unfold Pu at h;split at h
 ·rename_i T xs k' k;split at h
  ·rename_i dc;simp only[aO,cD]at h;obtain⟨rfl,rfl⟩:=h;obtain⟨e,i,mT,hi,hs⟩:=DI aT dc;simp only[bP,dk]at hu;subst hu;obtain⟨a,cap,rfl,h1,h2,h3⟩:=hv;obtain⟨jk,iJ⟩:=(show 0≤k∧k<(xs.length:Int)from hp);have bh:k.toNat<xs.length:=af;rcases h3 with h3|⟨b,off,rfl,h3⟩
   ·subst h3;simp at bh
   ·obtain⟨cs,hl,hr,hc⟩:=h3 k.toNat bh;refine⟨⟨.pointer (some ⟨b,off+k.toNat*T.n,none⟩),?_,b,off+k.toNat*T.n,cs,ae,?_,?_⟩,ae⟩
    ·have sH:(0≤k∧k<(xs.length:Int)):=⟨jk,iJ⟩;simp only[Instr.indexAt,asIntOf,Sem.run_bind,run_underlying mT,Result.andThen];simp[sH,run_sizeOf hi,hs,p5]
    ·rw[aY,ct bh];exact hr
    ·intro j hj;have:=hc j hj;rw[this]
  ·simp at h
 ·simp at h
def agJ(aT:cL P tt=true){t r:Nat}{x y:AV}(h:Kl tt t x=some y){v:Value}(hv:bP g x v):(∃u,(Builtin.len_ #[t] r #[v]).run P W= .ok u W∧bP g y u)∧y.aD=[]:=by
 unfold Kl at h;split at h
 ·rename_i ti hl;split at h
  ·rename_i e hk;have h2:=(gL aT hl).kind;rw[hk]at h2;split at h
   ·rename_i T xs;simp only[aO]at h;subst h;obtain⟨a,cap,rfl,_⟩:=hv;exact⟨⟨_,by simp[Builtin.len_,run_underlying h2,goInt,Sem.run,pure],ae⟩,ae⟩
   ·simp only[aO]at h;subst h;simp only[bP,dk]at hv;subst hv;exact⟨⟨_,by simp[Builtin.len_,run_underlying h2,goInt,Sem.run,pure],ae⟩,ae⟩
   ·simp only[aO]at h;subst h;obtain⟨b,c,_,rfl,_⟩:=hv;exact⟨⟨_,by simp[Builtin.len_,run_underlying h2,goInt,Sem.run,pure],ae⟩,ae⟩
   ·simp at h
  ·simp at h
 ·simp at h
def WK{mx:Bool}{l:List AV}{y:AV}(h:Kp mx l=some y){v w:Value}{x1 x2:AV}(hl:l=[x1,x2])(hv:bP g x1 v)(hw:bP g x2 w)(t:Array TypeId)(r:TypeId):
  (∃u,(if mx then Builtin.max_ t r #[v,w]else Builtin.min_ t r #[v,w]).run P W= .ok u W∧bP g y u)∧y.aD=[]:=by
 unfold Kp at h
 split at h
 ·rename_i k a k' b;split at h
  ·rename_i e;subst e;simp only[aO]at h;subst h;simp only[OV,and_true]at hl;obtain⟨rfl,rfl⟩:=hl;simp only[bP,dk]at hv hw;subst hv hw;cases mx
   ·exact⟨⟨_,by simp[Builtin.min_,Builtin.min2,Sem.run,pure],ae⟩,ae⟩
   ·exact⟨⟨_,by simp[Builtin.max_,Builtin.max2,Sem.run,pure],ae⟩,ae⟩
  ·simp at h
 ·simp at h
end
section
variable{P:Program}{tt:TT}{g:Gh}{W:World}
def zA(g:Gh):Option AV→Option Value→Prop
 |none,none=>True
 |some a,some u=>bP g a u
 |_,_=>False
def agK{op:BinOp}{t:Nat}{x y c:C}{p:Pr}(h:Gq tt op t x y=some (c,p)):c.aD=[]:=by
 cases x<;>cases y<;>simp only[Gq,Kg,reduceCtorEq]at h;case B.B a b=>
  split at h
  ·cases op<;>simp only[aO,cD,reduceCtorEq]at h;all_goals (obtain⟨rfl,_⟩:=h;rfl)
  ·simp at h
 case I.I k a k' b=>
  have hb:∀op,Gp op k a b=some (c,p)→c.aD=[]:=by
   intro op h;cases op<;>simp only[Gp,aO,reduceCtorEq]at h;case add=>have:=az Prod.fst h;simp only at this;rw[←this];exact Gs _ _
   case sub=>have:=az Prod.fst h;simp only at this;rw[←this];exact Gs _ _
   case mul=>have:=az Prod.fst h;simp only at this;rw[←this];exact Gs _ _
   all_goals
    simp only[cD]at h
    obtain⟨rfl,_⟩:=h
    first|rfl|exact Gs _ _
  cases op
  case shl=>simp only[DG,aO,cD]at h;obtain⟨rfl,_⟩:=h;rfl
  case shr=>simp only[DG,aO,cD]at h;obtain⟨rfl,_⟩:=h;rfl
  all_goals
   simp only at h
   split at h
   ·exact hb _ h
   ·simp at h
def Px{n:Nat}{x:Option AV}{d h:Nat}{p:Pr}(hb:Ko n x d=some (h,p))(hp:p){v:Option Value}(hv:zA g x v)
  (m:Nat) (hm:n≤m) (code:BoundsCode):
  (x=none∧v=none∧h=d)∨(∃u,v=some u∧h≤n∧(Instr.sliceBound u m code).run P W= .ok h W):=by
 unfold Ko at hb
 split at hb
 ·simp only[aO,cD]at hb;cases v with
  |none=>exact .inl ⟨ae,ae,hb.1.symm⟩
  |some u=>exact hv.elim
 ·rename_i k' k;simp only[aO,cD]at hb;obtain⟨rfl,rfl⟩:=hb;cases v with
  |none=>exact hv.elim
  |some u=>
   have j7:u= .int k' k:=hv
   subst j7
   have Py:0≤k∧k≤(n:Int):=hp
   refine .inr ⟨_,ae,by omega,?_⟩
   have:0≤k∧k≤(m:Int):=⟨Py.1,by omega⟩
   simp[Instr.sliceBound,asIntOf,this,Sem.run,pure]
 ·simp at hb
def nn.sub{α:Type}{R:α→List Value→Prop}{n:Nat}{H:FH}{xs:List α}{a:Option Addr}{cap:Nat}(h:nn R n H xs (.slice a xs.length cap)){l hh:Nat}(h1:l≤hh)(h2:hh≤xs.length):
  nn R n H ((xs.take hh).drop l) (.slice (if cap=l then a else a.map (·.add (l*n))) (hh-l) (cap-l)):=by
 obtain⟨a',Pz,e,h3,h4,h5⟩:=h
 simp only[Value.slice.injEq,true_and]at e
 obtain⟨rfl,rfl⟩:=e
 have hlen:((xs.take hh).drop l).length=hh-l:=cO
 refine⟨_,cap-l,by rw[hlen],by omega,?_,?_⟩
 ·rw[hlen];exact dG (dY n af) h4
 ·by_cases hz:hh=l
  ·left;apply ik;omega
  ·right;rcases h5 with h5|⟨b,off,rfl,h5⟩
   ·subst h5;simp at h2;omega
   ·refine⟨b,off+l*n,?_,λi hi=>?_⟩
    ·rw[aq af];simp[p5]
    ·obtain⟨cs,hl,hr,hc⟩:=h5 (l+i) af;refine⟨cs,hl,?_,λj hj=>?_⟩
     ·simpa using hr
     ·have:=hc j hj;rw[show off+l*n+i*n+j=off+(l+i)*n+j by rw[fP];omega];exact this
def agL(aT:cL P tt=true){t:Nat}{x y:AV}{lo hi:Option AV}{p:Pr}(h:Pv tt t x lo hi=some (y,p))(hp:p){v:Value}{vl vh:Option Value}(hv:bP g x v)
  (hl:zA g lo vl) (hh:zA g hi vh):
  (∃z,(Instr.sliceAt t v vl vh none).run P W= .ok z W∧bP g y z)∧y.aD=[]:=by
 unfold Pv at h
 split at h
 ·rename_i T xs;split at h
  ·rename_i dc;obtain⟨e,i,mT,xM,hs⟩:=DI aT dc;split at h
   ·rename_i nv p1 jl;split at h
    ·rename_i l p2 dK;simp only[aO,cD]at h;obtain⟨rfl,rfl⟩:=h;obtain⟨jk,iJ⟩:=hp;have j7:=hv;obtain⟨a,cap,rfl,h1,h2,h3⟩:=j7;have Gt:=Px (P:=P) (W:=W) jl jk hh cap h1 (.sliceAcap);have hle:nv≤xs.length:=by rcases Gt with⟨_,_,e⟩|⟨_,_,h,_⟩<;>omega
     have Gu:=Px (P:=P) (W:=W) dK iJ hl nv (bF _) (.sliceB);have Gv:l≤nv:=by rcases Gu with⟨_,_,e⟩|⟨_,_,h,_⟩<;>omega
     have bU:=nn.sub hv Gv hle;refine⟨⟨_,?_,bU⟩,ae⟩;have nT:(Instr.sliceBounds true xs.length cap vl vh none).run P W= .ok (l,nv,cap) W:=by rcases Gt with⟨_,rfl,rfl⟩|⟨u,rfl,_,nU⟩<;>rcases Gu with⟨_,rfl,rfl⟩|⟨u',rfl,_,p6⟩<;>simp[Instr.sliceBounds, *]
     simp only[Instr.sliceAt,Sem.run_bind,run_underlying mT,Result.andThen,Instr.slice,nT,run_sizeOf xM,hs];rfl
    ·simp at h
   ·simp at h
  ·simp at h
 ·simp at h
def Gw{F:c8}{known:Nat→Prop}{σ:Kn}{a:Act}(h:bJ F known σ g W a)(st:St)(x:Option Operand)(v:Option AV)(he:zz st x=some v)
  (hr:∀o,x=some o→∀kx∈dQ st o,σ kx.1=some kx.2):zA g v (x.map a.eval):=by
 cases x with
 |none=>simp only[zz,aO]at he;subst he;trivial
 |some o=>
  simp only[zz,cq]at he
  obtain⟨u,hu,rfl⟩:=he
  exact gy h st o u hu (hr o ae)
def PA(aT:cL P tt=true){ops:Array Oper}{i:Nat}{o:Oper}{d:Nat}(ho:ops[i]? =some o)(hg:o.guard=none)(hd:o.dst=some d){n:Nat}(aV:d<n)
  {st:St} {x:AV} {p:Pr} (he:Gr tt st o.op=some (x,p)) (hp:p) (new:Nat):mj P n ops i (o9 st o.op) [(.s d,some (.v x))] new:=by
 refine uS ho hg hd aV _ x new ?_
 intro F known σ g W a aH bt
 have dR:∀y∈o.op.operands,∀u,st.ev y=some u→bP g u (a.eval y)∧∀id∈u.aD,known id:=by
  intro y hy u hu;have hr:∀kx∈dQ st y,σ kx.1=some kx.2:=λkx aS=>bt kx (jE.2 ⟨y,by simpa using hy,aS⟩)
  exact⟨gy aH st y u hu hr,uR aH st y u hu hr⟩
 have fG:∀y∈o.op.operands,∀kx∈dQ st y,σ kx.1=some kx.2:=λy hy kx aS=>bt kx (jE.2 ⟨y,by simpa using hy,aS⟩)
 obtain⟨od,op,PC,ar8,ar9,ogd⟩:=o
 simp only at he dR fG
 unfold Gr at he
 split at he
 ·rename_i y;split at he
  ·rename_i v hv;simp only[aO,cD]at he;obtain⟨rfl,rfl⟩:=he;have:=dR y iF _ hv;exact⟨this.2,_,by simp[execOp,pure],this.1⟩
  ·simp at he
 ·rename_i y;split at he
  ·rename_i v hv;simp only[aO,cD]at he;obtain⟨rfl,rfl⟩:=he;have:=dR y iF _ hv;exact⟨this.2,_,by simp[execOp,pure],this.1⟩
  ·simp at he
 ·rename_i c y z;unfold WI at he;split at he
  ·rename_i b hb;have cw:=(dR c iF _ hb).1;simp only[bP,dk]at cw;split at he
   ·rename_i p1 q1 hy hz;simp only[aO,cD]at he;obtain⟨rfl,rfl⟩:=he;have h1:=(dR y iF _ hy).1;have h2:=(dR z iF _ hz).1;simp only[bP,dk]at h1 h2;refine⟨by simp[AV.aD,C.aD],.bool (cond b p1 q1),?_,ae⟩;cases b<;>simp[execOp,cw,asBool,h1,h2,Sem.run,pure]
   ·rename_i v hy hz;simp only[aO,cD]at he;obtain⟨rfl,rfl⟩:=he;have h1:=dR y iF _ hy;simp only[Pr.h]at hp;subst hp;exact⟨h1.2,_,by simp[execOp,cw,asBool,Sem.run,pure],h1.1⟩
   ·rename_i v hy hz;simp only[aO,cD]at he;obtain⟨rfl,rfl⟩:=he;have h1:=dR z iF _ hz;simp only[Pr.h]at hp;subst hp;exact⟨h1.2,_,by simp[execOp,cw,asBool,Sem.run,pure],h1.1⟩
   ·rename_i v hy hz;simp only[aO,cD]at he;obtain⟨rfl,rfl⟩:=he;have h1:=dR y iF _ hy;simp only[Pr.h]at hp;subst hp;exact⟨h1.2,_,by simp[execOp,cw,asBool,Sem.run,pure],h1.1⟩
   ·rename_i v hy hz;simp only[aO,cD]at he;obtain⟨rfl,rfl⟩:=he;have h1:=dR z iF _ hz;simp only[Pr.h]at hp;subst hp;exact⟨h1.2,_,by simp[execOp,cw,asBool,Sem.run,pure],h1.1⟩
   ·simp at he
  ·simp at he
 ·rename_i op t y z _;split at he
  ·rename_i u w hu hw;split at he
   ·rename_i c q hc;simp only[aO,cD]at he;obtain⟨rfl,rfl⟩:=he;have h1:=(dR y iF _ hu).1;have h2:=(dR z iF _ hw).1;obtain⟨v,bZ,bU⟩:=agA (P:=P) aT hc hp g h1 h2 W y z;refine⟨?_,v,?_,bU⟩
    ·intro id al;simp only[AV.aD,agK hc]at al;cases al
    ·simp only[execOp,Sem.run_bind];rw[Sem.run_bind]at bZ;simp only[bZ];simp[Result.andThen,pure]
   ·simp at he
  ·simp at he
 ·rename_i op t y;split at he
  ·rename_i v hv;have h1:=dR y iF _ hv;obtain⟨⟨u,bZ,bU⟩,hm⟩:=agC (P:=P) (W:=W) he hp h1.1;exact⟨λid al=>h1.2 id (hm id al),u,by simp[execOp,bZ,Sem.run,pure],bU⟩
  ·simp at he
 ·rename_i s d' y;split at he
  ·rename_i v hv;have h1:=dR y iF _ hv;obtain⟨⟨u,bZ,bU⟩,hm⟩:=agD (P:=P) (W:=W) aT he hp h1.1;exact⟨λid al=>FK,u,by simp[execOp,bZ,Sem.run,pure],bU⟩
  ·simp at he
 ·rename_i t y f;split at he
  ·rename_i v hv;split at he
   ·rename_i u hu;simp only[aO,cD]at he;obtain⟨rfl,rfl⟩:=he;have h1:=dR y iF _ hv;obtain⟨⟨u,bZ,bU⟩,hm⟩:=agE (P:=P) (W:=W) aT hu h1.1;exact⟨λid al=>h1.2 id (hm id al),u,by simp[execOp,bZ,Sem.run,pure],bU⟩
   ·simp at he
  ·simp at he
 ·rename_i t y f;split at he
  ·rename_i v hv;split at he
   ·rename_i u hu;simp only[aO,cD]at he;obtain⟨rfl,rfl⟩:=he;have h1:=dR y iF _ hv;obtain⟨⟨u,bZ,bU⟩,hm⟩:=agF (P:=P) (W:=W) aT hu h1.1;exact⟨λid al=>h1.2 id (hm id al),u,by simp[execOp,bZ,Sem.run,pure],bU⟩
   ·simp at he
  ·simp at he
 ·rename_i y k;split at he
  ·rename_i v hv;split at he
   ·rename_i u hu;simp only[aO,cD]at he;obtain⟨rfl,rfl⟩:=he;have h1:=dR y iF _ hv;obtain⟨⟨u,bZ,bU⟩,hm⟩:=agH (P:=P) (W:=W) hu h1.1;exact⟨λid al=>h1.2 id (hm id al),u,by simp[execOp,bZ,Sem.run,pure],bU⟩
   ·simp at he
  ·simp at he
 ·rename_i t y z;split at he
  ·rename_i v w hv hw;have h1:=dR y iF _ hv;have h2:=dR z iF _ hw;obtain⟨⟨u,bZ,bU⟩,hm⟩:=agI (P:=P) (W:=W) aT he hp h1.1 h2.1;exact⟨λid al=>FK,u,by simp[execOp,bZ,Sem.run,pure],bU⟩
  ·simp at he
 ·rename_i t y lo hi;split at he
  ·rename_i v l h hv hl hh;have h1:=dR y iF _ hv;have h2:=Gw aH st lo l hl (λq hq=>fG q JD);have h3:=Gw aH st hi h hh (λq hq=>fG q JD);obtain⟨⟨u,bZ,bU⟩,hm⟩:=agL (P:=P) (W:=W) aT he hp h1.1 h2 h3;exact⟨λid al=>FK,u,by simp[execOp,bZ,Sem.run,pure],bU⟩
  ·simp at he
 ·rename_i args di;split at he
  ·rename_i y t ha ht;have kv:args= #[y]:=JE;have Gx:di= #[t]:=VB;subst kv Gx;split at he
   ·rename_i v hv;split at he
    ·rename_i u hu;simp only[aO,cD]at he;obtain⟨rfl,rfl⟩:=he;have h1:=dR y FM _ hv;obtain⟨⟨u,bZ,bU⟩,hm⟩:=agJ (P:=P) (W:=W) (r:=PC) aT hu h1.1;exact⟨λid al=>FK,u,by simp[execOp,resolve,invoke,builtin,bZ,Sem.run,pure],bU⟩
    ·simp at he
   ·simp at he
  ·simp at he
 ·rename_i args di;split at he
  ·rename_i y z ha;have kv:args= #[y,z]:=JE;subst kv;split at he
   ·rename_i v w hv hw;split at he
    ·rename_i u hu;simp only[aO,cD]at he;obtain⟨rfl,rfl⟩:=he;have h1:=dR y FM _ hv;have h2:=dR z FM _ hw;obtain⟨⟨u,bZ,bU⟩,hm⟩:=WK (P:=P) (W:=W) hu ae h1.1 h2.1 di PC;simp only[cM]at bZ;exact⟨λid al=>FK,u,by simp[execOp,resolve,invoke,builtin,bZ,Sem.run,pure],bU⟩
    ·simp at he
   ·simp at he
  ·simp at he
 ·rename_i args di;split at he
  ·rename_i y z ha;have kv:args= #[y,z]:=JE;subst kv;split at he
   ·rename_i v w hv hw;split at he
    ·rename_i u hu;simp only[aO,cD]at he;obtain⟨rfl,rfl⟩:=he;have h1:=dR y FM _ hv;have h2:=dR z FM _ hw;obtain⟨⟨u,bZ,bU⟩,hm⟩:=WK (P:=P) (W:=W) hu ae h1.1 h2.1 di PC;simp only[mN,cP]at bZ;exact⟨λid al=>FK,u,by simp[execOp,resolve,invoke,builtin,bZ,Sem.run,pure],bU⟩
    ·simp at he
   ·simp at he
  ·simp at he
 ·simp at he
end
section
variable{P:Program}{tt:TT}{g:Gh}{W:World}
def run_load{a:Addr}{v:Value}(h:W.cell? a=some v):(load a).run P W= .ok v W:=by simp[load,Sem.run,h]
def run_loadCellsFrom(b:Nat):∀(n i off:Nat)(vs:List Value)(acc:Array Value),vs.length=n→(∀j(hj:j<vs.length),W.cell? ⟨b,off+i+j,none⟩=some vs[j])→
  (loadCellsFrom ⟨b,off,none⟩ i n acc).run P W= .ok (acc++vs.toArray) W
 |0,i,off,vs,acc,hl,_=>by have:vs=[]:=ik hl;subst this;simp[loadCellsFrom,pure]
 |n+1,i,off,[],acc,hl,_=>by simp at hl
 |n+1,i,off,v::vs,acc,hl,hc=>by have h0:=hc 0 be;simp only[j6,xx]at h0;have ih:=run_loadCellsFrom b n (i+1) off vs (acc.push v) FN (λj hj=>by have:=hc (j+1) cO;simp only[FY]at this;rw[show off+(i+1)+j=off+i+(j+1)by omega];exact this);simp only[loadCellsFrom,p5,Sem.run_bind,run_load h0,Result.andThen,ih];congr 1;apply tB;simp
def agM{t:TypeId}{ag:Bool}(tH:wz P t=some ag){i:TypeInfo}(hi:P.info? t=some i)(b off:Nat)(vs:List Value)(hl:vs.length=i.size)(iK:ag=false→i.size=1)
  (hc:∀j(hj:j<vs.length),W.cell? ⟨b,off+j,none⟩=some vs[j]):∃v,(loadVar t ⟨b,off,none⟩).run P W= .ok v W∧((ag=true∧v= .agg vs.toArray)∨(ag=false∧vs=[v])):=by
 cases ag with
 |true=>
  refine⟨.agg vs.toArray,?_,.inl ⟨ae,ae⟩⟩
  simp only[loadVar,Sem.run_bind,Kh tH,Result.andThen,cM,run_sizeOf hi,loadCells]
  rw[run_loadCellsFrom b i.size 0 off vs #[] hl (by simpa using hc)]
  simp[pure]
 |false=>
  have h1:vs.length=1:=by rw[hl];exact iK ae
  match vs,h1 with
  |[v],_=>
   refine⟨v,?_,.inr ⟨ae,ae⟩⟩
   have:=hc 0 be
   simp only[j6,xx]at this
   simp only[loadVar,Sem.run_bind,Kh tH,Result.andThen,mN,cP,run_load this]
def p7(tt:TT)(t:Nat):Option (Nat×Bool):=match ao t tt with
 |some ti=>if ti.agg then some (ti.size,true)else if ti.size=1 then some (1,false)else none
 |none=>none
def Gy(aT:cL P tt=true){t sz:Nat}{ag:Bool}(h:p7 tt t=some (sz,ag)):wz P t=some ag∧(∃i,P.info? t=some i∧i.size=sz)∧(ag=false→sz=1):=by
 unfold p7 at h;split at h
 ·rename_i ti hl;have ho:=gL aT hl;obtain⟨i,hi,hs,_⟩:=ho.info;split at h
  ·rename_i ha;simp only[aO,cD]at h;obtain⟨rfl,rfl⟩:=h;exact⟨by rw[ho.agg,ha],⟨i,hi,hs⟩,by simp⟩
  ·rename_i ha;split at h
   ·rename_i h1;simp only[aO,cD]at h;obtain⟨rfl,rfl⟩:=h;exact⟨by rw[ho.agg];simpa using ha,⟨i,hi,by rw[hs];exact h1⟩,λ_=>rfl⟩
   ·simp at h
 ·simp at h
def Gz(aT:cL P tt=true){t sz:Nat}{ag:Bool}(h:p7 tt t=some (sz,ag)){cs:List C}{vs:List Value}(hr:bS g cs vs){off:Nat}{x:AV}(hx:o8 cs off sz ag=some x)
  (b o:Nat) (hc:∀j(hj:j<vs.length),W.cell? ⟨b,o+j,none⟩=some vs[j]):∃v,(Instr.loadAt t (.pointer (some ⟨b,o+off,none⟩))).run P W= .ok v W∧bP g x v:=by
 obtain⟨tH,⟨i,hi,hs⟩,iK⟩:=Gy aT h
 have hlen:=hr.length
 have hle:off+sz≤cs.length:=by
  unfold o8 at hx;cases ag with
  |true=>simp only[cM]at hx;split at hx<;>simp_all
  |false=>
   simp only[mN,cP,cq]at hx
   obtain⟨c,wB,_⟩:=hx
   have:=(v7.1 wB).1
   have:=iK ae
   omega
 obtain⟨v,bZ,hv⟩:=agM (W:=W) tH hi b (o+off) ((vs.drop off).take sz) cO (by rw[hs];exact iK) (λj hj=>by simp at hj;have:=hc (off+j) af;simp only[uJ,we];rw[show o+off+j=o+(off+j)by omega];exact this)
 refine⟨v,by simpa[Instr.loadAt,Instr.sureAddr]using bZ,?_⟩
 unfold o8 at hx
 cases ag with
 |true=>
  simp only[cM]at hx
  split at hx
  ·simp only[aO]at hx;subst hx;rcases hv with⟨_,rfl⟩|⟨h0,_⟩
   ·exact⟨_,ae,(hr.drop off).take sz⟩
   ·simp at h0
  ·rename_i hn;exact absurd hle hn
 |false=>
  simp only[mN,cP,cq]at hx
  obtain⟨c,wB,rfl⟩:=hx
  rcases hv with⟨h0,_⟩|⟨_,hv⟩
  ·simp at h0
  ·obtain⟨u,hu,bU⟩:=hr.get wB;have h1:=iK ae;subst h1;have:(vs.drop off).take 1=[u]:=by rw[List.take_one,List.head?_drop,hu];rfl
   rw[this]at hv;simp only[OV,and_true]at hv;subst hv;exact bU
def GA(tt:TT)(st:St)(t:Nat)(x:AV):Option (AV×Pr×List Nat):=match p7 tt t with
 |some (sz,ag)=>(match x with
  | .c (.P id off)=>(match ao id st.mem with
   |some (.box _ _ cs)=>(match o8 cs off sz ag with|some y=>some (y,.t,[id])|none=>none)
   |some (.fz _ cs)=>(match o8 cs off sz ag with|some y=>some (y,.t,[id])|none=>none)
   |_=>none)
  | .c (.E T e off)=>(match o8 (av T e) off sz ag with|some y=>some (y,.t,[])|none=>none)
  | .c (.Y id n i off)=>(match ao id st.mem with
   |some (.vec _ T xs)=>if T.n=n then(match o8 (av T (xs.getD i T.kU)) off sz ag with|some y=>some (y,.Kf i xs.length,[id])|none=>none)else none
   |_=>none)
  |_=>none)
 |none=>none
def gU(st:St)(ids:List Nat):List (Key×Info):=ids.flatMap λid=>match ao id st.mem with
 |some b=>[(.m id,.b b)]
 |none=>[]
def tI{b:Nat}{vs:List Value}{E:TypeId}{f:Nat×Nat}(h:W.heap[b]? =some (.cells vs.toArray E f))(j:Nat)(hj:j<vs.length):W.cell? ⟨b,j,none⟩=some vs[j]:=by simp[World.cell?,h,hj]
def GB:∀(T:ET)(x:T.den),cA (av T x)=[]
 | .int _,_=>rfl
 | .bool,_=>rfl
 | .z,_=>rfl
 | .q,_=>rfl
 | .sl _,_=>rfl
 | .pr A B,x=>by
  have h:∀(a b:List C),cA a=[]→cA b=[]→cA (a++b)=[]:=by
   intro a;induction a with
   |nil=>intro b _ hb;exact hb
   |cons c a ih=>
    intro b ha hb
    simp only[cA,FZ]at ha
    simp only[mQ,cA,FZ]
    exact⟨ha.1,ih b ha.2 hb⟩
  exact h _ _ (GB A x.1) (GB B x.2)
def agN(aT:cL P tt=true){ops:Array Oper}{i:Nat}{o:Oper}{d:Nat}(ho:ops[i]? =some o)(hg:o.guard=none)(hd:o.dst=some d){n:Nat}(aV:d<n){t:TypeId}{x:Operand}(b9:o.op= .load t x)
  {st:St} {v y:AV} {p:Pr} {ids:List Nat} (hx:st.ev x=some v) (he:GA tt st t v=some (y,p,ids)) (hp:p) (new:Nat):
  mj P n ops i (dQ st x++gU st ids) [(.s d,some (.v y))] new:=by
 refine uS ho hg hd aV _ y new ?_
 intro F known σ g W a aH bt
 have bU:=gy aH st x v hx (λkx aS=>bt kx (fM _ aS))
 have jz:∀id∈ids,∀b,ao id st.mem=some b→σ (.m id)=some (.b b):=by intro id al b hb;exact bt (.m id,.b b) (jY _ (jE.2 ⟨id,al,by simp[hb]⟩))
 have lG:execOp a.eval o=(do pure (.value (←Instr.loadAt t (a.eval x)))):=yW
 unfold GA at he
 split at he
 ·rename_i sz ag j8;split at he
  ·rename_i id off;split at he
   ·rename_i E bz cs hl;split at he
    ·rename_i z hz;simp only[aO,cD]at he;obtain⟨rfl,rfl,rfl⟩:=he;have hσ:=jz id be _ hl;obtain⟨b,vs,rest,hγ,hh,hr,_,_⟩:=aH.c9 id _ hσ;obtain⟨b',fl,hv⟩:=bU;rw[hγ]at fl;simp only[aO]at fl;subst fl;obtain⟨u,bZ,hu⟩:=Gz (W:=W) aT j8 hr hz b 0 (λj hj=>by have:=tI hh j cO;rw[y9 hj]at this;simpa using this);refine⟨λb6 sA=>aH.aD _ _ hσ b6 (DH hz b6 sA),u,?_,hu⟩;rw[lG,hv];simp only[eR]at bZ;simp[bZ,Sem.run,pure]
    ·simp at he
   ·rename_i E cs hl;split at he
    ·rename_i z hz;simp only[aO,cD]at he;obtain⟨rfl,rfl,rfl⟩:=he;have hσ:=jz id be _ hl;obtain⟨b,vs,rest,hγ,hh,hr,_⟩:=aH.c9 id _ hσ;obtain⟨b',fl,hv⟩:=bU;rw[hγ]at fl;simp only[aO]at fl;subst fl;obtain⟨u,bZ,hu⟩:=Gz (W:=W) aT j8 hr hz b 0 (λj hj=>by have:=tI hh j cO;rw[y9 hj]at this;simpa using this);refine⟨λb6 sA=>aH.aD _ _ hσ b6 (DH hz b6 sA),u,?_,hu⟩;rw[lG,hv];simp only[eR]at bZ;simp[bZ,Sem.run,pure]
    ·simp at he
   ·simp at he
  ·rename_i T e off;split at he
   ·rename_i z hz;simp only[aO,cD]at he;obtain⟨rfl,rfl,rfl⟩:=he;obtain⟨b,o',cs,hv,agO,hc⟩:=bU;obtain⟨u,bZ,hu⟩:=Gz (W:=W) aT j8 (Dr T e cs agO) hz b o' (λj hj=>aH.sub _ _ _ (hc j hj));refine⟨λb6 sA=>?_,u,?_,hu⟩
    ·have:=DH hz b6 sA;rw[GB]at this;cases this
    ·rw[lG,hv];simp[bZ,Sem.run,pure]
   ·simp at he
  ·rename_i id m k off;split at he
   ·rename_i E T xs hl;split at he
    ·rename_i kL;split at he
     ·rename_i z hz;simp only[aO,cD]at he;obtain⟨rfl,rfl,rfl⟩:=he;have hσ:=jz id be _ hl;obtain⟨b',l,c,fl,hv⟩:=bU;rcases aH.c9 id _ hσ with⟨_,h0⟩|⟨b,cap,vs,hγ,hh,hlen,hle,_,hr,_,_⟩
      ·subst h0;simp[Pr.h]at hp
      ·rw[hγ]at fl;simp only[Value.slice.injEq,aO,Addr.mk.injEq,and_true]at fl;obtain⟨rfl,_,_⟩:=fl;have hp:k<xs.length:=hp;have Bi:=hr k hp;rw[show xs[k]=xs.getD k T.kU by rw[aY,ct hp];rfl]at Bi;have pc:(k+1)*T.n≤cap*T.n:=dY _ af;rw[fP,iZ]at pc;have asa:((vs.drop (k*T.n)).take T.n).length=T.n:=cO;obtain⟨u,bZ,hu⟩:=Gz (W:=W) aT j8 (Dr T _ _ Bi) hz b (k*T.n) (λj hj=>by have ry:j<T.n:=af;have:=tI hh (k*T.n+j) af;simp only[uJ,we];exact this);refine⟨λb6 sA=>?_,u,?_,hu⟩
       ·have:=DH hz b6 sA;rw[GB]at this;cases this
       ·rw[lG,hv,←kL];simp[bZ,Sem.run,pure]
     ·simp at he
    ·simp at he
   ·simp at he
  ·simp at he
 ·simp at he
end
section
variable{P:Program}{tt:TT}{g:Gh}{W:World}
def pe:Value→Bool
 | .agg _=>false
 | .tuple _=>false
 |_=>true
def rz:C→Bool
 | .any=>false
 | .V v=>pe v
 | .M _=>false
 | .X _=>false
 |_=>true
def WL{c:C}{v:Value}(h:rz c=true)(hr:dk g c v):pe v=true:=by
 cases c with
 |any=>simp[rz]at h
 |B b=>simp only[dk]at hr;subst hr;rfl
 |I k n=>simp only[dk]at hr;subst hr;rfl
 |V u=>simp only[dk]at hr;subst hr;exact h
 |S T xs=>obtain⟨a,cap,rfl,_⟩:=hr;rfl
 |P id off=>obtain⟨b,_,rfl⟩:=hr;rfl
 |X id=>simp[rz]at h
 |Y id n i off=>obtain⟨b,l,c,_,rfl⟩:=hr;rfl
 |E T x off=>obtain⟨b,o,cs,rfl,_⟩:=hr;rfl
 |M m=>simp[rz]at h
 |L id off len cap=>
  cases cap with
  |some c=>obtain⟨b,_,rfl⟩:=hr;rfl
  |none=>obtain⟨_,b,c,_,rfl,_⟩:=hr;rfl
 |W id off len=>obtain⟨b,c,_,rfl,_⟩:=hr;rfl
def jm(W:World)(b:Nat)(vs:List Value)(E:TypeId):World:={W with heap:=W.heap.setIfInBounds b (.cells vs.toArray E (0,0))}
def DJ{b:Nat}{vs:List Value}{E:TypeId}(h:b<W.heap.size):(jm W b vs E).heap[b]? =some (.cells vs.toArray E (0,0)):=by simp[jm,h]
def DK{b k:Nat}{vs:List Value}{E:TypeId}(h:b≠k):(jm W b vs E).heap[k]? =W.heap[k]? :=by simp[jm,nN h]
def agP{b j:Nat}{vs:List Value}{E:TypeId}(h:W.heap[b]? =some (.cells vs.toArray E (0,0)))(hj:j<vs.length){v:Value}(hv:pe v=true):
  (store ⟨b,j,none⟩ v).run P W= .ok () (jm W b (vs.set j v) E):=by
 have hb:b<W.heap.size:=(jO.1 h).1
 have hc:W.cell? ⟨b,j,none⟩=some vs[j]:=tI h j hj
 have hf:W.frozen? ⟨b,j,none⟩=false:=by simp[World.frozen?,h]
 have hs:W.setCell ⟨b,j,none⟩ v=jm W b (vs.set j v) E:=by
  unfold World.setCell jm;congr 1;apply Array.ext_getElem?;intro k;rw[Array.getElem?_modify,Array.getElem?_setIfInBounds];have dm:W.heap[b]= .cells vs.toArray E (0,0):=(jO.1 h).2;by_cases e:b=k
  ·subst e;simp[hb,dm]
  ·simp[e]
 cases v<;>simp[store,Sem.run,hc,hf,hs]<;>simp[pe]at hv
def agQ{b:Nat}{vs us:List Value}{E E':TypeId}:jm (jm W b vs E) b us E'=jm W b us E':=by simp[jm]
def agR{b:Nat}{vs:List Value}{E:TypeId}(h:W.heap[b]? =some (.cells vs.toArray E (0,0))):jm W b vs E=W:=by
 have hb:b<W.heap.size:=(jO.1 h).1;have:W.heap.setIfInBounds b (.cells vs.toArray E (0,0))=W.heap:=by
  apply Array.ext_getElem?;intro k;rw[Array.getElem?_setIfInBounds];by_cases e:b=k
  ·subst e;have dm:W.heap[b]= .cells vs.toArray E (0,0):=(jO.1 h).2;simp[hb,dm]
  ·simp[e]
 unfold jm;rw[this]
def dy{α:Type}(vs us:List α)(off:Nat):List α:=vs.take off++us++vs.drop (off+us.length)
def DL{α:Type}(vs us:List α)(off:Nat)(h:off+us.length≤vs.length):(dy vs us off).length=vs.length:=by simp[dy];omega
def WM{α:Type}(vs us:List α)(u:α)(off:Nat)(h:off<vs.length):dy (vs.set off u) us (off+1)=dy vs (u::us) off:=by
 unfold dy;rw[List.drop_set_of_lt af];have h1:(vs.set off u).take (off+1)=vs.take off++[u]:=by rw[JL cd];simp only[List.take_set,List.getElem_set_self];rw[List.set_eq_of_length_le cO]
 rw[h1];simp only[fk,nj,mQ,wh];rw[show off+1+us.length=off+(us.length+1)by omega]
def DM(b:Nat){E:TypeId}:∀(us:List Value)(W:World)(vs:List Value)(o i:Nat),W.heap[b]? =some (.cells vs.toArray E (0,0))→o+i+us.length≤vs.length→(∀u∈us,pe u=true)→
  (storeCells ⟨b,o,none⟩ us i).run P W= .ok () (jm W b (dy vs us (o+i)) E)
 |[],W,vs,o,i,h,_,_=>by
  have:dy vs [] (o+i)=vs:=by simp[dy]
  rw[this,agR h];simp[storeCells,pure]
 |u::us,W,vs,o,i,h,hle,iK=>by simp only[fk]at hle;have hb:b<W.heap.size:=(jO.1 h).1;have h1:=agP (P:=P) h (j:=o+i) af (iK u be);have h2:=DM b us (jm W b (vs.set (o+i) u) E) (vs.set (o+i) u) o (i+1) (DJ hb) cO (λx hx=>iK x lC);simp only[storeCells,p5,Sem.run_bind,h1,Result.andThen,h2,agQ];rw[show o+(i+1)=o+i+1 by omega,WM _ _ _ _ af]
def jn:AV→Option (List C)
 | .c x=>some [x]
 | .a cs=>some cs
 | .t _=>none
def Kq{x:AV}{cs:List C}(h:jn x=some cs){v:Value}(hr:bP g x v)(iK:∀c∈cs,rz c=true):∃vs,v.cells=vs.toArray∧bS g cs vs:=by
 cases x with
 |c y=>
  simp only[jn,aO]at h
  subst h
  have h1:=WL (iK y be) hr
  refine⟨[v],?_,v,[],ae,hr,ae⟩
  cases v<;>first|rfl| (simp[pe]at h1)
 |a ds=>
  simp only[jn,aO]at h
  subst h
  obtain⟨vs,rfl,hr⟩:=hr
  exact⟨vs,ae,hr⟩
 |t _=>simp[jn]at h
def bS.one{cs:List C}{vs:List Value}(hr:bS g cs vs)(iK:∀c∈cs,rz c=true):∀v∈vs,pe v=true:=by
 induction cs generalizing vs with
 |nil=>simp only[bS]at hr;subst hr;simp
 |cons c cs ih=>
  obtain⟨v,r,rfl,h1,h2⟩:=hr
  intro u hu
  rcases dx.1 hu with rfl|hu
  ·exact WL (iK c be) h1
  ·exact ih h2 (λc' pf=>iK c' (by simp[pf])) u hu
def bS.dy{cs ds:List C}{vs us:List Value}(hr:bS g cs vs)(hs:bS g ds us)(off:Nat):bS g (Go.El.dy cs ds off) (Go.El.dy vs us off):=by unfold Go.El.dy;rw[hs.length];exact bS.append (bS.append (hr.take off) hs) (hr.drop _)
def Kr(a b:List C):∀id∈cA (a++b),id∈cA a∨id∈cA b:=by
 induction a with
 |nil=>intro id h;exact .inr h
 |cons c a ih=>
  intro id h
  simp only[mQ,cA,bX]at h⊢
  rcases h with h|h
  ·exact .inl (.inl h)
  ·rcases ih id h with h|h
   ·exact .inl (.inr h)
   ·exact .inr h
end
section
variable{P:Program}{tt:TT}
def PD(tt:TT)(st:St)(t:Nat)(x v:AV):Option (Nat×aJ):=match p7 tt t,x,jn v with
 |some (sz,_),.c (.P id off),some us=>(match ao id st.mem with
  |some (.box E bz cs)=>if us.length=sz∧off+sz≤cs.length∧us.all rz=true then some (id,.box E bz (dy cs us off))else none
  |_=>none)
 |_,_,_=>none
def PE(cs us:List C)(off:Nat):∀id∈cA (dy cs us off),id∈cA cs∨id∈cA us:=by
 intro id al;unfold dy at al;rcases Kr _ _ id al with h|h
 ·rcases Kr _ _ id h with h|h
  ·exact .inl (Kk _ _ id h)
  ·exact .inr h
 ·exact .inl (Kj _ _ id h)
def GC{H:FH}{W:World}(h:Sub H W){b:Nat}{vs:List Value}{E:TypeId}(hb:∀o,H b o=none):Sub H (jm W b vs E):=by
 intro b' o v hv;have h1:=h b' o v hv;by_cases e:b=b'
 ·subst e;rw[hb o]at hv;cases hv
 ·simp only[World.cell?,DK e];exact h1
def WN{α:Type}(vs rest ws:List α)(off:Nat)(h:off+ws.length≤vs.length):dy (vs++rest) ws off=dy vs ws off++rest:=by unfold dy;rw[AS af,JM af];simp[nj]
def agS(aT:cL P tt=true){ops:Array Oper}{i:Nat}{o:Oper}(ho:ops[i]? =some o)(hg:o.guard=none)(hd:o.dst=none){n:Nat}{t:TypeId}{x y:Operand}(b9:o.op= .store t x y)
  {st:St} {vx vy:AV} {id:Nat} {bk:aJ} (hx:st.ev x=some vx) (hy:st.ev y=some vy) (he:PD tt st t vx vy=some (id,bk)) (new:Nat):
  mj P n ops i (dQ st x++dQ st y++gU st [id]) [(.m id,some (.b bk))] new:=by
 intro F fW Q known σ g W a K dT aH bt hK
 have lH:=gy aH st x vx hx (λkx aS=>bt kx jt)
 have ph:=gy aH st y vy hy (λkx aS=>bt kx jt)
 have PF:=uR aH st y vy hy (λkx aS=>bt kx jt)
 unfold PD at he
 split at he
 ·rename_i _ sz ag b6 off us j8 eL;split at he
  ·rename_i E bz cs hl;split at he
   ·rename_i sH;obtain⟨h1,h2,h3⟩:=sH;simp only[aO,cD]at he;obtain⟨rfl,rfl⟩:=he;have hσ:σ (.m b6)=some (.b (.box E bz cs)):=bt (.m b6,.b (.box E bz cs)) uG;obtain⟨b,vs,rest,hγ,hh,hr,hN,hz,Bj⟩:=aH.c9 b6 _ hσ;obtain⟨b',fl,hv⟩:=lH;rw[hγ]at fl;simp only[aO]at fl;subst fl;have iK:∀c∈us,rz c=true:=λc hc=>wg.1 h3 c hc
    obtain⟨ws,kX,sC⟩:=Kq eL ph iK;obtain⟨_,⟨ti,fo,WO⟩,_⟩:=Gy aT j8;have asb:=sC.length;have agT:=hr.length;have bZ:(Instr.storeAt t (a.eval x) (a.eval y)).run P W= .ok () (jm W b (dy (vs++rest) ws off) E):=by rw[hv];simp only[Instr.storeAt,Instr.sureAddr,storeVar,Sem.run_bind,Sem.run_pure,Result.andThen,run_sizeOf fo,kX];have:¬(ws.toArray.size≠ti.size):=cO;simp only[this,cP];have:=DM (P:=P) b ws W (vs++rest) off 0 hh cO (sC.one iK);simp only[j6]at this;simpa using this
    unfold wpOp;simp only[ho,Region.wanted,hg,cM];refine .inl ?_;unfold Oper.wp;have hex:(execOp a.eval o).run P W= .ok .skip (jm W b (dy (vs++rest) ws off) E):=by rw[execOp,b9];simp[bZ,Sem.run,pure]
    rw[hex];simp only[Oper.upon,hd,Act.put];have hb:b<W.heap.size:=(jO.1 hh).1;refine hK g _ a (aH.step (chg:=λj=>j=b6) (g':=g) ⟨⟨cC.refl _,λ_ _=>rfl⟩,λ_ _ _=>rfl,GC aH.sub hz,by simp[jm],?_,ae,ae,ae⟩ _ new dT ae aH.defers (λ_ _=>rfl) ?_ ?_ ?_ ?_ ?_)
    ·intro k hk aN;have:b≠k:=λe=>aN b6 ae (by rw[hγ,e])
     exact DK this
    ·intro j hj;subst hj;exact⟨by simp[a9],_,hσ⟩
    ·intro t' v' ht;simp[a9]at ht
    ·intro j bk hj;simp only[a9]at hj;split at hj
     ·rename_i e;simp only[Key.m.injEq]at e;subst e;simp only[aO,Info.b.injEq]at hj;subst hj;have Bk:dy (vs++rest) ws off=dy vs ws off++rest:=WN vs rest ws off af;exact⟨⟨b,dy vs ws off,rest,hγ,by rw[DJ hb,Bk],hr.dy sC off,hN,hz,λh0=>by obtain⟨c,e1,e2⟩:=Bj h0;refine⟨c,e1,?_⟩;rw[←Bk,DL _ _ _ cO];exact e2⟩,.inl ⟨aH.fy _ _ hσ,_,hσ⟩⟩
     ·simp at hj
    ·intro k z gV;simp only[a9]at gV;split at gV
     ·simp only[aO]at gV;subst gV;intro j hj;rcases PE _ _ _ j hj with h|h
      ·exact .inl (aH.aD _ _ hσ j h)
      ·refine .inl (PF j ?_);cases vy with
       |c q=>simp only[jn,aO]at eL;subst eL;simpa[cA,AV.aD]using h
       |a q=>simp only[jn,aO]at eL;subst eL;exact h
       |t q=>simp[jn]at eL
     ·simp at gV
    ·intro j z gV;simp only[a9]at gV;split at gV
     ·rename_i e;simp only[Key.m.injEq]at e;subst e;exact .inl (aH.fy _ _ hσ)
     ·simp at gV
   ·simp at he
  ·simp at he
 ·simp at he
def GD(W:World)(o:Obj)(k:Nat)(h:k<W.heap.size):(W.heap.push o)[k]? =W.heap[k]? :=by rw[Array.getElem?_push,aq af]
def GF{H:FH}{W:World}(h:Sub H W)(o:Obj):Sub H {W with heap:=W.heap.push o}:=by intro b off v hv;have h1:=h b off v hv;have hb:=World.block_lt_of_cell? W _ h1;simp only[World.cell?]at h1⊢;rw[GD W o b hb];exact h1
def WQ{ops:Array Oper}{i:Nat}{o:Oper}{d:Nat}(ho:ops[i]? =some o)(hg:o.guard=none)(hd:o.dst=some d){n:Nat}(aV:d<n){E:TypeId}(rd:List (Key×Info))(cs:List C)(new:Nat)
  (h:∀(F:c8)(known:Nat→Prop)(σ:Kn)(g:Gh)(W:World)(a:Act),bJ F known σ g W a→(∀kx∈rd,σ kx.1=some kx.2)→
   (∀id∈cA cs,known id)∧∃vs,bS g cs vs∧(execOp a.eval o).run P W= .ok (.value (.pointer (some ⟨W.heap.size,0,none⟩))) {W with heap:=W.heap.push (.cells vs.toArray E (0,0))}):
  mj P n ops i rd [(.s d,some (.v (.c (.P new 0)))),(.m new,some (.b (.box E 0 cs)))] new:=by
 intro F fW Q known σ g W a K dT aH bt hK
 obtain⟨hm,vs,hr,bZ⟩:=h F known σ g W a aH bt
 unfold wpOp
 simp only[ho,Region.wanted,hg,cM]
 refine .inl ?_
 unfold Oper.wp
 rw[bZ]
 simp only[Oper.upon,hd]
 have cR:d<a.tmps.size:=qY
 let g':Gh:=⟨g.H,λid=>if id=new then .pointer (some ⟨W.heap.size,0,none⟩)else g.γ id⟩
 have hle:iH known g g':=⟨cC.refl _,λid al=>by
  have:id≠new:=λe=>dT (e▸al)
  simp[g',this]⟩
 have xN:∀o,g.H W.heap.size o=none:=by
  intro o;cases hv:g.H W.heap.size o with
  |none=>rfl
  |some v=>
   have:=World.block_lt_of_cell? W _ (aH.sub _ _ _ hv)
   simp at this
 refine hK g' _ _ (aH.step (chg:=λ_=>False) (g':=g') ⟨hle,λ_ _ _=>rfl,GF aH.sub _,by simp,λk hk _=>GD W _ k hk,ae,ae,ae⟩ _ new dT sc aH.defers ?_ (λ_ h=>h.elim) ?_ ?_ ?_ ?_)
 ·intro t ht;have aN:d≠t:=ts;simp[Act.put,nN aN]
 ·intro t u ht;simp only[a9]at ht;split at ht
  ·rename_i e;simp only[Key.s.injEq]at e;simp only[aO,Info.v.injEq]at ht;subst e;subst ht;refine⟨W.heap.size,by simp[g',cN],?_⟩;simp[Act.put,cR]
  ·split at ht
   ·simp at ht
   ·simp at ht
 ·intro id b ht;simp only[a9,reduceCtorEq,cP]at ht;split at ht
  ·rename_i e;simp only[Key.m.injEq]at e;subst e;simp only[aO,Info.b.injEq]at ht;subst ht;refine⟨⟨W.heap.size,vs,[],by simp[g',cN],by simp,bS.mono hle hm hr,.inl aH.below.size,xN,by simp⟩,.inr ⟨ae,λk hk=> .inl ?_⟩⟩;simp only[g',cM,cN,aO]at hk;omega
  ·simp at ht
 ·intro k y ht;simp only[a9]at ht;split at ht
  ·simp only[aO]at ht;subst ht;intro id al;simp[Info.aD,AV.aD,C.aD]at al;exact .inr al
  ·split at ht
   ·simp only[aO]at ht;subst ht;exact λid al=> .inl (hm id al)
   ·simp at ht
 ·intro id y ht;simp only[a9,reduceCtorEq,cP]at ht;split at ht
  ·rename_i e;simp only[Key.m.injEq]at e;exact .inr e.symm
  ·simp at ht
def agU{ops:Array Oper}{i:Nat}{o:Oper}{d:Nat}(ho:ops[i]? =some o)(hg:o.guard=none)(hd:o.dst=some d){n:Nat}(aV:d<n){E:TypeId}{x:Operand}(b9:o.op= .box E x)
  {st:St} {v:AV} {cs:List C} (hx:st.ev x=some v) (eL:jn v=some cs) (rA:cs.all rz=true) (new:Nat):
  mj P n ops i (dQ st x) [(.s d,some (.v (.c (.P new 0)))),(.m new,some (.b (.box E 0 cs)))] new:=by
 refine WQ ho hg hd aV _ cs new ?_
 intro F known σ g W a aH bt
 have hr:=gy aH st x v hx bt
 have hm:=uR aH st x v hx bt
 obtain⟨vs,GG,kA⟩:=Kq eL hr (λc hc=>wg.1 rA c hc)
 refine⟨λid al=>hm id ?_,vs,kA,?_⟩
 ·cases v with
  |c q=>simp only[jn,aO]at eL;subst eL;simpa[cA,AV.aD]using al
  |a q=>simp only[jn,aO]at eL;subst eL;exact al
  |t q=>simp[jn]at eL
 ·rw[execOp,b9];simp[Instr.box,newVar,newRow,newObj,GG,Sem.run,pure]
def DN(g:Gh):∀zs:List ZV,bS g (zs.map ZV.sD) (zs.map ZV.fV)
 |[]=>rfl
 |z::zs=>⟨_,_,ae,by cases z<;>rfl,DN g zs⟩
def agV(aT:cL P tt=true){ops:Array Oper}{i:Nat}{o:Oper}{d:Nat}(ho:ops[i]? =some o)(hg:o.guard=none)(hd:o.dst=some d){n:Nat}(aV:d<n){E:TypeId}(b9:o.op= .alloc E)
  {ti:TI} (fo:ao E tt=some ti) (new:Nat):
  mj P n ops i [] [(.s d,some (.v (.c (.P new 0)))),(.m new,some (.b (.box E 0 (ti.zero.map ZV.sD))))] new:=by
 refine WQ ho hg hd aV _ _ new ?_
 intro F known σ g W a aH bt
 obtain⟨i',hi,_,_,z,hz,p8⟩:=(gL aT fo).info
 refine⟨?_,ti.zero.map ZV.fV,DN g _,?_⟩
 ·intro id al;exfalso;have:∀zs:List ZV,cA (zs.map ZV.sD)=[]:=by
   intro zs;induction zs with
   |nil=>rfl
   |cons z zs ih=>simp only[jF,cA,ih];cases z<;>rfl
  rw[this]at al;cases al
 ·have uU:z.cells=(ti.zero.map ZV.fV).toArray:=by rw[←sf];simpa using p8
  rw[execOp,b9];simp[Instr.alloc,zeroValue,typeInfo,hi,hz,newVar,newRow,newObj,uU,Sem.run,pure]
end
end Go.El
