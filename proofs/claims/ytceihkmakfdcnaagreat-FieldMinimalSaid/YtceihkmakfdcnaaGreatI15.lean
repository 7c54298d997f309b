/- Own work; no condition. -/
import Derived.OpenShut
import Derived.SizedLaws
import Derived.Test.YtceihkmakfdcnaaGreatI8
import Derived.Test.YtceihkmakfdcnaaGreatI5
import Derived.Test.YtceihkmakfdcnaaGreatI6
import Derived.Test.YtceihkmakfdcnaaGreatI12
import Derived.Test.YtceihkmakfdcnaaGreatI11
import Derived.Test.YtceihkmakfdcnaaGreatI3
import Derived.Test.YtceihkmakfdcnaaGreatI14
import Derived.Test.YtceihkmakfdcnaaGreatI1
set_option linter.all false
set_option maxHeartbeats 16000000
set_option maxRecDepth 100000
noncomputable section
open Bool renaming true->af,false->ak
open Go renaming Value->aT,Program->bO,TypeId->eh,DataW->BW
open Go.Addr renaming add->YZ
open Go.DataW renaming trod->nq,weightsEach->Et,weightsAll->RO,weights->Y0
open Go.El renaming rr->e,cS->S,xe->F,iA->L,re->O,bA->h,cI->y,rb->w
open Go.Proofs.Tryz renaming prog->r
open Int renaming ofNat->YM,toNat->ah
open List renaming drop->az,length->Z,getD->I,replicate->bt,take->c,mapM_nil->ajy,range->cy
open Nat renaming beq->iP
open Option renaming some->ae
open _root_ renaming Nat->G,Int->V,List->E,Option->aw
namespace Go.El
open Go Go.Proofs Go.RowKit
def RC{a:Type}(n:G)(f:G->a):a:=Nat.rec (motive:=λ_=>a) (f 0) (λk _=>f<|Nat.add k 1) n
def YK{a:Type} n(f:G->a):RC n f=f n:=by cases n<;>rfl
def YL{a:Type}(x:V)(f:V->a):a:=Int.rec (motive:=λ_=>a) (λn=>RC n<|λm=>f<|YM m) (λn=>f<|Int.negSucc n) x
def av4{a:Type} x(f:V->a):YL x f=f x:=by
 cases x with
 |ofNat n=>exact YK n<|λm=>f<|YM m
 |negSucc n=>rfl
def LV{a:Type}(l:E V):(E V->a)->a:=List.rec (motive:=λ_=>(E V->a)->a) (λf=>f []) (λx _ b f=>YL x<|λy=>b<|λt=>f<|y::t) l
def RD{a:Type}:∀(l:E V)(f:E V->a),LV l f=f l
 |[],_=>rfl
 |x::l,f=>by show YL x (λb=>LV l<|λt=>f<|b::t)=_;rw[av4,RD l]
def YN:E C->aw (E V)
 |[]=>ae []
 | .I .u64 n::a=>(match YN a with
  |some l=>ae<|n::l
  |none=>none)
 |_=>none
def RE(a:Ms):C->aw (E V)
 | .S (.int .u64) xs=>ae xs
 | .V (.slice none 0 0)=>ae []
 | .L id off len _=>(match bI id a with
  |some (.box _ _ cs)=>YN<|(az off cs).take len
  |some (.fz _ cs)=>YN<|(az off cs).take len
  |_=>none)
 |_=>none
def Er(p x:V):Bool:=decide (0<=x)&&decide (x<p)
def YO(p:V)(l:E V):Bool:=l.all<|Er p
def aja{p}(a:0<p){l}(b:YO p l=af):rp p l:=by
 intro i;rw[aO];cases hl:l[i]? with
 |none=>exact⟨iD _,a⟩
 |some x=>
  have:=nw.1 b x<|Nx hl
  simp only[Er,cG,mV]at this
  exact this
def ajb:E AV->aw (E AV×AV)
 |[.c (.I .u64 a),.c<|.I .u64 n,.c<|.I .u64 p]=>(match Er 18446744073709551616 a&&Er 18446744073709551616 n&&decide (0<p)&&decide (p<=4294967296)with
  |true=>RC (wm (ah a) (ah n)<|ah p)<|λb=>ae ([cU a,cU n,cU p],cU<|YM b)
  |false=>none)
 |_=>none
def ajc:E AV->aw (E AV×AV)
 |[.c (.I .u64 a),.c<|.I .u64 p]=>(match Er p a&&decide (a≠0)&&decide (2<=p)&&decide (p<=2147483648)with
  |true=>RC (jD (ah a)<|ah p)<|λb=>ae ([cU a,cU p],.t [(ak,[.I .u64 (YM b)]),(ak,[.I .i64 0])])
  |false=>none)
 |_=>none
def RF(a b:E V)(p:V):Bool:=Nat.ble (Z a) 1000&&Nat.ble (Z b) 1000&&decide (2<=p)&&decide (p<=2147483648)&&YO p a&&YO p b
def ajd(d:Ms):E AV->aw (E AV×AV)
 |[.a [x,.I .u64 p],.a [f,.I .u64 g]]=>(match RE d x,RE d f with
  |some a,ae b=>(match decide (p=g)&&RF a b p with
   |true=>LV (cX a b p)<|λl=>ae ([aP a p,aP b p],aP l p)
   |false=>none)
  |_,_=>none)
 |_=>none
def aje(d:Ms):E AV->aw (E AV×AV)
 |[.a [x,.I .u64 p],.a [f,.I .u64 g]]=>(match RE d x,RE d f with
  |some a,ae b=>(match decide (p=g)&&RF a b p&& !a.isEmpty&& !b.isEmpty&&decide (List.getD b (Z b-1) 0≠0)with
   |true=>LV (aV a b p).1<|λl=>LV (aV a b p).2<|λi=>ae ([aP a p,aP b p],.t [(af,[.S au l,.I .u64 p]),(af,[.S au i,.I .u64 p])])
   |false=>none)
  |_,_=>none)
 |_=>none
def YP(f:FuncId)(vs:E AV)(a:Ms):aw (E AV×AV):=
 match iP f 301 with
 |true=>ajb vs
 |false=>(match iP f 291 with
  |true=>ajc vs
  |false=>(match iP f 292 with
   |true=>ajd a vs
   |false=>(match iP f 264 with
    |true=>aje a vs
    |false=>none)))
def ajf{a b}{p}(d:RF a b p=af):Z a<=1000/\Z b<=1000/\2<=p/\p<=2147483648/\rp p a/\rp p b:=by simp only[RF,cG,mV]at d;let ⟨⟨⟨⟨⟨f,h2⟩,g⟩,i⟩,k⟩,l⟩:=d;exact⟨cQ f,cQ h2,g,i,aja Y k,aja Y l⟩
def av5:∀f vs u g k,YP f vs u=ae (g,k)->aq r f g k:=by
 intro f vs u g k h;unfold YP at h;split at h
 .rename_i i;rw[lX i];unfold ajb at h;split at h
  .rename_i a n p;split at h
   .rename_i d;simp only[cG,Er,mV]at d;rw[YK]at h;cases h;have:=aem (ah a) (ah n) (ah p) Y Y Y Y;rwa[xp (by omega:0<=a),xp (by omega:0<=n),xp (by omega:0<=p)]at this
   .cases h
  .cases h
 .split at h
  .rename_i i;rw[lX i];unfold ajc at h;split at h
   .rename_i a p;split at h
    .rename_i d;simp only[cG,Er,mV]at d;rw[YK]at h;cases h;exact aer a p Y Y Y Y
    .cases h
   .cases h
  .split at h
   .rename_i i;rw[lX i];unfold ajd at h;split at h
    .rename_i x p y q;split at h
     .rename_i a b _ _;split at h
      .rename_i d;simp only[cG]at d;let ⟨l,h2,v,m,s,t⟩:=ajf d.2;rw[RD]at h;cases h;exact aqo a b p l h2 Y m s t
      .cases h
     .cases h
    .cases h
   .split at h
    .rename_i i;rw[lX i];unfold aje at h;split at h
     .rename_i x p y q;split at h
      .rename_i a b _ _;split at h
       .rename_i d;simp only[cG,mV]at d;let ⟨⟨⟨⟨_,d⟩,A⟩,z⟩,hl⟩:=d;let ⟨l,h2,v,m,s,t⟩:=ajf d;rw[RD,RD]at h;cases h;cases a with
        |nil=>simp at A
        |cons x B=>exact aqs x B b p J l h2 v m s t (by intro e;rw[e]at z;simp at z) hl
       .cases h
      .cases h
     .cases h
    .cases h
abbrev Cl:=FuncId×E AV×AV
def HO(l:E Cl)(f:FuncId)(vs:E AV)(a:Ms):aw (E AV×AV):=List.rec (motive:=λ_=>aw<|E AV×AV) (YP f vs a)
 (λe _ b=>match iP f e.1 with
  |true=>(match s0 (λd=>bI d a) vs e.2.1 with
   |true=>ae (e.2.1,e.2.2)
   |false=>b)
  |false=>b) l
def RH:E Cl->Prop
 |[]=>True
 |a::b=>aq r a.1 a.2.1 a.2.2/\RH b
def RI:∀{l:E Cl},RH l->∀f vs b a d,HO l f vs b=ae (a,d)->aq r f a d
 |[],_,f,vs,b,a,d,k=>av5 f vs b a d k
 |i::l,hl,f,vs,b,a,d,k=>by
  have g:(match iP f i.1 with
   |true=>(match s0 (λn=>bI n b) vs i.2.1 with
    |true=>ae (i.2.1,i.2.2)
    |false=>HO l f vs b)
   |false=>HO l f vs b)=ae (a,d):=k
  split at g
  .rename_i m;have m:=lX m;split at g
   .simp only[ar,bQ]at g;obtain⟨rfl,rfl⟩:=g;rw[m];exact hl.1
   .exact RI hl.2 f vs b a d g
  .exact RI hl.2 f vs b a d g
def iV{l}(b:RH l){f}{vs}{a}(d:acw a (uz r dE (HO l) (jm r dE (HO l) 100000) f vs [] 0)=af)(g:cO vs=[])(i:a.al=[]):aq r f vs a:=
 anQ MX cp (RI b) 100000 d g i
def RJ{l}(b:RH l){f}{vs}{a}(d:U2 r dE (HO l) 100000 200 200 f vs a=af)(g:cO vs=[])(i:a.al=[]):aq r f vs a:=
 aov MX cp (RI b) 100000 200 200 d g i
def qI(n:V):Rat:=Rat.ofInt n
abbrev uP(l:E Rat):AV:= .c<|.S .q l
abbrev zP(l:E V):AV:= .c<|.S .z l
abbrev qe(l:E (E V)):AV:= .c<|.S (.sl .z) l
abbrev pL(l:E (E V×V)):AV:= .c<|.S (.pr (.sl au) au) l
abbrev PQ:V:=1073741827
open Rx
def qf(a b:E Rat):G->E Rat
 |0=>bt (Z a+Z b-1) 0
 |i+1=>kD (qf a b i) (I a i 0) b i
def YQ(a b:E Rat):∀i,Z (qf a b i)=Z a+Z b-1
 |0=>gQ
 |i+1=>by rw[qf,kD,oG,YQ a b i]
def ajg a i:lx (c (i+1) a)=lx (c i a)+K (I a i 0)*X i:=ext λb=>by
 rw[dP,eF,oF,eG,eG,Hv,Hv];by_cases h:b=i
 .subst h;rw[q Y,j Y,q J];grind
 .rw[j h];by_cases h2:b<i
  .rw[q Y,q h2];grind
  .rw[j Y,j h2];grind
def YR{a b:E Rat}:∀i,i<=Z a->lx (qf a b i)=lx (c i a)*lx b
 |0,_=>by rw[qf,GV,mI,Rx.dw];exact ext λi=>Lq _ i
 |i+1,d=>by rw[qf,Lu _ (by rw[YQ];omega),YR i Y,ajg,Rx.gh,Rx.c9]
def av6 a b:gH (qf a b<|Z a)=ml a b:=sf (jF _) (BK a b) (by rw[tI,YR _<|aN _,ik,D8])
def ajh{n m t u s}{a b}(k:Pz n t a)(l:Pz m u b)(H:n<=16)(N:m<=400)(p:t+u+4<32*s)(P:s<=100000000000):aq r 67 [S .q a,S .q b] (S .q<|ml a b):=by
 refine aS Tryz.func67 ?_;have K:=k.len;have Q:=l.len;refine e J<|bA<|w<|rg 11 J J (λh=>?_)<|λh=>?_
 .have h:a=[]:=by have h:(a.length:V)=0:=eS h;exact gA Y
  subst h;rw[agV];exact O J<|F J (λ_=>e J<|bX<|da<|iZ cp J<|bq.nil .q)<|λh=>gD
 refine O J<|F J (λg=>?_)<|λg=>aG ?_
 .have h:b=[]:=by have h:(b.length:V)=0:=eS g;exact gA Y
  subst h;rw[agW];exact e J<|bX<|da<|iZ cp J<|bq.nil .q
 have T:0<a.length:=by have h:(((a.length:G):V)==0)=ak:=h;rw[beq_eq_false_iff_ne]at h;omega
 have W:0<b.length:=by have h:(((b.length:G):V)==0)=ak:=g;rw[beq_eq_false_iff_ne]at h;omega
 clear h g;have x:pS r 118 [y ((a.length:V)+(b.length:V)-1)] 44 .q (bt (a.length+b.length-1) 0):=by rw[(Y:(a.length:V)+(b.length:V)-1=((a.length+b.length-1:G):V))];exact QB _ Y
 refine w<|De J J x (O J<|bA<|e J ?_) (hp:=aH);refine aA<|bx (α:=G) (λi=>⟨[(1,S .q b),(5,.c<|.X 2006000),(23,S .q a),(24,y a.length),(25,y i)],[(2006000,.vec 44 .q<|qf a b i)],4,[]⟩) (λi=>i<=a.length) (λi=>a.length-i) 0 (bm _) (wk (bP J) ⟨bE J J,M⟩) ?_;intro i z;have A:=YQ a b i;have hQ:∀j,QS s ((qf a b i).getD j 0):=λj=>by
  have B:Ht (2^(t+u+4)) (lx<|qf a b i):=by rw[YR i z,<-Lz];let ⟨D,d1,d2,d3⟩:=k.ht;refine Ht.mul (n:=2^4) ⟨D,d1,d2,d3.take i⟩ l.ht ?_ o;have:=PV<|a.take i;rw[hZ]at this;omega
  exact B.qs (nZ p) j
 refine e J<|bA<|F J (λh=>?_)<|λh=>?_
 .have h:i<a.length:=by have h:(i:V)<(a.length:V):=aX h;omega
  have d:=QD (s:=s) Y (qf a b i) (a.getD i 0) b i Y Y hQ (k.qs Y i)<|λj=>l.qs Y j;have C:((i:V)).toNat=i:=cx i;rw[show kD (qf a b i) (a.getD i 0) b i=qf a b (i+1)from J]at d;have f:vX r 119 [.c (.X 0),aQ<|a.getD ((i:V)).toNat 0,S .q b,y i] 44 .q (qf a b i) (.t []) (qf a b<|i+1):=by rw[C];exact d
  refine aG<|bA<|aA<|e J (cL<|A0 2006000 J f J J<|O J<|bU<|rt J (hp:=aH)<|a6 (i+1) h (Y:a.length-(i+1)<a.length-i)<|wk ⟨sR J,sR J,sR J,sR J,sE J ?_,M⟩ ⟨bR J,M⟩) (hp:=aH);exact jC (Y:(i:V)+1=((i+1:G):V))
 .have h:i=a.length:=by have h:¬(i:V)<(a.length:V):=bh h;omega
  subst h;have v:=Ln (qf a b a.length) Y;rw[av6]at v;exact bD<|aR<|dm 2006000 J J J<|bL J J v J<|di J
def av7:aq r 74 [S .q [],S .q []] (S .q []):=iV (l:=[]) M e9 J J
def av8 a b:gH (zJ a (-1) b)=gW a b:=sf (jF _) (jF _) (by rw[tI,asJ,LA,Bq,jE,Rx.neg_mul,Rx.cY,eY])
def av9{s}(d:1<=s)(f:s<=200000000000) a b(g:Z a<=1000)(k:Z b<=1000)(l:∀i,QS s (I a i 0))(m:∀i,QS s (I b i 0)):aq r 74 [S .q a,S .q b] (S .q<|gW a b):=by
 by_cases h:0<max (Z a) (Z b)
 .rw[<-av8];exact ase d f a b g k h l m
 .have n:a=[]:=gA Y;have p:b=[]:=gA Y;subst n p;exact av7
def Pz.YS{n m t u s}{a b}(d:Pz n t a)(f:Pz m u b)(k:n<=500)(l:m<=500)(g:t<32*s)(i:u<32*s)(p:s<=100000000000):aq r 74 [S .q a,S .q b] (S .q<|gW a b):=
 av9 Y Y a b (bZ d.len Y) (bZ f.len Y) (d.qs g) (f.qs i)
def av' b a:gH (wL b a)=fw b a:=sf (jF _) (jF _) (by rw[tI,agF,BI])
def Pz.YT{n t s}{a}{b}(d:Pz n t a)(f:QS s b)(i:n<=500)(g:t<32*s)(k:s<=100000000000):aq r 75 [aQ b,S .q a] (S .q<|fw b a):=by rw[<-av'];exact asc Y Y b a (bZ d.len Y) f<|d.qs g
def awa{s}(g:1<=s)(i:s<=100000000000){a b}(k:b≠[])(f:D5 s a b):aq r 65 [S .q a,S .q b] (.t [(ak,[.S .q (jV a b)]),(ak,[.S .q (fX a b)]),(ak,[.I .i64 0])]):=by
 have l:=cR.2 k;have m:=f.la;have n:=f.lb;by_cases d:Z a<Z b
 .rw[fX,jV,q d,q d];exact asm a b d Y
 .rw[fX,jV,j d,j d];exact asi g i a b (Z b-1) (Z a+1-Z b) Y Y Y Y f.bn f.qb f.qS
def Pz.awb{n m t u d s}{a b}(g:Pz n t a)(i:Pz m u b)(f:b≠[])(k:Z a+1-Z b<=d)(l:n<=500)(p:m<=500)(v:t+u+(u+1)*d<32*s)(x:s<=100000000000):aq r 65 [S .q a,S .q b] (.t [(ak,[.S .q (jV a b)]),(ak,[.S .q (fX a b)]),(ak,[.I .i64 0])]):=
 awa Y x f (g.euS i f k l p v)
def Pz.aji{n m t u d s}{a b}(f:Pz n t a)(g:Pz m u b)(i:b≠[])(k:Z a+1-Z b<=d)(l:n<=500)(p:m<=500)(v:t+u+(u+1)*d<32*s)(x:s<=100000000000):aq r 17 [S .q a,S .q b] (S .q<|fX a b):=by refine aS Tryz.func17 ?_;exact e J<|w<|rc J J (f.awb g i k l p v x)<|O J<|e J<|di J
def fm(a b m:E Rat):E Rat:=fX (ml a b) m
def Pz.ajj{n m k t u v d s}{a b f}(g:Pz n t a)(i:Pz m u b)(x:Pz k v f)(z:f≠[])(l:n<=16)(A:m<=400)(H:k<=400)(N:Z a+Z b-1+1-Z f<=d)(B:t+u+4+v+(v+1)*d<32*s)(p:s<=100000000000):aq r 19 [S .q a,S .q b,S .q f] (S .q<|fm a b f):=by refine aS Tryz.func19 ?_;have C:=g.mul i l;have:=Q2 g.can i.can;have D:=C.aji x z (d:=d) Y Y Y B p;exact e J<|w<|rc J J (ajh g i l A Y p)<|rc J J D<|O J<|di J
def Pz.fm{n m k t u v d}{a b f}(g:Pz n t a)(i:Pz m u b)(l:Pz k v f)(p:f≠[])(s:n<=16)(x:Z a+Z b-1+1-Z f<=d):Pz k (t+u+4+(v+1)*d) (El.fm a b f):=by have:=Q2 g.can i.can;exact(g.mul i s).rem l p Y
def Es{a b d}(f:bM d)(g:d≠[]):lx d∣lx (fm a b d)-lx a*lx b:=by rw[<-D8];exact agY f g
end Go.El
namespace Go.El
open Go Go.Proofs Go.RowKit
def ajk{g:Gh}{b:G->G}:∀{d:C}{v:aT},c6 ⟨g.H,λf=>g.γ<|b f⟩ d v->c6 g (lq b d) v
 | .any,_,a=>a
 | .B _,_,a=>a
 | .I _ _,_,a=>a
 | .V _,_,a=>a
 | .S _ _,_,a=>a
 | .P _ _,_,a=>a
 | .X _,_,a=>a
 | .Y _ _ _ _,_,a=>a
 | .E _ _ _,_,a=>a
 | .M _,_,a=>a
 | .L _ _ _ (ae _),_,a=>a
 | .L _ _ _ none,_,a=>a
 | .W _ _ _,_,a=>a
def HP{g:Gh}{b:G->G}:∀{d:E C}{vs:E aT},a4 ⟨g.H,λf=>g.γ<|b f⟩ d vs->a4 g (d.map<|lq b) vs
 |[],_,a=>a
 |_::_,_,a=>by let ⟨v,i,k,l,h2⟩:=a;exact⟨v,i,k,ajk l,HP h2⟩
def YU{g:Gh}{k:G->G}:∀{l:E (Bool×E C)}{vs:E aT},dy ⟨g.H,λm=>g.γ<|k m⟩ l vs->dy g (l.map λs=>(s.1,s.2.map<|lq k)) vs
 |[],_,d=>d
 | (b,f)::_,_,d=>by
  let ⟨v,n,i,a,h2⟩:=d;refine⟨v,n,i,?_,YU h2⟩;match b,f,a with
  |true,f,a=>let ⟨vs,i,d⟩:=a;exact⟨vs,i,HP d⟩
  |false,[f],a=>exact ajk a
  |false,[],a=>exact a.elim
  |false,_::_::_,a=>exact a.elim
def ajl{g:Gh}{a:G->G}{i k:Bool}:∀{n:G}{xs:E (E C×E C)}{l:E MapEntry},iX ⟨g.H,λm=>g.γ<|a m⟩ i k n xs l->iX g i k n (xs.map λx=>(x.1.map<|lq a,x.2.map<|lq a)) l
 |_,[],_,b=>b
 |_,_::_,_,b=>by let ⟨p,s,t,h2,⟨u,v,d⟩,⟨vs,z,f⟩,A⟩:=b;exact⟨p,s,t,h2,⟨u,v,HP d⟩,⟨vs,z,HP f⟩,ajl A⟩
def awc{N:G->Prop}{g}{W}{t:G->G}{s}{b}(l:gL N ⟨g.H,λs=>g.γ<|t s⟩ W s b):gL N g W (t s) (pZ t b):=by
 cases b with
 |box E z cs=>
  let ⟨k,vs,rest,a,d,i,p,u,x⟩:=l
  exact⟨k,vs,rest,a,d,HP i,p,u,x⟩
 |vec E T A=>
  rcases l with⟨a,d⟩|⟨k,v,vs,a,d⟩
  .exact .inl ⟨a,d⟩
  .exact .inr ⟨k,v,vs,a,d⟩
 |dS f first caps=>
  let ⟨us,ws,a,d,i⟩:=l
  exact⟨us,ws,a,YU d,YU i⟩
 |fz E cs=>
  let ⟨k,vs,rest,a,d,i,p,u⟩:=l
  exact⟨k,vs,rest,a,d,HP i,p,u⟩
 |mp B C xs=>
  let ⟨k,es,a,d,i,p⟩:=l
  exact⟨k,es,a,by simpa using d,ajl i,p⟩
 |it m n seen=>exact l
def awd(a:G->G):∀b:C,(lq a b).al=b.al.map a
 | .any=>rfl
 | .B _=>rfl
 | .I _ _=>rfl
 | .V _=>rfl
 | .S _ _=>rfl
 | .P _ _=>rfl
 | .X _=>rfl
 | .Y _ _ _ _=>rfl
 | .E _ _ _=>rfl
 | .M _=>rfl
 | .L _ _ _ _=>rfl
 | .W _ _ _=>rfl
def LW(b:G->G):∀a:E C,b8 (a.map<|lq b)=(b8 a).map b
 |[]=>rfl
 |d::a=>by simp[b8,awd,LW b a]
def ajm(b:G->G):∀a:E (Bool×E C),dX (a.map λs=>(s.1,s.2.map<|lq b))=(dX a).map b
 |[]=>rfl
 |d::a=>by simp[dX,LW,ajm b a]
def ajn(a:G->G):∀xs:E (E C×E C),lL (xs.map λx=>(x.1.map<|lq a,x.2.map<|lq a))=(lL xs).map a
 |[]=>rfl
 |b::cs=>by simp[lL,LW,ajn a cs]
def awe(d:G->G) b:(pZ d b).al=b.al.map d:=by
 cases b with
 |box E z cs=>exact LW d cs
 |vec E T xs=>rfl
 |dS f a b=>simp[pZ,aC.al,ajm]
 |fz E cs=>exact LW d cs
 |mp g i xs=>exact ajn d xs
 |it m n seen=>rfl
def z0(a:G->G):E (G×aC)->E (G×aC)
 |[]=>[]
 | (id,b)::d=>(a id,pZ a b)::z0 a d
def ajo{g:G->G}{k:G}{b:aC}:∀{fm:E (G×aC)},L k (z0 g fm)=ae b->∃d f,d∈fm.map (·.1)/\g d=k/\(d,f)∈fm/\b=pZ g f
 |[],a=>by cases a
 | (i,x)::fm,a=>by
  simp only[z0,L]at a;split at a
  .rename_i m;cases a;exact⟨i,x,ax,m,ax,J⟩
  .obtain⟨d,f,l,n,p,s⟩:=ajo a;exact⟨d,f,by simp at l;simp[l],n,by simp[p],s⟩
def ajp{fm}(a:(fm.map (·.1)).Nodup){f}{b:aC}(d:(f,b)∈fm):L f fm=ae b:=by
 induction fm with
 |nil=>cases d
 |cons p r g=>
  obtain⟨i,x⟩:=p
  simp only[gM,Af]at a
  simp only[L]
  rcases b9.1 d with e|d
  .cases e;simp
  .have:i≠f:=λe=>a.1 (by subst e;exact kf.2 ⟨_,d,J⟩)
   rw[j this];exact g a.2 d
def HQ{g:G->G}{k:G}{b:aC}:∀{fm:E (G×aC)},(∀i∈fm.map (·.1),∀m∈fm.map (·.1),g i=g m->i=m)->L k fm=ae b->L (g k) (z0 g fm)=ae (pZ g b)
 |[],_,d=>by cases d
 | (i,x)::fm,l,d=>by
  simp only[z0,L]at d⊢;split at d
  .rename_i f;cases d;subst f;simp
  .rename_i f;have n:k∈fm.map (·.1):=by
    clear l f;induction fm with
    |nil=>cases d
    |cons p r s=>
     simp only[L]at d
     split at d
     .rename_i f;subst f;simp
     .simp[s d]
   rw[j (λt=>f<|l i ax k (by simp at n;simp[n]) t)];exact HQ (λa u b v=>l a (kJ _ u) b<|kJ _ v) d
def u5(a:E G):G×aC:=(0,.dS 0 [] (a.map λi=>(ak,[.X i])))
def ajq(g:Gh):∀a:E G,dy g (a.map λi=>(ak,[.X i])) (a.map g.γ)
 |[]=>rfl
 |i::a=>⟨_,_,J,J,ajq g a⟩
def ajr{g:Gh}:∀{a:E G}{f:E aT},dy g (a.map λi=>(ak,[.X i])) f->f=a.map g.γ
 |[],_,b=>b
 |i::a,_,b=>by obtain⟨v,l,rfl,d,k⟩:=b;have d:v=g.γ i:=d;simp[d,ajr k]
def ajs:∀a:E G,dX (a.map λi=>(ak,[.X i]))=a
 |[]=>rfl
 |i::a=>by simp[dX,b8,C.al,ajs a]
section
variable{P:bO}{tt:TT}
def awf(Q:G->G){n}{f}{fn}{dT}{vs vs0}{k}{a7}{fm0 fm0' fm xo}(hf:P.funcs[f]? =ae fn)(hb:fn.body=ae dT)(hN:fn.ntmps=n)
  (A:TR P n dT ⟨dG 0 vs0,u5 (fm0.map (·.1))::fm0,1,[]⟩ (Xy P fn a7<|u5 (fm0.map (·.1))::fm0'))
  (m7:vs=vs0.map (By Q)) (I':fm=z0 Q fm0) (awg:xo=z0 Q fm0')
  (hd:∀d∈fm0.map (·.1),(1<=d/\d<1000000)/\Q d<k) (D:∀i∈fm0.map (·.1),∀B∈fm0.map (·.1),Q i=Q B->i=B)
  (vY:∀d∈cO vs0,d∈fm0.map (·.1)) (oh:∀d b,(d,b)∈fm0->∀B∈b.al,B∈fm0.map (·.1)) (GO:fm0'.map (·.1)=fm0.map (·.1)) (ajt:∀d b,(d,b)∈fm0'->∀B∈b.al,B∈fm0.map (·.1))
  (AY:a7.al=[]) (kd:(fm0.map (·.1)).Nodup:=by decide) (hle:Nat.ble (Z vs0) n=af:=by rfl) (qv:(fn.name != "runtime.NumGoroutine")=af:=by rfl):CX P f vs fm k a7 xo k:=by
 subst m7 I' awg
 refine⟨yv,aN _,?_⟩
 intro F g W T hn lV w
 have awh:fD g (vs0.map<|By Q) T:=T9 _ T 0 T lV (λB hj=>ax) (λt v ht=>w.dH t v<|by simp[St.kn,ht])
 have hle:=cQ hle
 have lV:Z T=Z vs0:=by simpa using lV
 let K:G->aT:=λd=>g.γ<|Q d
 let V:Gh:=⟨g.H,λd=>if d=0 then .func (.func 0) #[] ((fm0.map (·.1)).map K).toArray else K d⟩
 have RK:V.γ 0= .func (.func 0) #[] ((fm0.map (·.1)).map K).toArray:=by simp[V]
 have Y:∀d,d≠0->V.γ d=K d:=λd A=>by simp[V,A]
 have U:∀d∈fm0.map (·.1),d≠0:=λd A=>by have:=(hd d A).1.1;omega
 have xF:gw (λd=>d≠0) ⟨g.H,K⟩ V:=⟨cD.refl _,λd A=>Y d A⟩
 have yP:fD V vs0 T:=by
  have key:∀(xs:E AV)(T:E aT),fD g (xs.map<|By Q) T->(∀d∈cO xs,d≠0)->fD V xs T:=by
   intro xs;induction xs with
   |nil=>intro T A _;exact A
   |cons x xs ih=>
    rintro T ⟨v,a7,rfl,S,h2⟩ hm
    exact⟨v,a7,J,bf.mono xF (λd z=>hm d<|eH _ z)<|W5 S,ih a7 h2<|λd z=>hm d<|gx _ z⟩
  exact key vs0 T awh<|λd z=>U d<|vY d z
 have YV:∀{fm:E (G×aC)}{d:G}{b:aC},L d fm=ae b->d∈fm.map (·.1):=by
  intro fm;induction fm with
  |nil=>intro d b A;cases A
  |cons p l ih=>
   intro d b A
   simp only[L]at A
   split at A
   .rename_i e;subst e;simp
   .have:=ih A;simp at this;simp[this]
 have ry:∀{fm:E (G×aC)}{d:G}{b:aC},L d fm=ae b->(d,b)∈fm:=by
  intro fm;induction fm with
  |nil=>intro d b A;cases A
  |cons p l ih=>
   intro d b A
   simp only[L]at A
   split at A
   .rename_i e;cases A;subst e;simp
   .exact kJ _<|ih A
 have M6:∀d b,L d fm0=ae b->gL F.N g W (Q d) (pZ Q b):=λd b A=>w.cE (Q d) (pZ Q b) (by simp[St.kn,HQ D A])
 let F0:dB:={w0:=W,H0:=g.H,n:=n,own:=λx=>∃d b,L d fm0=ae b/\El.cF (K d)=ae x,k0:=1,γ0:=V.γ}
 have JE:∀x,F0.own x->F.N x/\x<W.heap.size:=λx ⟨d,b,S,h2⟩=>(M6 d b S).block h2
 have qC:∀{X:E (G×aC)}{d:G}{b:aC}{sl:E (G×AV)}{nx:G},St.kn ⟨sl,u5 (fm0.map (·.1))::X,nx,[]⟩ (.m d)=ae (.b b)->(d=0/\b=(u5<|fm0.map (·.1)).2)\/(d≠0/\L d X=ae b):=by
  intro X d b sl nx e;have e1:L d (u5 (fm0.map (·.1))::X)=ae b:=by
   have e0:(L d<|u5 (fm0.map (·.1))::X).map Info.b=ae (.b b):=e;cases A:L d (u5 (fm0.map (·.1))::X)with
   |none=>rw[A]at e0;cases e0
   |some y=>rw[A]at e0;cases e0;rfl
  change (if 0=d then ae (u5<|fm0.map (·.1)).2 else L d X)=ae b at e1;by_cases dT:0=d
  .rw[q dT]at e1;cases e1;exact .inl ⟨dT.symm,J⟩
  .rw[j dT]at e1;exact .inr ⟨λA=>dT A.symm,e1⟩
 have s7:∀t v,L t (dG 0 vs0)=ae v->bf V v ((T.toArray++Array.replicate (fn.ntmps-T.toArray.size) undef).getD t undef)/\∀d∈v.al,d∈cO vs0:=by
  intro t v ht;obtain⟨_,u,hu,hr,h6⟩:=lT vs0 T 0 yP t v ht;have yI:T[t]? =ae u:=vr;have jw:t<Z T:=(qn.1 yI).1;have:(T.toArray++Array.replicate (fn.ntmps-T.toArray.size) undef).getD t undef=u:=by rw[lR,ui yw];simp[yI]
  rw[this];exact⟨hr,h6⟩
 refine calls_of_wp hf hb ?_
 refine wp_mono (A F0 ⟨J,aN _,J,J⟩ V W _ ⟨?_,J,?_,?_,?_,?_,?_,w.sub,⟨J,J,J,aN _,λ_ _ _=>rfl⟩,cD.refl _,λ_ _ _ _=>rfl,λd z=>⟨?_,J⟩⟩)<|λe a W' hq=>?_
 .simp[hN,F0];omega
 .intro t v ht;simp only[St.kn,bS]at ht;obtain⟨x,hx,M⟩:=ht;cases M;exact(s7 t v hx).1
 .intro d b e;rcases qC e with⟨rfl,rfl⟩|⟨hn,hl⟩
  .refine⟨[],_,RK,J,?_⟩;have:=ajq V<|fm0.map (·.1);have e1:(fm0.map (·.1)).map V.γ=(fm0.map (·.1)).map K:=Wr λi hi=>Y i (U i hi)
   rwa[e1]at this
  .refine gL.AF (W6<|M6 d b hl) (λkk I=> .inr ⟨d,b,hl,I⟩) (Y d hn) J ⟨cD.refl _,λB hj=>Y B<|U B<|oh d b (ry hl) B hj⟩
 .intro d pN b b' kk e e' I uc;rcases qC e with⟨rfl,rfl⟩|⟨hn,hl⟩
  .rw[RK]at I;cases I
  .rcases qC e' with⟨rfl,rfl⟩|⟨yU,SV⟩
   .rw[RK]at uc;cases uc
   .rw[Y _ hn]at I;rw[Y _ yU]at uc;exact D d (YV hl) pN (YV SV)<|w.inj _ _ _ _ kk (by simp[St.kn,HQ D hl];rfl) (by simp[St.kn,HQ D SV];rfl) I uc
 .intro key x e d z;show d<1000000*1;have I:∀d∈fm0.map (·.1),d<1000000*1:=λd A=>by have:=(hd d A).1.2;omega
  cases key with
  |m B=>
   cases x with
   |v v=>simp only[St.kn,bS]at e;obtain⟨_,_,M⟩:=e;cases M
   |b b=>
    rcases qC e with⟨rfl,rfl⟩|⟨hn,hl⟩
    .have z:d∈dX []++dX ((fm0.map (·.1)).map λi=>(ak,[C.X i])):=z;rw[ajs]at z;exact I d (by simpa[dX]using z)
    .exact I d<|oh B b (ry hl) d z
  |s t=>
   simp only[St.kn,bS]at e
   obtain⟨y,hy,M⟩:=e
   subst M
   exact I d<|vY d<|(s7 t y hy).2 d z
 .intro d x e;show d<1000000*1;cases x with
  |v v=>simp only[St.kn,bS]at e;obtain⟨_,_,M⟩:=e;cases M
  |b b=>
   rcases qC e with⟨rfl,rfl⟩|⟨hn,hl⟩
   .decide
   .have:=(hd d<|YV hl).1.2;omega
 .have z:d<1:=z;show d<1000000*1;omega
 refine agx ?_ hq
 rintro e W' ⟨v,g1,rfl,hv,S⟩
 have hγ:∀d∈fm0.map (·.1),g1.γ d=K d:=by
  have e0:g1.γ 0=V.γ 0:=(S.fB 0 (o:(0:G)<1)).2;obtain⟨Ox,ws,e1,e2,e3⟩:=S.cE 0 (u5<|fm0.map (·.1)).2 (by simp[St.kn,u5,L]);rw[e0,RK]at e1;have e4:=ajr e3;have e5:((fm0.map (·.1)).map K)=(fm0.map (·.1)).map g1.γ:=by rw[<-e4];injection e1 with _ _ e6;have:=bl Array.toList e6;simpa using this
  intro d z;exact(List.map_inj_left.1 e5 d z).symm
 let g2:Gh:=⟨g1.H,g.γ⟩
 have FN:∀d b,(d,b)∈fm0'->L d fm0'=ae b:=λd b A=>ajp (by rw[GO];exact kd) A
 have O:∀d b,(d,b)∈fm0'->d∈fm0.map (·.1):=λd b A=>by rw[<-GO];exact kf.2 ⟨_,A,J⟩
 have AG:∀d b,(d,b)∈fm0'->gL F0.N g1 W' d b:=λd b A=>S.cE d b (by have ew:d≠0:=U d<|O d b A;simp[St.kn,u5,L,Ne.symm ew,FN d b A])
 have hex:∀d∈fm0.map (·.1),∃b,L d fm0=ae b:=λd z=>by obtain⟨p,hp,rfl⟩:=kf.1 z;exact⟨p.2,ajp kd hp⟩
 have Tp:∀x,F0.N x->F.N x:=λx hx=>by
  rcases hx with hx|hx
  .exact .inl<|bZ w.below.size hx
  .exact(JE x hx).1
 have hM:∀{B b},(St.kn ⟨[(0,a7)],z0 Q fm0',0,[]⟩) (.m B)=ae (.b b)->∃d R,Q d=B/\(d,R)∈fm0'/\b=pZ Q R:=λ{B b} e=>by simp only[St.kn,bS]at e;obtain⟨y,hy,M⟩:=e;cases M;obtain⟨d,R,_,h2,h3,h4⟩:=ajo hy;exact⟨d,R,h2,h3,h4⟩
 have hS:∀{t u},(St.kn ⟨[(0,a7)],z0 Q fm0',0,[]⟩) (.s t)=ae (.v u)->t=0/\u=a7:=λ{t u} e=>by
  simp only[St.kn,L,bS]at e;obtain⟨x,hx,M⟩:=e;cases M;split at hx
  .rename_i e;cases hx;exact⟨e.symm,J⟩
  .cases hx
 refine⟨v,g2,J,J,w.defers,?_,?_,?_,?_,?_,S.sub,?_,w.le.trans S.le,?_,?_⟩
 .intro t u e;obtain⟨rfl,rfl⟩:=hS e;have:=bf.iN hv AY (cD.refl _) g2.γ;simpa[nC,g2]using this
 .intro B b e;obtain⟨d,R,rfl,h3,rfl⟩:=hM e;refine awc (g:=g2) ?_;refine gL.AF (AG d R h3) (λkk I=>Tp kk ?_) (hγ d<|O d R h3).symm J ⟨cD.refl _,λB hj=>(hγ B<|ajt d R h3 B hj).symm⟩;exact((AG d R h3).block I).1
 .intro B j' b b' kk e e' I uc;obtain⟨d,R,rfl,h3,rfl⟩:=hM e;obtain⟨pN,b0',rfl,CK,rfl⟩:=hM e';obtain⟨x,hx⟩:=hex d<|O d R h3;obtain⟨x',Tq⟩:=hex pN<|O pN b0' CK;exact w.inj _ _ _ _ kk (by simp[St.kn,HQ D hx];rfl) (by simp[St.kn,HQ D Tq];rfl) I uc
 .intro key x e d z;cases key with
  |s t=>
   cases x with
   |v u=>obtain⟨rfl,rfl⟩:=hS e;exact aJ z (by simp[Info.al,AY])
   |b b'=>simp only[St.kn,bS]at e;obtain⟨_,_,M⟩:=e;cases M
  |m B=>
   cases x with
   |v v'=>simp only[St.kn,bS]at e;obtain⟨_,_,M⟩:=e;cases M
   |b b'=>
    obtain⟨i,R,rfl,h3,rfl⟩:=hM e
    have z:d∈(pZ Q R).al:=z
    rw[awe]at z
    obtain⟨jL,hq,rfl⟩:=kf.1 z
    exact(hd jL<|ajt i R h3 jL hq).2
 .intro B x e;cases x with
  |v v'=>simp only[St.kn,bS]at e;obtain⟨_,_,M⟩:=e;cases M
  |b b'=>
   obtain⟨i,R,rfl,h3,rfl⟩:=hM e
   exact(hd i<|O i R h3).2
 .refine⟨S.below.os.trans w.below.os,S.below.tape.trans w.below.tape,S.below.output.trans w.below.output,bZ w.below.size S.below.size,λkk I nB=>?_⟩;rw[S.below.block kk (fY I w.below.size) (λho=>?_)]
  .exact w.below.block kk I nB
  .rcases(JE kk ho).1 with h2|h2
   .exact aJ I<|Nat.not_lt.2 h2
   .exact nB h2
 .intro b aF mU nB;show g1.H b aF=F.H0 b aF;rw[S.fresh b aF (fY mU w.below.size) (λho=>?_)]
  .exact w.fresh b aF mU nB
  .rcases(JE b ho).1 with h2|h2
   .exact aJ mU<|Nat.not_lt.2 h2
   .exact nB h2
 .intro d z;exact⟨(w.fB d z).1,(w.fB d z).2⟩
def LX:E (G×aC)->E (G×aC)->Prop
 |[],_=>True
 | (id,b)::a,mem=>L id mem=ae b/\LX a mem
def LX.get{mem:E (G×aC)}:∀{fm:E (G×aC)},LX fm mem->∀d b,L d fm=ae b->L d mem=ae b
 |[],_,_,_,a=>by cases a
 | (i,x)::fm,f,d,b,a=>by
  simp only[L]at a;split at a
  .rename_i g;cases a;subst g;exact f.1
  .exact LX.get f.2 d b a
def awj{d}{g}{u}{fm a mem}{k z i}{A l}(B:a.map (·.1)=fm.map (·.1)):
  St.kn ⟨(d,g)::u,a++mem,z,A⟩=bs (St.kn ⟨u,mem,i,l⟩) ((.s d,ae<|.v g)::(pO a fm++kM k a)):=by
 have b:∀(fm a:E (G×aC)),a.map (·.1)=fm.map (·.1)->∀j,(L j a).isSome=(L j fm).isSome:=by
  intro fm;induction fm with
  |nil=>
   intro a h j;have:a=[]:=by simpa using h
   subst this;rfl
  |cons p g C=>
   intro a h j
   cases a with
   |nil=>cases h
   |cons H D=>
    simp only[gM,Ih]at h
    simp only[L,h.1]
    split
    .rfl
    .exact C D h.2 j
 funext key
 cases key with
 |s t=>
  by_cases e:d=t
  .subst e;simp[St.kn,L,bs,aE]
  .simp[St.kn,L,bs,aE,e,vL,FD,yG]
 |m j=>
  have f:=b fm a B j
  simp only[St.kn,bs,aE,reduceCtorEq,bV,vL,I1,yH,FK]
  cases h2:L j a with
  |none=>
   rw[h2]at f
   have n:(L j fm).isSome=ak:=f.symm
   simp[n]
  |some x=>
   rw[h2]at f
   have n:(L j fm).isSome=af:=f.symm
   simp[n]
def awk{a}{f}{args:E Operand}{d}{is}:∀b∈cH a f++args.flatMap (cH a)++fK a d++fK a is,a.kn b.1=ae b.2:=by
 intro b h;simp only[bg]at h;rcases h with((h|h)|h)|h
 .exact eC a f b h
 .obtain⟨x,_,h⟩:=iY.1 h;exact eC a x b h
 .exact k9 a d b h
 .exact k9 a is b h
end
open Rx
def Rx.Ht.inv{b k}{A}(a:Ht b A)(d:A k≠0):Ht b (K (A k)⁻¹):=by
 let ⟨D,g,h2,l⟩:=a;let ⟨z,m,f⟩:=l k;have n:z≠0:=λe=>by
  subst e;have:(D:Rat)*A k=0:=f;rcases zp.1 this with a|a
  .exact Lw g a
  .exact d a
 refine⟨z,n,m,λi=>?_⟩;rw[kz];split
 .refine⟨D,h2,?_⟩;rw[<-f,mG,X5 _ d,lF]
 .exact⟨0,bm _,dU _⟩
def Rx.Ht.one{a}(b:1<=a):Ht a (K 1):=⟨1,o,b,λi=>by
 rw[kz];split
 .exact⟨1,b,lF _⟩
 .exact⟨0,bm _,dU _⟩⟩
def Rx.Ht.z4{t s}{a}(b:Ht (2^t) (K a))(d:t<32*s):QS s a:=by have:=b.qs (nZ d) 0;rwa[kz,q J]at this
def awl:lx [1]=1:=KK 1
def YW:bM [(1:Rat)]:= .inr (o:(1:Rat)≠0)
def YX n t(a:1<=n):Pz n t [1]:=⟨YW,a,by rw[KK];exact Ht.one<|ko o⟩
def awm{a}{n d}(b:d≠0)(f:Int.natAbs n<=2^a)(g:Int.natAbs d<=2^a):Ht (2^a) (K<|Rat.divInt n d):=⟨d,b,g,λi=>by
 rw[kz];split
 .refine⟨n,f,?_⟩;rw[P5];have:=Lw b;rw[tE,zk,mG,nV _ this,lF]
 .exact⟨0,bm _,dU _⟩⟩
def Rx.Ht.X1{a}{A}(b:Ht a A):Ht a (X 1*A):=by
 let ⟨D,d,h2,f⟩:=b;refine⟨D,d,h2,λi=>?_⟩;rw[kU];split
 .exact f _
 .exact⟨0,bm _,dU _⟩
def aju{a:G}:∀{l:E Rat},(∀x∈l,Ht (2^a) (K x))->Ht (2^((a+1)*Z l)) (lx l)
 |[],_=>by rw[mI];exact Ht.zero<|ko o
 |d::l,b=>by rw[zo];have f:=(b d ax).add (aju (a:=a) (l:=l) λx g=>b x<|kJ _ g).X1;refine f.le ?_;have:=Lz a ((a+1)*Z l) 1;rw[Nat.pow_one]at this;rw[this,iK,Bl,qG];exact eU o Y
def awn{a}{l}{b}(f:∀x∈l,Ht (2^a) (K<|so x)):Pz (b+1) ((a+1)*(b+1)) (BM l b):=by have d:Z ((c (b+1) l).map so)<=b+1:=HB;refine⟨jF _,bZ (wP _) d,?_⟩;rw[BM,tI];refine(aju (a:=a) λx g=>?_).le<|eU o<|ja _ d;obtain⟨y,i,rfl⟩:=kf.1 g;exact f y<|Gy i
def awo{l}{most}(d:∀x∈l,p' x):Pz (most+1) (8*(most+1)) (BN l most):=awn (a:=7) λx f=>by
 obtain⟨y,b,rfl⟩:=kf.1 f;have b:=d y b;refine awm (ag1<|ahL b) ?_ ?_
 .have:BL (zN y)=y.1:=j (o:¬(0:V)%8=7);rw[this];have:=b.1;omega
 .have:x5 (zN y)=p8 y.2.1:=j (o:¬(0:V)%8=6);rw[this];unfold p8;have:=b.2.1;split<;>omega
def du.pz{m}(a:du m):Pz 5 7 m:=⟨a.can,a.l5,a.ht⟩
def du.ne{m}(a:du m):m≠[]:=λe=>by have:=a.l2;rw[e]at this;cases this
def awp{m}(a:du m){l}(b:∀x∈l,p' x):Pz 4 32 (BN l<|Z m-2)/\Z (BN l<|Z m-2)<Z m:=by have d:=a.l2;have f:=a.l5;have p:=awo (most:=Z m-2) b;exact⟨p.le Y Y,by have:=p.len;omega⟩
def Pz.K8{n m t u k}{a b}(d:Pz n t a)(f:Pz m u b)(g:n<=1000)(i:m<=1000)(l:t<32*k)(p:u<32*k)(s:k<=500000000000):aq r 36 [S .q a,S .q b] (S .q<|kZ a b):=
 QR a b (bZ d.len g) (bZ f.len i) (d.qs l) (f.qs p) s
def YY{a b m}{t u}(f:du m)(g:Pz 12 t a)(i:Pz 12 u b)(n:Z a<Z m)(p:Z b<Z m)(v:t+u+200<3200000000000):Pz 4 (t+u+28) (fm a b m)/\(fm a b m).length<Z m/\lx m∣lx (fm a b m)-lx a*lx b/\aq r 19 [S .q a,S .q b,S .q m] (S .q<|fm a b m):=by have x:=f.l5;have z:=f.l2;have k:=xZ (a:=ml a b) f.ne;have l:=Pz.fm g i f.pz f.ne (d:=3) o Y;refine⟨⟨l.can,?_,l.ht.le<|eU o Y⟩,k,Es f.can f.ne,g.ajj i f.pz f.ne (d:=3) (s:=100000000000) o o o Y Y o⟩;show(fm a b m).length<=4;have:(fm a b m).length<Z m:=k;omega
end Go.El
namespace Go.El
open Go Go.Proofs Go.RowKit
def ajv{a}xs ids:∀x∈dz (xs.flatMap (cH a)++fK a ids),x∈(bH xs++cV ids):=λk b=>by
 simp only[dz,fL,bg]at b;rcases b with h|h
 .exact eH _<|eP a xs k h
 .exact gx _<|kg a ids k h
def ajw{b}(xs:E Operand) ids:∀a∈xs.flatMap (cH b)++fK b ids,b.kn a.1=ae a.2:=λa h=>by
 rcases bg.1 h with h|h
 .rcases iY.1 h with⟨z,_,d⟩;exact eC _ z a d
 .exact k9 _ ids a h
section
variable{n:G}{sl sl':E (G×AV)}{mem bT:E (G×aC)}{nx:G}{gd gd':E (G×Bool)}{ops:Array Oper}{draw:Bool}{p:Pr}{ks dA:E Ks}{i i' n0 cu:G}
variable{R:St->Prop}{os:E Oper}{d t:G}{ty:eh}{pos:String}{iB:Array Edge}{dN:E Oper}
def rmk b f(h:runs dE n nx draw ops.toList os i ⟨sl,mem,n0,gd⟩ .t ks=(⟨ae d,.makeMap t none,ty,pos,iB,none⟩::dN,i',⟨sl',bT,cu,gd'⟩,p,dA))
  (g:RG r n ops draw nx (i'+1) dN ⟨(d,.c<|.X<|1000000*nx+1000*i')::sl',(1000000*nx+1000*i',.mp b f [])::bT,cu,gd'⟩ (g5 draw dA ([],[.s d,.m<|1000000*nx+1000*i'])) R)
  (k:p:=by exact Cy) (a:Nat.blt d n=af:=by rfl):RG r n ops draw nx i os ⟨sl,mem,n0,gd⟩ ks R:=
 jJ cp h k (mY (λl=>⟨_,_,aaR l J J (cQ a) J b f _,λ_ h=>gD,by
  funext key;cases key with
  |s j=>
   simp only[St.kn,L,bs,aE,Key.s.injEq,reduceCtorEq,bV]
   by_cases e:d=j<;>simp[e]
  |m j=>
   simp only[St.kn,L,bs,aE,Key.m.injEq,reduceCtorEq,bV]
   by_cases e:1000000*nx+1000*i'=j<;>simp[e],λ_ h=>gD,λ_ h=>by simpa[fR]using h⟩) (mZ g))
def rlk{x a}{H}{b}{g}{m}(k:runs dE n nx draw ops.toList os i ⟨sl,mem,n0,gd⟩ .t ks=(⟨ae d,.lookup t x a H,ty,pos,iB,none⟩::dN,i',⟨sl',bT,cu,gd'⟩,p,dA))
  (T:St.ev ⟨sl',bT,cu,gd'⟩ x=ae (.c<|.X b)) (W:St.ev ⟨sl',bT,cu,gd'⟩ a=ae (.c<|.I g m)) {kt N}{P Q f}(l:L t dE=ae P) (hk:P.kind= .map kt N) (u:L kt dE=ae Q) (z:Q.kind= .int g) (A:L N dE=ae f)
 {xs}(hl:L b bT=ae (.mp ak f.agg xs)) {B}(hr:uq ak g [m] xs=ae B) {v}(hv:CN H f.agg (B.getD<|f.zero.map ZV.qm) B.isSome=ae v)
  (hc:RG r n ops draw nx (i'+1) dN ⟨(d,v)::sl',bT,cu,gd'⟩ (g5 draw dA (bH [x,a]++cV [b],[.s d])) R)
  (hp:p:=by exact Cy) (D:Nat.blt d n=af:=by rfl):RG r n ops draw nx i os ⟨sl,mem,n0,gd⟩ ks R:=
 jJ cp k hp (mY (λC=>⟨_,_,aaS cp C J J (cQ D) J T W l hk u z A hl hr hv _,ajw [x,a] [b],qo ⟨sl',bT,cu,gd'⟩ d v,ajv [x,a] [b],λ_ k=>by simpa[fR]using k⟩)<|mZ hc)
def rmu{x b z}{a}{g}{m}{u}{k}{vc}(l:runs dE n nx draw ops.toList os i ⟨sl,mem,n0,gd⟩ .t ks=(⟨none,.mapUpdate t x b z,ty,pos,iB,none⟩::dN,i',⟨sl',bT,cu,gd'⟩,p,dA))
  (P:St.ev ⟨sl',bT,cu,gd'⟩ x=ae (.c<|.X a)) (Q:St.ev ⟨sl',bT,cu,gd'⟩ b=ae (.c<|.I g m)) (T:St.ev ⟨sl',bT,cu,gd'⟩ z=ae u) (W:rJ u=ae (k,vc)) {kt vt}{H N}(v:L t dE=ae H) (hk:H.kind= .map kt vt) (A:L kt dE=ae N) (B:N.kind= .int g)
 {xs f}(hl:L a bT=ae (.mp ak k xs)) (D:uu ak g [m] [.I g m] vc xs=ae f)
  (hc:RG r n ops draw nx (i'+1) dN ⟨sl',(a,.mp ak k f)::bT,cu,gd'⟩ (g5 draw dA (bH [x,b,z]++cV [a],[.m a])) R)
  (hp:p:=by exact Cy):RG r n ops draw nx i os ⟨sl,mem,n0,gd⟩ ks R:=
 jJ cp l hp (mY (λC=>⟨_,_,aaT cp C J J J P Q T W v hk A B hl D _,ajw [x,b,z] [a],by
  funext key;cases key with
  |s j=>simp[St.kn,bs,aE]
  |m j=>
   simp only[St.kn,L,bs,aE,Key.m.injEq]
   by_cases e:a=j<;>simp[e],ajv [x,b,z] [a],λ_ l=>by simpa[fR]using l⟩) (mZ hc))
end
def RL(P:bO):G->E Field->Bool
 |_,[]=>af
 |off,f::a=>decide (f.offset=off)&&RL P (off+P.cellsOf f.type) a
def z5(P:bO):E eh->G
 |[]=>0
 |t::a=>P.cellsOf t+z5 P a
def yc(P:bO):G->ET->E eh->Bool
 |0,_,_=>ak
 |_+1,_,[]=>ak
 |f+1,T,[t]=>(match P.underlying t with
  |some (.int k)=>(match T with
   | .int d=>decide<|d=k
   |_=>ak)
  |some .bool=>(match T with
   | .bool=>af
   |_=>ak)
  |some (.slice a)=>(match T with
   | .sl b=>yc P f b [a]&&decide (P.cellsOf a=b.n)&&decide (b.n<=P.bytesOf a)
   |_=>ak)
  |some (.struct fs)=>yc P f T (fs.toList.map (·.type))&&RL P 0 fs.toList&&decide (z5 P (fs.toList.map (·.type))=P.cellsOf t)
  |some (.array n a)=>yc P f T (bt n a)&&decide (z5 P (bt n a)=P.cellsOf t)
  |_=>ak)
 |f+1,T,t::g::i=>(match T with
  | .pr A B=>yc P f A [t]&&yc P f B (g::i)
  |_=>ak)
def z6:(T:ET)->T.den->Prop
 | .int k,n=>(Lit.int k n).wf=af
 | .bool,_=>True
 | .z,_=>False
 | .q,_=>False
 | .sl T,xs=>∀x∈xs,z6 T x
 | .pr A B,x=>z6 A x.1/\z6 B x.2
def RM{k n:Type}{f:k->aw n}:∀{l:E k}{g:E n},l.mapM f=ae g->Z g=Z l/\∀(i:G)(x:k),l[i]? =ae x->∃p,g[i]? =ae p/\f x=ae p
 |[],g,d=>by simp only[ajy]at d;cases d;exact⟨J,λi x hx=>by simp at hx⟩
 |a::l,g,d=>by
  rw[Iy]at d;cases m:f a with
  |none=>rw[m]at d;cases d
  |some b=>
   rw[m]at d
   cases hl:l.mapM f with
   |none=>rw[hl]at d;cases d
   |some s=>
    rw[hl]at d
    cases d
    let ⟨h1,h2⟩:=RM hl
    refine⟨zw,λi x hx=>?_⟩
    cases i with
    |zero=>simp only[n9,ar]at hx;subst hx;exact⟨b,J,m⟩
    |succ i=>simpa using h2 i x FF
section
variable{H:Type}{enc:eh×aT->H}{P:bO}{w:World}{base:G}{spare:G->Bool}{held:Bool}
def RN(enc:eh×aT->H)(P:bO)(w:World)(base:G)(spare:G->Bool)(held:Bool):E eh->E aT->E (BW H)->Prop
 |[],cs,ds=>cs=[]/\ds=[]
 |t::i,cs,ds=>∃b f d g,cs=b++f/\ds=d::g/\(∃a ps,nq enc P w base spare held a t b=ae (d,ps))/\RN enc P w base spare held i f g
def ajz{a:G}{g:E aT}:∀{i:E Field}{off:G}{xs:E (BW H×E MemPlace)},RL P off i=af->Z g=off+z5 P (i.map (·.type))->
  (i.mapM λf=>nq enc P w base spare held a f.type<|(az f.offset g).take<|P.cellsOf f.type)=ae xs->RN enc P w base spare held (i.map (·.type)) (az off g) (xs.map (·.1))
 |[],off,xs,_,hl,d=>by simp only[ajy]at d;cases d;simp only[En,z5]at hl⊢;exact⟨vo Y,J⟩
 |f::i,off,xs,ho,hl,d=>by
  simp only[RL,cG,mV]at ho;rw[Iy]at d;simp only[gM,z5]at hl;cases k:nq enc P w base spare held a f.type ((az f.offset g).take<|P.cellsOf f.type)with
  |none=>rw[k]at d;cases d
  |some b=>
   rw[k]at d
   cases hm:(i.mapM λf=>nq enc P w base spare held a f.type<|(az f.offset g).take<|P.cellsOf f.type)with
   |none=>rw[hm]at d;cases d
   |some s=>
    rw[hm]at d
    cases d
    have l:=ajz (off:=off+P.cellsOf f.type) ho.2 Y hm
    rw[ho.1]at k
    refine⟨(az off g).take<|P.cellsOf f.type,az (off+P.cellsOf f.type) g,b.1,s.map (·.1),?_,J,⟨a,b.2,k⟩,l⟩
    rw[<-rF,uj]
def ajA{d n:G}{a:eh}{g:E aT}:∀{m k:G}{xs:E (BW H×E MemPlace)},k+m=n->Z g=n*P.cellsOf a->
  ((List.range' k m).mapM λi=>nq enc P w base spare held d a<|(az (i*P.cellsOf a) g).take<|P.cellsOf a)=ae xs->RN enc P w base spare held (bt m a) (az (k*P.cellsOf a) g) (xs.map (·.1))
 |0,k,xs,p,hl,f=>by simp only[List.range'_zero,ajy]at f;cases f;exact⟨vo (by rw[hl,<-p];exact aN _),J⟩
 |m+1,k,xs,p,hl,f=>by
  rw[EH,Iy]at f;cases l:nq enc P w base spare held d a ((az (k*P.cellsOf a) g).take<|P.cellsOf a)with
  |none=>rw[l]at f;cases f
  |some b=>
   rw[l]at f
   cases hm:((List.range' (k+1) m).mapM λi=>nq enc P w base spare held d a<|(az (i*P.cellsOf a) g).take<|P.cellsOf a)with
   |none=>rw[hm]at f;cases f
   |some s=>
    rw[hm]at f
    cases f
    have t:=ajA (k:=k+1) Y hl hm
    refine⟨(az (k*P.cellsOf a) g).take<|P.cellsOf a,az ((k+1)*P.cellsOf a) g,b.1,s.map (·.1),?_,J,⟨d,b.2,l⟩,t⟩
    rw[Rt,<-rF,uj]
def ajB{b:eh}:∀{n:G}{a:E (BW H)},Z a=n->Et P (bt n b) a=RO P b a
 |0,[],_=>rfl
 |n+1,d::a,h=>by simp only[Aw,Et,RO];rw[ajB (n:=n) eQ]
def ajC{f:eh}{d:BW H}:∀{a:E (BW H)},d∈a->∀n∈d.weights P f,n∈RO P f a
 |x::a,b,n,g=>by
  simp only[RO,bg];rcases b9.1 b with rfl|b
  .exact .inl g
  .exact .inr<|ajC b n g
def aws{b a}i d:YZ (YZ ⟨b,a,none⟩ i) d=⟨b,a+i+d,none⟩:=by unfold YZ;split<;>split<;>simp_all
def ajD(a:eh):∀n,z5 P (bt n a)=n*P.cellsOf a
 |0=>by simp[z5]
 |n+1=>by rw[Aw,z5,ajD a n,Rt,IK]
section
variable{t:eh}{c:E aT}{fuel:G}{d:BW H}{ps:E MemPlace}
def trod_bool(f:P.underlying t=ae .bool)(a:nq enc P w base spare held (fuel+1) t c=ae (d,ps)):∃b,c=[.bool b]:=by
 unfold nq at a;rw[f]at a;rcases c with _|⟨v,_|⟨v2,r⟩⟩
 .simp at a
 .cases v<;>first| (simp at a;done)|exact⟨_,rfl⟩
 .cases v<;>simp at a
def trod_int{k}(b:P.underlying t=ae (.int k))(a:nq enc P w base spare held (fuel+1) t c=ae (d,ps)):∃n,c=[.int k n]/\(Lit.int k n).wf=af:=by
 unfold nq at a;rw[b]at a;rcases c with _|⟨v,_|⟨v2,r⟩⟩
 .simp at a
 .cases v with
  |int f n=>
   simp only at a
   split at a
   .rename_i e;exact⟨n,by rw[e.1],e.2⟩
   .cases a
  |_=>simp at a
 .cases v<;>simp at a
def trod_slice{l}(n:P.underlying t=ae (.slice l))(f:nq enc P w base spare held (fuel+1) t c=ae (d,ps)):c=[.slice none 0 0]\/
  ∃a g k b rest,c=[.slice (ae a) g k]/\g<=k/\d= .slice (b.map (·.1)) rest/\(cy g).mapM (λi=>(w.cells? base (a.add<|i*P.cellsOf l)<|P.cellsOf l).bind<|nq enc P w base spare held fuel l)=ae b:=by
 unfold nq at f
 rw[n]at f
 rcases c with _|⟨v,_|⟨v2,r⟩⟩
 .simp at f
 .cases v with
  |slice a g k=>
   cases a with
   |none=>
    cases g with
    |zero=>cases k with
     |zero=>exact .inl J
     |succ _=>simp at f
    |succ _=>simp at f
   |some a=>
    simp only at f
    split at f
    .rename_i m;refine .inr ⟨a,g,k,?_⟩;cases hm:(cy g).mapM (λi=>(w.cells? base (a.add<|i*P.cellsOf l)<|P.cellsOf l).bind<|nq enc P w base spare held fuel l)with
     |none=>rw[hm]at f;cases f
     |some b=>
      rw[hm]at f
      simp only[Option.bind_some,bS,bQ]at f
      obtain⟨rest,_,rfl,_⟩:=f
      exact⟨b,_,J,m.2.1,J,J⟩
    .cases f
  |_=>simp at f
 .cases v<;>simp at f
def trod_struct{b}(g:P.underlying t=ae (.struct b))(a:nq enc P w base spare held (fuel+1) t c=ae (d,ps)):Z c=P.cellsOf t/\∃xs,(b.toList.mapM λf=>nq enc P w base spare held fuel f.type<|(az f.offset c).take<|P.cellsOf f.type)=ae xs/\d= .agg (xs.map (·.1)):=by
 unfold nq at a;rw[g]at a;simp only at a;split at a
 .rename_i i;simp only[bS,bQ]at a;obtain⟨xs,k,l,_⟩:=a;exact⟨i,xs,k,l.symm⟩
 .cases a
def trod_array{n}{b}(f:P.underlying t=ae (.array n b))(a:nq enc P w base spare held (fuel+1) t c=ae (d,ps)):Z c=P.cellsOf t/\∃xs,((cy n).mapM λi=>nq enc P w base spare held fuel b<|(az (i*P.cellsOf b) c).take<|P.cellsOf b)=ae xs/\d= .agg (xs.map (·.1)):=by
 unfold nq at a;rw[f]at a;simp only at a;split at a
 .rename_i g;simp only[bS,bQ]at a;obtain⟨xs,k,l,_⟩:=a;exact⟨g,xs,k,l.symm⟩
 .cases a
end
def awt{a:Addr}{n}{d}(f:w.cells? base a n=ae d):Z d=n/\∀b(g:b<Z d),w.cell? (a.add b)=ae d[b]:=by
 unfold World.cells? at f;split at f
 .let ⟨i,h2⟩:=RM f;rw[qR]at i;refine⟨i,λb g=>?_⟩;let ⟨y,k,l⟩:=h2 b b<|lp Y;rw[cT g]at k;cases k;exact l
 .cases f
def ajE{b:Type}{Q:G->b->Prop}:∀n,(∀i,i<n->∃x,Q i x)->∃l:E b,Z l=n/\∀i(a:i<Z l),Q i l[i]
 |0,_=>⟨[],J,λi a=>aJ a<|oT i⟩
 |n+1,a=>by
  let ⟨l,h1,h2⟩:=ajE n<|λi d=>a i Y;let ⟨x,hx⟩:=a n<|dO n;refine⟨l++[x],zw,λi d=>?_⟩;rw[List.getElem_append];split
  .rename_i f;exact h2 i f
  .rename_i f;have:i=n:=by simp at d;omega
   subst this;simpa using hx
def HR:∀(f:G)(T:ET)(ts:E eh),yc P f T ts=af->∀(l:E aT)(ds:E (BW H)),RN enc P w base spare held ts l ds->(∀n∈Et P ts ds,n<=reachBytes)->
  ∃x:T.den,de (λb aF=>w.cell? ⟨b,aF,none⟩) T x l/\z6 T x
 |0,_,_,g,_,_,_,_=>by cases g
 |_+1,_,[],g,_,_,_,_=>by cases g
 |f+1,T,t::t'::ts,g,l,ds,hc,z=>by
  cases T with
  |pr A B=>
   simp only[yc,cG]at g
   obtain⟨N,a7,d,s,rfl,rfl,D,h3⟩:=hc
   simp only[Et,bg]at z
   let ⟨x,S,x2⟩:=HR f A [t] g.1 N [d] ⟨N,[],d,[],(iO N).symm,J,D,J,J⟩ (λn p=>by simp only[Et,iO]at p;exact z n<|.inl p)
   let ⟨y,U,q⟩:=HR f B (t'::ts) g.2 a7 s h3<|λn p=>z n<|.inr p
   exact⟨(x,y),⟨N,a7,J,S,U⟩,x2,q⟩
  |_=>simp[yc]at g
 |f+1,T,[t],g,l,ds,hc,z=>by
  obtain⟨N,a7,d,s,rfl,rfl,⟨v,ps,D⟩,rfl,rfl⟩:=hc;rw[iO];have z:∀n∈d.weights P t,n<=reachBytes:=λn p=>z n (by simp only[Et,iO];exact p)
  cases v with
  |zero=>cases D
  |succ v=>
   unfold yc at g
   cases hu:P.underlying t with
   |none=>rw[hu]at g;cases g
   |some u=>
    rw[hu]at g
    cases u with
    |bool=>
     cases T with
     |bool=>let ⟨b,hb⟩:=trod_bool hu D;exact⟨b,hb,M⟩
     |_=>simp at g
    |int k=>
     cases T with
     |int k'=>
      have s:k'=k:=aX g
      subst s
      let ⟨n,p,Q⟩:=trod_int hu D
      exact⟨n,p,Q⟩
     |_=>simp at g
    |slice s=>
     cases T with
     |sl K=>
      simp only[cG,mV]at g
      let ⟨⟨F,g2⟩,O⟩:=g
      rcases trod_slice hu D with rfl|⟨a,len,cap,elems,rest,rfl,hlc,rfl,R⟩
      .exact⟨[],⟨_,J,none,0,J,aN _,ax,.inl J⟩,λx C=>by cases C⟩
      .let ⟨m1,m2⟩:=RM R;rw[qR]at m1;have V:(Z elems+Z rest)*P.bytesOf s<=reachBytes:=z _ (by simp[Y0,hu]);have hwe:∀n∈RO P s (elems.map (·.1)),n<=reachBytes:=λn p=>z n (by simp[Y0,hu,p])
       have key:∀i,i<len->∃x:K.den,∃l:E aT,(Z l=K.n/\de (λb aF=>w.cell? ⟨b,aF,none⟩) K x l/\∀j(hj:j<Z l),w.cell? ((a.add<|i*K.n).add j)=ae l[j])/\z6 K x:=by
        intro i I;let ⟨y,U,q⟩:=m2 i i<|lp I;cases W:w.cells? base (a.add<|i*P.cellsOf s) (P.cellsOf s)with
        |none=>rw[W]at q;cases q
        |some l=>
         rw[W]at q
         let ⟨l1,l2⟩:=awt W
         have hy:y.1∈elems.map (·.1):=kf.2 ⟨y,Nx U,J⟩
         let ⟨x,S,x2⟩:=HR f K [s] F l [y.1] ⟨l,[],y.1,[],(iO l).symm,J,⟨v,y.2,q⟩,J,J⟩ (λn p=>by simp only[Et,iO]at p;exact hwe n<|ajC hy n p)
         rw[g2]at l1 l2
         exact⟨x,l,⟨l1,S,l2⟩,x2⟩
       let ⟨xs,q1,q2⟩:=ajE len key;refine⟨xs,⟨_,J,ae a,cap,by rw[q1],Y,?_,?_⟩,λx C=>?_⟩
       .have e1:Z xs*K.n<=(Z elems+Z rest)*P.bytesOf s:=jQ Y O;simp only[reachBytes]at V;omega
       .by_cases h0:len=0
        .left;exact gA Y
        .right;obtain⟨b,off,L⟩:=a;have X:L=none:=by let ⟨l,⟨c1,_,c3⟩,_⟩:=q2 0 Y;have:=K.B5;have:=c3 0 Y;simpa[YZ]using World.cell?_spot this
         subst X;refine⟨b,off,J,λi I=>?_⟩;let ⟨l,⟨c1,c2,c3⟩,_⟩:=q2 i I;refine⟨l,c1,c2,λj hj=>?_⟩;have:=c3 j hj;rw[aws]at this;exact this
       .let ⟨i,I,s⟩:=CB C;let ⟨_,_,Q⟩:=q2 i I;rw[<-s];exact Q
     |_=>simp at g
    |struct fs=>
     simp only[cG,mV]at g
     let ⟨⟨F,g2⟩,O⟩:=g
     let ⟨l1,xs,C,hd⟩:=trod_struct hu D
     subst hd
     have:=ajz (off:=0) g2 Y C
     rw[qx]at this
     exact HR f T _ F N _ this (λn p=>z n<|by simpa[Y0,hu]using p)
    |array n s=>
     simp only[cG,mV]at g
     let ⟨F,O⟩:=g
     let ⟨l1,xs,C,hd⟩:=trod_array hu D
     subst hd
     rw[Mg]at C
     have Dc:(xs.map (·.1)).length=n:=by rw[c7,(RM C).1];simp
     have:=ajA (n:=n) (k:=0) Y (by rw[l1,<-O,ajD]) C
     rw[pM,qx]at this
     refine HR f T _ F N _ this<|λm R=>z m ?_
     rw[ajB Dc]at R
     simpa[Y0,hu]using R
    |_=>simp at g
def ajF{f}{T}{t}{v}{d:BW H}{ps}(g:yc P f T [t]=af)(i:DataW.Trod enc P w base spare held t v d ps)(k:∀n∈d.weights P t,n<=reachBytes):
  ∃x:T.den,de (λb l=>w.cell? ⟨b,l,none⟩) T x v.cells.toList/\z6 T x:=by
 let ⟨fuel,m⟩:=i
 refine HR f T [t] g _ [d] ⟨_,[],d,[],(iO _).symm,J,⟨fuel,ps,m⟩,J,J⟩ (λn a=>?_)
 simp only[Et,iO]at a
 exact k n a
def awv{f:Reach}{t:eh}{v:aT}(d:(match P.underlying t with|some (.struct _)=>af|some (.array _ _)=>af|_=>ak)=af)(a:Value.okWide P w f base t v):∃b,v= .agg b:=by
 unfold Value.okWide at a;split at d
 .rename_i e;rw[e]at a;let ⟨b,a,_⟩:=a;exact⟨b,a⟩
 .rename_i e;rw[e]at a;let ⟨b,a,_⟩:=a;exact⟨b,a⟩
 .cases d
def aww{g}{T}{x:T.den}{b}(d:de g.H T x (Value.agg b).cells.toList):bf g (.a<|av T x) (.agg b):=⟨b.toList,ax,Ae T x _ d⟩
end
end Go.El
end
