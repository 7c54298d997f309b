/- Own work; no condition. -/
import Derived.Test.YtceihkmakfdcnaaGreatC29
set_option linter.all false
set_option maxHeartbeats 16000000
set_option maxRecDepth 100000
open Bool renaming false->ah
open Go.El renaming cS->e,rr->U,re->M,bI->h,cI->c,rb->R,jz->w,NB->F
open Go.Proofs.Tryz renaming prog->O,func76->amc
open Int renaming toNat->af,natAbs->aC
open List renaming length->Z,getD->I,range->bJ
open List.range renaming loop->aaw
open _root_ renaming Nat->G,List->E,Rat->L,Int->V
namespace Go.El
open Go Go.Proofs Rx
def oE:G->E L->E L->E L->E L->E L×E L
 |0,x,_,s,_=>(x,s)
 |k+1,x,a,s,t=>if a=[]then(x,s)else oE k a (bZ x a) t (eW s<|ml (cV x a) t)
def Fu:G->E L->E L->E L->E L->Prop
 |0,_,a,_,_=>a=[]
 |k+1,x,a,s,t=>a=[]\/(w O 116 [e .q x,e .q a] (e .q<|cV x a)/\w O 34 [e .q (cV x a),e .q a] (e .q<|ml (cV x a) a)/\w O 117 [e .q x,e .q<|ml (cV x a) a] (e .q<|bZ x a)/\
   w O 34 [e .q (cV x a),e .q t] (e .q<|ml (cV x a) t)/\w O 117 [e .q s,e .q<|ml (cV x a) t] (e .q<|eW s<|ml (cV x a) t)/\Z a<=100/\Fu k a (bZ x a) t (eW s<|ml (cV x a) t))
def alY:hJ (((1:V)):L)=[1]:=SA
def ay1{k0}{a b f Q g u1 pe u p d v:E L}(k:Fu k0 b a [] [1])(hr:oE k0 b a [] [1]=(f,Q))(ha:a≠[])(hb:b≠[])(r0:f≠[])(la:Z a<=100)(lb:Z b<=100)(lr:Z f<=1000)(T:I f (Z f-1) 0≠0){q}(hq:q<=200000000000)(W:∀i,QS q (I f i 0))
  (A:w O 66 [e .q a,e .q b] (e .q a)) (B:w O 29 [e .q f] (e .q g)) (D:w O 43 [aQ (I f (Z f-1) 0)⁻¹,e .q Q] (e .q u1))
  (SS:w O 116 [e .q b,e .q g] (e .q pe)) (CB:w O 66 [e .q u1,e .q pe] (e .q u))
  (H:w O 34 [e .q u,e .q a] (e .q p)) (N:w O 117 [e .q g,e .q p] (e .q d)) (Fi:w O 116 [e .q d,e .q b] (e .q v)):
  w O 64 [e .q a,e .q b] (.t [(ah,[.S .q g]),(ah,[.S .q u]),(ah,[.S .q v])]):=by
 refine aK Tryz.func64 ?_
 have X:=cF.2 ha
 have c:=cF.2 hb
 refine U J<|h<|R<|rg 23 J J (λk=>?_)<|λj=>?_
 .have k:(Z a:V)=0:=dw k;exact aF k Y
 refine M J<|F J (λh2=>pO)<|λ_=>aE ?_
 refine h<|U J<|F J (λk=>?_)<|λj=>aE ?_
 .have k:(Z b:V)=0:=dw k;exact aF k Y
 have C:=RQ (((1:V)):L)
 rw[alY]at C
 refine U J<|R<|rc J J A<|M J ?_
 refine R<|rl .q [] J J (M J ?_)
 refine R<|rc J J (nH 1 S S)<|rc J J C<|M J ?_
 refine h<|ay<|bq (α:=G×(E L×E L)×E L×E L) (λx=>⟨[(0,e .q a),(1,e .q b),(9,e .q x.2.1.1),(10,e .q x.2.1.2),(11,e .q x.2.2.1),(12,e .q x.2.2.2)],[],20,[]⟩) (λx=>Fu x.1 x.2.1.1 x.2.1.2 x.2.2.1 x.2.2.2/\oE x.1 x.2.1.1 x.2.1.2 x.2.2.1 x.2.2.2=(f,Q)) (λx=>x.1) (k0,(b,a),[],[1]) ⟨k,hr⟩ aN ?_
 clear k hr
 rintro⟨z,⟨x,l⟩,s,t⟩ ⟨h2,m⟩
 simp only at h2 m
 refine h<|U J<|F J (λn=>?_)<|λn=>?_
 .have K:l≠[]:=λo=>by subst o;cases n
  clear n;cases z with
  |zero=>exact aF h2 K
  |succ z=>
   rw[Fu]at h2
   rcases h2 with h2|⟨c1,c2,c3,c4,c5,c6,h5⟩
   .exact aF h2 K
   rw[oE,y K]at m
   generalize eW s (ml (cV x l) t)=ZR at*
   generalize ml (cV x l) t=P at*
   generalize ml (cV x l) l=P2 at*
   generalize cV x l=q' at*
   generalize bZ x l=qV at*
   refine di<|aS<|ay<|R<|rc J J c1<|M J ?_
   refine R<|rc J J c2<|rc J J c3<|M J ?_
   refine R<|rc J J c4<|rc J J c5<|M J ?_
   exact U J<|U J<|U J<|rt J<|fF<|a4 (z,(l,qV),t,ZR) ⟨h5,m⟩ (dV z) aN
 .have n:l=[]:=by have n:¬(Z l:V)>0:=bc n;exact gx Y
  subst n;have m:(x,s)=(f,Q):=by
   cases z with
   |zero=>exact m
   |succ z=>rwa[oE,g5 J]at m
  obtain⟨rfl,rfl⟩:=Prod.mk.inj m;exact bs<|aS<|R<|rc J J (Im x r0 lr)<|rc J J (ah6 _ T (W _) Y)<|M J<|R<|rc J J B<|M J<|R<|rc J J D<|rc J J SS<|rc J J CB<|M J<|R<|rc J J H<|rc J J N<|rc J J Fi<|M J<|cN J
def ay2{x b}(d:bp x)(f:bp b)(g:b≠[]):eW x (ml (cV x b) b)=bZ x b:=by refine nP (jV _) (oZ d) ?_;have e2:=Cm (a:=x) f g;have i:lx (bZ x b)=lx x-lx (cV x b)*lx b:=Aa ZS;rw[Cs,uy,i]
def Pz.aau{n m t u s}{a b}(d:Pz n t a)(f:Pz m u b)(l:n<=500)(p:m<=500)(g:t<32*s)(i:u<32*s)(k:s<=200000000000):w O 117 [e .q a,e .q b] (e .q<|eW a b):=
 ah5 a b (br d.len Y) (br f.len Y) (d.qs g) (f.qs i) Y k
def alZ{s B W C:G}(Q:s<=50000000000)(hC:C<=12)(hW:W+4*B+6<32*s):∀(k t f:G)(x g v T:E L),Pz 12 t x->Pz 12 t g->(g=[]\/Z g<Z x)->Z g<k->Pz 12 f v->Pz 12 f T->Z v+Z g<=C->Z T+Z x<=C->(t+1)*3^Z x<=B->(f+6*B)*2^k<=W->
  Fu k x g v T/\Pz 12 B (oE k x g v T).1/\Pz 12 W (oE k x g v T).2/\(oE k x g v T).2.length<=C
 |0,_,_,_,_,_,_,_,_,_,cA,_,_,_,_,_,_=>by omega
 |k+1,t,f,a,b,u,n,l,m,p,hk,hu,D,hlu,hln,hB,hw=>by
  have p3:0<3^Z a:=gG S;have j:t+1<=B:=br (qv _ p3) hB;have o:0<2^(k+1):=gG S;have r:f+6*B<=W:=br (qv _ o) hw;by_cases e:b=[]
  .rw[Fu,oE,q e];exact⟨.inl e,l.le (aL _) Y,hu.le Y Y,(Y:Z u<=C)⟩
  .have p:=p.resolve_left e;have F:=cF.2 e;have J:Z a+1-Z b=Z a-Z b+1:=Y;have X:(t+(t+1)*(Z a+1-Z b)+1)*3^Z b<=B:=by rw[J];refine br (dS _<|akO (t:=t) (d:=Z a-Z b) Y) ?_;rw[mz,<-jm,Wi<|ye p];exact hB
   have M:0<3^Z b:=gG S;have O:t+(t+1)*(Z a+1-Z b)+1<=B:=br (qv _ M) X;have H:Pz 12 (t+(t+1)*(Z a+1-Z b)) (cV a b):=(l.quo m e<|aL _).le (kw l.len)<|aL _;have R:Pz 12 (t+(t+1)*(Z a+1-Z b)) (bZ a b):=l.rem m e<|aL _;have hE:=l.xk m e (s:=s) (aL _) S S Y;have U:=Rx.Ik a b;have V:=Ip (Av a b) D.can;have z:=H.mul D S;have z:Pz 12 (t+(t+1)*(Z a+1-Z b)+f+4) (ml (cV a b) n):=⟨z.can,Y,z.ht⟩;have sJ:=SQ u<|ml (cV a b) n;have i:=hu.sub z;have htT:t<=t+(t+1)*(Z a+1-Z b):=RM _ _;generalize t+(t+1)*(Z a+1-Z b)=T at*;have A:(2*f+T+5+6*B)*2^k<=W:=by refine br ?_ hw;rw[fG,gA (2^k) 2,<-mz];exact dS _ Y
   have p5:0<2^k:=gG S;have hw2:=br (qv _ p5) A;have i:Pz 12 (2*f+T+5) (eW u<|ml (cV a b) n):=⟨i.can,Y,i.ht.le<|dD S Y⟩;have P:Z (bZ a b)<Z b:=nS e;have c:=l.aau (H.mul m S) (s:=200000000000) S S Y Y S;rw[ay2 l.can m.can e]at c;let ⟨r1,r2,r3,r4⟩:=alZ Q hC hW k T (2*f+T+5) b (bZ a b) n (eW u<|ml (cV a b) n) (m.le (aL _) Y) R (.inr P) Y (D.le (aL _) Y) i Y Y X A;rw[Fu,oE,y e];exact⟨.inr ⟨Mf Y Q l.can e hE,H.MF m (K:=200000000000) S S Y S,c,H.MF D (K:=200000000000) S S Y S,hu.aau z (s:=200000000000) S S Y Y S,kw m.len,r1⟩,r2,r3,r4⟩
def al0{A0 M0:Rx}:∀(k:G)(x b s t:E L),bp x->bp b->Z b<k->M0∣lx x-lx s*A0->M0∣lx b-lx t*A0->M0∣lx (oE k x b s t).1-lx (oE k x b s t).2*A0
 |0,_,_,_,_,_,_,p,_,_=>by omega
 |k+1,x,b,s,t,hx,d,u,f,h2=>by
  rw[oE];split
  .exact f
  .rename_i g;have l:Z (bZ x b)<Z b:=nS g;refine al0 k b (bZ x b) t _ d (oZ hx) Y h2 ?_;have e2:=Cm (a:=x) d g;have m:lx (bZ x b)=lx x-lx (cV x b)*lx b:=Aa ZS;rw[Cs,uy,m];have n:(lx x-lx (cV x b)*lx b)-(lx s-lx (cV x b)*lx t)*A0=(lx x-lx s*A0)-lx (cV x b)*(lx b-lx t*A0):=by
    simp[Rx.mul_sub,Rx.ov,Rx.dc];refine Rx.ext λi=>?_
    simp[nK];grind
   rw[n];exact dvd_sub f<|dE h2 _
def al1:∀(k:G)(x b s t:E L),bp x->bp b->Z b<k->bp (oE k x b s t).1/\lx (oE k x b s t).1∣lx x/\lx (oE k x b s t).1∣lx b/\(x≠[]\/b≠[]->(oE k x b s t).1≠[])
 |0,_,_,_,_,_,_,f=>by omega
 |k+1,x,b,s,t,hx,g,m=>by
  rw[oE];split
  next d=>exact⟨hx,nO _,by rw[d,ku];exact uf _,λf=>f.resolve_right λf=>f d⟩
  next d=>have i:Z (bZ x b)<Z b:=nS d;let ⟨d1,d2,d3,d4⟩:=al1 k b (bZ x b) t (eW s<|ml (cV x b) t) g (oZ hx) Y;refine⟨d1,?_,d2,λ_=>d4<|.inl d⟩;rw[Cm (a:=x) g d];exact iA (dE d2 _) d3
def ay3{t}{a m}(g:cZ m)(he:Ez m t a)(a0:a≠[])(ht:7<=t)(ht2:t<=30000000):w O 15 [e .q a,e .q m] (.t [(ah,[.S .q (rZ a m)]),(ah,[.I .i64 0])]):=by
 have z:Pz 12 t a:=CG he.1;have T:=he.2;have X:=g.l5;have b:Pz 12 t m:=g.pz.le S ht;obtain⟨s,hs⟩:∃s,s=50000000000:=⟨_,J⟩;obtain⟨B,hB⟩:∃B,B=(t+1)*243:=⟨_,J⟩;obtain⟨W,hW⟩:∃W,W=(t+6*B)*32:=⟨_,J⟩;have l:s<=50000000000:=Y;have f:m≠[]:=g.ne;have oM:=cF.2 f;have WM:=cF.2 a0;have Z2:(t+1)*3^Z m<=B:=by rw[hB];exact gD _<|br (dD S X) S
 have Z3:(t+6*B)*2^Z m<=W:=by rw[hW];exact gD _<|br (dD S X) S
 have BQ:bZ a m=a:=by rw[bZ,q T]
 have A:=Cq (s:=s) Y l z.can f<|z.xk b f (d:=0) Y S S Y;rw[BQ]at A;let ⟨r1,j,o,r4⟩:=alZ (s:=s) (W:=W) (B:=B) (C:=Z m+1) l Y Y (Z m) t t m a [] [1] b z (.inr T) T (Pz.nil _ _) (vJ 12 t S) (by rw[qT];omega) YI Z2 Z3;let ⟨g1,g2,g3,g4⟩:=al1 (Z m) m a [] [1] b.can z.can T;have n:=g4<|.inl f;have v:=((ZT b.can g.gJ z.can a0 T).symm.of_dvd g2).symm.unit g3;rw[fj g1]at v;have p:=al0 (A0:=lx a) (M0:=lx m) (Z m) m a [] [1] b.can z.can T (by rw[ku,Rx.dy,Rx.sub_zero];exact nO _) (by rw[IG,Rx.c8];exact kM _ _);obtain⟨⟨r,H⟩,hR⟩:∃x,oE (Z m) m a [] [1]=x:=⟨_,J⟩;rw[hR]at j o r4 g1 n v p;simp only at j o r4 g1 n v p;obtain⟨c,rfl⟩:∃c,r=[c]:=by
  match r,v with
  |[c],_=>exact⟨c,J⟩
 have u:c≠0:=g1.ne n;have y:Ht (2^B) (K c⁻¹):=j.ht.inv (k:=0) u;have N:dA [c]=[1]:=by refine nP (qC _) II ?_;rw[vE n,yp,yp];show K c⁻¹ *K c=K 1;rw[<-eN,k8 c u]
 have D:=Me (k:=200000000000) [c] au (λi=>j.qs Y i) (λ_=>u) S;rw[N]at D;have P:=o.Ax y;have lA:=Fk c⁻¹ H;have G:=Mf (s:=s) Y l b.can S<|b.xk (vJ 1 t S) S (d:=12) (by have:=b.len;simp;omega) S S Y;rw[akR b.can]at G;have hu:Pz 12 (W+B+(t+1)*2) (bZ (dJ c⁻¹ H) m):=P.rem b f (d:=2) Y;have hp:=hu.mul z S;have Q:=(vJ 1 t S).sub hp;have hb:=ay1 (k0:=Z m) (q:=200000000000) r1 hR a0 f n Y Y au u S (λi=>j.qs Y i) A D (Md (k:=200000000000) c⁻¹ H (kw o.len) (y.uI Y) (λi=>o.qs Y i) S) G (Cq (s:=s) Y l P.can f<|P.xk b f (d:=2) Y S S Y) (hu.MF z (K:=200000000000) S S Y S) ((vJ 1 t S).aau (s:=200000000000) hp S S Y Y S)<|Mf (s:=s) Y l Q.can f<|Q.xk b f (d:=30) (kw Q.len) S S Y;have ny:bZ (dJ c⁻¹ H) m=rZ a m:=Z1 g ⟨hu.can,nS f,by
  have e1:lx m∣lx (dJ c⁻¹ H)*lx a-1:=by have h2:lx m∣K c⁻¹ *(lx [c]-lx H*lx a):=dE p _;rw[Rx.mul_sub,yp,<-eN,k8 c u,lU]at h2;rw[xj,Rx.dc];exact m9 h2
  refine mJ ?_ e1;have:=RX (a:=dJ c⁻¹ H) b.can f;rw[<-Rx.ov];exact mI this _⟩
 rw[ny]at hb;refine aK Tryz.func15 ?_;refine U J<|h<|U J<|F J (λcA=>?_)<|λcA=>aE<|R<|rc J J hb<|M J<|U J<|cN J
 .have cA:(Z a:V)=0:=dw cA;exact aF cA Y
def ay4{m a}{t}(b:cZ m)(f:Ez m t a)(k:t<=400000000000):w O 20 [e .q a,e .q [0,1],e .q m] (e .q<|fm a [0,1] m):=by have g:=f.1.mul CH S;refine aK Tryz.func20 ?_;exact U J<|R<|rc J J (f.1.MF CH (K:=100000000000) S S Y S)<|rc J J (Cq (s:=50000000000) S S (uz a [0,1]) b.ne (g.xk b.pz b.ne (d:=8) (s:=50000000000) (kw g.len) S S Y))<|M J<|cN J
def ay5{m a}{t}(f:cZ m)(b:Ez m t a)(i:t<=400000000000):w O 66 [e .q a,e .q m] (e .q a):=by have g:=Cq (s:=50000000000) S S b.1.can f.ne<|b.1.xk f.pz f.ne (d:=8) (s:=50000000000) (kw b.1.len) S S Y;rwa[show bZ a m=a by rw[bZ,q b.2]]at g
def al2{m a}{t}(l:cZ m)(v:Ez m t a)(D:t<=10000):w O 25 [e .q a,e .q m] (aQ<|gn a m<|Z m-1):=by
 have C:=l.l5;have H:=l.l2;have n:=yO l v Y;refine aK Tryz.func25 ?_;refine U J<|R<|rc J J (nH 0 S S)<|M J<|R<|rc J J (ay5 l v Y)<|M J<|kp ⟨[(4,.c<|.P 0 0),(5,.c<|.P 1001000 0)],[(0,.box 44 0 zR),(1001000,.box 44 0<|av .q<|gn a m<|Z m-1)],20,[]⟩ ?_<|λu=>?_
 .exact U J<|cN J
 refine U J<|ay<|bq (α:=G) (λi=>⟨[(1,e .q m),(4,.c<|.P 0 0),(5,.c<|.P 1001000 0),(6,e .q<|be a m i),(7,c i)],[(0,.box 44 0 zR),(1001000,.box 44 0<|av .q<|gn a m i)],4,[]⟩) (λi=>i<=Z m-1) (λi=>Z m-i) 0 (bg _) aN ?_;intro i x;refine h<|U J<|F J (λd=>?_)<|λd=>?_
 .have d:i<Z m-1:=by have d:(i:V)<(Z m:V)-1:=aV d;omega
  have hp:2^i<=16:=br (dD S (Y:i<=4)) S;have A:QS 16032 (gn a m i):=((MH (a:=a) (m:=m) (s:=1000)<|λi x=>(n i x).1.qs Y i) i Y).le aas;have b:=Yu (k:=16032) (gn a m i) (I (be a m i) i 0) A (((n i Y).1.qs (s:=1000) Y i).le S) S;refine aE<|h<|ay<|kp ⟨[(1,e .q m),(4,.c<|.P 0 0),(5,.c<|.P 1001000 0),(6,e .q<|be a m i),(7,c i)],[(0,.box 44 0 zR),(1001000,.box 44 0<|av .q<|gn a m<|i+1)],9,[]⟩ ?_<|λf=>?_
  .exact cG<|rc J J (nH 0 S S)<|rc J J (nH 1 S S)<|rl .q [((0:V):L),((1:V):L)] J J (rc J J (ay4 l (n i Y) Y)<|M J<|bP<|rt J<|a4 (i+1) Y (Y:Z m-(i+1)<Z m-i) aN)
  refine U J<|F J (λg=>?_)<|λg=>?_
  .have b:w O 42 [aQ (gn a m i),aQ<|I (be a m i) (af<|(i:V)) 0] (aQ<|gn a m<|i+1):=by rw[cC];exact b
   have g:i<Z (be a m i):=by have g:(i:V)<(Z (be a m i):V):=aV g;omega
   exact cG<|rc J J b (M J<|eD f aN) (hp:=aH)
  .have g:¬i<Z (be a m i):=by have g:¬(i:V)<(Z (be a m i):V):=bc g;omega
   have B:I (be a m i) i 0=0:=by rw[aO,iw Y];rfl
   refine di<|eD f<|wk (bK J) ⟨bR J,bE J ?_,j⟩;rw[gn,B,nM]
 .have d:i=Z m-1:=by have d:¬(i:V)<(Z m:V)-1:=bc d;omega
  subst d;exact bs<|eD u aN
def pa(p a:E L)(k:G):G->L
 |0=>0
 |i+1=>pa p a k i+(if(i+1)%2=0 then-(I a (k-(i+1)) 0*I p (i+1) 0)else I a (k-(i+1)) 0*I p (i+1) 0)
def fS(p:E L):G->E L
 |0=>[1]
 |k+1=>fS p k++[pa p (fS p k) (k+1) (k+1)/(((k+1:G):V):L)]
def aav(p:E L):∀k,Z (fS p k)=k+1
 |0=>rfl
 |k+1=>by rw[fS,iV,aav p k];rfl
def lL(a:E L)(n i:G):L:=if(n-i)%2=1 then-(I a (n-i) 0)else I a (n-i) 0
def pZ(f:G->L):G->L
 |0=>0
 |n+1=>pZ f n+f n
def yV(a:Mx)(n:G):G->Mx
 |0=>a
 |k+1=>λi b=>pZ (λs=>yV a n k i s*a s b) n
def Fv(a:Mx)(n:G):L:=pZ (λi=>a i i) n
section
variable{m a:E L}
def al3(b:cZ m):∀k,El m (rY a m k [1])
 |0=>⟨(vJ 4 7 S).can,by have:=b.l2;show 1<_;omega⟩
 |k+1=>MW b _ _
def ay6(d:cZ m)(b:El m a):rY a m 1 [1]=a:=by show fm [1] a m=a;rw[axB];exact ayX d b.1 b.2
def uJ{n i}(b:i<n) d:c9 (dB a m n) n i d=I (be a m i) d 0:=by rw[c9,q b,xu b]
def al4(b:cZ m)(g:El m a){n:G}(p:Z m=n+1):∀(k i d:G),i<n->yV (c9 (dB a m n) n) n k i d=I (be (rY a m (k+1) [1]) m i) d 0
 |0,i,d,l=>by rw[yV,ay6 b g,uJ l]
 |k+1,i,d,l=>by
  have v:=b.l5;have z:=b.l2;have A:=(Fo b (al3 (a:=a) b<|k+1) i).2;
  show pZ (λs=>yV (c9 (dB a m n) n) n k i s*c9 (dB a m n) n s d) n=I (be (fm (rY a m (k+1) [1]) a m) m i) d 0;rw[<-dN,aam b (al3 (a:=a) b<|k+1) g i,aal];simp only[du,dN];have f:∀s,n<=s->I (be (rY a m (k+1) [1]) m i) s 0=0:=λs B=>by rw[aO,iw Y];rfl
  have u:n=1\/n=2\/n=3\/n=4:=Y;simp only[λs=>al4 b g p k i s l];generalize be (rY a m (k+1) [1]) m i=x at*;rcases u with rfl|rfl|rfl|rfl
  .rw[f 1 S,f 2 S,f 3 S];simp only[pZ,uJ (S:0<1)];grind
  .rw[f 2 S,f 3 S];simp only[pZ,uJ (S:0<2),uJ (S:1<2)];grind
  .rw[f 3 S];simp only[pZ,uJ (S:0<3),uJ (S:1<3),uJ (S:2<3)];grind
  .simp only[pZ,uJ (S:0<4),uJ (S:1<4),uJ (S:2<4),uJ (S:3<4)];grind
def al5{x:E L}:∀n,gn x m n=pZ (λi=>I (be x m i) i 0) n
 |0=>rfl
 |n+1=>by rw[gn,al5 n];rfl
def al6{f g:G->L}:∀n,(∀i,i<n->f i=g i)->pZ f n=pZ g n
 |0,_=>rfl
 |n+1,b=>by rw[pZ,pZ,al6 n λi d=>b i Y,b n (dV n)]
def ay7(b:cZ m)(d:El m a){n}(f:Z m=n+1) k:Fv (yV (c9 (dB a m n) n) n k) n=gn (rY a m (k+1) [1]) m n:=by rw[al5,Fv];exact al6 n λi g=>al4 b d f k i i g
end
def ay8(f:Mx){n}(i:1<=n)(l:n<=4) p(d:∀k,k<n->I p (k+1) 0=Fv (yV f n k) n):(bJ<|n+1).map (lL (fS p n) n)=xw f n:=by
 simp[aO]at d;have g:n=1\/n=2\/n=3\/n=4:=Y;rcases g with rfl|rfl|rfl|rfl
 .simp[bJ,aaw,fS,pa,lL,d 0 S,Fv,yV,pZ,xw];grind
 .simp[bJ,aaw,fS,pa,lL,d 0 S,d 1 S,Fv,yV,pZ,xw,iU];grind
 .simp[bJ,aaw,fS,pa,lL,d 0 S,d 1 S,d 2 S,Fv,yV,pZ,xw,jY,iU];grind
 .simp[bJ,aaw,fS,pa,lL,d 0 S,d 1 S,d 2 S,d 3 S,Fv,yV,pZ,xw,eH,nh,jY,iU];grind
def nj(a m:E L)(i:G):L:=if i=0 then 0 else gn (rY a m i [1]) m (Z m-1)
def ay9{m a}(b:cZ m)(d:El m a){n}(f:Z m=n+1):(bJ<|n+1).map (lL (fS ((bJ<|n+1).map<|nj a m) n) n)=qL a m:=by
 have g:=b.l2;have i:=b.l5;have e:Z m-1=n:=Y;rw[qL,e];refine ay8 _ Y Y _ λk l=>?_
 rw[ay7 b d f,aO,ju,k7 Y];show nj a m (k+1)=_;rw[nj,y Y,e]
def al7{s}(b:1<=s){l}(d:∀x∈l,QS s x) i:QS s (I l i 0):=by
 by_cases a:i<Z l
 .rw[aO,df a];exact d _<|sx a
 .rw[aO,iw Y];exact QS.zero b
section
variable{p:E L}(hp:∀i,QS 16032 (p.getD i 0))
include hp
def aax{B:G}(hB:16032<=B){a:E L}(b:∀i,QS B (I a i 0))(k:G):∀i,QS (2^i*(2*B+2)-1) (pa p a k i)
 |0=>QS.zero Y
 |i+1=>by
  have d:1<=2^i:=gG S;have g:2*B+2<=2^i*(2*B+2):=kw<|dS (2*B+2) d
  have f:QS (2*B) (if(i+1)%2=0 then-(I a (k-(i+1)) 0*I p (i+1) 0)else I a (k-(i+1)) 0*I p (i+1) 0):=by
   have:=(b<|k-(i+1)).mul<|(hp<|i+1).le hB;split
   .exact this.neg
   .exact this
  have:=(aax hB b k i).add<|f.le (Y:2*B<=2^i*(2*B+2)-1);exact this.le (by rw[fG,gA (2^i) 2,mz];omega)
def al8:∀k,k<=4->∀i,QS (16032*65^k) (I (fS p k) i 0)
 |0,_,i=>al7 (l:=[1]) S (λx f=>by rw[iW.1 f];exact QS.int (n:=1) S S) i
 |k+1,s,i=>by
  have d:=al8 k Y;have g:16032<=16032*65^k:=qv _<|gG S;rw[fS,fG];rw[aO];by_cases h:i<Z (fS p k)
  .rw[C6 h,<-aO];exact(d i).le Y
  rw[C7 Y];by_cases h2:i-Z (fS p k)=0
  .rw[h2];show QS _ (pa p (fS p k) (k+1) (k+1)/_);have a:=aax hp g d (k+1)<|k+1;have b:2^(k+1)<=16:=br (dD S (Y:k+1<=4)) S;have:=dS (2*(16032*65^k)+2) b;have a:QS (32*(16032*65^k)+31) (pa p (fS p k) (k+1)<|k+1):=a.le Y;have m:QS (32*(16032*65^k)+31) (((k+1:G):V):L)⁻¹ :=(QS.int Y Y).inv (λe=>by have:=Ia.1 e;omega);rw[s'];exact(a.mul m).le Y
  .rw[iw cd];exact QS.zero Y
end
section
variable{m a:E L}{t:G}
def aay(b:cZ m)(d:Ez m t a)(f:t<=400):∀k,k<=4->Ez m (7+k*428) (rY a m k [1])
 |0,_=>alb b 7
 |k+1,g=>((aay b d f k Y).mul b d Y).le Y
def ay'(b:cZ m)(d:Ez m t a)(f:t<=400) i(g:i<=4):QS 16032 (nj a m i):=by
 have n:=b.l5;unfold nj;split
 .exact QS.zero S
 .have hp:2^(Z m-1)<=16:=br (dD S (Y:Z m-1<=4)) S;exact (MH (s:=1000) (λj l=>(yO b (aay b d f i g) Y j l).1.qs Y j) (Z m-1) Y).le aas
def aza(hm:cZ m)(ha:Ez m t a)(ht:t<=400):w O 81 [e .q a,e .q m] (e .q<|qL a m):=by
 obtain⟨n,hn⟩:∃n,Z m=n+1:=⟨Z m-1,MG⟩;have h5:=hm.l5;have h2:=hm.l2;have Hm:Z m-1=n:=Y;have en:((Z m:V)-1)=(n:V):=Y;have eC:=ay9 hm ha.el hn;have hP:∀i,i<=4->QS 16032 (nj a m i):=λi D=>ay' hm ha ht i D
 have hz:=λk hk=>aay hm ha ht k hk
 have hT:∀k,k<n->w O 25 [e .q (rY a m (k+1) [1]),e .q m] (aQ<|nj a m<|k+1):=λk hk=>by have:=al2 hm (hz (k+1) Y) Y;rwa[nj,y Y]
 have hM:∀k,k<n->w O 20 [e .q (rY a m k [1]),e .q a,e .q m] (e .q<|rY a m (k+1) [1]):=λk hk=>ak9 hm (hz k Y) ha Y Y
 have p0:nj a m 0=0:=rfl;refine aK Tryz.func81 ?_;have N:=RQ (((1:V)):L);rw[alY]at N;refine U J<|U J ?_;rw[en];refine R<|rc J J (nH 0 S S)<|gV .q [((0:V):L)] J J (M J<|R<|rc J J (nH 1 S S)<|rc J J N<|M J<|kp ⟨[(5,c n),(6,.c<|.X 2001000)],[(2001000,.vec 44 .q<|(bJ<|n+1).map<|nj a m)],30,[]⟩ ?_<|λl=>?_)
 .have u:∀i,QS 16032 (I ((bJ<|n+1).map<|nj a m) i 0):=al7 S λx hx=>by let ⟨i,D,d⟩:=kd.1 hx;have:=qO.1 D;rw[<-d];exact hP i Y
  have hpl:Z ((bJ<|n+1).map<|nj a m)=n+1:=au;refine dv 2001000 J J J ?_;generalize (bJ<|n+1).map (nj a m)=p at*;refine R<|rc J J (nH 1 S S)<|gV .q [((1:V):L)] J J (M J<|kp ⟨[(5,c n),(9,.c<|.X 30001000)],[(30001000,.vec 44 .q<|fS p n)],60,[]⟩ ?_<|λl=>?_)
  .refine dv 30001000 J J J ?_;have hel:=aav p n;generalize fS p n=d at*;refine R<|gV .q [] J J (M J<|kp ⟨[(16,.c<|.X 60000000)],[(60000000,.vec 44 .q<|(bJ<|n+1).map<|lL d n)],80,[]⟩ ?_ (λl=>?_))
   .refine dv 60000000 J J J ?_;rw[eC];exact U J<|cN J
   refine U J<|ay<|bq (α:=G) (λb=>⟨[(9,e .q d),(16,.c<|.X 60000000),(17,c<|(n:V)-(b:V))],[(60000000,.vec 44 .q<|(bJ b).map<|lL d n)],70,[]⟩) (λb=>b<=n+1) (λb=>n+1-b) 0 (bg _) (wk ⟨sR J,sR J,sE J ?_,j⟩ ⟨bR J,j⟩) ?_
   .show c (n:V)=c ((n:V)-((0:G):V));rw[(Y:(n:V)-((0:G):V)=n)]
   intro b hj;have Qn:Z ((bJ b).map<|lL d n)=b:=au;refine h<|U J<|F J (λf=>?_)<|λf=>?_
   .have f:b<n+1:=by have f:(n:V)-(b:V)>=0:=aV f;omega
    have ei:af ((n:V)-(b:V))=n-b:=Y;have ej:(n:V)-(b:V)-1=(n:V)-((b+1:G):V):=Y;refine aE<|h<|ay<|U J<|F J (λg=>?_)<|λg=>?_
    .have g:(n-b)%2=1:=by have g:((n:V)-(b:V)).tmod 2=1:=dw g;rw[k5 Y]at g;omega
     have s:=ahQ<|I d (af<|(n:V)-(b:V)) 0;have H: -(I d (af<|(n:V)-(b:V)) 0)=lL d n b:=by rw[lL,q g,ei]
     rw[H]at s;refine cG<|rc J J s (rl .q [lL d n b] J J (ra J J J J J J J J J ?_ ?_<|M J ?_)) (hp:=aH)
     .show(Z ((bJ b).map<|lL d n)+1+(Z ((bJ b).map<|lL d n)+1)/4+192)*64<=_;omega
     .show(Z ((bJ b).map<|lL d n)+1)*4<=_;omega
     refine bP<|rt J (hp:=aH) ?_;rw[ej];refine a4 (b+1) (Y:b+1<=n+1) (Y:n+1-(b+1)<n+1-b)<|Wk.trans (wk (st':=⟨[(9,e .q d),(16,.c<|.X 72007000),(17,c<|(n:V)-((b+1:G):V))],[(72007000,.vec 44 .q<|(bJ<|b+1).map<|lL d n)],90,[]⟩) (bK J) ⟨bE J ?_,j⟩)<|Wk.trans (gZ 60000000 72007000 J J J) aN;rw[Il (lL d n) b]
    .have g:¬(n-b)%2=1:=λh5=>by have g:¬((n:V)-(b:V)).tmod 2=1:=xl g;rw[k5 Y]at g;omega
     have H:I d (af<|(n:V)-(b:V)) 0=lL d n b:=by rw[lL,y g,ei]
     refine cG<|rl .q [I d (af<|(n:V)-(b:V)) 0] J J (ra J J J J J J J J J ?_ ?_<|M J ?_) (hp:=aH)
     .show(Z ((bJ b).map<|lL d n)+1+(Z ((bJ b).map<|lL d n)+1)/4+192)*64<=_;omega
     .show(Z ((bJ b).map<|lL d n)+1)*4<=_;omega
     refine bP<|rt J (hp:=aH) ?_;rw[ej];refine a4 (b+1) (Y:b+1<=n+1) (Y:n+1-(b+1)<n+1-b)<|Wk.trans (wk (st':=⟨[(9,e .q d),(16,.c<|.X 72006000),(17,c<|(n:V)-((b+1:G):V))],[(72006000,.vec 44 .q<|(bJ<|b+1).map<|lL d n)],90,[]⟩) (bK J) ⟨bE J ?_,j⟩)<|Wk.trans (gZ 60000000 72006000 J J J) aN;rw[Il (lL d n) b,H]
   .have f:b=n+1:=by have f:¬(n:V)-(b:V)>=0:=bc f;omega
    subst f;exact bs<|eD l aN
  refine U J<|ay<|bq (α:=G) (λb=>⟨[(5,c n),(6,e .q p),(9,.c<|.X 30001000),(10,c ((b+1:G):V))],[(30001000,.vec 44 .q<|fS p b)],40,[]⟩) (λb=>b<=n) (λb=>n-b) 0 (bg _) aN ?_;intro b hj;have hel:=aav p b;refine h<|U J<|F J (λf=>?_)<|λf=>?_
  .have f:b<n:=by have f:((b+1:G):V)<=(n:V):=aV f;omega
   have hb:16032<=16032*65^b:=qv _<|gG S;have Q:65^b<=274625:=br (dD S (Y:b<=3)) S;have hB:16032*65^b<=4402788000:=gD 16032 Q;have heq:=al8 u b Y;have W:=aax u hb heq<|b+1;obtain⟨B,o⟩:∃B,B=16032*65^b:=⟨_,J⟩;rw[<-o]at hb hB heq W;clear o Q;have r:∀i,i<=4->QS 140889216063 (pa p (fS p b) (b+1) i):=λi D=>(W i).le (by have Sx:2^i<=16:=br (dD S D) S;have:=dS (2*B+2) Sx;omega)
   refine aE<|h<|ay<|R<|rc J J (nH 0 S S)<|M J<|kp ⟨[(5,c n),(6,e .q p),(9,.c<|.X 30001000),(10,c ((b+1:G):V)),(11,.c<|.P 41001000 0)],[(41001000,.box 44 0<|av .q<|pa p (fS p b) (b+1)<|b+1),(30001000,.vec 44 .q<|fS p b)],50,[]⟩ ?_<|λE=>?_
   .have EZ:=ahR (k:=140889216063) (pa p (fS p b) (b+1)<|b+1) ((((b+1:G):V)):L) (λd=>by have:=vD d;have:=Ia.1 this;omega) (r _ Y) (QS.int S Y) S;refine R<|rc J J (nH ((b+1:G):V) Y Y)<|rc J J EZ<|M J<|cG (rl .q [pa p (fS p b) (b+1) (b+1)/((((b+1:G):V)):L)] J J (ra J J J J J J J J J ?_ ?_<|M J ?_))
    .show(Z (fS p b)+1+(Z (fS p b)+1)/4+192)*64<=_;omega
    .show(Z (fS p b)+1)*4<=_;omega
    refine bP<|rt J (hp:=aH)<|a4 (b+1) (Y:b+1<=n) (Y:n-(b+1)<n-b)<|Wk.trans (wk (st':=⟨[(5,c n),(6,e .q p),(9,.c<|.X 51003000),(10,c ((b+1+1:G):V))],[(51003000,.vec 44 .q<|fS p<|b+1)],70,[]⟩) (bK J) ⟨bR J,j⟩)<|Wk.trans (gZ 30001000 51003000 J J J) aN
   refine U J<|ay<|bq (α:=G) (λi=>⟨[(5,c n),(6,e .q p),(9,.c<|.X 30001000),(10,c ((b+1:G):V)),(11,.c<|.P 41001000 0),(12,c ((i+1:G):V))],[(41001000,.box 44 0<|av .q<|pa p (fS p b) (b+1) i),(30001000,.vec 44 .q<|fS p b)],43,[]⟩) (λi=>i<=b+1) (λi=>b+1-i) 0 (bg _) aN ?_;intro i D;refine h<|U J<|F J (λz=>?_)<|λz=>?_
   .have z:i<b+1:=by have z:((i+1:G):V)<=((b+1:G):V):=aV z;omega
    have K:=ER (k:=B) (I (fS p b) (b-i) 0) (I p (i+1) 0) (heq _) ((u _).le hb) Y;have e1:af (((b+1:G):V)-((i+1:G):V))=b-i:=Y;have e2:af (((i+1:G):V))=i+1:=Y;have K:w O 41 [aQ (I (fS p b) (af<|((b+1:G):V)-((i+1:G):V)) 0),aQ<|I p (af<|((i+1:G):V)) 0] (aQ<|I (fS p b) (b-i) 0*I p (i+1) 0):=by rw[e1,e2];exact K
    refine aE<|h<|ay<|R<|rc J J K (M J ?_) (hp:=aH);obtain⟨T,v⟩:∃T,T=(if(i+1)%2=0 then-(I (fS p b) (b+1-(i+1)) 0*I p (i+1) 0)else I (fS p b) (b+1-(i+1)) 0*I p (i+1) 0):=⟨_,J⟩;have hTs:pa p (fS p b) (b+1) (i+1)=pa p (fS p b) (b+1) i+T:=by rw[v];rfl
    have Zt:QS 140889216063 T:=by
     have h0:=(heq<|b+1-(i+1)).mul<|(u<|i+1).le hb;have h0:QS 140889216063 (I (fS p b) (b+1-(i+1)) 0*I p (i+1) 0):=h0.le Y;rw[v];split
     .exact h0.neg
     .exact h0
    have A:=Yu (pa p (fS p b) (b+1) i) T (r i Y) Zt S;rw[<-hTs]at A;refine kp ⟨[(5,c n),(6,e .q p),(9,.c<|.X 30001000),(10,c ((b+1:G):V)),(11,.c<|.P 41001000 0),(12,c ((i+1:G):V)),(13,.c<|.P 44011000 0)],[(44011000,.box 44 0<|av .q T),(41001000,.box 44 0<|av .q<|pa p (fS p b) (b+1) i),(30001000,.vec 44 .q<|fS p b)],47,[]⟩ ?_<|λC=>?_
    .exact cG<|rc J J A<|M J<|bP<|rt J<|a4 (i+1) (Y:i+1<=b+1) (Y:b+1-(i+1)<b+1-i) aN
    refine U J<|F J (λg=>?_)<|λg=>?_
    .have g:(i+1)%2=0:=by have g:(((i+1:G):V)).tmod 2=0:=dw g;rw[k5 Y]at g;omega
     have s:=ahQ<|I (fS p b) (b-i) 0*I p (i+1) 0;have H: -(I (fS p b) (b-i) 0*I p (i+1) 0)=T:=by rw[v,q g,(Y:b+1-(i+1)=b-i)]
     rw[H]at s;exact cG<|rc J J s<|M J<|eD C aN
    .have g:¬(i+1)%2=0:=λd=>by have g:¬(((i+1:G):V)).tmod 2=0:=xl g;rw[k5 Y]at g;omega
     have H:I (fS p b) (b-i) 0*I p (i+1) 0=T:=by rw[v,y g,(Y:b+1-(i+1)=b-i)]
     rw[H];exact di<|eD C aN
   .have z:i=b+1:=by have z:¬((i+1:G):V)<=((b+1:G):V):=bc z;omega
    subst z;exact bs<|eD E aN
  .have f:b=n:=by have f:¬((b+1:G):V)<=(n:V):=bc f;omega
   subst f;exact bs<|eD l aN
 refine U J<|ay<|bq (α:=G) (λi=>⟨[(0,e .q a),(1,e .q m),(5,c n),(6,.c<|.X 2001000),(7,e .q<|rY a m i [1]),(8,c ((i+1:G):V))],[(2001000,.vec 44 .q<|(bJ<|i+1).map<|nj a m)],5,[]⟩) (λi=>i<=n) (λi=>n-i) 0 (bg _) aN ?_;intro i D;have Qn:Z ((bJ<|i+1).map<|nj a m)=i+1:=au;refine h<|U J<|F J (λf=>?_)<|λf=>?_
 .have f:i<n:=by have f:((i+1:G):V)<=(n:V):=aV f;omega
  refine aE<|h<|ay<|R<|rc J J (hM i f)<|M J<|cG<|rc J J (hT i f)<|rl .q [nj a m (i+1)] J J (ra J J J J J J J J J ?_ ?_<|M J ?_)
  .show(Z ((bJ<|i+1).map<|nj a m)+1+(Z ((bJ<|i+1).map<|nj a m)+1)/4+192)*64<=_;omega
  .show(Z ((bJ<|i+1).map<|nj a m)+1)*4<=_;omega
  refine bP<|rt J (hp:=aH)<|a4 (i+1) (Y:i+1<=n) L6<|Wk.trans (wk (st':=⟨[(0,e .q a),(1,e .q m),(5,c n),(6,.c<|.X 7005000),(7,e .q<|rY a m (i+1) [1]),(8,c ((i+1+1:G):V))],[(7005000,.vec 44 .q<|(bJ<|i+1+1).map<|nj a m)],20,[]⟩) (bK J) ⟨bE J ?_,j⟩)<|Wk.trans (gZ 2001000 7005000 J J J) aN;rw[Il (nj a m) (i+1)]
 .have f:i=n:=by have f:¬((i+1:G):V)<=(n:V):=bc f;omega
  subst f;exact bs<|eD l aN
end
def Rx.Ht.dvd{t}{A D}(f:Mo A)(g:Mo D)(k:D∣A)(l:Ht (2^t) A)(m:sz A<=8):Ht (2^(t+10)) D:=by
 let ⟨c,c0,c1,n⟩:=l;have s:CD (aC c) (2^t) A:=⟨Y,λi=>by
  let ⟨z,a,b⟩:=n i;by_cases hp:0<=c
  .exact⟨z,a,by rw[show((aC c:G):L)=(((aC c:G):V):L)from J,(Y:((aC c:G):V)=c)];exact b⟩
  .refine⟨-z,by rw[Qa];exact a,?_⟩;rw[show((aC c:G):L)=(((aC c:G):V):L)from J,(Y:((aC c:G):V)= -c),EX,EX,<-b,Rat.neg_mul]⟩
 let ⟨d,_,d2,d3⟩:=CD.div f g k s;have p:0<2^t:=gG S;have u:2^(sz A-1)<=2^7:=dD S Y;have v:2^(sz A-1)*(sz A*2^t)<=2^7*(8*2^t):=mA u<|dS _ m;have x:2^7*(8*2^t)=2^(t+10):=by rw[jm];omega
 have B:d<=aC c:=wZ Y d2;have C:2^t<=2^(t+10):=dD S Y;exact d3.ht Y Y
def azc{t l}(ht:t<=50000){d f}(p:bp d)(hf:bp f)(lc:Z d<=8)(u:Ht (2^t) (lx d))(D:bD (lx f))(H:Mo (lx f))(m:lx d=pk (lx f) (l+1)):w O 80 [e .q d] (e .q f):=by
 have mC:Mo (lx d):=by rw[m];exact H.pk _
 have v:=H.pk l;have x:lx d=pk (lx f) l*lx f:=m;have C:=eS v.ne H.ne;rw[<-x]at C;have hI2:=D.1;have hP1:1<=sz (pk (lx f) l):=rq λm=>v.ne<|Et m
 have N:=fj p;have P:2<=Z d:=Y;have Q:d≠[]:=λm=>by rw[m]at P;cases P
 have z:dA d=d:=by
  refine nP (qC d) p ?_;have h1:I d (Z d-1) 0=1:=by rw[<-dN,<-N];exact mC
  rw[vE Q,h1,(SA:((1:L))⁻¹ =1),show K (1:L)=1 from J,Rx.c8]
 have td:Ht (2^(t+4)) (lx<|qB d):=by rw[Yx d];exact(u.bH (n:=9) Y Y).le (by rw[jm,gA];exact gD _ S)
 have ld:=Rv d;have c3:=Me (k:=100000000) d Y (λi=>u.qs (mO Y) i) (λ_=>p.ne Q) Y;rw[z]at c3;let ⟨g,c2,qg,gg⟩:=ZB (t:=t+4) (a:=d) (b:=qB d) Y p (akh p P) Q Y Y (u.le<|dD S Y) td;have B:lx g=pk (lx f) l:=by
  let ⟨g1,g2,g3,AI,Cz,g4⟩:=gg;have ed:lx (qB d)=pk (lx f) l*(K ((l+1:G):L)*bH (lx f)):=by rw[Yx d,m,H4]
  refine g1.eq v ?_ ?_
  .have T:Co (lx f) (bH<|lx f):=(D.or _).resolve_left D.H5;obtain⟨W,X,hW⟩:=T;have hk:((l+1:G):L)≠0:=λh0=>by have:=Ia.1 (show(((l+1:G):V):L)=0 from h0);omega
   have e1:pk (lx f) l=W*lx d+X*K ((l+1:G):L)⁻¹ *lx (qB d):=by rw[x,ed];have e2:X*K ((l+1:G):L)⁻¹ *(pk (lx f) l*(K ((l+1:G):L)*bH (lx f)))=(K ((l+1:G):L)⁻¹ *K ((l+1:G):L))*(pk (lx f) l*(X*bH (lx f))):=fC;have e3:W*(pk (lx f) l*lx f)=pk (lx f) l*(W*lx f):=fC;rw[e2,qy hk,Rx.c8,e3,<-Rx.fN,hW,Rx.fO]
   rw[e1];exact iA (dE g2 _)<|dE g3 _
  .rw[g4];refine iA (dE ?_ _) (dE ?_ _)
   .rw[x];exact mH _ _
   .rw[ed];exact mH _ _
 have o:Mo (lx g):=by rw[B];exact v
 have r:g≠[]:=λm=>by rw[m,ku]at o;exact o.ne J
 have A:lx g∣lx d:=by rw[B,x];exact mH _ _
 have y:=fj qg;rw[B]at y;have eq1:cV d g=f:=by refine nP (Av d g) hf ?_;have:=Am p qg r A;rw[x,B]at this;refine(yt v.ne ?_).symm;rw[<-this];ac_rfl
 have c4:=Mf (s:=100000000) Y Y p r<|Sy p qg r Y Y u (u.dvd mC o A Y) (by have:(t+10+1)*(Z d+1-Z g)<=(t+10+1)*9:=gD _ Y;omega) Y;rw[eq1]at c4;refine aK Tryz.func80 ?_;refine U J<|h<|U J<|F J (λcA=>?_)<|λ_=>aE ?_
 .have cA:(Z d:V)<2:=aV cA;exact aF cA Y
 exact R<|rc J J c3<|rc J J (ah8 (k:=100000000) d Y (λi=>u.qs (mO Y) i) Y Y)<|rc J J c2<|rc J J c4<|M J<|cN J
def hB(s:G)(x:L):Prop:=Ht (2^s)<|K x
def hB.le{s u}{x}(a:hB s x)(k:s<=u):hB u x:=Rx.Ht.le a<|dD S k
def hB.add{s u}{x a}(b:hB s x)(k:hB u a):hB (s+u+1) (x+a):=by have:=Rx.Ht.add b k;rw[<-vp,<-jm,gA,<-fG]at this;exact this
def hB.mul{s u}{x a}(b:hB s x)(k:hB u a):hB (s+u) (x*a):=by have:=Rx.Ht.S6 b k;rwa[<-jm]at this
def hB.neg{s}{x}(a:hB s x):hB s (-x):=Rx.Ht.aad a
def hB.sub{s u}{x a}(b:hB s x)(k:hB u a):hB (s+u+1) (x-a):=by rw[Xt];exact b.add k.neg
def hB.one s:hB s 1:=Rx.Ht.one<|gG S
def hB.zero s:hB s 0:=by show Ht _ (K 0);rw[jT];exact Ht.zero<|gG S
def hB.cons{s u}{x}{l}(a:hB s x)(k:Ht (2^u) (lx l)):Ht (2^(s+u+1)) (lx<|x::l):=by have:=Rx.Ht.add a k.X1;rw[<-jm,gA,<-fG]at this;rw[B1];exact this
def hB.d2{s}{a b f d}(g:hB s a)(i:hB s b)(k:hB s f)(l:hB s d):hB (4*s+1) (iU a b f d):=((g.mul l).sub<|i.mul k).le Y
def hB.d3{s}{a b k d l f g m i}(z:hB s a)(A:hB s b)(B:hB s k)(n:hB s d)(p:hB s l)(t:hB s f)(u:hB s g)(v:hB s m)(x:hB s i):hB (15*s+5) (jY a b k d l f g m i):=
 (((z.mul<|hB.d2 p t v x).sub<|A.mul<|hB.d2 n t u x).add<|B.mul<|hB.d2 n p u v).le Y
def hB.dF{s}{A:Mx}(a:∀i b,hB s (A i b)):hB (64*s+23) (eH A):=
 (((((a 0 0).mul<|hB.d3 (a 1 1) (a 1 2) (a 1 3) (a 2 1) (a 2 2) (a 2 3) (a 3 1) (a 3 2)<|a 3 3).sub<|(a 0 1).mul<|hB.d3 (a 1 0) (a 1 2) (a 1 3) (a 2 0) (a 2 2) (a 2 3) (a 3 0) (a 3 2)<|a 3 3).add<|(a 0 2).mul<|hB.d3 (a 1 0) (a 1 1) (a 1 3) (a 2 0) (a 2 1) (a 2 3) (a 3 0) (a 3 1)<|a 3 3).sub<|(a 0 3).mul<|hB.d3 (a 1 0) (a 1 1) (a 1 2) (a 2 0) (a 2 1) (a 2 2) (a 3 0) (a 3 1)<|a 3 2).le Y
def aze{A:Mx}(d:∀i k,hB 100 (A i k)){n}(m:1<=n)(p:n<=4):∃t,t<=20000/\Ht (2^t) (lx<|xw A n):=by
 have nil:Ht (2^0) (lx ([]:E L)):=by rw[ku];exact Ht.zero S
 have o:=(hB.one 0).cons nil;have l:n=1\/n=2\/n=3\/n=4:=Y;have f:=λa b=>hB.d2 (d a a) (d a b) (d b a)<|d b b
 have g:=λa b c=>hB.d3 (d a a) (d a b) (d a c) (d b a) (d b b) (d b c) (d c a) (d c b)<|d c c
 rcases l with rfl|rfl|rfl|rfl
 .exact⟨_,S,(d 0 0).neg.cons o⟩
 .exact⟨_,S,(f 0 1).cons<|((d 0 0).add<|d 1 1).neg.cons o⟩
 .exact⟨_,S,(g 0 1 2).neg.cons<|(((f 0 1).add<|f 0 2).add<|f 1 2).cons<|(((d 0 0).add<|d 1 1).add<|d 2 2).neg.cons o⟩
 .exact⟨_,S,(hB.dF d).cons<|(((((g 0 1 2).add<|g 0 1 3).add<|g 0 2 3).add<|g 1 2 3).neg).cons<|((((((f 0 1).add<|f 0 2).add<|f 0 3).add<|f 1 2).add<|f 1 3).add<|f 2 3).cons<|((((d 0 0).add<|d 1 1).add<|d 2 2).add<|d 3 3).neg.cons o⟩
section
variable{m a:E L}
def azf(b:cZ m)(g:Ez m 40 a) i d:hB 100 (c9 (dB a m<|Z m-1) (Z m-1) i d):=by
 have k:=b.l5;by_cases f:i<Z m-1
 .rw[uJ f];have h:=(yO b g S i Y).1.ht.S5 d;rw[dN]at h;exact hB.le h Y
 .rw[c9,y f];split
  .exact hB.one _
  .exact hB.zero _
def azg(b:cZ m)(d:Ez m 40 a):∃t,t<=20000/\Ht (2^t) (lx<|qL a m):=by have f:=b.l2;have g:=b.l5;exact aze (azf b d) Y Y
def azh(b:cZ m)(f:Ez m 40 a):w O 27 [e .q a,e .q m] (e .q<|yR a m)/\∀i,QS 1000 (I (yR a m) i 0):=by
 have A:=b.l2;have B:=b.l5;let ⟨k,C,p,h⟩:=alQ (a:=a) b;obtain⟨d,rfl⟩:∃d,k=d+1:=⟨k-1,Y⟩;let ⟨i,j3⟩:=ayW b f.el h;let ⟨c1,s⟩:=alW (a:=a) b;have g:Mo (lx<|yR a m):=by rw[Mo,fj h.can,h.len];exact h.top
 have l:bp (qL a m):= .inr (by rw[c1,s];decide);let ⟨t,ht,n⟩:=azg b f;have x:Mo (lx<|qL a m):=by rw[j3];exact g.pk _
 have D:=fj l;have z:=n.dvd x g ⟨pk (lx<|yR a m) i,by rw[j3];rfl⟩ Y;refine⟨?_,λi=>z.qs (mO Y) i⟩;refine aK Tryz.func27 ?_;exact U J<|R<|rc J J (aza b f S)<|rc J J (azc (t:=t) Y l h.can Y n (h.gJ b p) g j3)<|M J<|cN J
end
def vM(n:G)(a b:G->L):G->G->L
 |0=>b
 |i+1=>λd=>(if d=0 then 0 else vM n a b i (d-1))-vM n a b i (n-1)*a d
def M3(n:G)(a b:G->L):Mx:=λi j=>if i<n then(if j<n then vM n a b i j else 0)else if i=j then 1 else 0
def r6(n:G)(a b:G->L):L:=eH<|M3 n a b
def aaz n(a b:G->L) i d:vM n a b (i+1) d=(if d=0 then 0 else vM n a b i (d-1))-vM n a b i (n-1)*a d:=rfl
def aaA(n:G)(d b:G->L)(f:L):∀i a,vM n d (λa=>f*b a) i a=f*vM n d b i a
 |0,_=>rfl
 |i+1,a=>by
  rw[aaz,aaz,aaA n d b f i<|n-1];by_cases g:a=0
  .rw[q g,q g];grind
  .rw[y g,y g,aaA n d b f i<|a-1];grind
def aaB{n}(i:1<=n)(k:n<=4)(a b:G->L) d:r6 n a (λf=>d*b f)=gR d n*r6 n a b:=by
 have g:n=1\/n=2\/n=3\/n=4:=Y;rcases g with rfl|rfl|rfl|rfl;all_goals
  unfold r6 eH M3
  simp[aaA]
  generalize vM _ a b=M
  simp[nh,jY,iU,gR]
  grind
def azi{n}(i:1<=n)(k:n<=4)(d b:G->L)(f:∀a,1<=a->b a=0):r6 n d b=gR (b 0) n:=by
 have g:n=1\/n=2\/n=3\/n=4:=Y;rcases g with rfl|rfl|rfl|rfl;all_goals
  simp[r6,M3,vM,f,eH,nh,jY,iU,gR]
  try grind
def azj{n}(b:1<=n)(d:n<=4)(a:G->L):r6 n a (λ_=>0)=0:=by have:=aaB b d a (λ_=>0) 0;rw[show(λ_:G=>(0:L)*0)=λ_=>0 from funext λ_=>mF 0]at this;rw[this];obtain⟨k,rfl⟩:∃k,n=k+1:=⟨n-1,Y⟩;rw[gR,eh,mF]
def azk(Q B:Rx):(Q*B) 0=Q 0*B 0:=by rw[fM];show(0:L)+Q 0*B 0=_;grind
def azl(Q B:Rx):(Q*B) 1=Q 0*B 1+Q 1*B 0:=by rw[fM];show(0:L)+Q 0*B 1+Q 1*B 0=_;grind
def azm(Q B:Rx):(Q*B) 2=Q 0*B 2+Q 1*B 1+Q 2*B 0:=by rw[fM];show(0:L)+Q 0*B 2+Q 1*B 1+Q 2*B 0=_;grind
def azn(Q B:Rx):(Q*B) 3=Q 0*B 3+Q 1*B 2+Q 2*B 1+Q 3*B 0:=by rw[fM];show(0:L)+Q 0*B 3+Q 1*B 2+Q 2*B 1+Q 3*B 0=_;grind
def azo{p a}(u:1<=a)(v:a<p)(x:p<=4){A B Q b:Rx}(f:A=Q*B+b)(hB:B a=1)(k:∀i,a<i->B i=0)(hQ:Q (p-a)=1)(g:∀i,p-a<i->Q i=0)(zR:∀i,a<=i->b i=0):r6 p (λd=>A d) (λd=>B d)=(if p%2=1/\a%2=1 then-1 else 1)*r6 a (λd=>B d) (λd=>b d):=by
 have l:A 0=Q 0*B 0+b 0:=by rw[f,ef,azk]
 have m:A 1=Q 0*B 1+Q 1*B 0+b 1:=by rw[f,ef,azl]
 have n:A 2=Q 0*B 2+Q 1*B 1+Q 2*B 0+b 2:=by rw[f,ef,azm]
 have s:A 3=Q 0*B 3+Q 1*B 2+Q 2*B 1+Q 3*B 0+b 3:=by rw[f,ef,azn]
 have t:(p=2/\a=1)\/(p=3/\a=1)\/(p=3/\a=2)\/(p=4/\a=1)\/(p=4/\a=2)\/(p=4/\a=3):=Y;rcases t with⟨rfl,rfl⟩|⟨rfl,rfl⟩|⟨rfl,rfl⟩|⟨rfl,rfl⟩|⟨rfl,rfl⟩|⟨rfl,rfl⟩;all_goals
  simp[Nat.reduceSub]at hQ g
  simp[r6,M3,vM,eH,nh,jY,iU,l,m,n,s,hB,k,hQ,g,zR]
  grind
def al9(d:L)(a:G):∀b,gR d (a+b)=gR d a*gR d b
 |0=>(lF _).symm
 |b+1=>by show gR d (a+b)*d=gR d a*(gR d b*d);rw[al9 d a b,lT]
def nk(a:E L):L:=I a (Z a-1) 0
noncomputable def vN:G->E L->E L->L
 |0,_,_=>0
 |k+1,A,B=>if Z B=1 then gR (I B 0 0) (Z A-1)else if bZ A B=[]then 0 else(if(Z A-1)%2=1/\(Z B-1)%2=1 then-1 else 1)*gR (nk B) (Z A-Z (bZ A B))*vN k B (bZ A B)
def inv_mul{a:L}(b:a≠0):a⁻¹ *a=1:=k8 a b
def al':∀(k:G)(A B:E L),bp A->bp B->1<=Z B->Z B<Z A->Z A<=5->Z B<=k->vN k A B=gR (nk A) (Z B-1)*r6 (Z A-1) (λd=>I A d 0*(nk A)⁻¹) (λd=>I B d 0)
 |0,_,_,_,_,m,_,_,cA=>by omega
 |k+1,A,B,hA,hB,m,h2,h5,hk=>by
  have A0:A≠[]:=λe=>by rw[e]at h2;exact aF h2<|nZ _
  have n:B≠[]:=λe=>by rw[e]at m;cases m
  have C:nk A≠0:=hA.ne A0;have D:nk B≠0:=hB.ne n;rw[vN];by_cases s:Z B=1
  .rw[q s,s];show _=1*_;rw[rG,azi Y Y _ (λd=>I B d 0) λd hj=>by rw[aO,iw Y];rfl]
  rw[y s];obtain⟨p,H⟩:∃p,Z A=p+1:=⟨Z A-1,Y⟩;obtain⟨f,t⟩:∃f,Z B=f+1:=⟨Z B-1,Y⟩;have q1:1<=f:=Y;have N:=Cm (a:=A) hB n;have o:=Rx.Ik A B;have u:Z (bZ A B)<Z B:=nS n;obtain⟨Q,hQ⟩:∃Q,Q=lx (cV A B):=⟨_,J⟩;have P:∀i,p-f<i->Q i=0:=λi g=>by rw[hQ,dN,aO,iw Y];rfl
  have T:∀i,f<i->(lx B) i=0:=λi g=>by rw[dN,aO,iw Y];rfl
  have zR:∀i,f<=i->(lx<|bZ A B) i=0:=λi g=>by rw[dN,aO,iw Y];rfl
  have W:(lx A) p=nk A:=by rw[dN,nk,H];rfl
  have x:(lx B) f=nk B:=by rw[dN,nk,t];rfl
  have X:nk A=Q (p-f)*nk B:=by rw[<-W,N,ef,zR p Y,nM,<-hQ];have:=Rx.BX P T;rw[(Y:p-f+f=p),x]at this;exact this
  have ra:=inv_mul C;have rb:=inv_mul D;obtain⟨a,c⟩:∃a,a=nk A:=⟨_,J⟩;obtain⟨b,z⟩:∃b,b=nk B:=⟨_,J⟩;rw[<-c]at C ra W X;rw[<-z]at D rb x X;have r:K a⁻¹ *lx A=(K (b*a⁻¹)*Q)*(K b⁻¹ *lx B)+K a⁻¹ *lx (bZ A B):=by
   have w:(K (b*a⁻¹)*Q)*(K b⁻¹ *lx B)=(K b⁻¹ *K b)*(K a⁻¹ *(Q*lx B)):=by rw[Rx.eN];ac_rfl
   rw[w,<-Rx.eN,rb,show K (1:L)=1 from J,Rx.c8,<-Rx.fN,hQ,<-N]
  have rc:=azo (p:=p) q1 Y Y r (by rw[du,x,rb]) (λi g=>by rw[du,T i g,eh]) (by rw[du];grind) (λi g=>by rw[du,P i g,eh]) (λi g=>by rw[du,zR i g,eh]);have F:(λd=>(K a⁻¹ *lx A) d)=λd=>I A d 0*a⁻¹ :=funext λd=>by rw[du,dN,yn]
  have M:(λd=>(K b⁻¹ *lx B) d)=λd=>I B d 0*b⁻¹ :=funext λd=>by rw[du,dN,yn]
  rw[F]at rc;have O:r6 p (λd=>I A d 0*a⁻¹) (λd=>I B d 0)=gR b p*r6 p (λd=>I A d 0*a⁻¹) (λd=>(K b⁻¹ *lx B) d):=by rw[<-aaB Y Y];congr 1;funext d;rw[du,dN];grind
  have R:r6 f (λd=>(K b⁻¹ *lx B) d) (λd=>I (bZ A B) d 0)=gR a f*r6 f (λd=>(K b⁻¹ *lx B) d) (λd=>(K a⁻¹ *lx (bZ A B)) d):=by rw[<-aaB Y Y];congr 1;funext d;rw[du,dN];grind
  rw[H,t,eL,eL,<-c,<-z,O,rc];by_cases l:bZ A B=[]
  .rw[q l];have S:(λd=>(K a⁻¹ *lx (bZ A B)) d)=λ_=>0:=funext λd=>by rw[l,ku,Rx.g6];rfl
   rw[S,azj q1 Y];grind
  .rw[y l];have U:=cF.2 l;rw[al' k B (bZ A B) hB (oZ (b:=B) hA) U u Y Y,t,eL,<-z,<-M,R];have e5:gR b p=gR b (p+1-Z (bZ A B))*gR b (Z (bZ A B)-1):=by rw[<-al9];congr 1;omega
   rw[e5];grind
section
variable{m a:E L}
def azp(f:cZ m)(p:El m a){n}(z:Z m=n+1) i d:I (be a m<|i+1) d 0=(if d=0 then 0 else I (be a m i) (d-1) 0)-I (be a m i) (n-1) 0*I m d 0:=by
 have A:=f.l2;have B:=(Fo f p i).2;have k:I m n 0=1:=by have:=f.top;rwa[(Y:Z m-1=n)]at this
 have t:∀d,n<d->I m d 0=0:=λd s=>by rw[aO,iw Y];rfl
 have u:∀d,n<=d->I (be a m i) d 0=0:=λd s=>by rw[aO,iw Y];rfl
 have g:∀d,(X 1*lx (be a m i)-K (I (be a m i) (n-1) 0)*lx m) d=(if d=0 then 0 else I (be a m i) (d-1) 0)-I (be a m i) (n-1) 0*I m d 0:=λd=>by
  rw[nK,lD,du,dN,dN];by_cases e:d=0
  .rw[q e,y Y]
  .rw[y e,q Y]
 have e:lx (be a m<|i+1)=X 1*lx (be a m i)-K (I (be a m i) (n-1) 0)*lx m:=by
  refine MY f (AP f p<|i+1) ?_ ?_
  .refine wV (na (n:=n) λd s=>?_) Y;rw[g,y Y];by_cases e:d=n
   .rw[e,k];grind
   .rw[t d Y,u (d-1) Y];grind
  .refine mJ (IC (a:=be a m i) (b:=[0,1]) f.can f.ne) ?_;rw[SU];have x:lx (be a m i)*X 1-(X 1*lx (be a m i)-K (I (be a m i) (n-1) 0)*lx m)=K (I (be a m i) (n-1) 0)*lx m:=by rw[Rx.dk (lx<|be a m i) (X 1)];exact Rx.ext λd=>by simp[nK];grind
   rw[x];exact jc _ _
 rw[<-dN,e,g]
def aaC(g:cZ m)(k:El m a){n:G}(l:Z m=n+1){p:G->L}(d:∀b,b<n->p b=I m b 0):∀i b,b<n->I (be a m i) b 0=vM n p (λb=>I a b 0) i b
 |0,_,_=>rfl
 |i+1,b,s=>by
  rw[azp g k l,aaz,<-aaC g k l d i (n-1) Y,d b s];by_cases f:b=0
  .rw[q f,q f]
  .rw[y f,y f,aaC g k l d i (b-1) Y]
def azq(b:cZ m)(d:El m a)(s:a≠[]):ni a m=vN 5 m a:=by
 have z:=b.l2;have t:=b.l5;have l:=cF.2 s;have g:=d.2;rw[al' 5 m a b.can d.1 l g t Y];have u:nk m=1:=b.top;rw[u];have v:∀n,gR 1 n=1:=λn=>by
  induction n with
  |zero=>rfl
  |succ n x=>rw[gR,x,lF]
 rw[v,rG];obtain⟨n,p⟩:∃n,Z m=n+1:=⟨Z m-1,Y⟩;unfold ni r6;rw[p,eL];refine CN λi j _ _=>?_
 unfold M3;by_cases f:i<n
 .rw[uJ f,q f];by_cases k:j<n
  .rw[q k];exact aaC b d p (λj _=>by show I m j 0*(1:L)⁻¹ =_;rw[(SA:((1:L))⁻¹ =1),lF]) i j k
  .rw[y k];have l:=(Fo b d i).2;rw[aO,iw Y];rfl
 .rw[c9,y f,y f]
end
def ama b(n:G){t}(d:Ht (2^t) (K b))(m:t<=1000000)(p:n<=100):w O 129 [aQ b,c n] (aQ<|gR b n):=by
 refine aK Tryz.func129 ?_;refine U J<|R<|rc J J (nH 1 S S)<|M J<|kp ⟨[(4,.c<|.P 1000 0),(5,.c<|.P 1001000 0)],[(1000,.box 44 0 zR),(1001000,.box 44 0<|av .q<|gR b n)],20,[]⟩ ?_<|λf=>?_
 .exact U J<|cN J
 refine U J<|ay<|bq (α:=G) (λi=>⟨[(1,c n),(2,.c<|.P 0 0),(4,.c<|.P 1000 0),(5,.c<|.P 1001000 0),(6,c i)],[(0,.box 44 0<|av .q b),(1000,.box 44 0 zR),(1001000,.box 44 0<|av .q<|gR b i)],3,[]⟩) (λi=>i<=n) (λi=>n-i) 0 (bg _) aN ?_;intro i s;refine h<|U J<|F J (λa=>?_)<|λa=>?_
 .have a:i<n:=by have a:(i:V)<(n:V):=aV a;omega
  have g:=mA s m;have l:=dS 1000000 p;have u:=ER (k:=100000000) (gR b i) b ((aat d i).uI Y) (d.uI Y) S;clear g l m d;exact aE<|h<|ay<|cG<|rc J J u<|M J<|bP<|rt J<|a4 (i+1) a L6 aN
 .have a:i=n:=by have a:¬(i:V)<(n:V):=bc a;omega
  subst a;exact bs<|eD f aN
def hB.pw{t}{a}(b:hB t a) n:hB (n*t) (gR a n):=aat b n
def hB.qs{t s}{a}(b:hB t a)(d:t<32*s):QS s a:=Rx.Ht.uI b d
def hB.of{t}{a}(b:Ht (2^t) (lx a)) i:hB t (I a i 0):=by have:=b.S5 i;rwa[dN]at this
def amb:∀(k t u:G)(A B:E L),bp A->bp B->1<=Z B->Z B<Z A->Z A<=5->Z B<=k->k<=5->Ht (2^t) (lx A)->Ht (2^u) (lx B)->t<=u->(u+1)*7^k<=1000000->
  w O 76 [e .q A,e .q B] (aQ<|vN k A B)/\hB (8*((u+1)*7^k)) (vN k A B)
 |0,_,_,_,_,_,_,h1,_,_,d,_,_,_,_,_=>by omega
 |k+1,t,u,A,B,hA,z,h1,h2,h5,hk,hk5,tA,tB,htu,N=>by
  have Q:B≠[]:=λm=>by rw[m]at h1;cases h1
  have p7:1<=7^k:=gG S;have T:(u+1)*7^(k+1)=7*((u+1)*7^k):=by rw[fG,gA (7^k) 7,<-mz,gA (u+1) 7,mz]
  have W:u+1<=(u+1)*7^k:=qv _ p7;have el:((Z A-1:G):V)=(Z A:V)-1:=Y;by_cases e1:Z B=1
  .have hb:hB u (I B 0 0):=hB.of tB 0;have X:=ama (I B 0 0) (Z A-1) hb Y Y;have g:=hb.pw<|Z A-1;have hle:(Z A-1)*u<=4*u:=dS _ Y;rw[el]at X;rw[vN,q e1];refine⟨?_,g.le Y⟩;clear g hle tA tB T W N;refine aK amc ?_;refine U J (h<|R<|rg 12 J J (λd=>?_)<|λd=>?_)
   .have d:(Z A:V)=0:=dw d;exact aF d Y
   refine M J<|F J (λh2=>?_)<|λ_=>aE ?_
   .have h2:(Z B:V)=0:=dw h2;exact aF h2 Y
   refine U J<|U J<|h<|U J<|F J (λ_=>(R<|rc J J X (M J<|bX<|cY<|atR J) (hp:=aH)))<|λh2=>?_
   .have h2:¬(Z B:V)-1=0:=xl h2;exact aF h2 Y
  have q1:2<=Z B:=Y;let ⟨_,qr,_⟩:=EY z Q tA tB;have j:Z (bZ A B)<Z B:=nS Q;have o:=oZ (b:=B) hA;have oM:(u+1)*(Z A+1-Z B)<=(u+1)*4:=gD _ Y;have x:=Cq (s:=1000000) S S hA Q<|Sy hA z Q Y Y tA tB Y Y;have C:=Im B Q Y;have D:hB u (nk B):=hB.of tB _;have K:∀n,n<=5->hB (5*u) (gR (nk B) n):=λn hn=>(D.pw n).le<|dS _ hn
  have g:=λn(hn:n<=5)=>ama (nk B) n D Y Y
  rw[vN,y e1];obtain⟨f,hR⟩:∃f,f=bZ A B:=⟨_,J⟩;rw[<-hR]at j o qr x⊢;obtain⟨v,hv⟩:∃v,v=t+(u+1)*(Z A+1-Z B):=⟨_,J⟩;rw[<-hv]at qr;obtain⟨l,i⟩:∃l:L,l=(if(Z A-1)%2=1/\(Z B-1)%2=1 then-1 else 1):=⟨_,J⟩;rw[<-i];have p:hB 0 l:=by
   rw[i];split
   .exact(hB.one 0).neg
   .exact hB.one 0
  have r:u<=v:=by have:(u+1)*1<=(u+1)*(Z A+1-Z B):=gD _ Y;omega
  have hv7:v+1<=7*(u+1):=Y;have hvk:(v+1)*7^k<=7*((u+1)*7^k):=by rw[<-mz];exact dS _ hv7
  have ih:f≠[]->w O 76 [e .q B,e .q f] (aQ<|vN k B f)/\hB (8*((v+1)*7^k)) (vN k B f):=λa=>
   amb k u v B f z o (cF.2 a) j Y Y Y tB qr r Y
  have hv5:(v+1)*7^k<=5*((u+1)*7^k):=by rw[<-mz];exact dS _ Y
  have hT:f≠[]->hB (8*((u+1)*7^(k+1))) (l*gR (nk B) (Z A-Z f)*vN k B f):=λa=>
   ((p.mul<|K _ Y).mul (ih a).2).le Y
  refine⟨?_,?_⟩
  .have yd:=λ(a:f≠[])=>ER (k:=1000000) l (gR (nk B)<|Z A-Z f) (p.qs S) ((K _ Y).qs Y) S
   have Zp:=λ(a:f≠[])=>ER (k:=1000000) (l*gR (nk B) (Z A-Z f)) (vN k B f) ((p.mul<|K _ Y).qs Y) ((ih a).2.qs Y) S
   have zJ:=λ(a:f≠[])=>g (Z A-Z f) Y
   have ih2:=λ(a:f≠[])=>(ih a).1
   clear hT hv5 ih hvk hv7 r p hv g K D oM qr tA tB T W N htu p7;refine aK amc ?_;refine U J<|h<|R<|rg 12 J J (λd=>?_)<|λd=>?_
   .have d:(Z A:V)=0:=dw d;exact aF d Y
   refine M J<|F J (λh2=>?_)<|λ_=>aE ?_
   .have h2:(Z B:V)=0:=dw h2;exact aF h2 Y
   refine U J<|U J<|h<|U J<|F J (λh2=>?_)<|λ_=>aE ?_
   .have h2:(Z B:V)-1=0:=dw h2;exact aF h2 Y
   refine R<|rc J J (nH 1 S S)<|M J<|kp ⟨[(0,e .q A),(1,e .q B),(4,.c<|.P 0 0),(5,c<|(Z A:V)-1),(6,c<|(Z B:V)-1),(7,.c<|.P 5001000 0)],[(0,.box 44 0 zR),(5001000,.box 44 0<|av .q l)],20,[]⟩ ?_<|λH=>?_
   .refine h (U J<|F J (λd=>?_)<|λ_=>aE ?_)
    .have d:(Z A:V)-1<(Z B:V)-1:=aV d;exact aF d Y
    refine R<|rc J J x<|M J<|h<|U J<|F J (λd=>?_)<|λd=>aE ?_
    .have d:(Z f:V)=0:=dw d;have a:f=[]:=gx Y;rw[q a];exact R<|rc J J (nH 0 S S)<|M J<|bX<|cY<|atR J
    .have d:¬(Z f:V)=0:=xl d;have a:f≠[]:=λm=>by rw[m]at d;exact d J
     rw[y a];have X:=zJ a;rw[(Y:((Z A-Z f:G):V)=(Z A:V)-1+1-(Z f:V))]at X;have K:w O 83 [e .q B] (aQ<|nk B):=C;exact R<|rc J J K (rc J J X<|rc J J (yd a)<|rc J J (ih2 a)<|rc J J (Zp a)<|M J<|cN J) (hp:=aH)
   .have ca:∀n:G,2<=n->(((n:V)-1).tmod 2=1↔(n-1)%2=1):=λn hn=>by rw[k5 Y];omega
    refine R<|rg 35 J J (λd=>?_)<|λd=>?_
    .have d:((Z A:V)-1).tmod 2=1:=dw d;refine M J (F J (λh2=>?_)<|λh2=>?_)
     .have h2:((Z B:V)-1).tmod 2=1:=dw h2;have m:((-1:V):L)=l:=by rw[i,q ⟨(ca _ Y).1 d,(ca _ Y).1 h2⟩];rfl
      have T:=nH (-1) S S;rw[m]at T;exact cG<|rc J J T<|M J<|eD H aN
     .have h2:¬((Z B:V)-1).tmod 2=1:=xl h2;have m:((1:V):L)=l:=by rw[i,y λh3=>h2<|(ca _ Y).2 h3.2];rfl
      refine di ?_;rw[m];exact eD H aN
    .have d:¬((Z A:V)-1).tmod 2=1:=xl d;refine M J<|F J (λh2=>pO)<|λh2=>?_;have m:((1:V):L)=l:=by rw[i,y λh3=>d<|(ca _ Y).2 h3.1];rfl
     refine di ?_;rw[m];exact eD H aN
  .by_cases a:f=[]
   .rw[q a];exact hB.zero _
   .rw[y a];exact hT a
def azv(m:E L):w O 15 [e .q [],e .q m] (.t [(ah,[.S .q []]),(ah,[.I .i64 10])]):=by refine aK Tryz.func15 ?_;exact U J<|bI<|U J<|F J (λ_=>U J<|bX<|cY<|iX cq J<|Yo .q _)<|λh=>gL
section
variable{m a:E L}
def azw(b:cZ m)(d:Ez m 40 a):w O 23 [e .q a,e .q m] (aQ<|ni a m):=by
 have h2:=b.l2;have i:=b.l5;have k:=d.2;have f:w O 76 [e .q m,e .q a] (aQ<|ni a m):=by
  by_cases a0:a=[]
  .subst a0;rw[ayM b];refine aK amc ?_;refine U J (h<|R<|rg 12 J J (λg=>?_)<|λ_=>?_)
   .have g:(Z m:V)=0:=dw g;exact aF g Y
   exact M J<|F J (λ_=>(R<|rc J J (nH 0 S S)<|M J<|bX<|cY<|atR J))<|λh2=>pO
  .rw[azq b d.el a0];exact(amb 5 7 40 m a b.can d.1.can (cF.2 a0) k i Y S b.ht d.1.ht S S).1
 refine aK Tryz.func23 ?_;exact U J<|R<|rc J J f<|M J<|cN J
def azx(b:cZ m)(d:Ez m 32 a):∃(i:E L)(f:V),w O 14 [e .q a,e .q m] (.t [(ah,[.S .q i]),(ah,[.I .i64 f])])/\w O 15 [e .q a,e .q m] (.t [(ah,[.S .q i]),(ah,[.I .i64 f])])/\Ez m 400 i:=by
 by_cases a0:a=[]
 .subst a0;exact⟨[],10,axx m,azv m,Pz.nil _ _,by have:=b.l2;show 0<Z m;omega⟩
 .exact⟨rZ a m,0,ayh b d a0 S S,ay3 b d a0 S S,(ayg b d a0 S).2.le S⟩
end
def azy k(H:E V)(z n:E (V×V×V))(hk:0<=k/\k<=255)(N:∀x∈H,-128<=x/\x<=127)(T:∀x∈z,o0 x)(D:∀x∈n,o0 x):
  w O 3 [.a [.I .u8 k,.S I8 H],e RW z,e RW n] (cB true):=by
 let ⟨m,hm,hF⟩:=axd k H hk N
 have e0:=akq hm.l2 hm.l5 z T
 have e1:=akq hm.l2 hm.l5 n D
 have l:Ez m 32 (yG z<|Z m-2):=akW hm T
 have A:Ez m 32 (yG n<|Z m-2):=akW hm D
 have e2:=ai8 n 8 S D
 have t:=axz (most:=8) D
 generalize yG z (Z m-2)=a at*
 generalize yG n (Z m-2)=b at*
 generalize yF n 8=c at*
 have h2:=hm.l2
 have h5:=hm.l5
 have p:Ez m 40 a:=l.le S
 let ⟨i,W,fI,rI,X⟩:=azx hm l
 have sI:=X.1.ZU (k:=100) (b:=i) J S S S
 have C:Z c+1-Z m<=8:=kw t.len
 have cr:=t.ZM hm.pz hm.ne (d:=8) (s:=1000) C S S S S
 have j:=t.xk hm.pz hm.ne (d:=8) (s:=1000) C S S S
 have K:=Cq (s:=1000) S S t.can hm.ne j
 have o:=t.rem hm.pz hm.ne (d:=8) C
 have sR:=o.ZU (k:=1000) (b:=bZ c m) J S S S
 have rR:w O 18 [e .q c,e .q m] (e .q<|bZ c m):=by refine aK Tryz.func18 ?_;exact U J<|R<|rc J J K<|M J<|cN J
 let ⟨_,_,_,P⟩:=ZW hm (CG l.1) (CG A.1) l.2 A.2 S
 have Q:=ak9 hm l A S S
 have B:=Ez.mul hm l A S
 have sM:=B.1.ZU (k:=100) (b:=fm a b m) J S S S
 let ⟨nA,y⟩:=ayZ hm l S
 have nR:=azw hm p
 have sN:=RI (ni a m) (ni a m) y S
 rw[rA J]at sN
 let ⟨tA,G⟩:=ay0 hm l S
 have tR:=al2 hm l S
 have L:=RI (gn a m<|Z m-1) (gn a m<|Z m-1) G S
 rw[rA J]at L
 have pA:=ayr hm l S
 let ⟨pR,Y⟩:=azh hm p
 let ⟨d,d1,d2,hS⟩:=alQ (a:=a) hm
 have sP:=ajN (k:=1000) S (yR a m) (yR a m) (by rw[hS.len];omega) Y
 rw[rA J]at sP
 generalize ni a m=u at*
 generalize gn a m (Z m-1)=v at*
 generalize yR a m=f at*
 generalize fm a b m=g at*
 generalize bZ c m=r at*
 clear hS Y d1 d2 y G B o j t X p l A h2 h5 hm
 refine aK Tryz.func3 ?_
 refine U J<|bQ J J ayc J<|bI<|U J<|F J (λh=>gL)<|λ_=>aE ?_
 refine R<|rc J J hF<|M J ?_
 refine R<|rc J J e0<|M J<|R<|rc J J e1<|M J ?_
 refine R<|rc J J e2<|M J ?_
 refine R<|rc J J fI<|M J<|R<|rc J J rI<|M J ?_
 refine bI<|R<|rg 44 J J (λh=>?_)<|λ_=>?_
 .have h:(W !=W)=true:=h;simp at h
 refine jF J J J J J sI<|rg 50 J J (λh=>gL)<|λ_=>?_
 refine jF J J J J J cr<|jF J J J J J rR<|jF J J J J J sR<|rg 60 J J (λh=>gL)<|λ_=>?_
 refine jF J J J J J P<|jF J J J J J Q<|jF J J J J J sM<|M J<|F J (λh=>gL)<|λ_=>aE ?_
 refine R<|rg 73 J J (λ_=>?_)<|λh=>gL
 refine jF J J J J J nA<|jF J J J J J nR<|jF J J J J J sN<|rg 82 J J (λ_=>?_)<|λh=>gL
 refine jF J J J J J tA<|jF J J J J J tR<|jF J J J J J L<|rg 91 J J (λ_=>?_)<|λh=>gL
 exact jF J J J J J pA<|jF J J J J J pR<|jF J J J J J sP<|M J<|cN J
end Go.El
