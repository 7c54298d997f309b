/- Own work; no condition. -/
import Derived.Test.YtceihkmakfdcnaaGreatC15
import Derived.Test.YtceihkmakfdcnaaGreatCS9
import Derived.Test.YtceihkmakfdcnaaGreatC10
import Derived.Test.YtceihkmakfdcnaaGreatC6
import Derived.Test.YtceihkmakfdcnaaGreatC11
import Derived.Test.YtceihkmakfdcnaaGreatCS10
import Derived.Test.YtceihkmakfdcnaaGreatC13
set_option linter.all false
set_option maxHeartbeats 16000000
set_option maxRecDepth 100000
noncomputable section
open Bool renaming false->ah,true->ae
open Go.El renaming cS->e,rr->U,iJ->o,re->M,bI->h,cI->c,rb->R,jz->w,NB->F
open Go.Proofs.Tryz renaming prog->O
open Int renaming toNat->af
open List renaming length->Z,getD->I
open Nat renaming pow_succ'->alp,ble_eq_true_of_le->ayq
open Option renaming some->ad
open _root_ renaming List->E,Rat->L,Nat->G,Int->V
namespace Go.El
open Go Go.Proofs Rx
def rY(g m:E L):G->E L->E L
 |0,t=>t
 |n+1,t=>fm (rY g m n t) g m
def Ez(m:E L)(t:G)(a:E L):Prop:=Pz 4 t a/\Z a<Z m
def CG{t}{x}(a:Pz 4 t x):Pz 12 t x:=a.le S<|aL _
def Ez.le{m}{t u}{a}(b:Ez m t a)(k:t<=u):Ez m u a:=⟨b.1.le (aL _) k,b.2⟩
def Ez.mul{m a b}{t u}(g:cZ m)(d:Ez m t a)(f:Ez m u b)(i:t+u+200<3200000000000):Ez m (t+u+28) (fm a b m):=by let ⟨k,h2,_,_⟩:=ZW g (CG d.1) (CG f.1) d.2 f.2 i;exact⟨k,h2⟩
def ak9{m a b}{t u}(f:cZ m)(g:Ez m t a)(i:Ez m u b)(n:t<=400000000000)(k:u<=400000000000):w O 20 [e .q a,e .q b,e .q m] (e .q<|fm a b m):=by have h:=g.1.MF i.1 (K:=100000000000) S S Y S;have l:=g.1.mul i.1 S;have E:=l.xk f.pz f.ne (d:=8) (s:=50000000000) (by have:=l.len;omega) S S Y;have k:=Cq (s:=50000000000) S S (uz a b) f.ne E;refine aK Tryz.func20 ?_;exact U J<|R<|rc J J h<|rc J J k<|M J<|cN J
abbrev LQ:ET:= .sl .q
def ayd{a b f d x:Rx}(g:a∣b-f)(k:a∣d-x):a∣(b-d)-(f-x):=by
 have:=dvd_sub g k;have i:(b-f)-(d-x)=(b-d)-(f-x):=Rx.ext λj=>by simp only[nK];grind
 rwa[i]at this
def IK(a m i:E L):Prop:=bp i/\Z i<Z m/\lx m∣lx i*lx a-1
def rZ(a m:E L):E L:=Classical.epsilon<|IK a m
section
variable{m a i:E L}{t:G}
def Z1(d:cZ m)(b:IK a m i):i=rZ a m:=by
 have k:IK a m (rZ a m):=Classical.epsilon_spec (p:=IK a m) ⟨i,b⟩;refine aif b.1 k.1 d.can d.ne b.2.1 k.2.1 ?_;have e:=dvd_sub (dE b.2.2<|lx<|rZ a m)<|dE k.2.2<|lx i;have f:lx (rZ a m)*(lx i*lx a-1)-lx i*(lx (rZ a m)*lx a-1)=lx i-lx (rZ a m):=by
  rw[Rx.mul_sub,Rx.mul_sub,Rx.fO,Rx.fO,(fC:lx (rZ a m)*(lx i*lx a)=lx i*(lx (rZ a m)*lx a))];refine Rx.ext λj=>?_
  simp only[nK];grind
 rwa[f]at e
def aye{n t}(d:n<=3):(2*((2*n+2)*2^t))^(2*n+1)<=2^(7*t+28):=by
 have b:2*((2*n+2)*2^t)<=2^(t+4):=by rw[jm,<-mz,gA<|2^t];exact dS _ Y
 refine br (B6 b _) ?_;rw[<-Ek];refine dD S ?_;have:=gD (t+4) (Y:2*n+1<=7);omega
def ayf(hm:cZ m)(Q:Ez m t a)(a0:a≠[])(ht:7<=t):∃i,IK a m i/\Ht (2^(8*t+28)) (lx i):=by
 let ⟨q,m1,m2,r⟩:=hm.ht;let ⟨d,a1,a2,w⟩:=Q.1.ht;obtain⟨n,hn⟩:∃n,Z m=n+2:=⟨Z m-2,MG⟩;have hl5:=hm.l5;have T:=Q.2;obtain⟨F,p⟩:∃F,F=K (q:L)*lx m:=⟨_,J⟩;obtain⟨G,s⟩:∃G,G=K (d:L)*lx a:=⟨_,J⟩;have y:dz F:=dz.of λi=>by let ⟨z,_,f⟩:=r i;exact⟨z,by rw[p,du];exact f⟩
 have E:dz G:=dz.of λi=>by let ⟨z,_,f⟩:=w i;exact⟨z,by rw[s,du];exact f⟩
 have bF:∀i,Int.natAbs (nu F i)<=2^t:=λi=>by
  let ⟨z,W,f⟩:=r i;have e:nu F i=z:=by show(F i).num=z;rw[p,du,f];rfl
  rw[e];exact br W<|dD S ht
 have bG:∀i,Int.natAbs (nu G i)<=2^t:=λi=>by
  let ⟨z,W,f⟩:=w i;have e:nu G i=z:=by show(G i).num=z;rw[s,du,f];rfl
  rw[e];exact W
 have zF:∀i,n+1<i->nu F i=0:=λi k=>yz<|br (na (n:=i) λj X=>by rw[p,du,dN,fP m Y,eh])<|aL _
 have zG:∀i,n<i->nu G i=0:=λi k=>yz<|br (na (n:=i) λj X=>by rw[s,du,dN,fP a Y,eh])<|aL _
 let ⟨u,v,D,u1,v1,e,hD,eZ,hv⟩:=agN Nat.one_le_two_pow zF zG bF bG;obtain⟨U,c⟩:∃U,U=xe u u1:=⟨_,J⟩;obtain⟨b,P⟩:∃b,b=xe v v1:=⟨_,J⟩;have I:dz U:=by rw[c];exact Ib u u1
 have M:dz b:=by rw[P];exact Ib v v1
 have l:U*F+b*G=K (D:L):=by have O:=I.mul y;have R:=M.mul E;refine ahh (Rb O R).1 (dz.K D) ?_;rw[(Rb O R).2,EA I y,EA M E,c,P,Cc,Cc,e,asM]
 have g:∀i,b i=((v i:V):L):=λi=>by rw[P];rfl
 have aAK:q≠0:=m1;have h:=ZT hm.can hm.gJ Q.1.can a0 T;have dF:lx m∣F:=by rw[p];exact jc _ _
 have x:D≠0:=λh0=>by
  subst h0;have l:U*F+b*G=0:=by rw[l];exact jT
  have d1:lx m∣b*G:=by refine yo ?_<|dE dF U;rw[l];exact uf _
  have d2:lx m∣lx a*(K (d:L)*b):=by rw[s]at d1;rwa[(fC:b*(K (d:L)*lx a)=lx a*(K (d:L)*b))]at d1
  have d3:=h.dvd d2;have v0:K (d:L)*b=0:=ui d3 (by have:=na (A:=K (d:L)*b) (n:=n+1) (λi k=>by rw[du,g,v1 i k];exact eh _);rw[fj hm.can];omega);have B:b=0:=fe λhh=>oW (uh<|Cn a1) hh v0
  rw[B,Rx.dy,Rx.fA]at l;have C:F≠0:=by rw[p];exact oW (uh<|Cn m1)<|Ck hm.can hm.ne
  have u0:U=0:=fe λhu=>oW hu C l
  refine eZ J ?_ ?_
  .rw[<-Cc v v1,<-P,B];rfl
  .rw[<-Cc u u1,<-c,u0];rfl
 have H:(D:L)≠0:=Cn x;have hB:=aye (n:=n) (t:=t) Y;let ⟨i,k,o⟩:=jU<|K ((d:L)*(D:L)⁻¹)*b;have N:Z i<Z m:=by rw[<-fj k,o];have:=na (A:=K ((d:L)*(D:L)⁻¹)*b) (n:=n+1) (λj X=>by rw[du,g,v1 j X];exact eh _);omega
 refine⟨i,⟨k,N,?_⟩,?_⟩
 .have e1:lx i*lx a=K (D:L)⁻¹ *(b*G):=by rw[o,s,eN];ac_rfl
  have e2:b*G=K (D:L)-U*F:=Aa (by rw[Rx.jS];exact l);rw[e1,e2,Rx.mul_sub,qy H];refine m9 ?_;have e3:(1:Rx)-(1-K (D:L)⁻¹ *(U*F))=K (D:L)⁻¹ *(U*F):=Rx.ext λj=>by simp only[nK];grind
  rw[e3];exact dE (dE dF U) _
 .refine⟨D,x,br (br hD hB)<|dD S Y,λj=>⟨d*v j,?_,?_⟩⟩
  .have:=tj a2<|br (hv j) hB;rw[<-jm]at this;rwa[(Y:t+(7*t+28)=8*t+28)]at this
  .rw[o,du,g,g7,<-lT,yn (D:L),lT (d:L),k8 _ H,lF]
def ayg(d:cZ m)(f:Ez m t a)(g:a≠[])(k:7<=t):IK a m (rZ a m)/\Ez m (8*t+28) (rZ a m):=by let ⟨i,b,h2⟩:=ayf d f g k;have e:=Z1 d b;subst e;have n:=d.l5;have l:=b.2.1;exact⟨b,⟨b.1,Y,h2⟩,l⟩
end
def Fk b a:Z (dJ b a)<=Z a:=by refine br (uw _) ?_;rw[dj,sY];exact aL _
def SQ a b:Z (eW a b)<=max (Z a) (Z b):=by refine br (uw _) ?_;rw[dj,sY];have:=Fk ((-1:V):L) b;omega
def ak'{a b u n}(d:bp n):Z (tq a b u n)<=max (Z u) (Z a+1-Z b+Z n-1):=by have f:=Fk (uH a b)<|eW u<|ml (cV a b) n;have g:=SQ u<|ml (cV a b) n;have i:=Ip (Av a b) d;have k:=Rx.Ik a b;show Z (dJ _ _)<=_;omega
def ala{s B W C:G}(x:s<=100000000000)(D:C<=12)(H:W+4*B+6<32*s):∀(k t f:G)(a b u n:E L),Pz 12 t a->Pz 12 t b->(b=[]\/Z b<Z a)->Z b<k->Pz 12 f u->Pz 12 f n->Z u+Z b<=C->Z n+Z a<=C->(t+1)*3^Z a<=B->(f+6*B)*2^k<=W->
  AL s k a b u n/\Pz 12 B (fX k a b)/\Pz 12 W (mU k a b u n).1/\(mU k a b u n).1.length<=C
 |0,_,_,_,_,_,_,_,_,_,cA,_,_,_,_,_,_=>by omega
 |k+1,t,f,a,b,u,n,l,z,g,hk,hu,p,N,P,hB,hw=>by
  have Q:0<3^Z a:=gG S;have K:t+1<=B:=br (qv _ Q) hB;have T:0<2^(k+1):=gG S;have X:f+6*B<=W:=br (qv _ T) hw;by_cases e:b=[]
  .rw[AL,fX,mU,q e,q e];exact⟨.inl e,l.le (aL _) Y,hu.le Y Y,(Y:Z u<=C)⟩
  .have g:=g.resolve_left e;have c:=cF.2 e;have j:=akO (t:=t) (d:=Z a-Z b) Y;have o:Z a+1-Z b=Z a-Z b+1:=Y;have A:(t+(t+1)*(Z a+1-Z b)+1)*3^Z b<=B:=by rw[o];refine br (dS _ j) ?_;rw[mz,<-jm,Wi<|ye g];exact hB
   have r:0<3^Z b:=gG S;have F:t+(t+1)*(Z a+1-Z b)+1<=B:=br (qv _ r) A;have i:(2*f+2*(t+(t+1)*(Z a+1-Z b))+5+6*B)*2^k<=W:=by refine br ?_ hw;rw[fG,gA (2^k) 2,<-mz];exact dS _ Y
   have I:0<2^k:=gG S;have J:=br (qv _ I) i;let ⟨c1,M,O,R,U,m⟩:=akP (s:=s) (d:=Z a+1-Z b) l z e hu p (aL _) (by have:=l.len;omega) Y x Y;have V:=ak' (a:=a) (b:=b) (u:=u) p.can;have m:Pz 12 (2*f+2*(t+(t+1)*(Z a+1-Z b))+5) (tq a b u n):=⟨m.can,Y,m.ht⟩;have v:Z (dA<|bZ a b)<Z b:=by rw[EU (oZ l.can)];exact nS e
   let ⟨r1,r2,r3,r4⟩:=ala x D H k (t+(t+1)*(Z a+1-Z b)) (2*f+2*(t+(t+1)*(Z a+1-Z b))+5) b (dA<|bZ a b) n (tq a b u n) (z.le (aL _) Y) U (.inr v) Y (p.le (aL _) Y) m Y Y A i;rw[AL,fX,mU,y e,y e];exact⟨.inr ⟨c1,M,O,R,r1⟩,r2,r3,r4⟩
def ayh{t}{a m}(p:cZ m)(he:Ez m t a)(a0:a≠[])(ht:7<=t)(ht2:t<=50000000):w O 14 [e .q a,e .q m] (.t [(ah,[.S .q (rZ a m)]),(ah,[.I .i64 0])]):=by
 have A:Pz 12 t a:=CG he.1;have hl:=he.2;have P:=p.l5;have hI:=p.gJ;have g:Pz 12 t m:=p.pz.le S ht;obtain⟨s,hs⟩:∃s,s=100000000000:=⟨_,J⟩;obtain⟨B,hB⟩:∃B,B=(t+1)*243:=⟨_,J⟩;obtain⟨W,hW⟩:∃W,W=(4*t+5+6*B)*32:=⟨_,J⟩;have f:s<=100000000000:=Y;have z:m≠[]:=p.ne;have oM:=cF.2 z;have WM:=cF.2 a0;have W0:Z a+1-Z m<=0:=Y;have Z2:(t+1)*3^Z m<=B:=by rw[hB];exact gD _<|br (dD S P) S
 have Z3:(4*t+5+6*B)*2^Z m<=W:=by rw[hW];exact gD _<|br (dD S P) S
 have BQ:bZ a m=a:=by rw[bZ,q hl]
 let ⟨c1,c2,c3,c4,c5,c6⟩:=akP (s:=s) (l:=1) (w:=t) (d:=0) A g z (u:=[1]) (n:=[]) ((vJ 1 t S)) (Pz.nil 1 t) W0 S S f Y;have Zs:=ak' (a:=a) (b:=m) (u:=[1]) (n:=[]) ug;rw[QO,jZ]at c5 c6;have Q:Z (dA<|bZ a m)<Z m:=by rw[BQ,EU A.can];exact hl
 have aAL:Z (tq a m [1] [])<=1:=by rw[qn,qT]at Zs;omega
 let ⟨r1,r2,r3,r4⟩:=ala (s:=s) (W:=W) (B:=B) (C:=Z m+1) f Y Y (Z m) t (2*t+2*t+5) m (dA<|bZ a m) [] (tq a m [1] []) g c5 (.inr Q) Q (Pz.nil _ _) c6 (by rw[qT];omega) Y Z2 (by rw[(Y:2*t+2*t+5=4*t+5)];exact Z3);have T:AL s (Z m+1) a m [1] []:= .inr ⟨c1,c2,c3,c4,r1⟩;have er:fX (Z m+1) a m=fX (Z m) m (dA<|bZ a m):=by rw[fX,y z]
 have eU:mU (Z m+1) a m [1] []=mU (Z m) m (dA<|bZ a m) [] (tq a m [1] []):=by rw[mU,y z]
 rw[<-er]at r2;rw[<-eU]at r3 r4;let ⟨g1,g2,g3,_⟩:=Yz (Z m+1) a m A.can g.can Y;have L1:=ZT g.can hI A.can a0 hl;have v:fX (Z m+1) a m≠[]:=(ahY (k:=Z m+1) A.can g.can Y a0).1;have X:sz (lx<|fX (Z m+1) a m)=1:=(L1.symm.of_dvd g3).symm.unit g2;rw[fj g1]at X;have j:=akQ (A0:=lx a) (M0:=lx m) (Z m+1) a m [1] [] A.can g.can Y (by rw[IG,Rx.c8];exact kM _ _) (by rw[ku,Rx.dy,Rx.sub_zero];exact nO _);generalize hU:(mU (Z m+1) a m [1] []).1=N at*;generalize hR:fX (Z m+1) a m=r at*;obtain⟨c,rfl⟩:∃c,r=[c]:=by
  match r,X with
  |[c],_=>exact⟨c,J⟩
 have x:c≠0:=g1.ne v;have D:Ht (2^B) (K c⁻¹):=r2.ht.inv (k:=0) x;have o:QS s c:=r2.qs Y 0;have H:dA [c]=[1]:=by refine nP (qC _) II ?_;rw[vE v,yp,yp];show K c⁻¹ *K c=K 1;rw[<-eN,k8 c x]
 have E:w O 114 [e .q [c]] (e .q [1]):=by have:=atU (s:=s) Y Y [c] v au x (λi=>r2.qs Y i) (D.uI Y);rw[aky,<-ah7 v,H]at this;exact this
 have G:=L4 c (λcH=>x<|vD cH) (o.n.sm Y)<|o.d.sm Y;have L:=r3.Ax D;have lA:=Fk c⁻¹ N;have Z4:=r3.MC (s:=s) (c:=c⁻¹) (D.uI Y) S Y f;have SS:=g.SK (s:=s) (vJ 1 t S) S (d:=12) (by have:=g.len;simp;omega) S S Y f;rw[akR g.can]at SS;have CB:=L.SK (s:=s) g z (d:=2) Y S S Y f;have hu:Pz 12 (W+B+(t+1)*2) (bZ (dJ c⁻¹ N) m):=L.rem g z (d:=2) Y;have hmul:=SJ (s:=s) hu A S S Y f;have hp:=hu.mul A S;have qZ:=(vJ 1 t S).MB (s:=s) hp S S Y Y f;have G9:=(vJ 1 t S).sub hp;have Fi:=G9.SK (s:=s) g z (d:=30) (by have:=G9.len;omega) S S Y f;have hb:=axv Y f T hR hU z v au J E G Z4 SS CB hmul qZ Fi;have ny:bZ (dJ c⁻¹ N) m=rZ a m:=Z1 p ⟨hu.can,nS z,by
  have e1:lx m∣lx (dJ c⁻¹ N)*lx a-1:=by have h2:lx m∣K c⁻¹ *(lx [c]-lx N*lx a):=dE j _;rw[Rx.mul_sub,yp,<-eN,k8 c x,lU]at h2;rw[xj,Rx.dc];exact m9 h2
  refine mJ ?_ e1;have:=RX (a:=dJ c⁻¹ N) g.can z;rw[<-Rx.ov];exact mI this _⟩
 rw[ny]at hb;refine aK Tryz.func14 ?_;refine U J<|h<|U J<|F J (λcA=>?_)<|λcA=>aE ?_
 .have cA:(Z a:V)=0:=dw cA;exact aF cA Y
 .exact R<|rc J J hb<|M J<|U J<|cN J
section
variable{m a b:E L}{t:G}
def alb(d:cZ m) t:Ez m t [1]:=⟨vJ 4 t S,by have:=d.l2;show 1<_;omega⟩
end
def be(a m:E L):G->E L
 |0=>a
 |i+1=>fm (be a m i) [0,1] m
def Z5:w O 78 [c 1] (e .q [0,1]):=iT (l:=[]) j fh J J
def SU:lx [(0:L),1]=X 1:=Rx.ext λi=>by
 match i with
 |0=>rfl
 |1=>rfl
 |i+2=>rw[rH,y Y];rfl
def CH:Pz 2 0 [(0:L),1]:=⟨.inr (S:(1:L)≠0),aL _,by
 rw[SU];refine⟨1,S,S,λi=>?_⟩;rw[rH];split
 .exact⟨1,S,lF _⟩
 .exact⟨0,S,eh _⟩⟩
section
variable{m a:E L}{t:G}
def Z6(b:cZ m)(f:Ez m t a)(l:t<=1000000000):Ez m (t+12) (fm a [0,1] m)/\w O 19 [e .q a,e .q [0,1],e .q m] (e .q<|fm a [0,1] m):=by
 have n:=b.l2;have p:=b.l5;have u:=f.2;have i:Z a+[(0:L),1].length-1+1-Z m<=1:=by show Z a+2-1+1-Z m<=1;omega
 have k:=Pz.fm f.1 CH b.pz b.ne (d:=1) S i;have g:(fm a [0,1] m).length<Z m:=nS b.ne;exact⟨⟨⟨k.can,Y,k.ht.le<|dD S Y⟩,g⟩,f.1.akA CH b.pz b.ne (d:=1) (s:=100000000000) S S S i Y S⟩
def yO(b:cZ m)(d:Ez m t a)(f:t<=100000000):∀i,i<=100->Ez m (t+12*i) (be a m i)
 |0,_=>d
 |i+1,g=>(Z6 b (yO b d f i Y) Y).1.le Y
end
def alc(a m:E L):CX O 69 [e .q a,e .q m] [] 3002000 (.c<|.X 3002002) [(3002001,.box 29 0 [.S .q m]),(3002000,.box 29 0 [.S .q a]),(3002002,.eB 122 [] [(ah,[.P 3002001 0]),(ah,[.P 3002000 0])])] 3002003:=by
 refine aub (λf=>if f=3002000 then 0 else if f=3002001 then 1000 else if f=3002002 then 1000000 else f) Tryz.func69 J J J J S (fm0:=[(1000000,.eB 122 [] [(ah,[.P 1000 0]),(ah,[.P 0 0])]),(1000,.box 29 0 [.S .q m]),(0,.box 29 0 [.S .q a])]) ?_ S ?_ ?_ ?_
 .exact U J<|R<|Ys J J J<|λk=>M J<|bX<|RE cq J
 .intro f h;have h:f∈[3002002]:=h;simp at h;omega
 .intro f b h;simp only[o]at h;split at h
  .rename_i g;subst g;cases h;exact⟨J,S,λj d=>by cases d⟩
  .split at h
   .rename_i g;subst g;cases h;exact⟨J,S,λj d=>by cases d⟩
   .split at h
    .rename_i g;subst g;cases h;exact⟨J,S,λj d=>by simp[aA.ak,et,b6,C.ak]at d;omega⟩
    .cases h
 .intro f l h n g;have i:∀j,(o j [(3002001,aA.box 29 0 [.S .q m]),(3002000,aA.box 29 0 [.S .q a]),(3002002,.eB 122 [] [(ah,[.P 3002001 0]),(ah,[.P 3002000 0])])]).isSome=ae->j=3002001\/j=3002000\/j=3002002:=λj d=>by
   simp only[o]at d;split at d
   .omega
   .split at d
    .omega
    .split at d
     .omega
     .cases d
  rcases i f h with rfl|rfl|rfl<;>rcases i l n with rfl|rfl|rfl<;>first|rfl| (revert g;decide)
def Z7{g:Gh}{b:C}:∀{cs:E (Bool×E C)}{d:E Value}{j:G},dK g cs d->cs[j]? =ad (ah,[b])->∃f,d[j]? =ad f/\de g b f
 |[],_,_,_,a=>by cases a
 |_::_,_,0,⟨v,_,rfl,i,_⟩,a=>by cases a;exact⟨v,J,i⟩
 |_::cs,_,j+1,⟨_,_,rfl,_,h2⟩,a=>Z7 (cs:=cs) (j:=j) h2 a
def SV{f}{i a}{k}(p:G)(l:f[p]? =ad (ah,[.P i a])) g m val(s:dK g f k)(t:bh g (.c<|.P i a) val)(u:dK m f k):bh m (.c<|.P i a) val:=by let ⟨w,v,x⟩:=Z7 s l;let ⟨A,n,h2⟩:=Z7 u l;rw[v]at n;cases n;obtain⟨b,z,rfl⟩:=t;obtain⟨B,d,rfl⟩:=x;rw[z]at d;cases d;exact h2
def IL(a:pH)(k d:G)(l:E (G×AV)):E (G×AV)->Prop
 |[]=>True
 | (t,u)::f=>(o t l=ad u/\Nat.beq t d=ah/\(u.ak=[]\/(∀g b val,dK g a.caps a.ws->bh g u val->dK b a.caps a.ws->bh b u val)/\∀i∈u.ak,i<1000000*k))/\IL a k d l f
def IL.get{b:pH}{k d:G}{l:E (G×AV)}:∀{m:E (G×AV)},IL b k d l m->∀t u,o t m=ad u->o t l=ad u/\t≠d/\(u.ak=[]\/(∀g i val,dK g b.caps b.ws->bh g u val->dK i b.caps b.ws->bh i u val)/\∀n∈u.ak,n<1000000*k)
 |[],_,_,_,a=>by simp[o]at a
 | (p,x)::m,hw,t,u,a=>by
  simp only[o]at a;split at a
  .rename_i f;subst f;cases a;exact⟨hw.1.1,λf=>(by have:=hw.1.2.1;rw[f,Dy]at this;cases this),hw.1.2.2⟩
  .exact IL.get hw.2 t u a
abbrev IM(a:pH):AV:= .c<|.V<|.func (.yield a.l) #[] #[]
def ald{p:pH}{bo}{d n}{Mo}{k}{f}(x:k= .normal\/k= .ret)(i:1<=f.nx)(s:f.mem=Mo):iY n k f (p.O<|oS bo d) (p.Q bo d Mo):=by intro F D z A g W a l u;have m:A=[]:=u.2.2.2.1;subst m;refine⟨x,⟨g,f.nx,i,?_⟩,u⟩;let ⟨sl,mem,nx,gd⟩:=f;simp only at s i;subst s;exact aR.frame (F:=F.dr []) (n':=(F.dr []).n) (ds':=[]) (rd':=(F.dr []).rd) l l.size l.defers (λt v B=>by simp[o]at B)<|λH b C=>C
abbrev zR:E C:=[.B ah,.V<|.slice none 0 0,.B ah,.V<|.slice none 0 0]
abbrev AN:E (Bool×E C):=[(ah,[.P 3002001 0]),(ah,[.P 3002000 0])]
abbrev yP:E (G×C):=[(4,.P 1000000 0),(5,.P 2000000 0)]
abbrev AO:G×aA:=(0,.eB 0 [] (sO yP++AN))
abbrev mN(b m:E L)(l:E (E L)):E (G×aA):=[(3002001,.box 29 0 [.S .q m]),(3002000,.box 29 0 [.S .q b]),(4000000,.vec 29 LQ l),(2000000,.box 70 0 [.X 4000000]),(1000000,.box 44 0 zR)]
def dB(a m:E L)(i:G):E (E L):=(List.range i).map<|be a m
def ayj{R:pH}(ok:R.Ok)(k:R.caps=sO yP++AN)(A:R.S0=nE yP){a m}{t n}(B:cZ m)(ha:Ez m t a)(ht:t<=100000000)(hn:Z m=n+1)
  (D:∀i,i<n->∃f:St,1<=f.nx/\sL f.mem=ae/\TJ O R.n0 R.fb ⟨(R.q,e .q<|be a m i)::(R.p,c i)::R.S0,AO::mN (be a m i) m (dB a m i),30,[]⟩ wL (λhZ cH a W=>cH= .normal/\∃g,aR (hZ.dr []) (kb f) f.kn g W a)/\TJ O R.n0 R.bd f wL (KO ae 1<|AO::mN (be a m i) m (dB a m<|i+1)))
 {cb}(H:Tryz.f122.body=ad cb):
  TJ O 21 cb ⟨[(0,IM R),(1,.c<|.P 3002001 0),(2,.c<|.P 3002000 0)],AO::mN a m (dB a m 0),5,[]⟩ (R.O none) (R.Q ae 1<|AO::mN (be a m n) m (dB a m n)):=by
 obtain rfl:=JI<|(rfl:Tryz.f122.body=ad _).symm.trans H
 have s:=R.V6 none
 have w:=B.l5
 refine kr s J<|sK<|KN (α:=G) (λi=>⟨[(0,IM R),(1,.c<|.P 3002001 0),(2,.c<|.P 3002000 0),(7,c n),(8,c i)],AO::mN (be a m i) m (dB a m i),6,[]⟩) (λi=>i<=n) (λi=>n-i) 0 (bg _) (wk ⟨sR J,sR J,sR J,sE J ?_,sR J,j⟩<|n5 J) ?_
 .exact bm c (Y:(Z m:V)-1=(n:V))
 intro i y
 refine kr s J<|og<|vi J (λh=>?_)<|λh=>?_
 .have h:i<n:=by have h:(i:V)<(n:V):=aV h;omega
  let ⟨f,K,N,hA,hB⟩:=D i h;have u:=(Z6 B (yO B ha ht i Y) Y).2;refine wJ<|nD<|og<|sK<|kr s J<|og ?_;refine og<|aeC (i:=3) (d:=14) (j:=11) (x:=12) (x2:=13) (v:=c i) (v2:=e .q<|be a m i) (M:=AO::mN (be a m i) m (dB a m i)) (Mo:=AO::mN (be a m i) m (dB a m<|i+1)) (xid:=1) (stB:=f) (nxr:=30) (bo:=ae) (slk:=[(0,IM R),(1,.c<|.P 3002001 0),(2,.c<|.P 3002000 0),(7,c n),(8,c i)]) (gd1:=[]) ok J J J (.inl J) (RB J<|.nil J) J J J J J S J (by rw[k];rfl) (by rw[k];rfl) (IL.get ⟨⟨J,J,.inl J⟩,⟨J,J,.inr ⟨?_,?_⟩⟩,⟨J,J,.inr ⟨?_,?_⟩⟩,⟨J,J,.inl J⟩,⟨J,J,.inl J⟩,j⟩) J J J (F' (b:=8000000) J) (S:1<=8) (c7 J) N (S:9<=30) K ?_ hA hB (RB J<|.nil J) ?_
  .intro g T val h X z;rw[k]at h z;exact SV 2 J g T val h X z
  .intro o aY;have:o=3002001:=SW;subst this;show 3002001<1000000*8;decide
  .intro g T val h X z;rw[k]at h z;exact SV 3 J g T val h X z
  .intro o aY;have:o=3002000:=SW;subst this;show 3002000<1000000*8;decide
  .rw[A];exact F9 (b:=8000000) (l:=nE yP) J
  refine nD<|vi J (λr=>by cases r)<|λ_=>wJ<|nD<|Ih s<|rc J J Z5<|rc J J u<|M J<|wK<|nD<|kt s J<|Hk (i+1) h L6<|wk (bK J) ⟨bR J,bR J,bE J J,bR J,bR J,bR J,j⟩
 .have h:i=n:=by have h:¬(i:V)<(n:V):=bc h;omega
  subst h;exact VZ<|V1<|V4<|V3<|ald (bo:=ae) (.inl J) (S:1<=7) J
abbrev CI:E (G×C):=[(4,.P 1000000 0),(5,.P 2001000 0)]
abbrev yQ:G×aA:=(0,.eB 0 [] (sO CI++AN))
abbrev mT(b m:E L)(s:L):E (G×aA):=[(3002001,.box 29 0 [.S .q m]),(3002000,.box 29 0 [.S .q b]),(2001000,.box 44 0<|av .q s),(1000000,.box 44 0 zR)]
def gn(a m:E L):G->L
 |0=>0
 |i+1=>gn a m i+I (be a m i) i 0
def ayk{R:pH}(ok:R.Ok)(k:R.caps=sO CI++AN)(A:R.S0=nE CI){a m}{t n}(B:cZ m)(ha:Ez m t a)(ht:t<=100000000)(hn:Z m=n+1)
  (D:∀i,i<n->∃f:St,1<=f.nx/\sL f.mem=ae/\TJ O R.n0 R.fb ⟨(R.q,e .q<|be a m i)::(R.p,c i)::R.S0,yQ::mT (be a m i) m (gn a m i),30,[]⟩ wL (λhZ cH a W=>cH= .normal/\∃g,aR (hZ.dr []) (kb f) f.kn g W a)/\TJ O R.n0 R.bd f wL (KO ae 1<|yQ::mT (be a m i) m (gn a m<|i+1)))
 {cb}(H:Tryz.f122.body=ad cb):
  TJ O 21 cb ⟨[(0,IM R),(1,.c<|.P 3002001 0),(2,.c<|.P 3002000 0)],yQ::mT a m (gn a m 0),5,[]⟩ (R.O none) (R.Q ae 1<|yQ::mT (be a m n) m (gn a m n)):=by
 obtain rfl:=JI<|(rfl:Tryz.f122.body=ad _).symm.trans H
 have s:=R.V6 none
 have w:=B.l5
 refine kr s J<|sK<|KN (α:=G) (λi=>⟨[(0,IM R),(1,.c<|.P 3002001 0),(2,.c<|.P 3002000 0),(7,c n),(8,c i)],yQ::mT (be a m i) m (gn a m i),6,[]⟩) (λi=>i<=n) (λi=>n-i) 0 (bg _) (wk ⟨sR J,sR J,sR J,sE J ?_,sR J,j⟩<|n5 J) ?_
 .exact bm c (Y:(Z m:V)-1=(n:V))
 intro i y
 refine kr s J<|og<|vi J (λh=>?_)<|λh=>?_
 .have h:i<n:=by have h:(i:V)<(n:V):=aV h;omega
  let ⟨f,K,N,hA,hB⟩:=D i h;have u:=(Z6 B (yO B ha ht i Y) Y).2;refine wJ<|nD<|og<|sK<|kr s J<|og ?_;refine og<|aeC (i:=3) (d:=14) (j:=11) (x:=12) (x2:=13) (v:=c i) (v2:=e .q<|be a m i) (M:=yQ::mT (be a m i) m (gn a m i)) (Mo:=yQ::mT (be a m i) m (gn a m<|i+1)) (xid:=1) (stB:=f) (nxr:=30) (bo:=ae) (slk:=[(0,IM R),(1,.c<|.P 3002001 0),(2,.c<|.P 3002000 0),(7,c n),(8,c i)]) (gd1:=[]) ok J J J (.inl J) (RB J<|.nil J) J J J J J S J (by rw[k];rfl) (by rw[k];rfl) (IL.get ⟨⟨J,J,.inl J⟩,⟨J,J,.inr ⟨?_,?_⟩⟩,⟨J,J,.inr ⟨?_,?_⟩⟩,⟨J,J,.inl J⟩,⟨J,J,.inl J⟩,j⟩) J J J (F' (b:=8000000) J) (S:1<=8) (c7 J) N (S:9<=30) K ?_ hA hB (RB J<|.nil J) ?_
  .intro g T val h X z;rw[k]at h z;exact SV 2 J g T val h X z
  .intro o aY;have:o=3002001:=SW;subst this;show 3002001<1000000*8;decide
  .intro g T val h X z;rw[k]at h z;exact SV 3 J g T val h X z
  .intro o aY;have:o=3002000:=SW;subst this;show 3002000<1000000*8;decide
  .rw[A];exact F9 (b:=8000000) (l:=nE CI) J
  refine nD<|vi J (λr=>by cases r)<|λ_=>wJ<|nD<|Ih s<|rc J J Z5<|rc J J u<|M J<|wK<|nD<|kt s J<|Hk (i+1) h L6<|wk (bK J) ⟨bR J,bR J,bE J J,bR J,bR J,j⟩
 .have h:i=n:=by have h:¬(i:V)<(n:V):=bc h;omega
  subst h;exact VZ<|V1<|V4<|V3<|ald (bo:=ae) (.inl J) (S:1<=7) J
def SX{L:E (G×aA)}(a:((L.map Prod.fst).contains 0||(L.map λx=>x.2.ak.contains 0).contains ae)=ah):∀d b,o d L=ad b->d≠0/\0∉b.ak:=λd b i=>by
 have g:=ya i;rw[OX]at a;refine⟨λe=>?_,λe=>?_⟩
 .subst e;have:(L.map Prod.fst).contains 0=ae:=by rw[Z8];exact Sf (f:=Prod.fst) g
  rw[a.1]at this;cases this
 .have:(L.map λx=>x.2.ak.contains 0).contains ae=ae:=by rw[Z8];exact kd.2 ⟨_,g,by rw[Z8];exact e⟩
  rw[a.2]at this;cases this
def SZ{a m:E L}:∀g b,o g [(3002001,aA.box 29 0 [.S .q m]),(3002000,aA.box 29 0 [.S .q a]),(3002002,.eB 122 [] [(ah,[.P 3002001 0]),(ah,[.P 3002000 0])])]=ad b->3002000<=g/\∀f∈b.ak,3002000<=f:=λg b i=>by
 have:=ya i;simp only[b7,bM,xt,or_false]at this;rcases this with⟨rfl,rfl⟩|⟨rfl,rfl⟩|⟨rfl,rfl⟩
 .exact⟨S,λf d=>by cases d⟩
 .exact⟨S,λf d=>by cases d⟩
 .exact⟨S,λf d=>by simp[aA.ak,et,b6,C.ak]at d;omega⟩
def MH{a m:E L}{s:G}(b:∀i,i<=100->QS s (I (be a m i) i 0)):∀i,i<=100->QS (2^i*(s+2)-1) (gn a m i)
 |0,_=>QS.zero Y
 |i+1,f=>by
  have d:1<=2^i:=gG S;have g:s+2<=2^i*(s+2):=by have:=dS (s+2) d;omega
  have:=(MH b i Y).add<|(b i Y).le Y;exact this.le (by rw[fG,gA (2^i) 2,mz];omega)
def ayl{m a}{t}(hm:cZ m)(D:Ez m t a)(H:t<=10000000):w O 24 [e .q a,e .q m] (aQ<|gn a m<|Z m-1):=by
 obtain⟨n,W⟩:∃n,Z m=n+1:=⟨Z m-1,MG⟩;have h5:=hm.l5;have A:Z m-1=n:=Y;have o:=yO hm D Y;have u:∀i,i<=100->∀j,QS 10000000 (I (be a m i) j 0):=λi z j=>(o i z).1.qs Y j
 have x:=MH (a:=a) (m:=m)<|λi z=>u i z i;rw[A];refine ahH (nx:=1) (n:=25) J J J J J J J ?_;refine kr jv J<|At jv<|rc J J (If 0 S S)<|M J<|og<|At jv ?_;refine rcN J J (alc a m) S (λg B=>?_) (λg b d=>(SZ g b d).1) (λg b d=>(SZ g b d).2)<|λ_=>M J<|sK ?_
 .rw[iW.1 B];decide
 refine KM (st':=⟨(11,.c<|.X 3002002)::nE CI,(3002002,.eB 122 [] AN)::mT a m (gn a m 0),5,[]⟩) aN ?_;refine aeE (n0:=25) (nI:=21) (p:=12) (p2:=13) (cid:=3002002) (f:=122) (capsI:=AN) (wsI:=[.c (.P 3002001 0),.c<|.P 3002000 0]) (Sc:=CI) (M:=mT a m<|gn a m 0) (Mo:=mT (be a m n) m<|gn a m n) (bo:=ae) (xid:=1) J J J J J J J J (S:2+1<=21) (S:1<=5) (S:12<25) (S:13<25) S J J ?_ J ?_ ?_ (SX J) (λg b d=>?_) ?_ ?_
 .intro s N;simp only[CI,b7,xt,or_false]at N;rcases N with rfl|rfl<;>rfl
 .intro t v H r;have:=ya H;simp only[nE,CI,gX,Fa,b7,bM,xt,or_false]at this;rcases this with⟨_,rfl⟩|⟨_,rfl⟩|⟨_,rfl⟩<;>exact aF (iW.1 r) S
 .intro g b d;refine(ahd<|λC=>?_).trans d;subst C;cases d
 .exact⟨(SX (L:=mT (be a m n) m<|gn a m n) J g b d).1,(yB.of (K:=5000000) (m:=mT (be a m n) m<|gn a m n) J) g b d⟩
 .intro R y Q T E F G U e7;refine ayk (R:=R) y E T hm D Y W (λi z=>⟨⟨[(6,c i),(7,e .q<|be a m i),(4,.c<|.P 1000000 0),(5,.c<|.P 2001000 0)],yQ::mT (be a m i) m (gn a m i),32,[]⟩,(S:1<=32),J,?_,?_⟩) J
  .rw[Q,T,F,G,U];exact kr Hl J<|kt Hl J<|ahP aN
  .rw[Q,e7];refine sK (kr Hl J<|vi J (λh=>?_)<|λh=>wJ ?_)
   .have h:i<Z (be a m i):=by have h:(i:V)<(Z (be a m i):V):=aV h;omega
    have l:=ahy (k:=2000000000) (gn a m i) (I (be a m i) (af<|(i:V)) 0) ((x i Y).le<|by have:=dS (10000000+2)<|dD (S:0<2) (Y:i<=6);omega) ((u i Y _).le S) S;rw[show gn a m i+I (be a m i) (af<|(i:V)) 0=gn a m (i+1)by rw[cC];rfl]at l;exact Ih Hl<|rc J J l (M J<|wK<|BF (st':=⟨[],yQ::mT (be a m i) m (gn a m<|i+1),40,[]⟩) aN<|Yr J (S:1<=40) J) (hp:=aH)
   .have h:Z (be a m i)<=i:=by have h:¬(i:V)<(Z (be a m i):V):=bc h;omega
    have C:gn a m (i+1)=gn a m i:=by show gn a m i+I (be a m i) i 0=_;rw[fP _ h,nM]
    rw[C];exact wK<|BF (st':=⟨[],yQ::mT (be a m i) m (gn a m i),40,[]⟩) aN<|Yr J (S:1<=40) J
 .exact wK<|nD<|kr jv J<|V0<|Yq cq J<|bu.refl _
def ale{k}a b(g:b≠0)(l:QS k a)(f:QS k b)(m:k<=500000000000):w O 73 [aQ a,aQ b] (.t [(ae,av .q<|a/b),(ah,[.I .i64 0])]):=by have p:=L4 b (λe=>g<|vD e) (f.n.sm Y)<|f.d.sm Y;have i:=Rp a b⁻¹ l (f.inv g) m;rw[<-s']at i;refine aK Tryz.func73 ?_;refine U J<|R<|rc J J p<|M J<|bI<|U J<|F J (λh=>gL)<|λ_=>aE ?_;exact R<|rc J J i<|M J<|cN J
def nV(a:E (E L))(n:G):G->Option G
 |0=>none
 |k+1=>if Z (a.getD k [])<n then nV a n k else ad k
def S4(a:E (E L))(k b:G):E (E L):=(a.set k<|a.getD b []).set b<|a.getD k []
def jX(a:E (E L))(k n:G):E (E L):=if k=n then a else S4 a k n
def qK(v:L)(k n:G):L:=if k=n then v else-v
def CJ(a p:E L)(n:G):E L:=eW a<|dJ (I a n 0/I p n 0) p
def jJ(a:E (E L))(n:G)(p:E L):G->E (E L)
 |0=>a
 |i+1=>if Z ((jJ a n p i).getD i [])=n+1 then(jJ a n p i).set i (CJ ((jJ a n p i).getD i []) p n)else jJ a n p i
def NR:G->E (E L)->L->L
 |0,_,v=>v
 |n+1,rows,v=>match nV rows (n+1) (n+1)with
  |none=>0
  |some k=>NR n (jJ (jX rows k n) n ((jX rows k n).getD n []) n)<|qK v k n*I ((jX rows k n).getD n []) n 0
section
variable{rows:E (E L)}{n k:G}{p:E L}
def Z9{v}(a:nV rows (n+1) (n+1)=none):NR (n+1) rows v=0:=by rw[NR,a]
def Z'{v}(a:nV rows (n+1) (n+1)=ad k):NR (n+1) rows v=NR n (jJ (jX rows k n) n ((jX rows k n).getD n []) n) (qK v k n*I ((jX rows k n).getD n []) n 0):=by rw[NR,a]
def alf:∀{b:G},nV rows n b=ad k->k<b/\¬Z (rows.getD k [])<n
 |0,a=>by cases a
 |b+1,a=>by
  rw[nV]at a;split at a
  .have:=alf a;exact⟨Y,this.2⟩
  .rename_i d;cases a;exact⟨dV _,d⟩
def alg:∀{a:G},nV rows n a=none->∀i,i<a->Z (rows.getD i [])<n
 |0,_,i,d=>aF d<|nZ _
 |a+1,b,i,d=>by
  rw[nV]at b;split at b
  .rename_i f;by_cases g:i=a
   .subst g;exact f
   .exact alg b i Y
  .cases b
def aac l{i}(x:E L)(b:i<Z l) a:(l.set i x).getD a []=if a=i then x else l.getD a []:=by
 rw[aO];by_cases e:a=i
 .subst e;rw[q J,List.getElem?_set_self b];rfl
 .rw[y e,List.getElem?_set_ne<|λh=>e h.symm,<-aO]
def alh:Z (jX rows k n)=Z rows:=by
 unfold jX S4;split
 .rfl
 .rw[px,px]
def MI(f:k<=n)(d:n<Z rows) a:(jX rows k n).getD a []=if a=n then rows.getD k []else if a=k then rows.getD n []else rows.getD a []:=by
 unfold jX;split
 .rename_i e;subst e;by_cases b:a=k
  .subst b;rw[q J]
  .rw[y b,y b]
 .rw[S4,aac _ _ (by rw[px];exact d),aac _ _ Y]
def MJ:∀i,Z (jJ rows n p i)=Z rows
 |0=>rfl
 |i+1=>by
  rw[jJ];split
  .rw[px,MJ i]
  .exact MJ i
def CK:∀i,i<=Z rows->∀a,(jJ rows n p i).getD a []=if a<i/\Z (rows.getD a [])=n+1 then CJ (rows.getD a []) p n else rows.getD a []
 |0,_,a=>by rw[y (λb=>nZ _ b.1)];rfl
 |i+1,g,a=>by
  have d:=CK i Y i;rw[y (λb=>Hb _ b.1)]at d;rw[jJ,d];split
  .rename_i f;rw[aac _ _ (by rw[MJ];omega)];by_cases e:a=i
   .subst e;rw[q J,q ⟨dV _,f⟩]
   .rw[y e,CK i Y a];by_cases h2:a<i/\Z (rows.getD a [])=n+1
    .rw[q h2,q ⟨Y,h2.2⟩]
    .rw[y h2,y<|λb=>h2 ⟨Y,b.2⟩]
  .rename_i f;rw[CK i Y a];by_cases h2:a<i/\Z (rows.getD a [])=n+1
   .rw[q h2,q ⟨Y,h2.2⟩]
   .rw[y h2,y (λb=>h2 ⟨by
     by_cases e:a=i
     .subst e;exact aF b.2 f
     .omega,b.2⟩)]
end
def Rx.Ht.S5{a}{A}(b:Ht a A) i:Ht a (K<|A i):=by
 let ⟨D,d,h2,f⟩:=b;refine⟨D,d,h2,λj=>?_⟩;rw[lS];split
 .exact f i
 .exact⟨0,bg _,eh _⟩
def Rx.Ht.S6{a N}{x b}(d:Ht a (K x))(k:Ht N (K b)):Ht (a*N) (K<|x*b):=by have:=d.smul k;rwa[<-eN,yn]at this
def Rx.Ht.ali{a N}{A B}(b:Ht a A)(k:Ht N B){i j}(hB:B j≠0):Ht (a*N) (K<|A i/B j):=by rw[s'];exact(b.S5 i).S6<|k.inv hB
def Rx.Ht.aad{a}{x}(b:Ht a (K x)):Ht a (K<| -x):=by rw[HX];exact b.neg
def aae{a p}{T n}(b:Pz 4 T a)(f:Pz 4 T p)(g:I p n 0≠0)(u:Z a=n+1)(v:Z p=n+1):Pz 4 (4*T+1) (CJ a p n)/\Z (CJ a p n)<=n/\Ht (2^(T+T)) (K<|I a n 0/I p n 0):=by
 have k:Ht (2^(T+T)) (K<|I a n 0/I p n 0):=by rw[jm];exact b.ht.ali f.ht (i:=n) (j:=n) g
 have d:=b.sub<|f.Ax k;have l:Z (CJ a p n)<=n:=by
  refine Io d.can λi x=>?_
  show I (eW a<|dJ _ p) i 0=0;rw[Cp,vF];by_cases e:i=n
  .subst e;rw[s',lT,k8 _ g,lF];grind
  .have m:I a i 0=0:=fP a Y;have s:I p i 0=0:=fP p Y;rw[m,s,eh];grind
 have t:=b.len;exact⟨⟨d.can,Y,d.ht.le<|dD S Y⟩,l,k⟩
structure vK(N n T:G)(a:E (E L)):Prop where
 len:a.length=N
 pz:∀i,Pz 4 T (a.getD i [])
 sh:∀i,i<n->(a.getD i []).length<=n
section
variable{N n T k:G}{rows:E (E L)}
def vK.piv(a:vK N (n+1) T rows)(f:n<N)(b:nV rows (n+1) (n+1)=ad k):k<=n/\(jX rows k n).getD n []=rows.getD k []/\Z (rows.getD k [])=n+1/\I (rows.getD k []) n 0≠0:=by have d:=alf b;have g:=a.sh k d.1;have i:=a.len;have e:Z (rows.getD k [])=n+1:=Y;refine⟨Y,by rw[MI Y Y,q J],e,?_⟩;exact(a.pz k).can.top e
def vK.sw(a:vK N (n+1) T rows)(g:n<N)(b:k<=n):vK N (n+1) T (jX rows k n):=by
 have d:=a.len;refine⟨by rw[alh];exact d,λi=>?_,λi f=>?_⟩
 .rw[MI b Y];split
  .exact a.pz _
  .split
   .exact a.pz _
   .exact a.pz _
 .rw[MI b Y];split
  .exact a.sh _ Y
  .split
   .exact a.sh _ Y
   .exact a.sh _ f
def vK.el(a:vK N (n+1) T rows)(s:n<N){p}(d:Pz 4 T p)(f:I p n 0≠0)(g:Z p=n+1):vK N n (4*T+1) (jJ rows n p n):=by
 have l:=a.len;refine⟨by rw[MJ];exact l,λi=>?_,λi m=>?_⟩
 .rw[CK n Y];split
  .rename_i b;exact(aae (a.pz i) d f b.2 g).1
  .exact(a.pz i).le (aL _) Y
 .rw[CK n Y];split
  .rename_i b;exact(aae (a.pz i) d f b.2 g).2.1
  .rename_i b;have t:=a.sh i Y;have u:Z (rows.getD i [])≠n+1:=λe=>b ⟨m,e⟩
   omega
end
abbrev mV:=G×E L×E L
def oC:E mV->G->Option (E L×E L)
 |[],_=>none
 |x::a,n=>if x.1=n then ad x.2 else oC a n
def vL(a:E mV):E (E C×E C):=a.map λx=>([.I .i64 (x.1:G)],[.S .q x.2.1,.S .q x.2.2])
def alj(n:G):∀a:E mV,u5 ah .i64 [(n:V)] (vL a)=ad ((oC a n).map λd=>[.S .q d.1,.S .q d.2])
 |[]=>rfl
 |x::f=>by
  show(if[((x.1:G):V)]=[(n:V)]then ad (ad [C.S .q x.2.1,C.S .q x.2.2])else u5 ah .i64 [(n:V)] (vL f))=_;rw[oC];by_cases b:x.1=n
  .rw[q b,q<|by rw[b]];rfl
  .rw[y b,y (λg=>b<|by simp at g;omega),alj n f]
def alk(n:G)(b d:E L):∀a:E mV,oC a n=none->u6 ah .i64 [(n:V)] [.I .i64 n] [.S .q b,.S .q d] (vL a)=ad (vL<|a++[(n,b,d)])
 |[],_=>rfl
 |x::g,f=>by
  rw[oC]at f;split at f
  .cases f
  .rename_i i;show(if[((x.1:G):V)]=[(n:V)]then ad (([C.I .i64 (n:G)],[C.S .q b,C.S .q d])::vL g)else(match u6 ah .i64 [(n:V)] [.I .i64 n] [.S .q b,.S .q d] (vL g)with
    |some k=>ad<|([C.I .i64 (x.1:G)],[C.S .q x.2.1,C.S .q x.2.2])::k
    |none=>none))=_
   rw[y (λb=>i<|by simp at b;omega),alk n b d g f];rfl
def MK{n:G}{d:E L×E L}:∀{a:E mV},oC a n=ad d->(n,d)∈a
 |[],b=>by cases b
 |x::g,b=>by
  rw[oC]at b;split at b
  .rename_i f;cases b;subst f;exact CS
  .exact ls _<|MK b
def alm{n:G}:∀{a:E mV},oC a n=none->∀x∈a,x.1≠n
 |[],_,x,hx=>by cases hx
 |f::g,b,x,hx=>by
  rw[oC]at b;split at b
  .cases b
  .rename_i d;rcases b7.1 hx with rfl|hx
   .exact d
   .exact alm b x hx
def oD(a p:E L):L:=I a (Z a-1) 0/I p (Z a-1) 0
def iq(b:E mV):G->E L->E L->E L×E L
 |0,a,d=>(a,d)
 |f+1,a,d=>if a=[]then(a,d)else match oC b (Z a)with
  |none=>(a,d)
  |some g=>iq b f (eW a<|dJ (oD a g.1) g.1)<|eW d<|dJ (oD a g.1) g.2
def S7 rows f a:iq rows f [] a=([],a):=by
 cases f with
 |zero=>rfl
 |succ f=>rw[iq,q J]
def ML{a}f{b}d(g:oC a (Z b)=none):iq a f b d=(b,d):=by
 cases f with
 |zero=>rfl
 |succ f=>rw[iq,g];split<;>rfl
def S8{a}{f}{b}g{d}(i:b≠[])(k:oC a (Z b)=ad d):iq a (f+1) b g=iq a f (eW b<|dJ (oD b d.1) d.1) (eW g<|dJ (oD b d.1) d.2):=by rw[iq,y i,k]
def CL(a m:E L):G->E mV->E L->E L->E L
 |0,_,_,_=>[]
 |f+1,rows,pw,b=>if(iq rows (Z m) pw b).1=[]then(iq rows (Z m) pw b).2 else CL a m f (rows++[((iq rows (Z m) pw b).1.length,(iq rows (Z m) pw b).1,(iq rows (Z m) pw b).2)]) (fm pw a m) (ml b [0,1])
def yR(a m:E L):E L:=CL a m (Z m+1) [] [1] [1]
structure IN(m:E L)(T:G)(x:mV):Prop where
 ne:x.2.1≠[]
 len:x.2.1.length=x.1
 ez:Ez m T x.2.1
 oz:Pz 9 T x.2.2
def IN.le{m}{T b}{x:mV}(a:IN m T x)(k:T<=b):IN m b x:=⟨a.ne,a.len,a.ez.le k,a.oz.le (aL _) k⟩
def aln{m}{T d}{x:mV}{a p}(b:IN m T x)(f:Ez m d a)(t:Pz 9 d p)(D:Z a=x.1):Ez m (2*d+2*T+1) (eW a<|dJ (oD a x.2.1) x.2.1)/\Pz 9 (2*d+2*T+1) (eW p<|dJ (oD a x.2.1) x.2.2)/\Z (eW a<|dJ (oD a x.2.1) x.2.1)<Z a/\Ht (2^(d+T)) (K<|oD a x.2.1)/\I x.2.1 (Z a-1) 0≠0:=by
 have C:=cF.2 b.ne;have u:=b.len;have g:I x.2.1 (Z a-1) 0≠0:=by rw[(Y:Z a-1=Z x.2.1-1)];exact b.ez.1.can.ne b.ne
 have k:Ht (2^(d+T)) (K<|oD a x.2.1):=by rw[jm];exact f.1.ht.ali b.ez.1.ht (i:=Z a-1) (j:=Z a-1) g
 have l:=f.1.sub<|b.ez.1.Ax k;have n:=t.sub<|b.oz.Ax k;have s:Z (eW a<|dJ (oD a x.2.1) x.2.1)<=Z a-1:=by
  refine Io l.can λi H=>?_
  rw[Cp,vF];by_cases c:i=Z a-1
  .rw[c,oD,s',lT,k8 _ g,lF];grind
  .have v:I a i 0=0:=fP a Y;have z:I x.2.1 i 0=0:=fP _ Y;rw[v,z,eh];grind
 have A:=f.1.len;have B:=f.2;refine⟨⟨⟨l.can,Y,l.ht.le<|dD S Y⟩,Y⟩,⟨n.can,by have:=n.len;omega,n.ht.le<|dD S Y⟩,Y,k,g⟩
def alo{m:E L}{T:G}{a:E mV}(k:∀x∈a,IN m T x):∀(f d:G)(b g:E L),Z b<f->Ez m d b->Pz 9 d g->Ez m ((d+2*T+1)*2^Z b) (iq a f b g).1/\Pz 9 ((d+2*T+1)*2^Z b) (iq a f b g).2/\((iq a f b g).1=[]\/oC a (iq a f b g).1.length=none)
 |0,_,_,_,l,_,_=>aF l<|nZ _
 |f+1,d,b,g,l,he,ho=>by
  have s:0<2^Z b:=gG S;have t:=qv (d+2*T+1) s;by_cases n:b=[]
  .subst n;rw[S7];exact⟨he.le Y,ho.le (aL _) Y,.inl J⟩
  .cases i:oC a (Z b)with
   |none=>
    rw[ML _ _ i]
    exact⟨he.le Y,ho.le (aL _) Y,.inr i⟩
   |some y=>
    rw[S8 g n i]
    have u:=k _<|MK i
    let ⟨s1,s2,v,_⟩:=aln u he ho J
    let ⟨r1,z,A⟩:=alo k f (2*d+2*T+1) _ _ Y s1 s2
    have p:(2*d+2*T+1+2*T+1)*2^Z (eW b<|dJ (oD b y.1) y.1)<=(d+2*T+1)*2^Z b:=by rw[(Y:2*d+2*T+1+2*T+1=(d+2*T+1)*2),mz,<-alp];exact gD _<|dD S v
    exact⟨r1.le p,z.le (aL _) p,A⟩
def alq{a b p d:E L}{f}(g:w O 75 [aQ f,e .q b] (e .q p))(l:w O 74 [e .q a,e .q p] (e .q d)){i k}(s:i<k):
  CX O 79 [e .q a,e .q b,.c<|.P i 0] [(i,.box 44 0<|av .q f)] k (e .q d) [(i,.box 44 0<|av .q f)] k:=by
 refine ZO (λ_=>i) (fm0:=[(2,.box 44 0<|av .q f)]) (fm0':=[(2,.box 44 0<|av .q f)]) (vs0:=[e .q a,e .q b,.c<|.P 2 0]) Tryz.func79 J J ?_ J J J ?_ ?_ ?_ ?_ J ?_ J (by decide:([2]:E G).Nodup)
 .exact U J<|R<|rc J J g<|rc J J l<|M J<|bX<|Ga (st':=⟨[(5,e .q d)],[qJ [2],(2,.box 44 0<|av .q f)],3,[]⟩) aN<|RE cq J
 .intro m aY;have:m=2:=by simpa using aY
  subst this;exact⟨S,by simpa using s⟩
 .intro a ha b hb _;have ha:a=2:=xI;have hb:b=2:=tH;rw[ha,hb]
 .intro m aY;have:m=2:=ZQ;simp[this]
 .intro m b hb x n;simp only[b7,bM,xt,or_false]at hb;rcases hb with⟨_,rfl⟩;simp[aA.ak,b6,C.ak,av]at n
 .intro m b hb x n;simp only[b7,bM,xt,or_false]at hb;rcases hb with⟨_,rfl⟩;simp[aA.ak,b6,C.ak,av]at n
section
variable{n:G}{sl sl':E (G×AV)}{mem bT:E (G×aA)}{nx n0 cw i i':G}{gd gd':E (G×Bool)}{ops:Array Oper}{draw:Bool}{os dR:E Oper}{ks dC:E Ks}{p:Pr}{R:St->Prop}{d:G}{ty:TypeId}{pos:String}{iF:Array Edge}
def alr{u}{args}{B}{f}{vs}{l}{fm b}{A}(h:runs dM n nx draw ops.toList os i ⟨sl,mem,n0,gd⟩ .t ks=(⟨ad d,.call ⟨.value u,args,B⟩,ty,pos,iF,none⟩::dR,i',⟨sl',bT,cw,gd'⟩,p,dC))
  (ht:wo ⟨sl',bT,cw,gd'⟩ u args.toList=ad (f,vs,l)) (hf:CX O f vs fm (1000000*nx+1000*i') A b (1000000*nx+1000*i')) (D:IF fm bT) (hs:b.map (·.1)=fm.map (·.1))
  (hk:RG O n ops draw nx (i'+1) dR ⟨(d,A)::sl',b++bT,cw,gd'⟩ (dC++[(bN (u::args.toList)++(da l++da (fm.map (·.1))),gw<|(Key.s d,ad<|Info.v A)::(qk b fm++kX (1000000*nx+1000*i') b))]) R)
  (H:vZ (1000000*nx+1000*i') (cX vs)=ae:=by rfl) (N:tI (1000000*nx+1000*i') fm=ae:=by rfl) (P:zp (1000000*nx+1000*i') fm A.ak=ae:=by rfl) (T:zq (1000000*nx+1000*i') fm b=ae:=by rfl)
  (hp:p:=by exact Ba) (dG:Nat.blt d n=ae:=by rfl):RG O n ops draw nx i os ⟨sl,mem,n0,gd⟩ ks R:=
 jO cq h hp (Ry (λj=>by
  have o:=Uv j J J (c7 dG) J ht hf H N P T D.get;intro F C Q m q g W a K c z X w;refine o F C Q m q g W a K (λy k=>?_) z X<|λE G I L=>w E G I<|L.weaken<|λy k=>?_
  .omega
  .rcases k with k|k
   .exact .inl k
   .omega) akM (akL hs) (λx e=>by
   simp only[dL,gf,bl]at e;rcases e with((h|h)|h)|h
   .exact eT _<|ff _ (u::args.toList) x uV
   .exact eT _ (ff _ (u::args.toList) x<|by simp only[dL,l6,gf,bl];exact .inr h)
   .exact gO _<|eT _<|kE _ l x h
   .exact gO _<|gO _<|kE _ _ x h) (λ_ h=>h) hk)
end
def als:w O 78 [c 0] (e .q [1]):=iT (l:=[]) j fh J J
def tB(t:G):G->G
 |0=>0
 |i+1=>((i+1)*(t+40)+2*tB t i+1)*16
def aym t:tB t 0=0:=rfl
def CM t i:tB t (i+1)=((i+1)*(t+40)+2*tB t i+1)*16:=rfl
def ayn t i:tB t i<=tB t (i+1):=by rw[CM];omega
def ayo{t}(a:t<=200):∀i,i<=6->tB t i<=400000000000:=by have b:=aym t;have d:tB t 1=(1*(t+40)+2*tB t 0+1)*16:=CM t 0;have f:tB t 2=(2*(t+40)+2*tB t 1+1)*16:=CM t 1;have g:tB t 3=(3*(t+40)+2*tB t 2+1)*16:=CM t 2;have k:tB t 4=(4*(t+40)+2*tB t 3+1)*16:=CM t 3;have l:tB t 5=(5*(t+40)+2*tB t 4+1)*16:=CM t 4;have m:tB t 6=(6*(t+40)+2*tB t 5+1)*16:=CM t 5;intro i n;have:i=0\/i=1\/i=2\/i=3\/i=4\/i=5\/i=6:=Y;rcases this with rfl|rfl|rfl|rfl|rfl|rfl|rfl<;>omega
structure MpH(m:E L)(t i:G)(a:E mV)(pw o:E L):Prop where
 hr:∀x∈a,IN m (tB t i) x
 hp:Ez m ((i+1)*(t+40)) pw
 ho:Pz 9 ((i+1)*(t+40)) o
 lo:o.length<=i+1
def alu:∀a:E mV,(aA.mp ah ae<|vL a).ak=[]
 |[]=>rfl
 |x::b=>by have:=alu b;simp only[aA.ak,vL,gX,lZ,b6,C.ak]at this⊢;simpa using this
def IP rows{b a}{rest}(g:A7 b.sl a.sl)(i:Dc b.mem a.mem)(k:a.mem=(1000000,.mp ah ae<|vL rows)::rest)(d:(A8 (1000000*a.nx) a.sl&&tI (1000000*a.nx) rest&&Nat.ble 2 a.nx)=ae:=by rfl):Wk b a:=by refine wk g i ?_;simp only[cP]at d;obtain⟨⟨l,m⟩,f⟩:=d;have f:=c7 f;have n:Nat.blt 1000000 (1000000*a.nx)=ae:=ayq Y;have p:Nat.ble 1 a.nx=ae:=ayq Y;rw[k,tI,alu,vZ,l,m,n,p];rfl
abbrev mpX(a b:E L):aA:= .box 104 0 [.S .q a,.S .q b]
def ayr{m a}{t}(hm:cZ m)(ha:Ez m t a)(ht:t<=200):w O 26 [e .q a,e .q m] (e .q<|yR a m):=by
 have h2:=hm.l2;have h5:=hm.l5;have A:=(vJ 1 0 S).ZM hm.pz hm.ne (d:=0) (s:=100) cd S S S S;rw[show bZ [1] m=[1]by rw[bZ,q cd]]at A;obtain⟨B,C⟩:∃B,B=yR a m:=⟨_,J⟩;rw[<-C];refine aK Tryz.func26 ?_;refine U J<|R<|rmk ah ae J<|M J ?_;refine R<|rc J J als<|rc J J A<|rc J J als<|M J ?_;refine afk (λ_:Unit=>⟨[],[],200,[]⟩) (λ_=>B=[]) (λ_ h=>?_)<|λD=>?_
 .rw[h];exact U J<|bX<|iX cq J<|bu.nil _
 refine U J<|ay<|bq (α:=G×E mV×E L×E L) (λx=>⟨[(0,e .q a),(1,e .q m),(5,.c<|.X 1000000),(6,e .q x.2.2.1),(7,e .q x.2.2.2),(22,c<|(Z m:V)+1),(23,c x.1)],[(1000000,.mp ah ae<|vL x.2.1)],10,[]⟩) (λx=>x.1<=Z m+1/\MpH m t x.1 x.2.1 x.2.2.1 x.2.2.2/\CL a m (Z m+1-x.1) x.2.1 x.2.2.1 x.2.2.2=B) (λx=>Z m+1-x.1) (0,[],[1],[1]) ⟨bg _,⟨λx n=>(by cases n),alb hm _,vJ 9 _ S,aL _⟩,C.symm⟩ (IP _ (bK J) ⟨bR J,j⟩ J) ?_;clear C A;rintro⟨i,b,pw,o⟩ ⟨hi,H,N⟩;simp only at hi H N;refine U J<|bI<|F J (λh=>?_)<|λh=>?_;rotate_left
 .have h:i=Z m+1:=by have h:¬(i:V)<(Z m:V)+1:=bc h;omega
  subst h;rw[kg,CL]at N;exact bs<|eD (D () N.symm) aN
 clear D;have h:i<Z m+1:=by have h:(i:V)<(Z m:V)+1:=aV h;omega
 have hle:=H.hp.1.len;have r:=H.hp.2;let ⟨R1,R2,R3⟩:=alo H.hr (Z m) _ pw o r H.hp H.ho;have hB:((i+1)*(t+40)+2*tB t i+1)*2^pw.length<=tB t (i+1):=by rw[CM];exact gD _<|br (dD S (Y:pw.length<=4)) S
 have hBb:=ayo ht (i+1) Y;have hBm:=ayn t i;obtain⟨v,Rm⟩:∃v,v=(iq b (Z m) pw o).1:=⟨_,J⟩;obtain⟨T,N1⟩:∃T,T=(iq b (Z m) pw o).2:=⟨_,J⟩;have z:iq b (Z m) pw o=(v,T):=by rw[Rm,N1]
 rw[(Y:Z m+1-i=(Z m-i)+1),CL,z]at N;rw[z]at R1 R2 R3;simp only at R1 R2 R3 N;clear Rm N1;refine aE<|bI<|ay<|U J ?_;refine kp ⟨[(0,e .q a),(1,e .q m),(5,.c<|.X 1000000),(6,e .q pw),(7,e .q o),(8,.c<|.P 11003000 0),(22,c<|(Z m:V)+1),(23,c i)],[(1000000,.mp ah ae<|vL b),(11003000,mpX v T)],50,[]⟩ ?_<|λD=>?_;rotate_left
 .refine ay<|bq (α:=G×E L×E L) (λx=>⟨[(0,e .q a),(1,e .q m),(5,.c<|.X 1000000),(6,e .q pw),(7,e .q o),(8,.c<|.P 11003000 0),(22,c<|(Z m:V)+1),(23,c i)],[(1000000,.mp ah ae<|vL b),(11003000,mpX x.2.1 x.2.2)],13,[]⟩) (λx=>Z x.2.1<x.1/\iq b x.1 x.2.1 x.2.2=(v,T)/\∃W,(W+2*tB t i+1)*2^Z x.2.1<=tB t (i+1)/\Ez m W x.2.1/\Pz 9 W x.2.2) (λx=>x.1) (Z m,pw,o) ⟨r,z,_,hB,H.hp,H.ho⟩ (IP _ (bK J) ⟨bR J,bE J J,j⟩ J) ?_;clear z;rintro⟨f,g,jA⟩ ⟨hf,z,W,hS,he,hq⟩;simp only at hf z hS he hq;refine bI<|U J<|F J (λl=>?_)<|λl=>?_;rotate_left
  .have l:g=[]:=by have l:¬(Z g:V)>0:=bc l;exact gx Y
   subst l;rw[S7]at z;obtain⟨rfl,rfl⟩:=Prod.mk.inj z;exact bs<|eD D<|IP _ (bK J) (n5 J) J
  have e0:g≠[]:=λdU=>by subst dU;cases l
  have hel:=cF.2 e0;have aAN:=he.1.len;have Q:=alj (Z g) b;refine aE<|ay<|U J ?_;cases K:oC b (Z g)with
  |none=>
   rw[K]at Q
   rw[ML _ _ K]at z
   obtain⟨rfl,rfl⟩:=Prod.mk.inj z
   refine R<|rlk J J J J J J J J J Q J<|M J ?_
   refine bI<|U J<|F J (λ_=>oJ<|sf<|Jw<|pB<|oK<|eD D<|IP _ (bK J) (n5 J) J)<|λh=>gL
  |some cc=>
   rw[K]at Q
   obtain⟨p,u⟩:=cc
   have n:=H.hr _<|MK K
   let ⟨s1,s2,s3,s4,s5⟩:=aln n he hq J
   obtain⟨f,rfl⟩:∃k,f=k+1:=⟨f-1,Y⟩
   rw[S8 jA e0 K]at z
   have hlx:Z p=Z g:=n.len
   have h22:2^Z g=2*2^(Z g-1):=by rw[<-alp,(Y:(Z g-1).succ=Z g)]
   have WB:0<2^(Z g-1):=gG S
   have hS2:2*(W+2*tB t i+1)<=tB t (i+1):=by refine br ?_ hS;rw[h22,<-mz,gA (W+2*tB t i+1) 2];exact qv _ WB
   have en:af ((Z g:V)-1)=Z g-1:=Y
   have hdiv:w O 73 [aQ (I g (af<|(Z g:V)-1) 0),aQ<|I p (af<|(Z g:V)-1) 0] (.t [(ae,av .q<|oD g p),(ah,[.I .i64 0])]):=by rw[en];exact ale (k:=100000000000) _ _ s5 (he.1.qs Y _) (n.ez.1.qs Y _) S
   have ayu:=n.ez.1.MC (s:=100000000000) (s4.uI Y) S Y S
   have ayv:=he.1.MB (n.ez.1.Ax s4) (s:=100000000000) S S Y Y S
   have ayw:=n.oz.MC (s:=100000000000) (s4.uI Y) S Y S
   have ayx:=hq.MB (n.oz.Ax s4) (s:=100000000000) S S Y Y S
   refine R<|rlk J J J J J J J J J Q J<|M J ?_
   refine bI<|U J<|F J (λh=>gL)<|λ_=>aE ?_
   refine R<|rc J J hdiv (M J ?_) (hp:=aH)
   refine R<|Ys J J J<|λkk=>M J ?_
   refine cG<|alr J J (alq ayu ayv S) ⟨J,j⟩ J<|alr J J (alq ayw ayx S) ⟨J,j⟩ J<|M J<|fF<|a4 (f,eW g<|dJ (oD g p) p,eW jA<|dJ (oD g p) u) ⟨gK s3<|Nat.le_of_lt_succ hf,z,_,?_,s1,s2⟩ (dV f)<|IP _ (bK J) (n5 J) J
   rw[(Y:2*W+2*tB t i+1+2*tB t i+1=(W+2*tB t i+1)*2),mz,<-alp]
   exact br (gD _<|dD S s3) hS
 refine bI<|U J<|F J (λl=>?_)<|λl=>aE ?_
 .have l:(Z v:V)=0:=dw l;have l:v=[]:=gx Y;rw[q l]at N;subst N;refine U J<|bX ?_;repeat(first|refine cY ?_|refine ma ?_|refine m0 ?_)
  exact atR J
 have l:v≠[]:=λdU=>by subst dU;cases l
 rw[y l]at N;have lz:=R3.resolve_left l;have Ku:=alk (Z v) v T b lz;refine R<|rmu J J J J J J J J J J Ku<|M J ?_;have aAQ:=mA (Y:i+1<=6) (Y:t+40<=240);let ⟨z1,z2,_,JW⟩:=ZW hm (CG H.hp.1) (CG ha.1) H.hp.2 ha.2 Y;have hum:=SJ (s:=1000) H.ho CH S S Y S;have O1:Z (ml o [0,1])<=Z o+2-1:=Ip H.ho.can CH.can;have hlo:=H.lo;refine cG<|rc J J JW<|rc J J Z5<|rc J J hum<|M J ?_;refine bP<|rt J (hp:=aH) ?_;refine a4 (i+1,b++[(Z v,v,T)],fm pw a m,ml o [0,1]) ⟨h,⟨λx n=>?_,?_,?_,?_⟩,?_⟩ (Y:Z m+1-(i+1)<Z m+1-i) ?_;rotate_right
 .refine IP (b++[(Z v,v,T)]) ⟨sR J,sR J,sR J,sR J,sR J,sR J,sE J ?_,j⟩ ⟨bR J,j⟩ J;exact bm c (Y:(i:V)+1=((i+1:G):V))
 .rcases bl.1 n with n|n
  .exact(H.hr x n).le hBm
  .rw[iW.1 n];exact⟨l,J,R1.le hB,R2.le (aL _) hB⟩
 .exact(show Ez m _ (fm pw a m)from⟨z1,z2⟩).le (by rw[gY (i+1) 1,je];omega)
 .have:=H.ho.mul CH S;exact⟨this.can,(Y:Z (ml o [0,1])<=9),this.ht.le<|dD S<|by rw[gY (i+1) 1,je];omega⟩
 .show Z (ml o [0,1])<=i+1+1;omega
 .show CL a m (Z m+1-(i+1)) _ _ _=B;rw[(Y:Z m+1-(i+1)=Z m-i)];exact N
def aah{P}{n}{x d}{g}{f:wI}{Q}{i:Type}(b:i->St)(k:i->Prop)(a:∀m,k m->TJ P n d (b m) f Q)(l:(∀m,k m->iY n .normal (b m) f (DW P d Q))->TJ P n x g f (DW P d Q)):TJ P n (.seq x d) g f Q:=og<|l λm p=>nD<|a m p
def S9{n}{f}{a:wI}{Q}{b:Type}{d:b->St}{i:b->Prop}{k:b->G}{x}{g}{P}{l}(m:iY n .normal f a Q):TJ P n (.exit g) f a (DW P l<|KK d i k x a<|Hj g Q):=VZ<|V1<|V4<|V3 m
abbrev lN:E (G×AV):=[(4,.c<|.P 1000000 0),(5,.c<|.P 2000000 0),(8,.c<|.P 5001000 0)]
abbrev kN(a:E (E L))(v:L):E (G×aA):=[(4000000,.vec 29 LQ a),(2000000,.box 70 0 [.X 4000000]),(5001000,.box 44 0<|av .q v),(1000000,.box 44 0 zR)]
structure Fl(N n L:G)(a:E (E Rat))(v:Rat):Prop where
 nN:n<=N
 N4:N<=4
 ex:∃T,T+1<=L*4^(N-n)/\vK N n T a
 hv:Ht (2^((N-n)*(L*256))) (K v)
def lt4{N n L}(a:N<=4):L*4^(N-n)<=L*256:=gD _<|br (dD S (Y:N-n<=4)) S
def Fl.step{N n d k}{a}{v}(b:Fl N (n+1) d a v)(l:nV a (n+1) (n+1)=ad k):Fl N n d (jJ (jX a k n) n ((jX a k n).getD n []) n) (qK v k n*I ((jX a k n).getD n []) n 0):=by
 let ⟨T,u,hr⟩:=b.ex;have x:=b.nN;let ⟨p1,m,p,s⟩:=hr.piv Y l;have i:=hr.sw (k:=k) Y p1;have f:=i.pz n;rw[m]at f⊢;have g:Ht (2^((N-(n+1))*(d*256))) (K<|qK v k n):=by
  unfold qK;split
  .exact b.hv
  .exact b.hv.aad
 have e:N-n=(N-(n+1))+1:=Y;refine⟨Y,b.N4,⟨4*T+1,?_,i.el Y f s p⟩,?_⟩
 .rw[e,fG,<-mz];omega
 .have t:=g.S6<|f.ht.S5 n;refine t.le ?_;rw[<-jm];refine dD S ?_;have z:=lt4 (N:=N) (n:=n+1) (L:=d) b.N4;rw[e,gY,je];omega
def ayz{m a}{t}(hm:cZ m)(ha:Ez m t a)(ht:t<=10000):w O 22 [e .q a,e .q m] (aQ<|NR (Z m-1) (dB a m<|Z m-1) 1):=by
 obtain⟨n,hn⟩:∃n,Z m=n+1:=⟨Z m-1,MG⟩;have h5:=hm.l5;have Hm:Z m-1=n:=Y;have hz:=yO hm ha Y;rw[Hm];have B:∀i,Z (dB a m i)=i:=λi=>by rw[dB,dj,sY]
 have A:Fl n n (t+101) (dB a m n) 1:=by
  refine⟨aL _,Y,⟨t+100,by rw[kg,qx,rh];omega,B n,λi=>?_,λi hi=>?_⟩,by rw[kg,so];exact Ht.one S⟩
  .by_cases h:i<n
   .rw[dB,aO,ju,k7 h];exact(hz i Y).1.le (aL _) Y
   .rw[aO,iw<|by rw[B];omega];exact Pz.nil _ _
  .rw[dB,aO,ju,k7 hi];have:=(hz i Y).2;show Z (be a m i)<=n;omega
 obtain⟨S',o⟩:∃S',S'=NR n (dB a m n) 1:=⟨_,J⟩;rw[<-o];refine ahH (nx:=1) (n:=125) J J J J J J J ?_;refine kr jv J<|kr jv J<|og<|At jv ?_;refine rcN J J (alc a m) S (λid aY=>?_) (λid b hb=>(SZ id b hb).1) (λid b hb=>(SZ id b hb).2)<|λ_=>M J<|sK ?_
 .rw[iW.1 aY];decide
 refine KM (st':=⟨(17,.c<|.X 3002002)::nE yP,(4000000,.vec 29 LQ [])::[(3002002,.eB 122 [] AN),(3002001,.box 29 0 [.S .q m]),(3002000,.box 29 0 [.S .q a]),(2000000,.box 70 0 [.X 4000000]),(1000000,.box 44 0 zR)],5,[]⟩) (at6 4000000 29 LQ (bK J) ⟨.inl<|bR J,.inl<|bR J,.inl<|bR J,.inr ⟨_,_,J,J⟩,.inl<|bR J,j⟩ J<|yB.of J) ?_;refine KM (st':=⟨(17,.c<|.X 3002002)::nE yP,(3002002,.eB 122 [] AN)::mN a m (dB a m 0),5,[]⟩) (wk (bK J) ⟨bR J,bR J,bR J,bR J,bR J,bE J J,j⟩) ?_;refine aeE (n0:=125) (nI:=21) (p:=18) (p2:=19) (cid:=3002002) (f:=122) (capsI:=AN) (wsI:=[.c (.P 3002001 0),.c<|.P 3002000 0]) (Sc:=yP) (M:=mN a m<|dB a m 0) (Mo:=mN (be a m n) m<|dB a m n) (bo:=ae) (xid:=1) J J J J J J J J (S:2+1<=21) (S:1<=5) (S:18<125) (S:19<125) S J J ?_ J ?_ ?_ (SX J) (λid b hb=>?_) ?_ ?_
 .intro s hs;simp only[yP,b7,xt,or_false]at hs;rcases hs with rfl|rfl<;>rfl
 .intro t v ht hv;have:=ya ht;simp only[nE,yP,gX,Fa,b7,bM,xt,or_false]at this;rcases this with⟨_,rfl⟩|⟨_,rfl⟩|⟨_,rfl⟩<;>exact aF (iW.1 hv) S
 .intro id b hb;refine(ahd<|λcH=>?_).trans hb;subst cH;cases hb
 .exact⟨(SX (L:=mN (be a m n) m<|dB a m n) J id b hb).1,(yB.of (K:=5000000) (m:=mN (be a m n) m<|dB a m n) J) id b hb⟩
 .intro R ok e1 e2 e3 e4 e5 e6 e7;refine ayj (R:=R) ok e3 e2 hm ha Y hn (λi hi=>⟨⟨[(7,e .q<|be a m i),(4,.c<|.P 1000000 0),(5,.c<|.P 2000000 0)],AO::mN (be a m i) m (dB a m i),31,[]⟩,(S:1<=31),J,?_,?_⟩) J
  .rw[e1,e2,e4,e5,e6];exact kt Hl J<|ahP aN
  .rw[e1,e7];refine sK (Ih Hl<|rl LQ [be a m i] J J (ra J J J J J J J J J ?_ ?_<|ath cq J J J J J (Nat.lt_of_sub_eq_succ J)<|M J ?_))
   .show(Z (dB a m i)+1+(Z (dB a m i)+1)/4+192)*24<=_;rw[B];omega
   .show(Z (dB a m i)+1)*1<=_;rw[B];omega
   .refine wK<|BF (st':=⟨[],AO::mN (be a m i) m (dB a m<|i+1),42,[]⟩) (ati (mw 4000000 31003000) j ⟨bE J J,bE J J,bE J J,bE J ?_,bE J J,bE J J,j⟩ J (at' J)<|yB.of J)<|Yr J (S:1<=42) J;show aA.vec 29 LQ (dB a m i++[be a m i])=aA.vec 29 LQ (dB a m<|i+1);rw[dB,dB,AU,gf];rfl
 refine wK<|nD ?_;generalize dB a m n=C at*;refine KM (st':=⟨nE yP,[(4000000,.vec 29 LQ C),(2000000,.box 70 0 [.X 4000000]),(1000000,.box 44 0 zR)],5,[]⟩) aN ?_;refine At jv<|rc J J (If 1 S S)<|M J ?_;have aAR:Z C=n:=by let ⟨_,_,hr⟩:=A.ex;exact hr.len
 refine aah (λTa:L=>⟨[(4,.c<|.P 1000000 0),(8,.c<|.P 5001000 0)],[(5001000,.box 44 0<|av .q Ta),(1000000,.box 44 0 zR)],60,[]⟩) (λTa=>Ta=S') (λTa hw=>?_)<|λz=>?_
 .subst hw;exact kr jv J<|V0<|Yq cq J<|bu.refl _
 refine kr jv J<|sK<|KN (α:=G×E (E L)×L) (λx=>⟨(9,c x.1)::lN,kN x.2.1 x.2.2,7,[]⟩) (λx=>Fl n x.1 (t+101) x.2.1 x.2.2/\NR x.1 x.2.1 x.2.2=S') (λx=>x.1) (n,C,1) ⟨A,o.symm⟩ (wk ⟨sE J ?_,sR J,sR J,sR J,j⟩<|n5 J) ?_
 .exact bm c Y
 clear A o hz B;rintro⟨g,d,v⟩ ⟨H,hR⟩;simp only at H hR;refine og<|kr jv J<|vi J (λh=>?_)<|λh=>?_;rotate_left
 .have h:g=0:=by have h:¬(g:V)>0:=bc h;omega
  subst h;exact S9<|BF (st':=⟨[(4,.c<|.P 1000000 0),(8,.c<|.P 5001000 0)],[(5001000,.box 44 0<|av .q v),(1000000,.box 44 0 zR)],60,[]⟩) aN<|z v hR
 clear z;obtain⟨g,rfl⟩:∃gT,g=gT+1:=⟨g-1,by have h:(g:V)>0:=aV h;omega⟩;let ⟨T,hT,hr⟩:=H.ex;have hqN:=H.nN;have hT4:=lt4 (N:=n) (n:=g+1) (L:=t+101) H.N4;have hlr:=hr.len;have hVb:(n-(g+1))*((t+101)*256)<=4*((t+101)*256):=dS _ (by have:=H.N4;omega);have hT1:T<=3000000:=Y;have hV1:(n-(g+1))*((t+101)*256)<=12000000:=Y;refine wJ<|nD<|og<|sK<|kr jv J ?_;refine aah (λu:G=>⟨(10,c<|(u:V)-1)::(9,c (g+1:G))::lN,kN d v,20,[]⟩) (λu=>u<=g+1/\nV d (g+1) u=nV d (g+1) (g+1)/\(u=0\/¬Z (d.getD (u-1) [])<g+1)) (λu hc=>?_)<|λz=>?_;rotate_left
 .refine sK<|KN (α:=G) (λu=>⟨(10,c<|(u:V)-1)::(9,c (g+1:G))::lN,kN d v,9,[]⟩) (λu=>u<=g+1/\nV d (g+1) u=nV d (g+1) (g+1)) (λu=>u) (g+1) ⟨aL _,J⟩ aN ?_;rintro u ⟨c1,c2⟩;refine og (At jv<|rg 35 J J (λr=>?_)<|λr=>?_)
  .have r:(u:V)-1>=0:=aV r;obtain⟨k,rfl⟩:∃k,u=k+1:=⟨u-1,Y⟩;have ek:af (((k+1:G):V)-1)=k:=Y;refine M J (vi J (λD=>?_)<|λD=>?_) (hp:=aH)
   .have D:((Z (d.getD (af<|((k+1:G):V)-1) []):G):V)<((g+1:G):V):=aV D;rw[ek]at D;refine wJ (nD<|sK<|kt jv J<|wK<|Hk k ⟨Y,?_⟩ (dV k)<|wk ⟨sE J ?_,sR J,sR J,sR J,sR J,j⟩<|n5 J)
    .rw[<-c2,nV,q Y]
    .exact bm c Y
   .have D:¬((Z (d.getD (af<|((k+1:G):V)-1) []):G):V)<((g+1:G):V):=bc D;rw[ek]at D;exact S9<|BF (st':=⟨(10,c<|((k+1:G):V)-1)::(9,c (g+1:G))::lN,kN d v,20,[]⟩) aN<|z (k+1) ⟨c1,c2,.inr<|by rw[eL];omega⟩
  .have r:¬(u:V)-1>=0:=bc r;have hc:u=0:=Y;subst hc;exact M J<|vi J (λD=>by cases D)<|λ_=>S9<|BF (st':=⟨(10,c<|((0:G):V)-1)::(9,c (g+1:G))::lN,kN d v,20,[]⟩) aN<|z 0 ⟨Y,c2,.inl J⟩
 obtain⟨c1,c2,c3⟩:=hc;refine og<|kr jv J<|vi J (λr=>?_)<|λr=>wJ<|nD ?_
 .have r:(u:V)-1<0:=aV r;have hc:u=0:=Y;subst hc;have ayA:nV d (g+1) (g+1)=none:=c2.symm;rw[Z9 ayA]at hR;subst hR;refine At jv<|rc J J (If 0 S S)<|M J<|V0 ?_;refine V2<|aew<|V2<|aqs<|aew<|V2 ?_;exact Yq cq J<|bu.refl _
 have r:¬(u:V)-1<0:=bc r;obtain⟨k,rfl⟩:∃k,u=k+1:=⟨u-1,Y⟩;have c3:¬Z (d.getD k [])<g+1:=by
  rcases c3 with c3|c3
  .cases c3
  .rwa[eL]at c3
 have Q:nV d (g+1) (g+1)=ad k:=by rw[<-c2,nV,y c3]
 have ek:af (((k+1:G):V)-1)=k:=Y;have F:af (((g+1:G):V)-1)=g:=Y;let ⟨p1,p2,p3,p4⟩:=hr.piv Y Q;have Hn:=H.step Q;rw[Z' Q]at hR;have hs:=hr.sw (k:=k) Y p1;have W:=hs.pz g;have qu:Ht (2^((n-(g+1))*((t+101)*256))) (K<|qK v k g):=by
  unfold qK;split
  .exact H.hv
  .exact H.hv.aad
 have u7:=qu.uI (s:=1000000000) Y;have ayB:=H.hv.uI (s:=1000000000) Y;have RT:Z (jX d k g)=Z d:=alh;refine aah (λ_:Unit=>⟨(9,c (g+1:G))::lN,kN (jX d k g)<|qK v k g,30,[]⟩) (λ_=>True) (λ_ _=>?_)<|λz=>kr jv J<|vi J (λD=>?_)<|λD=>wJ ?_;rotate_left
 .have D:=zZ D;have U:k≠g:=Y;have e1:jX d k g=(d.set (af<|((k+1:G):V)-1)<|d.getD (af<|((g+1:G):V)-1) []).set (af<|((g+1:G):V)-1) (d.getD (af<|((k+1:G):V)-1) []):=by rw[ek,F,jX,y U,S4]
  have e2:qK v k g= -v:=by rw[qK,y U]
  rw[e1,e2]at z;refine At jv<|wF (T:=LQ) (d.getD (af<|((g+1:G):V)-1) []) J J J J J (by rw[ek];omega) (wF (T:=LQ) (d.getD (af<|((k+1:G):V)-1) []) J J J J J (by rw[F,px];omega)<|M J ?_) (hp:=aH);exact Ih jv<|rc J J (ahw v<|ayB.n.sm Y)<|M J<|BF (st':=⟨(9,c (g+1:G))::lN,kN ((d.set (af<|((k+1:G):V)-1)<|d.getD (af<|((g+1:G):V)-1) []).set (af<|((g+1:G):V)-1)<|d.getD (af<|((k+1:G):V)-1) [])<| -v,30,[]⟩) aN<|z () j
 .have D:=yj D;have U:k=g:=Y;have e1:jX d k g=d:=by rw[jX,q U]
  have e2:qK v k g=v:=by rw[qK,q U]
  rw[e1,e2]at z;exact BF (st':=⟨(9,c (g+1:G))::lN,kN d v,30,[]⟩) aN<|z () j
 rw[p2]at hR Hn W;have hg:=MI (rows:=d) p1 Y;generalize jX d k g=l at*;generalize qK v k g=v1 at*;have ayC:l.getD g []=d.getD k []:=p2;generalize d.getD k []=p at*;refine kr jv J ?_ (hp:=aH);have hpq:l.getD (af<|((g+1:G):V)-1) []=p:=by rw[F];exact ayC
 have hmul:=Rp (k:=1000000000) v1 (I p (af<|((g+1:G):V)-1) 0) u7 ((W.qs (s:=1000000000) Y) _) S;refine KM (st':=⟨(11,e .q p)::(9,c (g+1:G))::lN,kN l v1,31,[]⟩) (wk ⟨sE J ?_,sR J,sR J,sR J,sR J,j⟩<|n5 J) ?_
 .rw[hpq]
 refine At jv<|rc J J hmul (M J ?_) (hp:=aH);rw[F];refine kr jv J ?_;refine sK<|KN (α:=G) (λi=>⟨(84,c g)::(85,c i)::(11,e .q p)::(9,c (g+1:G))::lN,kN (jJ l g p i)<|v1*I p g 0,34,[]⟩) (λi=>i<=g) (λi=>g-i) 0 (bg _) (wk ⟨sE J ?_,sR J,sR J,sR J,sR J,sR J,sR J,j⟩<|n5 J) ?_
 .exact bm c Y
 intro i hi;have hli:=MJ (rows:=l) (n:=g) (p:=p) i;have Tb:=CK (rows:=l) (n:=g) (p:=p) i Y i;rw[y (λh=>Hb _ h.1)]at Tb;refine kr jv J<|og<|vi J (λh4=>?_)<|λh4=>?_
 .have h4:i<g:=by have h4:(i:V)<(g:V):=aV h4;omega
  have ei:af ((i:V))=i:=cC i;have MM:(jJ l g p i).getD (af<|(i:V)) []=l.getD i []:=by rw[ei];exact Tb
  have Ii:=hs.pz i;refine wJ<|nD<|og<|sK<|kr jv J ?_;refine kr jv J (vi J (λh6=>?_)<|λh6=>wJ<|wK<|nD<|kt jv J<|Hk (i+1) h4 (Y:g-(i+1)<g-i)<|wk ⟨sR J,sE J ?_,sR J,sR J,sR J,sR J,sR J,j⟩ ⟨bE J ?_,bR J,bR J,bR J,j⟩) (hp:=aH)
  .have h6:(Z ((jJ l g p i).getD (af<|(i:V)) []):V)=((g+1:G):V):=dw h6;rw[MM]at h6;have h6:Z (l.getD i [])=g+1:=Y;let ⟨z1,z2,z3⟩:=aae Ii W p4 h6 p3;have hle:Z (I (jJ l g p i) (af<|(i:V)) LQ.eP)=g+1:=by show Z ((jJ l g p i).getD (af<|(i:V)) [])=g+1;rw[MM];exact h6
   have hdiv:w O 73 [aQ (I ((jJ l g p i).getD (af<|(i:V)) []) (af<|((g+1:G):V)-1) 0),aQ<|I p (af<|((g+1:G):V)-1) 0] (.t [(ae,av .q<|I (l.getD i []) g 0/I p g 0),(ah,[.I .i64 0])]):=by rw[MM,F];exact ale (k:=1000000000) _ _ p4 (Ii.qs Y _) (W.qs Y _) S
   have Z4:=W.MC (s:=1000000000) (z3.uI Y) S Y S;have qZ:w O 74 [e .q ((jJ l g p i).getD (af<|(i:V)) []),e .q<|dJ (I (l.getD i []) g 0/I p g 0) p] (e .q<|CJ (l.getD i []) p g):=by rw[MM];exact Ii.MB (W.Ax z3) (s:=1000000000) S S Y Y S
   refine At jv<|rc J J hdiv (M J ?_) (hp:=aH);refine Ih jv<|rc J J Z4 (rc J J qZ<|wF (T:=LQ) (CJ (l.getD i []) p g) J J J J J (by rw[ei,hli];omega) (M J<|wK<|nD<|kt jv J<|Hk (i+1) h4 (Y:g-(i+1)<g-i)<|wk ⟨sR J,sE J ?_,sR J,sR J,sR J,sR J,sR J,j⟩ ⟨bE J ?_,bR J,bR J,bR J,j⟩) (hp:=aH)) (hp:=aH)
   .exact bm c Y
   .rw[ei,jJ,Tb,q h6]
  .exact bm c Y
  .have h6:(Z ((jJ l g p i).getD (af<|(i:V)) []):V)≠((g+1:G):V):=xl h6;rw[MM]at h6;rw[jJ,Tb,y Y]
 .have h4:i=g:=by have h4:¬(i:V)<(g:V):=bc h4;omega
  subst h4;refine S9<|wK<|nD<|kt jv J<|Hk (i,jJ l i p i,v1*I p i 0) ⟨Hn,hR⟩ (dV i)<|wk ⟨sE J ?_,sR J,sR J,sR J,j⟩<|n5 J
  .exact bm c Y
def iU(a b f d:L):L:=a*d-b*f
def jY(a b m d k f g l i:L):L:=a*iU k f l i-b*iU d f g i+m*iU d k g l
def nh(t u v x a b d f g i k l m n p s:L):L:=t*jY b d f i k l n p s-u*jY a d f g k l m p s+v*jY a b f g i l m n s-x*jY a b d g i k m n p
def ayF a b d f g i k l m n p s t u v x z A B D H N P Q T W MN MQ MR MS MU MV:nh (a*z+b*H+d*T+f*MR) (a*A+b*N+d*W+f*MS) (a*B+b*P+d*MN+f*MU) (a*D+b*Q+d*MQ+f*MV) (g*z+i*H+k*T+l*MR) (g*A+i*N+k*W+l*MS) (g*B+i*P+k*MN+l*MU) (g*D+i*Q+k*MQ+l*MV) (m*z+n*H+p*T+s*MR) (m*A+n*N+p*W+s*MS) (m*B+n*P+p*MN+s*MU) (m*D+n*Q+p*MQ+s*MV) (t*z+u*H+v*T+x*MR) (t*A+u*N+v*W+x*MS) (t*B+u*P+v*MN+x*MU) (t*D+u*Q+v*MQ+x*MV)=nh a b d f g i k l m n p s t u v x*nh z A B D H N P Q T W MN MQ MR MS MU MV:=by unfold nh jY iU;grind
abbrev Mx:=G->G->L
def eH(A:Mx):L:=nh (A 0 0) (A 0 1) (A 0 2) (A 0 3) (A 1 0) (A 1 1) (A 1 2) (A 1 3) (A 2 0) (A 2 1) (A 2 2) (A 2 3) (A 3 0) (A 3 1) (A 3 2)<|A 3 3
def mulM(A B:Mx):Mx:=λi j=>A i 0*B 0 j+A i 1*B 1 j+A i 2*B 2 j+A i 3*B 3 j
def ayG(A B:Mx):eH (mulM A B)=eH A*eH B:=ayF ..
def CN{A B:Mx}(a:∀i b,i<4->b<4->A i b=B i b):eH A=eH B:=by unfold eH;rw[a 0 0 S S,a 0 1 S S,a 0 2 S S,a 0 3 S S,a 1 0 S S,a 1 1 S S,a 1 2 S S,a 1 3 S S,a 2 0 S S,a 2 1 S S,a 2 2 S S,a 2 3 S S,a 3 0 S S,a 3 1 S S,a 3 2 S S,a 3 3 S S]
def aai{P:G->Prop}(a:P 0)(b:P 1)(d:P 2)(f:P 3){n}(g:n<4):P n:=by
 match n,g with
 |0,_=>exact a
 |1,_=>exact b
 |2,_=>exact d
 |3,_=>exact f
def IQ(A:Mx)(k n:G):Mx:=λi=>if i=n then A k else if i=k then A n else A i
def aaj(A:Mx)(n:G)(a:G->L):Mx:=λi j=>if i<n then A i j-a i*A n j else A i j
def CO(A:Mx)(n:G):Mx:=λi j=>if i=n then(if i=j then 1 else 0)else A i j
def idF:Mx:=λi j=>if i=j then 1 else 0
def ayH:eH idF=1:=by simp[eH,idF,nh,jY,iU];try grind
def ayI(A:Mx){k n}(b:n<4)(a:k<n):eH (IQ A k n)= -eH A:=by
 revert k;refine aai (P:=λn=>∀{k:G},k<n->eH (IQ A k n)= -eH A) ?_ ?_ ?_ ?_ b
 .intro k a;exact aF a<|nZ _
 .intro k a;have:k=0:=Y;rcases this with rfl;all_goals
   simp[eH,IQ,nh,jY,iU]
   grind
 .intro k a;have:k=0\/k=1:=Y;rcases this with rfl|rfl;all_goals
   simp[eH,IQ,nh,jY,iU]
   grind
 .intro k a;have:k=0\/k=1\/k=2:=Y;rcases this with rfl|rfl|rfl;all_goals
   simp[eH,IQ,nh,jY,iU]
   grind
def ayJ(A:Mx){n}(b:n<4)(a:G->L):eH (aaj A n a)=eH A:=by
 refine aai (P:=λn=>eH (aaj A n a)=eH A) ?_ ?_ ?_ ?_ b;all_goals
  simp[eH,aaj,nh,jY,iU]
  try grind
def aly(A:Mx){n}(k:n<4)(a:∀i,i<4->i≠n->A i n=0):eH A=A n n*eH (CO A n):=by
 revert a;refine aai (P:=λn=>(∀i,i<4->i≠n->A i n=0)->eH A=A n n*eH (CO A n)) ?_ ?_ ?_ ?_ k
 .intro a;have b:=a 1 S S;have d:=a 2 S S;have f:=a 3 S S;simp[eH,CO,nh,jY,iU,b,d,f];try grind
 .intro a;have g:=a 0 S S;have d:=a 2 S S;have f:=a 3 S S;simp[eH,CO,nh,jY,iU,g,d,f];try grind
 .intro a;have g:=a 0 S S;have b:=a 1 S S;have f:=a 3 S S;simp[eH,CO,nh,jY,iU,g,b,f];try grind
 .intro a;have g:=a 0 S S;have b:=a 1 S S;have d:=a 2 S S;simp[eH,CO,nh,jY,iU,g,b,d];try grind
def ayK(A:Mx){n}(a:n<4)(b:∀i,i<4->A i n=0):eH A=0:=by rw[aly A a (λi d _=>b i d),b n a,mF]
def c9(a:E (E L))(n:G):Mx:=λi j=>if i<n then I (a.getD i []) j 0 else if i=j then 1 else 0
def alz{N:G}(D:N<=4):∀(n T:G)(f:E (E L))(v:L),n<=N->vK N n T f->NR n f v=v*eH (c9 f n)
 |0,T,f,v,_,_=>by have:eH (c9 f 0)=1:=(CN λi j _ _=>by rw[c9,y<|nZ _];rfl).trans ayH;rw[this,lF];rfl
 |n+1,T,f,v,F,h=>by
  have J:=h.len;cases t:nV f (n+1) (n+1)with
  |none=>
   have l:=alg t
   rw[Z9 t,ayK (c9 f<|n+1) (n:=n) Y<|λi u=>?_,eh]
   rw[c9]
   split
   .rename_i B;exact fP _ (by have:=l i B;omega)
   .rename_i B;exact y Y
  |some k=>
   rw[Z' t]
   let ⟨p1,x,H,K⟩:=h.piv Y t
   have l:=h.sw (k:=k) Y p1
   have m:=l.pz n
   have P:=MI (rows:=f) p1 Y
   have Q:qK v k n*eH (c9 (jX f k n)<|n+1)=v*eH (c9 f<|n+1):=by
    by_cases g:k=n
    .rw[qK,q g,jX,q g]
    .have W:eH (c9 (jX f k n)<|n+1)=eH (IQ (c9 f<|n+1) k n):=CN λi j u C=>by
      show(if i<n+1 then I ((jX f k n).getD i []) j 0 else _)=(if i=n then c9 f (n+1) k else if i=k then c9 f (n+1) n else c9 f (n+1) i) j;rw[P];by_cases a:i=n
      .rw[q Y,q a,q a,c9,q Y]
      .rw[y a,y a];by_cases b:i=k
       .rw[q Y,q b,q b,c9,q Y]
       .rw[y b,y b];rfl
     rw[W,ayI _ Y Y,qK,y g];grind
   rw[<-Q]
   rw[x]at m⊢
   have z:Z (jX f k n)=N:=l.len
   generalize jX f k n=d at*
   generalize f.getD k []=p at*
   have s:=l.el Y m K H
   have X:eH (c9 (jJ d n p n)<|n+1)=eH (c9 d<|n+1):=by
    refine(CN λi j u C=>?_).trans<|ayJ (c9 d<|n+1) (n:=n) Y<|λi=>if Z (d.getD i [])=n+1 then I (d.getD i []) n 0/I p n 0 else 0;show(if i<n+1 then I ((jJ d n p n).getD i []) j 0 else _)=if i<n then c9 d (n+1) i j-(if Z (d.getD i [])=n+1 then I (d.getD i []) n 0/I p n 0 else 0)*c9 d (n+1) n j else c9 d (n+1) i j
    rw[CK n Y i];have c:c9 d (n+1) n j=I p j 0:=by rw[c9,q Y,x]
    by_cases a:i<n
    .have e:c9 d (n+1) i j=I (d.getD i []) j 0:=by rw[c9,q Y]
     rw[q Y,q a,c,e];by_cases b:Z (d.getD i [])=n+1
     .rw[q ⟨a,b⟩,q b,CJ,Cp,vF]
     .rw[y (λh=>b h.2),y b,mF];grind
    .rw[y a,y<|λ(h:i<n/\Z (d.getD i [])=n+1)=>a h.1];rfl
   have o:=aly (c9 (jJ d n p n)<|n+1) (n:=n) Y (λi u A=>by
    rw[c9];split
    .exact fP _<|s.sh i Y
    .first
     |exact y A
     |rfl)
   have r:c9 (jJ d n p n) (n+1) n n=I p n 0:=by rw[c9,q Y,CK n Y n,y<|λh=>Hb _ h.1,x]
   have w:eH (CO (c9 (jJ d n p n)<|n+1) n)=eH (c9 (jJ d n p n) n):=CN λi j u C=>by
    unfold CO c9;by_cases a:i=n
    .rw[q a,y (Y:¬i<n)]
    .rw[y a];by_cases b:i<n
     .rw[q Y,q b]
     .rw[y Y,y b]
   rw[alz D n _ _ _ Y s,<-X,o,r,w,lT]
def sX(f:G->Rx):G->Rx
 |0=>0
 |k+1=>sX f k+f k
def alA{M:Rx}{f g:G->Rx}(a:∀k,M∣f k-g k):∀n,M∣sX f n-sX g n
 |0=>kM _ _
 |n+1=>Lt (alA a n)<|a n
def alB(p:E L):∀n,lx (List.take n p)=sX (λk=>K (I p k 0)*X k) n
 |0=>by rw[HJ];exact ku
 |n+1=>by rw[akx,alB p n];rfl
def aak(f:G->Rx)(a:Rx):∀n,sX f n*a=sX (λk=>f k*a) n
 |0=>Rx.dy a
 |n+1=>by show(sX f n+f n)*a=sX (λk=>f k*a) n+f n*a;rw[Rx.gQ,aak f a n]
def aal(f:G->Rx) a:sX f 4 a=f 0 a+f 1 a+f 2 a+f 3 a:=by show(0+f 0+f 1+f 2+f 3) a=_;rw[ef,ef,ef,ef,mB,Ep]
def El(m a:E L):Prop:=bp a/\Z a<Z m
section
variable{m a b:E L}{t u w n:G}
def Ez.el(d:Ez m t a):El m a:=⟨d.1.can,d.2⟩
def MW(d:cZ m) a b:El m (fm a b m):=⟨oZ<|uz _ _,nS d.ne⟩
def Fo(d:cZ m)(f:El m a):∀i,El m (be a m i)
 |0=>f
 |_+1=>MW d _ _
def MY(d:cZ m){A B}(g:sz A<Z m)(hB:sz B<Z m)(f:lx m∣A-B):A=B:=by refine BZ<|ui f ?_;have:=HY A B;rw[fj d.can];omega
def yS(f:cZ m)(d:E L):∀i,lx m∣lx (be d m i)-X i*lx d
 |0=>by rw[Xu,Rx.c8];exact kM _ _
 |i+1=>by have g:lx m∣lx (fm (be d m i) [0,1] m)-lx (be d m i)*lx [0,1]:=IC f.can f.ne;have k:=ow (yS f d i)<|kM (lx m)<|X 1;rw[SU]at g;rw[Eg,(fC:X i*X 1*lx d=X i*lx d*X 1)];exact mJ g k
def AP(d:cZ m)(f:El m a) i:sz (lx<|be a m i)<Z m:=by have:=Fo d f i;rw[fj this.1];exact this.2
def Tc d A:sz (K d*A)<=sz A:=na λi f=>by rw[du,lE f,eh]
def aam(d:cZ m)(H:El m a)(N:El m b) i:lx (be (fm a b m) m i)=sX (λk=>K (I (be a m i) k 0)*lx (be b m k)) 4:=by
 have h:=d.l5;have v:=Fo d H i;have P:=v.2;have B:=d.l2;have Q:lx (be a m i)=sX (λk=>K (I (be a m i) k 0)*X k) 4:=by rw[<-alB,jM Y]
 have x:∀A:Rx,(∀k,k<4->True)->lx m∣sX (λk=>K (I (be a m i) k 0)*lx (be b m k)) 4-lx (be a m i)*lx b:=λ_ _=>by have l:=alA (M:=lx m) (f:=λk=>K (I (be a m i) k 0)*lx (be b m k)) (g:=λk=>K (I (be a m i) k 0)*X k*lx b) (λk=>by have:=ow (kM (lx m)<|K<|I (be a m i) k 0)<|yS d b k;rwa[<-Rx.dc]at this) 4;rw[<-aak,<-Q]at l;exact l
 have z:∀k,k<4->sz (lx<|be b m k)<Z m:=λk _=>AP d N k
 refine MY d (AP d (MW d a b) i) ?_ ?_
 .have p:∀k,k<4->sz (K (I (be a m i) k 0)*lx (be b m k))<=Z m-1:=λk T=>by have l:=Tc (I (be a m i) k 0)<|lx<|be b m k;have:=z k T;omega
  have C:sz (sX (λk=>K (I (be a m i) k 0)*lx (be b m k)) 4)<=Z m-1:=by
   have W:=p 0 S;have c:=p 1 S;have B:=p 2 S;have l:=p 3 S;generalize s:(λk=>K (I (be a m i) k 0)*lx (be b m k))=f;have j:sz (f 0)<=Z m-1:=by rw[<-s];exact W
   have o:sz (f 1)<=Z m-1:=by rw[<-s];exact c
   have q:sz (f 2)<=Z m-1:=by rw[<-s];exact B
   have r:sz (f 3)<=Z m-1:=by rw[<-s];exact l
   show sz (0+f 0+f 1+f 2+f 3)<=_;have y:=yr (0+f 0+f 1+f 2)<|f 3;have E:=yr (0+f 0+f 1)<|f 2;have F:=yr (0+f 0)<|f 1;have e:=yr 0<|f 0;rw[kO]at e;omega
  omega
 .have l:=yS d (fm a b m) i;have C:=ow (kM (lx m)<|X i)<|IC (a:=a) (b:=b) d.can d.ne;have D:=ow (yS d a i)<|kM (lx m)<|lx b;rw[Rx.dc]at D;exact mJ l<|mJ C<|mJ (m9 D)<|m9<|x 0 λ_ _=>trivial
def ni(a m:E L):L:=eH<|c9 (dB a m<|Z m-1)<|Z m-1
def xu{i}(d:i<n):(dB a m n).getD i []=be a m i:=by rw[dB,aO,ju,k7 d];rfl
def ayL(f:cZ m)(l:El m a)(s:El m b):ni (fm a b m) m=ni a m*ni b m:=by
 have B:=f.l5;obtain⟨n,v⟩:∃n,n=Z m-1:=⟨_,J⟩;unfold ni;rw[<-v,<-ayG];refine CN λi j C D=>?_
 by_cases h:i<n
 .have d:c9 (dB (fm a b m) m n) n i j=lx (be (fm a b m) m i) j:=by rw[c9,q h,xu h];rfl
  rw[d,aam f l s i,aal];have g:∀k,(K (I (be a m i) k 0)*lx (be b m k)) j=c9 (dB a m n) n i k*c9 (dB b m n) n k j:=λk=>by
   have x:c9 (dB a m n) n i k=I (be a m i) k 0:=by rw[c9,q h,xu h]
   rw[x,du];by_cases p:k<n
   .have z:c9 (dB b m n) n k j=lx (be b m k) j:=by rw[c9,q p,xu p];rfl
    rw[z]
   .have:I (be a m i) k 0=0:=fP _ (by have:=(Fo f l i).2;omega);rw[this,mF,mF]
  simp only[g];rfl
 .have d:∀c:E L,∀k,c9 (dB c m n) n i k=if i=k then 1 else 0:=λc k=>by rw[c9,y h]
  show _=c9 (dB a m n) n i 0*c9 (dB b m n) n 0 j+c9 (dB a m n) n i 1*c9 (dB b m n) n 1 j+c9 (dB a m n) n i 2*c9 (dB b m n) n 2 j+c9 (dB a m n) n i 3*c9 (dB b m n) n 3 j;rw[d,<-d b j,d a,d a,d a,d a];have A:i=0\/i=1\/i=2\/i=3:=Y;rcases A with rfl|rfl|rfl|rfl<;>simp<;>grind
def MZ d:lx (hJ d)=K d:=by rw[hJ,uu,yp]
def IS(f:cZ m) d:El m (hJ d):=by have g:=f.l2;have i:Z (hJ d)<=1:=br (uw _) (by rw[qn];exact aL _);exact⟨jV _,Y⟩
def aan(d:cZ m) f{i}(g:i<Z m-1):lx (be (hJ f) m i)=K f*X i:=by
 have k:=d.l5;refine MY d (AP d (IS d f) i) ?_ ?_
 .have:sz (K f*X i)<=i+1:=na λj l=>by rw[du,rH,y Y,eh]
  omega
 .have:=yS d (hJ f) i;rwa[MZ,Rx.dk<|X i]at this
def gR(d:L):G->L
 |0=>1
 |n+1=>gR d n*d
def alC(g:cZ m) d:ni (hJ d) m=gR d (Z m-1):=by
 have v:=g.l5;have x:=g.l2;obtain⟨n,k⟩:∃n,n=Z m-1:=⟨_,J⟩;unfold ni;rw[<-k];have e:eH (c9 (dB (hJ d) m n) n)=eH (λi j=>if i<n then(if j=i then d else 0)else if i=j then 1 else 0):=CN λi j z f=>by
  rw[c9];by_cases h:i<n
  .rw[q h,q h,xu h];have p:=aan g d (i:=i) Y;have l:lx (be (hJ d) m i) j=(K d*X i) j:=by rw[p]
   rw[du,rH,dN]at l;rw[l];by_cases f:j=i
   .rw[q f,q f,lF]
   .rw[y f,y f,eh]
  .rw[y h,y h]
 rw[e];have s:n=1\/n=2\/n=3\/n=4:=Y;clear k;rcases s with rfl|rfl|rfl|rfl<;>simp[eH,nh,jY,iU,gR]<;>grind
def ayM(d:cZ m):ni [] m=0:=by have g:=d.l2;have e:hJ 0=[]:=nP (jV _) ug (by rw[MZ,jT,ku]);have:=alC d 0;rw[e]at this;rw[this];obtain⟨k,f⟩:∃k,Z m-1=k+1:=⟨Z m-2,Y⟩;rw[f,gR,eh]
def aao(d:El m a)(f:El m b):El m (oA a b):=by refine⟨jV _,wV (uw _) ?_⟩;rw[dj,sY];have:=d.2;have:=f.2;omega
def alD(d:cZ m)(f:El m a)(g:El m b) i:lx (be (oA a b) m i)=lx (be a m i)+lx (be b m i):=by
 have l:=AP d f i;have p:=AP d g i;refine MY d (AP d (aao f g) i) ?_ ?_
 .have:=yr (lx<|be a m i)<|lx<|be b m i;omega
 .have k:=yS d (oA a b) i;rw[YC,Rx.fN]at k;exact mJ k<|m9<|Lt (yS d a i)<|yS d b i
def aap(f:El m a) d:El m (dJ d a):=⟨jV _,wV (Fk d a) f.2⟩
def alE(f:cZ m) d(g:El m a) i:lx (be (dJ d a) m i)=K d*lx (be a m i):=by
 have p:=AP f g i;refine MY f (AP f (aap g d) i) ?_ ?_
 .have:=Tc d<|lx<|be a m i;omega
 .have k:=yS f (dJ d a) i;have l:=ow (kM (lx m)<|K d)<|yS f a i;rw[xj,(fC:X i*(K d*lx a)=K d*(X i*lx a))]at k;exact mJ k<|m9 l
end
def vS(a b:Rx)(n:G):Rx:=sX (λj=>K (b j)*pk a j) n
def Td{f g:G->Rx}(a:∀k,f k=g k) n:sX f n=sX g n:=by rw[funext a]
def alF(f g:G->Rx):∀n,sX (λk=>f k+g k) n=sX f n+sX g n
 |0=>(Rx.fA _).symm
 |n+1=>by show sX _ n+(f n+g n)=(sX f n+f n)+(sX g n+g n);rw[alF f g n];ac_rfl
def alG(f:G->Rx) a n:a*sX f n=sX (λk=>a*f k) n:=by rw[Rx.dk,aak];exact Td (λk=>Rx.dk _ _) n
def alH(f:G->Rx):∀n,sX f (n+1)=f 0+sX (λk=>f<|k+1) n
 |0=>by show(0:Rx)+f 0=f 0+0;rw[Rx.iI,Rx.fA]
 |n+1=>by show sX f (n+1)+f (n+1)=f 0+(sX (λk=>f<|k+1) n+f (n+1));rw[alH f n,Rx.kq]
def alI(b a:Rx){n:G}(f:sz a<=n):∀d,vS b a (n+d)=vS b a n
 |0=>rfl
 |d+1=>by show vS b a (n+d)+K (a<|n+d)*pk b (n+d)=_;rw[alI b a f d,lE Y,jT,Rx.dy,Rx.fA]
def vA(b a:Rx):Rx:=vS b a<|sz a
def Fp α{G}{n}(a:sz G<=n):vA α G=vS α G n:=by have:=alI α G (aL<|sz G)<|n-sz G;rw[(Y:sz G+(n-sz G)=n)]at this;exact this.symm
def ayN α a H n:vS α (a+H) n=vS α a n+vS α H n:=by unfold vS;rw[<-alF];exact Td (λk=>by rw[ef,vp,Rx.gQ]) n
def ayO α a b n:vS α (K b*a) n=K b*vS α a n:=by unfold vS;rw[alG];exact Td (λk=>by rw[du,eN,Rx.dc]) n
def ayP α a n:vS α (X 1*a) (n+1)=α*vS α a n:=by
 unfold vS;rw[alH,alG];have e:K ((X 1*a) 0)*pk α 0=0:=by rw[lD,y S,jT,Rx.dy]
 rw[e,Rx.iI];exact Td (λk=>by rw[lD,q Y,eL,pk];ac_rfl) n
def xv α a H:vA α (a+H)=vA α a+vA α H:=by have h:=yr a H;rw[Fp α (n:=max (sz a)<|sz H) h,Fp α (G:=a) (n:=max (sz a)<|sz H) Y,Fp α (G:=H) (n:=max (sz a)<|sz H) Y,ayN]
def Te α a b:vA α (K b*a)=K b*vA α a:=by rw[Fp α (n:=sz a) (Tc b a),ayO];rfl
def IT α a:vA α (X 1*a)=α*vA α a:=by
 have h:sz (X 1*a)<=sz a+1:=na λi b=>by
  rw[lD];split
  .exact lE Y
  .rfl
 rw[Fp α h,ayP];rfl
def Fq α:vA α 0=0:=by rw[Fp α (n:=0) (by rw[kO];exact aL _)];rfl
def yT α a:vA α (K a)=K a:=by rw[Fp α (QF a)];show 0+K (K a 0)*1=_;rw[Rx.iI,Rx.fO,lS,q J]
def alJ(a H:Rx):∀l:E L,vA a (lx l*H)=vA a (lx l)*vA a H
 |[]=>by rw[ku,Rx.dy,Fq,Rx.dy]
 |b::l=>by rw[B1,Rx.gQ,xv,xv,Te,yT,Rx.dc,IT,IT,alJ a H l,Rx.gQ,Rx.dc]
def Fs α a H:vA α (a*H)=vA α a*vA α H:=by obtain⟨l,_,rfl⟩:=jU a;exact alJ α H l
def M1 α a H:vA α (a-H)=vA α a-vA α H:=by
 have:a-H=a+K (-1)*H:=by rw[HX,lU,Rx.neg_mul,Rx.c8,fB]
 rw[this,xv,Te,HX,lU,Rx.neg_mul,Rx.c8,fB]
def alK(a:Rx):∀n,vA a (X n)=pk a n
 |0=>by rw[Xu,<-lU,yT];rfl
 |n+1=>by rw[(Y:n+1=1+n),Eg,IT,alK a n,JB,pk,Rx.dk]
structure yU(m a:E L)(b:E mV):Prop where
 ok:∀d,(h:d<b.length)->b[d].2.1≠[]/\bp b[d].2.1/\b[d].2.1.length=b[d].1/\b[d].2.1.length<m.length/\bp b[d].2.2/\b[d].2.2.length=d+1/\b[d].2.2.getD d 0=1/\lx m∣lx b[d].2.1-vA (lx a) (lx b[d].2.2)
 xa:∀i d,(f:i<b.length)->(g:d<b.length)->b[i].1=b[d].1->i=d
section
variable{m a:E L}
def alL{b:E mV}(x:yU m a b):∀(f:G)(g d:E L),bp g->Z g<Z m->bp d->Z d=Z b+1->I d (Z b) 0=1->lx m∣lx g-vA (lx a) (lx d)->
  bp (iq b f g d).1/\(iq b f g d).1.length<Z m/\bp (iq b f g d).2/\(iq b f g d).2.length=Z b+1/\(iq b f g d).2.getD (Z b) 0=1/\lx m∣lx (iq b f g d).1-vA (lx a) (lx (iq b f g d).2)
 |0,g,d,p,h2,s,t,l,n=>⟨p,h2,s,t,l,n⟩
 |f+1,g,d,p,h2,s,t,l,n=>by
  by_cases z:g=[]
  .subst z;rw[S7];exact⟨p,h2,s,t,l,n⟩
  .cases u:oC b (Z g)with
   |none=>rw[ML _ _ u];exact⟨p,h2,s,t,l,n⟩
   |some i=>
    rw[S8 d z u]
    obtain⟨N,P,Q⟩:=Gg<|MK u
    let ⟨r1,A,B,C,D,H,W,v⟩:=x.ok N P
    rw[Q]at r1 A B C D H v
    simp only at r1 A B C D H v
    generalize oD g i.1=c
    have X:=SQ g<|dJ c i.1
    have h:=Fk c i.1
    have k:I (eW d<|dJ c i.2) (Z b) 0=1:=by rw[Cp,vF,l,fP i.2 Y,eh];decide+kernel
    have T:Z (eW d<|dJ c i.2)=Z b+1:=by have q:=SQ d<|dJ c i.2;have r:=Fk c i.2;refine Sw Y<|QE λw=>?_;rw[fP _ Y]at k;exact aF k S
    refine alL x f _ _ (jV _) Y (jV _) T k ?_
    rw[Cs,Cs,xj,xj,M1,Te]
    exact ayd n<|ow (kM _<|K c) v
structure M2(m a f:E L)(k:G):Prop where
 can:bp f
 len:f.length=k+1
 top:f.getD k 0=1
 zero:lx m∣vA (lx a) (lx f)
 least:∀b:Rx,sz b<=k->lx m∣vA (lx a) b->b=0
def tr(f:G->L)(b:E mV):G->Rx
 |0=>0
 |d+1=>tr f b d+K (f d)*lx (I b d (0,[],[])).2.1
def AQ{rows:E mV}{j}(b:j<Z rows):I rows j (0,[],[])=rows[j]:=by rw[aO,df b];rfl
def ayQ{b}(D:yU m a b)(g:G->L):∀n,n<=Z b->tr g b n=0->∀d,d<n->g d=0:=by
 intro n U r;refine fe λH=>?_
 have H:∃d,d<n/\g d≠0:=fe λh=>H λd N=>fe λp=>h ⟨d,N,p⟩
 have w:∃d,d<n/\g d≠0/\∀i,i<n->g i≠0->(I b i (0,[],[])).2.1.length<=(I b d (0,[],[])).2.1.length:=by
  have u:∀f,(∃d,d<f/\d<n/\g d≠0)->∃d,d<n/\g d≠0/\∀i,i<f->i<n->g i≠0->(I b i (0,[],[])).2.1.length<=(I b d (0,[],[])).2.1.length:=by
   intro f;induction f with
   |zero=>rintro⟨d,h,_⟩;exact aF h<|nZ _
   |succ f P=>
    intro X
    by_cases hp:∃d,d<f/\d<n/\g d≠0
    .let ⟨d,t,s,v⟩:=P hp;by_cases p:f<n/\g f≠0/\(I b d (0,[],[])).2.1.length<(I b f (0,[],[])).2.1.length
     .refine⟨f,p.1,p.2.1,λi x k l=>?_⟩;by_cases e:i=f
      .rw[e];exact aL _
      .exact br (v i Y k l)<|ye p.2.2
     .refine⟨d,t,s,λi x k l=>?_⟩;by_cases e:i=f
      .subst e;exact zK λC=>p ⟨k,l,C⟩
      .exact v i Y k l
    .obtain⟨d,t,s,v⟩:=X;have:d=f:=fe λe=>hp ⟨d,Y,s,v⟩
     subst this;refine⟨d,s,v,λi x k l=>?_⟩;by_cases e:i=d
     .rw[e];exact aL _
     .exact aF ⟨i,Y,k,l⟩ hp
  let ⟨d,t,s⟩:=H;let ⟨E,v,F,J⟩:=u n ⟨d,t,t,s⟩;exact⟨E,v,F,λi x p=>J i x x p⟩
 let ⟨d,N,Q,T⟩:=w;let ⟨r1,M,O,_⟩:=D.ok d Y;have A:=AQ (rows:=b) (j:=d) Y;have B:lx (I b d (0,[],[])).2.1 ((I b d (0,[],[])).2.1.length-1)≠0:=by rw[A];exact M.ne r1
 have u:∀f,f<=n->tr g b f ((I b d (0,[],[])).2.1.length-1)=if d<f then g d*lx (I b d (0,[],[])).2.1 ((I b d (0,[],[])).2.1.length-1)else 0:=by
  intro f;induction f with
  |zero=>intro _;rw[y (nZ _)];rfl
  |succ f P=>
   intro X
   show(tr g b f+K (g f)*lx (I b f (0,[],[])).2.1) _=_
   rw[ef,du,P Y]
   by_cases e:f=d
   .subst e;rw[y (Hb _),q<|dV _,Ep]
   .have z:g f*lx (I b f (0,[],[])).2.1 ((I b d (0,[],[])).2.1.length-1)=0:=by
     by_cases p:g f=0
     .rw[p,mF]
     .have t:=T f Y p;have s:(I b f (0,[],[])).2.1.length≠(I b d (0,[],[])).2.1.length:=λC=>by have W:=AQ (rows:=b) (j:=f) Y;let ⟨_,_,S,_⟩:=D.ok f Y;rw[W,A,S,O]at C;exact e (D.xa f d Y Y C)
      rw[dN,fP _ Y,eh]
    rw[z,nM];by_cases o:d<f
    .rw[q o,q Y]
    .rw[y o,y Y]
 have t:=u n<|aL _;rw[r,q N,mB]at t;rcases Ab.1 t.symm with s|s
 .exact Q s
 .exact B s
def alM{b:E mV}(f:yU m a b)(g:0<Z m)(d:G->L):∀n,n<=Z b->sz (tr d b n)<Z m
 |0,_=>by show sz (0:Rx)<_;rw[kO];exact g
 |n+1,p=>by have s:=alM f g d n Y;have i:=yr (tr d b n)<|K (d n)*lx (I b n (0,[],[])).2.1;have k:=Tc (d n)<|lx (I b n (0,[],[])).2.1;let ⟨_,l,_,t,_⟩:=f.ok n Y;rw[AQ Y,fj l]at k;rw[AQ Y]at i;show sz (tr d b n+K (d n)*lx (I b n (0,[],[])).2.1)<_;rw[AQ Y];omega
def alN{b:E mV}(t:yU m a b):∀(n:G)(d:Rx),n<=Z b->sz d<=n->∃f:G->L,lx m∣tr f b n-vA (lx a) d/\((∀g,g<n->f g=0)->d=0)
 |0,d,_,l=>⟨λ_=>0,by rw[Et (by omega:sz d=0),Fq];exact kM _ _,λ_=>Et Y⟩
 |n+1,d,N,l=>by
  let ⟨_,_,_,_,P,Q,x,z⟩:=t.ok n Y;have B:sz (d-K (d n)*lx b[n].2.2)<=n:=na λi T=>by
   rw[nK,du];by_cases e:i=n
   .have p:lx b[n].2.2 i=1:=by rw[e];exact x
    rw[p,e,lF];grind
   .have p:lx b[n].2.2 i=0:=fP _ Y;rw[lE (A:=d) Y,p,eh];grind
  let ⟨f,c1,C⟩:=alN t n _ Y B;refine⟨λg=>if g=n then d n else f g,?_,λu=>?_⟩
  .have p:∀k,k<=n->tr (λg=>if g=n then d n else f g) b k=tr f b k:=by
    intro k;induction k with
    |zero=>intro _;rfl
    |succ k D=>
     intro W
     show tr _ b k+K (if k=n then d n else f k)*_=tr f b k+K (f k)*_
     rw[D Y,y Y]
   show lx m∣tr _ b n+K (if n=n then d n else f n)*lx (I b n (0,[],[])).2.1-_;rw[p n (aL _),q J,AQ Y];rw[M1,Te]at c1;have H:=Lt c1<|ow (kM (lx m)<|K<|d n) z;rwa[Rx.mG]at H
  .have s:d n=0:=by have l:(if n=n then d n else f n)=0:=u n<|dV _;rwa[q J]at l
   have v:=C λg X=>by have l:(if g=n then d n else f g)=0:=u g Y;rwa[y Y]at l
   rw[s,jT,Rx.dy,Rx.sub_zero]at v;exact v
def yU.least(hm:cZ m){b}(f:yU m a b) d(g:sz d<=Z b)(i:lx m∣vA (lx a) d):d=0:=by have k:0<Z m:=MG;let ⟨c,c1,l⟩:=alN f (Z b) d (aL _) g;have n:tr c b (Z b)=0:=ui (agj c1 i) (by rw[fj hm.can];exact alM f k c _<|aL _);exact l<|ayQ f c _ (aL _) n
def yU.few(n:cZ m){b}(d:yU m a b):Z b<=Z m-1:=by
 have t:=n.l2;refine zK λp=>?_
 let ⟨i,j,u,f,g⟩:=LN (Z m-1) (Z b) (λj=>(I b j (0,[],[])).1-1) p λj l=>by let ⟨r1,_,s,v,_⟩:=d.ok j l;have:=cF.2 r1;show(I b j (0,[],[])).1-1<_;rw[AQ l];omega
 have k:i<Z b:=Y;have g:(I b i (0,[],[])).1-1=(I b j (0,[],[])).1-1:=g;rw[AQ k,AQ f]at g;let ⟨r1,_,s,_⟩:=d.ok i k;let ⟨s1,_,x,_⟩:=d.ok j f;have z:=cF.2 r1;have A:=cF.2 s1;have:=d.xa i j k f Y;omega
def alP(p:cZ m):∀(f:G)(b:E mV)(pw d:E L),yU m a b->bp pw->pw.length<Z m->bp d->Z d=Z b+1->I d (Z b) 0=1->lx m∣lx pw-vA (lx a) (lx d)->Z m<=f+Z b->(b=[]->pw≠[])->∃k,k<=Z m-1/\1<=k/\M2 m a (CL a m f b pw d) k
 |0,b,_,_,s,_,_,_,_,_,_,hf,_=>by have:=s.few p;have:=p.l2;omega
 |f+1,b,pw,d,s,V,h2,r,B,w,F,hf,eZ=>by
  let ⟨i1,i2,i3,i4,i5,i6⟩:=alL s (Z m) pw d V h2 r B w F;have C:(iq b (Z m) pw d).1=[]\/oC b (iq b (Z m) pw d).1.length=none:=by
   have D:∀(f:G)(e v:E L),Z e<f->((iq b f e v).1=[]\/oC b (iq b f e v).1.length=none):=by
    intro f;induction f with
    |zero=>intro e v h;exact aF h<|nZ _
    |succ f ih=>
     intro e v he
     by_cases H:e=[]
     .subst H;rw[S7];exact .inl J
     .cases l:oC b (Z e)with
      |none=>rw[ML _ _ l];exact .inr l
      |some t=>
       rw[S8 v H l]
       refine ih _ _ ?_
       obtain⟨j,x,hy⟩:=Gg<|MK l
       let ⟨r1,K,N,_⟩:=s.ok j x
       rw[hy]at r1 K N
       simp only at r1 K N
       have hel:=cF.2 H
       have h0:I t.1 (Z e-1) 0≠0:=by rw[<-N];exact K.ne r1
       have:Z (eW e<|dJ (oD e t.1) t.1)<=Z e-1:=by
        refine Io (jV _) λi M=>?_
        show I (eW e<|dJ (oD e t.1) t.1) i 0=0;rw[Cp,vF];by_cases c:i=Z e-1
        .rw[c,oD,s',lT,k8 _ h0,lF];grind
        .have u:I e i 0=0:=fP e Y;have e2:I t.1 i 0=0:=fP _ Y;rw[u,e2,eh];grind
       omega
   exact D (Z m) pw d h2
  rw[CL];by_cases hc:(iq b (Z m) pw d).1=[]
  .rw[q hc];refine⟨Z b,s.few p,?_,i3,i4,i5,?_,λayR hG hd=>s.least p ayR hG hd⟩
   .refine rq λe=>?_
    have hr:b=[]:=gx e;subst hr;have:iq [] (Z m) pw d=(pw,d):=ML _ _ J;rw[this]at hc;exact eZ J hc
   .rw[hc,ku]at i6;have:=m9 i6;rwa[Rx.sub_zero]at this
  .rw[y hc];have P:=C.resolve_left hc;generalize (iq b (Z m) pw d).1=u at*;generalize (iq b (Z m) pw d).2=O at*;have R':yU m a (b++[(Z u,u,O)]):=by
    refine⟨λj x=>?_,λi j M x e=>?_⟩
    .rw[iV,qn]at x;by_cases g:j<Z b
     .rw[sa g];exact s.ok j g
     .have:j=Z b:=by omega
      subst this;rw[Js (aL _)];simp only[kg,aaq];exact⟨hc,i1,by first|rfl|trivial,i2,i3,i4,i5,i6⟩
    .rw[iV,qn]at M x;have z:=alm P;by_cases n:i<Z b
     .by_cases g:j<Z b
      .rw[sa n,sa g]at e;exact s.xa i j n g e
      .have:j=Z b:=by omega
       subst this;rw[sa n,Js<|aL _]at e;simp only[kg,aaq]at e;exact aF e<|z _<|sx n
     .have:i=Z b:=by omega
      subst this;by_cases g:j<Z b
      .rw[sa g,Js<|aL _]at e;simp only[kg,aaq]at e;exact aF e.symm<|z _<|sx g
      .omega
   have Q:Z (b++[(Z u,u,O)])=Z b+1:=by rw[iV,qn]
   have T:d≠[]:=λe=>by rw[e]at B;cases B
   have W:=aie r CH.can T S;have A:lx (ml d [0,1])=X 1*lx d:=by rw[uy,SU,Rx.dk]
   refine alP p f _ (fm pw a m) (ml d [0,1]) R' (oZ<|uz _ _) (nS p.ne) (uz _ _) (by rw[Q];simp at W;omega) ?_ ?_ (by rw[Q];omega) (λe=>by simp at e)
   .rw[Q,<-dN,A,lD,q Y,eL,dN,w]
   .rw[A,IT];have h7:lx m∣lx (fm pw a m)-lx pw*lx a:=IC p.can p.ne;have U:=ow (kM (lx m)<|lx a) F;rw[Rx.dk (lx a) (lx pw)]at U;exact mJ h7 U
def alQ(b:cZ m):∃k,k<=Z m-1/\1<=k/\M2 m a (yR a m) k:=by have g:=b.l2;refine alP b (Z m+1) [] [1] [1] ⟨λj d=>aF d<|nZ _,λi j f=>aF f<|nZ _⟩ II (by show 1<_;omega) II J J ?_ (Y:Z m<=Z m+1+0) (λ_=>S);rw[IG,<-lU,yT];exact kM _ _
def M2.gJ(s:cZ m){f}{k}(b:M2 m a f k)(v:1<=k):bD (lx f):=by
 have t:sz (lx f)=k+1:=by rw[fj b.can,b.len]
 have d:lx f≠0:=Ck b.can λe=>by have:=b.len;rw[e]at this;cases this
 refine⟨Y,λA B e=>?_⟩;have g:A≠0:=λi=>d (by rw[e,i,Rx.dy])
 have hB:B≠0:=λi=>d (by rw[e,i,Rx.g6])
 have l:=eS g hB;rw[<-e,t]at l;have pA:=fQ g;have x:=fQ hB;have p:=b.zero;rw[e,Fs]at p;rcases s.gJ.pP p with n|n
 .right;refine fe λu=>g<|b.least A Y n
 .left;refine fe λu=>hB<|b.least B Y n
end
def hQ(a:L):E L->L
 |[]=>0
 |b::l=>b+a*hQ a l
def Tf(a:L):∀l:E L,vA (K a) (lx l)=K (hQ a l)
 |[]=>by rw[ku,Fq,hQ,jT]
 |b::l=>by rw[B1,xv,yT,IT,Tf a l,hQ,vp,eN]
def alR:∀(s:G)(P:Rx),sz P<=s->(∀f:G,f<s->vA (K ((f:V):L)) P=0)->P=0
 |0,P,B,_=>Et Y
 |s+1,P,B,v=>by
  obtain⟨d,x⟩:∃d,d=X 1-K ((s:V):L):=⟨_,J⟩;have g:∀i,d i=(if i=1 then 1 else 0)-(if i=0 then((s:V):L)else 0):=λi=>by rw[x,nK,rH,lS]
  have a:sz d=2:=by refine Sw (na λi H=>by rw[g,y Y,y Y];decide+kernel) ?_;exact agl (n:=1) (by rw[g,q J,y S];decide+kernel)
  have k:d≠0:=λe=>by rw[e,kO]at a;cases a
  let ⟨Q,R,l,N⟩:=QG P k;have z:∀p:L,vA (K p) d=K (p-((s:V):L)):=λp=>by have:X 1=X 1*1:=(Rx.fO _).symm;rw[x,M1,yT,alK,sZ,<-Xv]
  have A:R=K (R 0):=Rx.ext λi=>by
   rw[lS];by_cases c:i=0
   .rw[q c,c]
   .rw[y c];exact lE Y
  have t:R=0:=by have m:=v s<|dV _;rw[l,xv,Fs,z,Rat.sub_self,jT,Rx.g6,Rx.iI,A,yT]at m;rw[A];exact m
  rw[t,Rx.fA]at l;by_cases b:Q=0
  .rw[l,b,Rx.dy]
  have u:=eS b k;rw[<-l,a]at u;refine aF (alR s Q Y λf T=>?_) b;have m:=v f Y;rw[l,Fs,z]at m;refine fe λC=>oW C (uh λe=>?_) m
  have D:(((f:V)-(s:V):V):L)=0:=by rw[LJ];exact e
  have:=Ia.1 D;omega
def x2(a b f d:Rx):Rx:=a*d-b*f
def x3(a b m d k f g l i:Rx):Rx:=a*x2 k f l i-b*x2 d f g i+m*x2 d k g l
def x4(H:G->G->Rx):Rx:=H 0 0*x3 (H 1 1) (H 1 2) (H 1 3) (H 2 1) (H 2 2) (H 2 3) (H 3 1) (H 3 2) (H 3 3)-H 0 1*x3 (H 1 0) (H 1 2) (H 1 3) (H 2 0) (H 2 2) (H 2 3) (H 3 0) (H 3 2) (H 3 3)+H 0 2*x3 (H 1 0) (H 1 1) (H 1 3) (H 2 0) (H 2 1) (H 2 3) (H 3 0) (H 3 1) (H 3 3)-H 0 3*x3 (H 1 0) (H 1 1) (H 1 2) (H 2 0) (H 2 1) (H 2 2) (H 3 0) (H 3 1) (H 3 2)
def ayS b{H:G->G->Rx}{B:Mx}(d:∀i a,i<4->a<4->vA (K b) (H i a)=K (B i a)):vA (K b) (x4 H)=K (eH B):=by have e:∀i a,i<4->a<4->vA (K b) (H i a)=K (B i a):=d;simp only[x4,x3,x2,eH,nh,jY,iU,xv,M1,Fs,e _ _ (S:0<4) (S:0<4),e _ _ (S:0<4) (S:1<4),e _ _ (S:0<4) (S:2<4),e _ _ (S:0<4) (S:3<4),e _ _ (S:1<4) (S:0<4),e _ _ (S:1<4) (S:1<4),e _ _ (S:1<4) (S:2<4),e _ _ (S:1<4) (S:3<4),e _ _ (S:2<4) (S:0<4),e _ _ (S:2<4) (S:1<4),e _ _ (S:2<4) (S:2<4),e _ _ (S:2<4) (S:3<4),e _ _ (S:3<4) (S:0<4),e _ _ (S:3<4) (S:1<4),e _ _ (S:3<4) (S:2<4),e _ _ (S:3<4) (S:3<4),vp,Xv,eN]
def xw(A:Mx):G->E L
 |1=>[-A 0 0,1]
 |2=>[iU (A 0 0) (A 0 1) (A 1 0) (A 1 1),-(A 0 0+A 1 1),1]
 |3=>[-jY (A 0 0) (A 0 1) (A 0 2) (A 1 0) (A 1 1) (A 1 2) (A 2 0) (A 2 1) (A 2 2),iU (A 0 0) (A 0 1) (A 1 0) (A 1 1)+iU (A 0 0) (A 0 2) (A 2 0) (A 2 2)+iU (A 1 1) (A 1 2) (A 2 1) (A 2 2),-(A 0 0+A 1 1+A 2 2),1]
 |_=>[eH A,-(jY (A 0 0) (A 0 1) (A 0 2) (A 1 0) (A 1 1) (A 1 2) (A 2 0) (A 2 1) (A 2 2)+jY (A 0 0) (A 0 1) (A 0 3) (A 1 0) (A 1 1) (A 1 3) (A 3 0) (A 3 1) (A 3 3)+jY (A 0 0) (A 0 2) (A 0 3) (A 2 0) (A 2 2) (A 2 3) (A 3 0) (A 3 2) (A 3 3)+jY (A 1 1) (A 1 2) (A 1 3) (A 2 1) (A 2 2) (A 2 3) (A 3 1) (A 3 2) (A 3 3)),
   iU (A 0 0) (A 0 1) (A 1 0) (A 1 1)+iU (A 0 0) (A 0 2) (A 2 0) (A 2 2)+iU (A 0 0) (A 0 3) (A 3 0) (A 3 3)+iU (A 1 1) (A 1 2) (A 2 1) (A 2 2)+iU (A 1 1) (A 1 3) (A 3 1) (A 3 3)+iU (A 2 2) (A 2 3) (A 3 2) (A 3 3),-(A 0 0+A 1 1+A 2 2+A 3 3),1]
def Tg(A:Mx)(n:G)(a:L):Mx:=λi j=>if i<n then(if j=i then a else 0)-A i j else if i=j then 1 else 0
def ayT(A:Mx){n}(b:1<=n)(d:n<=4) a:hQ a (xw A n)=eH (Tg A n a):=by
 have:n=1\/n=2\/n=3\/n=4:=Y;rcases this with rfl|rfl|rfl|rfl;all_goals
  simp[xw,hQ,eH,Tg,nh,jY,iU]
  grind
def ayU(A:Mx){n}(a:1<=n)(b:n<=4):Z (xw A n)=n+1/\I (xw A n) n 0=1:=by have:n=1\/n=2\/n=3\/n=4:=Y;rcases this with rfl|rfl|rfl|rfl<;>exact⟨J,J⟩
section
variable{m a:E L}
def ayV(f:cZ m)(g:El m a) b:eH (Tg (c9 (dB a m<|Z m-1)<|Z m-1) (Z m-1) b)=ni (eW (hJ b) a) m:=by
 refine CN λi j s d=>?_
 unfold Tg;by_cases h:i<Z m-1
 .rw[q h,c9,q h,c9,q h,xu h,xu h];have l:lx (be (eW (hJ b) a) m i)=lx (be (hJ b) m i)+lx (be (dJ ((-1:V):L) a) m i):=alD f (IS f b) (aap g _) i;have n:=alE f ((-1:V):L) g i;have p:=aan f b h;have k:lx (be (eW (hJ b) a) m i) j=(K b*X i+K ((-1:V):L)*lx (be a m i)) j:=by rw[l,n,p]
  rw[ef,du,du,rH,dN,dN]at k;rw[k];by_cases d:j=i
  .rw[q d,q d,lF,show(((-1:V)):L)= -1 from J];grind
  .rw[y d,y d,eh,show(((-1:V)):L)= -1 from J];grind
 .rw[y h,c9,y h]
def hE(a m:E L)(b:L):E L->E L
 |[]=>[]
 |_::l=>oA (hJ<|hQ b l)<|fm (hE a m b l) a m
def Th(b:cZ m)(d:L):∀l:E L,El m (hE a m d l)
 |[]=>⟨ug,by have:=b.l2;show 0<_;omega⟩
 |_::_=>aao (IS b _)<|MW b _ _
def alS(d:cZ m)(b:L):∀l:E L,lx m∣(K (hQ b l)-vA (lx a) (lx l))-(K b-lx a)*lx (hE a m b l)
 |[]=>by rw[hE,hQ,ku,Fq,jT,Rx.g6,Rx.sub_self];exact kM _ _
 |f::l=>by
  have k:=alS d b l;have n:lx m∣lx (fm (hE a m b l) a m)-lx (hE a m b l)*lx a:=IC d.can d.ne;rw[hE,hQ,B1,xv,yT,IT,YC,MZ,vp,eN];generalize lx (hE a m b l)=h at*;generalize vA (lx a) (lx l)=v at*;generalize lx (fm (hE a m b l) a m)=g at*;generalize lx a=α at*;generalize K (hQ b l)=w at*;have p:=dE k α;have s:=dE n<|K b-α;have e:(K f+K b*w-(K f+α*v))-(K b-α)*(w+g)=α*(w-v-(K b-α)*h)-(K b-α)*(g-h*α):=by
   simp only[Rx.mul_sub,Rx.ov,Rx.fN];rw[(fC:α*(K b*h)=K b*(h*α)),(fC:α*(α*h)=α*(h*α))];refine Rx.ext λi=>?_
   simp only[nK,ef];grind
  rw[e];exact dvd_sub p s
def hP(A:Mx):E L->G->G->Rx
 |[],_,_=>0
 |_::l,i,b=>(if i=b then lx l else 0)+(hP A l i 0*K (A 0 b)+hP A l i 1*K (A 1 b)+hP A l i 2*K (A 2 b)+hP A l i 3*K (A 3 b))
def alT(d:cZ m)(n:El m a)(b:L){i:G}(p:i<Z m-1):∀(l:E L)(f:G),f<4->vA (K b) (hP (c9 (dB a m<|Z m-1)<|Z m-1) l i f)=K (lx (be (hE a m b l) m i) f)
 |[],f,_=>by
  have:lx (be (hE a m b []) m i)=0:=by have s:=alE d 0 (Th (a:=a) d b []) i;have e:dJ 0 (hE a m b [])=hE a m b []:=nP (jV _) ug (by rw[xj,hE,ku,Rx.g6]);rw[e,jT,Rx.dy]at s;exact s
  rw[hP,Fq,this,mB,jT]
 |c::l,f,B=>by
  have u:=alT d n b p l;have C:=d.l5;have g:∀k,k<4->vA (K b) (hP (c9 (dB a m<|Z m-1)<|Z m-1) l i k*K (c9 (dB a m<|Z m-1) (Z m-1) k f))=K (I (be (hE a m b l) m i) k 0*(lx (be a m k) f)):=λk v=>by
   rw[Fs,yT,u k v,<-eN,dN<|be (hE a m b l) m i];by_cases c:k<Z m-1
   .rw[c9,q c,xu c];rfl
   .have:I (be (hE a m b l) m i) k 0=0:=fP _ (by have:=(Fo d (Th (a:=a) d b l) i).2;omega);rw[this,mF,mF]
  have x:lx (be (hE a m b<|c::l) m i)=lx (be (hJ<|hQ b l) m i)+lx (be (fm (hE a m b l) a m) m i):=alD d (IS d _) (MW d _ _) i;have z:=aam d (Th (a:=a) d b l) n i;have A:=aan d (hQ b l) p;have t:lx (be (hE a m b<|c::l) m i) f=(K (hQ b l)*X i+sX (λk=>K (I (be (hE a m b l) m i) k 0)*lx (be a m k)) 4) f:=by rw[x,z,A]
  rw[ef,aal,du,rH,du,du,du,du]at t;rw[hP,xv,xv,xv,xv,g 0 S,g 1 S,g 2 S,g 3 S,t];simp only[vp];congr 1;by_cases c:i=f
  .rw[q c,q c.symm,lF,Tf]
  .rw[y c,y<|λh=>c h.symm,eh,Fq,jT]
def qL(a m:E L):E L:=xw (c9 (dB a m<|Z m-1)<|Z m-1)<|Z m-1
def alU(b:L):∀n,K (gR b n)=pk (K b) n
 |0=>lU
 |n+1=>by rw[gR,eN,alU b n,pk]
def alV(b d:Rx):∀n,vA b (pk d n)=pk (vA b d) n
 |0=>by show vA b 1=1;rw[<-lU,yT]
 |n+1=>by rw[pk,Fs,alV b d n,pk]
def Xf(d:cZ m)(g:El m a){f}(n:lx m∣vA (lx a) (lx f)):lx (qL a m)∣pk (lx f) (Z m-1):=by
 have N:=d.l2;have P:=d.l5;obtain⟨A,p⟩:∃A,A=c9 (dB a m<|Z m-1) (Z m-1):=⟨_,J⟩;obtain⟨D,s⟩:∃D,D=x4 (λi j=>if i<Z m-1 then hP A f i j else if i=j then 1 else 0):=⟨_,J⟩;have k:∀b:L,vA (K b) (lx (qL a m)*D-pk (lx f) (Z m-1))=0:=λb=>by
  have t:vA (K b) D=K (ni (hE a m b f) m):=by
   rw[s];refine ayS b λi j Q u=>?_
   by_cases c:i<Z m-1
   .rw[q c,p,alT d g b c f j u,c9,q c,xu c];rfl
   .rw[y c,c9,y c];by_cases e:i=j
    .rw[q e,q e,<-lU,yT]
    .rw[y e,y e,Fq,jT]
  have v:vA (K b) (lx<|qL a m)=K (ni (eW (hJ b) a) m):=by rw[Tf,qL,ayT _ Y Y,ayV d g]
  have x:ni (eW (hJ b) a) m*ni (hE a m b f) m=gR (hQ b f) (Z m-1):=by
   have z:El m (eW (hJ b) a):=aao (IS d b)<|aap g _;have B:fm (eW (hJ b) a) (hE a m b f) m=hJ (hQ b f):=by
    refine aih (uz _ _) (jV _) d.can d.ne (IS d _).2 ?_;rw[uy,Cs,MZ,MZ];have C:=alS (a:=a) d b f;have l:=iA C n;have e:K (hQ b f)-vA (lx a) (lx f)-(K b-lx a)*lx (hE a m b f)+vA (lx a) (lx f)=K (hQ b f)-(K b-lx a)*lx (hE a m b f):=Rx.ext λi=>by simp only[nK,ef];grind
    rw[e]at l;exact m9 l
   rw[<-ayL d z (Th d b f),B,alC d]
  rw[M1,Fs,t,v,alV,Tf,<-alU,<-eN,x,Rx.sub_self]
 have H:=alR _ _ (aL _) λj _=>k ((j:V):L)
 refine⟨D,?_⟩;rw[Rx.dk];exact(BZ H).symm
end
def aar{a:Rx}(b:bD a)(g:Mo a):∀(n:G)(C:Rx),Mo C->C∣pk a n->∃k,k<=n/\C=pk a k
 |0,C,d,f=>⟨0,aL _,d.unit<|dvd_one f⟩
 |n+1,C,d,f=>by
  by_cases u:a∣C
  .obtain⟨i,l⟩:=u;have m:Mo i:=Mo.Ae (l▸d) g;have p:i∣pk a n:=by obtain⟨w,v⟩:=f;refine⟨w,yt b.ne ?_⟩;rw[show pk a n*a=pk a (n+1)from J,v,l,Rx.dc]
   let ⟨k,x,s⟩:=aar b g n i m p;exact⟨k+1,Y,by rw[l,s];rfl⟩
  .have t:Co a C:=(b.or C).resolve_left u;have p:C∣a*pk a n:=by rw[Rx.dk];exact f
   let ⟨k,x,s⟩:=aar b g n C d<|t.symm.dvd p;exact⟨k,Y,s⟩
def alW{m a}(b:cZ m):Z (qL a m)=Z m/\I (qL a m) (Z m-1) 0=1:=by have g:=b.l2;have i:=b.l5;obtain⟨n,d⟩:∃n,Z m=n+1:=⟨Z m-1,Y⟩;have f:=ayU (c9 (dB a m n) n) (n:=n) Y Y;unfold qL;rw[d,eL];exact f
def ayW{m a f}{d}(g:cZ m)(n:El m a)(b:M2 m a f (d+1)):∃k,lx (qL a m)=pk (lx f) (k+1):=by
 have u:=g.l2;let ⟨c1,i⟩:=alW (a:=a) g;have p:Mo (lx f):=by rw[Mo,fj b.can,b.len];exact b.top
 have s:bp (qL a m):= .inr (by rw[c1,i];decide);have l:=fj s;have t:Mo (lx<|qL a m):=by rw[Mo,l,c1];exact i
 let ⟨k,_,e⟩:=aar (b.gJ g Y) p _ _ t<|Xf g n b.zero;cases k with
 |zero=>
  rw[e,show pk (lx f) 0=1 from J,s6]at l
  omega
 |succ k=>exact⟨k,e⟩
section
variable{a b c m:E L}
def ayX(d:cZ m)(f:bp a)(g:Z a<Z m):fm a [1] m=a:=by refine aih (uz _ _) f d.can d.ne g ?_;rw[uy,IG,Rx.fO];exact kM _ _
end
def alX{N d:G}:∀(n:G)(a:E (E L))(v:L),Fl N n d a v->Ht (2^(N*(d*256))) (K<|NR n a v)
 |0,_,_,H=>H.hv
 |n+1,a,v,H=>by
  cases b:nV a (n+1) (n+1)with
  |none=>rw[Z9 b,jT];exact Ht.zero<|gG S
  |some k=>rw[Z' b];exact alX n _ _<|H.step b
section
variable{m a:E L}{t:G}
def ayY(d:cZ m)(k:Ez m t a)(n:t<=10000):Fl (Z m-1) (Z m-1) (t+101) (dB a m<|Z m-1) 1/\vK (Z m-1) (Z m-1) (t+100) (dB a m<|Z m-1):=by
 have p:=d.l5;have s:=d.l2;have f:=yO d k Y;have b:Z (dB a m<|Z m-1)=Z m-1:=by rw[dB,dj,sY]
 have g:vK (Z m-1) (Z m-1) (t+100) (dB a m<|Z m-1):=by
  refine⟨b,λi=>?_,λi l=>?_⟩
  .by_cases h:i<Z m-1
   .rw[xu h];exact(f i Y).1.le (aL _) Y
   .rw[aO,iw Y];exact Pz.nil _ _
  .rw[xu l];have:=(f i Y).2;omega
 exact⟨⟨aL _,Y,⟨t+100,by rw[kg,qx,rh];omega,g⟩,by rw[kg,so];exact Ht.one S⟩,g⟩
def ayZ(b:cZ m)(d:Ez m t a)(f:t<=10000):w O 22 [e .q a,e .q m] (aQ<|ni a m)/\QS 1000000 (ni a m):=by have n:=b.l5;let ⟨l,h2⟩:=ayY b d f;have g:=alz Y _ _ _ 1 (aL _) h2;rw[rG]at g;have i:=ayz b d f;have k:=alX _ _ _ l;rw[g]at i k;refine⟨i,k.uI ?_⟩;have:=mA (Y:Z m-1<=4)<|dS 256 (Y:t+101<=10101);omega
def ay0(b:cZ m)(d:Ez m t a)(g:t<=10000):w O 24 [e .q a,e .q m] (aQ<|gn a m<|Z m-1)/\QS 100000 (gn a m<|Z m-1):=by have k:=b.l5;have h:=MH (s:=1000) (λi f=>(yO b d Y i f).1.qs Y i) (Z m-1) Y;have hp:2^(Z m-1)<=16:=br (dD S (Y:Z m-1<=4)) S;exact⟨ayl b d Y,h.le aas⟩
end
def aat{a:L}{t:G}(b:Ht (2^t) (K a)):∀n,Ht (2^(n*t)) (K<|gR a n)
 |0=>Ht.one<|gG S
 |n+1=>by have:=(aat b n).S6 b;rw[<-jm]at this;rw[gR,gY,je];exact this
end Go.El
end
