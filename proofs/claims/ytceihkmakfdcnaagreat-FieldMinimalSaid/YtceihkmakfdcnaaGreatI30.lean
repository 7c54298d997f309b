/- Own work; no condition. -/
import Derived.Test.YtceihkmakfdcnaaGreatI29
import Derived.Test.YtceihkmakfdcnaaGreatI13
set_option linter.all false
set_option maxHeartbeats 16000000
set_option maxRecDepth 100000
open Int renaming natAbs->aD,toNat->ah
open List renaming getD->I,length->Z,drop->az
open _root_ renaming Int->V,List->E
namespace Go.El
open Go Go.Proofs Rx
def wB(a b s:Nat)(x:Rat):Prop:=∃z:V,aD z<=2^s/\((a:Nat):Rat)^b*x=(z:Rat)
section
variable{c j k s u:Nat}{x y:Rat}
def wB.le(a:wB c j s x)(k:s<=u):wB c j u x:=by let ⟨z,b,h2⟩:=a;exact⟨z,bZ b<|eU o k,h2⟩
def wB.mul(a:wB c j s x)(g:wB c k u y):wB c (j+k) (s+u) (x*y):=by
 let ⟨z,b,h2⟩:=a;let ⟨w,d,g2⟩:=g;refine⟨z*w,?_,?_⟩
 .rw[pX,kv];exact jQ b d
 .rw[fW,<-h2,<-g2,HD];grind
def wB.add(a:wB c j s x)(g:wB c j u y):wB c j (max s u+1) (x+y):=by let ⟨z,b,h2⟩:=a.le<|Nat.le_max_left s u;let ⟨w,d,g2⟩:=g.le<|Nat.le_max_right s u;refine⟨z+w,?_,by rw[KZ,<-h2,<-g2,KH]⟩;rw[gK];omega
def wB.neg(a:wB c j s x):wB c j s (-x):=by let ⟨z,b,h2⟩:=a;exact⟨-z,Y,by rw[zM,<-h2,Rat.mul_neg]⟩
def wB.sub(a:wB c j s x)(g:wB c j u y):wB c j (max s u+1) (x-y):=by rw[Wt];exact a.add g.neg
def wB.up(a:c<=2^32)(b:wB c j s x):wB c (j+1) (s+32) x:=by
 let ⟨z,d,h2⟩:=b;refine⟨z*(c:V),?_,?_⟩
 .rw[pX,pe,kv];exact jQ d a
 .rw[fW,<-h2,uW,pq];grind
def wB.one c:wB c 0 0 1:=⟨1,o,by rw[uV,lF];rfl⟩
def wB.zero c j:wB c j 0 0:=⟨0,o,by rw[dU];rfl⟩
def wB.d2{s}{a b d f}(g:wB c 1 s a)(i:wB c 1 s b)(l:wB c 1 s d)(m:wB c 1 s f):wB c 2 (2*s+1) (jg a b d f):=((g.mul m).sub<|i.mul l).le Y
def wB.d3{s}{a b d m f g n i l}(D:wB c 1 s a)(H:wB c 1 s b)(N:wB c 1 s d)(p:wB c 1 s m)(t:wB c 1 s f)(v:wB c 1 s g)(z:wB c 1 s n)(A:wB c 1 s i)(B:wB c 1 s l):wB c 3 (3*s+3) (kH a b d m f g n i l):=
 (((D.mul<|wB.d2 t v A B).sub<|H.mul<|wB.d2 p v z B).add<|N.mul<|wB.d2 p t z A).le Y
def wB.dF{s}{A:Mx}(a:∀i j,wB c 1 s (A i j)):wB c 4 (4*s+6) (er A):=
 (((((a 0 0).mul<|wB.d3 (a 1 1) (a 1 2) (a 1 3) (a 2 1) (a 2 2) (a 2 3) (a 3 1) (a 3 2)<|a 3 3).sub<|(a 0 1).mul<|wB.d3 (a 1 0) (a 1 2) (a 1 3) (a 2 0) (a 2 2) (a 2 3) (a 3 0) (a 3 2)<|a 3 3).add<|(a 0 2).mul<|wB.d3 (a 1 0) (a 1 1) (a 1 3) (a 2 0) (a 2 1) (a 2 3) (a 3 0) (a 3 1)<|a 3 3).sub<|(a 0 3).mul<|wB.d3 (a 1 0) (a 1 1) (a 1 2) (a 2 0) (a 2 1) (a 2 2) (a 3 0) (a 3 1)<|a 3 2).le Y
def wB.l0:∀j,wB c 4 230 (I ([]:E Rat) j 0):=λ_=>(wB.zero c 4).le o
def wB.cons{l:E Rat}(a:wB c 4 s x)(k:∀j,wB c 4 230 (I l j 0))(b:s<=230:=by decide):∀j,wB c 4 230 (I (x::l) j 0)
 |0=>a.le b
 |j+1=>k j
def axS{A:Mx}(g:c<=2^32)(f:∀i j,wB c 1 56 (A i j)){n}(v:1<=n)(z:n<=4):∀j,wB c 4 230 (I (Ac A n) j 0):=by
 have o:∀j,wB c 4 230 (I ([1]:E Rat) j 0):=wB.cons ((((wB.one c).up g).up g).up g|>.up g) wB.l0;have t:n=1\/n=2\/n=3\/n=4:=Y;have l:=λa b=>((wB.d2 (f a a) (f a b) (f b a)<|f b b).up g).up g
 have p:=λa b d=>(wB.d3 (f a a) (f a b) (f a d) (f b a) (f b b) (f b d) (f d a) (f d b)<|f d d).up g
 have m:=λa=>(((f a a).up g).up g).up g
 rcases t with rfl|rfl|rfl|rfl
 .exact(m 0).neg.cons o
 .exact(l 0 1).cons<|((m 0).add<|m 1).neg.cons o
 .exact(p 0 1 2).neg.cons<|(((l 0 1).add<|l 0 2).add<|l 1 2).cons<|(((m 0).add<|m 1).add<|m 2).neg.cons o
 .exact(wB.dF f).cons<|(((((p 0 1 2).add<|p 0 1 3).add<|p 0 2 3).add<|p 1 2 3).neg).cons<|((((((l 0 1).add<|l 0 2).add<|l 0 3).add<|l 1 2).add<|l 1 3).add<|l 2 3).cons<|((((m 0).add<|m 1).add<|m 2).add<|m 3).neg.cons o
end
section
variable{m a f:E Rat}
def akw(d:du m)(k:El m a){g:Nat}(l:∀b,wB g 1 32 (I a b 0)):∀i b,wB g 1 (32+8*i) (I (br a m i) b 0)
 |0,b=>l b
 |i+1,b=>by
  have p:=d.l2;rw[axR d k (n:=Z m-1) Y];have t:=akw d k l i;have u:wB g 0 7 (I m b 0):=by let ⟨z,v,p⟩:=d.int b;exact⟨z,v,by rw[uV,ph,p]⟩
  refine wB.le (wB.sub (s:=32+8*i) ?_<|(t _).mul u) Y;split
  .exact(wB.zero g 1).le Y
  .exact t _
def axT(g:du m)(s:Ez m 32 a):∃t,t<=2^128/\CD t (2^230) (lx<|lv a m):=by
 have B:=g.l2;have C:=g.l5;obtain⟨D,H,k,v⟩:=s.1.ht;have x:∀b,wB (aD D) 1 32 (I a b 0):=λb=>by
  let ⟨z,l,d⟩:=v b;rw[eG]at d;unfold wB;rw[uW,uV,ph,<-pq];rcases Int.le_total 0 D with e|e
  .exact⟨z,l,by rw[(Y:((aD D:Nat):V)=D),d]⟩
  .exact⟨-z,Y,by rw[(Y:((aD D:Nat):V)= -D),zM,zM,<-d,Rat.neg_mul]⟩
 have A:∀i b,wB (aD D) 1 56 (cz (cZ a m<|Z m-1) (Z m-1) i b):=λi b=>by
  by_cases u:i<Z m-1
  .rw[axQ u];exact(akw g s.el x i b).le Y
  .rw[cz,j u];split
   .exact((wB.one _).up k).le o
   .exact(wB.zero _ _).le o
 have p:=axS k A (n:=Z m-1) Y Y;refine⟨aD D^4,zA k 4,ko Y,λi=>?_⟩;let ⟨z,l,d⟩:=p i;exact⟨z,l,by rw[Rat.natCast_pow];exact d⟩
def axU(g:du m)(t:Ez m 32 a){d}(b:B4 m a f (d+1)):oJ f/\Ht (2^237) (lx f):=by
 have T:=g.l2;have A:=g.l5;let ⟨c1,u⟩:=akt (a:=a) g;have B:Mo (lx f):=by rw[Mo,eJ b.can,b.len];exact b.top
 have C:bM (lv a m):= .inr (by rw[c1,u];decide);have l:=eJ C;have v:Mo (lx<|lv a m):=by rw[Mo,l,c1];exact u
 let ⟨k,e⟩:=axI g t.el b;have x:lx f∣lx (lv a m):=by rw[e];exact⟨pk (lx f) k,J⟩
 have D:=kX x v.ne;rw[l,c1,eJ b.can]at D;let ⟨c,H,z⟩:=axT g t;let ⟨n,_,d2,d3⟩:=z.div v B x;rw[l,c1]at d3;have K:2^(Z m-1)<=2^4:=eU o Y;have N:Z m*2^230<=5*2^230:=eB _ A;have P:=jQ K N;have p:CD n (2^237) (lx f):=d3.le<|bZ P Q7;have s:n<=2^128:=bZ (uG z.1 d2) H;have i:=@Rx.Ly 1500;have Q:I f (Z f-1) 0=1:=by rw[b.len];exact b.top
 exact⟨⟨b.can,(λe=>by have:=b.len;rw[e]at this;cases this),Y,p.ht (bZ s<|i o)<|i o,⟨n,128,237,by rw[aiv Q];exact p,s,o,by have:=b.len;omega⟩⟩,p.ht (bZ s<|eU o o)<|aN _⟩
end
def sA(a m:E Rat):E Rat->E Rat
 |[]=>[]
 |b::l=>kZ (fm (sA a m l) a m)<|gn b
section
variable{m a f:E Rat}{t:Nat}
def akx(b:du m)(a:E Rat):∀l,lx m∣lx (sA a m l)-vA (lx a) (lx l)
 |[]=>by rw[sA,mI,B3];exact kA _ _
 |d::l=>by rw[sA,Lv,HZ,zo,tS,rk,Aa,Rx.js<|K d];refine Ha ?_<|kA _ _;have g:=nk (akx b a l)<|kA (lx m)<|lx a;rw[Rx.c8 (lx a)];exact mH (Es b.can b.ne) g
def Sg(b:du m)(g:Ez m 32 a):∀l:E Rat,Z l<=100->(∀d∈l,Ht (2^237) (K d))->Ez m (Z l*300) (sA a m l)
 |[],_,_=>Ez.nil b _
 |d::l,n,i=>by
  rw[iK]at*;have k:=Sg b g l Y λx hx=>i x k7
  exact((k.mul b g Y).add<|aj' b<|i d ax).le Y
def axV(b:du m)(d:Ez m 32 a)(g:Z f<=100)(i:∀k∈f,Ht (2^237) (K k))(l:lx m∣vA (lx a) (lx f)):sA a m f=[]:=by
 have hE:=(Sg b d f g i).el;have n:=b.l2;have e:lx (sA a m f)=0:=by refine EA b (by rw[eJ hE.1];exact hE.2) (by rw[je];omega) ?_;have h:=iI (akx b a f) l;rw[show lx (sA a m f)-vA (lx a) (lx f)+vA (lx a) (lx f)=lx (sA a m f)-0 from Rx.ext λj=>by simp only[nS,dP,lD];grind]at h;exact h
 exact sf hE.1 (.inl J) (by rw[e,mI])
def axW(p:du m)(g:El m a){d}(b:B4 m a f (d+1)):d=0↔Z a<2:=by
 have z:=p.l2;constructor
 .intro e;subst e;have s:=b.zero;have k:lx f=K (I f 0 0)+X 1:=by
   refine Rx.ext λi=>?_
   rw[eG,dP,kz,oF];have v:=b.len;by_cases l:i=0
   .rw[q l,j Y,l];grind
   .rw[j l];by_cases n:i=1
    .rw[q n,n,b.top];grind
    .rw[j n,aO,jB Y];exact(tz 0).symm
  rw[k,tS,rk,<-Rx.fv (X 1),Aa,<-jE,rk,jE,Rx.fv]at s;have e:lx a=K (-(I f 0 0)):=by refine EA p (by rw[eJ g.1];exact g.2) (tm (Hb _) Y) ?_;rw[Bq,eY,neg_neg,Rx.js];exact s
  have:=Hb<| -(I f 0 0);rw[<-e,eJ g.1]at this;omega
 .intro v;refine eR λA=>?_
  have e:lx a=K (I a 0 0):=by
   refine Rx.ext λi=>?_
   rw[eG,kz];split
   .rename_i e;rw[e]
   .rw[aO,jB Y];rfl
  have x:=b.least (X 1-K (I a 0 0)) (by rw[ahE];omega) (by rw[H3,rk,<-Rx.fv (X 1),Aa,<-jE,rk,jE,Rx.fv,<-e,sub_self];exact uI _);have u:=ahE<|I a 0 0;rw[x,je]at u;cases u
end
def axX a m{f}{b}(d:b<Z f):sA a m (az (Z f-(b+1)) f)=kZ (fm (sA a m<|az (Z f-b) f) a m) (gn<|I f (Z f-1-b) 0):=by
 have e:az (Z f-(b+1)) f=I f (Z f-1-b) 0::az (Z f-b) f:=by rw[(Y:Z f-(b+1)=Z f-1-b),rZ Y,(Y:Z f-1-b+1=Z f-b),aO,cT Y];rfl
 rw[e,sA]
def axY k(W:E V)(B:E (V×V×V))(hk:0<=k/\k<=255)(Yy:∀x∈W,-128<=x/\x<=127)(h0:∀x∈B,p' x):
  aq Tryz.prog 7 [.a [.I .u8 k,.S I8 W],cS RW B] (cB true):=by
 let ⟨m,hm,hF⟩:=av2 k W hk Yy
 have e0:=av3 hm.l2 hm.l5 B h0
 have l:Ez m 32 (BN B<|Z m-2):=awp hm h0
 generalize BN B (Z m-2)=a at*
 have g:=hm.l2
 have h5:=hm.l5
 have fM:=axc hm l o
 let ⟨dd,d1,d2,u⟩:=axE (a:=a) hm
 obtain⟨d,rfl⟩:∃d,dd=d+1:=⟨dd-1,Y⟩
 generalize R0 a m=f at*
 have X:=u.len
 have n:I f (Z f-1) 0=1:=by rw[X];exact u.top
 let ⟨F,r⟩:=axU hm l u
 have fI:=u.gI hm d2
 let ⟨p,q1,q2,_,Q,q5⟩:=axL hm l.el u
 have w:∀i,QS 8 (I f i 0):=λi=>by rw[<-eG];exact r.qs (nZ o) i
 have vF:=aiw (k:=8) o f Y (by rw[n];decide) w (λe=>by rw[e]at X;cases X)
 have iF:aq Tryz.prog 33 [cS .q f] (cB true):=by let ⟨fs,f1,_,_,f4⟩:=ai8 F;rw[auK f1 n fI]at f4;exact ai9 f4
 have y:∀c∈f,Ht (2^237) (K c):=λc C=>by let ⟨i,hi,e⟩:=CB C;have h:=r.RX i;rw[eG,aO,cT hi]at h;rw[<-e];exact h
 have v:∀i,Ht (2^237) (K<|I f i 0):=λi=>by have h:=r.RX i;rwa[eG]at h
 have hz:=axV hm l Y y u.zero
 have t:=axW hm l.el u
 have ed:((Z f:V)-1)=((d+1:Nat):V):=Y
 have en:((Z m:V)-1)=((Z m-1:Nat):V):=Y
 have hq4:p<=4:=by have:=ja p (Y:1<=d+1);omega
 have G:((Z m:V)-1).tmod ((Z f:V)-1)=0:=by rw[ed,en,q2,fP];exact Int.mul_tmod_left _ _
 have A:((Z m:V)-1).tdiv ((Z f:V)-1)=(p:V):=by rw[ed,en,q2,fP,Int.mul_tdiv_cancel _ Y]
 have D:(0-((Z m:V)-1)).tdiv ((Z f:V)-1)= -(p:V):=by rw[Int.zero_sub,Int.neg_tdiv,A]
 have sO:=QL (k:=8) (I f (ah<|(Z f:V)-1) 0) 1 (w _) o
 rw[tk (by rw[(Y:ah ((Z f:V)-1)=Z f-1),n])]at sO
 have w1:=y6 1 o o
 have pP:=axP (I f (ah (0:V)) 0) p (v _) o Y
 rw[<-A]at pP
 have pH:=Zj (v 0) p
 let ⟨nA,qA⟩:=axN hm l o
 let ⟨tA,rA⟩:=axO hm l o
 have wN:=y6 (-(p:V)) Y Y
 have mT:=Lt (k:=10) (((-(p:V):V)):Rat) (I f (ah<|(Z f:V)-1-1) 0) ((aw2 (z:= -(p:V)) (a:=3) Y).z4 o) ((w _).le o) o
 rw[<-D]at wN mT
 have eT:ju a m (Z m-1)=(((0-((Z m:V)-1)).tdiv ((Z f:V)-1):V):Rat)*I f (ah<|(Z f:V)-1-1) 0:=by rw[D,q5,(Y:ah ((Z f:V)-1-1)=d),zM];grind
 have sT:=QL _ ((((0-((Z m:V)-1)).tdiv ((Z f:V)-1):V):Rat)*I f (ah<|(Z f:V)-1-1) 0) rA o
 rw[tk eT]at sT
 have sN:=QL (mP a m) (mP a m) qA o
 rw[tk J]at sN
 have L:=asE<|n8 (I f (ah (0:V)) 0) p
 refine aS Tryz.func7 ?_
 refine rr J<|bL J J aw1 J<|bA<|rr J<|xe J (λh=>gD)<|λ_=>aG ?_
 refine rb<|rc J J hF<|re J<|rr J ?_ (hp:=aH)
 refine rb<|rc J J e0<|re J<|rb<|rc J J fM<|re J<|rr J<|bA ?_
 refine rb<|rg 34 J J (λh=>?_)<|λ_=>rg 39 J J (λh=>?_)<|λ_=>?_
 .have h:(Z f:V)-1<1:=aX h;exact aJ h Y
 .have h:(Z f:V)-1>(Z m:V)-1:=aX h;exact aJ h Y
 refine mD J J J J J vF<|re J<|xe J (λh=>gD)<|λ_=>aG<|bA ?_
 refine rb<|rg 48 J J (λh=>?_) (λ_=>?_) (hp:=?_)
 .have h:(((Z m:V)-1).tmod ((Z f:V)-1) !=0)=true:=h;rw[G]at h;cases h
 rotate_left
 .simp only[Pr.an,Pr.h,num,gy,true_and,and_true];first|done|omega
 refine mD J J J J J w1<|mD J J J J J sO<|rg 57 J J (λh=>gD)<|λ_=>mD J J J J J iF<|re J<|xe J (λh=>gD)<|λ_=>aG ?_
 refine rb<|rl .q [] J J (re J<|bA<|rr J ?_)
 refine aA<|bx (α:=Nat) (λb=>⟨[(5,cB true),(6,cS .q m),(7,cI<|(Z m:V)-1),(8,cS .q a),(9,cS .q f),(10,cI<|(Z f:V)-1),(11,cS .q<|sA a m<|az (Z f-b) f),(12,cI<|(Z f:V)-1-b)],[],20,[]⟩) (λb=>b<=Z f) (λb=>Z f-b) 0 (bm _) (wk ⟨sR J,sR J,sR J,sR J,sR J,sR J,sE J ?_,sE J ?_,M⟩ M) ?_
 .rw[A4,List.drop_length];rfl
 .exact bl cI (Y:(Z f:V)-1=(Z f:V)-1-(0:Nat))
 intro b hj
 refine bA<|rr J<|xe J (λh=>?_)<|λh=>?_
 .have h:b<Z f:=by have h:(Z f:V)-1-b>=0:=aX h;omega
  have O:=axX a m h;have T:=Sg hm l (az (Z f-b) f) (by rw[yx];omega)<|λc C=>y c<|Vo C;have H:=Sg hm l (az (Z f-(b+1)) f) (by rw[yx];omega)<|λc C=>y c<|Vo C;rw[O]at H;have zl:=H.2;have ei:ah ((Z f:V)-1-b)=Z f-1-b:=Y;rw[<-ei]at O zl;have R:(az (Z f-b) f).length<=100:=by rw[yx];omega
  have T:=T.le<|eB 300 R;generalize sA a m (az (Z f-b) f)=s at*;let ⟨pz,_,_,U⟩:=YY hm (HS T.1) (HS l.1) T.2 l.2 o;have cn:=XL<|I f (ah<|(Z f:V)-1-b) 0;have zc:=aj' hm<|v<|ah<|(Z f:V)-1-b;have ad:=pz.K8 zc.1 (k:=2000) o o o o o;refine aG<|bA<|aA<|rb<|rc J J U<|rc J J cn (rc J J ad<|re J<|rr J (xe J (λg=>?_)<|λ_=>dk ?_) (hp:=aH)) (hp:=aH)
  .have g:(Z (kZ (fm s a m)<|gn<|I f (ah<|(Z f:V)-1-b) 0):V)>=(Z m:V):=aX g;exact aJ g Y
  .refine bU (rt J (hp:=aH)<|a6 (b+1) h (Y:Z f-(b+1)<Z f-b)<|wk ⟨sR J,sR J,sR J,sR J,sR J,sR J,sE J ?_,sE J ?_,M⟩ M)
   .rw[O]
   .exact bl cI (Y:(Z f:V)-1-b-1=(Z f:V)-1-(b+1:Nat))
 have h:b=Z f:=by have h:¬(Z f:V)-1-b>=0:=bh h;omega
 subst h
 rw[jA,qx,hz]
 refine bD<|aR ?_
 refine rb<|rc J J pP (re J ?_) (hp:=?_)
 rotate_left
 .simp only[Pr.an,Pr.h,num,gy,true_and,and_true];first|done|omega
 refine nP ⟨[(5,cB true),(6,cS .q m),(7,cI<|(Z m:V)-1),(8,cS .q a),(9,cS .q f),(10,cI<|(Z f:V)-1),(11,cS .q []),(13,.c<|.P 21007000 0)],[(21007000,.box 44 0<|av .q<|mP a m)],40,[]⟩ ?_<|λN=>rr J<|xe J (λg=>?_)<|λg=>dk ?_
 rotate_left
 .have g:(Z m-1)%2=1:=by have g:(((Z m:V)-1).tmod 2==1)=true:=g;rw[l7 Y]at g;have:=eS g;omega
  rw[q g]at Q;have L:aq Tryz.prog 46 [aQ (n8 (I f (ah (0:V)) 0) p)] (aQ<|mP a m):=by rw[Q];exact L
  rw[A];exact cL<|rc J J L<|re J<|fp N aY
 .have g:¬(Z m-1)%2=1:=λe=>by have g:(((Z m:V)-1).tmod 2==1)=false:=g;rw[l7 Y]at g;have:=HA g;omega
  rw[j g]at Q;refine fp N<|wk (bP J) ⟨bE J ?_,M⟩;rw[Q];rfl
 refine rb<|rc J J wN (rc J J mT<|re J<|rb<|rg 107 J J (λ_=>rg 112 J J (λ_=>?_)<|λh=>gD)<|λh=>gD) (hp:=?_)
 rotate_left
 .simp only[Pr.an,Pr.h,num,gy,true_and,and_true];first|done|omega
 refine mD J J J J J nA<|mD J J J J J sN<|rg 119 J J (λ_=>?_)<|λh=>gD
 refine mD J J J J J tA<|mD J J J J J sT<|rg 126 J J (λ_=>?_)<|λh=>gD
 refine re J<|cd J<|bl cB ?_
 show(((Z f:V)-1==1)==decide ((Z a:V)<2))=true
 rw[beq_iff_eq]
 by_cases e:d=0
 .have:=t.1 e;rw[tk (Y:(Z a:V)<2),(Y:(Z f:V)-1=1)];rfl
 .have:¬Z a<2:=λx=>e (t.2 x)
  rw[tj (Y:¬(Z a:V)<2)];exact beq_eq_false_iff_ne.2 Y
end Go.El
