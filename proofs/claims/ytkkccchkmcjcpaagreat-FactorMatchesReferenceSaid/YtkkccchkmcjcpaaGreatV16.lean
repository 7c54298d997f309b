/- Contracts: the reference's lifting of two factors, the loop. Own work; no condition. -/
import Derived.Test.YtkkccchkmcjcpaaGreatV15
import Derived.Test.YtkkccchkmcjcpaaGreatV14
import Derived.Test.YtkkccchkmcjcpaaGreatV11
import Derived.Test.YtkkccchkmcjcpaaGreatV7
import Derived.Test.YtkkccchkmcjcpaaGreatV10
import Derived.Test.YtkkccchkmcjcpaaGreatV13
set_option linter.all false
set_option maxHeartbeats 16000000
set_option maxRecDepth 100000
open Bool renaming true->ae,false->ah
open Classical renaming choose->wm
open Go.El renaming rr->e,cS->N,vL->q,gy->L,cI->D,re->o,auI->z,y6->u,rb->t,kZ->w,ps->h
open Go.Proofs.Tryz renaming prog->j
open Int renaming toNat->ad,natAbs->aq
open List renaming getD->Y,length->G,take->y,drop->aE,replicate->bh,mem_range'_1->atp
open Nat renaming lt_or_eq_of_le->asf,testBit->mO,gcd->lZ
open _root_ renaming List->V,Int->Z,Nat->I,Rat->O
namespace Go.El
open Go Go.Proofs Go.RowKit Fx
def oa(f a K:V Z):V Z:=au<|mi f<|au<|mu a K
def kT(a:Z)(p:I)(f b K:V Z):V Z:=(oa f b K).map λx=>x/a%(p:Z)
def qi(a:Z)(p:I)(f g b c K:V Z):V Z:=(aJ (bT b (au<|kT a p f c K) p) g p).2
def Af(a:Z)(p:I)(f g c d b K:V Z):V Z:=(aJ (au<|hZ (au<|kT a p f b K) (bT (qi a p f g d b K) c p) p) g p).1
def ft(p:I)(f g b c:V Z):I->V Z×V Z
 |0=>(g,b)
 |a+1=>(m9 (ft p f g b c a).1 ((p:Z)^(a+1))<|qi ((p:Z)^(a+1)) p f g c (ft p f g b c a).1 (ft p f g b c a).2,m9 (ft p f g b c a).2 ((p:Z)^(a+1))<|Af ((p:Z)^(a+1)) p f g b c (ft p f g b c a).1 (ft p f g b c a).2)
structure Jw(p:I)(f g h t:V Z):Prop where
 H:aX p
 fm:aG f
 hg:Mon p g
 hh:Mon p h
 g2:2<=g.length
 h2:2<=h.length
 lg:g.length<=100
 lh:h.length<=100
 fl:f.length+1=g.length+h.length
 pr:(fx f:Fx p)=fx g*fx h
 tc:aY p t
 tl:t.length<g.length
 ht:(fx g:Fx p)∣fx t*fx h-1
section
variable{p:I}{f g h t:V Z}(A:Jw p f g h t)
include A
structure TwE(p:I)(f g h t b K:V Z)(a:I):Prop where
 D:(oa f b K).length+2<=g.length+h.length
 e:aY p (au<|kT ((p:Z)^a) p f b K)
 el:(au<|kT ((p:Z)^a) p f b K).length+2<=g.length+h.length
 cg:aY p (qi ((p:Z)^a) p f g t b K)
 lg:(qi ((p:Z)^a) p f g t b K).length<g.length
 ck:aY p (Af ((p:Z)^a) p f g h t b K)
 lk:(Af ((p:Z)^a) p f g h t b K).length<h.length
 nx:vq p f g h (m9 b ((p:Z)^a)<|qi ((p:Z)^a) p f g t b K) (m9 K ((p:Z)^a)<|Af ((p:Z)^a) p f g h t b K) (a+1)
def Jw.step{a K:V Z}{b:I}(c:vq p f g h a K b)(Q:1<=b):TwE p f g h t a K b:=by
 have H:=A.H;have q:=H.hp.1;have s:(0:Z)<(p:Z)^b:=kV S;let ⟨w,hw⟩:=c.pr;have k:∀i,Y (oa f a K) i 0=(p:Z)^b*w i:=λi=>by
  have l:ps (oa f a K) i=ps f i-(ps a*ps K) i:=by show ps (au<|mi f<|au<|mu a K) i=_;rw[nR,cc,Fj,<-cc,<-cc,nR,aco _ _ c.Gm.1 c.Km.1]
  rw[cc]at l;rw[l,hw,PS.eR,PS.eS];omega
 have B:G (oa f a K)+2<=G g+h.length:=by
  have d:=c.Gm.q6.mul c.Km.q6;have m:=A.fm.q6;have R:∀i,G f-1<=i->Y (oa f a K) i 0=0:=λi U=>by
   have l:Y (oa f a K) i 0=ps f i-(ps a*ps K) i:=by rw[k i,hw,PS.eR,PS.eS];omega
   have W:G a-1+(K.length-1)=G f-1:=by have:=c.Gl;have:=c.Kl;have:=A.fl;have:=A.g2;have:=A.h2;omega
   rw[W]at d;rcases asf U with e|e
   .rw[l,m.z i e,d.z i e];rfl
   .rw[l,<-e,m.one,d.one];rfl
  have X:can (oa f a K):=Fw _;have:=A.fl;have:=A.g2;have:=A.h2;rcases X with e|e
  .rw[e];simp;omega
  .rcases oG (G (oa f a K)-1) (G f-1)with E|E
   .omega
   .exact absurd (R _ E) e
 have n:∀i,Y (kT ((p:Z)^b) p f a K) i 0=w i%p:=λi=>by show Y ((oa f a K).map λx=>x/(p:Z)^b%(p:Z)) i 0=_;rw[getD_map (f:=λx=>x/(p:Z)^b%(p:Z)) VR,k i,DM _ S]
 have C:rp p (kT ((p:Z)^b) p f a K):=λi=>by rw[n i];exact⟨fS _ S,gA _ S⟩
 have r:aY p (au<|kT ((p:Z)^b) p f a K):=gH H.pos C;have v:G (au<|kT ((p:Z)^b) p f a K)+2<=G g+h.length:=by
  have u:=kK<|kT ((p:Z)^b) p f a K;have y:G (kT ((p:Z)^b) p f a K)=G (oa f a K):=by simp[kT]
  omega
 let ⟨a1,a2,F,P,o⟩:=arM H A.hg A.hh A.g2 r v A.ht;exact⟨B,r,v,a2,a1,F,P,c.step H Q w hw (Cg.of λi=>by rw[nR,cc,n i,jJ]) a1 a2 P F o⟩
def Jw.all:∀a,vq p f g h (ft p f g h t a).1 (ft p f g h t a).2 (a+1)
 |0=>vq.start A.hg A.hh A.pr
 |a+1=>(A.step (Jw.all a)<|O3<|aW a).nx
theorem afs{a d:V Z}(b:Z)(c:aG a)(h:G d<G a):au (yd a b d)=m9 a b d:=by
 have e:yd a b d=m9 a b d:=by unfold yd m9;rw[(S:max (G a) (G d)=G a)]
 rw[e];exact(VC b c h).trim
def ash(hb:af j 236 [N u g,N u h,cU p] (N u t)){k E r:I}(k1:1<=k)(kk:k<=1000)(hu:∀i,aw E (Y f i 0))(hw:aw r ((p:Z)^k))(u9:E<=1000)(w9:r<=1000)(w1:1<=r):af j 167 [N .z f,N u g,N u h,cU p,D k] (.a [.S .z (ft p f g h t<|k-1).1,.S .z (ft p f g h t<|k-1).2]):=by
 have H:=A.H;have r7:=H.hp.1;have BI:=H.le;have lg:=A.lg;have lh:=A.lh;have g2:=A.g2;have h2:=A.h2;have fl:=A.fl;obtain⟨k,rfl⟩:∃n,k=n+1:=⟨k-1,S⟩;rw[eJ];have F:∀{d:V Z},Mon p d->∀i,0<=Y d i 0/\Y d i 0<4294967296:=λ{d} hq i=>by have:=hq.c.1 i;omega
 have R:=To g S<|F A.hg;have U:=To h S<|F A.hh;rw[uQ A.hg.c.2]at R;rw[uQ A.hh.c.2]at U;refine aD Tryz.func167 ?_;refine e J<|aO J J hb J<|rb<|rc J J R<|rc J J U<|o J ?_;refine rb<|rc J J (kp p S S) (o J<|L<|e J ?_) (hp:=ak);refine q<|aK (α:=I) (λi=>⟨[(0,N .z f),(1,N u g),(2,N u h),(3,cU p),(4,D ((k+1:I):Z)),(10,.c<|.P 0 0),(11,N u t),(12,.c<|.P 2005000 0),(13,.c<|.P 3003000 0),(14,D ((i+1:I):Z))],[(0,.box 175 0 [.V (.slice none 0 0),.V<|.slice none 0 0]),(2005000,.box 175 0 [.S .z (ft p f g h t i).1,.S .z (ft p f g h t i).2]),(3003000,.box 44 0<|av .z<|(p:Z)^(i+1))],5,[]⟩) (λi=>i<=k) (λi=>k-i) 0 (aW _) (wk (aS J) ⟨bE J J,bE J J,bE J ?_,T⟩) ?_
 .rw[dK,oQ,j7];rfl
 intro i hi;have Q:=A.all i;let ⟨e1,e2,e3,e4,e5,e6,e7,e8⟩:=A.step Q<|O3<|aW i;have hq:(0:Z)<(p:Z)^(i+1):=kV S;have DH:(p:Z)^(i+1)<=(p:Z)^(k+1):=by rw[<-ot,<-ot];exact ID.2<|fG S S
 have B:aw r ((p:Z)^(i+1)):=by unfold aw at*;omega
 have Uq:(ft p f g h t<|i+1).1=m9 (ft p f g h t i).1 ((p:Z)^(i+1)) (qi ((p:Z)^(i+1)) p f g t (ft p f g h t i).1 (ft p f g h t i).2):=rfl;have N2:(ft p f g h t<|i+1).2=m9 (ft p f g h t i).2 ((p:Z)^(i+1)) (Af ((p:Z)^(i+1)) p f g h t (ft p f g h t i).1 (ft p f g h t i).2):=rfl;have hE:kT ((p:Z)^(i+1)) p f (ft p f g h t i).1 (ft p f g h t i).2=(oa f (ft p f g h t i).1 (ft p f g h t i).2).map λx=>x/(p:Z)^(i+1)%(p:Z):=rfl
 have hGE:qi ((p:Z)^(i+1)) p f g t (ft p f g h t i).1 (ft p f g h t i).2=(aJ (bT t (au<|kT ((p:Z)^(i+1)) p f (ft p f g h t i).1 (ft p f g h t i).2) p) g p).2:=rfl;have hKE:Af ((p:Z)^(i+1)) p f g h t (ft p f g h t i).1 (ft p f g h t i).2=(aJ (au<|hZ (au<|kT ((p:Z)^(i+1)) p f (ft p f g h t i).1 (ft p f g h t i).2) (bT (qi ((p:Z)^(i+1)) p f g t (ft p f g h t i).1 (ft p f g h t i).2) h p) p) g p).1:=rfl;have W:oa f (ft p f g h t i).1 (ft p f g h t i).2=au (mi f<|au<|mu (ft p f g h t i).1 (ft p f g h t i).2):=rfl;have gB:∀b,aw r ((ft p f g h t i).1.getD b 0):=λb=>by have:=Q.Gr b;unfold aw at*;omega
 have kB:∀b,aw r ((ft p f g h t i).2.getD b 0):=λb=>by have:=Q.Kr b;unfold aw at*;omega
 generalize hG0:(ft p f g h t i).1=l at*;generalize hK0:(ft p f g h t i).2=K at*;generalize uH:(p:Z)^(i+1)=d at*;refine L<|e J<|z J (λC=>?_)<|λC=>?_
 .have C:i<k:=by have C:((i+1:I):Z)<((k+1:I):Z):=az C;omega
  have gl:=Q.Gl;have kl:=Q.Kl;have oP:=aa7 l K r r S S S gB kB;have s:∀i,aw (2*r+1+E) (Y (au<|mu l K) i 0):=λi=>by rw[<-cc,nR,cc];exact(acp l K r r gB kB S S i).le S
  have hil:G (au<|mu l K)<=200:=by have:=kK<|mu l K;rw[IN]at this;omega
  have M:=afn f (au<|mu l K) (2*r+1+E) S S S (λi=>(hu i).le S) s;have O:∀i,aw (2*r+2+E) (Y (oa f l K) i 0):=λi=>by rw[W,<-cc,nR,cc,Fj];exact(((hu i).le (S:E<=2*r+1+E)).sub<|s i).le S
  rw[<-W]at M;have hLl:G (kT d p f l K)=G (oa f l K):=by rw[hE,cL]
  have hLr:∀b,b<G (oa f l K)->Y (kT d p f l K) b 0=Y (oa f l K) b 0/d%(p:Z):=λb _=>by rw[hE];exact getD_map (f:=λx=>x/d%(p:Z)) VR _ b
  have hLp:rp p (kT d p f l K):=λb=>by rw[hE,getD_map (f:=λx=>x/d%(p:Z)) VR];exact⟨fS _ S,gA _ S⟩
  have O5:=uO (kT d p f l K) p S S S<|λb=>(hLp b).1;rw[Bo hLp]at O5;have tl:=A.tl;have vZ:=uP t (au<|kT d p f l K) p S S S S A.tc.1 e2.1;have RH:=qI t (au<|kT d p f l K) p;have ze:=tr p H.hp H.le (bT t (au<|kT d p f l K) p) g S S (je H.pos _ _) A.hg.c A.hg.ne;rw[<-hGE]at ze;have hm2:=uP (qi d p f g t l K) h p S S S S e4.1 A.hh.c.1;have avL:=qI (qi d p f g t l K) h p;have asp:=Hm (au<|kT d p f l K) (bT (qi d p f g t l K) h p) p S S S S e2.1 (je H.pos _ _).1;have qT:=kK<|hZ (au<|kT d p f l K) (bT (qi d p f g t l K) h p) p;rw[LR]at qT;have Eu:=zu p H.hp H.le (au<|hZ (au<|kT d p f l K) (bT (qi d p f g t l K) h p) p) g S S (gH H.pos<|Bp H.pos _ _) A.hg.c A.hg.ne;rw[<-hKE,uQ e6.2]at Eu;have ha1:=Tn l d (qi d p f g t l K) r S S S gB B (λb=>by have:=e4.1 b;omega);have O6:=Tn K d (Af d p f g h t l K) r S S S kB B (λb=>by have:=e6.1 b;omega);rw[afs A d Q.Gm S,<-Uq]at ha1;rw[afs A d Q.Km S,<-N2]at O6;have hqm:=lL d p (B.sm S)<|(aw.one (a:=(p:Z)) S).sm S;generalize qi d p f g t l K=dg at*;generalize Af d p f g h t l K=dh at*;generalize kT d p f l K=ns at*;generalize oa f l K=v at*;refine bN<|ay<|L<|q<|rb<|rc J J oP<|rc J J M<|o J<|rb<|gR u [] J J (o J<|L<|e J ?_)
  refine q<|aK (α:=I) (λb=>⟨[(0,N .z f),(1,N u g),(2,N u h),(3,cU p),(4,D ((k+1:I):Z)),(10,.c<|.P 0 0),(11,N u t),(12,.c<|.P 2005000 0),(13,.c<|.P 3003000 0),(14,D ((i+1:I):Z)),(15,N .z v),(16,.c<|.X 7000000),(17,D b)],[(0,.box 175 0 [.V (.slice none 0 0),.V<|.slice none 0 0]),(2005000,.box 175 0 [.S .z l,.S .z K]),(3003000,.box 44 0<|av .z d),(7000000,.vec 25 u<|y b ns)],9,[]⟩) (λb=>b<=G v) (λb=>G v-b) 0 (aW _) aM ?_;intro b hj;have hl:(y b ns).length=b:=bP;refine L<|e J<|z J (λm=>?_)<|λm=>?_
  .have m:b<G v:=by have m:(b:Z)<(G v:Z):=az m;omega
   have ej:ad ((b:Z))=b:=aV b;have Q1:=DK (Y v (ad<|(b:Z)) 0) d S ((O _).sm S)<|B.sm S;have zg:=aa8 (Y v (ad<|(b:Z)) 0/d) p S S (by
    have h1:=O<|ad<|(b:Z);have h2:aw (2*r+2+E) (Y v (ad<|(b:Z)) 0/d):=by have:=O7 (Y v (ad<|(b:Z)) 0) d;unfold aw at*;omega
    exact h2.sm S)
   refine ai<|L<|q ?_;refine rb<|rc J J Q1 (o J ?_) (hp:=ak);refine bs<|rc J J zg<|rl u [_] J J (ra J J J J J J J J J ?_ ?_<|o J ?_)
   .show(_+1+(_+1)/4+192)*8<=_;omega
   .show(_+1)*1<=_;omega
   refine aT<|rt J (hp:=ak)<|aA (b+1) m (S:G v-(b+1)<G v-b)<|Wk.trans (wk (st':=⟨[(0,N .z f),(1,N u g),(2,N u h),(3,cU p),(4,D ((k+1:I):Z)),(10,.c<|.P 0 0),(11,N u t),(12,.c<|.P 2005000 0),(13,.c<|.P 3003000 0),(14,D ((i+1:I):Z)),(15,N .z v),(16,.c<|.X 11005000),(17,D ((b+1:I):Z))],[(0,.box 175 0 [.V (.slice none 0 0),.V<|.slice none 0 0]),(2005000,.box 175 0 [.S .z l,.S .z K]),(3003000,.box 44 0<|av .z d),(11005000,.vec 25 u<|y (b+1) ns)],24,[]⟩) (aS J) ⟨bR J,bR J,bR J,bE J ?_,T⟩)<|Wk.trans (fp 7000000 11005000 J J J) aM;refine aC (aH.vec 25 u) ?_;rw[jK _ b S,hLr b m,ej]
  .have m:b=G v:=by have m:¬(b:Z)<(G v:Z):=aL m;omega
   subst m;rw[iI S];refine aN<|ay<|cD 7000000 J J J<|aO J J O5 J ?_;refine rb<|rc J J vZ<|rc J J ze<|o J<|rb<|rc J J hm2<|rc J J asp<|rc J J Eu<|o J ?_;refine rb<|rc J J ha1<|rc J J O6<|o J ?_;refine bs<|rc J J (kp p S S) (rc J J hqm<|o J ?_) (hp:=ak);refine aT<|rt J (hp:=ak)<|aA (i+1) C Nk<|wk (aS J) ⟨bE J J,bE J J,bE J ?_,T⟩;rw[dK,uH];rfl
 .have C:i=k:=by have C:¬((i+1:I):Z)<((k+1:I):Z):=aL C;omega
  subst C;refine aN<|ay ?_;rw[hG0,hK0];exact e J<|bq J J
end
section
variable{p:I}(H:aX p)
open Classical in
noncomputable def yu(p:I)(g a:V Z):V Z:=if e:∃t,aY p t/\G t<G g/\(fx g:Fx p)∣fx t*fx a-1/\af j 236 [N u g,N u a,cU p] (N u t)then wm e else[]
include H in
def asr{g a:V Z}(c:Mon p g)(d:Mon p a)(f:2<=G g)(i:G g<=100)(k:a.length<=100)(b:Co (fx g:Fx p) (fx a)):aY p (yu p g a)/\G (yu p g a)<G g/\(fx g:Fx p)∣fx (yu p g a)*fx a-1/\af j 236 [N u g,N u a,cU p] (N u<|yu p g a):=by have e:=asb H c d f i k b;unfold yu;rw[dif_pos e];exact qL e
noncomputable def tY(p k:I)(f:V Z)(l:V (V Z)):V Z×V Z:=ft p f (l.getD 0 []) (iS p l.tail<|G l.tail) (yu p (l.getD 0 [])<|iS p l.tail<|G l.tail)<|k-1
noncomputable def sB(p k:I):V Z->V (V Z)->V (V Z)
 |_,[]=>[]
 |f,[_]=>[f.map (cp · ((p:Z)^k))]
 |f,g::a::r=>(tY p k f<|g::a::r).1.map (cp · ((p:Z)^k))::sB p k (tY p k f<|g::a::r).2 (a::r)
structure vt(p:I)(f:V Z)(l:V (V Z)):Prop where
 fm:aG f
 ok:∀g∈l,Mon p g/\2<=g.length
 pr:(fx f:Fx p)=eD p l
 co:l.Pairwise (λx a=>Co (fx x:Fx p)<|fx a)
 fl:f.length=1+b7 l
 d9:b7 l<=90
def afx:∀l:V (V Z),eD p l=fj l
 |[]=>rfl
 |f::l=>by rw[eD,fj,afx l]
def O8:∀{l:V (V Z)}{g:V Z},g∈l->G g<=1+b7 l
 |x::l,g,a=>by
  rw[b7];rcases df.1 a with rfl|a
  .omega
  .have:=O8 a;omega
include H
def vt.two{f g a:V Z}{r:V (V Z)}(b:vt p f (g::a::r)):Jw p f g (iS p (a::r) (a::r).length) (yu p g<|iS p (a::r) (a::r).length)/\af j 236 [N u g,N u<|iS p (a::r) (a::r).length,cU p] (N u<|yu p g<|iS p (a::r) (a::r).length):=by
 let ⟨d,g2⟩:=b.ok g ax;let ⟨t1,t2,t3⟩:=Cj H (l:=a::r) (λx hx=>⟨(b.ok x iB).1,by have:=(b.ok x iB).2;omega⟩) _<|a8 _;rw[eE]at t2 t3;let ⟨B,h2⟩:=b.ok a ax;let ⟨c1,_⟩:=im.1 b.co;have C:b7 (g::a::r)=(G g-1)+b7 (a::r):=rfl;have i:b7 (a::r)=(a.length-1)+b7 r:=rfl;have E:=b.d9;have F:=b.fl;have c:Co (fx g:Fx p) (fx<|iS p (a::r) (a::r).length):=by rw[t2,afx];exact VA H c1
 let ⟨k,m,n,v⟩:=asr H d t1 g2 S S c;refine⟨⟨H,b.fm,d,t1,g2,S,S,S,S,?_,k,m,n⟩,v⟩;rw[b.pr,t2];rfl
def vt.next{f g a:V Z}{r:V (V Z)}(c:vt p f (g::a::r)){k:I}(d:1<=k):vq p f g (iS p (a::r) (a::r).length) (tY p k f<|g::a::r).1 (tY p k f<|g::a::r).2 k/\vt p (tY p k f<|g::a::r).2 (a::r):=by let ⟨T,_⟩:=c.two H;have b:=T.all<|k-1;rw[(S:k-1+1=k)]at b;have b:vq p f g (iS p (a::r) (a::r).length) (tY p k f<|g::a::r).1 (tY p k f<|g::a::r).2 k:=b;let ⟨t1,t2,t3⟩:=Cj H (l:=a::r) (λx hx=>⟨(c.ok x iB).1,by have:=(c.ok x iB).2;omega⟩) _<|a8 _;rw[eE]at t2 t3;have i:b7 (g::a::r)=(G g-1)+b7 (a::r):=rfl;have m:=c.d9;exact⟨b,b.Km,λx hx=>c.ok x iB,by rw[b.Kp,t2],(im.1 c.co).2,by rw[b.Kl,t3],S⟩
def VS{k:I}(P:1<=k):∀(l:V (V Z))(f:V Z),vt p f l->q' p k f l (sB p k f l)
 |[],f,b=>by
  refine⟨J,λi n=>absurd n ax,?_⟩;have B:f=[1]:=by
   have Q:=b.fl;have C:=b.fm.2;match f,Q with
   |[c],_=>rw[show c=1 from C]
  rw[B,zt];exact Cg.refl _ _
 |[g],f,b=>by
  have d:(1:Z)<(p:Z)^k:=by obtain⟨j,rfl⟩:∃j,k=j+1:=⟨k-1,S⟩;have:=H.hp.1;have C:(0:Z)<(p:Z)^j:=kV S;have R:=iU (S:(1:Z)<=(p:Z)^j) (S:(0:Z)<=p);rw[dK];omega
  have a:(p:Z)∣(p:Z)^k:=by obtain⟨j,rfl⟩:∃j,k=j+1:=⟨k-1,S⟩;rw[dK];exact B1 _ _
  have W:=b.fl;let ⟨X,g2⟩:=b.ok g ax;have o:b7 [g]=G g-1:=rfl;refine⟨J,λi n=>?_,?_⟩
  .have E:i=0:=by simp at n;omega
   subst E;show aG (f.map (cp · ((p:Z)^k)))/\(f.map (cp · ((p:Z)^k))).length=G g/\(fx (f.map (cp · ((p:Z)^k))):Fx p)=fx g/\∀j,cp ((f.map (cp · ((p:Z)^k))).getD j 0) ((p:Z)^k)=(f.map (cp · ((p:Z)^k))).getD j 0;refine⟨wE d b.fm,by rw[cL];omega,?_,λj=>?_⟩
   .have B:(fx f:Fx p)=fx g:=by rw[b.pr,eD,eD,mul_one]
    rw[<-B];refine Ma<|Cg.of λi=>?_;rw[cc,cc,m0 _ S,<-qZ _ a,tR S,qZ _ a]
   .rw[m0 _ S];exact EL<|tR S _
  .show Cg _ (h f) (h (f.map (cp · ((p:Z)^k)))*1);rw[PS.mul_one];exact Cg.of λi=>by rw[cc,cc,m0 _ S,tR S]
 |g::v::r,f,b=>by
  let ⟨x,U⟩:=b.next H P;have F:=VS P (v::r) _ U;have d:(1:Z)<(p:Z)^k:=by obtain⟨j,rfl⟩:∃j,k=j+1:=⟨k-1,S⟩;have:=H.hp.1;have C:(0:Z)<(p:Z)^j:=kV S;have R:=iU (S:(1:Z)<=(p:Z)^j) (S:(0:Z)<=p);rw[dK];omega
  have a:(p:Z)∣(p:Z)^k:=by obtain⟨j,rfl⟩:∃j,k=j+1:=⟨k-1,S⟩;rw[dK];exact B1 _ _
  rw[sB];generalize (tY p k f<|g::v::r).1=m at*;generalize (tY p k f<|g::v::r).2=K at*;refine⟨by rw[fu,F.len];rfl,λi n=>?_,?_⟩
  .cases i with
   |zero=>
    show aG (m.map (cp · ((p:Z)^k)))/\(m.map (cp · ((p:Z)^k))).length=G g/\(fx (m.map (cp · ((p:Z)^k))):Fx p)=fx g/\∀j,cp ((m.map (cp · ((p:Z)^k))).getD j 0) ((p:Z)^k)=(m.map (cp · ((p:Z)^k))).getD j 0
    refine⟨wE d x.Gm,by rw[cL,x.Gl],?_,λj=>?_⟩
    .rw[<-x.Gp];refine Ma<|Cg.of λi=>?_;rw[cc,cc,m0 _ S,<-qZ _ a,tR S,qZ _ a]
    .rw[m0 _ S];exact EL<|tR S _
   |succ i=>exact F.ok i (by simp only[fu]at n⊢;omega)
  .show Cg _ (h f) (h (m.map (cp · ((p:Z)^k)))*jB (sB p k K<|v::r));refine x.pr.trans<|Cg.mul (Cg.of λi=>?_) F.pr;rw[cc,cc,m0 _ S,tR S]
omit H in
def ass{l:V (V Z)}{i:I}(a:i+1<G l):∃b r,aE i l=l.getD i []::b::r/\aE (i+1) l=b::r:=by
 have d:aE i l=l.getD i []::aE (i+1) l:=by rw[lY S,aF,bD S];rfl
 have c:aE (i+1) l=l.getD (i+1) []::aE (i+2) l:=by rw[lY a,aF,bD a];rfl
 exact⟨_,_,by rw[d,c],c⟩
def afy{f:V Z}{l:V (V Z)}(nZ:vt p f l){k u w:I}(k1:1<=k)(kk:k<=1000)(hu:∀i,aw u (Y f i 0))(hw:aw w ((p:Z)^k))(u9:u<=1000)(w9:w<=u)(w1:1<=w):af j 99 [N .z f,N (.sl y6) l,cU p,D k] (N (.sl .z)<|sB p k f l):=by
 have r7:=H.hp.1;have BI:=H.le;have s:(0:Z)<(p:Z)^k:=kV S;have DU:G l<=90:=by have h1:=(Jf (l:=l) λg hg=>(nZ.ok g hg).2).1;have d:=nZ.d9;omega
 refine aD Tryz.func99 ?_;refine e J<|aO J J (Tp p k S S) J<|t<|gR (.sl .z) [] J J (o J<|L<|e J ?_);refine q<|aK (α:=I×V Z×V (V Z)) (λa=>⟨[(0,N .z a.2.1),(1,N (.sl y6) l),(2,cU p),(3,D k),(9,.c<|.P 1003000 0),(10,.c<|.X 2000000),(11,D a.1)],[(1003000,.box 44 0<|av .z<|(p:Z)^k),(2000000,.vec 57 (.sl .z) a.2.2)],4,[]⟩) (λa=>vt p a.2.1 (aE a.1 l)/\a.2.2++sB p k a.2.1 (aE a.1 l)=sB p k f l/\G a.2.2<=a.1/\a.1<=G l/\(l≠[]->a.1<G l)/\∀i,aw u (Y a.2.1 i 0)) (λa=>G l-a.1) (0,f,[]) ⟨nZ,J,a8 _,aW _,λh=>bX.2 h,hu⟩ (wk (aS J) ⟨bE J J,bR J,T⟩) ?_;rintro⟨i,F,m⟩ ⟨B,E,b3,b4,b5,b6⟩;simp only at B E b3 b4 b5 b6;have dF:G F<=91:=by have:=B.fl;have:=B.d9;omega
 refine L<|e J<|z J (λC=>?_)<|λC=>?_
 .have C:i+1<G l:=by have C:(i:Z)+1<(G l:Z):=az C;omega
  let ⟨b,r,e1,M⟩:=ass C;rw[e1]at B E;let ⟨dR,hbz⟩:=B.two H;let ⟨W,B'⟩:=B.next H k1;have Q:=afq H (l:=b::r) (λx hx=>⟨(B.ok x iB).1,by have:=(B.ok x iB).2;omega⟩) (by have:=B'.d9;omega) (by rw[<-M];simp;omega);have R:=ash dR hbz k1 kk b6 hw S S w1;have hE:ft p F (l.getD i []) (iS p (b::r)<|G<|b::r) (yu p (l.getD i [])<|iS p (b::r)<|G<|b::r) (k-1)=tY p k F (l.getD i []::b::r):=rfl;rw[hE]at R;rw[sB]at E;generalize hG:(tY p k F<|l.getD i []::b::r).1=U at*;generalize hK:(tY p k F<|l.getD i []::b::r).2=K at*;have gB:∀i,aw w (Y U i 0):=λi=>by have:=W.Gr i;unfold aw at*;omega
  have kB:∀i,aw u (K.getD i 0):=λi=>by have:=W.Kr i;exact aw.le (by unfold aw at*;omega:aw w (K.getD i 0)) w9
  have gl:G U<=100:=by rw[W.Gl];exact dR.lg
  have n:(1:Z)<(p:Z)^k:=by have:=W.Gr<|G U-1;rw[W.Gm.2]at this;omega
  have v:=Tq U ((p:Z)^k) w S S s gB hw;rw[(wE n W.Gm).trim]at v;have ei:ad ((i:Z))=i:=aV i;have xn:(Y l (ad<|(i:Z))<|ET.cJ<|.sl y6)=l.getD i []:=aC (λg6=>l.getD g6 []) ei;have es:aE (ad<|(i:Z)+1) (y (G l) l)=b::r:=by rw[eE,(S:ad ((i:Z)+1)=i+1),M]
  rw[<-xn]at R;have Q:af j 166 [N (.sl y6) (aE (ad<|(i:Z)+1)<|y (G l) l),cU p] (N y6<|iS p (b::r)<|G<|b::r):=by rw[es];exact Q
  refine ai<|L<|q ?_;refine t<|rc J J Q (rc J J R<|o J ?_) (hp:=ak);refine t<|rc J J v<|rl (.sl .z) [_] J J (ra J J J J J J J J J ?_ ?_<|o J<|rt J ?_)
  .show(G m+1+(G m+1)/4+192)*24<=_;omega
  .show(G m+1)*1<=_;omega
  refine aT<|rt J (hp:=ak)<|aA (i+1,K,m++[U.map (cp · ((p:Z)^k))]) ⟨?_,?_,?_,?_,?_,kB⟩ ?_<|Wk.trans (wk (st':=⟨[(0,N .z K),(1,N (.sl y6) l),(2,cU p),(3,D k),(9,.c<|.P 1003000 0),(10,.c<|.X 6006000),(11,D ((i+1:I):Z))],[(1003000,.box 44 0<|av .z<|(p:Z)^k),(6006000,.vec 57 (.sl .z)<|m++[U.map (cp · ((p:Z)^k))])],16,[]⟩) (aS J)<|jv J)<|Wk.trans (fp 2000000 6006000 J J J) aM
  .show vt p K (aE (i+1) l);rw[M];exact B'
  .show(m++[U.map (cp · ((p:Z)^k))])++sB p k K (aE (i+1) l)=_;rw[M,<-E,jR];rfl
  .show G (m++[_])<=i+1;simp;omega
  .show i+1<=_;omega
  .intro _;exact C
  .show G l-(i+1)<G l-i;omega
 .have C:¬i+1<G l:=by have C:¬(i:Z)+1<(G l:Z):=aL C;omega
  refine aN<|ay<|L<|e J<|z J (λd=>?_)<|λd=>?_
  .have d:0<G l:=by have d:(G l:Z)>0:=az d;omega
   have hi:=b5<|bX.1 d;have e1:aE i l=[l.getD i []]:=by rw[lY S,wX S,aF,bD S];rfl
   rw[e1]at B E;have n:(1:Z)<(p:Z)^k:=by obtain⟨O,rfl⟩:∃O,k=O+1:=⟨k-1,S⟩;have d:(0:Z)<(p:Z)^O:=kV S;have h3:=iU (S:(1:Z)<=(p:Z)^O) (S:(0:Z)<=p);rw[dK];omega
   have v:=Tq F ((p:Z)^k) u S S s b6<|hw.le w9;rw[(wE n B.fm).trim]at v;refine bs<|rc J J v<|rl (.sl .z) [_] J J (ra J J J J J J J J J ?_ ?_<|o J ?_)
   .show(G m+1+(G m+1)/4+192)*24<=_;omega
   .show(G m+1)*1<=_;omega
   refine ay<|cD 6005000 J J J<|e J<|bq J ?_;rw[<-E];rfl
  .have d:l=[]:=et (by have d:¬(G l:Z)>0:=aL d;omega);subst d;refine ai<|cD 2000000 J J J<|e J<|bq J ?_;rw[List.drop_nil]at E;rw[<-E];show N (.sl .z) m=_;rw[sB,iW]
end
end Go.El
namespace Go.El
open Go Go.Proofs Go.RowKit Rx
abbrev vu:C:= .V<|.slice none 0 0
def VT:af j 72 [N .q []] (.t [(ae,[.B ah,vu,.B ah,vu]),(ah,[vu]),(ah,[.I .i64 10])]):=by refine aD Tryz.func72 ?_;exact e J<|L<|e J<|z J (λ_=>e J<|bc<|bt<|atR J)<|λh=>bS
def afz:af j 24 [N .q []] (N .q []):=by
 refine aD Tryz.func24 ?_;refine e J<|aO J J VT J<|e J<|L<|e J ?_;refine q<|aK (α:=Unit) (λ_=>⟨[(6,.c<|.X 20000000),(15,N UT []),(16,D 0),(17,D 0)],[(20000000,.vec 46 .q [])],30,[]⟩) (λ_=>True) (λ_=>0) () T ?_ ?_
 .exact r6 20000000 46 .q ⟨.inr ⟨J,J⟩,.inl ⟨_,J,a7.nil UT⟩,.inl<|sE J J,.inl<|sE J J,T⟩ T J<|eC.of J
 rintro- -;refine e J<|L<|z J (λa=>by cases a)<|λa=>?_;refine aN<|ay ?_;refine t<|nJ 20000000 J (aey (w:=20) A [] A (λx b=>by cases b)) J J<|o J ?_;exact dc (oN 20000000 J)<|e J<|bU J
def afA:af j 22 [N .q []] (cB ah):=by refine aD Tryz.func22 ?_;refine e J<|aO J J VT J ?_;exact t<|rg 14 J J (λh=>bS)<|λ_=>rg 19 J J (λh=>bS)<|λ_=>o J<|bU J
def asu:af j 18 [N .q []] (.a [.B ah,vu,.B ah,vu,vu,.I .i64 10]):=by refine aD Tryz.func18 ?_;exact e J<|aO J J VT J<|e J<|bU J
def Fk:∀l m,m8 (l++m)=m8 l+m8 m
 |[],m=>by rw[sV,m8,dU]
 |x::l,m=>by rw[kU,m8,m8,Fk l m];omega
def yv:∀{l:V (V O×Z)},(∀x∈l,2<=G x.1/\1<=x.2)->G l<=m8 l
 |[],_=>a8 _
 |x::l,a=>by
  have b:=yv (l:=l) λy hy=>a y mV
  let ⟨c,h2⟩:=a x ax;have:=ly (S:1<=ad x.2) (S:1<=G x.1-1);rw[m8,fu];omega
def lD.big{a}{b}(H:lD a b){x}(d:x∈b):2<=G x.1/\1<=x.2:=by let ⟨f,h2,g⟩:=H.ok x d;have c:=h2.1;rw[dH (Ac f).1]at c;exact⟨c,g⟩
def afC{p}(a:Y p (G p-1) 0=1):lx (cV p)=lx p:=by
 let ⟨c,m⟩:=Ac a;have b:p≠[]:=λe=>by rw[e]at a;exact absurd a A
 exact(Oq c b).eq m ((Jk p).2 c) (Jk p).1
def asv{p}{a}(H:lD p a)(b:Y p (G p-1) 0=1)(g:bw (lx p)):a=[(p,1)]:=by
 have d:=Vw H b g (by rw[afC b];exact dvd_refl _);have f:m8 a+1=G p:=(H.wt (Ac b).1).resolve_right λe=>by rw[e]at b;exact absurd b A
 have c:=λx(hx:x∈a)=>H.big hx
 generalize oE p a=n at d;obtain⟨s,t,rfl⟩:=yE d;let ⟨i,k⟩:=c (p,n) ax;have B:=yv (l:=s) λx hx=>c x iB
 have C:=yv (l:=t) λx hx=>c x iB
 rw[Fk,m8]at f;simp only at i k f;have E:1*(G p-1)<=ad n*(G p-1):=eB _ S;have m:s=[]:=et S;have r:t=[]:=et S;have v:n=1:=by
  by_cases e:n=1
  .exact e
  .have F:2*(G p-1)<=ad n*(G p-1):=eB _ S;omega
 rw[m,r,v];rfl
def asw{p}(h:kD p)(a:Y p (G p-1) 0=1)(b:bw (lx p)):af j 22 [N .q p] (cB ae):=by let ⟨fs,f1,f2,f3,f4⟩:=OP h;rw[asv f1 a b]at f4;refine aD Tryz.func22 ?_;refine e J<|aO J J f4 J ?_;exact t<|rg 14 J J (λ_=>rg 19 J J (λ_=>o J<|bU J)<|λh=>bS)<|λh=>bS
def afD{a:V O}(c:kD a):∃b,lD a b/\G b<=8/\(∀x∈b,oD 20 x)/\af j 18 [N .q a] (.a<|av .q (Y a (G a-1) 0)++[.S UT b,.I .i64 0]):=by let ⟨b,f1,f2,f3,f4⟩:=OP c;refine⟨b,f1,f2,f3,?_⟩;refine aD Tryz.func18 ?_;exact e J<|aO J J f4 J<|e J<|bq J J
end Go.El
namespace Go.El
open Go Go.Proofs Go.RowKit
def asx{f}(i:Rx.bY f)(k:f≠[]->kD f):∃R,af j 24 [N .q f] (N .q R)/\(f≠[]->∀r,r∈R↔Rx.X 1-Rx.K r∣Rx.lx f)/\(f=[]->R=[])/\(∀a,a+1<G R->Y R a 0<Y R (a+1) 0)/\G R<=8/\(∀r∈R,QS 20 r)/\R.Nodup:=by
 by_cases b:f=[]
 .subst b;exact⟨[],afz,λh=>absurd J h,λ_=>rfl,λa c=>absurd c<|yV _,aW _,λr d=>(by cases d),List.Pairwise.nil⟩
 .let ⟨fs,f1,f2,f3,f4⟩:=aeA<|k b;have g:=Jt fs;have n:=Fg fs;have l:=g.length_eq;refine⟨rL fs,f4,λ_ r=>art i b f1 r,λe=>absurd e b,λa c=>Vs f1 c,S,λr d=>?_,aeM f1⟩;obtain⟨x,m,_,rfl⟩:=Cf<|g.mem_iff.1 d;exact((f3 x m).q 0).neg
open Fx
def afE{a b}(c:a*b=1):a=1/\b=1:=by have e:=Il.1 ⟨b,c.symm⟩;subst e;omega
def O9:cE 5:=⟨A,λd a b=>by have c:d<=2:=Nat.le_of_lt_succ (Iu λh=>by have:=ly h h;omega);have e:d=2:=S;subst e;decide⟩
def P5:aX 5:=⟨O9,A⟩
def tZ a(b:au (md 5 a)=a):aY 5 a:=by rw[<-b];exact gH A<|pH A _
def Fl:Mon 5 [1,0,1]:=⟨tZ _ J,A,J⟩
def VU{a}(b:Mon 5 a)(f:G a=2):∃c:I,c<5/\a=[(c:Z),1]:=by
 match a,f with
 |[c,d],_=>
  have g:d=1:=b.one
  have i:=b.c.1 0
  have k:0<=c/\c<5:=i
  exact⟨ad c,S,by rw[g,Bc k.1]⟩
def fx5{a b}(c:(fx [1,0,1]:Fx 5)=fx a*fx b):bT a b 5=[1,0,1]:=by have d:(fx (bT a b ((5:I):Z)):Fx 5)=fx [1,0,1]:=(rX a b).trans c.symm;exact pL (je A a b) (tZ _ J) d
def asy{p:I}(a:Fx p):pk a 2=a*a:=by show 1*a*a=_;rw[one_mul]
def VV{p:I}(a:Fx p):pk a 1=a:=by show 1*a=_;rw[one_mul]
def asz{xs}(k:pT 5 (fx [1,0,1]:Fx 5) xs)(R:∀l,l+1<G xs->ic (Y xs l fA).1 (Y xs (l+1) fA).1<0):xs=[([2,1],1),([3,1],1)]:=by
 have f:=(VE P5 xs λx U=>(k.parts x U).1).2;have a:=k.prod;rw[a,bO Fl.c]at f;have f:3=wL xs+1:=f;let ⟨p,v⟩:=k.VF P5 Fl;have p:G xs+1<=3:=p;match xs,p with
 |[],_=>exact absurd f A
 |[(q,n)],_=>
  exfalso
  let ⟨c1,B,C,i,E,F⟩:=v (q,n) ax
  have f:3=(G q-1)*ad n+0+1:=f
  have C:G q<=3:=C
  have F:n+1<=3:=F
  simp only at c1 B i E
  have a:pk (fx q) (ad n)*1=(fx [1,0,1]:Fx 5):=a
  rw[mul_one]at a
  by_cases e:G q=3
  .have g:ad n=1:=by rw[e]at f;omega
   rw[g,VV]at a;rw[a]at i;have W:(fx [1,0,1]:Fx 5)=fx [2,1]*fx [3,1]:=by rw[<-rX];rfl
   have w:sz (fx [2,1]:Fx 5)=2:=bO<|tZ _ J;have s2:sz (fx [3,1]:Fx 5)=2:=bO<|tZ _ J;have:=i.2 _ _ W;omega
  .have e:G q=2:=by omega
   have g:ad n=2:=by rw[e]at f;omega
   obtain⟨c,H,rfl⟩:=VU c1 e;rw[g,asy]at a;have:=fx5 a.symm;revert this;have:∀c:Fin 5,¬bT [((c:I):Z),1] [((c:I):Z),1] 5=[1,0,1]:=A;exact this ⟨c,H⟩
 |[(q,n),(r,m)],_=>
  let ⟨c1,B,C,i,E,F⟩:=v (q,n) ax
  let ⟨d1,d2,d3,d4,d5,d6⟩:=v (r,m) ax
  have f:3=(G q-1)*ad n+((G r-1)*ad m+0)+1:=f
  simp only at c1 B E d1 d2 d5
  have y:=ly (S:1<=G q-1) (S:1<=ad n)
  have z:=ly (S:1<=G r-1) (S:1<=ad m)
  have X:(G q-1)*ad n=1:=S
  have j:(G r-1)*ad m=1:=S
  let ⟨D,L⟩:=afE X
  let ⟨M,N⟩:=afE j
  have g:n=1:=S
  have o:m=1:=S
  subst g o
  obtain⟨c,H,rfl⟩:=VU c1 S
  obtain⟨d,s,rfl⟩:=VU d1 S
  have a:pk (fx [(c:Z),1]) 1*(pk (fx [(d:Z),1]) 1*1)=(fx [1,0,1]:Fx 5):=a
  rw[mul_one,VV,VV]at a
  have u:=fx5 a.symm
  have K:=R 0<|di 1
  have K:ic [(c:Z),1] [(d:Z),1]<0:=K
  have:∀c d:Fin 5,bT [((c:I):Z),1] [((d:I):Z),1] 5=[1,0,1]->ic [((c:I):Z),1] [((d:I):Z),1]<0->(c:I)=2/\(d:I)=3:=A
  let ⟨P,Q⟩:=this ⟨c,H⟩ ⟨d,s⟩ u K
  have P:c=2:=P
  have Q:d=3:=Q
  subst P Q
  rfl
 |_::_::_::_,b=>exact absurd b ax
def asA:LiB 5 [1,0,1] [[2,1],[3,1]] 2 1:=by
 have c:∀i,i<2->(([[2,1],[3,1]]:V (V Z)).getD i [])=[2,1]/\i=0\/(([[2,1],[3,1]]:V (V Z)).getD i [])=[3,1]/\i=1:=λi b=>by
  match i,b with
  |0,_=>exact .inl ⟨J,J⟩
  |1,_=>exact .inr ⟨J,J⟩
 refine⟨⟨⟨O9,A,A,λi b=>?_,λi b=>?_,λi b=>?_,λi b=>?_⟩,A,A,A,A,λi=>?_,A⟩,A,A,A,J,λi b=>?_,λi b=>?_,λi b=>?_,A⟩
 .rcases c i b with⟨e,_⟩|⟨e,_⟩<;>rw[e]<;>exact tZ _ J
 .rcases c i b with⟨e,_⟩|⟨e,_⟩<;>rw[e]<;>decide
 .rcases c i b with⟨e,_⟩|⟨e,_⟩<;>rw[e]<;>decide
 .match i,b with
  |0,_=>
   have e:dM 5 (λi=>([[2,1],[3,1]]:V (V Z)).getD i []) 0 2=[1]:=A
   show fU _ (h<|dM 5 (λi=>([[2,1],[3,1]]:V (V Z)).getD i []) 0 2) _
   rw[e]
   exact(Hp O9 A (tZ [1] J)<|tZ [2,1] J).1 A
  |1,_=>
   have e:dM 5 (λi=>([[2,1],[3,1]]:V (V Z)).getD i []) 1 2=[4]:=A
   show fU _ (h<|dM 5 (λi=>([[2,1],[3,1]]:V (V Z)).getD i []) 1 2) _
   rw[e]
   exact(Hp O9 A (tZ [4] J)<|tZ [3,1] J).1 A
 .match i with
  |0=>exact aw.one A
  |1=>exact aw.one A
  |2=>exact aw.one A
  |i+3=>exact aw.one (a:=0) A
 .rcases c i b with⟨e,_⟩|⟨e,_⟩<;>rw[e]<;>rfl
 .match i,b with
  |0,_=>exact⟨tZ [1] J,A,A⟩
  |1,_=>exact⟨tZ [2,1] J,A,A⟩
  |2,_=>exact⟨tZ [1,0,1] J,A,A⟩
 .match i,b with
  |0,_=>decide
  |1,_=>decide
end Go.El
namespace Go.El
open Go Go.Proofs Go.RowKit
section
variable{n:I}{sl sl':V (I×AV)}{mem mem':V (I×aH)}{nx:I}{gd gd':V (I×Bool)}{ops:Array Oper}{draw:Bool}{p:Pr}{ks dd:V Ks}{i i' n0 bQ:I}
variable{R:St->Prop}{os:V Oper}{d:I}{ty:TypeId}{pos:String}{hJ:Array Edge}{dm:V Oper}
def Jx l xs{m f:I}{a}{F r}{g b}(P:runs dD n nx draw ops.toList os i ⟨sl,mem,n0,gd⟩ .t ks=(⟨some d,.buildSlice m f a,ty,pos,hJ,some (F,g)⟩::dm,i',⟨sl',mem',bQ,gd'⟩,p,dd))(Q:vH ops.toList F=some r)(U:w r sl'=some (.c<|.B b))(v:b=g){E}{H}(W:AJ dD ⟨sl',mem',bQ,gd'⟩ m f a.toList=some (E,H,xs.flatMap<|av l))
  (hk:RG j n ops draw nx (i'+1) dm ⟨(d,.c<|.S l xs)::sl',mem',bQ,gd'⟩ (ff draw dd (.s r::cH (Op.buildSlice m f a).operands.toList,[.s d])) R) (hT:H.size=l.n:=by rfl) (xm:G xs=f:=by rfl) (AK:Nat.ble (f*l.n) 16777216=ae:=by rfl)
  (hp:p:=by exact lW) (x:Nat.blt d n=ae:=by rfl):RG j n ops draw nx i os ⟨sl,mem,n0,gd⟩ ks R:=
 jI a6 P hp (k7 (λK=>J' K J Q U v<|Xj (ops:= #[⟨some d,.buildSlice m f a,ty,pos,hJ,none⟩]) (i:=0) J J J (cY x) _ Qc<|λ_ _ _ _ _ _ k C=>Qb a6 k J hT xm (cY AK) W C)<|jH hk)
end
def asB:af j 12 [N u [1,0,1],cU 5] (.t [(ah,[.S MT [([2,1],1),([3,1],1)]]),(ah,[.I .i64 0])]):=by
 have a:au (md ((5:I):Z) [1,0,1])=[1,0,1]:=A;have b:jL ((5:I):Z) [1,0,1]=[1,0,1]:=A;have d:pT 5 (Fx.fx [1,0,1]) (pS P5 3 [1,0,1] 1 []):=ami P5 Fl A;have g:=d.VF P5 Fl;have f:Ci P5 [1,0,1]=pS P5 3 [1,0,1] 1 []:=by unfold Ci;rw[a,b];rfl
 have k:pT 5 (Fx.fx [1,0,1]) (O0 P5 [1,0,1]):=by
  unfold O0;rw[f];by_cases e:G (pS P5 3 [1,0,1] 1 [])=0
  .rw[e];exact d
  .exact d.perm<|SY _ _ S
 have m:G (O0 P5 [1,0,1])=G (Ci P5 [1,0,1]):=Ev _ _;have h:=arN P5 A [1,0,1] A (λi=>(Fl.c.1 i).1) (by rw[a];decide) (by rw[a,b];exact Fl) (by rw[a,b];decide) (by rw[f];have:_+1<=3:=g.1;omega) (λx l=>by rw[f]at l;have:G x.1<=3:=(g.2 x l).2.2.1;omega);rwa[asz k λt n=>arS k.ds S]at h
def asC:af j 29 [N .z [1,0,1],N (.sl u) [[2,1],[3,1]],cU 5,D 2] (.t [(ah,[.S (.sl .z) [[7,1],[-7,1]]]),(ah,[.I .i64 0])]):=by have h:=an7 asA;have e:tM 5 [1,0,1] (λi=>([[2,1],[3,1]]:V (V Z)).getD i []) (G ([[2,1],[3,1]]:V (V Z))) 2=[[7,1],[-7,1]]:=A;rwa[e]at h
def VW{b}(a:G b<=1000)(c:∀x∈b,0<=x/\x<4294967296)(d:au b=b):af j 40 [N u b] (N .z b):=by
 have h:=To b a λi=>by
  rw[aF];by_cases h:i<G b
  .rw[bD h];exact c _<|j6 h
  .rw[lG S];decide
 rwa[d]at h
def VX{l}{a}(b:∀x∈l,-128<=x/\x<=127)(c:jd l 4=a):af j 17 [N I8 l,D 4] (N .q a):=c▸Yv l 4 A b
def VY k{u}(a:[k*k+1,-(k+k),1]=u):Y u (G u-1) 0=1/\Rx.bw (Rx.lx u):=by subst a;exact⟨J,arF k⟩
def asD{b}(H:lD [4,0,0,0,1] b):b=[([2,-2,1],1),([2,2,1],1)]:=by
 let ⟨u1,u2⟩:=VY 1 (u:=[2,-2,1]) xJ;let ⟨v1,v2⟩:=VY (-1) (u:=[2,2,1]) xJ;have F:Rx.bY [4,0,0,0,1]:=Or.inr OT;have r:Rx.lx [4,0,0,0,1]=Rx.lx [2,-2,1]*Rx.lx [2,2,1]:=by have h:=aeI [2,-2,1] [2,2,1] 3 (a8 _);have e:Js [2,-2,1] [2,2,1] 3=[4,0,0,0,1]:=xJ;rw[e]at h;exact h
 have v:Rx.lx (cV [4,0,0,0,1])=Rx.lx [4,0,0,0,1]:=afC J;have d:=Vw H u1 u2 (by rw[v,r];exact Rx.dvd_mul_right _ _);have mv:=Vw H v1 v2 (by rw[v,r];exact Rx.dvd_mul_left _ _);have B:m8 b+1=5:=(H.wt F).resolve_right A;have a:=λx(hx:x∈b)=>H.big hx
 have f:=H.OJ;generalize oE [2,-2,1] b=n at d;generalize oE [2,2,1] b=m at mv;have X:1<=n:=(a _ d).2;have j:1<=m:=(a _ mv).2;have C:∀(k:Z) l,m8 ((([2,-2,1]:V O),k)::l)=ad k*2+m8 l:=λk l=>rfl
 have E:∀(k:Z) l,m8 ((([2,2,1]:V O),k)::l)=ad k*2+m8 l:=λk l=>rfl
 obtain⟨s,t,rfl⟩:=yE d;rcases b8.1 mv with h|h
 .exfalso;obtain⟨c,s2,rfl⟩:=yE h;have K:=yv (l:=c) λx hx=>a x iB
  have P:=yv (l:=s2) λx hx=>a x iB
  have Q:=yv (l:=t) λx hx=>a x iB
  rw[Fk,Fk,C,E]at B;have g:c=[]:=et S;have i:s2=[]:=et S;have p:t=[]:=et S;subst g i p;have R:0<=ik [2,-2,1] [2,2,1]:=f 0<|Oj;exact absurd R xJ
 .rcases df.1 h with h|h
  .exact absurd (aC (λx:V O×Z=>Y x.1 1 0) h) (A:¬(2:O)= -2)
  .obtain⟨c,s2,rfl⟩:=yE h;have K:=yv (l:=c) λx hx=>a x iB
   have P:=yv (l:=s2) λx hx=>a x iB
   have Q:=yv (l:=s) λx hx=>a x iB
   rw[Fk,C,Fk,E]at B;have g:c=[]:=et S;have i:s2=[]:=et S;have p:s=[]:=et S;have U:n=1:=S;have W:m=1:=S;subst g i p U W;rfl
def asE{R}(a:∀r,r∈R↔ss [-2,1,1] r 3=0)(i:R.Nodup)(k:∀d,d+1<G R->Y R d 0<Y R (d+1) 0):R=[-2,1]:=by
 have a:∀r,r∈R↔r= -2\/r=1:=λr=>by
  rw[a r];show((0*r+1)*r+1)*r+ -2=0↔_;constructor
  .intro e;have e:(r- -2)*(r-1)=0:=by grind
   rcases zM.1 e with e|e
   .left;grind
   .right;grind
  .rintro(rfl|rfl)<;>decide+kernel
 have f:=(a<| -2).2<|.inl J;have g:=(a 1).2<|.inr J;have l:=aeN i (m:=[-2,1]) λx n=>by rcases(a x).1 n with rfl|rfl<;>simp
 match R,l with
 |[],_=>cases f
 |[x],_=>
  have p:=iu.1 f
  rw[<-p]at g
  exact absurd (iu.1 g) A
 |[x,y],_=>
  have c:x<y:=k 0<|di 1
  rcases(a x).1 ax with rfl|rfl<;>rcases(a y).1 ax with rfl|rfl
  .exact absurd c A
  .rfl
  .exact absurd c A
  .exact absurd c A
 |_::_::_::_,b=>exact absurd b ax
def asF{k}a(b:QS k a)(c:k<=100000):af j 20 [aQ a,aQ a] (cB ae):=by have:=OR (k:=k) a a b S;rwa[jU J]at this
def asG:af j 9 [] (cB ae):=by
 have f:jd [4,0,0,0,1] 4=[4,0,0,0,1]:=xJ;have g:jd [-2,1,1] 4=[-2,1,1]:=xJ;have m:jd [1,0,1] 4=[1,0,1]:=xJ;have W:=OV (l:=[4,0,0,0,1]) (most:=4) A (by rw[f];decide);have d:=OV (l:=[-2,1,1]) (most:=4) A (by rw[g];decide);have X:=OV (l:=[1,0,1]) (most:=4) A (by rw[m];decide);rw[f]at W;rw[g]at d;rw[m]at X;let ⟨fs,w1,_,_,s⟩:=afD W;rw[asD w1]at s;let ⟨R,r1,y,_,D,_,_,G⟩:=asx d.can λ_=>d
 have I:R=[-2,1]:=asE (λr=>(y d.ne r).trans (aeP _ r).symm) G D;rw[I]at r1;let ⟨i1,i2⟩:=VY 0 (u:=[1,0,1]) xJ;have M:=asw X i1 i2;have N:QS 1 (-2:O):=⟨aw.one A,aw.one A⟩;have c:=asF (k:=1) (-2) N A;have w:=A' (-2) A A;have n:=LZ [2,1] [2,1] A;have p:=LZ [3,1] [3,1] A;have v:=VW (b:=[1,0,1]) A A A;have x:=VW (b:=[7,1]) A A A;have B:=VW (b:=[1,2]) A A A;have C:∀i,aw 1 (Y ([7,1]:V Z) i 0):=λi=>match i with
  |0=>aw.one A
  |1=>aw.one A
  |i+2=>aw.one (a:=0) A
 have E:=abU [7,1] [7,1] A (λi=>(C i).sm A);have F:=S9 [1,2] 1 A A (λi=>match i with
  |0=>aw.one A
  |1=>aw.one A
  |i+2=>aw.one (a:=0) A)
 have H:=kp 6 A A;have K:=Tr 6 6<|(aw.one (a:=6) A).sm A;have P:=VX (l:=[4,0,0,0,1]) A f;have Q:=VX (l:=[-2,1,1]) A g;have U:=VX (l:=[1,0,1]) A m;have S:=afA.a1<|a7.nil .q;refine aD Tryz.func9 ?_;refine e J<|t<|rl u [1,0,1] J J (rc J J asB<|o J<|L ?_);refine t<|rg 14 J J (λh=>bS)<|λ_=>rg 19 J J (λh=>bS)<|λ_=>rg 26 J J (λh=>bS)<|λ_=>?_;refine Jx u [2,1] J J J J J (eI J J J J J n<|rg 35 J J (λh=>bS)<|λ_=>?_);refine Jx u [3,1] J J J J J (eI J J J J J p<|o J<|z J (λh=>bS)<|λ_=>ai ?_);refine t<|rl u [1,0,1] J J (rc J J v<|rl u [2,1] J J (rl u [3,1] J J (rl (.sl u) [[2,1],[3,1]] J J (rc J J asC<|o J<|L ?_))));refine t<|rg 55 J J (λh=>bS)<|λ_=>rg 60 J J (λh=>bS)<|λ_=>?_;refine Jx u [7,1] J J J J J (eI J J J J J x<|eI J J J J J E<|o J<|z J (λh=>bS)<|λ_=>ai ?_);refine t<|rl I8 [4,0,0,0,1] J J (rc J J P<|rc J J s<|o J<|L ?_);refine t<|rg 75 J J (λh=>bS)<|λ_=>rg 81 J J (λh=>bS)<|λ_=>rg 90 J J (λh=>bS)<|λ_=>?_;refine eI J J J J J w<|eI J J J J J c<|o J<|z J (λh=>bS)<|λ_=>ai ?_;refine t<|rl I8 [-2,1,1] J J (rc J J Q<|rc J J r1<|o J ?_);refine t<|rg 108 J J (λ_=>?_)<|λh=>bS;refine eI J J J J J w<|eI J J J J J c<|rg 115 J J (λ_=>?_)<|λh=>bS;refine Jx u [1,2] J J J J J (eI J J J J J B<|eI J J J J J F<|eI J J J J J H<|eI J J J J J K<|rg 122 J J (λ_=>?_)<|λh=>bS);refine Jx I8 [1,0,1] J J J J J (eI J J J J J U<|eI J J J J J M<|rg 127 J J (λ_=>?_)<|λh=>bS);exact eI J J J J J S<|o J<|bU J
def asH a b:cX (a.num*(b.den:Z)) (b.num*(a.den:Z))=eK a b:=by
 have f:=Im a b;have d:=Im b a;unfold cX eK;by_cases c1:a<b
 .rw[s c1,s<|f.1 c1]
 .rw[M c1,M<|λh=>c1<|f.2 h];by_cases c:b<a
  .rw[s c];first|rw[s (d.1 c)]|rw[M (by have:=d.1 c;omega)]
  .rw[M c];first|rw[M (λh=>c<|d.2 h)]|rw[s (by have:=mt d.2 c;have:=mt f.2 c1;omega)]
def asI{k}(r:k<=100000) a b(v:G a<=1000)(x:G b<=1000)(m:∀i,QS k (Y a i 0))(n:∀i,QS k (Y b i 0)):af Tryz.prog 48 [N .q a,N .q b] (cB<|decide<|ik a b<0):=by
 refine aD Tryz.func48 ?_;refine e J<|L<|e J<|z J (λh=>?_)<|λh=>ai ?_
 .have h:=nN h;refine e J<|bc<|bt<|c9 J<|aC cB ?_;rw[ik,s S,jg];refine decide_eq_decide.2 ⟨λd=>by rw[s d];decide,λd=>?_⟩;split at d
  .assumption
  .split at d<;>omega
 .have h:(G a:Z)=(G b:Z):=nO h;rw[show ik a b=mh a b (G a)by rw[ik,M S]];refine L<|e J ?_;refine q<|aK (α:=I) (λk=>⟨[(0,N .q a),(1,N .q b),(5,D<|(k:Z)-1)],[],4,[]⟩) (λk=>k<=G a/\mh a b (G a)=mh a b k) (λk=>k) (G a) ⟨a8 _,J⟩ aM ?_;rintro i ⟨B,hc⟩;refine L (e J<|z J (λf=>?_)<|λf=>?_)
  .have f:0<i:=by have f:(i:Z)-1>=0:=az f;omega
   obtain⟨j,rfl⟩:∃j,i=j+1:=⟨i-1,S⟩;have p:ad (((j+1:I):Z)-1)=j:=S;have l:af Tryz.prog 55 [aQ (Y a (ad<|((j+1:I):Z)-1) 0),aQ<|Y b (ad<|((j+1:I):Z)-1) 0] (D<|eK (Y a j 0)<|Y b j 0):=by rw[p,<-asH];exact ari (k:=k) _ _ (m _) (n _) S
   rw[mh]at hc;rw[hc];generalize eK (Y a j 0) (Y b j 0)=g at*;refine ai<|L<|q<|t<|rc J J l (o J<|z J (λc=>?_)<|λc=>bN<|aT ?_) (hp:=ak)
   .have c:g≠0:=bne_iff_ne.1 c;refine t<|rc J J l (o J<|bc ?_) (hp:=ak);repeat(first|refine bt ?_|refine eH ?_|refine gf ?_)
    refine c9 J ?_;rw[s c]
   .have c:g=0:=by
     have c:(g !=0)=ah:=c;by_cases d:g=0
     .exact d
     .rw[bne_iff_ne.2 d]at c;cases c
    refine rt J (hp:=ak)<|aA j ⟨S,?_⟩ ni<|wk ⟨sR J,sR J,sE J ?_,T⟩ T
    .exact M<|λd=>d c
    .exact gh (S:((j+1:I):Z)-1-1=(j:Z)-1)
  .have f:i=0:=by have f:¬(i:Z)-1>=0:=aL f;omega
   subst f;rw[hc];exact aN<|ay<|e J<|bU J
open Rx
def asJ{a b}(c:eK a b=0):a=b:=by
 unfold eK at c;split at c
 .cases c
 .rename_i d;split at c
  .cases c
  .rename_i f;exact O' (Fb.1 f)<|Fb.1 d
def afG{a b:V O}:∀k,mh a b k=0->∀i,i<k->Y a i 0=Y b i 0
 |0,_,i,g=>absurd g<|yV _
 |k+1,d,i,g=>by
  rw[mh]at d;by_cases c:eK (Y a k 0) (Y b k 0)=0
  .rw[M (λf=>f c)]at d;by_cases f:i=k
   .rw[f];exact asJ c
   .exact afG k d i S
  .rw[s c]at d;exact absurd d c
def asK{a b}(d:ik a b=0):a=b:=by
 unfold ik at d;by_cases c:G a=G b
 .rw[M (λe=>e c)]at d;refine Rx.abm c λj=>?_
  by_cases f:j<G a
  .exact afG _ d j f
  .rw[Rx.kv a S,Rx.kv b S]
 .rw[s c]at d;have:=VG d;omega
end Go.El
namespace Go.El
open Go Go.Proofs Go.RowKit
def asL l x(hl:G l<=1000)(Q:oD 20 x)(U:∀n∈l,oD 20 n):af j 75 [N UT l,.a<|av UT x] (N UT<|sA ([],0) (λn=>decide<|ik x.1 n.1<0) x l):=by
 refine aD Tryz.func75 ?_;have v:=VM ([],0) (λn=>decide<|ik x.1 n.1<0) x l;have W:=VL ([],0) (λn=>decide<|ik x.1 n.1<0) x l;generalize F:j4 ([],0) (λn=>decide<|ik x.1 n.1<0) x l=d at*;refine e J<|t<|gR UT [] J J (o J<|e J<|L<|e J ?_);refine q<|aK (α:=I) (λi=>⟨[(0,N UT l),(3,.c<|.P 0 0),(5,.c<|.X 1000000),(6,cB (d i).1),(7,D i)],[(0,.box 80 0<|av UT x),(1000000,.vec 80 UT (d i).2)],4,[]⟩) (λi=>i<=G l) (λi=>G l-i) 0 (aW _) (by rw[<-F];exact(wk (aS J) ⟨bE J J,bR J,T⟩)) ?_;intro i O;have B:=v i;have s:(d i).2.length<=1001:=by split at B<;>omega
 refine L<|e J<|z J (λh1=>?_)<|λh1=>?_
 .have h1:i<G l:=by have h1:(i:Z)<(G l:Z):=az h1;omega
  have u:ad ((i:Z))=i:=aV i;have H:(Y l (ad<|(i:Z))<|ET.cJ UT)=Y l i ([],0):=aC (λw=>Y l w ([],0)) u;have R:=U (Y l i ([],0)) z8;have K:=asI (k:=20) A x.1 (Y l i ([],0)).1 Q.l R.l Q.q R.q;have f:=W i;have C:=v<|i+1;rw[<-H]at*;obtain⟨V,g⟩:∃V,V=if(!(d i).1&&decide (ik x.1 (Y l (ad<|(i:Z))<|ET.cJ UT).1<0))=ae then(d i).2++[x]else(d i).2:=⟨_,J⟩
  have E:(d<|i+1).2=V++[Y l (ad<|(i:Z)) (ET.cJ UT)]:=by rw[f,g];split<;>rfl
  have M:G V<=1001:=by rw[E,fO,wK]at C;split at C<;>omega
  refine ai<|L<|q ?_;refine oq ⟨[(0,N UT l),(3,.c<|.P 0 0),(5,.c<|.X 1000000),(6,cB (d<|i+1).1),(7,D i)],[(0,.box 80 0<|av UT x),(1000000,.vec 80 UT V)],8,[]⟩ ?_<|λp=>t<|rg 17 J J (λb=>?_)<|λb=>?_
  .refine bs (rl UT [_] J J (ra J J J J J J J J J ?_ ?_<|o J ?_) (hp:=ak))
   .show(_+1+(_+1)/4+192)*32<=_;omega
   .show(_+1)*2<=_;omega
   refine aT<|rt J<|aA (i+1) h1 xI<|Wk.trans (wk (st':=⟨[(0,N UT l),(3,.c<|.P 0 0),(5,.c<|.X 8006000),(6,cB (d<|i+1).1),(7,D ((i+1:I):Z))],[(0,.box 80 0<|av UT x),(8006000,.vec 80 UT (d<|i+1).2)],16,[]⟩) (aS J) ⟨bR J,bE J ?_,T⟩)<|Wk.trans (fp 1000000 8006000 J J J) aM;rw[E]
  .have b:(d i).1=ah:=by
    cases r:(d i).1
    .rfl
    .rw[r]at b;cases b
   refine eI J J J J J K (o J<|z J (λm=>?_)<|λm=>?_) (hp:=ak)
   .have m:decide (ik x.1 (Y l (ad<|(i:Z))<|ET.cJ UT).1<0)=ae:=m;rw[b,m]at g;rw[b,m]at f;have g:V=(d i).2++[x]:=g;refine t (rl UT [x] J J (ra J J J J J J J J J ?_ ?_<|o J ?_))
    .show(_+1+(_+1)/4+192)*32<=_;omega
    .show(_+1)*2<=_;omega
    refine rt J<|fH p<|Wk.trans (wk (st':=⟨[(0,N UT l),(3,.c<|.P 0 0),(5,.c<|.X 6003000),(6,cB (d<|i+1).1),(7,D i)],[(0,.box 80 0<|av UT x),(6003000,.vec 80 UT V)],8,[]⟩) ⟨sR J,sR J,sR J,sE J ?_,sR J,T⟩ ⟨bR J,bE J ?_,T⟩)<|Wk.trans (fp 1000000 6003000 J J J) aM
    .rw[f];rfl
    .rw[g]
   .have m:decide (ik x.1 (Y l (ad<|(i:Z))<|ET.cJ UT).1<0)=ah:=m;rw[b,m]at g;rw[b,m]at f;have g:V=(d i).2:=g;refine bN (fH p<|wk ⟨sR J,sR J,sR J,sE J ?_,sR J,T⟩ ⟨bR J,bE J ?_,T⟩)
    .rw[f,b];rfl
    .rw[g]
  .have b:(d i).1=ae:=by
    cases r:(d i).1
    .rw[r]at b;cases b
    .rfl
   rw[b]at g;rw[b]at f;have g:V=(d i).2:=g;refine o J<|z J (λm=>by cases m)<|λm=>bN<|fH p<|wk ⟨sR J,sR J,sR J,sE J ?_,sR J,T⟩ ⟨bR J,bE J ?_,T⟩
   .rw[f,b];rfl
   .rw[g]
 .have h1:i=G l:=by have h1:¬(i:Z)<(G l:Z):=aL h1;omega
  subst h1;refine aN<|ay<|L<|e J<|z J (λb=>?_)<|λb=>?_
  .have b:(d<|G l).1=ah:=by
    cases r:(d<|G l).1
    .rfl
    .rw[r]at b;cases b
   refine bs<|rl UT [x] J J (ra J J J J J J J J J ?_ ?_<|o J ?_)
   .show(_+1+(_+1)/4+192)*32<=_;omega
   .show(_+1)*2<=_;omega
   refine ay<|cD 6003000 J J J<|e J<|bq J ?_;unfold sA;rw[F,b];rfl
  .have b:(d<|G l).1=ae:=by
    cases r:(d<|G l).1
    .rw[r]at b;cases b
    .rfl
   refine ai<|cD 1000000 J J J<|e J<|bq J ?_;unfold sA;rw[F,b];rfl
def afH a n(Q:n<=1000)(R:G a<=13)(v:∀i,aw n (Y a i 0)):af j 34 [N .z a] (aZ ((cO a:I):Z)):=by
 refine aD Tryz.func34 ?_;have x:∀i,i<=G a->aw (n+1) ((jV a i:I):Z):=λi C=>Io a v S
 have r:∀b,b<=12->aw (n+2) ((jV a (G a)*2^b:I):Z):=λb E=>by have f:=x (G a)<|a8 _;have m:2^b<=2^12:=fG A E;unfold aw at*;rw[lO]at*;have d:jV a (G a)*2^b<=jV a (G a)*2^12:=jw _ m;rw[fy];generalize (4294967296:I)^(n+1)=M at*;omega
 refine e J<|aO J J (kp 0 A A) J<|L<|e J ?_;refine q<|aK (α:=I) (λi=>⟨[(0,N .z a),(2,.c<|.P 0 0),(3,.c<|.P 1001000 0),(4,D i)],[(0,.box 44 0 [.B ah,.V<|.slice none 0 0]),(1001000,.box 44 0<|av .z ((jV a i:I):Z))],3,[]⟩) (λi=>i<=G a) (λi=>G a-i) 0 (aW _) (wk (aS J) ⟨bE J J,bE J J,T⟩) ?_;intro i C;refine L<|e J<|z J (λh=>?_)<|λh=>?_
 .have h:i<G a:=by have h:(i:Z)<(G a:Z):=az h;omega
  have p:ad ((i:Z))=i:=aV i;have F:=vV<|Y a (ad<|(i:Z)) 0;have f:=((x i C).sm S);have m:=(v<|ad<|(i:Z)).sm (by omega:n<=1099511627776);have g:=Q5 _ _ f m;have k:=zc _ _ f m;have l:((jV a (i+1):I):Z)=((jV a i:I):Z)+(aq (Y a i 0):Z):=by rw[jV,uG]
  refine ai<|L<|q ?_;refine t<|rc J J F (o J<|z J (λd=>?_)<|λd=>?_) (hp:=ak)
  .have d:cq (Y a (ad<|(i:Z)) 0)<0:=az d;rw[Ii,p]at d;refine bs<|rc J J g (o J<|aT<|rt J (hp:=ak)<|aA (i+1) h ka<|wk (aS J) ⟨bE J J,bE J ?_,T⟩) (hp:=ak);rw[l,(S:(aq (Y a i 0):Z)= -(Y a i 0)),p];rfl
  .have d:¬cq (Y a (ad<|(i:Z)) 0)<0:=aL d;rw[Ii,p]at d;refine bs<|rc J J k (o J<|aT<|rt J (hp:=ak)<|aA (i+1) h ka<|wk (aS J) ⟨bE J J,bE J ?_,T⟩) (hp:=ak);rw[l,(S:(aq (Y a i 0):Z)=Y a i 0),p];rfl
 .have h:i=G a:=by have h:¬(i:Z)<(G a:Z):=aL h;omega
  subst h;refine aN<|ay<|L<|e J ?_;refine q<|aK (α:=I) (λb=>⟨[(0,N .z a),(2,.c<|.P 0 0),(3,.c<|.P 1001000 0),(5,D ((b+1:I):Z))],[(0,.box 44 0 [.B ah,.V<|.slice none 0 0]),(1001000,.box 44 0<|av .z ((jV a (G a)*2^b:I):Z))],8,[]⟩) (λb=>b<=G a-1) (λb=>G a-b) 0 (aW _) (wk (aS J) ⟨bE J J,bE J ?_,T⟩) ?_
  .rw[oo,kI]
  intro b E;refine L<|e J<|z J (λh=>?_)<|λh=>?_
  .have h:b+1<G a:=by have h:((b+1:I):Z)<(G a:Z):=az h;omega
   have f:=((r b S).sm S);refine ai<|L<|q<|bs<|rc J J (zc _ _ f f)<|o J<|aT<|rt J (hp:=ak)<|aA (b+1) S (S:G a-(b+1)<G a-b)<|wk (aS J) ⟨bE J J,bE J ?_,T⟩;rw[fy,<-uG,<-Nat.two_mul,fR 2,xL];rfl
  .have h:¬((b+1:I):Z)<(G a:Z):=aL h;have H:b=G a-1:=S;subst H;exact aN<|ay<|e J<|bq J J
def sC(f:V Z)(k:I):Z:=if k=G f-1 then 1 else Y f k 0*Y f (G f-1) 0^(G f-2-k)
def Pa(f:V Z):V Z:=(List.range<|G f).map<|sC f
def asM f(E:1<=G f)(F:G f<=12)(r:∀i,aw 210 (Y f i 0)):af Tryz.prog 143 [N .z f] (N .z<|Pa f):=by
 refine aD Tryz.func143 ?_;obtain⟨n,B⟩:∃n,G f=n+1:=⟨G f-1,S⟩;have d:nA (sC f) 0 (G f) (G f)=Pa f:=U9 _ _ _;have g:∀k,k<=12->aw 2600 (Y f n 0^k):=λk C=>((r n).pow k).le (by have:=jw 210 C;omega)
 refine e J<|e J<|t<|rm .z (G f) J J J J J J xr ?_ ?_ ?_<|o J ?_
 .show(G f:Z)-1+1=(G f:Z);omega
 .show G f*32<=_;omega
 .show G f*2<=_;omega
 refine t<|rc J J (kp 1 A A)<|jx (T:= .z) (1:Z) J J J J J ?_ (o J ?_) (hp:=?_)
 .rw[fo];omega
 .refine aO J J (kp 1 A A) J<|L<|e J ?_;refine q (aK (α:=I) (λj=>⟨[(0,N .z f),(3,D n),(4,.c<|.X 2002000),(5,.c<|.P 4001000 0),(6,D<|(n:Z)-1-j)],[(2002000,.vec 44 .z<|nA (sC f) 0 (G f)<|j+1),(4001000,.box 44 0<|av .z<|Y f n 0^j)],8,[]⟩) (λj=>j<=n) (λj=>n-j) 0 (aW _) (wk ⟨sR J,sE J ?_,sR J,sR J,sE J ?_,T⟩ ⟨bE J ?_,bE J ?_,T⟩) ?_)
  .exact aC D (S:(G f:Z)-1=n)
  .exact aC D (S:(G f:Z)-1-1=(n:Z)-1-(0:I))
  .refine aC (aH.vec 44 .z) ?_;rw[U8 (sC f) 0 (G f),(S:ad ((G f:Z)-1)=G f-1-0),<-OH (sC f) 0 (S:0<G f)];congr 1;show(1:Z)=sC f (G f-1-0);rw[sC,s S]
  .rw[oQ];rfl
  intro j H;refine L<|e J<|z J (λa=>?_)<|λa=>?_
  .have a:j<n:=by have a:(n:Z)-1-(j:Z)>=0:=az a;omega
   have x:ad ((n:Z)-1-(j:Z))=G f-1-(j+1):=S;have b:=g j S;have l:=lL (Y f (ad<|(n:Z)-1-(j:Z)) 0) (Y f n 0^j) ((r _).sm S)<|b.sm S;have v:Y f (ad<|(n:Z)-1-(j:Z)) 0*Y f n 0^j=sC f (G f-1-(j+1)):=by rw[x,sC,M S,(S:G f-1=n),(S:G f-2-(n-(j+1))=j)]
   rw[v]at l;have m:=lL (Y f n 0^j) (Y f n 0) (b.sm S)<|(r n).sm S;rw[<-dK]at m;have K:ad ((n:Z))=n:=aV n;have p:=U7 (sC f) 0 (G f)<|j+1;refine ai<|L<|q<|t ?_;refine rc J J l ?_ (hp:=ak);refine jx (T:= .z) (sC f<|G f-1-(j+1)) J J J J J ?_ (o J ?_) (hp:=?_)
   .rw[p];omega
   .clear b g r;refine bs (rc J J m (o J<|aT<|rt J<|aA (j+1) a MA<|wk ⟨sR J,sR J,sR J,sR J,sE J ?_,T⟩ ⟨bE J ?_,bE J J,T⟩) (hp:=ak))
    .exact aC D S
    .rw[x,OH (sC f) 0 (S:j+1<G f)]
   .simp only[Pr.an,Pr.h,num,eO,true_and,and_true];rw[p];omega
  .have a:j=n:=by have a:¬(n:Z)-1-(j:Z)>=0:=aL a;omega
   subst a;rw[<-B,d];exact aN<|ay<|cD 2002000 J J J<|e J<|bU J
 .simp only[Pr.an,Pr.h,num,eO,true_and,and_true];rw[fo];omega
def asN c g{i}(a:i<G g):aE i (gX c g)=Rat.divInt (Y g i 0) ((c:Z)^(G g-1-i))::aE (i+1) (gX c g):=by have b:=OF c g;rw[lY S];have:=U4 c g a;rw[aF,bD S]at this;rw[<-this];rfl
def asO g(c:I)(E:0<c)(F:G g<=12)(v:∀i,aw 210 (Y g i 0))(f:aw 210 (c:Z)):af Tryz.prog 146 [N .z g,aZ c] (N .q<|gX c g):=by
 refine aD Tryz.func146 ?_;have b:∀k,k<=12->Sm ((c:Z)^k):=λk x=>(f.pow k).sm (by have:=jw 210 x;omega)
 have l:∀k,(c:Z)^k≠0:=λk=>Int.ne_of_gt<|kV S
 have m:∀i,Sm (Y g i 0):=λi=>(v i).sm S
 have n:Sm (c:Z):=f.sm S;clear v f;have B:=OF c g;refine e J<|t<|rl .q [] J J (o J<|aO J J (kp 1 A A) J<|L<|e J ?_);refine q<|aK (α:=I) (λj=>⟨[(0,N .z g),(3,.c<|.P 0 0),(5,N .q<|aE (G g-j)<|gX c g),(6,.c<|.P 2001000 0),(7,D<|(G g:Z)-1-j)],[(0,.box 44 0<|av .z (c:Z)),(2001000,.box 44 0<|av .z<|(c:Z)^j)],4,[]⟩) (λj=>j<=G g) (λj=>G g-j) 0 (aW _) (wk ⟨sR J,sR J,sE J ?_,sR J,sE J ?_,T⟩ ⟨bE J J,bE J ?_,T⟩) ?_
 .rw[wb,wX S]
 .exact aC D (S:(G g:Z)-1=(G g:Z)-1-(0:I))
 .rw[oQ];rfl
 intro j H;refine L<|e J<|z J (λa=>?_)<|λa=>?_
 .have a:j<G g:=by have a:(G g:Z)-1-(j:Z)>=0:=az a;omega
  have C:ad ((G g:Z)-1-(j:Z))=G g-1-j:=S;have p:=Vk (Y g (ad<|(G g:Z)-1-(j:Z)) 0) ((c:Z)^j) (l j) (m _)<|b j S;have r:=lL ((c:Z)^j) c (b j S) n;have d:=asN c g (i:=G g-(j+1)) S;rw[(S:G g-1-(G g-(j+1))=j),(S:G g-(j+1)+1=G g-j)]at d;refine ai<|L<|q ?_;refine t<|rc J J p (o J ?_) (hp:=ak);refine t<|gR .q [_] J J (ra J J J J J J J J J ?_ ?_<|o J<|cD 6003000 J J J ?_)
  .show(1+G (aE (G g-j)<|gX c g)+(1+G (aE (G g-j)<|gX c g))/4+192)*64<=_;rw[yX];omega
  .show(1+G (aE (G g-j)<|gX c g))*4<=_;rw[yX];omega
  refine bs<|rc J J r<|o J<|aT<|rt J (hp:=ak)<|aA (j+1) a Vc<|wk ⟨sR J,sR J,sE J ?_,sR J,sE J ?_,T⟩ ⟨bR J,bE J ?_,T⟩
  .rw[d,C,(S:G g-1-j=G g-(j+1))];rfl
  .exact aC D (S:(G g:Z)-1-j-1=(G g:Z)-1-(j+1:I))
  .rw[dK];rfl
 .have a:j=G g:=by have a:¬(G g:Z)-1-(j:Z)>=0:=aL a;omega
  subst a;rw[gx,rI];exact aN<|ay<|e J<|bU J
def afI(b:I->Bool):∀n,bJ b (n+1)=(if b 0 then 1 else 0)+bJ (λi=>b<|i+1) n
 |0=>by rw[bJ,bJ,bJ];omega
 |n+1=>by rw[bJ,afI b n,bJ];omega
def asP k n:bJ k.testBit (n+1)=k%2+bJ (k/2).testBit n:=by
 rw[afI];congr 1
 .rw[Nat.testBit_zero];rcases Nat.mod_two_eq_zero_or_one k with e|e<;>rw[e]<;>rfl
 .exact IV λi _=>by rw[Nat.testBit_succ]
def afJ(b:I->Bool):∀n,bJ b n<=n
 |0=>a8 _
 |n+1=>by have:=afJ b n;rw[bJ];split<;>omega
def afK n:bJ (0:I).testBit n=0:=by
 induction n with
 |zero=>rfl
 |succ n a=>rw[bJ,a,Nat.zero_testBit];rfl
def asQ(k n:I)(f:k<2^n)(p:n<=60):af j 211 [D k] (D<|bJ k.testBit n):=by
 refine aD Tryz.func211 ?_;have r:k<2^60:=jD f<|fG A p;refine e J<|e J<|L<|e J ?_;refine q<|aK (α:=I×I×I) (λx=>⟨[(3,D x.1),(4,D x.2.1)],[],4,[]⟩) (λx=>x.2.1<2^x.2.2/\x.1+bJ x.2.1.testBit x.2.2=bJ k.testBit n/\x.2.1<=k) (λx=>x.2.1) (0,k,n) ⟨f,dU _,a8 _⟩ aM ?_;rintro⟨o,m,g⟩ ⟨d,b,v⟩;simp only at d b v;have B:=afJ k.testBit n;refine L<|e J<|z J (λa=>?_)<|λa=>?_
 .have a:0<m:=by have a:(m:Z)>0:=az a;omega
  obtain⟨i,rfl⟩:∃i,g=i+1:=by
   cases g with
   |zero=>rw[oo]at d;omega
   |succ i=>exact⟨i,J⟩
  rw[asP]at b;rw[fy]at d;have l:(m:Z).tmod 2=((m%2:I):Z):=gU m 2;have E:(m:Z).tdiv 2=((m/2:I):Z):=(Int.ofNat_tdiv m 2).symm;refine ai<|L<|q<|rt J (aT<|rt J<|aA (o+m%2,m/2,i) ⟨?_,?_,?_⟩ ?_<|wk ⟨sE J ?_,sE J ?_,T⟩ T) (hp:=?_)
  .show m/2<2^i;omega
  .show o+m%2+bJ (m/2).testBit i=_;omega
  .show m/2<=k;omega
  .show m/2<m;omega
  .show AV.c (C.I .i64<|(o:Z)+(m:Z).tmod 2)=_;rw[l];rfl
  .show AV.c (C.I .i64<|(m:Z).tdiv 2)=_;rw[E]
  .show(_:Pr).h;simp only[Pr.an,Pr.h,num,eO,true_and,and_true];rw[l];omega
 .have a:m=0:=by have a:¬(m:Z)>0:=aL a;omega
  subst a;rw[afK,jE]at b;subst b;exact aN<|ay<|e J<|bU J
def mj(F g:V Z):V Z:=bh (G F-G g) 0++g.map (Y F (G F-1) 0*·)
def Cn(g:V Z)(x:V Z×V Z):V Z×V Z:=(au<|mi x.1<|mj x.1 g,x.2.set (G x.1-G g)<|Y x.1 (G x.1-1) 0)
def wN(g:V Z):I->V Z×V Z->V Z×V Z
 |0,x=>x
 |n+1,x=>if G x.1<G g then x else wN g n (Cn g x)
structure wO(f g:V Z)(a v:I)(x:V Z×V Z):Prop where
 can:can x.1
 eq:Rx.zx f=Rx.zx x.2*Rx.zx g+Rx.zx x.1
 ql:x.2.length=f.length+1-g.length
 fl:x.1.length<=f.length
 z:∀i,i+g.length<=x.1.length->x.2.getD i 0=0
 B:∀i,aw (a+(f.length-x.1.length)*(v+1)) (x.1.getD i 0)
def Pb{F g}(a:G g<=G F) i:Y (mj F g) i 0=if G F-G g<=i then Y F (G F-1) 0*Y g (i-(G F-G g)) 0 else 0:=by
 unfold mj;by_cases c:G F-G g<=i
 .rw[s c,aF,vF (by simpa using c),fo,<-aF];exact getD_map (f:=(Y F (G F-1) 0*·)) (dI _) g _
 .rw[M c,aF,yN bP,j9,s S];rfl
def asR{F g}(a:G g<=G F):G (mj F g)=G F:=by simp[mj];omega
def asS{F g}(a:G g<=G F):Rx.zx (mj F g)=Rx.K ((Y F (G F-1) 0:Z):O)*(Rx.X (G F-G g)*Rx.zx g):=Rx.ext λi=>by
 rw[Rx.jk,Pb a,Rx.iQ,Rx.nP];split
 .rw[Rx.jk,iF]
 .rw[jA];rfl
def asT a:Rx.zx (au a)=Rx.zx a:=Rx.ext λi=>by rw[Rx.jk,Rx.jk];congr 1;rw[<-cc,nR,cc]
def asU a b:Rx.zx (mi a b)=Rx.zx a-Rx.zx b:=Rx.ext λi=>by rw[Rx.xP,Rx.jk,Rx.jk,Rx.jk,Fj,IA]
section
variable{f g:V Z}{u v:I}
def wO.next(k:aG g)(n:∀i,aw v (Y g i 0)){x}(a:wO f g u v x)(E:¬G x.1<G g):wO f g u v (Cn g x)/\(Cn g x).1.length<G x.1/\∀i,aw (u+(G f-G x.1)*(v+1)+v+1) (Y (mi x.1<|mj x.1 g) i 0):=by
 have C:=bX.2 k.1;have b:G g<=G x.1:=S;have l:∀i,aw (u+(G f-G x.1)*(v+1)+v+1) (Y (mi x.1<|mj x.1 g) i 0):=λi=>by
  rw[Fj,Pb b];split
  .exact((a.B i).le S).sub<|(a.B _).mul<|n _
  .rw[xv];exact(a.B i).le S
 have c:∀i,G x.1-1<=i->Y (mi x.1<|mj x.1 g) i 0=0:=λi m=>by
  rw[Fj,Pb b,s S];rcases asf m with e|e
  .rw[cF x.1 S,cF g S,dI];rfl
  .rw[<-e,(S:G x.1-1-(G x.1-G g)=G g-1),k.2,lA,Bs]
 have d:(Cn g x).1.length<G x.1:=by
  show G (au<|mi x.1<|mj x.1 g)<_;rcases Fw (mi x.1<|mj x.1 g)with e|e
  .rw[e];simp;omega
  .refine Iu λF=>e ?_
   rw[<-cc,nR,cc];exact c _ S
 have p:=a.ql;have r:=a.fl;refine⟨⟨Fw _,?_,by show G (x.2.set _ _)=_;rw[fP];exact a.ql,S,λi m=>?_,λi=>?_⟩,d,l⟩
 .show Rx.zx f=Rx.zx (x.2.set (G x.1-G g)<|Y x.1 (G x.1-1) 0)*Rx.zx g+Rx.zx (au<|mi x.1<|mj x.1 g);rw[acZ _ S (a.z _ S),asT,asU,asS b,a.eq,Rx.add_mul,Rx.mul_assoc (Rx.K _)<|Rx.X _];generalize Rx.K ((Y x.1 (G x.1-1) 0:Z):O)*(Rx.X (G x.1-G g)*Rx.zx g)=w;rw[Rx.add_assoc,Rx.add_comm w,Rx.kL]
 .show Y (x.2.set (G x.1-G g) _) i 0=0;rw[ls _ _ _ _ S,M S];exact a.z i S
 .show aw _ (Y (au<|mi x.1<|mj x.1 g) i 0);rw[<-cc,nR,cc];refine(l i).le ?_;have:(G f-G x.1+1)*(v+1)<=(G f-(Cn g x).1.length)*(v+1):=eB _ S;rw[g7,iL]at this;omega
def afL(b:aG g)(c:∀i,aw v (Y g i 0)):∀(n:I)(x:V Z×V Z),wO f g u v x->G x.1<n->wO f g u v (wN g n x)/\(wN g n x).1.length<G g
 |0,x,_,k=>by omega
 |n+1,x,d,k=>by
  rw[wN];split
  .rename_i a;exact⟨d,a⟩
  .rename_i a;let ⟨l,m,_⟩:=d.next b c a;exact afL b c n _ l S
open Classical in
noncomputable def vv(f g:V Z):V Z:=if Rx.zx g∣Rx.zx f then j0 f g else[]
def wO.start(b:Go.El.can f)(c:∀i,aw u (Y f i 0)):wO f g u v (f,bh (G f+1-G g) 0):=by
 have a:∀m i,Y (bh m (0:Z)) i 0=0:=λm i=>by rw[aF,j9];split<;>rfl
 refine⟨b,?_,fo,a8 _,λi _=>a _ i,λi=>(c i).le S⟩;rw[show Rx.zx (bh (G f+1-G g) (0:Z))=0 from Rx.ext λi=>by rw[Rx.jk,a];rfl,Rx.zero_mul,Rx.zero_add]
def asV(m:aG f)(l:aG g)(E:∀i,aw u (Y f i 0))(F:∀i,aw v (Y g i 0)):(if(wN g (G f+1) (f,bh (G f+1-G g) 0)).1=[]then(wN g (G f+1) (f,bh (G f+1-G g) 0)).2 else[])=vv f g:=by
 let ⟨I,hl⟩:=afL (f:=f) (u:=u) l F (G f+1) _ (wO.start m.can E)<|di _;generalize wN g (G f+1) (f,bh (G f+1-G g) 0)=x at*;have b:=Rx.mZ l;unfold vv;by_cases e:x.1=[]
 .rw[s e];have H:Rx.zx x.1=0:=by rw[e];exact Rx.tH
  have a:=I.eq;rw[H,Rx.add_zero]at a;rw[s ⟨_,a⟩];have c:Rx.Mo (Rx.zx x.2):=by have:=Rx.mZ m;rw[a]at this;exact this.zO b
  have K:=I.ql;have n:=Rx.dE c.ne b.ne;rw[<-a,Rx.jZ m.can,Rx.jZ l.can]at n;have k:aG x.2:=by have P:G x.2=Rx.sz (Rx.zx x.2):=S;have p:Rx.zx x.2 (Rx.sz (Rx.zx x.2)-1)=1:=c;have W:=Rx.dX c.ne;rw[<-P,Rx.jk]at p;exact⟨λe=>by have X:G x.2=0:=aC G e;omega,yb.1 (p.trans Rat.intCast_one.symm)⟩
  have d:∃q,aG q/\Rx.zx f=Rx.zx g*Rx.zx q:=⟨_,k,by rw[Rx.mul_comm];exact a⟩;have Q:j0 f g=wm d:=by unfold j0;rw[dif_pos d]
  let ⟨c1,r⟩:=qL d;rw[<-Q]at c1 r;exact(Rx.acr c1.can k.can<|Rx.qN b.ne<|by rw[<-a,r,Rx.mul_comm]).symm
 .rw[M e,M λB=>e ?_];have a:=I.eq;rw[a]at B;have R:=Rx.uR B<|Rx.dvd_mul_left _ _;have U:=Rx.rY R (by rw[Rx.jZ l.can,Rx.jZ I.can];exact hl);have C:=Rx.jZ I.can;rw[U,Rx.kd]at C;exact et C.symm
def asW a(b:a<=1000):(G (bh a (0:Z))+1+(G (bh a (0:Z))+1)/4+192)*32<=281474976710656:=by rw[fo];omega
def asX a(b:a<=1000):(G (bh a (0:Z))+1)*2<=140737488355328:=by rw[fo];omega
def afM(a:V Z)(b:G a<=200):(G a+1+(G a+1)/4+192)*32<=281474976710656:=S
def afN(a:V Z)(b:G a<=200):(G a+1)*2<=140737488355328:=S
def asY(hf:aG f)(hg:aG g)(hu:∀i,aw u (Y f i 0))(U:∀i,aw v (Y g i 0))(lf:G f<=100)(lg:G g<=100)(u9:u<=1000)(v9:v<=100):af Tryz.prog 212 [N .z f,N .z g] (N .z<|vv f g):=by
 rw[<-asV hf hg hu U];have I0:=wO.start (u:=u) (v:=v) (g:=g) hf.can hu;have pg:=bX.2 hg.1;have pf:=bX.2 hf.1;generalize hm:G f+1-G g=m at*;have hv9:(v+1)*100<=10100:=S;generalize hX:wN g (G f+1) (f,bh m 0)=X;refine yT Tryz.func212 J J J J J A ?_;refine e J<|t<|rm .z m J J J J J J xr ?_ ?_ ?_<|o J<|L<|e J ?_
 .rw[s J];split<;>omega
 .show m*32<=_;omega
 .show m*2<=_;omega
 refine q<|aK (α:=I) (λi=>⟨[(0,N .z f),(1,N .z g),(5,.c<|.X 1007000),(6,D i)],[(1007000,.vec 44 .z<|bh m 0)],3,[]⟩) (λi=>i<=m) (λi=>m-i) 0 (aW _) aM ?_;intro i hi;refine L<|e J<|z J (λb=>?_)<|λb=>?_
 .have b:i<m:=by have b:(i:Z)<(G (bh m (0:Z)):Z):=az b;rw[fo]at b;omega
  refine bN<|ay<|L<|q<|bs<|rc J J (kp 0 A A)<|jx (T:= .z) (0:Z) J J J J J ?_ (o J<|dy<|ay<|rt J (hp:=ak)<|aA (i+1) b (S:m-(i+1)<m-i)<|wk (aS J) ⟨bE J ?_,T⟩) (hp:=?_)
  .show ad ((i:Z))<_;rw[fo];omega
  .refine aC (aH.vec 44 .z)<|lq ax λk d l=>?_;rw[Ax];split<;>simp
  .simp only[Pr.an,Pr.h,num,eO,true_and,and_true];rw[fo];omega
 have b:i=m:=by have b:¬(i:Z)<(G (bh m (0:Z)):Z):=aL b;rw[fo]at b;omega
 subst b;refine jS<|lJ<|kF<|jT<|ay ?_;refine L<|q<|aK (α:=I×V Z×V Z) (λy=>⟨[(0,N .z y.2.1),(1,N .z g),(5,.c<|.X 1007000)],[(1007000,.vec 44 .z y.2.2)],8,[]⟩) (λy=>wO f g u v y.2/\G y.2.1<y.1/\wN g y.1 y.2=X) (λy=>y.1) (G f+1,f,bh i 0) ⟨I0,di _,hX⟩ aM ?_;rintro⟨n,F,Q⟩ ⟨C,hn,r⟩;simp only at C hn r;have TG:G F<=G f:=C.fl;obtain⟨n,rfl⟩:∃n',n=n'+1:=⟨n-1,S⟩;rw[wN]at r;refine L<|e J<|z J (λb=>?_)<|λb=>?_
 .have b:G g<=G F:=by have b:(G F:Z)>=(G g:Z):=az b;omega
  rw[M (S:¬G F<G g)]at r;obtain⟨n1,w,n3⟩:=C.next hg U (S:¬G F<G g);have E:=C.B;have DH:G Q=G f+1-G g:=C.ql;obtain⟨k,hk⟩:∃k,G F=G g+k:=⟨G F-G g,S⟩;have p:∀j,aw 12000 (Y F j 0):=λj=>(E j).le (by have:=eB (v+1) (S:G f-G F<=100);show u+(G f-G F)*(v+1)<=_;omega)
  have O:∀j,aw 13000 (Y (mi F<|mj F g) j 0):=λj=>(n3 j).le (by have:=eB (v+1) (S:G f-G F<=100);show u+(G f-G F)*(v+1)+v+1<=_;omega)
  have H:∀j,aw 12200 (Y (mj F g) j 0):=λj=>by
   rw[Pb b];split
   .exact((p _).mul<|U _).le S
   .exact aw.zero _
  have hTl:=asR b;have VQ:=afn F (mj F g) 13000 A S S (λj=>(p j).le A)<|λj=>(H j).le A;have hc:Y F (ad<|(G F:Z)-1) 0=Y F (G F-1) 0:=by rw[(S:ad ((G F:Z)-1)=G F-1)]
  have hT:mj F g=bh k 0++g.map (Y F (G F-1) 0*·):=by unfold mj;rw[(S:G F-G g=k)]
  have hN:Cn g (F,Q)=(au<|mi F<|mj F g,Q.set k<|Y F (G F-1) 0):=by unfold Cn;show(au<|mi F<|mj F g,Q.set (G F-G g)<|Y F (G F-1) 0)=_;rw[(S:G F-G g=k)]
  have hcS:=(p<|G F-1).sm A;have hgS:∀j,Sm (Y g j 0):=λj=>(U j).sm S
  rw[hN]at n1 w r;clear p O H E n3;generalize hW:au (mi F<|mj F g)=W at*;generalize hTq:mj F g=dR at*;generalize hcc:Y F (G F-1) 0=c at*;refine bN<|ay<|q<|e J<|e J ?_ (hp:=ak);rw[hc];clear hc hcc hX I0 hi hTq hW;refine t<|jx (T:= .z) c J J J J J ?_ (o J ?_) (hp:=?_)
  .show ad ((G F:Z)-(G g:Z))<G Q;omega
  .refine t<|gR .z [] J J (o J<|L<|e J ?_);rw[(S:ad ((G F:Z)-(G g:Z))=k),(S:(G F:Z)-(G g:Z)=(k:Z))];refine q<|aK (α:=I) (λa=>⟨[(0,N .z F),(1,N .z g),(5,.c<|.X 1007000),(7,D k),(8,.c<|.P 10006000 0),(9,.c<|.X 12000000),(10,D a)],[(10006000,.box 44 0<|av .z c),(12000000,.vec 44 .z<|bh a 0),(1007000,.vec 44 .z<|Q.set k c)],14,[]⟩) (λa=>a<=k) (λa=>k-a) 0 (aW _) (wk (aS J) ⟨bE J J,bR J,bR J,T⟩) ?_;intro a ht;have x:a<=1000:=S;refine L (e J<|z J (λd=>?_)<|λd=>?_)
   .have d:a<k:=by have d:(a:Z)<(k:Z):=az d;omega
    refine bN<|ay<|L<|q<|bs<|rc J J (kp 0 A A)<|rl .z [(0:Z)] J J (ra J J J J J J J J J ?_ ?_<|o J ?_)
    .exact asW a x
    .exact asX a x
    refine dy<|ay<|rt J<|aA (a+1) d (S:k-(a+1)<k-a)<|Wk.trans (wk (st':=⟨[(0,N .z F),(1,N .z g),(5,.c<|.X 1007000),(7,D k),(8,.c<|.P 10006000 0),(9,.c<|.X 15003000),(10,D ((a+1:I):Z))],[(10006000,.box 44 0<|av .z c),(15003000,.vec 44 .z<|bh (a+1) 0),(1007000,.vec 44 .z<|Q.set k c)],24,[]⟩) (aS J) ⟨bR J,bE J ?_,bR J,T⟩)<|Wk.trans (fp 12000000 15003000 J J J) aM;rw[List.replicate_succ']
   have d:a=k:=by have d:¬(a:Z)<(k:Z):=aL d;omega
   subst d;refine jS<|lJ<|kF<|jT<|ay<|L<|e J ?_;have K:(g.map (c*·)).length=G g:=cL _;refine q<|aK (α:=I) (λj=>⟨[(0,N .z F),(1,N .z g),(5,.c<|.X 1007000),(8,.c<|.P 10006000 0),(9,.c<|.X 12000000),(11,D j)],[(10006000,.box 44 0<|av .z c),(12000000,.vec 44 .z<|bh a 0++(g.map (c*·)).take j),(1007000,.vec 44 .z<|Q.set a c)],20,[]⟩) (λj=>j<=G g) (λj=>G g-j) 0 (aW _) (wk (aS J) ⟨bR J,bE J ?_,bR J,T⟩) ?_
   .rw[Bh,iW]
   intro j hj;have R:(bh a (0:Z)++(g.map (c*·)).take j).length<=200:=by rw[fO,fo,il,K];omega
   refine L<|e J<|z J (λl=>?_)<|λl=>?_
   .have l:j<G g:=by have l:(j:Z)<(G g:Z):=az l;omega
    have ej:ad ((j:Z))=j:=aV j;have GD:=lL c (Y g (ad<|(j:Z)) 0) hcS<|hgS _;have hV1:bh a (0:Z)++(g.map (c*·)).take (j+1)=bh a (0:Z)++(g.map (c*·)).take j++[c*Y g (ad<|(j:Z)) 0]:=by rw[jK (g.map (c*·)) j S,getD_map (f:=(c*·))<|dI c,ej,jR]
    clear K x;generalize bh a (0:Z)++(g.map (c*·)).take j=sf at*;refine bN<|ay<|L<|q<|bs<|rc J J GD (rl .z [_] J J (ra J J J J J J J J J ?_ ?_<|o J ?_)) (hp:=ak)
    .exact afM sf R
    .exact afN sf R
    refine dy<|ay<|rt J<|aA (j+1) l Vc<|Wk.trans (wk (st':=⟨[(0,N .z F),(1,N .z g),(5,.c<|.X 1007000),(8,.c<|.P 10006000 0),(9,.c<|.X 21008000),(11,D ((j+1:I):Z))],[(10006000,.box 44 0<|av .z c),(21008000,.vec 44 .z<|bh a 0++(g.map (c*·)).take (j+1)),(1007000,.vec 44 .z<|Q.set a c)],32,[]⟩) (aS J) ⟨bR J,bE J ?_,bR J,T⟩)<|Wk.trans (fp 12000000 21008000 J J J) aM;rw[hV1]
   .have l:j=G g:=by have l:¬(j:Z)<(G g:Z):=aL l;omega
    subst l;rw[iI S,<-hT];refine jS<|lJ<|kF<|jT<|ay<|cD 12000000 J J J<|bs<|rc J J VQ<|o J<|dy<|aA (n,W,Q.set a c) ⟨n1,?_,r⟩ (di n) aM;show G W<n;have w:G W<G F:=w;omega
  .simp only[Pr.an,Pr.h,num,eO,true_and,and_true];omega
 .have b:G F<G g:=by have b:¬(G F:Z)>=(G g:Z):=aL b;omega
  rw[s b]at r;subst r;refine jS<|lJ<|kF<|jT<|ay<|L<|e J<|z J (λd=>?_)<|λd=>?_
  .have d:F≠[]:=λbZ=>by have d:(G F:Z)>0:=az d;rw[bZ]at d;exact absurd d A
   rw[M d];exact e J<|bc<|bt<|g8 a6 J<|a7.nil .z
  .have d:F=[]:=et (by have d:¬(G F:Z)>0:=aL d;omega);rw[s d];exact bN<|ay<|cD 1007000 J J J<|e J<|bc<|g8 a6 J<|a7.refl _
end
open Fx
def as4{m}{a}{l}{b}(g:b∈fW (G l))(i:Rx.zx (gS m l b.testBit)∣Rx.zx a)(k:∀c∈fW (G l),bJ c.testBit (G l)<bJ b.testBit (G l)\/(bJ c.testBit (G l)=bJ b.testBit (G l)/\c<b)->¬Rx.zx (gS m l c.testBit)∣Rx.zx a):o9 m a l=some b:=by
 classical
 let ⟨us,ws,e⟩:=yE g;unfold o9;refine Ud.2 ⟨jU i,us,ws,e,λc d=>?_⟩;have f:=ady<|G l;rw[e]at f;have n:=(tD.1 f).2.2 c d b ax;rw[C5,decide_eq_false_iff_not];exact k c (by rw[e];simp[d]) n
def as5{m}{a}{l}(c:∀b∈fW (G l),¬Rx.zx (gS m l b.testBit)∣Rx.zx a):o9 m a l=none:=by
 classical
 unfold o9;refine EN.2 λb d=>?_
 rw[decide_eq_true_iff];exact c b d
def lF(m:Z)(l:V (V Z))(b:I->Bool)(i:I):V Z:=(iG m [1] (bg b 0<|y i l)).map (cp · m)
def ua(l:V (V Z))(b:I->Bool)(i:I):V (V Z):=bg (λi=> !b i) 0<|y i l
def VZ{l}{i}(c:i<G l)(b:I->Bool):bg b 0 (y (i+1) l)=bg b 0 (y i l)++(if b i then[l.getD i []]else[]):=by
 have a:y (i+1) l=y i l++[l.getD i []]:=by rw[mM,aF,bD c];rfl
 rw[a,T0];congr 1;rw[bg,bg,(bP:0+(y i l).length=i)]
def as6{l}{i}(a:i<G l)(b:I->Bool):ua l b (i+1)=if b i=ae then ua l b i else ua l b i++[l.getD i []]:=by unfold ua;rw[VZ a];cases b i<;>simp
def afO{m}(a:1<m){l}(d:∀f∈l,aG f)(b:I->Bool) i:aG (iG m [1] (bg b 0<|y i l))/\aG (lF m l b i)/\G (lF m l b i)=1+b7 (bg b 0<|y i l):=by let ⟨c,h2⟩:=wF a yi (λf g=>d f (Ai<|tS g):∀f∈bg b 0 (y i l),aG f);refine⟨c,wE a c,?_⟩;unfold lF;rw[cL,h2];rfl
def as7{m}(g:1<m){l}(d:∀f∈l,aG f){i}(c:i<G l)(b:I->Bool):(b i=ah->lF m l b (i+1)=lF m l b i)/\(b i=ae->(mu (lF m l b i)<|l.getD i []).map (cp · m)=lF m l b (i+1)):=by
 constructor
 .intro e;unfold lF;rw[VZ c,e];simp
 .intro e;have a:l.getD i []∈l:=by rw[aF,bD c];exact j6 c
  have n:=d _ a;let ⟨t1,t2,t3⟩:=afO g d b i;have p:lF m l b (i+1)=(nW (iG m [1] (bg b 0<|y i l)) (l.getD i []) m).map (cp · m):=by unfold lF;rw[VZ c,e,s J,T1];rfl
  rw[p];refine aod S ?_ λj=>?_
  .rw[IN,zT];have:G (lF m l b i)=G (iG m [1] (bg b 0<|y i l)):=by unfold lF;rw[cL]
   rw[this]
  .have r:Cg m (h<|mu (lF m l b i)<|l.getD i []) (h<|nW (iG m [1] (bg b 0<|y i l)) (l.getD i []) m):=by
    rw[aco _ _ t2.1 n.1];refine(Cg.oT ?_ _).trans (No _ _ _).symm;refine Cg.of λk=>?_
    unfold lF;rw[cc,cc,m0 _ S,tR S]
   exact r.at j
def as8(a i:I)(f:i<=60):((((a:Z).fdiv<|2^min (ad<|(i:Z)) IntKind.i64.bits).tmod 2)==1)=mO a i:=by
 have b:min (ad<|(i:Z)) IntKind.i64.bits=i:=by show min _ 64=_;omega
 have c:((2:Z)^i)=((2^i:I):Z):=by rw[ot];rfl
 have d:(a:Z).fdiv ((2^i:I):Z)=((a/2^i:I):Z):=by rw[zh _ (nM _),vX]
 rw[b,c,d,show(2:Z)=((2:I):Z)from J,gU,adB];generalize a/2^i%2=z;by_cases h:z=1
 .rw[h];rfl
 .rw[iX h];exact beq_eq_false_iff_ne.2<|λe=>h S
def afP(b:I->Bool):∀(l:V (V Z))(i:I),G (bg b i l)<=G l
 |[],_=>a8 _
 |f::l,i=>by have:=afP b l<|i+1;rw[bg];split<;>simp<;>omega
def as9(b:I->Bool) l i:b7 (bg b 0<|y i l)<=b7 l:=by
 have a:=NL b (y i l) 0;have c:b7 (y i l)+b7 (aE i l)=b7 l:=by rw[<-ES,ri]
 omega
def as'{n a}(b:a<2^n)(c:1<=bJ a.testBit n)(d:2*bJ a.testBit n<=n):a∈fW n:=si.2 ⟨b,c,S⟩
def V0(m:Z):∀(k:I)(a:V Z)(l:V (V Z)),G (me m k a l)<=k+1
 |0,a,l=>a8 _
 |k+1,a,l=>by
  rw[me];cases o9 m a l with
  |none=>simp
  |some b=>have:=V0 m k (j0 a<|gS m l b.testBit)<|bg (λi=> !b.testBit i) 0 l;simp;omega
def afQ{p:I}{m:Z}{w:I}(w1:1<=w)(w9:w<=100)(U:aw w m):∀(k:I)(a:V Z)(l:V (V Z)),k<=100->G l<=k->l≠[]->G l<=8->G a<=9->gL p m a l->(∀f∈l,∀i,aw w (Y f i 0))->af j 145 [N .z a,N (.sl .z) l,aZ m] (N (.sl .z)<|me m k a l)
 |0,a,l,_,H,E,_,_,_,_=>absurd (et S) E
 |k+1,a,l,avO,hk,E,l8,a9,C,hlB=>by
  let ⟨m1,GB⟩:=C.m1;have IH:=λa l=>afQ (p:=p) w1 w9 U k a l
  rw[me];refine aD Tryz.func145 ?_;refine e J<|L<|e J ?_;refine q<|aK (α:=I) (λd=>⟨[(0,N .z a),(1,N (.sl .z) l),(5,.c<|.P 0 0),(7,D d)],[(0,.box 44 0<|av .z m)],2,[]⟩) (λd=>1<=d/\d<=9/\∀g∈fW (G l),bJ g.testBit (G l)<d->¬Rx.zx (gS m l g.testBit)∣Rx.zx a) (λd=>20-d) 1 ⟨a8 _,A,λg B H=>absurd (si.1 B).2.1 S⟩ (wk (aS J) ⟨bE J J,T⟩) ?_;rintro d ⟨s1,s9,hs⟩;refine L<|e J<|z J (λH=>?_)<|λH=>?_
  .have H:2*d<=G l:=by have H:2*(d:Z)<=(G l:Z):=az H;omega
   refine ai<|L<|q<|e J ?_;refine q<|aK (α:=I) (λb=>⟨[(0,N .z a),(1,N (.sl .z) l),(5,.c<|.P 0 0),(7,D d),(8,D b)],[(0,.box 44 0<|av .z m)],5,[]⟩) (λb=>1<=b/\b<=2^G l/\∀g∈fW (G l),(bJ g.testBit (G l)<d\/(bJ g.testBit (G l)=d/\g<b))->¬Rx.zx (gS m l g.testBit)∣Rx.zx a) (λb=>2^G l-b) 1 ⟨a8 _,Nat.one_le_two_pow,λg B x=>hs g B ?_⟩ aM ?_
   .rcases x with x|⟨x,F⟩
    .exact x
    .have K:g=0:=by omega
     subst K;rw[afK]at x;omega
   rintro b ⟨q1,q2,hq⟩;have hp8:2^G l<=2^8:=fG A l8;have Q:IntKind.i64.wrap (1*2^min (ad<|(G l:Z)) IntKind.i64.bits)=((2^G l:I):Z):=by have:∀n:Fin 9,IntKind.i64.wrap (1*2^min (ad<|((n:I):Z)) IntKind.i64.bits)=((2^(n:I):I):Z):=A;exact this ⟨G l,S⟩
   refine L<|e J<|z J (λx=>?_)<|λx=>?_
   .have x:b<2^G l:=by have x:(b:Z)<IntKind.i64.wrap (1*2^min (ad<|(G l:Z)) IntKind.i64.bits):=az x;rw[Q]at x;omega
    clear Q;have hon:=asQ b (G l) x S;refine ai<|L<|q<|L<|aO J J hon J<|z J (λF=>?_)<|λF=>bN<|ay ?_
    .have F:bJ b.testBit (G l)≠d:=λK=>by have F:((bJ b.testBit (G l):I):Z)≠(d:Z):=bne_iff_ne.1 F;omega
     refine jS<|lJ<|jT<|ay<|rt J<|aA (b+1) ⟨S,S,λg B r=>hq g B ?_⟩ (S:2^G l-(b+1)<2^G l-b) aM;rcases r with r|⟨r,v⟩
     .exact .inl r
     .by_cases K:g=b
      .exact absurd (K▸r) F
      .exact .inr ⟨r,S⟩
    have F:bJ b.testBit (G l)=d:=by
     have F:¬((bJ b.testBit (G l):I):Z)≠(d:Z):=λK=>by have F:(((bJ b.testBit (G l):I):Z) !=(d:Z))=ah:=F;rw[bne_iff_ne.2 K]at F;cases F
     omega
    have hg0:lF m l b.testBit 0=[1]:=by show([1]:V Z).map (cp · m)=[1];rw[gZ,acG m1,wj]
    refine t<|rc J J (kp 1 A A)<|rl .z [(1:Z)] J J (o J<|t<|gR (.sl .z) [] J J (o J<|L<|e J ?_));refine q<|aK (α:=I) (λi=>⟨[(0,N .z a),(1,N (.sl .z) l),(5,.c<|.P 0 0),(7,D d),(8,D b),(9,N .z<|lF m l b.testBit i),(10,.c<|.X 8000000),(11,D i)],[(0,.box 44 0<|av .z m),(8000000,.vec 57 (.sl .z)<|ua l b.testBit i)],10,[]⟩) (λi=>i<=G l) (λi=>G l-i) 0 (aW _) (by rw[hg0];exact aM) ?_;intro i hi;refine L<|e J<|z J (λr=>?_)<|λr=>?_
    .have r:i<G l:=by have r:(i:Z)<(G l:Z):=az r;omega
     have hbq:=as8 b i S;have ei:ad ((i:Z))=i:=aV i;have xn:(Y l (ad<|(i:Z))<|ET.cJ<|.sl .z)=l.getD i []:=aC (λg6=>l.getD g6 []) ei;have R:l.getD i []∈l:=by rw[aF,bD r];exact j6 r
     let ⟨t1,t2,t3⟩:=afO m1 C.lm b.testBit i;let ⟨u1,u2⟩:=as7 m1 C.lm r b.testBit;have W:=as6 r b.testBit;have hxm:=C.lm _ R;have hxB:=hlB _ R;have u:∀O,aw w (Y (lF m l b.testBit i) O 0):=λO=>by unfold lF;rw[m0 _ S];exact EE S U
     have mX:G (lF m l b.testBit i)<=9:=by have:=as9 b.testBit l i;have:=C.len;omega
     have V1:G (l.getD i [])<=9:=by have:=O8 R;have:=C.len;omega
     have Hr:G (ua l b.testBit i)<=8:=by have:=afP (λi=> !b.testBit i) (y i l) 0;have h6:(y i l).length<=G l:=bP;show G (bg _ 0<|y i l)<=8;omega
     have oP:=aa7 (lF m l b.testBit i) (l.getD i []) w w S S S u hxB;rw[(t2.acq hxm).trim]at oP;have E:=Tq (mu (lF m l b.testBit i)<|l.getD i []) m (w+w+1) S (by rw[IN];omega) S (acp _ _ w w u hxB S S)<|U.le S;rw[(wE m1<|t2.acq hxm).trim]at E;rw[<-xn]at oP E W u2;refine ai<|L<|q<|e J<|z J (λv=>?_)<|λv=>?_
     .have v:mO b i=ae:=hbq▸v;rw[u2 v]at E;refine bs<|rc J J oP (rc J J E<|o J<|aT<|rt J<|aA (i+1) r xI<|wk (aS J) ⟨bR J,bE J ?_,T⟩) (hp:=ak);rw[W,s v]
     .have v:mO b i=ah:=hbq▸v;rw[v]at W;refine bs (rl (.sl .z) [_] J J (ra J J J J J J J J J ?_ ?_<|o J ?_) (hp:=ak))
      .show(G (ua l b.testBit i)+1+(G (ua l b.testBit i)+1)/4+192)*24<=_;omega
      .show(G (ua l b.testBit i)+1)*1<=_;omega
      refine aT<|rt J<|aA (i+1) r xI<|Wk.trans (wk (st':=⟨[(0,N .z a),(1,N (.sl .z) l),(5,.c<|.P 0 0),(7,D d),(8,D b),(9,N .z<|lF m l b.testBit<|i+1),(10,.c<|.X 12006000),(11,D ((i+1:I):Z))],[(0,.box 44 0<|av .z m),(12006000,.vec 57 (.sl .z)<|ua l b.testBit<|i+1)],24,[]⟩) ⟨sR J,sR J,sR J,sR J,sR J,sE J ?_,sR J,sR J,T⟩ ⟨bR J,bE J ?_,T⟩)<|Wk.trans (fp 8000000 12006000 J J J) aM
      .rw[u1 v]
      .rw[W];rfl
    .have r:i=G l:=by have r:¬(i:Z)<(G l:Z):=aL r;omega
     subst r;have hgE:lF m l b.testBit (G l)=gS m l b.testBit:=by unfold lF gS;rw[eE]
     have hrE:ua l b.testBit (G l)=bg (λi=> !b.testBit i) 0 l:=by unfold ua;rw[eE]
     rw[hgE,hrE];let ⟨gm,gl⟩:=C.B2 b.testBit;have mX:G (gS m l b.testBit)<=9:=by have h6:=NL b.testBit l 0;have:=C.len;omega
     have u:∀O,aw w (Y (gS m l b.testBit) O 0):=λO=>by unfold gS;rw[m0 _ S];exact EE S U
     have haB:∀O,aw w (Y a O 0):=λO=>by have:=C.bd a C.am (Rx.dvd_refl _) O;unfold aw at*;omega
     have hqu:=asY C.am gm haB u S S S S;have hS:b∈fW (G l):=as' x S S;refine jS<|lJ<|kF<|jT<|ay<|cD 8000000 J J J<|t<|rc J J hqu<|o J<|e J<|z J (λv=>?_)<|λv=>?_
     .have hd:Rx.zx (gS m l b.testBit)∣Rx.zx a:=dQ λhn=>by
       have v:(G (vv a<|gS m l b.testBit):Z)>0:=az v;have K:vv a (gS m l b.testBit)=[]:=by unfold vv;rw[M hn]
       rw[K]at v;exact absurd v A
      have hqE:vv a (gS m l b.testBit)=j0 a (gS m l b.testBit):=by unfold vv;rw[s hd]
      have ath:=as4 (a:=a) hS hd (λg B H=>hq g B<|by rw[F]at H;exact H);let ⟨c1,c2,c3,c4⟩:=C.rest hS hd;have c5:G (j0 a<|gS m l b.testBit)<=9:=by have h6:=NL b.testBit l 0;have h7:=c2.len;have:=C.len;omega
      have ih:=IH (j0 a<|gS m l b.testBit) (bg (λi=> !b.testBit i) 0 l) S S c3 S c5 c2<|λf hf=>hlB f<|tS hf;rw[ath,hqE];have sM:G (me m k (j0 a<|gS m l b.testBit)<|bg (λi=> !b.testBit i) 0 l)<=1000:=by have:=V0 m k (j0 a<|gS m l b.testBit)<|bg (λi=> !b.testBit i) 0 l;omega
      refine t<|gR (.sl .z) [_] J J (rc J J ih<|ra J J J J J J J J J ?_ ?_<|o J<|cD 13006000 J J J<|bc ?_)
      .show(1+G (me m k (j0 a<|gS m l b.testBit)<|bg (λi=> !b.testBit i) 0 l)+(1+G (me m k (j0 a<|gS m l b.testBit)<|bg (λi=> !b.testBit i) 0 l))/4+192)*24<=_;omega
      .show(1+G (me m k (j0 a<|gS m l b.testBit)<|bg (λi=> !b.testBit i) 0 l))*1<=_;omega
      repeat(first|refine bt ?_|refine eH ?_|refine gf ?_)
      exact c9 J J
     .have hd:¬Rx.zx (gS m l b.testBit)∣Rx.zx a:=λhd=>by
       have v:¬(G (vv a<|gS m l b.testBit):Z)>0:=aL v;have K:vv a (gS m l b.testBit)=j0 a (gS m l b.testBit):=by unfold vv;rw[s hd]
       let ⟨_,c2,_⟩:=C.rest hS hd;have:=bX.2 c2.am.1;rw[K]at v;omega
      refine bN<|aT<|rt J<|aA (b+1) ⟨S,S,λg B h6=>?_⟩ (S:2^G l-(b+1)<2^G l-b) aM;rcases h6 with h6|⟨h6,h7⟩
      .exact hq g B<|.inl h6
      .by_cases K:g=b
       .rw[K];exact hd
       .exact hq g B<|.inr ⟨h6,S⟩
   .have x:2^G l<=b:=by have x:¬(b:Z)<IntKind.i64.wrap (1*2^min (ad<|(G l:Z)) IntKind.i64.bits):=aL x;rw[Q]at x;omega
    refine aN<|aT<|rt J<|aA (d+1) ⟨S,S,λg B h6=>hq g B ?_⟩ (S:20-(d+1)<20-d) aM;have:=(si.1 B).1;omega
  .have H:G l<2*d:=by have H:¬2*(d:Z)<=(G l:Z):=aL H;omega
   have N6:=as5 (m:=m) (a:=a) (l:=l) (λg B=>hs g B<|by have:=(si.1 B).2.2;omega);rw[N6];exact aN<|ay<|t<|rl (.sl .z) [a] J J (o J<|bU J)
end Go.El
namespace Go.El
open Go Go.Proofs Go.RowKit Rx
def ati{r}{a b:Z}(d:(a:O)*r=(b:O)):(r.den:Z)∣a:=by
 have f:a*r.num=b*(r.den:Z):=by
  have c:(a:O)*(((r.den:I):O)*r)=(b:O)*((r.den:I):O):=by rw[<-d];grind
  rw[IB]at c;have g:((a*r.num:Z):O)=((b*(r.den:Z):Z):O):=by rw[iF,iF];exact c
  exact yb.1 g
 have i:r.den∣aq a*aq r.num:=⟨aq b,by rw[<-qE,f,qE,lO,fR]⟩;have k:=Nat.Coprime.dvd_of_dvd_mul_right (Nat.Coprime.symm r.reduced) i;exact Tm.2 k
def qj(a:V O)(k:I):Z:=(Y a k 0).num*((cj a:I):Z)/((Y a k 0).den:Z)
def qk(a:V O):V Z:=(List.range<|G a).map<|qj a
def sD(a:V O):I->I
 |0=>0
 |i+1=>lZ (sD a i)<|aq<|qj a i
def V2(a:V O):∀i b,b<i->sD a i∣aq (qj a b)
 |0,b,c=>by omega
 |i+1,b,c=>by
  rw[sD];by_cases d:b=i
  .rw[d];exact LL _ _
  .exact ED (Nat.gcd_dvd_left _ _)<|V2 a i b S
section
variable{a:V O}
def afV{k}(b:k<G a):((qj a k:Z):O)=((cj a:I):O)*Y a k 0:=by have c:(Y a k 0).den∣cj a:=E8 a _ k b;have:=OE (Y a k 0) (D:=((cj a:I):Z))<|xR.2 c;exact this
def atj{k}(b:k<G a):(Y a k 0).num*((cj a:I):Z)=((Y a k 0).den:Z)*qj a k:=by
 have c:(Y a k 0).den∣cj a:=E8 a _ k b;let ⟨e,he⟩:=c;unfold qj;have d:((Y a k 0).den:Z)≠0:=by have:=(Y a k 0).den_pos;omega
 rw[he,fF,(eT:(Y a k 0).num*(((Y a k 0).den:Z)*(e:Z))=((Y a k 0).den:Z)*((Y a k 0).num*(e:Z))),DM _ d]
def Pc(b:jC a):qj a (G a-1)=((cj a:I):Z):=by unfold qj;rw[b.one];show(1:Z)*_/1=_;rw[j7,uI]
def atk(l:jC a):sD a (G a)=1:=by
 have W:=l.l2;have m:0<cj a:=Ce a _;obtain⟨e,f⟩:sD a (G a)∣cj a:=by have:=V2 a (G a) (G a-1) S;rwa[Pc l,lO]at this
 generalize C:sD a (G a)=b at*;have E:0<b:=by
  rcases qF b with c|c
  .rw[c,vQ]at f;omega
  .exact c
 have d:∀k,(Y a k 0).den∣e:=λk=>by
  by_cases n:k<G a
  .have p:=V2 a (G a) k n;rw[C]at p;let ⟨z,F⟩:=Tm.2 p;have r:=afV n;rw[f,F]at r;have H:((e:Z):O)*Y a k 0=(z:O):=by
    have g:((b:I):O)≠0:=x9 S;have K:((b:I):O)*(z:O)=((b:I):O)*(((e:Z):O)*Y a k 0):=by
     have P:(((b:Z)*z:Z):O)=((b:I):O)*(z:O):=iF _ _;have Q:((b*e:I):O)=((b:I):O)*((e:Z):O):=by rw[<-sc,fF,iF];rfl
     rw[<-P,r,Q,qV]
    have v:=aC (λx=>((b:I):O)⁻¹ *x) K;simp only[<-qV,pW _ g,wz]at v;exact v.symm
   exact xR.1<|ati H
  .rw[kv a S];exact Nat.one_dvd _
 have B:cj a∣e:=U2 a d _;rw[f]at B;let ⟨y,R⟩:=B;have i:0<e:=by
  rcases qF e with c|c
  .rw[c,Et]at f;omega
  .exact c
 have:1*e=b*y*e:=by
  rw[iL];conv=>lhs;rw[R]
  ac_rfl
 have U:=Nat.eq_of_mul_eq_mul_right i this;exact Il.1 ⟨y,U⟩
def Ag a:G (qk a)=G a:=by simp[qk]
def Jy a{k}(b:k<G a):Y (qk a) k 0=qj a k:=by unfold qk;rw[aF,gj,jW b];rfl
def atl(c:jC a):Pa (qk a)=dJ a:=by
 have g:=c.l2;unfold Pa dJ;rw[Ag];refine DO λk b=>?_
 have b:=jO.1 b;unfold sC;rw[Ag];split
 .rename_i e;rw[e,c.one,gx,oQ];rfl
 .rename_i e;rw[Jy a b,Jy a S,Pc c,(S:G a-1-k=(G a-2-k)+1),dK];have d:((Y a k 0).den:Z)≠0:=by have:=(Y a k 0).den_pos;omega
  have f:=atj (a:=a) b;rw[show(Y a k 0).num*(((cj a:I):Z)^(G a-2-k)*((cj a:I):Z))=((Y a k 0).den:Z)*(qj a k*((cj a:I):Z)^(G a-2-k))by rw[<-jb ((Y a k 0).den:Z),<-f];ac_rfl,DM _ d]
def atm{k}(b:k<G a):(Y a k 0*(((cj a:I):Z):O)).num=qj a k:=by have c:=afV b;rw[Ip,show((((cj a:I):Z):Z):O)=((cj a:I):O)from J,<-c];rfl
def afW(b:∀k,k<G a->aw 201 (qj a k)):∀i,i<=G a->aw 201 ((sD a i:I):Z)
 |0,_=>aw.zero _
 |i+1,f=>by
  have c:=afW b i S;have d:=b i S;unfold aw at*;rw[lO]at*;rw[sD];rcases qF (sD a i)with e|e
  .rw[e,QG];exact d
  .exact s8 (Nat.gcd_le_left _ e) c
def afX(h:jC a)(b:∀i,QS 20 (Y a i 0)){k:I}(_:k<G a):aw 201 (qj a k):=by have c:=(b k).n.mul<|(Jq a b<|G a).le (EV:20*G a+1<=181);have d:=O7 ((Y a k 0).num*((fk a (G a):I):Z)) ((Y a k 0).den:Z);have f:qj a k=(Y a k 0).num*((fk a (G a):I):Z)/((Y a k 0).den:Z):=rfl;unfold aw at*;rw[f];exact s8 d c
def atn(B:jC a)(x:∀i,QS 20 (Y a i 0)):af j 26 [N .q a] (N .z<|qk a):=by
 have l2:=B.l2;have l9:=B.l9;have l:=λi(g:i<=9)=>(Jq a x i).le (S:20*i+1<=181)
 have C:=λi(g:i<=9)=>(l i g).sm A
 have E:QS 181 (((cj a:I):Z):O):=⟨l _ l9,(aw.one (a:=1) A).le A⟩;have m:=λk F=>afX B x (k:=k) F
 have H:=λk F=>(m k F).sm (by decide:201<=1099511627776)
 have s:=atk B;have u:=λi g=>(afW m i g).sm (by decide:201<=1099511627776)
 have w:=Ag a;have n:=λk(F:k<G a)=>Jy a F
 have K:=Pc B;have hdp:0<cj a:=Ce a _;have Q:=λk=>(x k).d.sm (by decide:20<=1099511627776)
 have p:∀i,((fk a i:I):Z)*(((Y a i 0).den:Z)/((lZ (fk a i) (Y a i 0).den:I):Z))=((fk a (i+1):I):Z):=λi=>by rw[fk,fF,vX]
 have M:∀i,i<=9->Sm (((Y a i 0).den:Z)/((lZ (fk a i) (Y a i 0).den:I):Z)):=λi g=>by have b:=(x i).d;have h2:=O7 ((Y a i 0).den:Z) ((lZ (fk a i) (Y a i 0).den:I):Z);exact(show aw 20 _ by unfold aw at*;omega:aw 20 (((Y a i 0).den:Z)/((lZ (fk a i) (Y a i 0).den:I):Z))).sm A
 have V:=λi=>Vl (k:=181) (Y a i 0) (((cj a:I):Z):O) ((x i).le A) E A
 clear l m E;refine aD Tryz.func26 ?_;refine e J<|aO J J (kp 1 A A) J<|gy<|e J ?_;refine q<|aK (α:=I) (λi=>⟨[(0,N .q a),(3,.c<|.P 1001000 0),(4,D i)],[(1001000,.box 44 0<|av .z ((fk a i:I):Z))],3,[]⟩) (λi=>i<=G a) (λi=>G a-i) 0 (aW _) (wk (aS J) ⟨bE J J,T⟩) ?_;intro i g;refine gy<|e J<|z J (λb=>?_)<|λb=>?_
 .have b:i<G a:=by have b:(i:Z)<(G a:Z):=az b;omega
  have ei:ad ((i:Z))=i:=aV i;have hg:=Q4 ((fk a i:I):Z) ((Y a i 0).den:Z) (C i S)<|Q i;have hgp:0<lZ (fk a i) (Y a i 0).den:=Nat.gcd_pos_of_pos_right _ (Y a i 0).den_pos;have avQ:lZ (fk a i) (Y a i 0).den<=(Y a i 0).den:=DF _ (Y a i 0).den_pos;have r:=DK ((Y a i 0).den:Z) ((lZ (fk a i) (Y a i 0).den:I):Z) S (Q i)<|(show aw 20 ((lZ (fk a i) (Y a i 0).den:I):Z)by have:=(x i).d;unfold aw at*;omega).sm A;have R:=lL ((fk a i:I):Z) (((Y a i 0).den:Z)/((lZ (fk a i) (Y a i 0).den:I):Z)) (C i S)<|M i S;rw[p]at R;refine ai<|gy<|q ?_;refine t<|rc J J hg (o J<|t<|rc J J r (o J ?_) (hp:=ak)) (hp:=ak);exact bs<|rc J J R<|o J<|aT<|rt J (hp:=ak)<|aA (i+1) b ka<|wk (aS J) ⟨bE J J,T⟩
 have b:i=G a:=by have b:¬(i:Z)<(G a:Z):=aL b;omega
 subst b;have dC:fk a (G a)=cj a:=rfl;refine aN<|ay ?_;rw[dC];refine t<|gR .z [] J J (o J<|aO J J (kp 0 A A) J<|gy<|e J ?_);generalize hL:qk a=L at*;refine q<|aK (α:=I) (λi=>⟨[(0,N .q a),(3,.c<|.P 1001000 0),(9,.c<|.X 4000000),(10,.c<|.P 5001000 0),(11,D i)],[(1001000,.box 44 0<|av .z ((cj a:I):Z)),(4000000,.vec 44 .z<|y i L),(5001000,.box 44 0<|av .z ((sD a i:I):Z))],8,[]⟩) (λi=>i<=G a) (λi=>G a-i) 0 (aW _) (wk (aS J) ⟨bR J,bR J,bE J J,T⟩) ?_;intro i g;have hl:(y i L).length=i:=bP;refine gy<|e J<|z J (λb=>?_)<|λb=>?_
 .have b:i<G a:=by have b:(i:Z)<(G a:Z):=az b;omega
  have hm:=V i;have f:=atm (a:=a) b;have U:=Q4 ((sD a i:I):Z) (qj a i) (u i S)<|H i b;refine ai<|gy<|q ?_;refine t<|rc J J (kp 1 A A) (rc J J hm<|o J ?_) (hp:=ak);rw[<-f]at U;refine t<|rl .z [(Y a i 0*(((cj a:I):Z):O)).num] J J (ra J J J J J J J J J ?_ ?_<|o J ?_)
  .exact afM (y i L) S
  .exact afN (y i L) S
  refine bs<|rc J J U<|o J<|aT<|rt J<|aA (i+1) b ka<|Wk.trans (wk (st':=⟨[(0,N .q a),(3,.c<|.P 1001000 0),(9,.c<|.X 10004000),(10,.c<|.P 5001000 0),(11,D ((i+1:I):Z))],[(1001000,.box 44 0<|av .z ((cj a:I):Z)),(10004000,.vec 44 .z<|y (i+1) L),(5001000,.box 44 0<|av .z ((sD a (i+1):I):Z))],16,[]⟩) (aS J) ⟨bR J,bE J ?_,bE J ?_,T⟩)<|Wk.trans (fp 4000000 10004000 J J J) aM
  .refine aC (aH.vec 44 .z) ?_;rw[jK L i S,n i b,f]
  .rw[sD,<-f];rfl
 have b:i=G a:=by have b:¬(i:Z)<(G a:Z):=aL b;omega
 subst b;rw[iI S,s];refine aN<|ay<|gy ?_;have v:Y L (ad<|(G L:Z)-1) 0=((cj a:I):Z):=by rw[w,(S:ad ((G a:Z)-1)=G a-1),n _ S,K]
 have hsg:=vV<|Y L (ad<|(G L:Z)-1) 0;have W:¬cq (Y L (ad<|(G L:Z)-1) 0)<0:=by rw[v,Ii];omega
 refine t<|rg 73 J J (λ_=>?_)<|λb=>?_;rotate_left
 .exfalso;have b:¬(G a:Z)>0:=aL b;omega
 refine eI J J J J J hsg (o J<|z J (λb=>?_)<|λ_=>ai ?_) (hp:=ak)
 .exfalso;exact W<|az b
 refine gy<|e J<|q<|aK (α:=I) (λi=>⟨[(9,.c<|.X 4000000),(10,.c<|.P 5001000 0),(13,D i)],[(4000000,.vec 44 .z L),(5001000,.box 44 0<|av .z ((1:I):Z))],16,[]⟩) (λi=>i<=G L) (λi=>G L-i) 0 (aW _) aM ?_;intro i g;refine gy<|e J<|z J (λb=>?_)<|λb=>?_
 .have b:i<G L:=by have b:(i:Z)<(G L:Z):=az b;omega
  have ei:ad ((i:Z))=i:=aV i;have r:=DK (Y L (ad<|(i:Z)) 0) ((1:I):Z) A (by rw[ei,n i S];exact H i S)<|(aw.one (a:=((1:I):Z)) A).sm A;refine ai<|gy<|q ?_;refine t<|rc J J r (o J ?_) (hp:=ak);refine bs<|jx (T:= .z) (Y L (ad<|(i:Z)) 0/((1:I):Z)) J J J J J ?_ (o J<|aT<|rt J (hp:=ak)<|aA (i+1) b Mr<|wk (aS J) ⟨bE J ?_,bR J,T⟩) (hp:=ak)
  .show ad ((i:Z))<_;omega
  .refine aC (aH.vec 44 .z)<|sd (by rw[fP]) λfQ hj=>?_;rw[ls _ _ _ _ S,ei];split
   .rename_i bZ;rw[bZ];exact uI _
   .rfl
 .have b:i=G L:=by have b:¬(i:Z)<(G L:Z):=aL b;omega
  subst b;exact aN<|ay<|cD 4000000 J J J<|e J<|bU J
end
end Go.El
namespace Go.El
open Go Go.Proofs Go.RowKit Fx
def tdB(n:I):Bool:=[2,3,5,7,11,13,17,19,23,29,31,37,41,43,47].all λk=>Nat.ble n k|| !(Nat.beq (n%k) 0)
def Fo:V I:=((List.range' 3 2300).filter tdB)
def Pd{p}(a:p∈Fo):3<=p/\p<2304:=by have b:=(sJ.1 a).1;rw[atp]at b;omega
def afZ{p}(b:p∈Fo):cE p:=by
 let ⟨C,h2⟩:=Pd b;have l:tdB p=ae:=(sJ.1 b).2;have c:∀k∈[2,3,5,7,11,13,17,19,23,29,31,37,41,43,47],p<=k\/p%k≠0:=λk c=>by
  have:=rv.1 l k c;rcases vI _ _▸this with e|e
  .exact .inl<|cY e
  .right;intro m;rw[m]at e;exact absurd e A
 refine⟨S,λd n E r=>?_⟩;have v:d<48:=dQ λb=>by have:48*48<=d*d:=ly S S;omega
 have x:d<p:=by have:2*d<=d*d:=eB d n;omega
 obtain⟨q,f,a⟩:∃q∈[2,3,5,7,11,13,17,19,23,29,31,37,41,43,47],q∣d:=by have g:(List.range' 2 46).all (λd=>[2,3,5,7,11,13,17,19,23,29,31,37,41,43,47].any λq=>Nat.beq (d%q) 0)=ae:=j8;have B:=rv.1 g d (by rw[atp];omega);let ⟨q,f,i⟩:=List.any_eq_true.1 B;exact⟨q,f,qH<|y8 i⟩
 have i:=ED a<|qH r;have F:=pG S a;rcases c q f with e|e
 .omega
 .exact e<|Hk i
def atq:Fo.Nodup:=(List.nodup_range' (s:=3) (n:=2300) (step:=1)).filter _
def atr:Nat.ble (yc+1) (qX Fo)=ae:=j8
def ats:yc<qX Fo:=abS atr
def af0{p}(a:p∈Fo):aX p:=⟨afZ a,by have:=(Pd a).2;omega⟩
def jC.af1{a}(c:jC a):∃p,cE p/\3<=p/\p<2304/\nz p (dJ a)=ae:=by let ⟨p,b,hc⟩:=c.aea atq (λ_ b=>af0 b) ats;exact⟨p,afZ b,(Pd b).1,(Pd b).2,(Oi (af0 b) _).2 hc⟩
def af2{p:I}:∀{L:V (V Z×Z)},(∀x∈L,bw (fx x.1:Fx p)/\1<=x.2)->jz (ib p L)->ib p L=fj (L.map (·.1))
 |[],_,_=>rfl
 |x::l,a,b=>by
  let ⟨c,h2⟩:=a x ax;have d:=af2 (L:=l) (λy hy=>a y mV)<|b.of_dvd ⟨pk (fx x.1)<|ad x.2,by rw[ib,mul_comm]⟩;rw[ib,gZ,fj,d];by_cases e:ad x.2=1
  .rw[e,rT]
  .exfalso;obtain⟨n,f⟩:∃n,ad x.2=n+1+1:=⟨ad x.2-2,S⟩;refine b _ c ⟨pk (fx x.1) n*ib p l,?_⟩;rw[ib,f];show pk (fx x.1) n*fx x.1*fx x.1*ib p l=_;ac_rfl
section
variable{p:I}{a:V Z}
def dq.n9(b:dq p a){c}(k:pT p (fx a:Fx p) c):vt p a (c.map (·.1))/\∀g∈c.map (·.1),bw (fx g:Fx p):=by
 have i:∀g∈c.map (·.1),Mon p g/\2<=G g/\bw (fx g:Fx p):=λg d=>by obtain⟨x,m,rfl⟩:=kY.1 d;let ⟨v,B,C,_⟩:=k.parts x m;exact⟨v,B,C⟩
 have n:(fx a:Fx p)=fj (c.map (·.1)):=by rw[<-k.prod];exact af2 (λx m=>⟨(k.parts x m).2.2.1,(k.parts x m).2.2.2⟩) (by rw[k.prod];exact b.jN)
 have E:G a=1+b7 (c.map (·.1)):=by
  let ⟨t1,t2⟩:=wF b.p1 yi (l:=c.map (·.1)) λf r=>⟨(i f r).1.ne,(i f r).1.one⟩
  rw[<-pY b.H b.am,n,<-yj (c.map (·.1)) p (EM _),pY b.H t1,t2];rfl
 refine⟨⟨b.am,λg d=>⟨(i g d).1,(i g d).2.1⟩,by rw[Oe,n],UD b.H (λg d=>(i g d).2.2) (by rw[<-n];exact b.jN),E,?_⟩,λg d=>(i g d).2.2⟩;have:=b.l9;omega
def q'.mem{k}{l X}(c:q' p k a l X){f}(r:f∈X):∃g∈l,aG f/\G f=G g/\(fx f:Fx p)=fx g/\∀d,cp (Y f d 0) ((p:Z)^k)=Y f d 0:=by
 obtain⟨i,m,rfl⟩:=AM r;have b:i<G l:=by rw[<-c.len];exact m
 have n:=c.ok i b;rw[aF,aF,bD m,bD b]at n;exact⟨l[i],j6 b,n⟩
def q'.EZ{k}{l X}(d:q' p k a l X):X.map (fx (p:=p))=l.map fx/\b7 X=b7 l:=by
 have f:∀(X l:V (V Z)),X.length=G l->(∀i,i<G l->G (X.getD i [])=G (l.getD i [])/\(fx (X.getD i []):Fx p)=fx (l.getD i []))->X.map (fx (p:=p))=l.map fx/\b7 X=b7 l:=by
  intro X;induction X with
  |nil=>
   intro l b _
   rw[et b.symm];exact⟨J,J⟩
  |cons x X m=>
   intro l b h
   cases l with
   |nil=>cases b
   |cons y l=>
    let ⟨i1,i2⟩:=m l (Nat.succ.inj b) λi c=>h (i+1)<|Nat.succ_lt_succ c
    have g:G x=G y/\(fx x:Fx p)=fx y:=h 0<|Nat.succ_pos _
    exact⟨by rw[gZ,gZ,i1,g.2],by rw[b7,b7,i2,g.1]⟩
 exact f X l d.len λi c=>⟨(d.ok i c).2.1,(d.ok i c).2.2.1⟩
def dq.cbX(b:dq p a){l}(n:pT p (fx a:Fx p) l){k}(r:1<=k)(E:2*cO a<p^k){X}(c:q' p k a (l.map (·.1)) X):gL p ((p:Z)^k) a X:=by
 let ⟨A,v⟩:=b.n9 n;refine⟨b.H,⟨k,r,J⟩,b.am,λf m=>?_,λf m=>?_,?_,c.pr,b.jN,?_,λg x B i=>?_⟩
 .let ⟨_,_,d,_⟩:=c.mem m;exact d
 .let ⟨g,hg,_,_,C,_⟩:=c.mem m;rw[C];exact v g hg
 .have d:((l.map (·.1)).map<|fx (p:=p)).Pairwise Co:=wh.2 A.co;rw[<-c.EZ.1]at d;exact wh.1 d
 .rw[c.EZ.2];exact A.fl
 .have:=Og b.am x B i;have e:((p^k:I):Z)=(p:Z)^k:=ot p k;rw[<-e];omega
end
end Go.El
namespace Go.El
open Go Go.Proofs Go.RowKit Rx
def Fp{a b}:eK a b<=0↔a<=b:=by
 unfold eK;by_cases c:a<b
 .rw[s c];exact⟨λ_=>ON c,λ_=>S⟩
 .rw[M c];by_cases h2:b<a
  .rw[s h2];exact⟨λh=>S,λh=>absurd h2<|Fb.2 h⟩
  .rw[M h2];exact⟨λ_=>Fb.1 h2,λ_=>gk _⟩
def Jz{a b}:eK a b=0↔a=b:=by
 constructor
 .intro h;refine O' (Fp.1 S)<|Fp.1 ?_;rw[OL];omega
 .rintro rfl;have:=OL a a;omega
def af3(a b c:V O):∀i,mh a b i<=0->mh b c i<=0->mh a c i<=0
 |0,_,_=>gk _
 |i+1,k,h2=>by
  rw[mh]at*;have p:=af3 a b c i;have q1:=@Fp (Y a i 0)<|Y b i 0;have r:=@Fp (Y b i 0)<|Y c i 0;have v:=@Fp (Y a i 0)<|Y c i 0;have n:=@Jz (Y a i 0)<|Y b i 0;have B:=@Jz (Y b i 0)<|Y c i 0;have C:=@Jz (Y a i 0)<|Y c i 0;generalize Y a i 0=x at*;generalize Y b i 0=y at*;generalize Y c i 0=z at*;by_cases l:eK x y=0
  .rw[M (λe=>e l)]at k;have:=n.1 l;subst this;by_cases d:eK x z=0
   .rw[M (λe=>e d)]at*;exact p k h2
   .rw[s d]at*;exact h2
  .rw[s l]at k;have f:=q1.1 k;have g:y<=z:=by
    by_cases d:eK y z=0
    .rw[B.1 d];exact Rat.le_refl
    .rw[s d]at h2;exact r.1 h2
   have m:=Rat.le_trans f g;have E:eK x z≠0:=λe=>by have:=C.1 e;subst this;exact l<|n.2<|O' f g
   rw[s E];exact v.2 m
def atu{a b c}(f:ik a b<=0)(d:ik b c<=0):ik a c<=0:=by
 have l:∀x y:Z,jg x y<=0->x<=y:=λx y h=>by unfold jg at h;split at h<;>(try split at h)<;>omega
 have g:∀x y:Z,x<y->jg x y<=0:=λx y h=>by unfold jg;rw[s h];omega
 have i:∀{a b:V O},ik a b<=0->G a<=G b:=λ{a b} h=>by
  by_cases e:G a=G b
  .omega
  .rw[ik,s e]at h;have:=l _ _ h;omega
 have n:=i f;have p:=i d;by_cases e:G a=G c
 .have k:G a=G b:=by omega
  have m:G b=G c:=S;rw[ik,M<|λh=>h k]at f;rw[ik,M<|λh=>h m]at d;rw[ik,M<|λh=>h e];rw[<-k]at d;exact af3 a b c _ f d
 .rw[ik,s e];exact g _ _ S
abbrev qm(x a:V O×Z):Prop:=jl x a<=0
def af4{x a b}(c:qm x a)(d:qm a b):qm x b:=atu c d
def V3{l}(c:Ih cR jl l (G l-1)):l.Pairwise qm:=by
 have g:∀k(d:k<G l),Y l k cR=l[k]:=λk d=>by rw[aF,bD d];rfl
 have a:∀n i,i+n+1<G l->qm (Y l i cR) (Y l (i+n+1) cR):=by
  intro n;induction n with
  |zero=>intro i b;have:=c i S;have e:=Ff (Y l i cR)<|Y l (i+1) cR;show jl _ _<=0;rw[jE];omega
  |succ n f=>
   intro i b
   have r:=c (i+n+1) S
   have e:=Ff (Y l (i+n+1) cR)<|Y l (i+n+1+1) cR
   exact af4 (f i S) (by show jl _ _<=0;rw[<-qv]at*;omega)
 refine vi.2 λi j b m p=>?_
 have:=a (j-i-1) i S;rw[(S:i+(j-i-1)+1=j),g i b,g j m]at this;exact this
def atv{l}(b:l.Pairwise qm):Ih cR jl l (G l-1):=λt c=>by
 have g:∀k(a:k<G l),Y l k cR=l[k]:=λk a=>by rw[aF,bD a];rfl
 have:=vi.1 b t (t+1) S S S;rw[g t S,g (t+1) S];have e:=Ff l[t+1] l[t];omega
def atw{a}{g i}(H:lD a g)(c:lD a i){b}(k:Y b (G b-1) 0=1)(d:bw (lx b)):oE b g=oE b i:=by
 let ⟨A,a1,a2⟩:=OW k d H.ok H.oY;let ⟨B,l,m⟩:=OW k d c.ok c.oY;have n:=Vv (u:=b) λx f=>(H.ok x f).2.2
 have p:=Vv (u:=b) λx f=>(c.ok x f).2.2
 have e:=arB d (a1.symm.trans<|(H.prod.trans c.prod.symm).trans l) a2 m;omega
def lD.uniq{a}{b d}(H:lD a b)(c:lD a d):b=d:=by
 have mem:∀{b d:V (V O×Z)},lD a b->lD a d->∀x∈b,x∈d:=λ{b d} H c x g=>by let ⟨i,f,r⟩:=H.ok x g;have e:=OX H.oY g;have k:=atw H c i f;have:=Vu (u:=x.1) (l:=d) S;rw[<-k,e]at this;exact this
 have m:∀{b:V (V O×Z)},lD a b->b.Nodup:=λH=>H.oY.imp λh e=>h oV
 refine List.Perm.eq_of_pairwise (le:=qm) (λx y g p i f=>?_) (V3 H.OJ) (V3 c.OJ)<|(List.perm_ext_iff_of_nodup (m H)<|m c).2 λx=>⟨mem H c x,mem c H x⟩;have f:jl y x<=0:=f;have i:jl x y<=0:=i;rw[Ff]at f;have e:x.1=y.1:=asK (S:jl x y=0);have n:=OX c.oY<|mem H c x g;have k:=OX c.oY p;rw[e,k]at n;exact Prod.ext e n.symm
end Go.El
