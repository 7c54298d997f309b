/- Own work; no condition. -/
import Derived.Test.YtceihkmakfdcnaaGreatI12
import Derived.Test.YtceihkmakfdcnaaGreatI9
import Derived.Test.YtceihkmakfdcnaaGreatI8
import Derived.Test.YtceihkmakfdcnaaGreatI10
set_option linter.all false
set_option maxHeartbeats 16000000
set_option maxRecDepth 100000
noncomputable section
open Bool renaming true->af
open Classical renaming choose->zC
open Go.El renaming rr->e,cS->S,xe->F,re->O,bA->h,cI->y,rb->w
open Go.IntKind renaming wrap->ay
open Go.Proofs.Tryz renaming prog->r,func206->aid
open Int renaming toNat->ah
open List renaming length->Z,getD->I,range->cy,take->c,perm_append_comm->auj,drop->az
open Nat renaming div_le_div_left->aua
open _root_ renaming Nat->G,List->E,Int->V
namespace Go.El
open Go Go.Proofs Go.RowKit Fx
section
variable{p:G}
def ahT(H:bF p){a:Fx p}{d}(i:a≠0)(s:2<=sz a)(k:∀Q,bw Q->Q∣a->d+1<=sz Q)(u:sz a<=2*d):bw a:=by
 refine⟨s,λA B e=>?_⟩;have b:A≠0:=λf=>i (by rw[e,f,dw])
 have g:B≠0:=λf=>i (by rw[e,f,g8])
 have t:=dV H b g;have pA:=fe H.pos b;have v:=fe H.pos g;rw[<-e]at t;refine eR λl=>?_
 have x:sz A≠1:=λe=>l<|.inl e
 have z:sz B≠1:=λe=>l<|.inr e
 let ⟨Q,q1,m⟩:=uK H _ A (dO _) Y;let ⟨R,r1,n⟩:=uK H _ B (dO _) Y;have C:=k Q q1 (by rw[e];exact nj m B);have D:=k R r1 (by rw[e];exact eW n A);have K:=kX H m b;have N:=kX H n g;omega
def ahU(H:bF p){Q}(hQ:bw Q):∃b,Mon p b/\bw (fx b:Fx p)/\(fx b:Fx p)∣Q/\Q∣fx b/\Z b=sz Q:=by
 obtain⟨a,d,rfl⟩:=jS H.pos Q;have k:a≠[]:=λe=>hQ.ne H (by rw[e,lG])
 let ⟨m1,g,l,⟨c,m⟩,i⟩:=Qd H d k;refine⟨mF p a,m1,⟨?_,λA B e=>?_⟩,l,⟨K c,m⟩,by rw[g,dc d]⟩
 .have:=hQ.1;rw[dc d]at this;rw[dc m1.c,g];exact this
 .rw[e,<-c9]at i;rcases hQ.2 _ _ i with h|h
  .let ⟨n,f⟩:=xP H h;exact .inl (zr H (B:=n*K (I a (Z a-1) 0))<|by rw[c9];exact f)
  .exact .inr h
structure Eh(p:G)(f:E V)(d:G):Prop where
 aL:Mon p f
 mJ:sk (fx f:Fx p)
 low:∀Q,bw Q->Q∣(fx f:Fx p)->d+1<=sz Q
structure tM(p:G)(f:E V)(d:G):Prop where
 aL:Mon p f
 mJ:sk (fx f:Fx p)
 Rl:∀Q,bw Q->Q∣(fx f:Fx p)->sz Q=d+1
def Eh.gI(H:bF p){f}{d}(a:Eh p f d)(b:2<=Z f)(g:Z f<=2*d):bw (fx f:Fx p):=
 ahT H (a.aL.lH H) (by rw[dc a.aL.c];exact b) a.low (by rw[dc a.aL.c];exact g)
def tM.gI(H:bF p){f}{d}(a:tM p f d)(b:2<=Z f)(k:Z f<=d+1)(l:1<=d):bw (fx f:Fx p):=
 ahT H (d:=d) (a.aL.lH H) (by rw[dc a.aL.c];exact b) (λQ g i=>by rw[a.Rl Q g i];exact aN _) (by rw[dc a.aL.c];omega)
def tM.ex(H:bF p){f}{d}(b:tM p f d)(i:2<=Z f):∃a,Mon p a/\bw (fx a:Fx p)/\(fx a:Fx p)∣fx f/\Z a=d+1:=by let ⟨Q,q1,g⟩:=uK H _ (fx f:Fx p) (dO _) (by rw[dc b.aL.c];exact i);let ⟨a,r1,k,l,n,m⟩:=ahU H q1;exact⟨a,r1,k,fG l g,by rw[m,b.Rl Q q1 g]⟩
def at6(H:bF p){f g}(b:Mon p f)(a:Mon p g):(aV f g p).1.length=Z f-(Z g-1):=by let ⟨_,_,_,_,_,h⟩:=nh H.hp H.le b.c.1 a.c a.ne;exact h
def uX(H:bF p){f g}(b:Mon p f)(a:Mon p g)(d:(fx g:Fx p)∣fx f):Mon p (aV f g p).1/\(fx f:Fx p)=fx (aV f g p).1*fx g/\(aV f g p).1.length+Z g=Z f+1/\Z g<=Z f:=by
 have i:Z g<=Z f:=by have:=kX H d<|b.lH H;rwa[dc a.c,dc b.c]at this
 have k:=a.pos;have:=at6 H b a;exact⟨WS H b a i,DU H b.c a.c a.ne d,Y,i⟩
def tM.parts(H:bF p){f g}{d}(a:tM p f d)(m:Mon p g)(i:(fx g:Fx p)∣fx f):tM p g d/\tM p (aV f g p).1 d:=by let ⟨q1,q2,n,s⟩:=uX H a.aL m i;have b:(fx (aV f g p).1:Fx p)∣fx f:=Q9;exact⟨⟨m,a.mJ.of_dvd i,λQ k l=>a.Rl Q k<|fG l i⟩,⟨q1,a.mJ.of_dvd b,λQ k l=>a.Rl Q k<|fG l b⟩⟩
def wQ.app{f g}{l m}{a}(b:wQ p g l)(d:wQ p f m)(i:(fx a:Fx p)=fx f*fx g):wQ p a (l++m):=
 ⟨λx k=>(bg.1 k).elim (b.parts x)<|d.parts x,by rw[LC,b.prod,d.prod,i,c8]⟩
def Eh.step(H:bF p){f n s}{d}(D:Eh p f d)(W:1<=d)(N:bJ p s)(v:(fx f:Fx p)∣fx n-pk X (p^d))(x:(fx s:Fx p)=fx n-X):tM p (gV p f s) d/\Eh p (aV f (gV p f s) p).1 (d+1)/\(fx (gV p f s):Fx p)∣fx f:=by
 let ⟨m1,i,C,U,V,K⟩:=Bv H D.aL.c N D.aL.ne;let ⟨q1,q2,j,o⟩:=uX H D.aL m1 i;generalize gV p f s=g at*;generalize (aV f g p).1=P at*;have a:(fx P:Fx p)∣fx f:=Q9;refine⟨⟨m1,D.mJ.of_dvd i,λQ k b=>?_⟩,⟨q1,D.mJ.of_dvd a,λQ k b=>?_⟩,i⟩
 .have T:=D.low Q k<|fG b i;have m:Q∣fx n-X:=by rw[<-x];exact fG b C
  have t:Q∣pk X (p^d)-X:=mH (oE<|fG (fG b i) v) m;have z:¬d+1<sz Q:=λu=>afK H k Y u t
  omega
 .have T:=D.low Q k<|fG b a;refine eR λr=>?_
  let ⟨q,r1,A,B,w,y⟩:=ahU H k;have l:(fx q:Fx p)∣fx f:=fG B<|fG b a;have m:=at5 H r1 A;rw[(Y:Z q-1=d)]at m;have t:(fx q:Fx p)∣fx s:=by rw[x];exact mH (fG l v) m
  have z:(fx q:Fx p)∣fx g:=by rw[K];exact iI (eW l U)<|eW t V
  exact D.mJ _ A (by rw[q2];exact zt (fG B b) z)
structure tN(p:G)(f a:E V):Prop where
 aL:Mon p a
 mJ:sk (fx a:Fx p)
 iff:∀Q,bw Q->(Q∣(fx f:Fx p)↔Q∣fx a)
 len:a.length<=f.length
def tN.one(H:bF p){f}(a:Mon p f)(i:Z f<=1):tN p f f:=
 ⟨a,λQ b d=>by have g:=kX H d<|a.lH H;have k:=dV H (b.ne H)<|b.ne H;have l:=b.1;rw[dc a.c]at g;omega,λQ _=>Iff.rfl,aN _⟩
def tN.root(H:bF p){f b}(d:Mon p f)(g:2<=Z f)(i:bG (fx f:Fx p)=0)(a:tN p (nX p f<|kF p<|Z f) b):tN p f b:=by
 let ⟨n,k,s,t⟩:=ahb H d g i;refine⟨a.aL,a.mJ,λQ hQ=>?_,by have:=a.len;omega⟩;rw[<-a.iff Q hQ,k];refine⟨Q8 H hQ p,λl=>?_⟩;obtain⟨q,m⟩:∃q,p=q+1:=⟨p-1,DR⟩;have e:pk (fx (nX p f<|kF p<|Z f):Fx p) p=pk (fx<|nX p f<|kF p<|Z f) (q+1):=by rw[<-m]
 rw[e];exact eW l _
def Yj(H:bF p){a b}(d:Mon p a)(f:Mon p b):Mon p (cX a b p)/\Z (cX a b p)+1=Z a+Z b:=by have i:=(oB H.pos a b);have n:=xW (p:=p) a b;have g:=dV H (d.lH H)<|f.lH H;rw[<-n,dc i,dc d.c,dc f.c]at g;have t:=d.pos;have u:=f.pos;refine⟨⟨i,λe=>by rw[e]at g;simp at g;omega,?_⟩,g⟩;have k:=(show aL a from⟨d.ne,d.one⟩).wH.mul (show aL b from⟨f.ne,f.one⟩).wH;have l:=(G5 a b (p:V)).at (Z a-1+(Z b-1));rw[k.one,H.one,cM]at l;have s:Z (cX a b p)-1=Z a-1+(Z b-1):=Y;rw[s];have m:=i.1<|Z a-1+(Z b-1);rwa[ix m.1 m.2]at l
def tN.step(H:bF p){f D g rest u}(i:Mon p f)(h2:2<=Z f)(l:bJ p D)(P:(fx D:Fx p)=bG (fx f))(x:D≠[])(eg:g=gV p f D)(d:tN p g rest)(ec:u=gV p (aV f g p).1 rest):Z g<Z f/\tN p f (cX (aV f g p).1 (aV rest u p).1 p):=by
 let ⟨m1,W,X,U,V,j⟩:=Bv H i.c l i.ne;rw[<-eg]at m1 W X j;have F:Z g<=Z f-1:=by
  have z:(fx D:Fx p)≠0:=λe=>by rw[<-lG]at e;exact x<|wG l (tx H.pos) e
  have G:=kX H X z;have A:=PX H (fx f:Fx p);rw[<-P,dc i.c]at A;rw[dc m1.c]at G;omega
 let ⟨q1,o,L,M⟩:=uX H i m1 W;have B:sk (fx (aV f g p).1:Fx p):=afL H (i.lH H) o (by rw[<-P];exact j);generalize (aV f g p).1=part at*;let ⟨C,q,r,S,T,y⟩:=Bv H q1.c d.aL.c q1.ne;rw[<-ec]at C q r y;let ⟨r1,m,O,R⟩:=uX H d.aL C r;generalize (aV rest u p).1=a at*;have e:(fx (cX part a p):Fx p)=fx part*fx a:=xW part a;let ⟨t1,t2⟩:=Yj H q1 r1;have pc:=C.pos;refine⟨Y,⟨t1,λQ hQ K=>?_,λQ hQ=>?_,by have:=d.len;omega⟩⟩
 .rw[e]at K;have N:Q∣fx part->Q∣fx a->False:=λb n=>by
   have s:Q∣fx rest:=by rw[m];exact nj n _
   have I:Q∣fx u:=by rw[y];exact iI (eW b S)<|eW s T
   exact d.mJ Q hQ (by rw[m];exact zt n I)
  by_cases k:Q∣fx part
  .let ⟨w,hw⟩:=k;let ⟨v,hv⟩:=K;have J:w*fx a=v*Q:=by refine zq H (hQ.ne H) (?_:w*fx a*Q=v*Q*Q);rw[hw]at hv;rw[c9 v,<-hv];ac_rfl
   rcases hQ.nW H ⟨v,J⟩with b|b
   .exact B Q hQ (by rw[hw];exact zt b<|oD Q)
   .exact N ⟨w,hw⟩ b
  .have t:Co Q (fx part):=(hQ.or H<|fx part).resolve_left k;have b:Q*Q∣fx a:=by have A:Co (fx part) (Q*Q):=t.symm.mul t.symm;exact A.symm.dvd (by exact K)
   exact d.mJ Q hQ (by rw[m];exact nj b _)
 .rw[e,o];have E:=d.iff Q hQ;refine⟨λk=>?_,λk=>?_⟩
  .rcases hQ.nW H k with k|k
   .exact nj k _
   .have n:=E.1 k;rw[m]at n;rcases hQ.nW H n with s|s
    .exact eW s _
    .exact nj (fG s q) _
  .rcases hQ.nW H k with k|k
   .exact nj k _
   .exact eW (E.2<|by rw[m];exact nj k _) _
def ahV(H:bF p){Q:Fx p}(hQ:bw Q):∀{l:E (E V)},Q∣iT p l->∃g∈l,Q∣fx g
 |[],a=>aJ a<|hQ.zs H
 |g::l,a=>by
  rcases hQ.nW H (show Q∣fx g*iT p l from a)with k|k
  .exact⟨g,ax,k⟩
  .let ⟨x,h1,h2⟩:=ahV H hQ k;exact⟨x,zw,h2⟩
def ahW(H:bF p){f i}{l}(n:tN p f i)(b:wQ p i l):D9 p f l:=by
 refine⟨λg d=>?_,?_⟩
 .let ⟨u,g2,s⟩:=b.parts g d;exact⟨u,g2,s,(n.iff _ s).2<|by rw[<-b.prod];exact Q5 p d⟩
 .have m:∀l:E (E V),(∀g∈l,bw (fx g:Fx p))->iT p l∣fx i->l.Pairwise λx y=>x≠y:=by
   intro l;induction l with
   |nil=>intro _ _;exact List.Pairwise.nil
   |cons g l v=>
    intro t a
    refine kI.2 ⟨λk z e=>?_,v (λx hx=>t x k7) (fG (jd _ _) a)⟩
    subst e
    exact n.mJ _ (t g ax)<|fG (zt (oD _)<|Q5 p z) a
  exact m _ (λg d=>(b.parts g d).2.2) (by rw[b.prod];exact oD _)
def ahX:∀(a:E (E V))(f:E V)(m:G)(l:E (E V×V)),(∀x∈l,x∈(iv p m a (f,l)).2)/\∀g∈a,∃n,(g,n)∈(iv p m a (f,l)).2
 |[],f,m,l=>⟨λx hx=>hx,λg d=>by cases d⟩
 |g::a,f,m,l=>by
  let ⟨b,h2⟩:=ahX a (pull p g (Z f+1) f 0).1 m<|l++[(g,(((pull p g (Z f+1) f 0).2:G):V)*(m:V))];rw[iv];refine⟨λx hx=>b x k7,λx hx=>?_⟩;rcases b9.1 hx with rfl|hx
  .exact⟨_,b _<|gx _<|iM.2 J⟩
  .exact h2 x hx
def at7(H:bF p){f s}{l}(B:Mon p f)(t:tN p f s)(d:wQ p s l):Ea p (fx f) (iv p 1 l (f,[])).2:=by
 obtain⟨a,j,o⟩:=X0 H l f [] (wR.start B) (ahW H t d);have b:∀Q,bw Q->Q∣fx (iv p 1 l (f,[])).1->False:=λQ hQ b=>by
  have C:Q∣fx f:=by rw[a.prod,se];exact nj b _
  have u:=(t.iff Q hQ).1 C;rw[<-d.prod]at u;obtain⟨g,x,D⟩:=ahV H hQ u;obtain⟨n,z⟩:=(ahX l f 1 []).2 g x;have K:=a.nd _ z;have i:=(d.parts g x).2.2;obtain⟨w,A⟩:=D;rcases i.2 _ _ A with e|e
  .obtain⟨v,N⟩:=xP H e;refine K<|fG ⟨v,?_⟩ b;show Q=v*fx g;rw[A,<-c9,N,cY]
  .have:=hQ.1;omega
 have P:=a.aL.pos;have T:(fx (iv p 1 l (f,[])).1:Fx p)=1:=by
  have k:(iv p 1 l (f,[])).1.length<=1:=by
   refine eR λz=>?_
   obtain⟨Q,q1,W⟩:=uK H _ (fx (iv p 1 l (f,[])).1:Fx p) (dO _) (by rw[dc a.aL.c];omega);exact b Q q1 W
  rw[<-DQ];congr 1;have m:=a.aL.one;generalize (iv p 1 l (f,[])).1=X at*;match X,k,P,m with
  |[c],_,_,m=>rw[show c=1 from m]
 refine⟨a.gI,a.ds,?_⟩;have:=a.prod;rw[T,se,cY]at this;exact this.symm
end
def np(a:E V)(d:V)(b:E V):E V:=(cy<|Z a).map λi=>I a i 0+d*I b i 0
def LM a d b:Z (np a d b)=Z a:=by simp[np]
def Rm a d b(f:Z b<=Z a) i:I (np a d b) i 0=I a i 0+d*I b i 0:=by
 by_cases c:i<Z a
 .unfold np;rw[aO,jn,lp c];rfl
 .rw[fQ _ (by rw[LM];omega),fQ a Y,fQ b Y,iy];rfl
def ahY a d b(f:Z b<=Z a):ps (np a d b)=ps a+PS.K d*ps b:=PS.ext λi=>by rw[PS.dP,PS.dL];exact Rm a d b f i
def Yk{a b}d(f:aL a)(g:Z b<Z a):aL (np a d b):=by refine⟨λe=>by have:=LM a d b;rw[e]at this;exact f.1<|gA this.symm,?_⟩;rw[LM,Rm a d b Y,f.2,fQ b Y,iy];rfl
section
variable{p:G}
structure wT(p:G)(f g h a K:E V)(b:G):Prop where
 Gm:aL a
 Gl:a.length=g.length
 Gp:(fx a:Fx p)=fx g
 Gr:∀i,0<=a.getD i 0/\a.getD i 0<(p:V)^b
 Km:aL K
 Kl:K.length=h.length
 Kp:(fx K:Fx p)=fx h
 Kr:∀i,0<=K.getD i 0/\K.getD i 0<(p:V)^b
 pr:Cg ((p:V)^b) (ps f) (ps a*ps K)
def wT.start{f g a}(b:Mon p g)(d:Mon p a)(l:(fx f:Fx p)=fx g*fx a):wT p f g a g a 1:=by have k:(p:V)^1=p:=Int.pow_one _;refine⟨⟨b.ne,b.one⟩,J,J,λi=>by rw[k];exact b.c.1 i,⟨d.ne,d.one⟩,J,J,λi=>by rw[k];exact d.c.1 i,?_⟩;rw[k];exact mk_eq.1<|show Fx.mk (ps f) (bC.ps p f)=Fx.mk (ps g*ps a) ((bC.ps p g).mul<|bC.ps p a)from l
def ahZ{b d}{a}(n:0<a)(f:∀i,0<=I b i 0/\I b i 0<a)(g:∀i,0<=I d i 0/\I d i 0<(p:V))(k:Z d<=Z b) i:0<=I (np b a d) i 0/\I (np b a d) i 0<a*p:=by rw[Rm b a d k];let ⟨a1,a2⟩:=f i;let ⟨l,s⟩:=g i;have t:0<=a*I d i 0:=ku Y l;have m:a*(I d i 0+1)<=a*p:=l6 Y Y;rw[pU,oy]at m;omega
def ah0{a d}{b}(f:Z d<=Z a)(g:(p:V)∣b):(fx (np a b d):Fx p)=fx a:=by refine P9<|Cg.of λi=>?_;obtain⟨z,rfl⟩:=g;rw[cM,cM,Rm _ _ _ f,jP,Pg]
def at8(H:bF p){g b a t}(d:Mon p g)(l:Mon p b)(Ts:2<=Z g)(he:bJ p a)(hl:Z a+2<=Z g+b.length)(ht:(fx g:Fx p)∣fx t*fx b-1):
  (aV (cX t a p) g p).2.length<Z g/\bJ p (aV (cX t a p) g p).2/\
  bJ p (aV (aU<|gU a (cX (aV (cX t a p) g p).2 b p) p) g p).1/\(aV (aU<|gU a (cX (aV (cX t a p) g p).2 b p) p) g p).1.length<b.length/\
  (fx a:Fx p)=fx (aV (cX t a p) g p).2*fx b+fx (aV (aU<|gU a (cX (aV (cX t a p) g p).2 b p) p) g p).1*fx g:=by
 have m:=oB H.pos t a
 let ⟨_,_,_,d4,d5,_⟩:=nh H.hp H.le m.1 d.c d.ne
 have D:=Qc H m d.c d.ne
 rw[xW]at D
 have n:=d5 m
 generalize (aV (cX t a p) g p).2=dg at*
 have u:(fx (aU<|gU a (cX dg b p) p):Fx p)=fx a-fx dg*fx b:=by rw[WO,xW]
 have i:bJ p (aU<|gU a (cX dg b p) p):=mh H.pos<|DG H.pos _ _
 generalize aU (gU a (cX dg b p) p)=s at*
 have X:(fx g:Fx p)∣fx s:=by rw[u];have j:(fx g:Fx p)∣fx dg*fx b-fx t*fx a*fx b:=nk D<|kA _ _;have K:(fx g:Fx p)∣fx a*(fx t*fx b)-fx a*1:=nk (kA _ _) ht;rw[fv]at K;have o:(fx g:Fx p)∣fx dg*fx b-fx a:=mH j (by have q:fx t*fx a*fx b=fx a*(fx t*fx b:Fx p):=fF;rw[q];exact K);exact oE o
 have v:=DU H i d.c d.ne X
 let ⟨_,N,_,_,_,z⟩:=nh H.hp H.le i.1 d.c d.ne
 have r:Z s+2<=Z g+b.length:=by
  have A:=Hd H.pos (fx a:Fx p)<|fx dg*fx b;rw[<-u,dc i,dc he]at A;have P:sz (fx dg*fx b:Fx p)+2<=Z g+b.length:=by
   have w:=l.pos;by_cases f:dg=[]
   .rw[f,lG,dw,je H.pos];omega
   .have y:(fx dg:Fx p)≠0:=λa=>f (wG n (tx H.pos)<|a.trans lG.symm)
    have:=dV H y<|l.lH H;rw[dc n,dc l.c]at this;omega
  omega
 have B:bJ p (aV s g p).1:=by
  refine⟨N,?_⟩;by_cases f:s=[]
  .left;refine gA ?_;rw[z,f];simp
  .have E:(fx s:Fx p)≠0:=λa=>f (wG i (tx H.pos)<|a.trans lG.symm)
   let ⟨x,hx,ex⟩:=jS H.pos (fx (aV s g p).1:Fx p);have k:(fx x:Fx p)≠0:=λa=>E (by rw[v,<-ex,a,dw])
   have A:=dV H k<|d.lH H;rw[ex,<-v,dc i,<-ex,dc hx,dc d.c]at A;right;have P:(aV s g p).1.length=Z x:=by rw[z];omega
   have Q:=afF ex<|Z x-1;have T:=N<|Z x-1;have W:=hx.1<|Z x-1;rw[ix T.1 T.2,ix W.1 W.2]at Q;rw[P,<-Q];rcases hx.2 with C|C
   .exact aJ (by rw[C,lG]) k
   .exact C
 refine⟨Y,n,B,?_,?_⟩
 .rw[z];have w:=l.pos;by_cases f:Z s<=Z g-1
  .omega
  .omega
 .rw[<-v,u,js,lE]
def wT.step(H:bF p){f g t l K s a d}{k}(m:wT p f g t l K k)(j1:1<=k) u(D:ps f=ps l*ps K+PS.K ((p:V)^k)*u)(Q:Cg p (ps s) u)
  (l1:Z a<Z g) (T:bJ p a) (l2:Z d<t.length) (c2:bJ p d) (he:(fx s:Fx p)=fx a*fx t+fx d*fx g):wT p f g t (np l ((p:V)^k) a) (np K ((p:V)^k) d) (k+1):=by
 have R:=H.hp.1
 have N:(0:V)<(p:V)^k:=ow Y
 have n:(p:V)∣(p:V)^k:=by obtain⟨i,rfl⟩:∃i,k=i+1:=⟨k-1,Y⟩;rw[gG];exact DX _ _
 have X:=m.Gl
 have c:=m.Kl
 have o:=ahZ (p:=p) N m.Gr T.1 Y
 have r:=ahZ (p:=p) N m.Kr c2.1 Y
 have E:=Yk ((p:V)^k) m.Gm (b:=a) Y
 have F:=Yk ((p:V)^k) m.Km (b:=d) Y
 have P:=ahY l ((p:V)^k) a Y
 have s2:=ahY K ((p:V)^k) d Y
 refine⟨E,by rw[LM,X],by rw[ah0 Y n,m.Gp],λi=>by rw[gG];exact o i,F,by rw[LM,c],by rw[ah0 Y n,m.Kp],λi=>by rw[gG];exact r i,?_⟩
 rw[gG]
 obtain⟨q,eq⟩:∃q,q=(p:V)^k:=⟨_,J⟩
 rw[<-eq]at D P s2 n⊢
 have v:Cg p u (ps a*ps K+ps d*ps l):=by
  refine Q.symm.trans ?_;have x:(fx s:Fx p)=fx a*fx K+fx d*fx l:=by rw[he,m.Kp,m.Gp]
  exact mk_eq.1<|show Fx.mk (ps s) (bC.ps p s)=Fx.mk (ps a*ps K+ps d*ps l) (((bC.ps p a).mul<|bC.ps p K).add<|(bC.ps p d).mul<|bC.ps p l)from x
 rw[P,s2]
 have x:(ps l+PS.K q*ps a)*(ps K+PS.K q*ps d)=ps l*ps K+PS.K q*(ps a*ps K+ps d*ps l)+PS.K q*(PS.K q*(ps a*ps d)):=by simp only[PS.fE,PS.gh];ac_rfl
 rw[x]
 refine Cg.Wc λi=>?_
 let ⟨z,S⟩:=v.dvd i
 let ⟨y,L⟩:=n
 rw[D,PS.dP,PS.dP,PS.dP,PS.dL,PS.dL,PS.dL,PS.dL]
 refine⟨z-y*(ps a*ps d) i,?_⟩
 generalize (ps a*ps K+ps d*ps l) i=A at*
 generalize (ps a*ps d) i=B at*
 generalize u i=W at*
 generalize (ps l*ps K) i=C at*
 have M:W=A+p*z:=Y
 rw[M,GN,pU]
 have O:q*(q*B)=q*p*(y*B):=by
  conv=>lhs;rw[fo q (q*B)]
  rw[L];ac_rfl
 rw[O,jP q (p:V) z]
 omega
end
def at9{p}{l a}(b:l.Perm a):jt p l=jt p a:=by
 induction b with
 |nil=>rfl
 |cons x _ d=>rw[jt,jt,d]
 |swap x y l=>rw[jt,jt,jt,jt,<-c9,<-c9,c8<|pk (fx y.1) _]
 |trans _ _ f h2=>rw[f,h2]
def Ea.perm{p}{f}{l g}(a:Ea p f l)(b:g.Perm l):Ea p f g:=
 ⟨λx i=>a.parts x<|b.mem_iff.1 i,b.symm.pairwise a.ds (λd e=>d e.symm),(at9 b).trans a.prod⟩
def x8{p}(H:bF p){f a}(d:bJ p a)(g:bJ p f)(b:f≠[]):bJ p (aV a f p).2/\(aV a f p).2.length<Z f/\(fx f:Fx p)∣fx (aV a f p).2-fx a:=by let ⟨d1,d2,d3,d4,d5,d6⟩:=nh H.hp H.le d.1 g b;have i:=cR.2 b;exact⟨d5 d,Y,Qc H d g b⟩
def Rn{p}(H:bF p) f a(n:G)(lf:Z f<=200)(l:bJ p f)(d:f≠[])(P:bJ p a)(T:Z a<=200)(W:n<18446744073709551616):
  aq r 251 [S au a,cU n,S au f,cU p] (S au<|iS H f<|pk (fx a) n):=by
 refine aS Tryz.func251 ?_
 have X:=H.hp.1
 have Q:=H.le
 have A:bJ p [1]:=⟨G9 Y Y,by show can _;exact .inr (o:(1:V)≠0)⟩
 let ⟨q1,c,j⟩:=x8 H A l d
 let ⟨q,y,I⟩:=x8 H P l d
 have v:=uH p H.hp H.le [1] f ax Y A l d
 have z:=uH p H.hp H.le a f Y Y P l d
 refine e J<|w<|rl au [1] J J (rc J J v<|O J<|bL J J z J<|h<|e J ?_)
 refine aA<|bx (α:=E V×E V×G) (λx=>⟨[(2,S au f),(3,cU p),(9,S au x.1),(10,S au x.2.1),(11,cU x.2.2)],[],5,[]⟩) (λx=>bJ p x.1/\bJ p x.2.1/\Z x.1<Z f/\Z x.2.1<Z f/\x.2.2<18446744073709551616/\(fx f:Fx p)∣fx x.1*pk (fx x.2.1) x.2.2-pk (fx a) n) (λx=>x.2.2) ((aV [1] f p).2,(aV a f p).2,n) ⟨q1,q,c,y,W,?_⟩ aY ?_
 .have:=nk j<|K6 I n;rwa[DQ,cY]at this
 rintro⟨i,b,m⟩ ⟨v,z,D,lb,hm,hc⟩
 simp only at v z D lb hm hc
 have g:=XT H (a:=b) (b:=b) l d
 have L:=xM b b p
 have B:=wu b b p Y Y Y Y z.1 z.1
 have C:=uH p H.hp H.le (cX b b p) f Y Y (oB H.pos b b) l d
 refine h<|e J<|F J (λs=>?_)<|λs=>?_
 .have s:0<m:=by have s:(m:V)>0:=aX s;omega
  refine aG<|h<|aA<|h<|e J (hp:=aH)<|F J (λt=>?_)<|λt=>?_
  .have t:(m:V).tmod 2=1:=eS t;have R:m%2=1:=by rw[show(2:V)=((2:G):V)from J,nQ]at t;omega
   obtain⟨k,rfl⟩:∃k,m=2*k+1:=⟨m/2,Y⟩;have u:=XT H (a:=i) (b:=b) l d;have U:=xM i b p;have K:=wu i b p Y Y Y Y v.1 z.1;have N:=uH p H.hp H.le (cX i b p) f Y Y (oB H.pos i b) l d;refine cL<|rc J J K<|rc J J N<|O J<|aR ?_;refine cL<|rc J J B<|rc J J C<|O J<|bU<|rt J (hp:=aH)<|a6 (x7 p f i b,x7 p f b b,k) ⟨u.1,g.1,u.2.1,g.2.1,by show k<_;omega,?_⟩ (Y:k<2*k+1)<|wk ⟨sR J,sR J,sR J,sR J,sE J ?_,M⟩ M
   .show fx f∣fx (x7 p f i b)*pk (fx<|x7 p f b b) k-pk (fx a) n;refine mH (nk u.2.2<|K6 g.2.2 k) ?_;rw[wA,c9,<-Bp];have cJ:fx b*pk (fx b) (k+k)=(pk (fx b) (2*k+1):Fx p):=by rw[c8,(Y:k+k=2*k)];rfl
    rw[cJ];exact hc
   .exact bY<|(DA (2*k+1) hm).trans (Y:((((2*k+1)/2:G)):V)=(k:V))
  .have t:(m:V).tmod 2≠1:=pa t;have C':m%2=0:=by rw[show(2:V)=((2:G):V)from J,nQ]at t;omega
   obtain⟨k,rfl⟩:∃k,m=2*k:=⟨m/2,Y⟩;refine aG ?_;refine cL<|rc J J B<|rc J J C<|O J<|bU<|rt J (hp:=aH)<|a6 (i,x7 p f b b,k) ⟨v,g.1,D,g.2.1,by show k<_;omega,?_⟩ (Y:k<2*k)<|wk ⟨sR J,sR J,sR J,sR J,sE J ?_,M⟩ M
   .show fx f∣fx i*pk (fx<|x7 p f b b) k-pk (fx a) n;refine mH (nk (kA _<|fx i)<|K6 g.2.2 k) ?_;rw[wA,<-Bp,(Y:k+k=2*k)];exact hc
   .exact bY<|(DA (2*k) hm).trans (Y:((((2*k)/2:G)):V)=(k:V))
 .have s:m=0:=by have s:¬(m:V)>0:=bh s;omega
  subst s;rw[pk,fv]at hc;rw[as' H l d v D hc];exact bD<|aR<|e J<|di J
def zX(a b:E V):E V:=(cy<|max (Z a)<|Z b).map λi=>I a i 0+I b i 0
def ah1 a b:Z (zX a b)=max (Z a) (Z b):=by simp[zX]
def at' a b p(A:Z a<=1000)(B:Z b<=1000)(l:0<p)(D:p<=2147483648)(s:rp p a)(t:rp p b):aq r 300 [S au a,S au b,cU p] (S au<|aU<|md p<|zX a b):=by
 refine aS Tryz.func300 ?_;generalize hM:max (Z a) (Z b)=M;have u:=ah1 a b;have f:∀i,i<M->I (zX a b) i 0=I a i 0+I b i 0:=λi v=>by unfold zX;rw[aO,jn,lp Y];rfl
 have m:∀i,0<=I (zX a b) i 0:=λi=>by
  by_cases d:i<M
  .rw[f i d];have x:=s i;have h2:=t i;omega
  .rw[fQ _ Y];exact iD _
 rw[hM]at u;generalize zX a b=L at*;refine e J<|w<|ij au [] J J (O J<|h<|e J ?_);refine aA<|bx (α:=G) (λi=>⟨[(0,S au a),(1,S au b),(2,cU p),(7,.c<|.X 1000000),(8,y i)],[(1000000,.vec 150 au<|c i L)],3,[]⟩) (λi=>i<=M) (λi=>M-i) 0 (bm _) aY ?_;intro i v;have C:(c i L).length=i:=b6;by_cases g:i<M
 .refine nP ⟨[(0,S au a),(1,S au b),(2,cU p),(7,.c<|.X 1000000),(8,y i)],[(1000000,.vec 150 au<|c i L)],4,[]⟩ ?_ (λk=>w<|rg 14 J J (λd=>O J<|F J (λ_=>dk<|fp k aY)<|λh2=>sc)<|λd=>O J<|F J (λ_=>dk<|fp k aY)<|λh2=>?_)
  .have x:=s i;have h2:=t i;refine h<|aA<|cL ?_;refine rc J J (Ky a i)<|rc J J (Ky b i) ?_;refine rl au [_] J J (ra J J J J J J J J J ?_ ?_<|O J ?_)
   .show(_+1+(_+1)/4+192)*8<=_;omega
   .show(_+1)*1<=_;omega
   refine bU<|rt J<|a6 (i+1) g yY<|Wk.trans (wk (st':=⟨[(0,S au a),(1,S au b),(2,cU p),(7,.c<|.X 4009000),(8,y ((i+1:G):V))],[(4009000,.vec 150 au<|c (i+1) L)],8,[]⟩) (bP J) ⟨bE J ?_,ll⟩)<|Wk.trans (iw 1000000 4009000 J J J) aY;refine bl (aC.vec 150 au) ?_;rw[tv _ i Y,f i g,be _ Y Y]
  .exfalso;have d:¬(i:V)<(Z a:V):=bh d;have h2:¬(i:V)<(Z b:V):=bh h2;omega
 .have n:i=M:=by omega
  subst n;have z:=zh L p Y l Y m;rw[jy Y];refine h<|w<|rg 14 J J (λd=>?_)<|λd=>?_
  .exfalso;have d:(i:V)<(Z a:V):=aX d;omega
  .refine O J (F J (λh2=>?_)<|λh2=>?_)
   .exfalso;have h2:(i:V)<(Z b:V):=aX h2;omega
   .exact bD<|aR<|dm 1000000 J J J<|bL J J z J<|di J
def ah2 f(p:G)(v:Z f<=1000)(a:0<p)(x:p<=2147483648)(m:rp p f):aq r 173 [S au f,cU p] (S au<|aU<|k4 p f):=by
 refine aS Tryz.func173 ?_;have z:=LF p f;have d:=λi(g:i<Z f-1)=>XW p f g
 have k:=zh (k4 p f) p Y Y Y<|λi=>(LG a f i).1;rw[KA (LG a f)]at k;generalize k4 p f=L at*;refine e J<|w<|ij au [] J J (O J<|h<|e J ?_);refine aA<|bx (α:=G) (λi=>⟨[(0,S au f),(1,cU p),(5,.c<|.X 1000000),(6,y ((i+1:G):V))],[(1000000,.vec 150 au<|c i L)],3,[]⟩) (λi=>i<=Z f-1) (λi=>Z f-i) 0 (bm _) aY ?_;intro i g;have A:(c i L).length=i:=b6;refine h<|e J<|F J (λb=>?_)<|λb=>?_
 .have b:i+1<Z f:=by have b:((i+1:G):V)<(Z f:V):=aX b;omega
  have n:ah (((i+1:G):V))=i+1:=cx _;have s:=m<|i+1;refine aG<|h<|aA<|cL ?_;refine rl au [_] J J (ra J J J J J J J J J ?_ ?_<|O J ?_) (hp:=aH)
  .show(_+1+(_+1)/4+192)*8<=_;omega
  .show(_+1)*1<=_;omega
  refine bU<|rt J<|a6 (i+1) Y (Y:Z f-(i+1)<Z f-i)<|Wk.trans (wk (st':=⟨[(0,S au f),(1,cU p),(5,.c<|.X 4013000),(6,y ((i+1+1:G):V))],[(4013000,.vec 150 au<|c (i+1) L)],8,[]⟩) (bP J) ⟨bE J ?_,M⟩)<|Wk.trans (iw 1000000 4013000 J J J) aY;refine bl (aC.vec 150 au) ?_;have t:(ay .u64 ((i+1:G):V)).tmod p=(((i+1)%p:G):V):=by rw[be _ Y Y,nQ]
  have B:(((i+1)%p:G):V)<p:=by have:=gJ (i+1) a;omega
  have l:0<=I f (i+1) 0*(((i+1)%p:G):V):=ku s.1 Y;have C:I f (i+1) 0*(((i+1)%p:G):V)<=2147483648*2147483648:=y8 Y Y Y Y;have u:(ay .u64<|I f (ah ((i+1:G):V)) au.et*(ay .u64 ((i+1:G):V)).tmod p).tmod p=I L i 0:=by rw[t,n,d i Y];show(ay .u64<|I f (i+1) 0*(((i+1)%p:G):V)).tmod p=_;rw[be _ l Y,l7 l,fo]
  rw[u,tv _ i Y]
 .have b:¬((i+1:G):V)<(Z f:V):=bh b;rw[jy Y];exact bD<|aR<|dm 1000000 J J J<|bL J J k J<|di J
def lr(p:G):G->G->E V
 |0,_=>[]
 |s+1,n=>if n=0 then[]else((n%p:G):V)::lr p s (n/p)
def Ro p s:lr p s 0=[]:=by cases s<;>rfl
def Yl{p:G}(d:2<=p):∀s n,n<2^s->bJ p (lr p s n)/\Z (lr p s n)<=s
 |0,n,_=>⟨tx Y,aN _⟩
 |s+1,n,f=>by
  rw[lr];split
  .exact⟨tx Y,bm _⟩
  .rename_i g;have a:n/p<2^s:=by have b:n/p<=n/2:=aua d o;rw[gK]at f;omega
   let ⟨⟨i1,i2⟩,i3⟩:=Yl d s (n/p) a;refine⟨⟨λi=>?_,?_⟩,b6⟩
   .cases i with
    |zero=>
     have:=gJ n (Y:0<p)
     show 0<=((n%p:G):V)/\((n%p:G):V)<p
     omega
    |succ i=>exact i1 i
   .right;by_cases b:n/p=0
    .rw[b,Ro];have:n<p:=by rwa[Nat.div_eq_zero_iff_lt Y]at b
     show((n%p:G):V)≠0;rw[qK this];omega
    .rcases i2 with i2|i2
     .exfalso;have:lr p s (n/p)≠[]:=by
       cases s with
       |zero=>exact aJ a (by rw[pW];have:=pT b;omega)
       |succ s=>rw[lr,j b];simp
      exact this i2
     .rw[iK,eD];generalize lr p s (n/p)=l at*;cases l with
      |nil=>exact aJ J i2
      |cons c l=>exact i2
def mM(p:G):E V->G
 |[]=>0
 |a::l=>ah a+p*mM p l
def ah3{p:G}(l:0<p):∀(s:G)(a:E V),Z a<=s->bJ p a->lr p s (mM p a)=a
 |s,[],_,_=>Ro p s
 |0,b::a,f,_=>by simp at f
 |s+1,b::a,f,hq=>by
  have t:0<=b/\b<p:=hq.1 0;have m:bJ p a/\(a=[]->b≠0):=by
   refine⟨⟨λi=>hq.1<|i+1,?_⟩,λe=>?_⟩
   .rcases hq.2 with e|e
    .cases e
    .cases a with
     |nil=>exact .inl J
     |cons d a=>exact .inr e
   .subst e;rcases hq.2 with e|e
    .cases e
    .exact e
  have g:=ah3 l s a (by simp at f;omega) m.1;have n:mM p (b::a)%p=ah b:=by rw[mM,Nat.add_mul_mod_self_left,qK Y]
  have k:mM p (b::a)/p=mM p a:=by rw[mM,Nat.add_mul_div_left _ _ l,Dt Y,fc]
  have u:mM p (b::a)≠0:=λe=>by rw[e,Nat.zero_div]at k;rw[e,Nat.zero_mod]at n;rw[<-k,Ro]at g;exact m.2 g.symm Y
  rw[lr,j u,n,k,g,xp t.1]
def ah4{p:G}:∀a:E V,(∀i,0<=I a i 0/\I a i 0<(p:V))->mM p a<p^Z a
 |[],_=>by simp[mM]
 |b::a,d=>by
  have k:0<=b/\b<p:=d 0;have f:=ah4 a λi=>d<|i+1
  have g:=ja p (show mM p a+1<=p^Z a from f);rw[mM,iK,gK,ic<|p^_];rw[Bl]at g;omega
def ah5{p:G}(b:V):∀a:E V,mM p (a++[b])=mM p a+p^Z a*ah b
 |[]=>by simp[mM]
 |d::a=>by rw[lO,mM,ah5 b a,mM,iK,gK,Bl];have:p*(p^Z a*ah b)=p^Z a*p*ah b:=fF;omega
def aub{p}{a}(b:Mon p a):p^(Z a-1)<=mM p a/\mM p a<2*p^(Z a-1):=by
 obtain⟨d,rfl⟩:∃d,a=d++[1]:=⟨a.dropLast,by
  have e:=Yi b.ne;have f:a.getLast b.ne=1:=by have:=b.one;have g:=b.pos;rw[aO,cT Y]at this;rw[List.getLast_eq_getElem];exact this
  rw[f]at e;exact e.symm⟩
 have k:=ah4 (p:=p) d λi=>by
  by_cases h:i<Z d
  .have:=b.c.1 i;rwa[aO,E3 h,<-aO]at this
  .rw[fQ _ Y];have:=b.c.1 0;omega
 rw[ah5,iL,oV,eD];have:ah (1:V)=1:=rfl;rw[this,qG];omega
def auc(p n:G)(g:2<=p)(i:p<=2147483648)(t:n<18446744073709551616):aq r 286 [cU n,cU p] (S au<|lr p 64 n):=by
 refine aS Tryz.func286 ?_;refine e J<|w<|ij au [] J J (O J<|h<|e J ?_);refine aA<|bx (α:=E V×G) (λx=>⟨[(1,cU p),(5,.c<|.X 1000000),(6,cU x.2)],[(1000000,.vec 150 au x.1)],3,[]⟩) (λx=>Z x.1<=64/\x.2<2^(64-Z x.1)/\lr p 64 n=x.1++lr p (64-Z x.1) x.2) (λx=>x.2) ([],n) ⟨bm _,t,J⟩ aY ?_;rintro⟨a,m⟩ ⟨u,h2,d⟩;simp only at u h2 d;have z:m<18446744073709551616:=fY h2<|eU (n:=2) o (Y:64-Z a<=64);refine h<|e J<|F J (λb=>?_)<|λb=>?_
 .have b:0<m:=by have b:(m:V)>0:=aX b;omega
  have A:Z a<64:=by
   rcases rq (Z a) 64 with l|l
   .exact l
   .rw[(Y:64-Z a=0)]at h2;omega
  obtain⟨k,s⟩:∃k,64-Z a=k+1:=⟨63-Z a,Y⟩;have f:m/p<m:=Nat.div_lt_self b g;refine aG<|h<|aA<|cL ?_;refine rl au [_] J J (ra J J J J J J J J J ?_ ?_<|O J ?_) (hp:=aH)
  .show(Z a+1+(Z a+1)/4+192)*8<=_;omega
  .show(Z a+1)*1<=_;omega
  refine bU<|rt J (a6 (a++[((m%p:G):V)],m/p) ⟨b6,?_,?_⟩ f<|Wk.trans (wk (st':=⟨[(1,cU p),(5,.c<|.X 4005000),(6,cU ((m/p:G):V))],[(4005000,.vec 150 au<|a++[((m%p:G):V)])],8,[]⟩) ⟨sR J,sR J,sE J ?_,M⟩ ⟨bE J ?_,M⟩)<|Wk.trans (iw 1000000 4005000 J J J) aY) (hp:=aH)
  .simp only[iL,oV];rw[s,gK]at h2;rw[(Y:64-(Z a+1)=k)];have B:m/p<=m/2:=aua g o;omega
  .simp only[iL,oV];rw[d,s,lr,j Y,(Y:64-(Z a+1)=k),mX];rfl
  .refine bY (show ay .u64 ((m:V).tdiv p)=((m/p:G):V)from ?_);have v:(0:V)<=((m/p:G):V):=sj _;rw[<-Int.ofNat_tdiv,be _ v Y]
  .show aC.vec 150 au (a++[(m:V).tmod p])=_;rw[nQ]
 .have b:m=0:=by have b:¬(m:V)>0:=bh b;omega
  subst b;rw[Ro,iO]at d;rw[d];exact bD<|aR<|dm 1000000 J J J<|e J<|di J
section
variable{p:G}(H:bF p)
def q'(f:E V):G->E V×E V->E V×E V
 |0,x=>x
 |k+1,x=>let a:=q' f k x;let w:=iS H f<|pk (fx a.2) 2;(aU<|md p<|zX a.1 w,w)
def k5(f:E V):G->E V×E V->E V×E V
 |0,x=>x
 |k+1,x=>let a:=k5 f k x;let w:=iS H f<|pk (fx a.2) p;(x7 p f a.1 w,w)
def BS(t f:E V)(d:G):E V:=
 let r:=(aV t f p).2
 if p=2 then(q' H f (d-1) (r,r)).1 else aU (gU (iS H f<|pk (fx (k5 H f (d-1) (r,r)).1)<|(p-1)/2) [1] p)
variable{f:E V}(hf:bJ p f)(kE:f≠[])
include hf kE
def Ym{x:E V×E V}(a:bJ p x.1)(b:bJ p x.2)(d:Z x.1<Z f)(g:Z x.2<Z f):∀k,bJ p (q' H f k x).1/\bJ p (q' H f k x).2/\(q' H f k x).1.length<Z f/\(q' H f k x).2.length<Z f
 |0=>⟨a,b,d,g⟩
 |k+1=>by let ⟨i1,i2,i3,i4⟩:=Ym a b d g k;let ⟨m1,i,_⟩:=zQ H hf kE<|pk (fx (q' H f k x).2) 2;have l:=qP<|md p<|zX (q' H f k x).1<|iS H f<|pk (fx (q' H f k x).2) 2;rw[zg,ah1]at l;exact⟨mh H.pos<|DF H.pos _,m1,by show Z (aU _)<_;omega,i⟩
def aud{x:E V×E V}(d:bJ p x.1)(g:bJ p x.2)(i:Z x.1<Z f)(l:Z x.2<Z f):∀k,bJ p (k5 H f k x).1/\bJ p (k5 H f k x).2/\(k5 H f k x).1.length<Z f/\(k5 H f k x).2.length<Z f
 |0=>⟨d,g,i,l⟩
 |k+1=>by let ⟨m1,m,_⟩:=zQ H hf kE<|pk (fx (k5 H f k x).2) p;let ⟨n,s,_⟩:=XT H (a:=(k5 H f k x).1) (b:=iS H f<|pk (fx (k5 H f k x).2) p) hf kE;exact⟨n,m1,s,m⟩
def ah6{t:E V}(g:bJ p t)(d:G):bJ p (BS H t f d)/\Z (BS H t f d)<=Z f:=by
 let ⟨r1,a,_⟩:=x8 H g hf kE;unfold BS;split
 .let ⟨i1,_,i3,_⟩:=Ym H hf kE (x:=((aV t f p).2,(aV t f p).2)) r1 r1 a a<|d-1;exact⟨i1,Di i3⟩
 .have b:=qP<|gU (iS H f<|pk (fx (k5 H f (d-1) ((aV t f p).2,(aV t f p).2)).1)<|(p-1)/2) [1] p;have i:=(zQ H hf kE<|pk (fx (k5 H f (d-1) ((aV t f p).2,(aV t f p).2)).1)<|(p-1)/2).2.1;rw[PI,oV]at b;exact⟨mh H.pos<|DG H.pos _ _,bZ b Y⟩
def aue{t:E V}(D:bJ p t)(lt:Z t<=200)(s:Z f<=200)(d:G)(d1:1<=d)(d2:d<=1000):aq r 287 [S au t,y d,S au f,cU p] (S au<|BS H t f d):=by
 refine aS Tryz.func287 ?_;have P:=H.hp.1;have C:=H.le;have Q:=cR.2 kE;let ⟨r1,n,_⟩:=x8 H D hf kE;have K:=uH p H.hp H.le t f Y Y D hf kE;obtain⟨k,rfl⟩:∃k,d=k+1:=⟨d-1,Y⟩;unfold BS;rw[eD];have hE:=λk=>Ym H hf kE (x:=((aV t f p).2,(aV t f p).2)) r1 r1 n n k
 have T:=λk=>aud H hf kE (x:=((aV t f p).2,(aV t f p).2)) r1 r1 n n k
 generalize (aV t f p).2=a at*;refine e J<|h<|e J<|F J (λb=>?_)<|λb=>aG ?_
 .have b:(p:V)=2:=eS b;rw[q Y];refine bL J J K J<|e J<|h<|e J ?_;refine aA<|bx (α:=G) (λi=>⟨[(1,y ((k+1:G):V)),(2,S au f),(3,cU p),(9,S au (q' H f i (a,a)).1),(10,S au (q' H f i (a,a)).2),(11,y ((i+1:G):V))],[],6,[]⟩) (λi=>i<=k) (λi=>k-i) 0 (bm _) aY ?_;intro i W;let ⟨l,m,X,c⟩:=hE i;refine h (e J<|F J (λb=>?_)<|λb=>?_)
  .have b:((i+1:G):V)<((k+1:G):V):=aX b;have g:=Rn H f (q' H f i (a,a)).2 2 s hf kE m Y o;let ⟨m1,N,_⟩:=zQ H hf kE<|pk (fx (q' H f i (a,a)).2) 2;have u:=at' (q' H f i (a,a)).1 (iS H f<|pk (fx (q' H f i (a,a)).2) 2) p Y Y H.pos Y l.1 m1.1;refine aG<|h<|aA<|bL J J g J<|cL<|rc J J u<|O J<|bU<|rt J (hp:=aH)<|a6 (i+1) Y Qe aY
  .have b:¬((i+1:G):V)<((k+1:G):V):=bh b;have v:i=k:=Y;subst v;exact bD<|aR<|e J<|bX<|da<|atR J
 .have b:(p:V)≠2:=pa b;rw[j Y];refine bL J J K J<|e J<|h<|e J ?_;refine aA<|bx (α:=G) (λi=>⟨[(1,y ((k+1:G):V)),(2,S au f),(3,cU p),(12,S au (k5 H f i (a,a)).1),(13,S au (k5 H f i (a,a)).2),(14,y ((i+1:G):V))],[],6,[]⟩) (λi=>i<=k) (λi=>k-i) 0 (bm _) aY ?_;intro i W;let ⟨l,m,X,c⟩:=T i;refine h (e J<|F J (λb=>?_)<|λb=>?_)
  .have b:((i+1:G):V)<((k+1:G):V):=aX b;have g:=Rn H f (k5 H f i (a,a)).2 p s hf kE m Y Y;let ⟨m1,N,_⟩:=zQ H hf kE<|pk (fx (k5 H f i (a,a)).2) p;have z:=wu (k5 H f i (a,a)).1 (iS H f<|pk (fx (k5 H f i (a,a)).2) p) p Y Y Y Y l.1 m1.1;have I:=xM (k5 H f i (a,a)).1 (iS H f<|pk (fx (k5 H f i (a,a)).2) p) p;have A:=uH p H.hp H.le (cX (k5 H f i (a,a)).1 (iS H f<|pk (fx (k5 H f i (a,a)).2) p) p) f Y Y (oB H.pos _ _) hf kE;refine aG<|h<|aA<|bL J J g J<|cL<|rc J J z<|rc J J A<|O J<|bU<|rt J (hp:=aH)<|a6 (i+1) Y Qe aY
  .have b:¬((i+1:G):V)<((k+1:G):V):=bh b;have v:i=k:=Y;subst v;have m:ay .u64 ((ay .u64<|(p:V)-1).tdiv 2)=(((p-1)/2:G):V):=by have l:ay .u64 ((p:V)-1)=(p:V)-1:=be _ Y Y;rw[l,(Y:(p:V)-1=((p-1:G):V))];exact DA (p-1) Y
   have g:aq r 251 [S au (k5 H f i (a,a)).1,cU<|ay .u64<|(ay .u64<|(p:V)-1).tdiv 2,S au f,cU p] (S au<|iS H f<|pk (fx (k5 H f i (a,a)).1)<|(p-1)/2):=by rw[m];exact Rn H f _ _ s hf kE l Y Y
   let ⟨m1,N,_⟩:=zQ H hf kE<|pk (fx (k5 H f i (a,a)).1)<|(p-1)/2;have B:=KB (iS H f<|pk (fx (k5 H f i (a,a)).1)<|(p-1)/2) [1] p Y ax Y Y m1.1 (G9 Y Y);refine bD<|aR ?_;exact w<|rc J J g<|rl au [1] J J (rc J J B<|O J<|di J)
end
section
variable{p:G}(H:bF p)
def gE(f:E V)(d n:G):E V:=
 let g:=gV p f (aV (lr p 64 n) f p).2
 if Z g=1\/Z g=Z f then gV p f (BS H (lr p 64 n) f d)else g
variable{f:E V}{d:G}
def ah7(a:Mon p f){n:G}(b:n<18446744073709551616):Mon p (gE H f d n)/\(fx (gE H f d n):Fx p)∣fx f:=by
 let ⟨t1,t2⟩:=Yl H.hp.1 64 n b;let ⟨r1,l,_⟩:=x8 H t1 a.c a.ne;let ⟨m1,g,_⟩:=Bv H a.c r1 a.ne;let ⟨i,k,_⟩:=Bv H a.c (ah6 H a.c a.ne t1 d).1 a.ne;unfold gE;dsimp only;split
 .exact⟨i,k⟩
 .exact⟨m1,g⟩
def auf(b:tM p f d)(s:1<=d)(N:2*p^d<=18446744073709551616)(P:d+1<Z f):∃n,(p<=n/\n<18446744073709551616/\1<Z (gE H f d n)/\Z (gE H f d n)<Z f)/\∀k,k<n->¬(p<=k/\k<18446744073709551616/\1<Z (gE H f d k)/\Z (gE H f d k)<Z f):=by
 refine Yh ?_;let ⟨a,q1,K,t,u⟩:=b.ex H Y;let ⟨v1,v2⟩:=aub q1;rw[u,eD]at v1 v2;have g:=H.hp.1;have v:p<=p^d:=by have:=eU (Y:0<p) s;rwa[Nat.pow_one]at this
 have m:d<64:=by
  have Q:2^d<=p^d:=zA g d;rcases rq d 64 with e|e
  .exact e
  .have T:2^64<=2^d:=eU o e;omega
 have i:=ah3 (p:=p) Y 64 a Y q1.c;have l:(aV a f p).2=a:=by unfold aV;rw[q Y]
 let ⟨m1,W,x,U,V,z⟩:=Bv H b.aL.c q1.c b.aL.ne;have A:Z (gV p f a)=d+1:=by
  have B:(fx a:Fx p)∣fx (gV p f a):=by rw[z];exact iI (eW t U)<|jd _ _
  have C:=kX H B<|m1.lH H;have D:=kX H x<|q1.lH H;rw[dc m1.c,dc q1.c]at C D;omega
 have e:gE H f d (mM p a)=gV p f a:=by unfold gE;rw[i,l,j Y]
 exact⟨mM p a,Y,Y,by rw[e];omega,by rw[e];omega⟩
include H in
def Yn(v:1<=d)(Q:d<=1000)(T:2*p^d<=18446744073709551616):∀(N:G)(f:E V),Z f<N->Z f<=200->tM p f d->2<=Z f->∃l,wQ p f l/\Z l+1<=Z f/\pS r 253 [S au f,y d,cU p] 167 (.sl au) l
 |0,_,h,_,_,_=>by omega
 |N+1,f,hN,lf,h,h2=>by
  have x:=H.hp.1;have z:=H.le;by_cases W:Z f<=d+1
  .refine⟨[f],⟨λg X=>?_,by rw[iT,iT,fv]⟩,b6,?_⟩
   .have m:=iM.1 X;subst m;exact⟨h.aL,h2,h.gI H h2 W v⟩
   .refine JO Tryz.func253 J J J J o ?_;refine e J (bA<|e J<|F J (λh=>?_)<|λh=>?_)
    .exact w<|ij (.sl au) [f] J J (O J<|bX<|da<|JN (id:=2001000) cp J J)
    .exfalso;have h:¬(Z f:V)-1<=(d:V):=bh h;omega
  .let ⟨n0,⟨n1,n2,n3,n4⟩,A⟩:=auf H h v T Y;let ⟨R,g2⟩:=ah7 H (d:=d) h.aL n2;let ⟨a1,a2⟩:=h.parts H R g2;let ⟨q1,q2,q3,q4⟩:=uX H h.aL R g2;let ⟨l1,o1,m1,U⟩:=Yn v Q T N _ Y Y a1 Y;let ⟨l2,o2,m2,k2⟩:=Yn v Q T N _ Y Y a2 Y;refine⟨l1++l2,o1.app o2 q2,by rw[iL];omega,?_⟩;refine JO Tryz.func253 J J J J o ?_;refine e J (bA<|e J<|F J (λI=>?_)<|λI=>aG ?_)
   .exfalso;have I:(Z f:V)-1<=(d:V):=aX I;omega
   refine e J<|aA<|bx (α:=G) (λn=>⟨[(0,S au f),(1,y d),(2,cU p),(7,cU n)],[],4,[]⟩) (λn=>p<=n/\n<=n0) (λn=>n0-n) p ⟨aN _,n1⟩ aY ?_;rintro n ⟨b1,b2⟩;let ⟨t1,t2⟩:=Yl x 64 n (by omega:n<18446744073709551616);let ⟨r1,r2,_⟩:=x8 H t1 h.aL.c h.aL.ne;have B:=auc p n x z Y;have C:=uH p H.hp H.le (lr p 64 n) f Y Y t1 h.aL.c h.aL.ne;have D:=G' p H.hp H.le f (aV (lr p 64 n) f p).2 Y Y h.aL.c r1;let ⟨s1,s2⟩:=ah6 H h.aL.c h.aL.ne t1 d;have i:=aue H h.aL.c h.aL.ne t1 Y lf d v Q;have b:=G' p H.hp H.le f (BS H (lr p 64 n) f d) Y Y h.aL.c s1;have hE:gE H f d n=if Z (gV p f (aV (lr p 64 n) f p).2)=1\/Z (gV p f (aV (lr p 64 n) f p).2)=Z f then gV p f (BS H (lr p 64 n) f d)else gV p f (aV (lr p 64 n) f p).2:=rfl
   generalize gV p f (aV (lr p 64 n) f p).2=g at*;refine bA<|aA<|bL J J B J<|w<|rc J J C<|rc J J D<|O J ?_;refine nP ⟨[(0,S au f),(1,y d),(2,cU p),(7,cU n),(9,S au<|gE H f d n)],[],9,[]⟩ ?_<|λs=>w<|rg 33 J J (λK=>?_)<|λK=>?_
   .let ⟨c1,c2⟩:=ah7 H (d:=d) h.aL (Y:n<18446744073709551616);have cl:=(uX H h.aL c1 c2).2.2.2;have next:¬(1<Z (gE H f d n)/\Z (gE H f d n)<Z f)->n+1<=n0:=λt=>by
     rcases rq n n0 with m|m
     .exact m
     .have L:n=n0:=by omega
      rw[L]at t;exact aJ ⟨n3,n4⟩ t
    have yes:1<Z (gE H f d n)/\Z (gE H f d n)<Z f->n=n0:=λt=>by
     rcases rq n n0 with m|m
     .exact aJ ⟨b1,Y,t.1,t.2⟩<|A n m
     .omega
    generalize X:gE H f d n=u at*;refine w<|rg 51 J J (λa=>O J<|F J (λk=>?_)<|λk=>dk<|bU ?_)<|λa=>O J<|F J (λk=>by cases k)<|λk=>dk<|bU ?_
    .have a:(Z u:V)>1:=aX a;have k:(Z u:V)<(Z f:V):=aX k;have L:=yes ⟨Y,Y⟩;subst L;rw[X]at U k2;have P:=Bn p H.hp H.le f u Y Y h.aL.c c1.c c1.ne;rw[xL (WS H h.aL c1 cl).c.2]at P;refine w (De J J U<|rc J J P<|rc J J k2.fs<|ra J J J J J J J J J ?_ ?_<|O J<|bX<|mz<|da<|m0<|mz<|JN (id:=10012000) cp J J)
     .show(_+_+(_+_)/4+192)*24<=_;omega
     .show(_+_)*1<=_;omega
    .have a:(Z u:V)>1:=aX a;have k:¬(Z u:V)<(Z f:V):=bh k;refine rt J (hp:=aH)<|a6 (n+1) ⟨Y,next λt=>Y⟩ (Y:n0-(n+1)<n0-n)<|wk ⟨sR J,sR J,sR J,sE J ?_,M⟩ M;exact bY<|be _ Y Y
    .have a:¬(Z u:V)>1:=bh a;refine rt J (hp:=aH)<|a6 (n+1) ⟨Y,next λt=>Y⟩ (Y:n0-(n+1)<n0-n)<|wk ⟨sR J,sR J,sR J,sE J ?_,M⟩ M;exact bY<|be _ Y Y
   .have K:(Z g:V)=1:=eS K;rw[q Y]at hE;refine O J<|F J (λ_=>cL<|rc J J i<|rc J J b<|O J<|fp s<|wk ⟨sR J,sR J,sR J,sR J,sE J ?_,M⟩ M)<|λh=>gD;rw[hE]
   .have K:(Z g:V)≠1:=pa K;refine O J (F J (λa=>?_)<|λa=>?_)
    .have a:(Z g:V)=(Z f:V):=eS a;rw[q Y]at hE;refine cL<|rc J J i<|rc J J b<|O J<|fp s<|wk ⟨sR J,sR J,sR J,sR J,sE J ?_,M⟩ M;rw[hE]
    .have a:(Z g:V)≠(Z f:V):=pa a;rw[j Y]at hE;refine dk<|fp s<|wk ⟨sR J,sR J,sR J,sR J,sE J ?_,M⟩ M;rw[hE]
end
section
variable{p:G}(H:bF p)
open Classical in
def rf(p:G)(f:E V)(d:G):E (E V):=if h:∃l,wQ p f l/\Z l+1<=Z f/\pS r 253 [S au f,y d,cU p] 167 (.sl au) l then zC h else[]
include H in
def ah8{f:E V}{d:G}(b:1<=d)(g:d<=1000)(i:2*p^d<=18446744073709551616)(k:Z f<=200)(l:tM p f d)(m:2<=Z f):wQ p f (rf p f d)/\Z (rf p f d)+1<=Z f/\pS r 253 [S au f,y d,cU p] 167 (.sl au) (rf p f d):=by have a:=Yn H b g i _ f (dO _) k l m;unfold rf;rw[dif_pos a];exact xN a
structure n5 where
 f:E V
 h:E V
 d:G
 o:E (E V)
def n5.w(x:n5):E V:=iS H x.f<|pk (fx x.h) p
def n5.g(x:n5):E V:=gV p x.f<|aU<|gU (x.w H) [0,1] p
def n5.q(x:n5):E V:=(aV x.f (x.g H) p).1
def n5.next(x:n5):n5:=
 if 1<(x.g H).length then⟨x.q H,if 1<Z (x.q H)then(aV (x.w H) (x.q H) p).2 else x.w H,x.d+1,x.o++rf p (x.g H) x.d⟩else⟨x.f,x.w H,x.d+1,x.o⟩
def zY:G->n5->E (E V)
 |0,x=>x.o
 |N+1,x=>if Z x.f<=1 then x.o else if Z x.f<=2*x.d then x.o++[x.f]else zY N (x.next H)
structure pD(p:G)(a:E V)(x:n5):Prop where
 dg:Eh p x.f x.d
 d1:1<=x.d
 hc:bJ p x.h
 hl:x.h.length<=200
 hx:(fx x.f:Fx p)∣fx x.h-pk X (p^(x.d-1))
 pt:∀g∈x.o,Mon p g/\2<=g.length/\bw (fx g:Fx p)
 pr:(fx a:Fx p)=iT p x.o*fx x.f
 fl:x.f.length<=a.length
 F2:a.length<=200
 Fm:Mon p a
def ah9(H:bF p):bJ p [0,1]:=⟨λi=>match i with
  |0=>⟨iD _,H.pos⟩
  |1=>by have:=H.hp.1;show 0<=(1:V)/\(1:V)<p;omega
  |i+2=>⟨iD _,H.pos⟩,.inr (o:(1:V)≠0)⟩
def ah':(fx [0,1]:Fx p)=X:=by rw[K7,kV,im,DQ,fv]
include H in
def pD.start{a:E V}(d:Mon p a)(f:sk (fx a:Fx p))(b:Z a<=200):pD p a ⟨a,[0,1],1,[]⟩ where
 dg:=⟨d,f,λQ hQ _=>hQ.1⟩
 d1:=aN _
 hc:=ah9 H
 hl:=ax
 hx:=by rw[ah',jA,pW,se];exact kA _ _
 pt:=λg i=>by cases i
 pr:=by rw[iT,cY]
 fl:=aN _
 F2:=b
 Fm:=d
variable{F:E V}{x:n5}
include H in
def pD.ol(a:pD p F x):Z x.o+Z x.f<=Z F:=by
 let ⟨d,h2⟩:=XU H (l:=x.o) λg b=>⟨(a.pt g b).1,(a.pt g b).2.1⟩
 have:=dV H d<|a.dg.aL.lH H;rw[<-a.pr,dc a.Fm.c,dc a.dg.aL.c]at this;omega
def pD.w(a:pD p F x):bJ p (x.w H)/\(x.w H).length<Z x.f/\(fx x.f:Fx p)∣fx (x.w H)-pk X (p^x.d):=by let ⟨m1,g,i⟩:=zQ H a.dg.aL.c a.dg.aL.ne<|pk (fx x.h) p;refine⟨m1,g,mH i ?_⟩;have h:=K6 a.hx p;obtain⟨k,b⟩:∃k,x.d=k+1:=⟨x.d-1,by have:=a.d1;omega⟩;rw[<-wz,b,eD,<-gK]at h;rw[b];exact h
def pD.g(a:pD p F x):tM p (x.g H) x.d/\Eh p (x.q H) (x.d+1)/\(fx (x.g H):Fx p)∣fx x.f:=by let ⟨i,k,b⟩:=a.w H;refine a.dg.step H a.d1 (mh H.pos<|DG H.pos _ _) b ?_;rw[WO,ah']
def pD.next(a:pD p F x)(P:¬Z x.f<=2*x.d)(m:2*p^x.d<=18446744073709551616):pD p F (x.next H)/\(x.next H).d=x.d+1:=by
 obtain⟨i,T,u⟩:=a.w H;obtain⟨k,b,B⟩:=a.g H;have v:=a.F2;have W:=a.fl;obtain⟨q1,q2,C,h⟩:=uX H a.dg.aL k.aL B;have j:=k.aL.pos;unfold n5.next;split
 .rename_i z;obtain⟨A,r,y⟩:=ah8 H a.d1 Y m Y k z;have n:(fx F:Fx p)=iT p (x.o++rf p (x.g H) x.d)*fx (x.q H):=by rw[LC,A.prod,a.pr,q2,c9,c8<|fx<|x.g H];rfl
  have s:∀g∈x.o++rf p (x.g H) x.d,Mon p g/\2<=Z g/\bw (fx g:Fx p):=λg D=>(bg.1 D).elim (a.pt g)<|A.parts g
  have K:Z (x.q H)+(x.g H).length=Z x.f+1:=C;have l:(fx (x.q H):Fx p)∣fx (x.w H)-pk X (p^x.d):=fG Q9 u;refine⟨⟨b,Rp<|bm _,?_,?_,?_,s,n,by show Z (x.q H)<=_;omega,v,a.Fm⟩,J⟩
  .dsimp only;split
   .exact(x8 H i b.aL.c b.aL.ne).1
   .exact i
  .dsimp only;split
   .have:=(x8 H i b.aL.c b.aL.ne).2.1;omega
   .omega
  .dsimp only;rw[eD];split
   .exact mH (x8 H i b.aL.c b.aL.ne).2.2 l
   .exact l
 .rename_i z;have t:(x.g H).length=1:=Y;have N:sz (fx (x.g H):Fx p)=1:=by rw[dc k.aL.c,t]
  refine⟨⟨⟨a.dg.aL,a.dg.mJ,λQ hQ m=>b.low Q hQ ?_⟩,Rp<|bm _,i,by show(x.w H).length<=_;omega,?_,a.pt,a.pr,a.fl,v,a.Fm⟩,J⟩
  .rw[show(fx x.f:Fx p)=fx (x.q H)*fx (x.g H)from q2]at m;rcases hQ.nW H m with e|e
   .exact e
   .have:=kX H e<|k.aL.lH H;have:=hQ.1;omega
  .show(fx x.f:Fx p)∣fx (x.w H)-pk X (p^(x.d+1-1));rw[eD];exact u
def aia(m:∀d,2*d<Z F->2*p^d<=18446744073709551616):∀(N:G)(x:n5),pD p F x->Z x.f<x.d+N->wQ p F (zY H N x)
 |N,x,a,P=>by
  have b:Z x.f<=1->wQ p F x.o:=λi=>by
   refine⟨a.pt,?_⟩;have n:=a.dg.aL;have k:=n.one;have t:=n.pos;have u:(fx x.f:Fx p)=1:=by
    rw[<-DQ];congr 1;generalize x.f=v at*;match v,i,t,k with
    |[c],_,_,k=>rw[show c=1 from k]
   rw[a.pr,u,fv]
  cases N with
  |zero=>
   refine b<|eR λi=>?_
   let ⟨Q,q1,s⟩:=uK H _ (fx x.f:Fx p) (dO _) (by rw[dc a.dg.aL.c];omega)
   have K:=a.dg.low Q q1 s
   have z:=kX H s<|a.dg.aL.lH H
   rw[dc a.dg.aL.c]at z
   omega
  |succ N=>
   rw[zY]
   split
   .rename_i i;exact b i
   .rename_i i;split
    .rename_i l;refine⟨λg A=>?_,?_⟩
     .rcases bg.1 A with e|e
      .exact a.pt g e
      .rw[iM.1 e];exact⟨a.dg.aL,Y,a.dg.gI H Y l⟩
     .rw[LC,a.pr];show _*(_*_)=_;rw[iT,fv]
    .rename_i l;have T:=a.fl;let ⟨B,W⟩:=a.next H l<|m _ Y;refine aia m N _ B ?_;have X:(x.next H).f.length<=Z x.f:=by
      unfold n5.next;split
      .let ⟨C,_,D⟩:=a.g H;have:Z (x.q H)+(x.g H).length=Z x.f+1:=(uX H a.dg.aL C.aL D).2.2.1;show Z (x.q H)<=_;omega
      .exact aN _
     omega
include H in
def pD.dlt(a:pD p F x)(i:1<Z x.f):x.d<Z x.f:=by let ⟨Q,q1,b⟩:=uK H _ (fx x.f:Fx p) (dO _) (by rw[dc a.dg.aL.c];omega);have k:=a.dg.low Q q1 b;have g:=kX H b<|a.dg.aL.lH H;rw[dc a.dg.aL.c]at g;omega
def auh(hF:Mon p F)(hs:sk (fx F:Fx p))(t:Z F<=200)(D:∀d,2*d<Z F->2*p^d<=18446744073709551616):aq r 205 [S au F,cU p] (S (.sl au)<|zY H (Z F) ⟨F,[0,1],1,[]⟩):=by
 refine aS Tryz.func205 ?_;have Dh:=H.hp.1;have L:=H.le;have I0:=pD.start H hF hs t;generalize hR:zY H (Z F) ⟨F,[0,1],1,[]⟩=R at*;refine e J<|w<|ij (.sl au) [] J J (O J<|w<|rl au [0,1] J J (O J<|e J<|h<|e J ?_));refine aA<|bx (α:=G×n5) (λi=>⟨[(0,S au i.2.f),(1,cU p),(5,.c<|.X 1000000),(6,S au [0,1]),(7,S au i.2.h),(8,y i.2.d)],[(1000000,.vec 167 (.sl au) i.2.o)],5,[]⟩) (λi=>pD p F i.2/\Z i.2.f<i.2.d+i.1/\zY H i.1 i.2=R) (λi=>i.1) (Z F,⟨F,[0,1],1,[]⟩) ⟨I0,(Y:Z F<1+Z F),hR⟩ aY ?_;rintro⟨N,x⟩ ⟨I,hN,a⟩;simp only at I hN a;have ol:=I.ol H;have d1:=I.d1;have fl:=I.fl;refine h<|e J<|xe J (λl=>?_)<|λl=>?_
 .have l:1<Z x.f:=by have l:(Z x.f:V)>1:=aX l;omega
  have hdl:=I.dlt H l;obtain⟨k,rfl⟩:∃k,N=k+1:=⟨N-1,Y⟩;rw[zY,j Y]at a;refine aG<|h<|aA<|h<|e J (hp:=aH)<|xe J (λu=>?_)<|λu=>dk<|aR ?_
  .have u:2*(x.d:V)>=(Z x.f:V):=aX u;rw[q Y]at a;refine w (rl (.sl au) [x.f] J J (ra J J J J J J J J J ?_ ?_<|O J<|dm 7003000 J J J<|bX ?_))
   .show(Z x.o+1+(Z x.o+1)/4+192)*24<=_;omega
   .show(Z x.o+1)*1<=_;omega
   repeat(first|refine da ?_|refine mz ?_|refine m0 ?_)
   rw[<-a];exact fO J J
  .have u:¬2*(x.d:V)>=(Z x.f:V):=bh u;rw[j Y]at a;have D:=D x.d Y;let ⟨U,w2,w3⟩:=I.w H;let ⟨K,g2,g3⟩:=I.g H;let ⟨m,n2⟩:=I.next H Y D;let ⟨q1,q2,q3,q4⟩:=uX H I.dg.aL K.aL g3;have b:(x.next H).f.length<(x.next H).d+k:=by
    rw[n2];have hq:(x.next H).f.length<=Z x.f:=by
     unfold n5.next;split
     .have:Z (x.q H)+(x.g H).length=Z x.f+1:=q3;show Z (x.q H)<=_;omega
     .exact aN _
    omega
   have v:=Rn H x.f x.h p Y I.dg.aL.c I.dg.aL.ne I.hc I.hl Y;have P:=KB (x.w H) [0,1] p Y ax Y Y U.1 (ah9 H).1;have z:=qP<|gU (x.w H) [0,1] p;rw[PI]at z;have A:=G' p H.hp H.le x.f (aU<|gU (x.w H) [0,1] p) Y (by simp at z;omega) I.dg.aL.c<|mh H.pos<|DG H.pos _ _;have n:=Bn p H.hp H.le x.f (x.g H) Y Y I.dg.aL.c K.aL.c K.aL.ne;rw[xL q1.c.2]at n;have Q:iS H x.f (pk (fx x.h) p)=x.w H:=rfl;have T:gV p x.f (aU<|gU (x.w H) [0,1] p)=x.g H:=rfl;have W:(aV x.f (x.g H) p).1=x.q H:=rfl;rw[Q]at v;rw[T]at A;rw[W]at n q3;refine bL J J v J<|w<|rc J J P<|rc J J A<|O J<|e J<|xe J (λB=>?_)<|λB=>?_
   .have B:((x.g H).length:V)>1:=aX B;let ⟨e1,e2,e3⟩:=ah8 H d1 Y D Y K Y;have s:x.next H=⟨x.q H,if 1<Z (x.q H)then(aV (x.w H) (x.q H) p).2 else x.w H,x.d+1,x.o++rf p (x.g H) x.d⟩:=by unfold n5.next;rw[q Y]
    rw[s]at a m b;refine w<|rc J J e3.fs<|ra J J J J J J J J J ?_ ?_<|O J<|bL J J n J<|e J<|xe J (λC=>?_)<|λC=>?_
    .show(Z x.o+Z (rf p (x.g H) x.d)+(Z x.o+Z (rf p (x.g H) x.d))/4+192)*24<=_;omega
    .show(Z x.o+Z (rf p (x.g H) x.d))*1<=_;omega
    .have C:(Z (x.q H):V)>1:=aX C;rw[q Y]at a m b;have E:=uH p H.hp H.le (x.w H) (x.q H) Y Y U g2.aL.c g2.aL.ne;refine cL<|rc J J E<|O J<|fT<|aR<|rt J (hp:=aH)<|a6 (k,⟨x.q H,(aV (x.w H) (x.q H) p).2,x.d+1,x.o++rf p (x.g H) x.d⟩) ⟨m,b,a⟩ (dO k)<|Wk.trans (wk (st':=⟨[(0,S au<|x.q H),(1,cU p),(5,.c<|.X 10005000),(6,S au [0,1]),(7,S au (aV (x.w H) (x.q H) p).2),(8,y ((x.d+1:G):V))],[(10005000,.vec 167 (.sl au)<|x.o++rf p (x.g H) x.d)],16,[]⟩) (bP J) ⟨bR J,M⟩)<|Wk.trans (iw 1000000 10005000 J J J) aY
    .have C:¬(Z (x.q H):V)>1:=bh C;rw[j Y]at a m b;refine dk<|fT<|aR<|rt J (hp:=aH)<|a6 (k,⟨x.q H,x.w H,x.d+1,x.o++rf p (x.g H) x.d⟩) ⟨m,b,a⟩ (dO k)<|Wk.trans (wk (st':=⟨[(0,S au<|x.q H),(1,cU p),(5,.c<|.X 10005000),(6,S au [0,1]),(7,S au<|x.w H),(8,y ((x.d+1:G):V))],[(10005000,.vec 167 (.sl au)<|x.o++rf p (x.g H) x.d)],16,[]⟩) (bP J) ⟨bR J,M⟩)<|Wk.trans (iw 1000000 10005000 J J J) aY
   .have B:¬((x.g H).length:V)>1:=bh B;have s:x.next H=⟨x.f,x.w H,x.d+1,x.o⟩:=by unfold n5.next;rw[j Y]
    rw[s]at a m b;exact dk<|bU<|rt J (hp:=aH)<|a6 (k,⟨x.f,x.w H,x.d+1,x.o⟩) ⟨m,b,a⟩ (dO k) aY
 .have l:¬(Z x.f:V)>1:=bh l;have a:x.o=R:=by
   cases N with
   |zero=>exact a
   |succ N=>rwa[zY,q Y]at a
  refine bD<|aR<|dm 1000000 J J J<|e J<|bX ?_;rw[<-a];exact fO J J
end
def aui(a b:E V)(m:Z a<=1000)(n:Z b<=1000):aq r 254 [S au a,S au b] (cB<|decide<|tL a b<0):=by
 refine aS Tryz.func254 ?_;refine e J<|h<|e J<|F J (λi=>?_)<|λi=>aG ?_
 .have i:=Bh i;refine e J<|bX<|da<|fO J<|bl cB ?_;rw[tL,q Y,q6];refine decide_eq_decide.2 ⟨λg=>by rw[q g];decide,λg=>?_⟩;split at g
  .assumption
  .split at g<;>omega
 .have i:(Z a:V)=(Z b:V):=zd i;rw[show tL a b=Ec a b (Z a)by rw[tL,ma Y]];refine h<|e J ?_;refine aA<|bx (α:=G) (λk=>⟨[(0,S au a),(1,S au b),(5,y<|(k:V)-1)],[],4,[]⟩) (λk=>k<=Z a/\Ec a b (Z a)=Ec a b k) (λk=>k) (Z a) ⟨aN _,J⟩ aY ?_;rintro k ⟨p,hc⟩;refine h (e J<|F J (λd=>?_)<|λd=>?_)
  .have d:0<k:=by have d:(k:V)-1>=0:=aX d;omega
   obtain⟨j,rfl⟩:∃j,k=j+1:=⟨k-1,Y⟩;have l:ah (((j+1:G):V)-1)=j:=Y;refine aG<|h<|aA<|e J (hp:=aH)<|F J (λf=>?_)<|λf=>dk<|bU ?_
   .have f:I a (ah<|((j+1:G):V)-1) 0≠I b (ah<|((j+1:G):V)-1) 0:=Bh f;rw[l]at f;refine e J (hp:=aH)<|bX ?_;repeat(first|refine da ?_|refine mz ?_|refine m0 ?_)
    refine fO J ?_;show cB (decide<|List.getD a (ah<|((j+1:G):V)-1) 0<I b (ah<|((j+1:G):V)-1) 0)=_;rw[l,hc,Ec];refine bl cB<|decide_eq_decide.2 ?_;unfold q6;split
    .rw[q o];exact⟨λ_=>o,λ_=>by assumption⟩
    .rw[q (Y:I a j 0>I b j 0),q o];exact⟨λg=>Y,λg=>Y⟩
   .have f:I a (ah<|((j+1:G):V)-1) 0=I b (ah<|((j+1:G):V)-1) 0:=zd f;rw[l]at f;refine rt J (hp:=aH) (a6 j ⟨Y,?_⟩ uD<|wk ⟨sR J,sR J,sE J ?_,M⟩ M)
    .rw[hc,Ec,ma];unfold q6;rw[ma Y,ma Y];decide
    .exact jC (Y:((j+1:G):V)-1-1=(j:V)-1)
  .have d:k=0:=by have d:¬(k:V)-1>=0:=bh d;omega
   subst d;rw[hc];exact bD<|aR<|e J<|di J
section
variable{α:Type}(d:α)(lt:α->Bool)(x:α)(l:E α)
def jG:G->Bool×E α
 |0=>(false,[])
 |i+1=>if(!(jG i).1&&lt (I l i d))=af then(af,(jG i).2++[x]++[I l i d])else((jG i).1,(jG i).2++[I l i d])
def Yo(i:G):jG d lt x l (i+1)=if(!(jG d lt x l i).1&&lt (I l i d))=af then(af,(jG d lt x l i).2++[x]++[I l i d])else((jG d lt x l i).1,(jG d lt x l i).2++[I l i d]):=rfl
def tO:E α:=if(jG d lt x l<|Z l).1=af then(jG d lt x l<|Z l).2 else(jG d lt x l<|Z l).2++[x]
def Yq:∀i,(jG d lt x l i).2.length=i+(if(jG d lt x l i).1=af then 1 else 0)
 |0=>rfl
 |i+1=>by
  have:=Yq i;rw[jG];cases h:(jG d lt x l i).1
  .rw[h]at this;simp only[Fu,Bool.true_and];split
   .simp at this⊢;omega
   .simp[h]at this⊢;omega
  .rw[h]at this;simp only[Qq,Bool.false_and,jh,bV];simp[h]at this⊢;omega
def aib:∀i,i<=Z l->(jG d lt x l i).2.Perm (if(jG d lt x l i).1=af then x::c i l else c i l)
 |0,_=>by rw[jG];simp
 |i+1,f=>by
  have a:=aib i Y;have b:c (i+1) l=c i l++[I l i d]:=by rw[uC,aO,cT Y];rfl
  rw[jG,b];cases h:(jG d lt x l i).1
  .rw[h]at a;simp only[Fu,Bool.true_and];simp only[jh,bV]at a;split
   .simp only[cr];refine(List.Perm.append_right _<|a.append_right [x]).trans ?_;rw[mX];exact(List.perm_append_comm_assoc _ _ _)
   .simp only[h,jh,bV];exact a.append_right _
  .rw[h]at a;simp only[Qq,Bool.false_and,jh,bV];simp only[cr]at a;simp only[h,cr];exact a.append_right _
def aic:(tO d lt x l).Perm (x::l):=by
 have h:=aib d lt x l (Z l)<|aN _;unfold tO;rw[ik]at h;split
 .rename_i e;rwa[e]at h
 .rename_i e;rw[Bool.not_eq_true]at e;rw[e]at h;simp only[jh,bV]at h;exact(h.append_right [x]).trans auj
end
def auk(l:E (E V×V))(x:E V×V)(hl:Z l<=1000)(D:Z x.1<=1000)(H:∀k∈l,Z k.1<=1000):aq r 208 [S MT l,.a<|av MT x] (S MT<|tO ([],0) (λk=>decide<|tL x.1 k.1<0) x l):=by
 refine aS Tryz.func208 ?_;have s:=Yq ([],0) (λk=>decide<|tL x.1 k.1<0) x l;have K:=Yo ([],0) (λk=>decide<|tL x.1 k.1<0) x l;generalize A:jG ([],0) (λk=>decide<|tL x.1 k.1<0) x l=T at*;refine e J<|w<|ij MT [] J J (O J<|e J<|h<|e J ?_);refine aA<|bx (α:=G) (λi=>⟨[(0,S MT l),(3,.c<|.P 0 0),(5,.c<|.X 1000000),(6,cB (T i).1),(7,y i)],[(0,.box 178 0<|av MT x),(1000000,.vec 178 MT (T i).2)],4,[]⟩) (λi=>i<=Z l) (λi=>Z l-i) 0 (bm _) (by rw[<-A];exact(wk (bP J) ⟨bE J J,bR J,M⟩)) ?_;intro i o;have t:=s i;have N:(T i).2.length<=1001:=by split at t<;>omega
 refine h<|e J<|F J (λh1=>?_)<|λh1=>?_
 .have h1:i<Z l:=by have h1:(i:V)<(Z l:V):=aX h1;omega
  have Q:ah ((i:V))=i:=cx i;have B:(I l (ah<|(i:V))<|ET.et MT)=I l i ([],0):=bl (λz=>I l z ([],0)) Q;have W:=H (I l i ([],0)) Rq;have C:=aui x.1 (I l i ([],0)).1 D W;have d:=K i;have u:=s<|i+1;rw[<-B]at*;obtain⟨m,f⟩:∃m,m=if(!(T i).1&&decide (tL x.1 (I l (ah<|(i:V))<|ET.et MT).1<0))=af then(T i).2++[x]else(T i).2:=⟨_,J⟩
  have v:(T<|i+1).2=m++[I l (ah<|(i:V)) (ET.et MT)]:=by rw[d,f];split<;>rfl
  have j:Z m<=1001:=by rw[v,iL,oV]at u;split at u<;>omega
  refine aG<|h<|aA ?_;refine nP ⟨[(0,S MT l),(3,.c<|.P 0 0),(5,.c<|.X 1000000),(6,cB (T<|i+1).1),(7,y i)],[(0,.box 178 0<|av MT x),(1000000,.vec 178 MT m)],8,[]⟩ ?_<|λn=>w<|rg 17 J J (λb=>?_)<|λb=>?_
  .refine cL (rl MT [_] J J (ra J J J J J J J J J ?_ ?_<|O J ?_) (hp:=aH))
   .show(_+1+(_+1)/4+192)*32<=_;omega
   .show(_+1)*2<=_;omega
   refine bU<|rt J<|a6 (i+1) h1 zO<|Wk.trans (wk (st':=⟨[(0,S MT l),(3,.c<|.P 0 0),(5,.c<|.X 8006000),(6,cB (T<|i+1).1),(7,y ((i+1:G):V))],[(0,.box 178 0<|av MT x),(8006000,.vec 178 MT (T<|i+1).2)],16,[]⟩) (bP J) ⟨bR J,bE J ?_,M⟩)<|Wk.trans (iw 1000000 8006000 J J J) aY;rw[v]
  .have b:(T i).1=false:=by
    cases p:(T i).1
    .rfl
    .rw[p]at b;cases b
   refine mD J J J J J C (O J<|F J (λg=>?_)<|λg=>?_) (hp:=aH)
   .have g:decide (tL x.1 (I l (ah<|(i:V))<|ET.et MT).1<0)=af:=g;rw[b,g]at f;rw[b,g]at d;have f:m=(T i).2++[x]:=f;refine w (rl MT [x] J J (ra J J J J J J J J J ?_ ?_<|O J ?_))
    .show(_+1+(_+1)/4+192)*32<=_;omega
    .show(_+1)*2<=_;omega
    refine rt J<|fp n<|Wk.trans (wk (st':=⟨[(0,S MT l),(3,.c<|.P 0 0),(5,.c<|.X 6003000),(6,cB (T<|i+1).1),(7,y i)],[(0,.box 178 0<|av MT x),(6003000,.vec 178 MT m)],8,[]⟩) ⟨sR J,sR J,sR J,sE J ?_,sR J,M⟩ ⟨bR J,bE J ?_,M⟩)<|Wk.trans (iw 1000000 6003000 J J J) aY
    .rw[d];rfl
    .rw[f]
   .have g:decide (tL x.1 (I l (ah<|(i:V))<|ET.et MT).1<0)=false:=g;rw[b,g]at f;rw[b,g]at d;have f:m=(T i).2:=f;refine dk (fp n<|wk ⟨sR J,sR J,sR J,sE J ?_,sR J,M⟩ ⟨bR J,bE J ?_,M⟩)
    .rw[d,b];rfl
    .rw[f]
  .have b:(T i).1=af:=by
    cases p:(T i).1
    .rw[p]at b;cases b
    .rfl
   rw[b]at f;rw[b]at d;have f:m=(T i).2:=f;refine O J<|F J (λg=>by cases g)<|λg=>dk<|fp n<|wk ⟨sR J,sR J,sR J,sE J ?_,sR J,M⟩ ⟨bR J,bE J ?_,M⟩
   .rw[d,b];rfl
   .rw[f]
 .have h1:i=Z l:=by have h1:¬(i:V)<(Z l:V):=bh h1;omega
  subst h1;refine bD<|aR<|h<|e J<|F J (λb=>?_)<|λb=>?_
  .have b:(T<|Z l).1=false:=by
    cases p:(T<|Z l).1
    .rfl
    .rw[p]at b;cases b
   refine cL<|rl MT [x] J J (ra J J J J J J J J J ?_ ?_<|O J ?_)
   .show(_+1+(_+1)/4+192)*32<=_;omega
   .show(_+1)*2<=_;omega
   refine aR<|dm 6003000 J J J<|e J<|cd J ?_;unfold tO;rw[A,b];rfl
  .have b:(T<|Z l).1=af:=by
    cases p:(T<|Z l).1
    .rw[p]at b;cases b
    .rfl
   refine aG<|dm 1000000 J J J<|e J<|cd J ?_;unfold tO;rw[A,b];rfl
section
variable{p:G}(H:bF p)
include H in
def Yr:∀(N:G)(f:E V),Z f<N->Z f<=200->Mon p f->∃Q,tN p f Q/\aq r 206 [S au f,cU p] (S au Q)
 |0,_,h,_,_=>by omega
 |N+1,f,hN,lf,a=>by
  have Dh:=H.hp.1;have u:=H.le;by_cases W:Z f<=1
  .refine⟨f,tN.one H a W,?_⟩;refine Fl aid J J J J J o ?_;refine e J<|bA<|e J<|F J (λh=>e J<|bX<|da<|iZ cp J<|bq.refl _)<|λh=>?_;exfalso;have h:¬(Z f:V)<=1:=bh h;omega
  have d:=ah2 f p Y Y u a.c.1;have b:bJ p (aU<|k4 p f):=mh H.pos<|LG Y f;have hDl:Z (aU<|k4 p f)<=200:=by have:=qP<|k4 p f;rw[LF]at this;omega
  have v:(fx (aU<|k4 p f):Fx p)=bG (fx f):=by rw[Hk,XX]
  have i:aU (k4 p f)=[]->bG (fx f:Fx p)=0:=atf H;generalize aU (k4 p f)=D at*;by_cases n:D=[]
  .obtain⟨e1,e2,e3,e4⟩:=ahb H a Y<|i n;obtain⟨Q,r1,r2⟩:=Yr N _ Y Y e1;refine⟨Q,r1.root H a Y<|i n,?_⟩;have x:Z (nX p f<|kF p<|Z f)=kF p (Z f):=by simp[nX]
   have hk:∀j,j<kF p (Z f)↔j*p<Z f:=λj=>by unfold kF;rw[<-Nat.add_one_le_iff,Nat.le_div_iff_mul_le Y,Rt];omega
   have z:∀j,j<kF p (Z f)->I (nX p f<|kF p<|Z f) j 0=I f (j*p) 0:=λj hj=>by unfold nX;rw[aO,jn,lp hj];rfl
   rw[x]at e3 e4;generalize nX p f (kF p<|Z f)=L at*;generalize kF p (Z f)=m at*;subst n;refine Fl aid J J J J J o ?_;refine e J<|bA<|e J<|F J (λh=>?_)<|λh=>dk<|aR ?_
   .exfalso;have h:(Z f:V)<=1:=aX h;omega
   refine w<|rc J J d<|O J<|bA<|e J<|F J (λ_=>?_)<|λh=>gD;refine w<|ij au [] J J (O J<|bA<|e J ?_);refine aA<|bx (α:=G) (λj=>⟨[(0,S au f),(1,cU p),(6,.c<|.X 4000000),(7,y ((j*p:G):V))],[(4000000,.vec 150 au<|c j L)],6,[]⟩) (λj=>j<=m) (λj=>m-j) 0 (bm _) (by rw[pM];exact aY) ?_;intro j hj;have hl:(c j L).length=j:=b6;refine bA<|e J<|F J (λh=>?_)<|λh=>?_
   .have h:j*p<Z f:=by have h:((j*p:G):V)<(Z f:V):=aX h;omega
    have A:=(hk j).2 h;have ei:ah (((j*p:G):V))=j*p:=cx _;refine dk<|aR<|bA<|aA<|cL<|rl au [_] J J (ra J J J J J J J J J ?_ ?_<|O J ?_) (hp:=aH)
    .show(_+1+(_+1)/4+192)*8<=_;omega
    .show(_+1)*1<=_;omega
    refine fT<|aR<|rt J (hp:=aH)<|a6 (j+1) A (Y:m-(j+1)<m-j)<|Wk.trans (wk (st':=⟨[(0,S au f),(1,cU p),(6,.c<|.X 7006000),(7,y (((j+1)*p:G):V))],[(7006000,.vec 150 au<|c (j+1) L)],16,[]⟩) ⟨sR J,sR J,sR J,sE J ?_,M⟩ ⟨bE J ?_,M⟩)<|Wk.trans (iw 4000000 7006000 J J J) aY
    .refine jC (show((j*p:G):V)+(p:V)=(((j+1)*p:G):V)from ?_);rw[Rt];omega
    .refine bl (aC.vec 150 au) ?_;rw[tv _ j Y,z j A,ei]
   .have h:¬j*p<Z f:=by have h:¬((j*p:G):V)<(Z f:V):=bh h;omega
    have q:j=m:=by have:=mt (hk j).1 h;omega
    subst q;rw[jy Y];exact oc<|rH<|oS<|oe<|aR<|dm 4000000 J J J<|w<|rc J J r2<|O J<|bX<|da<|iZ cp J<|bq.refl _
  .obtain⟨s,m2,m3,_⟩:=Bv H a.c b a.ne;obtain⟨q1,q2,q3,q4⟩:=uX H a s m2;have xF:Z (gV p f D)<Z f:=by
    have U:(fx D:Fx p)≠0:=λcJ=>n<|wG b (tx H.pos)<|cJ.trans lG.symm
    have W:=kX H m3 U;have h3:=PX H (fx f:Fx p);rw[<-v,dc a.c]at h3;rw[dc s.c]at W;omega
   obtain⟨B,t,s2⟩:=Yr N (gV p f D) Y Y s;obtain⟨_,t2⟩:=tN.step H a Y b v n J t J;have s7:=t.len;refine⟨_,t2,?_⟩;have C:=G' p H.hp H.le f D Y Y a.c b;have K:=Bn p H.hp H.le f (gV p f D) Y Y a.c s.c s.ne;rw[xL q1.c.2]at K;generalize gV p f D=g at*;generalize (aV f g p).1=P at*;obtain⟨T,n2,n3,_⟩:=Bv H q1.c t.aL.c q1.ne;obtain⟨u1,u2,u3,u4⟩:=uX H t.aL T n3;have l:=G' p H.hp H.le P B Y Y q1.c t.aL.c;have k:=Bn p H.hp H.le B (gV p P B) Y Y t.aL.c T.c T.ne;rw[xL u1.c.2]at k;generalize gV p P B=dT at*;have pc:=T.pos;have pg:=s.pos;have sY:=wu P (aV B dT p).1 p Y Y Y Y q1.c.1 u1.c.1;refine Fl aid J J J J J o ?_;refine e J<|bA<|e J<|F J (λh=>?_)<|λh=>dk<|aR ?_
   .exfalso;have h:(Z f:V)<=1:=aX h;omega
   refine w<|rc J J d<|O J<|bA<|e J<|F J (λh=>?_)<|λ_=>dk<|aR ?_
   .exfalso;have h:(Z D:V)=0:=eS h;exact n<|gA Y
   exact w<|rc J J C<|O J<|w<|rc J J K<|O J<|w<|rc J J s2<|O J<|w<|rc J J l<|rc J J k<|rc J J sY<|O J<|bX<|iZ cp J<|bq.refl _
def aie(m:G)(g:E V):∀(a:E (E V))(x:E V×E (E V×V)),iv p m (a++[g]) x=((pull p g ((iv p m a x).1.length+1) (iv p m a x).1 0).1,(iv p m a x).2++[(g,(((pull p g ((iv p m a x).1.length+1) (iv p m a x).1 0).2:G):V)*(m:V))])
 |[],x=>rfl
 |b::a,x=>by rw[lO,iv,aie m g a,iv]
def jY(p:G)(a:E V)(l:E (E V)):G->E V×E (E V×V)
 |0=>(a,[])
 |i+1=>((pull p (l.getD i []) ((jY p a l i).1.length+1) (jY p a l i).1 0).1,tO ([],0) (λb=>decide<|tL (l.getD i []) b.1<0) (l.getD i [],(((pull p (l.getD i []) ((jY p a l i).1.length+1) (jY p a l i).1 0).2:G):V)) (jY p a l i).2)
def Ys(a:E V)(l:E (E V)):∀i,i<=Z l->(jY p a l i).1=(iv p 1 (c i l) (a,[])).1/\(jY p a l i).2.Perm (iv p 1 (c i l) (a,[])).2
 |0,_=>⟨J,List.Perm.refl _⟩
 |i+1,f=>by
  let ⟨d,h2⟩:=Ys a l i Y;have b:c (i+1) l=c i l++[l.getD i []]:=by rw[uC,aO,cT Y];rfl
  rw[b,aie,jY,d];refine⟨J,(aic _ _ _ _).trans ?_⟩;have e:∀z:V,z*((1:G):V)=z:=λz=>oy z
  rw[e];exact(List.Perm.cons _ h2).trans<|auj (l₁:=[_])
def aif(m:G):∀(d:E (E V))(x:E V×E (E V×V)),∀b∈(iv p m d x).2,b∈x.2\/b.1∈d
 |[],x,b,f=> .inl f
 |g::d,x,b,f=>by
  rw[iv]at f;rcases aif m d _ b f with a|a
  .rcases bg.1 a with a|a
   .exact .inl a
   .rw[iM.1 a];exact .inr ax
  .exact .inr (by simp[a])
def D9.take{f:E V}{a:E (E V)}(b:D9 p f a)(i:G):D9 p f (c i a):=
 ⟨λg d=>b.ok g<|Gy d,b.ds.sublist (List.take_sublist i a)⟩
include H in
def aul(pm:p<=2147483647){a:E V}(la:Z a<=200)(ha:∀i,0<=I a i 0)(h0:aU (md p a)≠[])(hd:∀d,2*d<Z (aU<|md p a)->2*p^d<=18446744073709551616):∃A5,Ea p (fx<|mF p<|aU<|md p a) A5/\aq r 175 [S au a,cU p] (.t [(false,[.S MT A5]),(false,[.I .i64 0])]):=by
 have Dh:=H.hp.1;have U:=zh a p Y Y Y ha;have D:bJ p (aU<|md p a):=mh H.pos<|DF H.pos a;have hal:Z (aU<|md p a)<=200:=by have:=qP<|md p a;rw[zg]at this;omega
 have IW:=aeS p H.hp H.le (aU<|md p a) Y D;let ⟨m1,m2,_⟩:=Qd H D h0;generalize aU (md p a)=A at*;generalize mF p A=b at*;let ⟨R,r1,r2⟩:=Yr H _ b (dO _) Y m1;have Ui:=r1.len;have hsq:=auh H r1.aL r1.mJ Y<|λd ON=>hd d Y;have f:=aia H (F:=R) (λd ON=>hd d Y) (Z R) ⟨R,[0,1],1,[]⟩ (pD.start H r1.aL r1.mJ Y) (Y:Z R<1+Z R);generalize zY H (Z R) ⟨R,[0,1],1,[]⟩=l at*;have K:=at7 H m1 r1 f;have hpt:=ahW H r1 f;let ⟨f1,f2⟩:=Ys (p:=p) b l (Z l)<|aN _;rw[ik]at f1 f2;refine⟨(jY p b l<|Z l).2,K.perm f2,?_⟩;have hll:Z l<=200:=by
  let ⟨h3,h4⟩:=XU H (l:=l) λg N=>⟨(f.parts g N).1,(f.parts g N).2.1⟩
  rw[f.prod,dc r1.aL.c]at h4;omega
 have hI:=λi=>X0 H (c i l) b [] (wR.start m1) (hpt.take i)
 refine aS Tryz.func175 ?_;refine e J<|bA<|bL J J (aeH p H.hp pm) J<|F J (λh=>gD)<|λ_=>aG ?_;refine w<|rc J J U<|rc J J IW<|O J<|bA<|e J<|F J (λh=>?_)<|λ_=>aG ?_
 .exfalso;have h:(Z b:V)=0:=eS h;have:=m1.pos;omega
 refine w<|rc J J r2<|rc J J hsq<|O J<|w<|rl MT [] J J (O J<|bA<|e J ?_);refine aA<|bx (α:=G) (λi=>⟨[(1,cU p),(6,S au (jY p b l i).1),(7,S (.sl au) l),(8,S MT (jY p b l i).2),(9,y i)],[],8,[]⟩) (λi=>i<=Z l) (λi=>Z l-i) 0 (bm _) aY ?_;intro i hi;let ⟨k1,k2⟩:=Ys (p:=p) b l i hi;let ⟨i1,i2,_⟩:=hI i;rw[<-k1]at i1 i2;let ⟨i3,_,_⟩:=i1.bounds H;have i3:(iv p 1 (c i l) (b,[])).2.length+1<=Z b:=by rwa[dc m1.c]at i3
 have hq:=k2.length_eq;have i2:(jY p b l i).1.length<=Z b:=i2;refine bA<|e J<|F J (λh=>?_)<|λh=>?_
 .have h:i<Z l:=by have h:(i:V)<(Z l:V):=aX h;omega
  have ei:ah ((i:V))=i:=cx i;have CG:(I l (ah<|(i:V))<|ET.et<|.sl au)=l.getD i []:=bl (λz=>l.getD z []) ei;have v:l.getD i []∈l:=XR;let ⟨B,g2,_⟩:=f.parts _ v;have P:∀g∈l,Z g<=200:=λg N=>by have h3:=kX H (Q5 p N) (by rw[f.prod];exact r1.aL.lH H);rw[f.prod,dc r1.aL.c,dc (f.parts g N).1.c]at h3;omega
  have xF:=P _ v;have Q:∀m∈(jY p b l i).2,Z m.1<=1000:=λm hy=>by
   rcases aif 1 (c i l) (b,[]) m (k2.mem_iff.1 hy)with W|W
   .cases W
   .have:=P _<|Gy W;omega
  have hF1:(jY p b l<|i+1).1=(pull p (l.getD i []) ((jY p b l i).1.length+1) (jY p b l i).1 0).1:=rfl;have hF2:(jY p b l<|i+1).2=tO ([],0) (λm=>decide<|tL (l.getD i []) m.1<0) (l.getD i [],(((pull p (l.getD i []) ((jY p b l i).1.length+1) (jY p b l i).1 0).2:G):V)) (jY p b l i).2:=rfl;have s:=λn:G=>auk (jY p b l i).2 (l.getD i [],(n:V)) Y (by show Z (l.getD i [])<=_;omega) Q
  have hm:=i1.aL;generalize hT:pull p (l.getD i []) ((jY p b l i).1.length+1) (jY p b l i).1 0=T at*;rw[<-CG]at*;refine aG<|bA<|aA<|e J<|bA ?_;refine aA<|bx (α:=G×E V×G) (λm=>⟨[(1,cU p),(6,S au m.2.1),(7,S (.sl au) l),(8,S MT (jY p b l i).2),(9,y i),(10,y m.2.2)],[],10,[]⟩) (λm=>pull p (I l (ah<|(i:V))<|ET.et<|.sl au) m.1 m.2.1 m.2.2=T/\Z m.2.1<m.1/\Mon p m.2.1/\m.2.2+Z m.2.1<=200) (λm=>m.1) ((jY p b l i).1.length+1,(jY p b l i).1,0) ⟨hT,dO _,hm,by show 0+(jY p b l i).1.length<=_;omega⟩ aY ?_;rintro⟨k,x,n⟩ ⟨C,b2,X,b4⟩;simp only at C b2 X b4;obtain⟨k,rfl⟩:∃k',k=k'+1:=⟨k-1,Y⟩;rw[pull]at C;have Uh:=uH p H.hp H.le x _ Y Y X.c B.c B.ne;refine bA<|w<|rc J J Uh (O J<|F J (λu=>?_)<|λu=>?_) (hp:=aH)
  .have u:(aV x (I l (ah<|(i:V))<|ET.et<|.sl au) p).2=[]:=gA (by have:=eS u;omega);rw[q u]at C;have Uk:=(Qb H X.c B.c B.ne).1 u;let ⟨q1,q2,q3,q4⟩:=uX H X B Uk;have o:=Bn p H.hp H.le x _ Y Y X.c B.c B.ne;rw[xL q1.c.2]at o;refine aG (aA<|w<|rc J J o (O J<|rt J (hp:=aH)<|fT<|a6 (k,(aV x (I l (ah<|(i:V))<|ET.et<|.sl au) p).1,n+1) ⟨C,?_,q1,?_⟩ (dO k) aY) (hp:=aH))
   .show(aV x (I l (ah<|(i:V))<|ET.et<|.sl au) p).1.length<k;omega
   .show n+1+(aV x (I l (ah<|(i:V))<|ET.et<|.sl au) p).1.length<=200;omega
  .have u:(aV x (I l (ah<|(i:V))<|ET.et<|.sl au) p).2≠[]:=λW=>by have u:¬((aV x (I l (ah<|(i:V))<|ET.et<|.sl au) p).2.length:V)=0:=pa u;rw[W]at u;exact u J
   rw[j u]at C;subst C;have s:=s n;rw[<-hF2]at s;refine bD<|aR ?_;refine cL<|rc J J s (O J<|bU<|rt J (hp:=aH)<|a6 (i+1) h zO<|wk ⟨sR J,sE J ?_,sR J,sR J,sR J,M⟩ M) (hp:=aH);rw[hF1]
 .have h:i=Z l:=by have h:¬(i:V)<(Z l:V):=bh h;omega
  subst h;exact bD<|aR<|e J<|di J
end
def mm(a b:E V):E V:=(cy<|max (Z a)<|Z b).map λi=>I a i 0-I b i 0
def aih a b:Z (mm a b)=max (Z a) (Z b):=by simp[mm]
def HL a b i:I (mm a b) i 0=I a i 0-I b i 0:=by
 by_cases h:i<max (Z a) (Z b)
 .unfold mm;rw[aO,jn,lp h];rfl
 .rw[fQ _ (by rw[aih];omega),fQ a Y,fQ b Y];rfl
def aii a b u(s:u<=100000)(t:Z a<=1000)(v:Z b<=1000)(l:∀i,aK u (I a i 0))(m:∀i,aK u (I b i 0)):aq r 257 [S .z a,S .z b] (S .z<|aU<|mm a b):=by
 refine aS Tryz.func257 ?_;have x:=aih a b;have n:=HL a b;generalize hM:max (Z a) (Z b)=M at*;have p:M<=1000:=Y;generalize mm a b=L at*;refine e J<|w<|ij .z [] J J (O J<|h<|e J ?_);refine aA<|bx (α:=G) (λi=>⟨[(0,S .z a),(1,S .z b),(5,.c<|.X 1000000),(6,y i)],[(1000000,.vec 42 .z<|c i L)],3,[]⟩) (λi=>i<=M) (λi=>M-i) 0 (bm _) aY ?_;intro i A;have B:(c i L).length=i:=b6;by_cases g:i<M
 .refine nP ⟨[(0,S .z a),(1,S .z b),(5,.c<|.X 1000000),(6,y i)],[(1000000,.vec 42 .z<|c i L)],4,[]⟩ ?_ (λf=>w<|rg 12 J J (λd=>O J<|F J (λ_=>dk<|fp f aY)<|λh2=>sc)<|λd=>O J<|F J (λ_=>dk<|fp f aY)<|λh2=>?_)
  .refine h<|aA<|cL ?_;refine rc J J (J7 a i)<|rc J J (J7 b i)<|rc J J (V0 (I a i 0) (I b i 0) ((l i).sm Y)<|(m i).sm Y) ?_;refine rl .z [I a i 0-I b i 0] J J (ra J J J J J J J J J ?_ ?_<|O J ?_)
   .show(_+1+(_+1)/4+192)*32<=_;omega
   .show(_+1)*2<=_;omega
   refine bU<|rt J<|a6 (i+1) g yY<|Wk.trans (wk (st':=⟨[(0,S .z a),(1,S .z b),(5,.c<|.X 4009000),(6,y ((i+1:G):V))],[(4009000,.vec 42 .z<|c (i+1) L)],8,[]⟩) (bP J) ⟨bE J ?_,ll⟩)<|Wk.trans (iw 1000000 4009000 J J J) aY;rw[tv _ i Y,n i]
  .exfalso;have d:¬(i:V)<(Z a:V):=bh d;have h2:¬(i:V)<(Z b:V):=bh h2;omega
 .have k:i=M:=by omega
  subst k;rw[jy Y];refine h<|w<|rg 12 J J (λd=>?_)<|λd=>?_
  .exfalso;have d:(i:V)<(Z a:V):=aX d;omega
  .refine O J (F J (λh2=>?_)<|λh2=>?_)
   .exfalso;have h2:(i:V)<(Z b:V):=aX h2;omega
   .exact bD<|aR<|dm 1000000 J J J<|bL J J (OW _) J<|di J
def ls(p:V)(l:E (E V)):G->E V
 |0=>[1]
 |i+1=>cX (ls p l i) (l.getD i []) p
section
variable{p:G}(H:bF p)
include H
def aij:bJ p [1]:=⟨G9 Y DR,.inr (o:(1:V)≠0)⟩
def auq:Mon p [1]:=⟨aij H,ax,J⟩
def LN{l:E (E V)}(d:∀g∈l,Mon p g/\1<=Z g):∀i,i<=Z l->Mon p (ls p l i)/\(fx (ls p l i):Fx p)=iT p (c i l)/\Z (ls p l i)=1+dQ (c i l)
 |0,_=>⟨auq H,by rw[ls,DQ];rfl,J⟩
 |i+1,n=>by
  let ⟨f,h2,s⟩:=LN d i Y;have a:l.getD i []∈l:=by rw[aO,cT Y];exact sW _
  let ⟨k,g2⟩:=d _ a;let ⟨t1,t2⟩:=Yj H f k;have b:c (i+1) l=c i l++[l.getD i []]:=by rw[uC,aO,cT Y];rfl
  have m:dQ (c i l++[l.getD i []])=dQ (c i l)+(Z (l.getD i [])-1):=by rw[Q6];rfl
  rw[b,ls];refine⟨t1,?_,?_⟩
  .rw[xW,h2,LC,iT,iT,fv]
  .rw[m];omega
theorem aik(l:E (E V))(i:G):dQ (c i l)<=dQ l:=by
 conv=>rhs;rw[<-uj i l]
 rw[Q6];omega
def aur{l:E (E V)}(d:∀g∈l,Mon p g/\1<=Z g)(v:dQ l<=900)(x:Z l<=1000):aq r 215 [S (.sl au) l,cU p] (S au<|ls p l<|Z l):=by
 refine aS Tryz.func215 ?_;have s:=H.hp.1;have k:=H.le;refine e J<|w<|rl au [1] J J (O J<|h<|e J ?_);refine aA<|bx (α:=G) (λi=>⟨[(0,S (.sl au) l),(1,cU p),(5,S au<|ls p l i),(6,y i)],[],4,[]⟩) (λi=>i<=Z l) (λi=>Z l-i) 0 (bm _) aY ?_;intro i t;refine h<|e J<|F J (λh1=>?_)<|λh1=>?_
 .have h1:i<Z l:=by have h1:(i:V)<(Z l:V):=aX h1;omega
  have u:ah ((i:V))=i:=cx i;have f:(I l (ah<|(i:V))<|ET.et<|.sl au)=l.getD i []:=bl (λz=>l.getD z []) u;have b:l.getD i []∈l:=Rq;let ⟨t1,_,t3⟩:=LN H d i t;have A:=aik H l i;have B:=aik H l<|i+1;let ⟨_,_,m⟩:=LN H d (i+1) h1;let ⟨n,g2⟩:=d _ b;let ⟨_,t7⟩:=Yj H t1 n;have a:=wu (ls p l i) (l.getD i []) p Y (by have m:Z (cX (ls p l i) (l.getD i []) p)=_:=m;omega) Y Y t1.c.1 n.c.1;have hE:ls p l (i+1)=cX (ls p l i) (l.getD i []) p:=rfl;rw[<-hE]at a;rw[<-f]at a;exact aG<|h<|aA<|cL<|rc J J a (O J<|bU<|rt J (hp:=aH)<|a6 (i+1) h1 zO aY) (hp:=aH)
 .have h1:i=Z l:=by have h1:¬(i:V)<(Z l:V):=bh h1;omega
  subst h1;exact bD<|aR<|e J<|di J
end
section
variable{p:G}
structure wU where
 a:E V
 b:E V
 t:E V
 n:E V
def wU.q(p:G)(x:wU):E V:=aU (aV x.a x.b p).1
def wU.next(p:G)(x:wU):wU:=⟨x.b,(aV x.a x.b p).2,x.n,aU<|gU x.t (cX (x.q p) x.n p) p⟩
def Ei(p:G):G->wU->wU
 |0,x=>x
 |k+1,x=>if x.b=[]then x else Ei p k (x.next p)
structure Ej(p:G)(g h:E V)(C:G)(x:wU):Prop where
 ca:bJ p x.a
 cb:bJ p x.b
 ct:bJ p x.t
 cn:bJ p x.n
 a0:x.a≠[]
 l1:x.n.length+x.a.length<=C
 l2:x.t.length+x.b.length<=C
 d1:(fx g:Fx p)∣fx x.a-fx x.t*fx h
 d2:(fx g:Fx p)∣fx x.b-fx x.n*fx h
 co:Co (fx x.a:Fx p) (fx x.b)
variable(H:bF p)
include H
def aus{a b:E V}(f:bJ p a)(g:bJ p b)(d:b≠[]):(fx a:Fx p)=fx (aV a b p).1*fx b+fx (aV a b p).2:=
 mk_eq.2 (nh H.hp H.le f.1 g d).1
def Ej.next{g f:E V}{C:G}{x:wU}(d:Ej p g f C x)(i:x.b≠[]):Ej p g f C (x.next p)/\(x.next p).b.length<Z x.b:=by
 let ⟨_,o,r,w,z,K⟩:=nh H.hp H.le d.ca.1 d.cb i;have u:=aus H d.ca d.cb i;have y:=d.l1;have F:=d.l2;have J:=cR.2 i;have l:(fx (x.q p):Fx p)=fx (aV x.a x.b p).1:=Hk _;have N:Z (x.q p)<=Z x.a-(Z x.b-1):=by have:=qP (aV x.a x.b p).1;rw[K]at this;exact this
 have m:=qP<|gU x.t (cX (x.q p) x.n p) p;rw[PI]at m;have P:Z (cX (x.q p) x.n p)+Z x.b<=C:=by
  by_cases e:x.q p=[]\/x.n=[]
  .unfold cX;rw[q e,ug];omega
  .have Q:x.q p≠[]:=λk=>e (.inl k)
   have T:x.n≠[]:=λk=>e<|.inr k
   have:=xM (x.q p) x.n p;have L:=cR.2 Q;have M:=cR.2 T;omega
 have s:(fx (x.next p).n:Fx p)=fx x.t-fx (aV x.a x.b p).1*fx x.n:=by show(fx (aU<|gU x.t (cX (x.q p) x.n p) p):Fx p)=_;rw[WO,xW,l]
 have W:(fx (aV x.a x.b p).2:Fx p)=fx x.a-fx (aV x.a x.b p).1*fx x.b:=KI (by rw[js,<-u]);refine⟨⟨d.cb,z d.ca,d.cn,mh H.pos<|DG H.pos _ _,i,?_,?_,d.d2,?_,?_⟩,by show(aV x.a x.b p).2.length<_;omega⟩
 .show Z (aU _)+Z x.b<=C;omega
 .show Z x.n+(aV x.a x.b p).2.length<=C;by_cases c:Z x.b<=Z x.a
  .omega
  .have:(aV x.a x.b p).2=x.a:=by unfold aV;rw[q Y]
   rw[this];omega
 .show(fx g:Fx p)∣fx (aV x.a x.b p).2-fx (x.next p).n*fx f;rw[W,s,qT];have X:(fx g:Fx p)∣fx (aV x.a x.b p).1*fx x.b-fx (aV x.a x.b p).1*(fx x.n*fx f):=nk (kA _ _) d.d2;have j:=dvd_sub d.d1 X;have e:∀A B C D:Fx p,A-B-(C-D)=A-C-(B-D):=λA B C D=>by rw[eY (A-B),neg_sub,eY<|A-C,neg_sub,eY A,eY D,eY A,eY D];ac_rfl
  rw[e]at j;rwa[c9 (fx (aV x.a x.b p).1)]
 .let ⟨U,v,e⟩:=d.co;refine⟨U*fx (aV x.a x.b p).1+v,U,?_⟩;show(U*fx (aV x.a x.b p).1+v)*fx x.b+U*fx (aV x.a x.b p).2=1;rw[<-e,u,gh,fE];ac_rfl
def ail{g d:E V}{C:G}:∀(k:G)(x:wU),Ej p g d C x->Z x.b<k->Ej p g d C (Ei p k x)/\(Ei p k x).b=[]
 |0,x,_,i=>by omega
 |k+1,x,f,i=>by
  rw[Ei];split
  .rename_i a;exact⟨f,a⟩
  .rename_i a;let ⟨l,m⟩:=f.next H a;exact ail k _ l Y
def aut{g d:E V}(s:Mon p g)(hh:Mon p d)(g2:2<=Z g)(lg:Z g<=100)(lh:d.length<=100)(N:Co (fx g:Fx p) (fx d)):∃t,bJ p t/\Z t<Z g/\(fx g:Fx p)∣fx t*fx d-1/\aq r 258 [S au g,S au d,cU p] (S au t):=by
 have Dh:=H.hp.1;have aim:=H.le;have I0:Ej p g d 101 ⟨g,d,[],[1]⟩:=⟨s.c,hh.c,tx H.pos,aij H,s.ne,by show 1+Z g<=_;omega,by show 0+d.length<=_;omega,by rw[lG,dw,sub_zero];exact oD _,by rw[DQ,cY,sub_self];exact uI _,N⟩;let ⟨i,e0⟩:=ail H (d.length+1) ⟨g,d,[],[1]⟩ I0<|dO _;generalize hX:Ei p (d.length+1) ⟨g,d,[],[1]⟩=X at*;have hu:sz (fx X.a:Fx p)=1:=by let ⟨U,Ek,l⟩:=i.co;rw[e0,lG,g8,fq]at l;exact zr H l
 rw[dc i.ca]at hu;obtain⟨c,D⟩:∃c,X.a=[c]:=by
  match hxa:X.a,hu with
  |[c],_=>exact⟨c,J⟩
 have m:0<=c/\c<p:=by have:=i.ca.1 0;rw[D]at this;exact this
 have u:c≠0:=by
  rcases i.ca.2 with l|l
  .exact aJ l i.a0
  .rw[D]at l;exact l
 have z:=Wm c p m u Y Y;have P:=G7 H.hp H.le m.1 m.2 u;have Q:((jD (ah c) (ah ((p:G):V)):G):V)<p:=by rw[aeE _ _ (by rw[cx];omega) (by rw[cx];omega),cx];have:=gJ (ah c^(p-2)) (Y:0<p);omega
 generalize jD (ah c) (ah ((p:G):V))=v at*;have l2:=i.l2;have T:=wu [(v:V)] X.t p ax Y Y Y (G9 Y Q) i.ct.1;have A:=xM [(v:V)] X.t p;have W:=uH p H.hp H.le (cX [(v:V)] X.t p) g (by simp at A;omega) Y (oB H.pos _ _) s.c s.ne;let ⟨r1,r2,r3⟩:=x8 H (oB H.pos [(v:V)] X.t) s.c s.ne;refine⟨_,r1,r2,?_,?_⟩
 .rw[xW,WN]at r3;have k1:(fx g:Fx p)∣fx (aV (cX [(v:V)] X.t p) g p).2*fx d-K v*fx X.t*fx d:=nk r3<|kA _ _;have k2:(fx g:Fx p)∣K v*fx X.a-K v*(fx X.t*fx d):=nk (kA _ _) i.d1;rw[D,WN,<-dL,DP (a:=(v:V)*c) (b:=1) (by rw[fo,P,H.one]),<-c9]at k2;exact mH k1<|oE k2
 refine aS Tryz.func258 ?_;refine e J<|e J<|w<|rl au [] J J (rl au [1] J J (O J ?_));refine h<|aA<|bx (α:=G×wU) (λy=>⟨[(0,S au g),(1,S au d),(2,cU p),(7,S au y.2.a),(8,S au y.2.b),(9,S au y.2.t),(10,S au y.2.n)],[],3,[]⟩) (λy=>Ej p g d 101 y.2/\Z y.2.b<y.1/\Ei p y.1 y.2=X) (λy=>y.1) (d.length+1,⟨g,d,[],[1]⟩) ⟨I0,dO _,hX⟩ aY ?_;rintro⟨k,x⟩ ⟨I,hk,hr⟩;simp only at I hk hr;obtain⟨k,rfl⟩:∃k',k=k'+1:=⟨k-1,Y⟩;rw[Ei]at hr;have l1:=I.l1;have l2:=I.l2;refine h<|e J<|F J (λf=>?_)<|λf=>?_
 .have f:0<Z x.b:=by have f:(Z x.b:V)>0:=aX f;omega
  have B:x.b≠[]:=cR.1 f;rw[j B]at hr;let ⟨n1,n2⟩:=I.next H B;have C:=Bn p H.hp H.le x.a x.b Y Y I.ca I.cb B;have o:aU (aV x.a x.b p).1=x.q p:=rfl;rw[o]at C;have hq:Z (x.q p)<=101:=by have:=qP (aV x.a x.b p).1;rw[(nh H.hp H.le I.ca.1 I.cb B).2.2.2.2.2]at this;show Z (aU _)<=_;omega
  have L:bJ p (x.q p):=mh H.pos (nh H.hp H.le I.ca.1 I.cb B).2.1;have M:=wu (x.q p) x.n p Y Y Y Y L.1 I.cn.1;have R:=oB H.pos (x.q p) x.n;have A:=xM (x.q p) x.n p;have hsu:=KB x.t (cX (x.q p) x.n p) p Y Y Y Y I.ct.1 R.1;exact dk<|aR<|aA<|w<|rc J J C<|O J<|e J<|e J<|w<|rc J J M<|rc J J hsu<|O J<|e J<|rt J<|fT<|a6 (k,x.next p) ⟨n1,(Y:(x.next p).b.length<k),hr⟩ (dO k) aY
 .have f:x.b=[]:=gA (by have f:¬(Z x.b:V)>0:=bh f;omega);rw[q f]at hr;subst hr;refine bD<|aR ?_;show TR _ _ _ ⟨_,_,_,_⟩ _;simp only[D];exact bL J J z J<|w<|rl au [(v:V)] J J (rc J J T<|rc J J W<|O J<|di J)
end
def oK(f a K:E V):E V:=aU<|mm f<|aU<|mE a K
def k6(a:V)(p:G)(f b K:E V):E V:=(oK f b K).map λx=>x/a%(p:V)
def rh(a:V)(p:G)(f g t b K:E V):E V:=(aV (cX t (aU<|k6 a p f b K) p) g p).2
def BT(a:V)(p:G)(f g d t b K:E V):E V:=(aV (aU<|gU (aU<|k6 a p f b K) (cX (rh a p f g t b K) d p) p) g p).1
def fA(p:G)(f g b t:E V):G->E V×E V
 |0=>(g,b)
 |a+1=>(np (fA p f g b t a).1 ((p:V)^(a+1))<|rh ((p:V)^(a+1)) p f g t (fA p f g b t a).1 (fA p f g b t a).2,np (fA p f g b t a).2 ((p:V)^(a+1))<|BT ((p:V)^(a+1)) p f g b t (fA p f g b t a).1 (fA p f g b t a).2)
structure LO(p:G)(f g h t:E V):Prop where
 H:bF p
 fm:aL f
 hg:Mon p g
 hh:Mon p h
 g2:2<=g.length
 h2:2<=h.length
 lg:g.length<=100
 lh:h.length<=100
 fl:f.length+1=g.length+h.length
 pr:(fx f:Fx p)=fx g*fx h
 tc:bJ p t
 tl:t.length<g.length
 ht:(fx g:Fx p)∣fx t*fx h-1
section
variable{p:G}{f g h t:E V}(A:LO p f g h t)
include A
structure TwE(p:G)(f g h t b K:E V)(a:G):Prop where
 D:(oK f b K).length+2<=g.length+h.length
 e:bJ p (aU<|k6 ((p:V)^a) p f b K)
 el:(aU<|k6 ((p:V)^a) p f b K).length+2<=g.length+h.length
 cg:bJ p (rh ((p:V)^a) p f g t b K)
 lg:(rh ((p:V)^a) p f g t b K).length<g.length
 ck:bJ p (BT ((p:V)^a) p f g h t b K)
 lk:(BT ((p:V)^a) p f g h t b K).length<h.length
 nx:wT p f g h (np b ((p:V)^a)<|rh ((p:V)^a) p f g t b K) (np K ((p:V)^a)<|BT ((p:V)^a) p f g h t b K) (a+1)
def LO.step{a K:E V}{b:G}(d:wT p f g h a K b)(j1:1<=b):TwE p f g h t a K b:=by
 have H:=A.H;have o:=H.hp.1;have q:(0:V)<(p:V)^b:=ow Y;let ⟨w,hw⟩:=d.pr;have l:∀i,I (oK f a K) i 0=(p:V)^b*w i:=λi=>by
  have m:ps (oK f a K) i=ps f i-(ps a*ps K) i:=by show ps (aU<|mm f<|aU<|mE a K) i=_;rw[sd,cM,HL,<-cM,<-cM,sd,afZ _ _ d.Gm.1 d.Km.1]
  rw[cM]at m;rw[m,hw,PS.dP,PS.dL];omega
 have B:Z (oK f a K)+2<=Z g+h.length:=by
  have k:=d.Gm.wH.mul d.Km.wH;have n:=A.fm.wH;have Q:∀i,Z f-1<=i->I (oK f a K) i 0=0:=λi T=>by
   have m:I (oK f a K) i 0=ps f i-(ps a*ps K) i:=by rw[l i,hw,PS.dP,PS.dL];omega
   have W:Z a-1+(K.length-1)=Z f-1:=by have:=d.Gl;have:=d.Kl;have:=A.fl;have:=A.g2;have:=A.h2;omega
   rw[W]at k;rcases Nat.lt_or_eq_of_le T with e|e
   .rw[m,n.z i e,k.z i e];rfl
   .rw[m,<-e,n.one,k.one];rfl
  have X:can (oK f a K):=JZ _;have:=A.fl;have:=A.g2;have:=A.h2;rcases X with e|e
  .rw[e];simp;omega
  .rcases rq (Z (oK f a K)-1) (Z f-1)with D|D
   .omega
   .exact aJ (Q _ D) e
 have s:∀i,I (k6 ((p:V)^b) p f a K) i 0=w i%p:=λi=>by show I ((oK f a K).map λx=>x/(p:V)^b%(p:V)) i 0=_;rw[getD_map (f:=λx=>x/(p:V)^b%(p:V)) Yt,l i,Yu _ Y]
 have C:rp p (k6 ((p:V)^b) p f a K):=λi=>by rw[s i];exact⟨jq _ Y,jr _ Y⟩
 have u:bJ p (aU<|k6 ((p:V)^b) p f a K):=mh H.pos C;have v:Z (aU<|k6 ((p:V)^b) p f a K)+2<=Z g+h.length:=by
  have r:=qP<|k6 ((p:V)^b) p f a K;have y:Z (k6 ((p:V)^b) p f a K)=Z (oK f a K):=by simp[k6]
  omega
 let ⟨a1,a2,N,P,c⟩:=at8 H A.hg A.hh A.g2 u v A.ht;exact⟨B,u,v,a2,a1,N,P,d.step H j1 w hw (Cg.of λi=>by rw[sd,cM,s i,nT]) a1 a2 P N c⟩
def LO.all:∀a,wT p f g h (fA p f g h t a).1 (fA p f g h t a).2 (a+1)
 |0=>wT.start A.hg A.hh A.pr
 |a+1=>(A.step (LO.all a)<|Rp<|bm a).nx
theorem ain{a d:E V}(b:V)(i:aL a)(h:Z d<Z a):aU (zE a b d)=np a b d:=by
 have e:zE a b d=np a b d:=by unfold zE np;rw[(Y:max (Z a) (Z d)=Z a)]
 rw[e];exact(Yk b i h).trim
def auw(hb:aq r 258 [S au g,S au h,cU p] (S au t)){k u l:G}(k1:1<=k)(kk:k<=1000)(hu:∀i,aK u (I f i 0))(hw:aK l ((p:V)^k))(u9:u<=1000)(w9:l<=1000)(w1:1<=l):aq r 214 [S .z f,S au g,S au h,cU p,y k] (.a [.S .z (fA p f g h t<|k-1).1,.S .z (fA p f g h t<|k-1).2]):=by
 have H:=A.H;have Dh:=H.hp.1;have aim:=H.le;have lg:=A.lg;have lh:=A.lh;have g2:=A.g2;have h2:=A.h2;have fl:=A.fl;obtain⟨k,rfl⟩:∃n,k=n+1:=⟨k-1,Y⟩;rw[eD];have v:∀{q:E V},Mon p q->∀i,0<=I q i 0/\I q i 0<4294967296:=λ{q} hq i=>by have:=hq.c.1 i;omega
 have C:=afQ g Y<|v A.hg;have N:=afQ h Y<|v A.hh;rw[xL A.hg.c.2]at C;rw[xL A.hh.c.2]at N;refine aS Tryz.func214 ?_;refine e J<|bL J J hb J<|w<|rc J J C<|rc J J N<|O J ?_;refine w<|rc J J (jO p Y Y) (O J<|bA<|e J ?_) (hp:=aH);refine aA<|bx (α:=G) (λi=>⟨[(0,S .z f),(1,S au g),(2,S au h),(3,cU p),(4,y ((k+1:G):V)),(10,.c<|.P 0 0),(11,S au t),(12,.c<|.P 2005000 0),(13,.c<|.P 3003000 0),(14,y ((i+1:G):V))],[(0,.box 208 0 [.V (.slice none 0 0),.V<|.slice none 0 0]),(2005000,.box 208 0 [.S .z (fA p f g h t i).1,.S .z (fA p f g h t i).2]),(3003000,.box 42 0<|av .z<|(p:V)^(i+1))],5,[]⟩) (λi=>i<=k) (λi=>k-i) 0 (bm _) (wk (bP J) ⟨bE J J,bE J J,bE J ?_,M⟩) ?_
 .rw[gG,qN,mc];rfl
 intro i hi;have B:=A.all i;let ⟨e1,e2,e3,e4,e5,e6,e7,e8⟩:=A.step B<|Rp<|bm i;have hq:(0:V)<(p:V)^(i+1):=ow Y;have Ph:(p:V)^(i+1)<=(p:V)^(k+1):=by rw[<-wj,<-wj];exact P6.2<|eU Y Y
 have m:aK l ((p:V)^(i+1)):=by unfold aK at*;omega
 have JX:(fA p f g h t<|i+1).1=np (fA p f g h t i).1 ((p:V)^(i+1)) (rh ((p:V)^(i+1)) p f g t (fA p f g h t i).1 (fA p f g h t i).2):=rfl;have OJ:(fA p f g h t<|i+1).2=np (fA p f g h t i).2 ((p:V)^(i+1)) (BT ((p:V)^(i+1)) p f g h t (fA p f g h t i).1 (fA p f g h t i).2):=rfl;have hE:k6 ((p:V)^(i+1)) p f (fA p f g h t i).1 (fA p f g h t i).2=(oK f (fA p f g h t i).1 (fA p f g h t i).2).map λx=>x/(p:V)^(i+1)%(p:V):=rfl
 have hGE:rh ((p:V)^(i+1)) p f g t (fA p f g h t i).1 (fA p f g h t i).2=(aV (cX t (aU<|k6 ((p:V)^(i+1)) p f (fA p f g h t i).1 (fA p f g h t i).2) p) g p).2:=rfl;have hKE:BT ((p:V)^(i+1)) p f g h t (fA p f g h t i).1 (fA p f g h t i).2=(aV (aU<|gU (aU<|k6 ((p:V)^(i+1)) p f (fA p f g h t i).1 (fA p f g h t i).2) (cX (rh ((p:V)^(i+1)) p f g t (fA p f g h t i).1 (fA p f g h t i).2) h p) p) g p).1:=rfl;have Q:oK f (fA p f g h t i).1 (fA p f g h t i).2=aU (mm f<|aU<|mE (fA p f g h t i).1 (fA p f g h t i).2):=rfl;have gB:∀j,aK l ((fA p f g h t i).1.getD j 0):=λj=>by have:=B.Gr j;unfold aK at*;omega
 have kB:∀j,aK l ((fA p f g h t i).2.getD j 0):=λj=>by have:=B.Kr j;unfold aK at*;omega
 generalize hG0:(fA p f g h t i).1=b at*;generalize hK0:(fA p f g h t i).2=K at*;generalize Ka:(p:V)^(i+1)=q at*;refine bA<|e J<|F J (λs=>?_)<|λs=>?_
 .have s:i<k:=by have s:((i+1:G):V)<((k+1:G):V):=aX s;omega
  have gl:=B.Gl;have kl:=B.Kl;have CJ:=aeU b K l l Y Y Y gB kB;have T:∀i,aK (2*l+1+u) (I (aU<|mE b K) i 0):=λi=>by rw[<-cM,sd,cM];exact(af0 b K l l gB kB Y Y i).le Y
  have hil:Z (aU<|mE b K)<=200:=by have:=qP<|mE b K;rw[Lb]at this;omega
  have W:=aii f (aU<|mE b K) (2*l+1+u) Y Y Y (λi=>(hu i).le Y) T;have o:∀i,aK (2*l+2+u) (I (oK f b K) i 0):=λi=>by rw[Q,<-cM,sd,cM,HL];exact(((hu i).le (Y:u<=2*l+1+u)).sub<|T i).le Y
  rw[<-Q]at W;have hLl:Z (k6 q p f b K)=Z (oK f b K):=by rw[hE,c7]
  have hLr:∀j,j<Z (oK f b K)->I (k6 q p f b K) j 0=I (oK f b K) j 0/q%(p:V):=λj _=>by rw[hE];exact getD_map (f:=λx=>x/q%(p:V)) Yt _ j
  have R:rp p (k6 q p f b K):=λj=>by rw[hE,getD_map (f:=λx=>x/q%(p:V)) Yt];exact⟨jq _ Y,jr _ Y⟩
  have U:=zh (k6 q p f b K) p Y Y Y<|λj=>(R j).1;rw[KA R]at U;have tl:=A.tl;have A3:=wu t (aU<|k6 q p f b K) p Y Y Y Y A.tc.1 e2.1;have Ob:=xM t (aU<|k6 q p f b K) p;have s8:=uH p H.hp H.le (cX t (aU<|k6 q p f b K) p) g Y Y (oB H.pos _ _) A.hg.c A.hg.ne;rw[<-hGE]at s8;have hm2:=wu (rh q p f g t b K) h p Y Y Y Y e4.1 A.hh.c.1;have ay0:=xM (rh q p f g t b K) h p;have auE:=KB (aU<|k6 q p f b K) (cX (rh q p f g t b K) h p) p Y Y Y Y e2.1 (oB H.pos _ _).1;have s7:=qP<|gU (aU<|k6 q p f b K) (cX (rh q p f g t b K) h p) p;rw[PI]at s7;have hd2:=Bn p H.hp H.le (aU<|gU (aU<|k6 q p f b K) (cX (rh q p f g t b K) h p) p) g Y Y (mh H.pos<|DG H.pos _ _) A.hg.c A.hg.ne;rw[<-hKE,xL e6.2]at hd2;have ha1:=K8 b q (rh q p f g t b K) l Y Y Y gB m (λj=>by have:=e4.1 j;omega);have Q1:=K8 K q (BT q p f g h t b K) l Y Y Y kB m (λj=>by have:=e6.1 j;omega);rw[ain A q B.Gm Y,<-JX]at ha1;rw[ain A q B.Km Y,<-OJ]at Q1;have Yv:=mb q p (m.sm Y)<|(aK.one (a:=(p:V)) Y).sm Y;generalize rh q p f g t b K=dg at*;generalize BT q p f g h t b K=dh at*;generalize k6 q p f b K=L at*;generalize oK f b K=D at*;refine dk<|aR<|bA<|aA<|w<|rc J J CJ<|rc J J W<|O J<|w<|ij au [] J J (O J<|bA<|e J ?_)
  refine aA<|bx (α:=G) (λj=>⟨[(0,S .z f),(1,S au g),(2,S au h),(3,cU p),(4,y ((k+1:G):V)),(10,.c<|.P 0 0),(11,S au t),(12,.c<|.P 2005000 0),(13,.c<|.P 3003000 0),(14,y ((i+1:G):V)),(15,S .z D),(16,.c<|.X 7000000),(17,y j)],[(0,.box 208 0 [.V (.slice none 0 0),.V<|.slice none 0 0]),(2005000,.box 208 0 [.S .z b,.S .z K]),(3003000,.box 42 0<|av .z q),(7000000,.vec 150 au<|c j L)],9,[]⟩) (λj=>j<=Z D) (λj=>Z D-j) 0 (bm _) aY ?_;intro j hj;have hl:(c j L).length=j:=b6;refine bA<|e J<|F J (λd=>?_)<|λd=>?_
  .have d:j<Z D:=by have d:(j:V)<(Z D:V):=aX d;omega
   have ej:ah ((j:V))=j:=cx j;have GO:=GQ (I D (ah<|(j:V)) 0) q Y ((o _).sm Y)<|m.sm Y;have C5:=aeV (I D (ah<|(j:V)) 0/q) p Y Y (by
    have h1:=o<|ah<|(j:V);have h2:aK (2*l+2+u) (I D (ah<|(j:V)) 0/q):=by have:=Yw (I D (ah<|(j:V)) 0) q;unfold aK at*;omega
    exact h2.sm Y)
   refine aG<|bA<|aA ?_;refine w<|rc J J GO (O J ?_) (hp:=aH);refine cL<|rc J J C5<|rl au [_] J J (ra J J J J J J J J J ?_ ?_<|O J ?_)
   .show(_+1+(_+1)/4+192)*8<=_;omega
   .show(_+1)*1<=_;omega
   refine bU<|rt J (hp:=aH)<|a6 (j+1) d (Y:Z D-(j+1)<Z D-j)<|Wk.trans (wk (st':=⟨[(0,S .z f),(1,S au g),(2,S au h),(3,cU p),(4,y ((k+1:G):V)),(10,.c<|.P 0 0),(11,S au t),(12,.c<|.P 2005000 0),(13,.c<|.P 3003000 0),(14,y ((i+1:G):V)),(15,S .z D),(16,.c<|.X 11005000),(17,y ((j+1:G):V))],[(0,.box 208 0 [.V (.slice none 0 0),.V<|.slice none 0 0]),(2005000,.box 208 0 [.S .z b,.S .z K]),(3003000,.box 42 0<|av .z q),(11005000,.vec 150 au<|c (j+1) L)],24,[]⟩) (bP J) ⟨bR J,bR J,bR J,bE J ?_,M⟩)<|Wk.trans (iw 7000000 11005000 J J J) aY;refine bl (aC.vec 150 au) ?_;rw[tv _ j Y,hLr j d,ej]
  .have d:j=Z D:=by have d:¬(j:V)<(Z D:V):=bh d;omega
   subst d;rw[jy Y];refine bD<|aR<|dm 7000000 J J J<|bL J J U J ?_;refine w<|rc J J A3<|rc J J s8<|O J<|w<|rc J J hm2<|rc J J auE<|rc J J hd2<|O J ?_;refine w<|rc J J ha1<|rc J J Q1<|O J ?_;refine cL<|rc J J (jO p Y Y) (rc J J Yv<|O J ?_) (hp:=aH);refine bU<|rt J (hp:=aH)<|a6 (i+1) s Qe<|wk (bP J) ⟨bE J J,bE J J,bE J ?_,M⟩;rw[gG,Ka];rfl
 .have s:i=k:=by have s:¬((i+1:G):V)<((k+1:G):V):=bh s;omega
  subst s;refine bD<|aR ?_;rw[hG0,hK0];exact e J<|cd J J
end
section
variable{p:G}(H:bF p)
open Classical in
def zZ(p:G)(g a:E V):E V:=if e:∃t,bJ p t/\Z t<Z g/\(fx g:Fx p)∣fx t*fx a-1/\aq r 258 [S au g,S au a,cU p] (S au t)then zC e else[]
include H in
def auF{g a:E V}(d:Mon p g)(f:Mon p a)(i:2<=Z g)(k:Z g<=100)(l:a.length<=100)(b:Co (fx g:Fx p) (fx a)):bJ p (zZ p g a)/\Z (zZ p g a)<Z g/\(fx g:Fx p)∣fx (zZ p g a)*fx a-1/\aq r 258 [S au g,S au a,cU p] (S au<|zZ p g a):=by have e:=aut H d f i k l b;unfold zZ;rw[dif_pos e];exact xN e
def uY(p k:G)(f:E V)(l:E (E V)):E V×E V:=fA p f (l.getD 0 []) (ls p l.tail<|Z l.tail) (zZ p (l.getD 0 [])<|ls p l.tail<|Z l.tail)<|k-1
def tP(p k:G):E V->E (E V)->E (E V)
 |_,[]=>[]
 |f,[_]=>[f.map (dW · ((p:V)^k))]
 |f,g::a::b=>(uY p k f<|g::a::b).1.map (dW · ((p:V)^k))::tP p k (uY p k f<|g::a::b).2 (a::b)
structure x9(p:G)(f:E V)(l:E (E V)):Prop where
 fm:aL f
 ok:∀g∈l,Mon p g/\2<=g.length
 pr:(fx f:Fx p)=iT p l
 co:l.Pairwise (λx a=>Co (fx x:Fx p)<|fx a)
 fl:f.length=1+dQ l
 d9:dQ l<=90
def air:∀l:E (E V),iT p l=gN l
 |[]=>rfl
 |f::l=>by rw[iT,gN,air l]
def ais:∀{l:E (E V)}{g:E V},g∈l->Z g<=1+dQ l
 |x::l,g,a=>by
  rw[dQ];rcases b9.1 a with rfl|a
  .omega
  .have:=ais a;omega
include H
def x9.two{f g a:E V}{b:E (E V)}(A:x9 p f (g::a::b)):LO p f g (ls p (a::b) (a::b).length) (zZ p g<|ls p (a::b) (a::b).length)/\aq r 258 [S au g,S au<|ls p (a::b) (a::b).length,cU p] (S au<|zZ p g<|ls p (a::b) (a::b).length):=by
 let ⟨i,g2⟩:=A.ok g ax;let ⟨t1,t2,t3⟩:=LN H (l:=a::b) (λx hx=>⟨(A.ok x k7).1,by have:=(A.ok x k7).2;omega⟩) _<|aN _;rw[ik]at t2 t3;let ⟨u,h2⟩:=A.ok a ax;let ⟨c1,_⟩:=kI.1 A.co;have v:dQ (g::a::b)=(Z g-1)+dQ (a::b):=rfl;have k:dQ (a::b)=(a.length-1)+dQ b:=rfl;have z:=A.d9;have B:=A.fl;have d:Co (fx g:Fx p) (fx<|ls p (a::b) (a::b).length):=by rw[t2,air];exact ahS H c1
 let ⟨m,n,s,t⟩:=auF H i t1 g2 Y Y d;refine⟨⟨H,A.fm,i,t1,g2,Y,Y,Y,Y,?_,m,n,s⟩,t⟩;rw[A.pr,t2];rfl
def x9.next{f g a:E V}{b:E (E V)}(A:x9 p f (g::a::b)){k:G}(d:1<=k):wT p f g (ls p (a::b) (a::b).length) (uY p k f<|g::a::b).1 (uY p k f<|g::a::b).2 k/\x9 p (uY p k f<|g::a::b).2 (a::b):=by let ⟨T,_⟩:=A.two H;have I:=T.all<|k-1;rw[(Y:k-1+1=k)]at I;have I:wT p f g (ls p (a::b) (a::b).length) (uY p k f<|g::a::b).1 (uY p k f<|g::a::b).2 k:=I;let ⟨t1,t2,t3⟩:=LN H (l:=a::b) (λx hx=>⟨(A.ok x k7).1,by have:=(A.ok x k7).2;omega⟩) _<|aN _;rw[ik]at t2 t3;have i:dQ (g::a::b)=(Z g-1)+dQ (a::b):=rfl;have m:=A.d9;exact⟨I,I.Km,λx hx=>A.ok x k7,by rw[I.Kp,t2],(kI.1 A.co).2,by rw[I.Kl,t3],Y⟩
def ait{k:G}(v:1<=k):∀(l:E (E V))(f:E V),x9 p f l->HK p k f l (tP p k f l)
 |[],f,A=>by
  refine⟨J,λi m=>aJ m ax,?_⟩;have n:f=[1]:=by
   have x:=A.fl;have s:=A.fm.2;match f,x with
   |[c],_=>rw[show c=1 from s]
  rw[n,PK];exact Cg.refl _ _
 |[g],f,A=>by
  have b:(1:V)<(p:V)^k:=by obtain⟨j,rfl⟩:∃j,k=j+1:=⟨k-1,Y⟩;have:=H.hp.1;have s:(0:V)<(p:V)^j:=ow Y;have z:=iE (Y:(1:V)<=(p:V)^j) (Y:(0:V)<=p);rw[gG];omega
  have a:(p:V)∣(p:V)^k:=by obtain⟨j,rfl⟩:∃j,k=j+1:=⟨k-1,Y⟩;rw[gG];exact DX _ _
  have C:=A.fl;let ⟨D,g2⟩:=A.ok g ax;have N:dQ [g]=Z g-1:=rfl;refine⟨J,λi m=>?_,?_⟩
  .have t:i=0:=by simp at m;omega
   subst t;show aL (f.map (dW · ((p:V)^k)))/\(f.map (dW · ((p:V)^k))).length=Z g/\(fx (f.map (dW · ((p:V)^k))):Fx p)=fx g/\∀j,dW ((f.map (dW · ((p:V)^k))).getD j 0) ((p:V)^k)=(f.map (dW · ((p:V)^k))).getD j 0;refine⟨DW b A.fm,by rw[c7];omega,?_,λj=>?_⟩
   .have n:(fx f:Fx p)=fx g:=by rw[A.pr,iT,iT,fv]
    rw[<-n];refine P9<|Cg.of λi=>?_;rw[cM,cM,sn _ Y,<-uQ _ a,Bz Y,uQ _ a]
   .rw[sn _ Y];exact Qo<|Bz Y _
  .show Cg _ (ps f) (ps (f.map (dW · ((p:V)^k)))*1);rw[PS.fv];exact Cg.of λi=>by rw[cM,cM,sn _ Y,Bz Y]
 |g::h::r,f,A=>by
  let ⟨I,B⟩:=A.next H v;have u:=ait v (h::r) _ B;have b:(1:V)<(p:V)^k:=by obtain⟨j,rfl⟩:∃j,k=j+1:=⟨k-1,Y⟩;have:=H.hp.1;have s:(0:V)<(p:V)^j:=ow Y;have z:=iE (Y:(1:V)<=(p:V)^j) (Y:(0:V)<=p);rw[gG];omega
  have a:(p:V)∣(p:V)^k:=by obtain⟨j,rfl⟩:∃j,k=j+1:=⟨k-1,Y⟩;rw[gG];exact DX _ _
  rw[tP];generalize (uY p k f<|g::h::r).1=d at*;generalize (uY p k f<|g::h::r).2=K at*;refine⟨by rw[iK,u.len];rfl,λi m=>?_,?_⟩
  .cases i with
   |zero=>
    show aL (d.map (dW · ((p:V)^k)))/\(d.map (dW · ((p:V)^k))).length=Z g/\(fx (d.map (dW · ((p:V)^k))):Fx p)=fx g/\∀j,dW ((d.map (dW · ((p:V)^k))).getD j 0) ((p:V)^k)=(d.map (dW · ((p:V)^k))).getD j 0
    refine⟨DW b I.Gm,by rw[c7,I.Gl],?_,λj=>?_⟩
    .rw[<-I.Gp];refine P9<|Cg.of λi=>?_;rw[cM,cM,sn _ Y,<-uQ _ a,Bz Y,uQ _ a]
    .rw[sn _ Y];exact Qo<|Bz Y _
   |succ i=>exact u.ok i (by simp only[iK]at m⊢;omega)
  .show Cg _ (ps f) (ps (d.map (dW · ((p:V)^k)))*qW (tP p k K<|h::r));refine I.pr.trans<|Cg.mul (Cg.of λi=>?_) u.pr;rw[cM,cM,sn _ Y,Bz Y]
omit H in
def auG{l:E (E V)}{i:G}(a:i+1<Z l):∃b d,az i l=l.getD i []::b::d/\az (i+1) l=b::d:=by
 have g:az i l=l.getD i []::az (i+1) l:=by rw[rZ Y,aO,cT Y];rfl
 have f:az (i+1) l=l.getD (i+1) []::az (i+2) l:=by rw[rZ a,aO,cT a];rfl
 exact⟨_,_,by rw[g,f],f⟩
def auH{f:E V}{l:E (E V)}(A:x9 p f l){k u w:G}(k1:1<=k)(kk:k<=1000)(hu:∀i,aK u (I f i 0))(hw:aK w ((p:V)^k))(u9:u<=1000)(w9:w<=u)(w1:1<=w):aq r 179 [S .z f,S (.sl au) l,cU p,y k] (S (.sl .z)<|tP p k f l):=by
 have Dh:=H.hp.1;have aim:=H.le;have q:(0:V)<(p:V)^k:=ow Y;have hll:Z l<=90:=by have h1:=(XV (l:=l) λg hg=>(A.ok g hg).2).1;have d:=A.d9;omega
 refine aS Tryz.func179 ?_;refine e J<|bL J J (WT p k Y Y) J<|rb<|ij (.sl .z) [] J J (O J<|h<|e J ?_);refine aA<|bx (α:=G×E V×E (E V)) (λa=>⟨[(0,S .z a.2.1),(1,S (.sl au) l),(2,cU p),(3,y k),(9,.c<|.P 1003000 0),(10,.c<|.X 2000000),(11,y a.1)],[(1003000,.box 42 0<|av .z<|(p:V)^k),(2000000,.vec 161 (.sl .z) a.2.2)],4,[]⟩) (λa=>x9 p a.2.1 (az a.1 l)/\a.2.2++tP p k a.2.1 (az a.1 l)=tP p k f l/\Z a.2.2<=a.1/\a.1<=Z l/\(l≠[]->a.1<Z l)/\∀i,aK u (I a.2.1 i 0)) (λa=>Z l-a.1) (0,f,[]) ⟨A,J,aN _,bm _,λcP=>cR.2 cP,hu⟩ (wk (bP J) ⟨bE J J,bR J,M⟩) ?_;rintro⟨i,Q,o⟩ ⟨B,v,b3,b4,b5,R⟩;simp only at B v b3 b4 b5 R;have dF:Z Q<=91:=by have:=B.fl;have:=B.d9;omega
 refine h<|e J<|F J (λt=>?_)<|λt=>?_
 .have t:i+1<Z l:=by have t:(i:V)+1<(Z l:V):=aX t;omega
  let ⟨b,m,U,L⟩:=auG t;rw[U]at B v;let ⟨T,hbz⟩:=B.two H;let ⟨W,B'⟩:=B.next H k1;have C:=aur H (l:=b::m) (λx hx=>⟨(B.ok x k7).1,by have:=(B.ok x k7).2;omega⟩) (by have:=B'.d9;omega) (by rw[<-L];simp;omega);have D:=auw T hbz k1 kk R hw Y Y w1;have hE:fA p Q (l.getD i []) (ls p (b::m)<|Z<|b::m) (zZ p (l.getD i [])<|ls p (b::m)<|Z<|b::m) (k-1)=uY p k Q (l.getD i []::b::m):=rfl;rw[hE]at D;rw[tP]at v;generalize hG:(uY p k Q<|l.getD i []::b::m).1=N at*;generalize hK:(uY p k Q<|l.getD i []::b::m).2=K at*;have gB:∀i,aK w (I N i 0):=λi=>by have:=W.Gr i;unfold aK at*;omega
  have kB:∀i,aK u (K.getD i 0):=λi=>by have:=W.Kr i;exact aK.le (by unfold aK at*;omega:aK w (K.getD i 0)) w9
  have gl:Z N<=100:=by rw[W.Gl];exact T.lg
  have n:(1:V)<(p:V)^k:=by have:=W.Gr<|Z N-1;rw[W.Gm.2]at this;omega
  have s:=WV N ((p:V)^k) w Y Y q gB hw;rw[(DW n W.Gm).trim]at s;have ei:ah ((i:V))=i:=cx i;have CG:(I l (ah<|(i:V))<|ET.et<|.sl au)=l.getD i []:=bl (λz=>l.getD z []) ei;have es:az (ah<|(i:V)+1) (c (Z l) l)=b::m:=by rw[ik,(Y:ah ((i:V)+1)=i+1),L]
  rw[<-CG]at D;have C:aq r 215 [S (.sl au) (az (ah<|(i:V)+1)<|c (Z l) l),cU p] (S au<|ls p (b::m)<|Z<|b::m):=by rw[es];exact C
  refine aG<|h<|aA ?_;refine rb<|rc J J C (rc J J D<|O J ?_) (hp:=aH);refine rb<|rc J J s<|rl (.sl .z) [_] J J (ra J J J J J J J J J ?_ ?_<|O J<|rt J ?_)
  .show(Z o+1+(Z o+1)/4+192)*24<=_;omega
  .show(Z o+1)*1<=_;omega
  refine bU<|rt J (hp:=aH)<|a6 (i+1,K,o++[N.map (dW · ((p:V)^k))]) ⟨?_,?_,?_,?_,?_,kB⟩ ?_<|Wk.trans (wk (st':=⟨[(0,S .z K),(1,S (.sl au) l),(2,cU p),(3,y k),(9,.c<|.P 1003000 0),(10,.c<|.X 6006000),(11,y ((i+1:G):V))],[(1003000,.box 42 0<|av .z<|(p:V)^k),(6006000,.vec 161 (.sl .z)<|o++[N.map (dW · ((p:V)^k))])],16,[]⟩) (bP J)<|ny J)<|Wk.trans (iw 2000000 6006000 J J J) aY
  .show x9 p K (az (i+1) l);rw[L];exact B'
  .show(o++[N.map (dW · ((p:V)^k))])++tP p k K (az (i+1) l)=_;rw[L,<-v,mX];rfl
  .show Z (o++[_])<=i+1;simp;omega
  .show i+1<=_;omega
  .intro _;exact t
  .show Z l-(i+1)<Z l-i;omega
 .have t:¬i+1<Z l:=by have t:¬(i:V)+1<(Z l:V):=bh t;omega
  refine bD<|aR<|h<|e J<|F J (λd=>?_)<|λd=>?_
  .have d:0<Z l:=by have d:(Z l:V)>0:=aX d;omega
   have hi:=b5<|cR.1 d;have U:az i l=[l.getD i []]:=by rw[rZ Y,vo Y,aO,cT Y];rfl
   rw[U]at B v;have n:(1:V)<(p:V)^k:=by obtain⟨j,rfl⟩:∃j,k=j+1:=⟨k-1,Y⟩;have d:(0:V)<(p:V)^j:=ow Y;have h3:=iE (Y:(1:V)<=(p:V)^j) (Y:(0:V)<=p);rw[gG];omega
   have s:=WV Q ((p:V)^k) u Y Y q R<|hw.le w9;rw[(DW n B.fm).trim]at s;refine cL<|rc J J s<|rl (.sl .z) [_] J J (ra J J J J J J J J J ?_ ?_<|O J ?_)
   .show(Z o+1+(Z o+1)/4+192)*24<=_;omega
   .show(Z o+1)*1<=_;omega
   refine aR<|dm 6005000 J J J<|e J<|cd J ?_;rw[<-v];rfl
  .have d:l=[]:=gA (by have d:¬(Z l:V)>0:=bh d;omega);subst d;refine aG<|dm 2000000 J J J<|e J<|cd J ?_;rw[List.drop_nil]at v;rw[<-v];show S (.sl .z) o=_;rw[tP,iO]
end
end Go.El
namespace Go.El
open Go Go.Proofs Go.RowKit Rx
def aiu:∀l m,q9 (l++m)=q9 l+q9 m
 |[],m=>by rw[tZ,q9,fc]
 |x::l,m=>by rw[lO,q9,q9,aiu l m];omega
def Yx:∀{l:E (E Rat×V)},(∀x∈l,2<=Z x.1/\1<=x.2)->Z l<=q9 l
 |[],_=>aN _
 |x::l,a=>by
  have b:=Yx (l:=l) λy hy=>a y qD
  let ⟨d,h2⟩:=a x ax;have:=jQ (Y:1<=ah x.2) (Y:1<=Z x.1-1);rw[q9,iK];omega
def BO.big{a}{b}(H:BO a b){x}(f:x∈b):2<=Z x.1/\1<=x.2:=by let ⟨g,h2,i⟩:=H.ok x f;have d:=h2.1;rw[eJ (Ef g).1]at d;exact⟨d,i⟩
def aiv{p}(a:I p (Z p-1) 0=1):lx (eZ p)=lx p:=by
 let ⟨c,m⟩:=Ef a;have b:p≠[]:=λe=>by rw[e]at a;exact aJ a o
 exact(XE c b).eq m ((QP p).2 c) (QP p).1
def auK{p}{a}(H:BO p a)(b:I p (Z p-1) 0=1)(i:bw (lx p)):a=[(p,1)]:=by
 have f:=at3 H b i (by rw[aiv b];exact oD _);have g:q9 a+1=Z p:=(H.wt (Ef b).1).resolve_right λe=>by rw[e]at b;exact aJ b o
 have d:=λx(hx:x∈a)=>H.big hx
 generalize zW p a=n at f;obtain⟨s,t,rfl⟩:=Md f;let ⟨k,m⟩:=d (p,n) ax;have A:=Yx (l:=s) λx hx=>d x k7
 have B:=Yx (l:=t) λx hx=>d x k7
 rw[aiu,q9]at g;simp only at k m g;have C:1*(Z p-1)<=ah n*(Z p-1):=eB _ Y;have u:s=[]:=gA Y;have v:t=[]:=gA Y;have z:n=1:=by
  by_cases e:n=1
  .exact e
  .have D:2*(Z p-1)<=ah n*(Z p-1):=eB _ Y;omega
 rw[u,v,z];rfl
end Go.El
end
