/- Own work; no condition. -/
import Derived.Test.YtceihkmakfdcnaaGreatC12
import Derived.Test.YtceihkmakfdcnaaGreatC9
import Derived.Test.YtceihkmakfdcnaaGreatC8
import Derived.Test.YtceihkmakfdcnaaGreatC10
set_option linter.all false
set_option maxHeartbeats 16000000
set_option maxRecDepth 100000
noncomputable section
open Bool renaming false->ah,true->ae
open Classical renaming choose->Ak
open Go.El renaming cS->e,rr->U,re->M,bI->h,cI->c,rb->R,jz->w,NB->F
open Go.IntKind renaming wrap->ax
open Go.Proofs.Tryz renaming prog->O,func206->ajx
open Int renaming toNat->af
open List renaming range->bJ,length->Z,getD->I,take->r,perm_append_comm->avA,drop->az
open Nat renaming div_le_div_left->avr
open _root_ renaming List->E,Int->V,Nat->G
namespace Go.El
open Go Go.Proofs Go.RowKit Fx
def nT(a:E V)(d:V)(b:E V):E V:=(bJ<|Z a).map λi=>I a i 0+d*I b i 0
def Mr a d b:Z (nT a d b)=Z a:=by simp[nT]
def Sh a d b(f:Z b<=Z a) i:I (nT a d b) i 0=I a i 0+d*I b i 0:=by
 by_cases c:i<Z a
 .unfold nT;rw[aO,ju,k7 c];rfl
 .rw[gk _ (by rw[Mr];omega),gk a Y,gk b Y,iO];rfl
def ajh a d b(f:Z b<=Z a):ps (nT a d b)=ps a+PS.K d*ps b:=PS.ext λi=>by rw[PS.ef,PS.eN];exact Sh a d b f i
def Ze{a b}d(f:aM a)(g:Z b<Z a):aM (nT a d b):=by refine⟨λe=>by have:=Mr a d b;rw[e]at this;exact f.1<|gx this.symm,?_⟩;rw[Mr,Sh a d b Y,f.2,gk b Y,iO];rfl
section
variable{p:G}
structure xo(p:G)(f g h a K:E V)(b:G):Prop where
 Gm:aM a
 Gl:a.length=g.length
 Gp:(fx a:Fx p)=fx g
 Gr:∀i,0<=a.getD i 0/\a.getD i 0<(p:V)^b
 Km:aM K
 Kl:K.length=h.length
 Kp:(fx K:Fx p)=fx h
 Kr:∀i,0<=K.getD i 0/\K.getD i 0<(p:V)^b
 pr:Cg ((p:V)^b) (ps f) (ps a*ps K)
def xo.start{f g a}(b:Mon p g)(d:Mon p a)(l:(fx f:Fx p)=fx g*fx a):xo p f g a g a 1:=by have k:(p:V)^1=p:=Int.pow_one _;refine⟨⟨b.ne,b.one⟩,J,J,λi=>by rw[k];exact b.c.1 i,⟨d.ne,d.one⟩,J,J,λi=>by rw[k];exact d.c.1 i,?_⟩;rw[k];exact mk_eq.1<|show Fx.mk (ps f) (bC.ps p f)=Fx.mk (ps g*ps a) ((bC.ps p g).mul<|bC.ps p a)from l
def aji{b d}{a}(n:0<a)(f:∀i,0<=I b i 0/\I b i 0<a)(g:∀i,0<=I d i 0/\I d i 0<(p:V))(k:Z d<=Z b) i:0<=I (nT b a d) i 0/\I (nT b a d) i 0<a*p:=by rw[Sh b a d k];let ⟨a1,a2⟩:=f i;let ⟨l,s⟩:=g i;have t:0<=a*I d i 0:=kL Y l;have m:a*(I d i 0+1)<=a*p:=mq Y Y;rw[qt,oV]at m;omega
def ajj{a d}{b}(f:Z d<=Z a)(g:(p:V)∣b):(fx (nT a b d):Fx p)=fx a:=by refine QV<|Cg.of λi=>?_;obtain⟨z,rfl⟩:=g;rw[cT,cT,Sh _ _ _ f,ko,P7]
def avo(H:bL p){g b a t}(d:Mon p g)(l:Mon p b)(Ut:2<=Z g)(he:bS p a)(hl:Z a+2<=Z g+b.length)(ht:(fx g:Fx p)∣fx t*fx b-1):
  (aW (db t a p) g p).2.length<Z g/\bS p (aW (db t a p) g p).2/\
  bS p (aW (aU<|ik a (db (aW (db t a p) g p).2 b p) p) g p).1/\(aW (aU<|ik a (db (aW (db t a p) g p).2 b p) p) g p).1.length<b.length/\
  (fx a:Fx p)=fx (aW (db t a p) g p).2*fx b+fx (aW (aU<|ik a (db (aW (db t a p) g p).2 b p) p) g p).1*fx g:=by
 have m:=oX H.pos t a
 let ⟨_,_,_,d4,d5,_⟩:=nL H.hp H.le m.1 d.c d.ne
 have D:=QZ H m d.c d.ne
 rw[yA]at D
 have n:=d5 m
 generalize (aW (db t a p) g p).2=dg at*
 have u:(fx (aU<|ik a (db dg b p) p):Fx p)=fx a-fx dg*fx b:=by rw[XN,yA]
 have i:bS p (aU<|ik a (db dg b p) p):=mE H.pos<|En H.pos _ _
 generalize aU (ik a (db dg b p) p)=s at*
 have X:(fx g:Fx p)∣fx s:=by rw[u];have j:(fx g:Fx p)∣fx dg*fx b-fx t*fx a*fx b:=ow D<|kM _ _;have K:(fx g:Fx p)∣fx a*(fx t*fx b)-fx a*1:=ow (kM _ _) ht;rw[fO]at K;have o:(fx g:Fx p)∣fx dg*fx b-fx a:=mJ j (by have q:fx t*fx a*fx b=fx a*(fx t*fx b:Fx p):=fC;rw[q];exact K);exact m9 o
 have v:=Am H i d.c d.ne X
 let ⟨_,N,_,_,_,z⟩:=nL H.hp H.le i.1 d.c d.ne
 have r:Z s+2<=Z g+b.length:=by
  have A:=HY H.pos (fx a:Fx p)<|fx dg*fx b;rw[<-u,dn i,dn he]at A;have P:sz (fx dg*fx b:Fx p)+2<=Z g+b.length:=by
   have w:=l.pos;by_cases f:dg=[]
   .rw[f,lV,dy,kO H.pos];omega
   .have y:(fx dg:Fx p)≠0:=λa=>f (xd n (ud H.pos)<|a.trans lV.symm)
    have:=eS H y<|l.lW H;rw[dn n,dn l.c]at this;omega
  omega
 have B:bS p (aW s g p).1:=by
  refine⟨N,?_⟩;by_cases f:s=[]
  .left;refine gx ?_;rw[z,f];simp
  .have E:(fx s:Fx p)≠0:=λa=>f (xd i (ud H.pos)<|a.trans lV.symm)
   let ⟨x,hx,ex⟩:=jU H.pos (fx (aW s g p).1:Fx p);have k:(fx x:Fx p)≠0:=λa=>E (by rw[v,<-ex,a,dy])
   have A:=eS H k<|d.lW H;rw[ex,<-v,dn i,<-ex,dn hx,dn d.c]at A;right;have P:(aW s g p).1.length=Z x:=by rw[z];omega
   have Q:=agV ex<|Z x-1;have T:=N<|Z x-1;have W:=hx.1<|Z x-1;rw[iN T.1 T.2,iN W.1 W.2]at Q;rw[P,<-Q];rcases hx.2 with C|C
   .exact aF (by rw[C,lV]) k
   .exact C
 refine⟨Y,n,B,?_,?_⟩
 .rw[z];have w:=l.pos;by_cases f:Z s<=Z g-1
  .omega
  .omega
 .rw[<-v,u,jS,mG]
def xo.step(H:bL p){f g t l K s a d}{k}(m:xo p f g t l K k)(j1:1<=k) u(D:ps f=ps l*ps K+PS.K ((p:V)^k)*u)(Q:Cg p (ps s) u)
  (l1:Z a<Z g) (T:bS p a) (l2:Z d<t.length) (c2:bS p d) (he:(fx s:Fx p)=fx a*fx t+fx d*fx g):xo p f g t (nT l ((p:V)^k) a) (nT K ((p:V)^k) d) (k+1):=by
 have R:=H.hp.1
 have N:(0:V)<(p:V)^k:=pI Y
 have n:(p:V)∣(p:V)^k:=by obtain⟨i,rfl⟩:∃i,k=i+1:=⟨k-1,Y⟩;rw[gP];exact EK _ _
 have X:=m.Gl
 have c:=m.Kl
 have P:=ajh l ((p:V)^k) a Y
 have s2:=ajh K ((p:V)^k) d Y
 refine⟨Ze ((p:V)^k) m.Gm (b:=a) Y,by rw[Mr,X],by rw[ajj Y n,m.Gp],λi=>by rw[gP];exact (aji (p:=p) N m.Gr T.1 Y) i,Ze ((p:V)^k) m.Km (b:=d) Y,by rw[Mr,c],by rw[ajj Y n,m.Kp],λi=>by rw[gP];exact (aji (p:=p) N m.Kr c2.1 Y) i,?_⟩
 rw[gP]
 obtain⟨q,eq⟩:∃q,q=(p:V)^k:=⟨_,J⟩
 rw[<-eq]at D P s2 n⊢
 have v:Cg p u (ps a*ps K+ps d*ps l):=by
  refine Q.symm.trans ?_;have x:(fx s:Fx p)=fx a*fx K+fx d*fx l:=by rw[he,m.Kp,m.Gp]
  exact mk_eq.1<|show Fx.mk (ps s) (bC.ps p s)=Fx.mk (ps a*ps K+ps d*ps l) (((bC.ps p a).mul<|bC.ps p K).add<|(bC.ps p d).mul<|bC.ps p l)from x
 rw[P,s2]
 have x:(ps l+PS.K q*ps a)*(ps K+PS.K q*ps d)=ps l*ps K+PS.K q*(ps a*ps K+ps d*ps l)+PS.K q*(PS.K q*(ps a*ps d)):=by simp[PS.fN,PS.gQ];ac_rfl
 rw[x]
 refine Cg.Xb λi=>?_
 let ⟨z,S⟩:=v.dvd i
 let ⟨y,L⟩:=n
 rw[D,PS.ef,PS.ef,PS.ef,PS.eN,PS.eN,PS.eN,PS.eN]
 refine⟨z-y*(ps a*ps d) i,?_⟩
 generalize (ps a*ps K+ps d*ps l) i=A at*
 generalize (ps a*ps d) i=B at*
 generalize u i=W at*
 generalize (ps l*ps K) i=C at*
 have M:W=A+p*z:=Y
 rw[M,HC,qt]
 have O:q*(q*B)=q*p*(y*B):=by
  conv=>lhs;rw[fL q (q*B)]
  rw[L];ac_rfl
 rw[O,ko q (p:V) z]
 omega
end
def avp{p}{l a}(b:l.Perm a):jI p l=jI p a:=by
 induction b with
 |nil=>rfl
 |cons x _ d=>rw[jI,jI,d]
 |swap x y l=>rw[jI,jI,jI,jI,<-dc,<-dc,dk<|pk (fx y.1) _]
 |trans _ _ f h2=>rw[f,h2]
def E3.perm{p}{f}{l g}(a:E3 p f l)(b:g.Perm l):E3 p f g:=
 ⟨λx i=>a.parts x<|b.mem_iff.1 i,b.symm.pairwise a.ds (λd e=>d e.symm),(avp b).trans a.prod⟩
def yI{p}(H:bL p){f a}(d:bS p a)(g:bS p f)(b:f≠[]):bS p (aW a f p).2/\(aW a f p).2.length<Z f/\(fx f:Fx p)∣fx (aW a f p).2-fx a:=by let ⟨d1,d2,d3,d4,d5,d6⟩:=nL H.hp H.le d.1 g b;have i:=cF.2 b;exact⟨d5 d,Y,QZ H d g b⟩
def Si{p}(H:bL p) f a(n:G)(lf:Z f<=200)(i:bS p f)(d:f≠[])(N:bS p a)(Q:Z a<=200)(T:n<18446744073709551616):
  w O 251 [e ar a,cU n,e ar f,cU p] (e ar<|jn H f<|pk (fx a) n):=by
 refine aK Tryz.func251 ?_
 have W:=H.hp.1
 have P:=H.le
 have z:bS p [1]:=⟨HV Y Y,by show can _;exact .inr (S:(1:V)≠0)⟩
 let ⟨q1,X,c⟩:=yI H z i d
 let ⟨o,q,y⟩:=yI H N i d
 have u:=vq p H.hp H.le [1] f au Y z i d
 have v:=vq p H.hp H.le a f Y Y N i d
 refine U J<|R<|rl ar [1] J J (rc J J u<|M J<|bQ J J v J<|h<|U J ?_)
 refine ay<|bq (α:=E V×E V×G) (λx=>⟨[(2,e ar f),(3,cU p),(9,e ar x.1),(10,e ar x.2.1),(11,cU x.2.2)],[],5,[]⟩) (λx=>bS p x.1/\bS p x.2.1/\Z x.1<Z f/\Z x.2.1<Z f/\x.2.2<18446744073709551616/\(fx f:Fx p)∣fx x.1*pk (fx x.2.1) x.2.2-pk (fx a) n) (λx=>x.2.2) ((aW [1] f p).2,(aW a f p).2,n) ⟨q1,o,X,q,T,?_⟩ aN ?_
 .have:=ow c<|LP y n;rwa[ED,c8]at this
 rintro⟨r,b,m⟩ ⟨u,v,C,lb,hm,hc⟩
 simp only at u v C lb hm hc
 have g:=YQ H (a:=b) (b:=b) i d
 have I:=ym b b p
 have A:=w5 b b p Y Y Y Y v.1 v.1
 have B:=vq p H.hp H.le (db b b p) f Y Y (oX H.pos b b) i d
 refine h<|U J<|F J (λl=>?_)<|λl=>?_
 .have l:0<m:=by have l:(m:V)>0:=aV l;omega
  refine aE<|h<|ay<|h<|U J (hp:=aH)<|F J (λs=>?_)<|λs=>?_
  .have s:(m:V).tmod 2=1:=dw s;have L:m%2=1:=by rw[show(2:V)=((2:G):V)from J,oq]at s;omega
   obtain⟨k,rfl⟩:∃k,m=2*k+1:=⟨m/2,Y⟩;have t:=YQ H (a:=r) (b:=b) i d;have Kq:=ym r b p;refine cG<|rc J J (w5 r b p Y Y Y Y u.1 v.1)<|rc J J (vq p H.hp H.le (db r b p) f Y Y (oX H.pos r b) i d)<|M J<|aS<|cG<|rc J J A<|rc J J B<|M J<|bP<|rt J (hp:=aH)<|a4 (yH p f r b,yH p f b b,k) ⟨t.1,g.1,t.2.1,g.2.1,by show k<_;omega,?_⟩ (Y:k<2*k+1)<|wk ⟨sR J,sR J,sR J,sR J,sE J<|cj<|(Ef (2*k+1) hm).trans (Y:((((2*k+1)/2:G)):V)=(k:V)),j⟩ j
   .show fx f∣fx (yH p f r b)*pk (fx<|yH p f b b) k-pk (fx a) n;refine mJ (ow t.2.2<|LP g.2.2 k) ?_;rw[w8,dc,<-B0];have cH:fx b*pk (fx b) (k+k)=(pk (fx b) (2*k+1):Fx p):=by rw[dk,(Y:k+k=2*k)];rfl
    rw[cH];exact hc
  .have s:(m:V).tmod 2≠1:=pN s;have DQ:m%2=0:=by rw[show(2:V)=((2:G):V)from J,oq]at s;omega
   obtain⟨k,rfl⟩:∃k,m=2*k:=⟨m/2,Y⟩;refine aE<|cG<|rc J J A<|rc J J B<|M J<|bP<|rt J (hp:=aH)<|a4 (r,yH p f b b,k) ⟨u,g.1,C,g.2.1,by show k<_;omega,?_⟩ (Y:k<2*k)<|wk ⟨sR J,sR J,sR J,sR J,sE J<|cj<|(Ef (2*k) hm).trans (Y:((((2*k)/2:G)):V)=(k:V)),j⟩ j
   .show fx f∣fx r*pk (fx<|yH p f b b) k-pk (fx a) n;refine mJ (ow (kM _<|fx r)<|LP g.2.2 k) ?_;rw[w8,<-B0,(Y:k+k=2*k)];exact hc
 .have l:m=0:=by have l:¬(m:V)>0:=bc l;omega
  subst l;rw[pk,fO]at hc;rw[auA H i d u C hc];exact bs<|aS<|U J<|cN J
def AG(a b:E V):E V:=(bJ<|max (Z a)<|Z b).map λi=>I a i 0+I b i 0
def ajk a b:Z (AG a b)=max (Z a) (Z b):=by simp[AG]
def avq a b p(A:Z a<=1000)(B:Z b<=1000)(l:0<p)(D:p<=2147483648)(s:rp p a)(t:rp p b):w O 300 [e ar a,e ar b,cU p] (e ar<|aU<|md p<|AG a b):=by
 refine aK Tryz.func300 ?_;generalize hM:max (Z a) (Z b)=M;have u:=ajk a b;have f:∀i,i<M->I (AG a b) i 0=I a i 0+I b i 0:=λi v=>by unfold AG;rw[aO,ju,k7 Y];rfl
 have m:∀i,0<=I (AG a b) i 0:=λi=>by
  by_cases d:i<M
  .rw[f i d];have x:=s i;have h2:=t i;omega
  .rw[gk _ Y];exact iZ _
 rw[hM]at u;generalize AG a b=L at*;refine U J<|R<|gV ar [] J J (re J<|h<|U J<|ay<|bq (α:=G) (λi=>⟨[(0,e ar a),(1,e ar b),(2,cU p),(7,.c<|.X 1000000),(8,c i)],[(1000000,.vec 150 ar<|r i L)],3,[]⟩) (λi=>i<=M) (λi=>M-i) 0 (bg _) aN ?_);intro i v;have C:(r i L).length=i:=cd;by_cases g:i<M
 .refine kp ⟨[(0,e ar a),(1,e ar b),(2,cU p),(7,.c<|.X 1000000),(8,c i)],[(1000000,.vec 150 ar<|r i L)],4,[]⟩ ?_ (λk=>R<|rg 14 J J (λd=>re J<|F J (λ_=>di<|eD k aN)<|λh2=>pO)<|λd=>re J<|F J (λ_=>di<|eD k aN)<|λh2=>?_)
  .have x:=s i;have h2:=t i;refine h<|ay<|cG<|rc J J (Lj a i)<|rc J J (Lj b i)<|rl ar [_] J J (ra J J J J J J J J J ?_ ?_<|re J ?_)
   .show(_+1+(_+1)/4+192)*8<=_;omega
   .show(_+1)*1<=_;omega
   refine bP<|rt J<|a4 (i+1) g zM<|Wk.trans (wk (st':=⟨[(0,e ar a),(1,e ar b),(2,cU p),(7,.c<|.X 4009000),(8,c ((i+1:G):V))],[(4009000,.vec 150 ar<|r (i+1) L)],8,[]⟩) (bK J) ⟨bE J<|bm (aA.vec 150 ar) ?_,j⟩)<|Wk.trans (gZ 1000000 4009000 J J J) aN;rw[uc _ i Y,f i g,bf _ Y Y]
  .exfalso;have d:¬(i:V)<(Z a:V):=bc d;have h2:¬(i:V)<(Z b:V):=bc h2;omega
 .have n:i=M:=by omega
  subst n;rw[jM Y];refine h<|R<|rg 14 J J (λd=>?_)<|λd=>?_
  .exfalso;have d:(i:V)<(Z a:V):=aV d;omega
  .refine re J (F J (λh2=>?_)<|λh2=>(bs<|aS<|dv 1000000 J J J<|bQ J J (z6 L p Y l Y m) J<|cN J))
   .exfalso;have h2:(i:V)<(Z b:V):=aV h2;omega
def ajl f(p:G)(v:Z f<=1000)(a:0<p)(x:p<=2147483648)(m:rp p f):w O 173 [e ar f,cU p] (e ar<|aU<|lj p f):=by
 refine aK Tryz.func173 ?_;have z:=Mj p f;have d:=λi(g:i<Z f-1)=>YT p f g
 have k:=z6 (lj p f) p Y Y Y<|λi=>(Mk a f i).1;rw[Ll (Mk a f)]at k;generalize lj p f=L at*;refine U J<|R<|gV ar [] J J (M J<|h<|U J<|ay<|bq (α:=G) (λi=>⟨[(0,e ar f),(1,cU p),(5,.c<|.X 1000000),(6,c ((i+1:G):V))],[(1000000,.vec 150 ar<|r i L)],3,[]⟩) (λi=>i<=Z f-1) (λi=>Z f-i) 0 (bg _) aN ?_);intro i g;have A:(r i L).length=i:=cd;refine h<|U J<|F J (λb=>?_)<|λb=>?_
 .have b:i+1<Z f:=by have b:((i+1:G):V)<(Z f:V):=aV b;omega
  have n:af (((i+1:G):V))=i+1:=cC _;have s:=m<|i+1;refine aE<|h<|ay<|cG<|rl ar [_] J J (ra J J J J J J J J J ?_ ?_<|M J ?_) (hp:=aH)
  .show(_+1+(_+1)/4+192)*8<=_;omega
  .show(_+1)*1<=_;omega
  refine bP<|rt J<|a4 (i+1) Y (Y:Z f-(i+1)<Z f-i)<|Wk.trans (wk (st':=⟨[(0,e ar f),(1,cU p),(5,.c<|.X 4013000),(6,c ((i+1+1:G):V))],[(4013000,.vec 150 ar<|r (i+1) L)],8,[]⟩) (bK J) ⟨bE J<|bm (aA.vec 150 ar) ?_,j⟩)<|Wk.trans (gZ 1000000 4013000 J J J) aN;have t:(ax .u64 ((i+1:G):V)).tmod p=(((i+1)%p:G):V):=by rw[bf _ Y Y,oq]
  have B:(((i+1)%p:G):V)<p:=kw<|gU (i+1) a
  have l:0<=I f (i+1) 0*(((i+1)%p:G):V):=kL s.1 Y;have C:I f (i+1) 0*(((i+1)%p:G):V)<=2147483648*2147483648:=zT Y Y Y Y;have u:(ax .u64<|I f (af ((i+1:G):V)) ar.eP*(ax .u64 ((i+1:G):V)).tmod p).tmod p=I L i 0:=by rw[t,n,d i Y];show(ax .u64<|I f (i+1) 0*(((i+1)%p:G):V)).tmod p=_;rw[bf _ l Y,k5 l,fL]
  rw[u,uc _ i Y]
 .have b:¬((i+1:G):V)<(Z f:V):=bc b;rw[jM Y];exact bs<|aS<|dv 1000000 J J J<|bQ J J k J<|cN J
def lI(p:G):G->G->E V
 |0,_=>[]
 |s+1,n=>if n=0 then[]else((n%p:G):V)::lI p s (n/p)
def Sj p s:lI p s 0=[]:=by cases s<;>rfl
def Zf{p:G}(d:2<=p):∀s n,n<2^s->bS p (lI p s n)/\Z (lI p s n)<=s
 |0,n,_=>⟨ud Y,aL _⟩
 |s+1,n,f=>by
  rw[lI];split
  .exact⟨ud Y,bg _⟩
  .rename_i g;have a:n/p<2^s:=by have b:n/p<=n/2:=avr d S;rw[fG]at f;omega
   let ⟨⟨i1,i2⟩,i3⟩:=Zf d s (n/p) a;refine⟨⟨λi=>?_,?_⟩,cd⟩
   .cases i with
    |zero=>
     have:=gU n (Y:0<p)
     show 0<=((n%p:G):V)/\((n%p:G):V)<p
     omega
    |succ i=>exact i1 i
   .right;by_cases b:n/p=0
    .rw[b,Sj];have:n<p:=by rwa[Nat.div_eq_zero_iff_lt Y]at b
     show((n%p:G):V)≠0;rw[rk this];omega
    .rcases i2 with i2|i2
     .exfalso;have:lI p s (n/p)≠[]:=by
       cases s with
       |zero=>exact aF a (by rw[qx];have:=rq b;omega)
       |succ s=>rw[lI,y b];simp
      exact this i2
     .rw[jg,eL];generalize lI p s (n/p)=l at*;cases l with
      |nil=>exact aF J i2
      |cons c l=>exact i2
def nc(p:G):E V->G
 |[]=>0
 |a::l=>af a+p*nc p l
def ajm{p:G}(l:0<p):∀(s:G)(a:E V),Z a<=s->bS p a->lI p s (nc p a)=a
 |s,[],_,_=>Sj p s
 |0,b::a,f,_=>by simp at f
 |s+1,b::a,f,hq=>by
  have t:0<=b/\b<p:=hq.1 0;have m:bS p a/\(a=[]->b≠0):=by
   refine⟨⟨λi=>hq.1<|i+1,?_⟩,λe=>?_⟩
   .rcases hq.2 with e|e
    .cases e
    .cases a with
     |nil=>exact .inl J
     |cons d a=>exact .inr e
   .subst e;rcases hq.2 with e|e
    .cases e
    .exact e
  have g:=ajm l s a (by simp at f;omega) m.1;have n:nc p (b::a)%p=af b:=by rw[nc,Nat.add_mul_mod_self_left,rk Y]
  have k:nc p (b::a)/p=nc p a:=by rw[nc,Nat.add_mul_div_left _ _ l,D7 Y,fD]
  have u:nc p (b::a)≠0:=λe=>by rw[e,Nat.zero_div]at k;rw[e,Nat.zero_mod]at n;rw[<-k,Sj]at g;exact m.2 g.symm Y
  rw[lI,y u,n,k,g,xS t.1]
def ajn{p:G}:∀a:E V,(∀i,0<=I a i 0/\I a i 0<(p:V))->nc p a<p^Z a
 |[],_=>by simp[nc]
 |b::a,d=>by
  have k:0<=b/\b<p:=d 0;have f:=ajn a λi=>d<|i+1
  have g:=gD p (show nc p a+1<=p^Z a from f);rw[nc,jg,fG,gA<|p^_];rw[yk]at g;omega
def ajo{p:G}(b:V):∀a:E V,nc p (a++[b])=nc p a+p^Z a*af b
 |[]=>by simp[nc]
 |d::a=>by rw[mY,nc,ajo b a,nc,jg,fG,yk];have:p*(p^Z a*af b)=p^Z a*p*af b:=fC;omega
def avs{p}{a}(b:Mon p a):p^(Z a-1)<=nc p a/\nc p a<2*p^(Z a-1):=by
 obtain⟨d,rfl⟩:∃d,a=d++[1]:=⟨a.dropLast,by
  have e:=Zc b.ne;have f:a.getLast b.ne=1:=by have:=b.one;have g:=b.pos;rw[aO,df Y]at this;rw[List.getLast_eq_getElem];exact this
  rw[f]at e;exact e.symm⟩
 have k:=ajn (p:=p) d λi=>by
  by_cases h:i<Z d
  .have:=b.c.1 i;rwa[aO,C6 h,<-aO]at this
  .rw[gk _ Y];have:=b.c.1 0;omega
 rw[ajo,iV,qn,eL];have:af (1:V)=1:=rfl;rw[this,rh];omega
def avt(p n:G)(f:2<=p)(g:p<=2147483648)(s:n<18446744073709551616):w O 286 [cU n,cU p] (e ar<|lI p 64 n):=by
 refine aK Tryz.func286 ?_;refine U J<|R<|gV ar [] J J (M J<|h<|U J<|ay<|bq (α:=E V×G) (λx=>⟨[(1,cU p),(5,.c<|.X 1000000),(6,cU x.2)],[(1000000,.vec 150 ar x.1)],3,[]⟩) (λx=>Z x.1<=64/\x.2<2^(64-Z x.1)/\lI p 64 n=x.1++lI p (64-Z x.1) x.2) (λx=>x.2) ([],n) ⟨bg _,s,J⟩ aN ?_);rintro⟨o,m⟩ ⟨t,h2,b⟩;simp only at t h2 b;have v:m<18446744073709551616:=gK h2<|dD (n:=2) S (Y:64-Z o<=64);refine h<|U J<|F J (λa=>?_)<|λa=>?_
 .have a:0<m:=by have a:(m:V)>0:=aV a;omega
  have z:Z o<64:=by
   rcases r7 (Z o) 64 with i|i
   .exact i
   .rw[(Y:64-Z o=0)]at h2;omega
  obtain⟨k,l⟩:∃k,64-Z o=k+1:=⟨63-Z o,Y⟩;have d:m/p<m:=Nat.div_lt_self a f;refine aE<|h<|ay<|cG<|rl ar [_] J J (ra J J J J J J J J J ?_ ?_<|M J ?_) (hp:=aH)
  .show(Z o+1+(Z o+1)/4+192)*8<=_;omega
  .show(Z o+1)*1<=_;omega
  refine bP<|rt J (a4 (o++[((m%p:G):V)],m/p) ⟨cd,?_,?_⟩ d<|Wk.trans (wk (st':=⟨[(1,cU p),(5,.c<|.X 4005000),(6,cU ((m/p:G):V))],[(4005000,.vec 150 ar<|o++[((m%p:G):V)])],8,[]⟩) ⟨sR J,sR J,sE J ?_,j⟩ ⟨bE J ?_,j⟩)<|Wk.trans (gZ 1000000 4005000 J J J) aN) (hp:=aH)
  .simp only[iV,qn];rw[l,fG]at h2;rw[(Y:64-(Z o+1)=k)];have A:m/p<=m/2:=avr f S;omega
  .simp only[iV,qn];rw[b,l,lI,y Y,(Y:64-(Z o+1)=k),nt];rfl
  .refine cj (show ax .u64 ((m:V).tdiv p)=((m/p:G):V)from ?_);have u:(0:V)<=((m/p:G):V):=s8 _;rw[<-Int.ofNat_tdiv,bf _ u Y]
  .show aA.vec 150 ar (o++[(m:V).tmod p])=_;rw[oq]
 .have a:m=0:=by have a:¬(m:V)>0:=bc a;omega
  subst a;rw[Sj,ji]at b;rw[b];exact bs<|aS<|dv 1000000 J J J<|U J<|cN J
section
variable{p:G}(H:bL p)
def rQ(f:E V):G->E V×E V->E V×E V
 |0,x=>x
 |k+1,x=>let a:=rQ f k x;let w:=jn H f<|pk (fx a.2) 2;(aU<|md p<|AG a.1 w,w)
def ll(f:E V):G->E V×E V->E V×E V
 |0,x=>x
 |k+1,x=>let a:=ll f k x;let w:=jn H f<|pk (fx a.2) p;(yH p f a.1 w,w)
def Cy(t f:E V)(d:G):E V:=
 let r:=(aW t f p).2
 if p=2 then(rQ H f (d-1) (r,r)).1 else aU (ik (jn H f<|pk (fx (ll H f (d-1) (r,r)).1)<|(p-1)/2) [1] p)
variable{f:E V}(hf:bS p f)(kT:f≠[])
include hf kT
def Zg{x:E V×E V}(a:bS p x.1)(b:bS p x.2)(d:Z x.1<Z f)(g:Z x.2<Z f):∀k,bS p (rQ H f k x).1/\bS p (rQ H f k x).2/\(rQ H f k x).1.length<Z f/\(rQ H f k x).2.length<Z f
 |0=>⟨a,b,d,g⟩
 |k+1=>by let ⟨i1,i2,i3,i4⟩:=Zg a b d g k;let ⟨m1,i,_⟩:=AA H hf kT<|pk (fx (rQ H f k x).2) 2;have l:=rE<|md p<|AG (rQ H f k x).1<|jn H f<|pk (fx (rQ H f k x).2) 2;rw[z5,ajk]at l;exact⟨mE H.pos<|Em H.pos _,m1,by show Z (aU _)<_;omega,i⟩
def avu{x:E V×E V}(d:bS p x.1)(g:bS p x.2)(i:Z x.1<Z f)(l:Z x.2<Z f):∀k,bS p (ll H f k x).1/\bS p (ll H f k x).2/\(ll H f k x).1.length<Z f/\(ll H f k x).2.length<Z f
 |0=>⟨d,g,i,l⟩
 |k+1=>by let ⟨m1,m,_⟩:=AA H hf kT<|pk (fx (ll H f k x).2) p;let ⟨n,s,_⟩:=YQ H (a:=(ll H f k x).1) (b:=jn H f<|pk (fx (ll H f k x).2) p) hf kT;exact⟨n,m1,s,m⟩
def ajp{t:E V}(g:bS p t)(d:G):bS p (Cy H t f d)/\Z (Cy H t f d)<=Z f:=by
 let ⟨r1,a,_⟩:=yI H g hf kT;unfold Cy;split
 .let ⟨i1,_,i3,_⟩:=Zg H hf kT (x:=((aW t f p).2,(aW t f p).2)) r1 r1 a a<|d-1;exact⟨i1,ye i3⟩
 .have b:=rE<|ik (jn H f<|pk (fx (ll H f (d-1) ((aW t f p).2,(aW t f p).2)).1)<|(p-1)/2) [1] p;have i:=(AA H hf kT<|pk (fx (ll H f (d-1) ((aW t f p).2,(aW t f p).2)).1)<|(p-1)/2).2.1;rw[Qv,qn]at b;exact⟨mE H.pos<|En H.pos _ _,br b Y⟩
def avv{t:E V}(B:bS p t)(lt:Z t<=200)(n:Z f<=200)(d:G)(d1:1<=d)(d2:d<=1000):w O 287 [e ar t,c d,e ar f,cU p] (e ar<|Cy H t f d):=by
 refine aK Tryz.func287 ?_;have N:=H.hp.1;have C:=H.le;have P:=cF.2 kT;let ⟨r1,m,_⟩:=yI H B hf kT;have D:=vq p H.hp H.le t f Y Y B hf kT;obtain⟨k,rfl⟩:∃k,d=k+1:=⟨d-1,Y⟩;unfold Cy;rw[eL];have hE:=λk=>Zg H hf kT (x:=((aW t f p).2,(aW t f p).2)) r1 r1 m m k
 have Q:=λk=>avu H hf kT (x:=((aW t f p).2,(aW t f p).2)) r1 r1 m m k
 generalize (aW t f p).2=r at*;refine U J<|h<|U J<|F J (λa=>?_)<|λa=>aE ?_
 .have a:(p:V)=2:=dw a;rw[q Y];refine bQ J J D J<|U J<|h<|U J<|ay<|bq (α:=G) (λi=>⟨[(1,c ((k+1:G):V)),(2,e ar f),(3,cU p),(9,e ar (rQ H f i (r,r)).1),(10,e ar (rQ H f i (r,r)).2),(11,c ((i+1:G):V))],[],6,[]⟩) (λi=>i<=k) (λi=>k-i) 0 (bg _) aN ?_;intro i T;let ⟨g,l,W,X⟩:=hE i;refine h (U J<|F J (λa=>?_)<|λa=>?_)
  .have a:((i+1:G):V)<((k+1:G):V):=aV a;let ⟨m1,K,_⟩:=AA H hf kT<|pk (fx (rQ H f i (r,r)).2) 2;refine aE<|h<|ay<|bQ J J (Si H f (rQ H f i (r,r)).2 2 n hf kT l Y S) J<|cG<|rc J J (avq (rQ H f i (r,r)).1 (jn H f<|pk (fx (rQ H f i (r,r)).2) 2) p Y Y H.pos Y g.1 m1.1)<|M J<|bP<|rt J (hp:=aH)<|a4 (i+1) Y Q2 aN
  .have a:¬((i+1:G):V)<((k+1:G):V):=bc a;have u:i=k:=Y;subst u;exact bs<|aS<|U J<|bX<|cY<|atR J
 .have a:(p:V)≠2:=pN a;rw[y Y];refine bQ J J D J<|U J<|h<|U J<|ay<|bq (α:=G) (λi=>⟨[(1,c ((k+1:G):V)),(2,e ar f),(3,cU p),(12,e ar (ll H f i (r,r)).1),(13,e ar (ll H f i (r,r)).2),(14,c ((i+1:G):V))],[],6,[]⟩) (λi=>i<=k) (λi=>k-i) 0 (bg _) aN ?_;intro i T;let ⟨g,l,W,X⟩:=Q i;refine h (U J<|F J (λa=>?_)<|λa=>?_)
  .have a:((i+1:G):V)<((k+1:G):V):=aV a;let ⟨m1,K,_⟩:=AA H hf kT<|pk (fx (ll H f i (r,r)).2) p;have j:=ym (ll H f i (r,r)).1 (jn H f<|pk (fx (ll H f i (r,r)).2) p) p;refine aE<|h<|ay<|bQ J J (Si H f (ll H f i (r,r)).2 p n hf kT l Y Y) J<|cG<|rc J J (w5 (ll H f i (r,r)).1 (jn H f<|pk (fx (ll H f i (r,r)).2) p) p Y Y Y Y g.1 m1.1)<|rc J J (vq p H.hp H.le (db (ll H f i (r,r)).1 (jn H f<|pk (fx (ll H f i (r,r)).2) p) p) f Y Y (oX H.pos _ _) hf kT)<|M J<|bP<|rt J (hp:=aH)<|a4 (i+1) Y Q2 aN
  .have a:¬((i+1:G):V)<((k+1:G):V):=bc a;have u:i=k:=Y;subst u;have l:ax .u64 ((ax .u64<|(p:V)-1).tdiv 2)=(((p-1)/2:G):V):=by have g:ax .u64 ((p:V)-1)=(p:V)-1:=bf _ Y Y;rw[g,(Y:(p:V)-1=((p-1:G):V))];exact Ef (p-1) Y
   have b:w O 251 [e ar (ll H f i (r,r)).1,cU<|ax .u64<|(ax .u64<|(p:V)-1).tdiv 2,e ar f,cU p] (e ar<|jn H f<|pk (fx (ll H f i (r,r)).1)<|(p-1)/2):=by rw[l];exact Si H f _ _ n hf kT g Y Y
   let ⟨m1,K,_⟩:=AA H hf kT<|pk (fx (ll H f i (r,r)).1)<|(p-1)/2;exact bs<|aS<|R<|rc J J b<|rl ar [1] J J (rc J J (Lm (jn H f<|pk (fx (ll H f i (r,r)).1)<|(p-1)/2) [1] p Y au Y Y m1.1 (HV Y Y))<|M J<|cN J)
def gE(f:E V)(d n:G):E V:=
 let g:=il p f (aW (lI p 64 n) f p).2
 if Z g=1\/Z g=Z f then il p f (Cy H (lI p 64 n) f d)else g
variable{f:E V}{d:G}
def ajq(a:Mon p f){n:G}(b:n<18446744073709551616):Mon p (gE H f d n)/\(fx (gE H f d n):Fx p)∣fx f:=by
 let ⟨t1,t2⟩:=Zf H.hp.1 64 n b;let ⟨r1,l,_⟩:=yI H t1 a.c a.ne;let ⟨m1,g,_⟩:=B9 H a.c r1 a.ne;let ⟨i,k,_⟩:=B9 H a.c (ajp H a.c a.ne t1 d).1 a.ne;unfold gE;dsimp only;split
 .exact⟨i,k⟩
 .exact⟨m1,g⟩
def avw(b:uB p f d)(s:1<=d)(N:2*p^d<=18446744073709551616)(P:d+1<Z f):∃n,(p<=n/\n<18446744073709551616/\1<Z (gE H f d n)/\Z (gE H f d n)<Z f)/\∀k,k<n->¬(p<=k/\k<18446744073709551616/\1<Z (gE H f d k)/\Z (gE H f d k)<Z f):=by
 refine Zb ?_;let ⟨a,q1,K,t,u⟩:=b.ex H Y;let ⟨v1,v2⟩:=avs q1;rw[u,eL]at v1 v2;have g:=H.hp.1;have v:p<=p^d:=by have:=dD (Y:0<p) s;rwa[Nat.pow_one]at this
 have m:d<64:=by
  have Q:2^d<=p^d:=B6 g d;rcases r7 d 64 with e|e
  .exact e
  .have T:2^64<=2^d:=dD S e;omega
 have l:(aW a f p).2=a:=by unfold aW;rw[q Y]
 let ⟨m1,W,x,U,V,z⟩:=B9 H b.aM.c q1.c b.aM.ne;have A:Z (il p f a)=d+1:=by
  have B:(fx a:Fx p)∣fx (il p f a):=by rw[z];exact iA (dE t U)<|jc _ _
  have C:=k9 H B<|m1.lW H;have D:=k9 H x<|q1.lW H;rw[dn m1.c,dn q1.c]at C D;omega
 have e:gE H f d (nc p a)=il p f a:=by unfold gE;rw[ajm (p:=p) Y 64 a Y q1.c,l,y Y]
 exact⟨nc p a,Y,Y,by rw[e];omega,by rw[e];omega⟩
include H in
def Zh(v:1<=d)(Q:d<=1000)(T:2*p^d<=18446744073709551616):∀(N:G)(f:E V),Z f<N->Z f<=200->uB p f d->2<=Z f->∃l,xm p f l/\Z l+1<=Z f/\qq O 253 [e ar f,c d,cU p] 167 (.sl ar) l
 |0,_,h,_,_,_=>by omega
 |N+1,f,hN,lf,h,h2=>by
  have x:=H.hp.1;by_cases W:Z f<=d+1
  .refine⟨[f],⟨λg X=>?_,by rw[jo,jo,fO]⟩,cd,?_⟩
   .have m:=iW.1 X;subst m;exact⟨h.aM,h2,h.gJ H h2 W v⟩
   .refine KH Tryz.func253 J J J J S<|U J (bI<|U J<|F J (λh=>(R<|gV (.sl ar) [f] J J (M J<|bX<|cY<|KG (id:=2001000) cq J J)))<|λh=>?_)
    .exfalso;have h:¬(Z f:V)-1<=(d:V):=bc h;omega
  .let ⟨n0,⟨n1,n2,n3,n4⟩,A⟩:=avw H h v T Y;let ⟨w,g2⟩:=ajq H (d:=d) h.aM n2;let ⟨a1,a2⟩:=h.parts H w g2;let ⟨q1,q2,q3,q4⟩:=vG H h.aM w g2;let ⟨l1,o1,m1,I⟩:=Zh v Q T N _ Y Y a1 Y;let ⟨l2,o2,m2,L⟩:=Zh v Q T N _ Y Y a2 Y;refine⟨l1++l2,o1.app o2 q2,by rw[iV];omega,?_⟩;refine KH Tryz.func253 J J J J S<|U J (bI<|U J<|F J (λo=>?_)<|λo=>aE ?_)
   .exfalso;have o:(Z f:V)-1<=(d:V):=aV o;omega
   refine U J<|ay<|bq (α:=G) (λn=>⟨[(0,e ar f),(1,c d),(2,cU p),(7,cU n)],[],4,[]⟩) (λn=>p<=n/\n<=n0) (λn=>n0-n) p ⟨aL _,n1⟩ aN ?_;rintro n ⟨b1,b2⟩;let ⟨t1,t2⟩:=Zf x 64 n (by omega:n<18446744073709551616);let ⟨r1,r2,_⟩:=yI H t1 h.aM.c h.aM.ne;have D:=HW p H.hp H.le f (aW (lI p 64 n) f p).2 Y Y h.aM.c r1;let ⟨s1,s2⟩:=ajp H h.aM.c h.aM.ne t1 d;have i:=avv H h.aM.c h.aM.ne t1 Y lf d v Q;have b:=HW p H.hp H.le f (Cy H (lI p 64 n) f d) Y Y h.aM.c s1;have hE:gE H f d n=if Z (il p f (aW (lI p 64 n) f p).2)=1\/Z (il p f (aW (lI p 64 n) f p).2)=Z f then il p f (Cy H (lI p 64 n) f d)else il p f (aW (lI p 64 n) f p).2:=rfl
   generalize il p f (aW (lI p 64 n) f p).2=g at*;refine bI<|ay<|bQ J J (avt p n x H.le Y) J<|R<|rc J J (vq p H.hp H.le (lI p 64 n) f Y Y t1 h.aM.c h.aM.ne)<|rc J J D<|M J<|kp ⟨[(0,e ar f),(1,c d),(2,cU p),(7,cU n),(9,e ar<|gE H f d n)],[],9,[]⟩ ?_<|λs=>R<|rg 33 J J (λK=>?_)<|λK=>?_
   .let ⟨c1,c2⟩:=ajq H (d:=d) h.aM (Y:n<18446744073709551616);have next:¬(1<Z (gE H f d n)/\Z (gE H f d n)<Z f)->n+1<=n0:=λt=>by
     rcases r7 n n0 with m|m
     .exact m
     .have r:n=n0:=by omega
      rw[r]at t;exact aF ⟨n3,n4⟩ t
    have yes:1<Z (gE H f d n)/\Z (gE H f d n)<Z f->n=n0:=λt=>by
     rcases r7 n n0 with m|m
     .exact aF ⟨b1,Y,t.1,t.2⟩<|A n m
     .omega
    generalize X:gE H f d n=u at*;refine R<|rg 51 J J (λa=>M J<|F J (λk=>?_)<|λk=>di<|bP ?_)<|λa=>M J<|F J (λk=>by cases k)<|λk=>di<|bP ?_
    .have a:(Z u:V)>1:=aV a;have k:(Z u:V)<(Z f:V):=aV k;have r:=yes ⟨Y,Y⟩;subst r;rw[X]at I L;have P:=BY p H.hp H.le f u Y Y h.aM.c c1.c c1.ne;rw[yl (XQ H h.aM c1<|(vG H h.aM c1 c2).2.2.2).c.2]at P;refine R (DV J J I<|rc J J P<|rc J J L.fs<|ra J J J J J J J J J ?_ ?_<|M J<|bX<|ma<|cY<|m0<|ma<|KG (id:=10012000) cq J J)
     .show(_+_+(_+_)/4+192)*24<=_;omega
     .show(_+_)*1<=_;omega
    .have a:(Z u:V)>1:=aV a;have k:¬(Z u:V)<(Z f:V):=bc k;exact rt J (hp:=aH)<|a4 (n+1) ⟨Y,next λt=>Y⟩ (Y:n0-(n+1)<n0-n)<|wk ⟨sR J,sR J,sR J,sE J<|cj<|bf _ Y Y,j⟩ j
    .have a:¬(Z u:V)>1:=bc a;exact rt J (hp:=aH)<|a4 (n+1) ⟨Y,next λt=>Y⟩ (Y:n0-(n+1)<n0-n)<|wk ⟨sR J,sR J,sR J,sE J<|cj<|bf _ Y Y,j⟩ j
   .have K:(Z g:V)=1:=dw K;rw[q Y]at hE;refine M J<|F J (λ_=>cG<|rc J J i<|rc J J b<|M J<|eD s<|wk ⟨sR J,sR J,sR J,sR J,sE J ?_,j⟩ j)<|λh=>gL;rw[hE]
   .have K:(Z g:V)≠1:=pN K;refine M J (F J (λa=>?_)<|λa=>?_)
    .have a:(Z g:V)=(Z f:V):=dw a;rw[q Y]at hE;refine cG<|rc J J i<|rc J J b<|M J<|eD s<|wk ⟨sR J,sR J,sR J,sR J,sE J ?_,j⟩ j;rw[hE]
    .have a:(Z g:V)≠(Z f:V):=pN a;rw[y Y]at hE;refine di<|eD s<|wk ⟨sR J,sR J,sR J,sR J,sE J ?_,j⟩ j;rw[hE]
open Classical in
def rU(p:G)(f:E V)(d:G):E (E V):=if h:∃l,xm p f l/\Z l+1<=Z f/\qq O 253 [e ar f,c d,cU p] 167 (.sl ar) l then Ak h else[]
include H in
def ajr{f:E V}{d:G}(b:1<=d)(g:d<=1000)(i:2*p^d<=18446744073709551616)(k:Z f<=200)(l:uB p f d)(m:2<=Z f):xm p f (rU p f d)/\Z (rU p f d)+1<=Z f/\qq O 253 [e ar f,c d,cU p] 167 (.sl ar) (rU p f d):=by have a:=Zh H b g i _ f (dV _) k l m;unfold rU;rw[dif_pos a];exact yq a
structure oB where
 f:E V
 h:E V
 d:G
 o:E (E V)
def oB.w(x:oB):E V:=jn H x.f<|pk (fx x.h) p
def oB.g(x:oB):E V:=il p x.f<|aU<|ik (x.w H) [0,1] p
def oB.q(x:oB):E V:=(aW x.f (x.g H) p).1
def oB.next(x:oB):oB:=
 if 1<(x.g H).length then⟨x.q H,if 1<Z (x.q H)then(aW (x.w H) (x.q H) p).2 else x.w H,x.d+1,x.o++rU p (x.g H) x.d⟩else⟨x.f,x.w H,x.d+1,x.o⟩
def AH:G->oB->E (E V)
 |0,x=>x.o
 |N+1,x=>if Z x.f<=1 then x.o else if Z x.f<=2*x.d then x.o++[x.f]else AH N (x.next H)
structure pY(p:G)(a:E V)(x:oB):Prop where
 dg:E6 p x.f x.d
 d1:1<=x.d
 hc:bS p x.h
 hl:x.h.length<=200
 hx:(fx x.f:Fx p)∣fx x.h-pk X (p^(x.d-1))
 pt:∀g∈x.o,Mon p g/\2<=g.length/\bD (fx g:Fx p)
 pr:(fx a:Fx p)=jo p x.o*fx x.f
 fl:x.f.length<=a.length
 F2:a.length<=200
 Fm:Mon p a
def ajs(H:bL p):bS p [0,1]:=⟨λi=>match i with
  |0=>⟨iZ _,H.pos⟩
  |1=>by have:=H.hp.1;show 0<=(1:V)/\(1:V)<p;omega
  |i+2=>⟨iZ _,H.pos⟩,.inr (S:(1:V)≠0)⟩
def ajt:(fx [0,1]:Fx p)=X:=by rw[LR,jT,iI,ED,fO]
include H in
def pY.start{a:E V}(d:Mon p a)(f:te (fx a:Fx p))(b:Z a<=200):pY p a ⟨a,[0,1],1,[]⟩ where
 dg:=⟨d,f,λQ hQ _=>hQ.1⟩
 d1:=aL _
 hc:=ajs H
 hl:=au
 hx:=by rw[ajt,kg,qx,sZ];exact kM _ _
 pt:=λg i=>by cases i
 pr:=by rw[jo,c8]
 fl:=aL _
 F2:=b
 Fm:=d
variable{F:E V}{x:oB}
include H in
def pY.ol(a:pY p F x):Z x.o+Z x.f<=Z F:=by
 let ⟨d,h2⟩:=YR H (l:=x.o) λg b=>⟨(a.pt g b).1,(a.pt g b).2.1⟩
 have:=eS H d<|a.dg.aM.lW H;rw[<-a.pr,dn a.Fm.c,dn a.dg.aM.c]at this;omega
def pY.w(a:pY p F x):bS p (x.w H)/\(x.w H).length<Z x.f/\(fx x.f:Fx p)∣fx (x.w H)-pk X (p^x.d):=by let ⟨m1,g,i⟩:=AA H a.dg.aM.c a.dg.aM.ne<|pk (fx x.h) p;refine⟨m1,g,mJ i ?_⟩;have h:=LP a.hx p;obtain⟨k,b⟩:∃k,x.d=k+1:=⟨x.d-1,kw a.d1⟩;rw[<-w7,b,eL,<-fG]at h;rw[b];exact h
def pY.g(a:pY p F x):uB p (x.g H) x.d/\E6 p (x.q H) (x.d+1)/\(fx (x.g H):Fx p)∣fx x.f:=by let ⟨i,k,b⟩:=a.w H;refine a.dg.step H a.d1 (mE H.pos<|En H.pos _ _) b ?_;rw[XN,ajt]
def pY.next(a:pY p F x)(P:¬Z x.f<=2*x.d)(m:2*p^x.d<=18446744073709551616):pY p F (x.next H)/\(x.next H).d=x.d+1:=by
 obtain⟨i,T,u⟩:=a.w H;obtain⟨k,b,B⟩:=a.g H;have v:=a.F2;have W:=a.fl;obtain⟨q1,q2,C,h⟩:=vG H a.dg.aM k.aM B;have j:=k.aM.pos;unfold oB.next;split
 .rename_i z;obtain⟨A,r,y⟩:=ajr H a.d1 Y m Y k z;have n:(fx F:Fx p)=jo p (x.o++rU p (x.g H) x.d)*fx (x.q H):=by rw[Mi,A.prod,a.pr,q2,dc,dk<|fx<|x.g H];rfl
  have s:∀g∈x.o++rU p (x.g H) x.d,Mon p g/\2<=Z g/\bD (fx g:Fx p):=λg D=>(bl.1 D).elim (a.pt g)<|A.parts g
  have K:Z (x.q H)+(x.g H).length=Z x.f+1:=C;have l:(fx (x.q H):Fx p)∣fx (x.w H)-pk X (p^x.d):=fW R6 u;refine⟨⟨b,Sk<|bg _,?_,?_,?_,s,n,by show Z (x.q H)<=_;omega,v,a.Fm⟩,J⟩
  .dsimp only;split
   .exact(yI H i b.aM.c b.aM.ne).1
   .exact i
  .dsimp only;split
   .have:=(yI H i b.aM.c b.aM.ne).2.1;omega
   .omega
  .dsimp only;rw[eL];split
   .exact mJ (yI H i b.aM.c b.aM.ne).2.2 l
   .exact l
 .rename_i z;have t:(x.g H).length=1:=Y;have N:sz (fx (x.g H):Fx p)=1:=by rw[dn k.aM.c,t]
  refine⟨⟨⟨a.dg.aM,a.dg.nb,λQ hQ m=>b.low Q hQ ?_⟩,Sk<|bg _,i,by show(x.w H).length<=_;omega,?_,a.pt,a.pr,a.fl,v,a.Fm⟩,J⟩
  .rw[show(fx x.f:Fx p)=fx (x.q H)*fx (x.g H)from q2]at m;rcases hQ.pP H m with e|e
   .exact e
   .have:=k9 H e<|k.aM.lW H;have:=hQ.1;omega
  .show(fx x.f:Fx p)∣fx (x.w H)-pk X (p^(x.d+1-1));rw[eL];exact u
def aju(m:∀d,2*d<Z F->2*p^d<=18446744073709551616):∀(N:G)(x:oB),pY p F x->Z x.f<x.d+N->xm p F (AH H N x)
 |N,x,a,P=>by
  have b:Z x.f<=1->xm p F x.o:=λi=>by
   refine⟨a.pt,?_⟩;have n:=a.dg.aM;have k:=n.one;have u:(fx x.f:Fx p)=1:=by
    rw[<-ED];congr 1;generalize x.f=v at*;match v,i,n.pos,k with
    |[c],_,_,k=>rw[show c=1 from k]
   rw[a.pr,u,fO]
  cases N with
  |zero=>
   refine b<|fe λi=>?_
   let ⟨Q,q1,s⟩:=vr H _ (fx x.f:Fx p) (dV _) (by rw[dn a.dg.aM.c];omega)
   have K:=a.dg.low Q q1 s
   have z:=k9 H s<|a.dg.aM.lW H
   rw[dn a.dg.aM.c]at z
   omega
  |succ N=>
   rw[AH]
   split
   next i=>exact b i
   .rename_i i;split
    .rename_i l;refine⟨λg A=>?_,?_⟩
     .rcases bl.1 A with e|e
      .exact a.pt g e
      .rw[iW.1 e];exact⟨a.dg.aM,Y,a.dg.gJ H Y l⟩
     .rw[Mi,a.pr];show _*(_*_)=_;rw[jo,fO]
    .rename_i l;have T:=a.fl;let ⟨B,W⟩:=a.next H l<|m _ Y;refine aju m N _ B ?_;have X:(x.next H).f.length<=Z x.f:=by
      unfold oB.next;split
      .let ⟨C,_,D⟩:=a.g H;have:Z (x.q H)+(x.g H).length=Z x.f+1:=(vG H a.dg.aM C.aM D).2.2.1;show Z (x.q H)<=_;omega
      .exact aL _
     omega
include H in
def pY.dlt(a:pY p F x)(i:1<Z x.f):x.d<Z x.f:=by let ⟨Q,q1,b⟩:=vr H _ (fx x.f:Fx p) (dV _) (by rw[dn a.dg.aM.c];omega);have k:=a.dg.low Q q1 b;have g:=k9 H b<|a.dg.aM.lW H;rw[dn a.dg.aM.c]at g;omega
def avy(hF:Mon p F)(hs:te (fx F:Fx p))(t:Z F<=200)(D:∀d,2*d<Z F->2*p^d<=18446744073709551616):w O 205 [e ar F,cU p] (e (.sl ar)<|AH H (Z F) ⟨F,[0,1],1,[]⟩):=by
 refine aK Tryz.func205 ?_;have zJ:=H.hp.1;have E:=H.le;generalize hR:AH H (Z F) ⟨F,[0,1],1,[]⟩=L at*;refine U J<|R<|gV (.sl ar) [] J J (M J<|R<|rl ar [0,1] J J (M J<|U J<|h<|U J<|ay<|bq (α:=G×oB) (λi=>⟨[(0,e ar i.2.f),(1,cU p),(5,.c<|.X 1000000),(6,e ar [0,1]),(7,e ar i.2.h),(8,c i.2.d)],[(1000000,.vec 167 (.sl ar) i.2.o)],5,[]⟩) (λi=>pY p F i.2/\Z i.2.f<i.2.d+i.1/\AH H i.1 i.2=L) (λi=>i.1) (Z F,⟨F,[0,1],1,[]⟩) ⟨pY.start H hF hs t,(Y:Z F<1+Z F),hR⟩ aN ?_));rintro⟨N,x⟩ ⟨I,hN,a⟩;simp only at I hN a;have ol:=I.ol H;have fl:=I.fl;refine h<|U J<|NB J (λl=>?_)<|λl=>?_
 .have l:1<Z x.f:=by have l:(Z x.f:V)>1:=aV l;omega
  have hdl:=I.dlt H l;obtain⟨k,rfl⟩:∃k,N=k+1:=⟨N-1,Y⟩;rw[AH,y Y]at a;refine aE<|h<|ay<|h<|U J (hp:=aH)<|NB J (λu=>?_)<|λu=>di<|aS ?_
  .have u:2*(x.d:V)>=(Z x.f:V):=aV u;rw[q Y]at a;refine R (rl (.sl ar) [x.f] J J (ra J J J J J J J J J ?_ ?_<|M J<|dv 7003000 J J J<|bX ?_))
   .show(Z x.o+1+(Z x.o+1)/4+192)*24<=_;omega
   .show(Z x.o+1)*1<=_;omega
   repeat(first|refine cY ?_|refine ma ?_|refine m0 ?_)
   rw[<-a];exact fK J J
  .have u:¬2*(x.d:V)>=(Z x.f:V):=bc u;rw[y Y]at a;have D:=D x.d Y;let ⟨S,w2,w3⟩:=I.w H;let ⟨K,g2,g3⟩:=I.g H;let ⟨m,n2⟩:=I.next H Y D;let ⟨q1,q2,q3,q4⟩:=vG H I.dg.aM K.aM g3;have b:(x.next H).f.length<(x.next H).d+k:=by
    rw[n2];have hq:(x.next H).f.length<=Z x.f:=by
     unfold oB.next;split
     .have:Z (x.q H)+(x.g H).length=Z x.f+1:=q3;show Z (x.q H)<=_;omega
     .exact aL _
    omega
   have v:=Si H x.f x.h p Y I.dg.aM.c I.dg.aM.ne I.hc I.hl Y;have z:=rE<|ik (x.w H) [0,1] p;rw[Qv]at z;have A:=HW p H.hp H.le x.f (aU<|ik (x.w H) [0,1] p) Y (by simp at z;omega) I.dg.aM.c<|mE H.pos<|En H.pos _ _;have n:=BY p H.hp H.le x.f (x.g H) Y Y I.dg.aM.c K.aM.c K.aM.ne;rw[yl q1.c.2]at n;have Q:jn H x.f (pk (fx x.h) p)=x.w H:=rfl;have T:il p x.f (aU<|ik (x.w H) [0,1] p)=x.g H:=rfl;have W:(aW x.f (x.g H) p).1=x.q H:=rfl;rw[Q]at v;rw[T]at A;rw[W]at n q3;refine bQ J J v J<|R<|rc J J (Lm (x.w H) [0,1] p Y au Y Y S.1 (ajs H).1)<|rc J J A<|M J<|U J<|NB J (λB=>?_)<|λB=>?_
   .have B:((x.g H).length:V)>1:=aV B;let ⟨e1,e2,e3⟩:=ajr H I.d1 Y D Y K Y;have s:x.next H=⟨x.q H,if 1<Z (x.q H)then(aW (x.w H) (x.q H) p).2 else x.w H,x.d+1,x.o++rU p (x.g H) x.d⟩:=by unfold oB.next;rw[q Y]
    rw[s]at a m b;refine R<|rc J J e3.fs<|ra J J J J J J J J J ?_ ?_<|M J<|bQ J J n J<|U J<|NB J (λC=>?_)<|λC=>?_
    .show(Z x.o+Z (rU p (x.g H) x.d)+(Z x.o+Z (rU p (x.g H) x.d))/4+192)*24<=_;omega
    .show(Z x.o+Z (rU p (x.g H) x.d))*1<=_;omega
    .have C:(Z (x.q H):V)>1:=aV C;rw[q Y]at a m b;refine cG<|rc J J (vq p H.hp H.le (x.w H) (x.q H) Y Y S g2.aM.c g2.aM.ne)<|M J<|fF<|aS<|rt J (hp:=aH)<|a4 (k,⟨x.q H,(aW (x.w H) (x.q H) p).2,x.d+1,x.o++rU p (x.g H) x.d⟩) ⟨m,b,a⟩ (dV k)<|Wk.trans (wk (st':=⟨[(0,e ar<|x.q H),(1,cU p),(5,.c<|.X 10005000),(6,e ar [0,1]),(7,e ar (aW (x.w H) (x.q H) p).2),(8,c ((x.d+1:G):V))],[(10005000,.vec 167 (.sl ar)<|x.o++rU p (x.g H) x.d)],16,[]⟩) (bK J) ⟨bR J,j⟩)<|Wk.trans (gZ 1000000 10005000 J J J) aN
    .have C:¬(Z (x.q H):V)>1:=bc C;rw[y Y]at a m b;refine di<|fF<|aS<|rt J (hp:=aH)<|a4 (k,⟨x.q H,x.w H,x.d+1,x.o++rU p (x.g H) x.d⟩) ⟨m,b,a⟩ (dV k)<|Wk.trans (wk (st':=⟨[(0,e ar<|x.q H),(1,cU p),(5,.c<|.X 10005000),(6,e ar [0,1]),(7,e ar<|x.w H),(8,c ((x.d+1:G):V))],[(10005000,.vec 167 (.sl ar)<|x.o++rU p (x.g H) x.d)],16,[]⟩) (bK J) ⟨bR J,j⟩)<|Wk.trans (gZ 1000000 10005000 J J J) aN
   .have B:¬((x.g H).length:V)>1:=bc B;have s:x.next H=⟨x.f,x.w H,x.d+1,x.o⟩:=by unfold oB.next;rw[y Y]
    rw[s]at a m b;exact di<|bP<|rt J (hp:=aH)<|a4 (k,⟨x.f,x.w H,x.d+1,x.o⟩) ⟨m,b,a⟩ (dV k) aN
 .have l:¬(Z x.f:V)>1:=bc l;have a:x.o=L:=by
   cases N with
   |zero=>exact a
   |succ N=>rwa[AH,q Y]at a
  refine bs<|aS<|dv 1000000 J J J<|U J<|bX ?_;rw[<-a];exact fK J J
end
def avz(a b:E V)(m:Z a<=1000)(n:Z b<=1000):w O 254 [e ar a,e ar b] (cB<|decide<|uA a b<0):=by
 refine aK Tryz.func254 ?_;refine U J<|h<|U J<|F J (λi=>?_)<|λi=>aE ?_
 .have i:=zZ i;refine U J<|bX<|cY<|fK J<|bm cB ?_;rw[uA,q Y,rN];refine decide_eq_decide.2 ⟨λg=>by rw[q g];decide,λg=>?_⟩;split at g
  .assumption
  .split at g<;>omega
 .have i:(Z a:V)=(Z b:V):=yj i;rw[show uA a b=E4 a b (Z a)by rw[uA,y Y]];refine h<|U J<|ay<|bq (α:=G) (λk=>⟨[(0,e ar a),(1,e ar b),(5,c<|(k:V)-1)],[],4,[]⟩) (λk=>k<=Z a/\E4 a b (Z a)=E4 a b k) (λk=>k) (Z a) ⟨aL _,J⟩ aN ?_;rintro k ⟨p,hc⟩;refine h (U J<|F J (λd=>?_)<|λd=>?_)
  .have d:0<k:=by have d:(k:V)-1>=0:=aV d;omega
   obtain⟨j,rfl⟩:∃j,k=j+1:=⟨k-1,Y⟩;have l:af (((j+1:G):V)-1)=j:=Y;refine aE<|h<|ay<|U J (hp:=aH)<|F J (λf=>?_)<|λf=>di<|bP ?_
   .have f:I a (af<|((j+1:G):V)-1) 0≠I b (af<|((j+1:G):V)-1) 0:=zZ f;rw[l]at f;refine U J (hp:=aH)<|bX ?_;repeat(first|refine cY ?_|refine ma ?_|refine m0 ?_)
    refine fK J ?_;show cB (decide<|List.getD a (af<|((j+1:G):V)-1) 0<I b (af<|((j+1:G):V)-1) 0)=_;rw[l,hc,E4];refine bm cB<|decide_eq_decide.2 ?_;unfold rN;split
    .rw[q S];exact⟨λ_=>S,λ_=>by assumption⟩
    .rw[q (Y:I a j 0>I b j 0),q S];exact⟨λg=>Y,λg=>Y⟩
   .have f:I a (af<|((j+1:G):V)-1) 0=I b (af<|((j+1:G):V)-1) 0:=yj f;rw[l]at f;refine rt J (hp:=aH) (a4 j ⟨Y,?_⟩ vk<|wk ⟨sR J,sR J,sE J<|jQ (Y:((j+1:G):V)-1-1=(j:V)-1),fp⟩ fp)
    .rw[hc,E4,y];unfold rN;rw[y Y,y Y];decide
  .have d:k=0:=by have d:¬(k:V)-1>=0:=bc d;omega
   subst d;rw[hc];exact bs<|aS<|U J<|cN J
section
variable{α:Type}(d:α)(lt:α->Bool)(x:α)(l:E α)
def jW:G->Bool×E α
 |0=>(ah,[])
 |i+1=>if(!(jW i).1&&lt (I l i d))=ae then(ae,(jW i).2++[x]++[I l i d])else((jW i).1,(jW i).2++[I l i d])
def Zi(i:G):jW d lt x l (i+1)=if(!(jW d lt x l i).1&&lt (I l i d))=ae then(ae,(jW d lt x l i).2++[x]++[I l i d])else((jW d lt x l i).1,(jW d lt x l i).2++[I l i d]):=rfl
def uD:E α:=if(jW d lt x l<|Z l).1=ae then(jW d lt x l<|Z l).2 else(jW d lt x l<|Z l).2++[x]
def Zj:∀i,(jW d lt x l i).2.length=i+(if(jW d lt x l i).1=ae then 1 else 0)
 |0=>rfl
 |i+1=>by
  have:=Zj i;rw[jW];cases h:(jW d lt x l i).1
  .rw[h]at this;simp[Gi];split
   .simp at this⊢;omega
   .simp[h]at this⊢;omega
  .rw[h]at this;simp[Rg,Bool.false_and,jx,b8];simp[h]at this⊢;omega
def ajv:∀i,i<=Z l->(jW d lt x l i).2.Perm (if(jW d lt x l i).1=ae then x::r i l else r i l)
 |0,_=>by rw[jW];simp
 |i+1,f=>by
  have a:=ajv i Y;have b:r (i+1) l=r i l++[I l i d]:=by rw[vj,aO,df Y];rfl
  rw[jW,b];cases h:(jW d lt x l i).1
  .rw[h]at a;simp only[Gi,Bool.true_and];simp only[jx,b8]at a;split
   .simp only[cz];refine(List.Perm.append_right _<|a.append_right [x]).trans ?_;rw[nt];exact(List.perm_append_comm_assoc _ _ _)
   .simp only[h,jx,b8];exact a.append_right _
  .rw[h]at a;simp only[Rg,Bool.false_and,jx,b8];simp only[cz]at a;simp only[h,cz];exact a.append_right _
def ajw:(uD d lt x l).Perm (x::l):=by
 have h:=ajv d lt x l (Z l)<|aL _;unfold uD;rw[iG]at h;split
 next e=>rwa[e]at h
 next e=>rw[Bool.not_eq_true]at e;rw[e]at h;simp[jx,b8]at h;exact(h.append_right [x]).trans avA
end
def avB(l:E (E V×V))(x:E V×V)(hl:Z l<=1000)(D:Z x.1<=1000)(H:∀k∈l,Z k.1<=1000):w O 208 [e MT l,.a<|av MT x] (e MT<|uD ([],0) (λk=>decide<|uA x.1 k.1<0) x l):=by
 refine aK Tryz.func208 ?_;have s:=Zj ([],0) (λk=>decide<|uA x.1 k.1<0) x l;have K:=Zi ([],0) (λk=>decide<|uA x.1 k.1<0) x l;generalize A:jW ([],0) (λk=>decide<|uA x.1 k.1<0) x l=T at*;refine U J<|R<|gV MT [] J J (M J<|U J<|h<|U J<|ay<|bq (α:=G) (λi=>⟨[(0,e MT l),(3,.c<|.P 0 0),(5,.c<|.X 1000000),(6,cB (T i).1),(7,c i)],[(0,.box 178 0<|av MT x),(1000000,.vec 178 MT (T i).2)],4,[]⟩) (λi=>i<=Z l) (λi=>Z l-i) 0 (bg _) (by rw[<-A];exact(wk (bK J) ⟨bE J J,bR J,j⟩)) ?_);intro i q;have t:=s i;have N:(T i).2.length<=1001:=by split at t<;>omega
 refine h<|U J<|F J (λh1=>?_)<|λh1=>?_
 .have h1:i<Z l:=by have h1:(i:V)<(Z l:V):=aV h1;omega
  have Q:af ((i:V))=i:=cC i;have B:(I l (af<|(i:V))<|ET.eP MT)=I l i ([],0):=bm (λz=>I l z ([],0)) Q;have d:=K i;have u:=s<|i+1;rw[<-B]at*;obtain⟨m,f⟩:∃m,m=if(!(T i).1&&decide (uA x.1 (I l (af<|(i:V))<|ET.eP MT).1<0))=ae then(T i).2++[x]else(T i).2:=⟨_,J⟩
  have v:(T<|i+1).2=m++[I l (af<|(i:V)) (ET.eP MT)]:=by rw[d,f];split<;>rfl
  have o:Z m<=1001:=by rw[v,iV,qn]at u;split at u<;>omega
  refine aE<|h<|ay<|kp ⟨[(0,e MT l),(3,.c<|.P 0 0),(5,.c<|.X 1000000),(6,cB (T<|i+1).1),(7,c i)],[(0,.box 178 0<|av MT x),(1000000,.vec 178 MT m)],8,[]⟩ ?_<|λn=>R<|rg 17 J J (λb=>?_)<|λb=>?_
  .refine cG (rl MT [_] J J (ra J J J J J J J J J ?_ ?_<|M J ?_) (hp:=aH))
   .show(_+1+(_+1)/4+192)*32<=_;omega
   .show(_+1)*2<=_;omega
   refine bP<|rt J<|a4 (i+1) h1 Az<|Wk.trans (wk (st':=⟨[(0,e MT l),(3,.c<|.P 0 0),(5,.c<|.X 8006000),(6,cB (T<|i+1).1),(7,c ((i+1:G):V))],[(0,.box 178 0<|av MT x),(8006000,.vec 178 MT (T<|i+1).2)],16,[]⟩) (bK J) ⟨bR J,bE J ?_,j⟩)<|Wk.trans (gZ 1000000 8006000 J J J) aN;rw[v]
  .have b:(T i).1=ah:=by
    cases p:(T i).1
    .rfl
    .rw[p]at b;cases b
   refine jF J J J J J (avz x.1 (I l i ([],0)).1 D (H (I l i ([],0)) Sl)) (M J<|F J (λg=>?_)<|λg=>?_) (hp:=aH)
   .have g:decide (uA x.1 (I l (af<|(i:V))<|ET.eP MT).1<0)=ae:=g;rw[b,g]at f;rw[b,g]at d;have f:m=(T i).2++[x]:=f;refine R (rl MT [x] J J (ra J J J J J J J J J ?_ ?_<|M J ?_))
    .show(_+1+(_+1)/4+192)*32<=_;omega
    .show(_+1)*2<=_;omega
    refine rt J<|eD n<|Wk.trans (wk (st':=⟨[(0,e MT l),(3,.c<|.P 0 0),(5,.c<|.X 6003000),(6,cB (T<|i+1).1),(7,c i)],[(0,.box 178 0<|av MT x),(6003000,.vec 178 MT m)],8,[]⟩) ⟨sR J,sR J,sR J,sE J ?_,sR J,j⟩ ⟨bR J,bE J ?_,j⟩)<|Wk.trans (gZ 1000000 6003000 J J J) aN
    .rw[d];rfl
    .rw[f]
   .have g:decide (uA x.1 (I l (af<|(i:V))<|ET.eP MT).1<0)=ah:=g;rw[b,g]at f;rw[b,g]at d;have f:m=(T i).2:=f;refine di (eD n<|wk ⟨sR J,sR J,sR J,sE J ?_,sR J,j⟩ ⟨bR J,bE J ?_,j⟩)
    .rw[d,b];rfl
    .rw[f]
  .have b:(T i).1=ae:=by
    cases p:(T i).1
    .rw[p]at b;cases b
    .rfl
   rw[b]at f;rw[b]at d;have f:m=(T i).2:=f;refine M J<|F J (λg=>by cases g)<|λg=>di<|eD n<|wk ⟨sR J,sR J,sR J,sE J ?_,sR J,j⟩ ⟨bR J,bE J ?_,j⟩
   .rw[d,b];rfl
   .rw[f]
 .have h1:i=Z l:=by have h1:¬(i:V)<(Z l:V):=bc h1;omega
  subst h1;refine bs<|aS<|h<|U J<|F J (λb=>?_)<|λb=>?_
  .have b:(T<|Z l).1=ah:=by
    cases p:(T<|Z l).1
    .rfl
    .rw[p]at b;cases b
   refine cG<|rl MT [x] J J (ra J J J J J J J J J ?_ ?_<|M J ?_)
   .show(_+1+(_+1)/4+192)*32<=_;omega
   .show(_+1)*2<=_;omega
   refine aS<|dv 6003000 J J J<|U J<|cv J ?_;unfold uD;rw[A,b];rfl
  .have b:(T<|Z l).1=ae:=by
    cases p:(T<|Z l).1
    .rw[p]at b;cases b
    .rfl
   refine aE<|dv 1000000 J J J<|U J<|cv J ?_;unfold uD;rw[A,b];rfl
section
variable{p:G}(H:bL p)
include H in
def Zk:∀(N:G)(f:E V),Z f<N->Z f<=200->Mon p f->∃T,uC p f T/\w O 206 [e ar f,cU p] (e ar T)
 |0,_,h,_,_=>by omega
 |N+1,f,hN,lf,b=>by
  have zJ:=H.hp.1;have v:=H.le;by_cases o:Z f<=1
  .refine⟨f,uC.one H b o,Gb ajx J J J J J S<|U J<|bI<|U J<|F J (λh=>U J<|bX<|cY<|iX cq J<|bu.refl _)<|λh=>?_⟩;exfalso;have h:¬(Z f:V)<=1:=bc h;omega
  have i:=ajl f p Y Y v b.c.1;have d:bS p (aU<|lj p f):=mE H.pos<|Mk Y f;have hDl:Z (aU<|lj p f)<=200:=by have:=rE<|lj p f;rw[Mj]at this;omega
  have x:(fx (aU<|lj p f):Fx p)=bH (fx f):=by rw[H8,YU]
  have k:aU (lj p f)=[]->bH (fx f:Fx p)=0:=auG H;generalize aU (lj p f)=D at*;by_cases s:D=[]
  .obtain⟨e1,e2,e3,e4⟩:=aiw H b Y<|k s;obtain⟨T,r1,r2⟩:=Zk N _ Y Y e1;refine⟨T,r1.root H b Y<|k s,?_⟩;have z:Z (ox p f<|kU p<|Z f)=kU p (Z f):=by simp[ox]
   have hk:∀a,a<kU p (Z f)↔a*p<Z f:=λa=>by unfold kU;rw[<-Nat.add_one_le_iff,Nat.le_div_iff_mul_le Y,Sn];omega
   have A:∀a,a<kU p (Z f)->I (ox p f<|kU p<|Z f) a 0=I f (a*p) 0:=λa hj=>by unfold ox;rw[aO,ju,k7 hj];rfl
   rw[z]at e3 e4;generalize ox p f (kU p<|Z f)=L at*;generalize kU p (Z f)=m at*;subst s;refine Gb ajx J J J J J S<|U J<|bI<|U J<|F J (λh=>?_)<|λh=>di<|aS ?_
   .exfalso;have h:(Z f:V)<=1:=aV h;omega
   refine R<|rc J J i<|M J<|bI<|U J<|F J (λ_=>(R<|gV ar [] J J (M J<|bI<|U J<|ay<|bq (α:=G) (λa=>⟨[(0,e ar f),(1,cU p),(6,.c<|.X 4000000),(7,c ((a*p:G):V))],[(4000000,.vec 150 ar<|r a L)],6,[]⟩) (λa=>a<=m) (λa=>m-a) 0 (bg _) (by rw[so];exact aN) ?_)))<|λh=>gL;intro a hj;have hl:(r a L).length=a:=cd;refine bI<|U J<|F J (λh=>?_)<|λh=>?_
   .have h:a*p<Z f:=by have h:((a*p:G):V)<(Z f:V):=aV h;omega
    have B:=(hk a).2 h;have ei:af (((a*p:G):V))=a*p:=cC _;refine di<|aS<|bI<|ay<|cG<|rl ar [_] J J (ra J J J J J J J J J ?_ ?_<|M J ?_) (hp:=aH)
    .show(_+1+(_+1)/4+192)*8<=_;omega
    .show(_+1)*1<=_;omega
    refine fF<|aS<|rt J (hp:=aH)<|a4 (a+1) B (Y:m-(a+1)<m-a)<|Wk.trans (wk (st':=⟨[(0,e ar f),(1,cU p),(6,.c<|.X 7006000),(7,c (((a+1)*p:G):V))],[(7006000,.vec 150 ar<|r (a+1) L)],16,[]⟩) ⟨sR J,sR J,sR J,sE J ?_,j⟩ ⟨bE J ?_,j⟩)<|Wk.trans (gZ 4000000 7006000 J J J) aN
    .refine jQ (show((a*p:G):V)+(p:V)=(((a+1)*p:G):V)from ?_);rw[Sn];omega
    .refine bm (aA.vec 150 ar) ?_;rw[uc _ a Y,A a B,ei]
   .have h:¬a*p<Z f:=by have h:¬((a*p:G):V)<(Z f:V):=bc h;omega
    have q:a=m:=kw<|mt (hk a).1 h
    subst q;rw[jM Y];exact oJ<|sf<|pB<|oK<|aS<|dv 4000000 J J J<|R<|rc J J r2<|M J<|bX<|cY<|iX cq J<|bu.refl _
  .obtain⟨t,m2,m3,_⟩:=B9 H b.c d b.ne;obtain⟨q1,q2,q3,q4⟩:=vG H b t m2;have yb:Z (il p f D)<Z f:=by
    have y:(fx D:Fx p)≠0:=λcH=>s<|xd d (ud H.pos)<|cH.trans lV.symm
    have o:=k9 H m3 y;have h3:=QH H (fx f:Fx p);rw[<-x,dn b.c]at h3;rw[dn t.c]at o;omega
   obtain⟨C,u,s2⟩:=Zk N (il p f D) Y Y t;obtain⟨_,t2⟩:=uC.step H b Y d x s J u J;have sJ:=u.len;refine⟨_,t2,?_⟩;have K:=HW p H.hp H.le f D Y Y b.c d;have Q:=BY p H.hp H.le f (il p f D) Y Y b.c t.c t.ne;rw[yl q1.c.2]at Q;generalize il p f D=g at*;generalize (aW f g p).1=P at*;obtain⟨W,n2,n3,_⟩:=B9 H q1.c u.aM.c q1.ne;obtain⟨u1,u2,u3,u4⟩:=vG H u.aM W n3;have n:=HW p H.hp H.le P C Y Y q1.c u.aM.c;have l:=BY p H.hp H.le C (il p P C) Y Y u.aM.c W.c W.ne;rw[yl u1.c.2]at l;generalize il p P C=dU at*;have pc:=W.pos;have pg:=t.pos;refine Gb ajx J J J J J S<|U J<|bI<|U J<|F J (λh=>?_)<|λh=>di<|aS ?_
   .exfalso;have h:(Z f:V)<=1:=aV h;omega
   refine R<|rc J J i<|M J<|bI<|U J<|F J (λh=>?_)<|λ_=>di<|aS ?_
   .exfalso;have h:(Z D:V)=0:=dw h;exact s<|gx Y
   exact R<|rc J J K<|M J<|R<|rc J J Q<|M J<|R<|rc J J s2<|M J<|R<|rc J J n<|rc J J l<|rc J J (w5 P (aW C dU p).1 p Y Y Y Y q1.c.1 u1.c.1)<|M J<|bX<|iX cq J<|bu.refl _
def ajy(m:G)(g:E V):∀(a:E (E V))(x:E V×E (E V×V)),iM p m (a++[g]) x=((pull p g ((iM p m a x).1.length+1) (iM p m a x).1 0).1,(iM p m a x).2++[(g,(((pull p g ((iM p m a x).1.length+1) (iM p m a x).1 0).2:G):V)*(m:V))])
 |[],x=>rfl
 |b::a,x=>by rw[mY,iM,ajy m g a,iM]
def kD(p:G)(a:E V)(l:E (E V)):G->E V×E (E V×V)
 |0=>(a,[])
 |i+1=>((pull p (l.getD i []) ((kD p a l i).1.length+1) (kD p a l i).1 0).1,uD ([],0) (λb=>decide<|uA (l.getD i []) b.1<0) (l.getD i [],(((pull p (l.getD i []) ((kD p a l i).1.length+1) (kD p a l i).1 0).2:G):V)) (kD p a l i).2)
def Zl(a:E V)(l:E (E V)):∀i,i<=Z l->(kD p a l i).1=(iM p 1 (r i l) (a,[])).1/\(kD p a l i).2.Perm (iM p 1 (r i l) (a,[])).2
 |0,_=>⟨J,List.Perm.refl _⟩
 |i+1,f=>by
  let ⟨d,h2⟩:=Zl a l i Y;have b:r (i+1) l=r i l++[l.getD i []]:=by rw[vj,aO,df Y];rfl
  rw[b,ajy,kD,d];refine⟨J,(ajw _ _ _ _).trans ?_⟩;have e:∀z:V,z*((1:G):V)=z:=λz=>oV z
  rw[e];exact(List.Perm.cons _ h2).trans<|avA (l₁:=[_])
def ajz(m:G):∀(d:E (E V))(x:E V×E (E V×V)),∀b∈(iM p m d x).2,b∈x.2\/b.1∈d
 |[],x,b,f=> .inl f
 |g::d,x,b,f=>by
  rw[iM]at f;rcases ajz m d _ b f with a|a
  .rcases bl.1 a with a|a
   .exact .inl a
   .rw[iW.1 a];exact .inr au
  .exact .inr (by simp[a])
def E0.take{f:E V}{a:E (E V)}(b:E0 p f a)(i:G):E0 p f (r i a):=
 ⟨λg d=>b.ok g<|Ho d,b.ds.sublist (List.take_sublist i a)⟩
include H in
def avC(pm:p<=2147483647){a:E V}(la:Z a<=200)(ha:∀i,0<=I a i 0)(h0:aU (md p a)≠[])(hd:∀d,2*d<Z (aU<|md p a)->2*p^d<=18446744073709551616):∃So,E3 p (fx<|m8 p<|aU<|md p a) So/\w O 175 [e ar a,cU p] (.t [(ah,[.S MT So]),(ah,[.I .i64 0])]):=by
 have zJ:=H.hp.1;have Sp:=z6 a p Y Y Y ha;have K:bS p (aU<|md p a):=mE H.pos<|Em H.pos a;have hal:Z (aU<|md p a)<=200:=by have:=rE<|md p a;rw[z5]at this;omega
 have JL:=af7 p H.hp H.le (aU<|md p a) Y K;let ⟨m1,m2,_⟩:=Q1 H K h0;generalize aU (md p a)=A at*;generalize m8 p A=b at*;let ⟨B,r1,r2⟩:=Zk H _ b (dV _) Y m1;have Kq:=r1.len;have hsq:=avy H r1.aM r1.nb Y<|λd PA=>hd d Y;have f:=aju H (F:=B) (λd PA=>hd d Y) (Z B) ⟨B,[0,1],1,[]⟩ (pY.start H r1.aM r1.nb Y) (Y:Z B<1+Z B);generalize AH H (Z B) ⟨B,[0,1],1,[]⟩=l at*;let ⟨f1,f2⟩:=Zl (p:=p) b l (Z l)<|aL _;rw[iG]at f1 f2;refine⟨(kD p b l<|Z l).2,(avn H m1 r1 f).perm f2,?_⟩;have Qn:Z l<=200:=by
  let ⟨h3,h4⟩:=YR H (l:=l) λg P=>⟨(f.parts g P).1,(f.parts g P).2.1⟩
  rw[f.prod,dn r1.aM.c]at h4;omega
 refine aK Tryz.func175 ?_;refine U J<|bI<|bQ J J (afV p H.hp pm) J<|F J (λh=>gL)<|λ_=>aE ?_;refine R<|rc J J Sp<|rc J J JL<|M J<|bI<|U J<|F J (λh=>?_)<|λ_=>aE ?_
 .exfalso;have h:(Z b:V)=0:=dw h;have:=m1.pos;omega
 refine R<|rc J J r2<|rc J J hsq<|M J<|R<|rl MT [] J J (M J<|bI<|U J ?_);refine ay<|bq (α:=G) (λi=>⟨[(1,cU p),(6,e ar (kD p b l i).1),(7,e (.sl ar) l),(8,e MT (kD p b l i).2),(9,c i)],[],8,[]⟩) (λi=>i<=Z l) (λi=>Z l-i) 0 (bg _) aN ?_;intro i hi;let ⟨k1,k2⟩:=Zl (p:=p) b l i hi;let ⟨i1,i2,_⟩:=(λi=>YX H (r i l) b [] (xn.start m1) ((ajf H r1 f).take i)) i;rw[<-k1]at i1 i2;let ⟨i3,_,_⟩:=i1.bounds H;have i3:(iM p 1 (r i l) (b,[])).2.length+1<=Z b:=by rwa[dn m1.c]at i3
 have hq:=k2.length_eq;have i2:(kD p b l i).1.length<=Z b:=i2;refine bI<|U J<|F J (λh=>?_)<|λh=>?_
 .have h:i<Z l:=by have h:(i:V)<(Z l:V):=aV h;omega
  have ei:af ((i:V))=i:=cC i;have Dp:(I l (af<|(i:V))<|ET.eP<|.sl ar)=l.getD i []:=bm (λz=>l.getD z []) ei;have v:l.getD i []∈l:=YO;let ⟨C,g2,_⟩:=f.parts _ v;have Q:∀g∈l,Z g<=200:=λg P=>by have h3:=k9 H (R0 p P) (by rw[f.prod];exact r1.aM.lW H);rw[f.prod,dn r1.aM.c,dn (f.parts g P).1.c]at h3;omega
  have yb:=Q _ v;have W:∀m∈(kD p b l i).2,Z m.1<=1000:=λm hy=>by
   rcases ajz 1 (r i l) (b,[]) m (k2.mem_iff.1 hy)with X|X
   .cases X
   .have:=Q _<|Ho X;omega
  have hF1:(kD p b l<|i+1).1=(pull p (l.getD i []) ((kD p b l i).1.length+1) (kD p b l i).1 0).1:=rfl;have hF2:(kD p b l<|i+1).2=uD ([],0) (λm=>decide<|uA (l.getD i []) m.1<0) (l.getD i [],(((pull p (l.getD i []) ((kD p b l i).1.length+1) (kD p b l i).1 0).2:G):V)) (kD p b l i).2:=rfl;have s:=λn:G=>avB (kD p b l i).2 (l.getD i [],(n:V)) Y (by show Z (l.getD i [])<=_;omega) W
  generalize hT:pull p (l.getD i []) ((kD p b l i).1.length+1) (kD p b l i).1 0=T at*;rw[<-Dp]at*;refine aE<|bI<|ay<|U J<|bI ?_;refine ay<|bq (α:=G×E V×G) (λm=>⟨[(1,cU p),(6,e ar m.2.1),(7,e (.sl ar) l),(8,e MT (kD p b l i).2),(9,c i),(10,c m.2.2)],[],10,[]⟩) (λm=>pull p (I l (af<|(i:V))<|ET.eP<|.sl ar) m.1 m.2.1 m.2.2=T/\Z m.2.1<m.1/\Mon p m.2.1/\m.2.2+Z m.2.1<=200) (λm=>m.1) ((kD p b l i).1.length+1,(kD p b l i).1,0) ⟨hT,dV _,i1.aM,by show 0+(kD p b l i).1.length<=_;omega⟩ aN ?_;rintro⟨k,x,n⟩ ⟨D,b2,o,b4⟩;simp only at D b2 o b4;obtain⟨k,rfl⟩:∃k',k=k'+1:=⟨k-1,Y⟩;rw[pull]at D;refine bI<|R<|rc J J (vq p H.hp H.le x _ Y Y o.c C.c C.ne) (M J<|F J (λu=>?_)<|λu=>?_) (hp:=aH)
  .have u:(aW x (I l (af<|(i:V))<|ET.eP<|.sl ar) p).2=[]:=gx (kw<|dw u);rw[q u]at D;let ⟨q1,q2,q3,q4⟩:=vG H o C<|(QY H o.c C.c C.ne).1 u;have EZ:=BY p H.hp H.le x _ Y Y o.c C.c C.ne;rw[yl q1.c.2]at EZ;refine aE (ay<|R<|rc J J EZ (M J<|rt J (hp:=aH)<|fF<|a4 (k,(aW x (I l (af<|(i:V))<|ET.eP<|.sl ar) p).1,n+1) ⟨D,?_,q1,?_⟩ (dV k) aN) (hp:=aH))
   .show(aW x (I l (af<|(i:V))<|ET.eP<|.sl ar) p).1.length<k;omega
   .show n+1+(aW x (I l (af<|(i:V))<|ET.eP<|.sl ar) p).1.length<=200;omega
  .have u:(aW x (I l (af<|(i:V))<|ET.eP<|.sl ar) p).2≠[]:=λX=>by have u:¬((aW x (I l (af<|(i:V))<|ET.eP<|.sl ar) p).2.length:V)=0:=pN u;rw[X]at u;exact u J
   rw[y u]at D;subst D;have s:=s n;rw[<-hF2]at s;refine bs<|aS ?_;refine cG<|rc J J s (M J<|bP<|rt J (hp:=aH)<|a4 (i+1) h Az<|wk ⟨sR J,sE J ?_,sR J,sR J,sR J,j⟩ j) (hp:=aH);rw[hF1]
 .have h:i=Z l:=by have h:¬(i:V)<(Z l:V):=bc h;omega
  subst h;exact bs<|aS<|U J<|cN J
end
def mQ(a b:E V):E V:=(bJ<|max (Z a)<|Z b).map λi=>I a i 0-I b i 0
def ajA a b:Z (mQ a b)=max (Z a) (Z b):=by simp[mQ]
def Iz a b i:I (mQ a b) i 0=I a i 0-I b i 0:=by
 by_cases h:i<max (Z a) (Z b)
 .unfold mQ;rw[aO,ju,k7 h];rfl
 .rw[gk _ (by rw[ajA];omega),gk a Y,gk b Y];rfl
def ajB a b u(s:u<=100000)(t:Z a<=1000)(v:Z b<=1000)(l:∀i,aJ u (I a i 0))(m:∀i,aJ u (I b i 0)):w O 257 [e .z a,e .z b] (e .z<|aU<|mQ a b):=by
 refine aK Tryz.func257 ?_;have x:=ajA a b;have n:=Iz a b;generalize hM:max (Z a) (Z b)=M at*;have p:M<=1000:=Y;generalize mQ a b=L at*;refine U J<|R<|gV .z [] J J (re J<|h<|U J<|ay<|bq (α:=G) (λi=>⟨[(0,e .z a),(1,e .z b),(5,.c<|.X 1000000),(6,c i)],[(1000000,.vec 42 .z<|r i L)],3,[]⟩) (λi=>i<=M) (λi=>M-i) 0 (bg _) aN ?_);intro i A;have B:(r i L).length=i:=cd;by_cases g:i<M
 .refine kp ⟨[(0,e .z a),(1,e .z b),(5,.c<|.X 1000000),(6,c i)],[(1000000,.vec 42 .z<|r i L)],4,[]⟩ ?_ (λf=>R<|rg 12 J J (λd=>re J<|F J (λ_=>di<|eD f aN)<|λh2=>pO)<|λd=>re J<|F J (λ_=>di<|eD f aN)<|λh2=>?_)
  .refine h<|ay<|cG<|rc J J (KY a i)<|rc J J (KY b i)<|rc J J (WU (I a i 0) (I b i 0) ((l i).sm Y)<|(m i).sm Y)<|rl .z [I a i 0-I b i 0] J J (ra J J J J J J J J J ?_ ?_<|re J ?_)
   .show(_+1+(_+1)/4+192)*32<=_;omega
   .show(_+1)*2<=_;omega
   refine bP<|rt J<|a4 (i+1) g zM<|Wk.trans (wk (st':=⟨[(0,e .z a),(1,e .z b),(5,.c<|.X 4009000),(6,c ((i+1:G):V))],[(4009000,.vec 42 .z<|r (i+1) L)],8,[]⟩) (bK J) ⟨bE J ?_,j⟩)<|Wk.trans (gZ 1000000 4009000 J J J) aN;rw[uc _ i Y,n i]
  .exfalso;have d:¬(i:V)<(Z a:V):=bc d;have h2:¬(i:V)<(Z b:V):=bc h2;omega
 .have k:i=M:=by omega
  subst k;rw[jM Y];refine h<|R<|rg 12 J J (λd=>?_)<|λd=>?_
  .exfalso;have d:(i:V)<(Z a:V):=aV d;omega
  .refine re J (F J (λh2=>?_)<|λh2=>(bs<|aS<|dv 1000000 J J J<|bQ J J (PJ _) J<|cN J))
   .exfalso;have h2:(i:V)<(Z b:V):=aV h2;omega
def lJ(p:V)(l:E (E V)):G->E V
 |0=>[1]
 |i+1=>db (lJ p l i) (l.getD i []) p
section
variable{p:G}(H:bL p)
include H
def ajC:bS p [1]:=⟨HV Y EE,.inr (S:(1:V)≠0)⟩
def avH:Mon p [1]:=⟨ajC H,au,J⟩
def Mt{l:E (E V)}(d:∀g∈l,Mon p g/\1<=Z g):∀i,i<=Z l->Mon p (lJ p l i)/\(fx (lJ p l i):Fx p)=jo p (r i l)/\Z (lJ p l i)=1+eE (r i l)
 |0,_=>⟨avH H,by rw[lJ,ED];rfl,J⟩
 |i+1,n=>by
  let ⟨f,h2,s⟩:=Mt d i Y;have a:l.getD i []∈l:=by rw[aO,df Y];exact sx _
  let ⟨k,g2⟩:=d _ a;let ⟨t1,t2⟩:=Zd H f k;have b:r (i+1) l=r i l++[l.getD i []]:=by rw[vj,aO,df Y];rfl
  have m:eE (r i l++[l.getD i []])=eE (r i l)+(Z (l.getD i [])-1):=by rw[R4];rfl
  rw[b,lJ];refine⟨t1,?_,?_⟩
  .rw[yA,h2,Mi,jo,jo,fO]
  .rw[m];omega
theorem ajD(l:E (E V))(i:G):eE (r i l)<=eE l:=by
 conv=>rhs;rw[<-uX i l]
 rw[R4];omega
def avI{l:E (E V)}(d:∀g∈l,Mon p g/\1<=Z g)(v:eE l<=900)(x:Z l<=1000):w O 215 [e (.sl ar) l,cU p] (e ar<|lJ p l<|Z l):=by
 refine aK Tryz.func215 ?_;have s:=H.hp.1;have k:=H.le;refine U J<|R<|rl ar [1] J J (M J<|h<|U J<|ay<|bq (α:=G) (λi=>⟨[(0,e (.sl ar) l),(1,cU p),(5,e ar<|lJ p l i),(6,c i)],[],4,[]⟩) (λi=>i<=Z l) (λi=>Z l-i) 0 (bg _) aN ?_);intro i t;refine h<|U J<|F J (λh1=>?_)<|λh1=>?_
 .have h1:i<Z l:=by have h1:(i:V)<(Z l:V):=aV h1;omega
  have u:af ((i:V))=i:=cC i;have f:(I l (af<|(i:V))<|ET.eP<|.sl ar)=l.getD i []:=bm (λz=>l.getD z []) u;have b:l.getD i []∈l:=Sl;let ⟨t1,_,t3⟩:=Mt H d i t;have A:=ajD H l i;have B:=ajD H l<|i+1;let ⟨_,_,m⟩:=Mt H d (i+1) h1;let ⟨n,g2⟩:=d _ b;let ⟨_,t7⟩:=Zd H t1 n;have a:=w5 (lJ p l i) (l.getD i []) p Y (by have m:Z (db (lJ p l i) (l.getD i []) p)=_:=m;omega) Y Y t1.c.1 n.c.1;have hE:lJ p l (i+1)=db (lJ p l i) (l.getD i []) p:=rfl;rw[<-hE]at a;rw[<-f]at a;exact aE<|h<|ay<|cG<|rc J J a (M J<|bP<|rt J (hp:=aH)<|a4 (i+1) h1 Az aN) (hp:=aH)
 .have h1:i=Z l:=by have h1:¬(i:V)<(Z l:V):=bc h1;omega
  subst h1;exact bs<|aS<|U J<|cN J
end
section
variable{p:G}
structure xp where
 a:E V
 b:E V
 t:E V
 n:E V
def xp.q(p:G)(x:xp):E V:=aU (aW x.a x.b p).1
def xp.next(p:G)(x:xp):xp:=⟨x.b,(aW x.a x.b p).2,x.n,aU<|ik x.t (db (x.q p) x.n p) p⟩
def E7(p:G):G->xp->xp
 |0,x=>x
 |k+1,x=>if x.b=[]then x else E7 p k (x.next p)
structure E8(p:G)(g h:E V)(C:G)(x:xp):Prop where
 ca:bS p x.a
 cb:bS p x.b
 ct:bS p x.t
 cn:bS p x.n
 a0:x.a≠[]
 l1:x.n.length+x.a.length<=C
 l2:x.t.length+x.b.length<=C
 d1:(fx g:Fx p)∣fx x.a-fx x.t*fx h
 d2:(fx g:Fx p)∣fx x.b-fx x.n*fx h
 co:Co (fx x.a:Fx p) (fx x.b)
variable(H:bL p)
include H
def avJ{a b:E V}(f:bS p a)(g:bS p b)(d:b≠[]):(fx a:Fx p)=fx (aW a b p).1*fx b+fx (aW a b p).2:=
 mk_eq.2 (nL H.hp H.le f.1 g d).1
def E8.next{g f:E V}{C:G}{x:xp}(d:E8 p g f C x)(i:x.b≠[]):E8 p g f C (x.next p)/\(x.next p).b.length<Z x.b:=by
 let ⟨_,o,r,w,z,K⟩:=nL H.hp H.le d.ca.1 d.cb i;have u:=avJ H d.ca d.cb i;have y:=d.l1;have F:=d.l2;have J:=cF.2 i;have l:(fx (x.q p):Fx p)=fx (aW x.a x.b p).1:=H8 _;have N:Z (x.q p)<=Z x.a-(Z x.b-1):=by have:=rE (aW x.a x.b p).1;rw[K]at this;exact this
 have m:=rE<|ik x.t (db (x.q p) x.n p) p;rw[Qv]at m;have P:Z (db (x.q p) x.n p)+Z x.b<=C:=by
  by_cases e:x.q p=[]\/x.n=[]
  .unfold db;rw[q e,qT];omega
  .have Q:x.q p≠[]:=λk=>e (.inl k)
   have T:x.n≠[]:=λk=>e<|.inr k
   have:=ym (x.q p) x.n p;have L:=cF.2 Q;have M:=cF.2 T;omega
 have s:(fx (x.next p).n:Fx p)=fx x.t-fx (aW x.a x.b p).1*fx x.n:=by show(fx (aU<|ik x.t (db (x.q p) x.n p) p):Fx p)=_;rw[XN,yA,l]
 have W:(fx (aW x.a x.b p).2:Fx p)=fx x.a-fx (aW x.a x.b p).1*fx x.b:=Aa (by rw[jS,<-u]);refine⟨⟨d.cb,z d.ca,d.cn,mE H.pos<|En H.pos _ _,i,?_,?_,d.d2,?_,?_⟩,by show(aW x.a x.b p).2.length<_;omega⟩
 .show Z (aU _)+Z x.b<=C;omega
 .show Z x.n+(aW x.a x.b p).2.length<=C;by_cases c:Z x.b<=Z x.a
  .omega
  .have:(aW x.a x.b p).2=x.a:=by unfold aW;rw[q Y]
   rw[this];omega
 .show(fx g:Fx p)∣fx (aW x.a x.b p).2-fx (x.next p).n*fx f;rw[W,s,ov];have X:(fx g:Fx p)∣fx (aW x.a x.b p).1*fx x.b-fx (aW x.a x.b p).1*(fx x.n*fx f):=ow (kM _ _) d.d2;have j:=dvd_sub d.d1 X;have e:∀A B C D:Fx p,A-B-(C-D)=A-C-(B-D):=λA B C D=>by rw[fB (A-B),neg_sub,fB<|A-C,neg_sub,fB A,fB D,fB A,fB D];ac_rfl
  rw[e]at j;rwa[dc (fx (aW x.a x.b p).1)]
 .let ⟨U,v,e⟩:=d.co;refine⟨U*fx (aW x.a x.b p).1+v,U,?_⟩;show(U*fx (aW x.a x.b p).1+v)*fx x.b+U*fx (aW x.a x.b p).2=1;rw[<-e,u,gQ,fN];ac_rfl
def ajE{g d:E V}{C:G}:∀(k:G)(x:xp),E8 p g d C x->Z x.b<k->E8 p g d C (E7 p k x)/\(E7 p k x).b=[]
 |0,x,_,i=>by omega
 |k+1,x,f,i=>by
  rw[E7];split
  next a=>exact⟨f,a⟩
  next a=>let ⟨l,m⟩:=f.next H a;exact ajE k _ l Y
def avK{g d:E V}(u:Mon p g)(hh:Mon p d)(g2:2<=Z g)(lg:Z g<=100)(lh:d.length<=100)(P:Co (fx g:Fx p) (fx d)):∃t,bS p t/\Z t<Z g/\(fx g:Fx p)∣fx t*fx d-1/\w O 258 [e ar g,e ar d,cU p] (e ar t):=by
 have zJ:=H.hp.1;have ajF:=H.le;have I0:E8 p g d 101 ⟨g,d,[],[1]⟩:=⟨u.c,hh.c,ud H.pos,ajC H,u.ne,by show 1+Z g<=_;omega,by show 0+d.length<=_;omega,by rw[lV,dy,sub_zero];exact nO _,by rw[ED,c8,sub_self];exact uf _,P⟩;let ⟨l,e0⟩:=ajE H (d.length+1) ⟨g,d,[],[1]⟩ I0<|dV _;generalize hX:E7 p (d.length+1) ⟨g,d,[],[1]⟩=X at*;have hu:sz (fx X.a:Fx p)=1:=by let ⟨AI,Cz,m⟩:=l.co;rw[e0,lV,g6,fA]at m;exact Ac H m
 rw[dn l.ca]at hu;obtain⟨c,N⟩:∃c,X.a=[c]:=by
  match hxa:X.a,hu with
  |[c],_=>exact⟨c,J⟩
 have s:0<=c/\c<p:=by have:=l.ca.1 0;rw[N]at this;exact this
 have z:c≠0:=by
  rcases l.ca.2 with m|m
  .exact aF m l.a0
  .rw[N]at m;exact m
 have A:=Xl c p s z Y Y;have Q:=HT H.hp H.le s.1 s.2 z;have T:((jR (af c) (af ((p:G):V)):G):V)<p:=by rw[afS _ _ (by rw[cC];omega) (by rw[cC];omega),cC];have:=gU (af c^(p-2)) (Y:0<p);omega
 generalize jR (af c) (af ((p:G):V))=v at*;have l2:=l.l2;have W:=w5 [(v:V)] X.t p au Y Y Y (HV Y T) l.ct.1;have B:=ym [(v:V)] X.t p;have j:=vq p H.hp H.le (db [(v:V)] X.t p) g (by simp at B;omega) Y (oX H.pos _ _) u.c u.ne;let ⟨r1,r2,r3⟩:=yI H (oX H.pos [(v:V)] X.t) u.c u.ne;refine⟨_,r1,r2,?_,?_⟩
 .rw[yA,XM]at r3;have k1:(fx g:Fx p)∣fx (aW (db [(v:V)] X.t p) g p).2*fx d-K v*fx X.t*fx d:=ow r3<|kM _ _;have k2:(fx g:Fx p)∣K v*fx X.a-K v*(fx X.t*fx d):=ow (kM _ _) l.d1;rw[N,XM,<-eN,EC (a:=(v:V)*c) (b:=1) (by rw[fL,Q,H.one]),<-dc]at k2;exact mJ k1<|m9 k2
 refine aK Tryz.func258 ?_;refine U J<|U J<|R<|rl ar [] J J (rl ar [1] J J (M J ?_));refine h<|ay<|bq (α:=G×xp) (λf=>⟨[(0,e ar g),(1,e ar d),(2,cU p),(7,e ar f.2.a),(8,e ar f.2.b),(9,e ar f.2.t),(10,e ar f.2.n)],[],3,[]⟩) (λf=>E8 p g d 101 f.2/\Z f.2.b<f.1/\E7 p f.1 f.2=X) (λf=>f.1) (d.length+1,⟨g,d,[],[1]⟩) ⟨I0,dV _,hX⟩ aN ?_;rintro⟨k,x⟩ ⟨I,hk,hr⟩;simp only at I hk hr;obtain⟨k,rfl⟩:∃k',k=k'+1:=⟨k-1,Y⟩;rw[E7]at hr;have l1:=I.l1;have l2:=I.l2;refine h<|U J<|F J (λi=>?_)<|λi=>?_
 .have i:0<Z x.b:=by have i:(Z x.b:V)>0:=aV i;omega
  have C:x.b≠[]:=cF.1 i;rw[y C]at hr;let ⟨n1,n2⟩:=I.next H C;have D:=BY p H.hp H.le x.a x.b Y Y I.ca I.cb C;have o:aU (aW x.a x.b p).1=x.q p:=rfl;rw[o]at D;have hq:Z (x.q p)<=101:=by have:=rE (aW x.a x.b p).1;rw[(nL H.hp H.le I.ca.1 I.cb C).2.2.2.2.2]at this;show Z (aU _)<=_;omega
  have r:bS p (x.q p):=mE H.pos (nL H.hp H.le I.ca.1 I.cb C).2.1;have B:=ym (x.q p) x.n p;exact di<|aS<|ay<|R<|rc J J D<|M J<|U J<|U J<|R<|rc J J (w5 (x.q p) x.n p Y Y Y Y r.1 I.cn.1)<|rc J J (Lm x.t (db (x.q p) x.n p) p Y Y Y Y I.ct.1 (oX H.pos (x.q p) x.n).1)<|M J<|U J<|rt J<|fF<|a4 (k,x.next p) ⟨n1,(Y:(x.next p).b.length<k),hr⟩ (dV k) aN
 .have i:x.b=[]:=gx (by have i:¬(Z x.b:V)>0:=bc i;omega);rw[q i]at hr;subst hr;refine bs<|aS ?_;show TR _ _ _ ⟨_,_,_,_⟩ _;simp[N];exact bQ J J A J<|R<|rl ar [(v:V)] J J (rc J J W<|rc J J j<|M J<|cN J)
end
def o9(f a K:E V):E V:=aU<|mQ f<|aU<|m7 a K
def ln(a:V)(p:G)(f b K:E V):E V:=(o9 f b K).map λx=>x/a%(p:V)
def rV(a:V)(p:G)(f g t b K:E V):E V:=(aW (db t (aU<|ln a p f b K) p) g p).2
def CA(a:V)(p:G)(f g d t b K:E V):E V:=(aW (aU<|ik (aU<|ln a p f b K) (db (rV a p f g t b K) d p) p) g p).1
def fR(p:G)(f g b t:E V):G->E V×E V
 |0=>(g,b)
 |a+1=>(nT (fR p f g b t a).1 ((p:V)^(a+1))<|rV ((p:V)^(a+1)) p f g t (fR p f g b t a).1 (fR p f g b t a).2,nT (fR p f g b t a).2 ((p:V)^(a+1))<|CA ((p:V)^(a+1)) p f g b t (fR p f g b t a).1 (fR p f g b t a).2)
structure Mu(p:G)(f g h t:E V):Prop where
 H:bL p
 fm:aM f
 hg:Mon p g
 hh:Mon p h
 g2:2<=g.length
 h2:2<=h.length
 lg:g.length<=100
 lh:h.length<=100
 fl:f.length+1=g.length+h.length
 pr:(fx f:Fx p)=fx g*fx h
 tc:bS p t
 tl:t.length<g.length
 ht:(fx g:Fx p)∣fx t*fx h-1
section
variable{p:G}{f g h t:E V}(A:Mu p f g h t)
include A
structure TwE(p:G)(f g h t b K:E V)(a:G):Prop where
 D:(o9 f b K).length+2<=g.length+h.length
 e:bS p (aU<|ln ((p:V)^a) p f b K)
 el:(aU<|ln ((p:V)^a) p f b K).length+2<=g.length+h.length
 cg:bS p (rV ((p:V)^a) p f g t b K)
 lg:(rV ((p:V)^a) p f g t b K).length<g.length
 ck:bS p (CA ((p:V)^a) p f g h t b K)
 lk:(CA ((p:V)^a) p f g h t b K).length<h.length
 nx:xo p f g h (nT b ((p:V)^a)<|rV ((p:V)^a) p f g t b K) (nT K ((p:V)^a)<|CA ((p:V)^a) p f g h t b K) (a+1)
def Mu.step{a K:E V}{b:G}(d:xo p f g h a K b)(j1:1<=b):TwE p f g h t a K b:=by
 have H:=A.H;have o:=H.hp.1;have q:(0:V)<(p:V)^b:=pI Y;let ⟨w,hw⟩:=d.pr;have l:∀i,I (o9 f a K) i 0=(p:V)^b*w i:=λi=>by
  have m:ps (o9 f a K) i=ps f i-(ps a*ps K) i:=by show ps (aU<|mQ f<|aU<|m7 a K) i=_;rw[sW,cT,Iz,<-cT,<-cT,sW,ahe _ _ d.Gm.1 d.Km.1]
  rw[cT]at m;rw[m,hw,PS.ef,PS.eN];omega
 have B:Z (o9 f a K)+2<=Z g+h.length:=by
  have k:=d.Gm.xf.mul d.Km.xf;have n:=A.fm.xf;have Q:∀i,Z f-1<=i->I (o9 f a K) i 0=0:=λi T=>by
   have m:I (o9 f a K) i 0=ps f i-(ps a*ps K) i:=by rw[l i,hw,PS.ef,PS.eN];omega
   have W:Z a-1+(K.length-1)=Z f-1:=by have:=d.Gl;have:=d.Kl;have:=A.fl;have:=A.g2;have:=A.h2;omega
   rw[W]at k;rcases Nat.lt_or_eq_of_le T with e|e
   .rw[m,n.z i e,k.z i e];rfl
   .rw[m,<-e,n.one,k.one];rfl
  have X:can (o9 f a K):=KQ _;have:=A.fl;have:=A.g2;have:=A.h2;rcases X with e|e
  .rw[e];simp;omega
  .rcases r7 (Z (o9 f a K)-1) (Z f-1)with D|D
   .omega
   .exact aF (Q _ D) e
 have s:∀i,I (ln ((p:V)^b) p f a K) i 0=w i%p:=λi=>by show I ((o9 f a K).map λx=>x/(p:V)^b%(p:V)) i 0=_;rw[getD_map (f:=λx=>x/(p:V)^b%(p:V)) Zn,l i,Zo _ Y]
 have C:rp p (ln ((p:V)^b) p f a K):=λi=>by rw[s i];exact⟨jG _ Y,jH _ Y⟩
 have u:bS p (aU<|ln ((p:V)^b) p f a K):=mE H.pos C;have v:Z (aU<|ln ((p:V)^b) p f a K)+2<=Z g+h.length:=by
  have r:=rE<|ln ((p:V)^b) p f a K;have y:Z (ln ((p:V)^b) p f a K)=Z (o9 f a K):=by simp[ln]
  omega
 let ⟨a1,a2,N,P,c⟩:=avo H A.hg A.hh A.g2 u v A.ht;exact⟨B,u,v,a2,a1,N,P,d.step H j1 w hw (Cg.of λi=>by rw[sW,cT,s i,ou]) a1 a2 P N c⟩
def Mu.all:∀a,xo p f g h (fR p f g h t a).1 (fR p f g h t a).2 (a+1)
 |0=>xo.start A.hg A.hh A.pr
 |a+1=>(A.step (Mu.all a)<|Sk<|bg a).nx
theorem ajG{a d:E V}(b:V)(i:aM a)(h:Z d<Z a):aU (An a b d)=nT a b d:=by
 have e:An a b d=nT a b d:=by unfold An nT;rw[(Y:max (Z a) (Z d)=Z a)]
 rw[e];exact(Ze b i h).trim
def avM(hb:w O 258 [e ar g,e ar h,cU p] (e ar t)){k u m:G}(k1:1<=k)(kk:k<=1000)(hu:∀i,aJ u (I f i 0))(hw:aJ m ((p:V)^k))(u9:u<=1000)(w9:m<=1000)(w1:1<=m):w O 214 [e .z f,e ar g,e ar h,cU p,c k] (.a [.S .z (fR p f g h t<|k-1).1,.S .z (fR p f g h t<|k-1).2]):=by
 have H:=A.H;have zJ:=H.hp.1;have ajF:=H.le;have lg:=A.lg;have lh:=A.lh;have g2:=A.g2;have h2:=A.h2;have fl:=A.fl;obtain⟨k,rfl⟩:∃n,k=n+1:=⟨k-1,Y⟩;rw[eL];have B:∀{q:E V},Mon p q->∀i,0<=I q i 0/\I q i 0<4294967296:=λ{q} hq i=>by have:=hq.c.1 i;omega
 have N:=ag6 g Y<|B A.hg;have Q:=ag6 h Y<|B A.hh;rw[yl A.hg.c.2]at N;rw[yl A.hh.c.2]at Q;refine aK Tryz.func214 ?_;refine U J<|bQ J J hb J<|R<|rc J J N<|rc J J Q<|M J<|R<|rc J J (km p Y Y) (M J<|bI<|U J<|ay<|bq (α:=G) (λi=>⟨[(0,e .z f),(1,e ar g),(2,e ar h),(3,cU p),(4,c ((k+1:G):V)),(10,.c<|.P 0 0),(11,e ar t),(12,.c<|.P 2005000 0),(13,.c<|.P 3003000 0),(14,c ((i+1:G):V))],[(0,.box 208 0 [.V (.slice none 0 0),.V<|.slice none 0 0]),(2005000,.box 208 0 [.S .z (fR p f g h t i).1,.S .z (fR p f g h t i).2]),(3003000,.box 42 0<|av .z<|(p:V)^(i+1))],5,[]⟩) (λi=>i<=k) (λi=>k-i) 0 (bg _) (wk (bK J) ⟨bE J J,bE J J,bE J ?_,j⟩) ?_) (hp:=aH)
 .rw[gP,ry,mu];rfl
 intro i hi;have C:=A.all i;let ⟨e1,e2,e3,e4,e5,e6,e7,e8⟩:=A.step C<|Sk<|bg i;have hq:(0:V)<(p:V)^(i+1):=pI Y;have P8:(p:V)^(i+1)<=(p:V)^(k+1):=by rw[<-wW,<-wW];exact QR.2<|dD Y Y
 have s:aJ m ((p:V)^(i+1)):=by unfold aJ at*;omega
 have Hm:(fR p f g h t<|i+1).1=nT (fR p f g h t i).1 ((p:V)^(i+1)) (rV ((p:V)^(i+1)) p f g t (fR p f g h t i).1 (fR p f g h t i).2):=rfl;have Pw:(fR p f g h t<|i+1).2=nT (fR p f g h t i).2 ((p:V)^(i+1)) (CA ((p:V)^(i+1)) p f g h t (fR p f g h t i).1 (fR p f g h t i).2):=rfl;have hE:ln ((p:V)^(i+1)) p f (fR p f g h t i).1 (fR p f g h t i).2=(o9 f (fR p f g h t i).1 (fR p f g h t i).2).map λx=>x/(p:V)^(i+1)%(p:V):=rfl
 have hGE:rV ((p:V)^(i+1)) p f g t (fR p f g h t i).1 (fR p f g h t i).2=(aW (db t (aU<|ln ((p:V)^(i+1)) p f (fR p f g h t i).1 (fR p f g h t i).2) p) g p).2:=rfl;have hKE:CA ((p:V)^(i+1)) p f g h t (fR p f g h t i).1 (fR p f g h t i).2=(aW (aU<|ik (aU<|ln ((p:V)^(i+1)) p f (fR p f g h t i).1 (fR p f g h t i).2) (db (rV ((p:V)^(i+1)) p f g t (fR p f g h t i).1 (fR p f g h t i).2) h p) p) g p).1:=rfl;have T:o9 f (fR p f g h t i).1 (fR p f g h t i).2=aU (mQ f<|aU<|m7 (fR p f g h t i).1 (fR p f g h t i).2):=rfl;have gB:∀b,aJ m ((fR p f g h t i).1.getD b 0):=λb=>by have:=C.Gr b;unfold aJ at*;omega
 have kB:∀b,aJ m ((fR p f g h t i).2.getD b 0):=λb=>by have:=C.Kr b;unfold aJ at*;omega
 generalize hG0:(fR p f g h t i).1=d at*;generalize hK0:(fR p f g h t i).2=K at*;generalize K2:(p:V)^(i+1)=q at*;refine bI<|U J<|F J (λv=>?_)<|λv=>?_
 .have v:i<k:=by have v:((i+1:G):V)<((k+1:G):V):=aV v;omega
  have gl:=C.Gl;have kl:=C.Kl;have wm:=af9 d K m m Y Y Y gB kB;have W:∀i,aJ (2*m+1+u) (I (aU<|m7 d K) i 0):=λi=>by rw[<-cT,sW,cT];exact(ahf d K m m gB kB Y Y i).le Y
  have hil:Z (aU<|m7 d K)<=200:=by have:=rE<|m7 d K;rw[LV]at this;omega
  have o:=ajB f (aU<|m7 d K) (2*m+1+u) Y Y Y (λi=>(hu i).le Y) W;have y:∀i,aJ (2*m+2+u) (I (o9 f d K) i 0):=λi=>by rw[T,<-cT,sW,cT,Iz];exact(((hu i).le (Y:u<=2*m+1+u)).sub<|W i).le Y
  rw[<-T]at o;have hLl:Z (ln q p f d K)=Z (o9 f d K):=by rw[hE,dj]
  have hLr:∀b,b<Z (o9 f d K)->I (ln q p f d K) b 0=I (o9 f d K) b 0/q%(p:V):=λb _=>by rw[hE];exact getD_map (f:=λx=>x/q%(p:V)) Zn _ b
  have hLp:rp p (ln q p f d K):=λb=>by rw[hE,getD_map (f:=λx=>x/q%(p:V)) Zn];exact⟨jG _ Y,jH _ Y⟩
  have Sp:=z6 (ln q p f d K) p Y Y Y<|λb=>(hLp b).1;rw[Ll hLp]at Sp;have tl:=A.tl;have yd:=w5 t (aU<|ln q p f d K) p Y Y Y Y A.tc.1 e2.1;have O1:=ym t (aU<|ln q p f d K) p;have tP:=vq p H.hp H.le (db t (aU<|ln q p f d K) p) g Y Y (oX H.pos _ _) A.hg.c A.hg.ne;rw[<-hGE]at tP;have Zp:=w5 (rV q p f g t d K) h p Y Y Y Y e4.1 A.hh.c.1;have aAA:=ym (rV q p f g t d K) h p;have avS:=Lm (aU<|ln q p f d K) (db (rV q p f g t d K) h p) p Y Y Y Y e2.1 (oX H.pos _ _).1;have sJ:=rE<|ik (aU<|ln q p f d K) (db (rV q p f g t d K) h p) p;rw[Qv]at sJ;have CB:=BY p H.hp H.le (aU<|ik (aU<|ln q p f d K) (db (rV q p f g t d K) h p) p) g Y Y (mE H.pos<|En H.pos _ _) A.hg.c A.hg.ne;rw[<-hKE,yl e6.2]at CB;have ha1:=XR d q (rV q p f g t d K) m Y Y Y gB s (λb=>by have:=e4.1 b;omega);have RV:=XR K q (CA q p f g h t d K) m Y Y Y kB s (λb=>by have:=e6.1 b;omega);rw[ajG A q C.Gm Y,<-Hm]at ha1;rw[ajG A q C.Km Y,<-Pw]at RV;have Zq:=mr q p (s.sm Y)<|(aJ.one (a:=(p:V)) Y).sm Y;generalize rV q p f g t d K=dg at*;generalize CA q p f g h t d K=dh at*;generalize ln q p f d K=L at*;generalize o9 f d K=D at*;refine di<|aS<|bI<|ay<|R<|rc J J wm<|rc J J o<|M J<|R<|gV ar [] J J (M J<|bI<|U J ?_)
  refine ay<|bq (α:=G) (λb=>⟨[(0,e .z f),(1,e ar g),(2,e ar h),(3,cU p),(4,c ((k+1:G):V)),(10,.c<|.P 0 0),(11,e ar t),(12,.c<|.P 2005000 0),(13,.c<|.P 3003000 0),(14,c ((i+1:G):V)),(15,e .z D),(16,.c<|.X 7000000),(17,c b)],[(0,.box 208 0 [.V (.slice none 0 0),.V<|.slice none 0 0]),(2005000,.box 208 0 [.S .z d,.S .z K]),(3003000,.box 42 0<|av .z q),(7000000,.vec 150 ar<|r b L)],9,[]⟩) (λb=>b<=Z D) (λb=>Z D-b) 0 (bg _) aN ?_;intro b hj;have hl:(r b L).length=b:=cd;refine bI<|U J<|F J (λl=>?_)<|λl=>?_
  .have l:b<Z D:=by have l:(b:V)<(Z D:V):=aV l;omega
   have ej:af ((b:V))=b:=cC b;have BR:=HE (I D (af<|(b:V)) 0) q Y ((y _).sm Y)<|s.sm Y;have DL:=af' (I D (af<|(b:V)) 0/q) p Y Y (by
    have h1:=y<|af<|(b:V);have h2:aJ (2*m+2+u) (I D (af<|(b:V)) 0/q):=by have:=Zr (I D (af<|(b:V)) 0) q;unfold aJ at*;omega
    exact h2.sm Y)
   refine aE<|bI<|ay<|R<|rc J J BR (M J<|cG<|rc J J DL<|rl ar [_] J J (ra J J J J J J J J J ?_ ?_<|M J ?_)) (hp:=aH)
   .show(_+1+(_+1)/4+192)*8<=_;omega
   .show(_+1)*1<=_;omega
   refine bP<|rt J (hp:=aH)<|a4 (b+1) l (Y:Z D-(b+1)<Z D-b)<|Wk.trans (wk (st':=⟨[(0,e .z f),(1,e ar g),(2,e ar h),(3,cU p),(4,c ((k+1:G):V)),(10,.c<|.P 0 0),(11,e ar t),(12,.c<|.P 2005000 0),(13,.c<|.P 3003000 0),(14,c ((i+1:G):V)),(15,e .z D),(16,.c<|.X 11005000),(17,c ((b+1:G):V))],[(0,.box 208 0 [.V (.slice none 0 0),.V<|.slice none 0 0]),(2005000,.box 208 0 [.S .z d,.S .z K]),(3003000,.box 42 0<|av .z q),(11005000,.vec 150 ar<|r (b+1) L)],24,[]⟩) (bK J) ⟨bR J,bR J,bR J,bE J<|bm (aA.vec 150 ar) ?_,j⟩)<|Wk.trans (gZ 7000000 11005000 J J J) aN;rw[uc _ b Y,hLr b l,ej]
  .have l:b=Z D:=by have l:¬(b:V)<(Z D:V):=bc l;omega
   subst l;rw[jM Y];refine bs<|aS<|dv 7000000 J J J<|bQ J J Sp J<|R<|rc J J yd<|rc J J tP<|M J<|R<|rc J J Zp<|rc J J avS<|rc J J CB<|M J<|R<|rc J J ha1<|rc J J RV<|M J<|cG<|rc J J (km p Y Y) (rc J J Zq<|M J<|bP<|rt J (hp:=aH)<|a4 (i+1) v Q2<|wk (bK J) ⟨bE J J,bE J J,bE J ?_,j⟩) (hp:=aH);rw[gP,K2];rfl
 .have v:i=k:=by have v:¬((i+1:G):V)<((k+1:G):V):=bc v;omega
  subst v;refine bs<|aS ?_;rw[hG0,hK0];exact U J<|cv J J
end
section
variable{p:G}(H:bL p)
open Classical in
def AJ(p:G)(g a:E V):E V:=if b:∃t,bS p t/\Z t<Z g/\(fx g:Fx p)∣fx t*fx a-1/\w O 258 [e ar g,e ar a,cU p] (e ar t)then Ak b else[]
include H in
def avT{g a:E V}(f:Mon p g)(i:Mon p a)(k:2<=Z g)(l:Z g<=100)(m:a.length<=100)(b:Co (fx g:Fx p) (fx a)):bS p (AJ p g a)/\Z (AJ p g a)<Z g/\(fx g:Fx p)∣fx (AJ p g a)*fx a-1/\w O 258 [e ar g,e ar a,cU p] (e ar<|AJ p g a):=by have d:=avK H f i k l m b;unfold AJ;rw[dif_pos d];exact yq d
def vH(p k:G)(f:E V)(l:E (E V)):E V×E V:=fR p f (l.getD 0 []) (lJ p l.tail<|Z l.tail) (AJ p (l.getD 0 [])<|lJ p l.tail<|Z l.tail)<|k-1
def uE(p k:G):E V->E (E V)->E (E V)
 |_,[]=>[]
 |f,[_]=>[f.map (eG · ((p:V)^k))]
 |f,g::a::b=>(vH p k f<|g::a::b).1.map (eG · ((p:V)^k))::uE p k (vH p k f<|g::a::b).2 (a::b)
structure yJ(p:G)(f:E V)(l:E (E V)):Prop where
 fm:aM f
 ok:∀g∈l,Mon p g/\2<=g.length
 pr:(fx f:Fx p)=jo p l
 co:l.Pairwise (λx a=>Co (fx x:Fx p)<|fx a)
 fl:f.length=1+eE l
 d9:eE l<=90
def ajK:∀l:E (E V),jo p l=g8 l
 |[]=>rfl
 |f::l=>by rw[jo,g8,ajK l]
def ajL:∀{l:E (E V)}{g:E V},g∈l->Z g<=1+eE l
 |x::l,g,a=>by
  rw[eE];rcases b7.1 a with rfl|a
  .omega
  .have:=ajL a;omega
include H
def yJ.two{f g a:E V}{b:E (E V)}(A:yJ p f (g::a::b)):Mu p f g (lJ p (a::b) (a::b).length) (AJ p g<|lJ p (a::b) (a::b).length)/\w O 258 [e ar g,e ar<|lJ p (a::b) (a::b).length,cU p] (e ar<|AJ p g<|lJ p (a::b) (a::b).length):=by
 let ⟨i,g2⟩:=A.ok g au;let ⟨t1,t2,t3⟩:=Mt H (l:=a::b) (λx hx=>⟨(A.ok x mW).1,kw<|(A.ok x mW).2⟩) _<|aL _;rw[iG]at t2 t3;let ⟨u,h2⟩:=A.ok a au;let ⟨c1,_⟩:=lq.1 A.co;have v:eE (g::a::b)=(Z g-1)+eE (a::b):=rfl;have k:eE (a::b)=(a.length-1)+eE b:=rfl;have z:=A.d9;have B:=A.fl;have d:Co (fx g:Fx p) (fx<|lJ p (a::b) (a::b).length):=by rw[t2,ajK];exact ajb H c1
 let ⟨m,n,s,t⟩:=avT H i t1 g2 Y Y d;refine⟨⟨H,A.fm,i,t1,g2,Y,Y,Y,Y,?_,m,n,s⟩,t⟩;rw[A.pr,t2];rfl
def yJ.next{f g a:E V}{b:E (E V)}(A:yJ p f (g::a::b)){k:G}(d:1<=k):xo p f g (lJ p (a::b) (a::b).length) (vH p k f<|g::a::b).1 (vH p k f<|g::a::b).2 k/\yJ p (vH p k f<|g::a::b).2 (a::b):=by let ⟨T,_⟩:=A.two H;have I:=T.all<|k-1;rw[(Y:k-1+1=k)]at I;have I:xo p f g (lJ p (a::b) (a::b).length) (vH p k f<|g::a::b).1 (vH p k f<|g::a::b).2 k:=I;let ⟨t1,t2,t3⟩:=Mt H (l:=a::b) (λx hx=>⟨(A.ok x mW).1,kw<|(A.ok x mW).2⟩) _<|aL _;rw[iG]at t2 t3;have i:eE (g::a::b)=(Z g-1)+eE (a::b):=rfl;have m:=A.d9;exact⟨I,I.Km,λx hx=>A.ok x mW,by rw[I.Kp,t2],(lq.1 A.co).2,by rw[I.Kl,t3],Y⟩
def ajM{k:G}(v:1<=k):∀(l:E (E V))(f:E V),yJ p f l->Iy p k f l (uE p k f l)
 |[],f,A=>by
  refine⟨J,λi m=>aF m au,?_⟩;have n:f=[1]:=by
   match f,A.fl with
   |[c],_=>rw[show c=1 from A.fm.2]
  rw[n,Qx];exact Cg.refl _ _
 |[g],f,A=>by
  have b:(1:V)<(p:V)^k:=by obtain⟨j,rfl⟩:∃j,k=j+1:=⟨k-1,Y⟩;have:=H.hp.1;have s:(0:V)<(p:V)^j:=pI Y;have z:=ja (Y:(1:V)<=(p:V)^j) (Y:(0:V)<=p);rw[gP];omega
  have a:(p:V)∣(p:V)^k:=by obtain⟨j,rfl⟩:∃j,k=j+1:=⟨k-1,Y⟩;rw[gP];exact EK _ _
  have C:=A.fl;let ⟨D,g2⟩:=A.ok g au;have N:eE [g]=Z g-1:=rfl;refine⟨J,λi m=>?_,?_⟩
  .have t:i=0:=by simp at m;omega
   subst t;show aM (f.map (eG · ((p:V)^k)))/\(f.map (eG · ((p:V)^k))).length=Z g/\(fx (f.map (eG · ((p:V)^k))):Fx p)=fx g/\∀j,eG ((f.map (eG · ((p:V)^k))).getD j 0) ((p:V)^k)=(f.map (eG · ((p:V)^k))).getD j 0;refine⟨EJ b A.fm,by rw[dj];omega,?_,λj=>?_⟩
   .have n:(fx f:Fx p)=fx g:=by rw[A.pr,jo,jo,fO]
    rw[<-n];refine QV<|Cg.of λi=>?_;rw[cT,cT,th _ Y,<-vB _ a,Cd Y,vB _ a]
   .rw[th _ Y];exact Re<|Cd Y _
  .show Cg _ (ps f) (ps (f.map (eG · ((p:V)^k)))*1);rw[PS.fO];exact Cg.of λi=>by rw[cT,cT,th _ Y,Cd Y]
 |g::h::r,f,A=>by
  let ⟨I,B⟩:=A.next H v;have u:=ajM v (h::r) _ B;have b:(1:V)<(p:V)^k:=by obtain⟨j,rfl⟩:∃j,k=j+1:=⟨k-1,Y⟩;have:=H.hp.1;have s:(0:V)<(p:V)^j:=pI Y;have z:=ja (Y:(1:V)<=(p:V)^j) (Y:(0:V)<=p);rw[gP];omega
  have a:(p:V)∣(p:V)^k:=by obtain⟨j,rfl⟩:∃j,k=j+1:=⟨k-1,Y⟩;rw[gP];exact EK _ _
  rw[uE];generalize (vH p k f<|g::h::r).1=d at*;generalize (vH p k f<|g::h::r).2=K at*;refine⟨by rw[jg,u.len];rfl,λi m=>?_,?_⟩
  .cases i with
   |zero=>
    show aM (d.map (eG · ((p:V)^k)))/\(d.map (eG · ((p:V)^k))).length=Z g/\(fx (d.map (eG · ((p:V)^k))):Fx p)=fx g/\∀j,eG ((d.map (eG · ((p:V)^k))).getD j 0) ((p:V)^k)=(d.map (eG · ((p:V)^k))).getD j 0
    refine⟨EJ b I.Gm,by rw[dj,I.Gl],?_,λj=>?_⟩
    .rw[<-I.Gp];refine QV<|Cg.of λi=>?_;rw[cT,cT,th _ Y,<-vB _ a,Cd Y,vB _ a]
    .rw[th _ Y];exact Re<|Cd Y _
   |succ i=>exact u.ok i (by simp at m⊢;omega)
  .show Cg _ (ps f) (ps (d.map (eG · ((p:V)^k)))*rJ (uE p k K<|h::r));refine I.pr.trans<|Cg.mul (Cg.of λi=>?_) u.pr;rw[cT,cT,th _ Y,Cd Y]
omit H in
def avU{l:E (E V)}{i:G}(a:i+1<Z l):∃b d,az i l=l.getD i []::b::d/\az (i+1) l=b::d:=by
 have g:az i l=l.getD i []::az (i+1) l:=by rw[tU Y,aO,df Y];rfl
 have f:az (i+1) l=l.getD (i+1) []::az (i+2) l:=by rw[tU a,aO,df a];rfl
 exact⟨_,_,by rw[g,f],f⟩
def avV{f:E V}{l:E (E V)}(A:yJ p f l){k u w:G}(k1:1<=k)(kk:k<=1000)(hu:∀i,aJ u (I f i 0))(hw:aJ w ((p:V)^k))(u9:u<=1000)(w9:w<=u)(w1:1<=w):jz O 179 [e .z f,e (.sl ar) l,cU p,c k] (e (.sl .z)<|uE p k f l):=by
 have zJ:=H.hp.1;have ajF:=H.le;have W:(0:V)<(p:V)^k:=pI Y;have Qn:Z l<=90:=by have h1:=(YS (l:=l) λg hg=>(A.ok g hg).2).1;have a:=A.d9;omega
 refine aK Tryz.func179 ?_;refine U J<|bQ J J (XS p k Y Y) J<|R<|gV (.sl .z) [] J J (M J<|h<|U J<|ay<|bq (α:=G×E V×E (E V)) (λy=>⟨[(0,e .z y.2.1),(1,e (.sl ar) l),(2,cU p),(3,c k),(9,.c<|.P 1003000 0),(10,.c<|.X 2000000),(11,c y.1)],[(1003000,.box 42 0<|av .z<|(p:V)^k),(2000000,.vec 161 (.sl .z) y.2.2)],4,[]⟩) (λy=>yJ p y.2.1 (az y.1 l)/\y.2.2++uE p k y.2.1 (az y.1 l)=uE p k f l/\Z y.2.2<=y.1/\y.1<=Z l/\(l≠[]->y.1<Z l)/\∀i,aJ u (I y.2.1 i 0)) (λy=>Z l-y.1) (0,f,[]) ⟨A,J,aL _,bg _,λcA=>cF.2 cA,hu⟩ (wk (bK J) ⟨bE J J,bR J,j⟩) ?_);rintro⟨i,N,o⟩ ⟨B,t,b3,b4,b5,S⟩;simp only at B t b3 b4 b5 S;have dF:Z N<=91:=by have:=B.fl;have:=B.d9;omega
 refine h<|U J<|F J (λs=>?_)<|λs=>?_
 .have s:i+1<Z l:=by have s:(i:V)+1<(Z l:V):=aV s;omega
  let ⟨b,d,e1,q⟩:=avU s;rw[e1]at B t;let ⟨T,Zs⟩:=B.two H;let ⟨Q,B'⟩:=B.next H k1;have v:=avI H (l:=b::d) (λx hx=>⟨(B.ok x mW).1,kw<|(B.ok x mW).2⟩) (kw B'.d9) (by rw[<-q];simp;omega);have C:=avM T Zs k1 kk S hw Y Y w1;have hE:fR p N (l.getD i []) (lJ p (b::d)<|Z<|b::d) (AJ p (l.getD i [])<|lJ p (b::d)<|Z<|b::d) (k-1)=vH p k N (l.getD i []::b::d):=rfl;rw[hE]at C;rw[uE]at t;generalize hG:(vH p k N<|l.getD i []::b::d).1=D at*;generalize hK:(vH p k N<|l.getD i []::b::d).2=K at*;have gB:∀i,aJ w (I D i 0):=λi=>by have:=Q.Gr i;unfold aJ at*;omega
  have kB:∀i,aJ u (K.getD i 0):=λi=>by have:=Q.Kr i;exact aJ.le (by unfold aJ at*;omega:aJ w (K.getD i 0)) w9
  have gl:Z D<=100:=by rw[Q.Gl];exact T.lg
  have m:(1:V)<(p:V)^k:=by have:=Q.Gr<|Z D-1;rw[Q.Gm.2]at this;omega
  have n:=XU D ((p:V)^k) w Y Y W gB hw;rw[(EJ m Q.Gm).trim]at n;have ei:af ((i:V))=i:=cC i;have Dp:(I l (af<|(i:V))<|ET.eP<|.sl ar)=l.getD i []:=bm (λz=>l.getD z []) ei;have es:az (af<|(i:V)+1) (r (Z l) l)=b::d:=by rw[iG,(Y:af ((i:V)+1)=i+1),q]
  rw[<-Dp]at C;have v:jz O 215 [e (.sl ar) (az (af<|(i:V)+1)<|r (Z l) l),cU p] (e ar<|lJ p (b::d)<|Z<|b::d):=by rw[es];exact v
  refine aE<|h<|ay<|R<|rc J J v (rc J J C<|M J<|R<|rc J J n<|rl (.sl .z) [_] J J (ra J J J J J J J J J ?_ ?_<|M J<|rt J ?_)) (hp:=aH)
  .show(Z o+1+(Z o+1)/4+192)*24<=_;omega
  .show(Z o+1)*1<=_;omega
  refine bP<|rt J (hp:=aH)<|a4 (i+1,K,o++[D.map (eG · ((p:V)^k))]) ⟨?_,?_,?_,?_,?_,kB⟩ ?_<|Wk.trans (wk (st':=⟨[(0,e .z K),(1,e (.sl ar) l),(2,cU p),(3,c k),(9,.c<|.P 1003000 0),(10,.c<|.X 6006000),(11,c ((i+1:G):V))],[(1003000,.box 42 0<|av .z<|(p:V)^k),(6006000,.vec 161 (.sl .z)<|o++[D.map (eG · ((p:V)^k))])],16,[]⟩) (bK J)<|n5 J)<|Wk.trans (gZ 2000000 6006000 J J J) aN
  .show yJ p K (az (i+1) l);rw[q];exact B'
  .show(o++[D.map (eG · ((p:V)^k))])++uE p k K (az (i+1) l)=_;rw[q,<-t,nt];rfl
  .show Z (o++[_])<=i+1;simp;omega
  .show i+1<=_;omega
  .intro _;exact s
  .show Z l-(i+1)<Z l-i;omega
 .have s:¬i+1<Z l:=by have s:¬(i:V)+1<(Z l:V):=bc s;omega
  refine bs<|aS<|h<|U J<|F J (λa=>?_)<|λa=>?_
  .have a:0<Z l:=by have a:(Z l:V)>0:=aV a;omega
   have hi:=b5<|cF.1 a;have e1:az i l=[l.getD i []]:=by rw[tU Y,vX Y,aO,df Y];rfl
   rw[e1]at B t;have m:(1:V)<(p:V)^k:=by obtain⟨L,rfl⟩:∃L,k=L+1:=⟨k-1,Y⟩;have a:(0:V)<(p:V)^L:=pI Y;have h3:=ja (Y:(1:V)<=(p:V)^L) (Y:(0:V)<=p);rw[gP];omega
   have n:=XU N ((p:V)^k) u Y Y W S<|hw.le w9;rw[(EJ m B.fm).trim]at n;refine cG<|rc J J n<|rl (.sl .z) [_] J J (ra J J J J J J J J J ?_ ?_<|M J ?_)
   .show(Z o+1+(Z o+1)/4+192)*24<=_;omega
   .show(Z o+1)*1<=_;omega
   refine aS<|dv 6005000 J J J<|U J<|cv J ?_;rw[<-t];rfl
  .have a:l=[]:=gx (by have a:¬(Z l:V)>0:=bc a;omega);subst a;refine aE<|dv 2000000 J J J<|U J<|cv J ?_;rw[List.drop_nil]at t;rw[<-t];show e (.sl .z) o=_;rw[uE,ji]
end
end Go.El
namespace Go.El
open Go Go.Proofs Go.RowKit
def avW a b:eR (a.num*(b.den:V)) (b.num*(a.den:V))=pT a b:=by
 have g:=Rat.lt_iff a b;have f:=Rat.lt_iff b a;unfold eR pT;by_cases c1:a<b
 .rw[q c1,q<|g.1 c1]
 .rw[y c1,y<|λh=>c1<|g.2 h];by_cases d:b<a
  .rw[q d];first|rw[q (f.1 d)]|rw[y (kw<|f.1 d)]
  .rw[y d];first|rw[y (λh=>d<|f.2 h)]|rw[q (by have:=mt f.2 d;have:=mt g.2 c1;omega)]
def ajN{k}(u:k<=1000000000)(a b:E Rat)(v:Z a<=1000)(m:∀i,QS k (I a i 0)):w O 16 [cS .q a,cS .q b] (cB<|decide<|a=b):=by
 refine aK Tryz.func16 ?_;refine U J<|h<|U J<|F J (λg=>?_)<|λg=>aE ?_
 .refine U J<|bX<|cY<|fK J<|bm cB ?_;rw[rz (λe=>(zZ g) xU)]
 .have g:=yj g;have n:Z a=Z b:=Y;refine h<|U J<|ay<|bq (α:=G) (λi=>⟨[(0,cS .q a),(1,cS .q b),(5,c i)],[],4,[]⟩) (λi=>i<=Z a/\∀j,j<i->I a j 0=I b j 0) (λi=>Z a-i) 0 ⟨bg _,λj l=>aF l<|nZ _⟩ aN ?_;rintro i ⟨x,ht⟩;refine h (U J<|F J (λf=>?_)<|λf=>?_)
  .have f:i<Z a:=by have f:(i:V)<(Z a:V):=aV f;omega
   have p:af ((i:V))=i:=cC i;have s:w O 21 [aQ (I a (af<|(i:V)) 0),aQ<|I b (af<|(i:V)) 0] (cB<|decide<|List.getD a i 0=I b i 0):=by rw[p];exact RI _ _ (m i) Y
   refine aE<|h<|ay<|R<|rc J J s (M J<|F J (λd=>?_)<|λd=>di<|bP ?_) (hp:=aH)
   .have d:I a i 0≠I b i 0:=λe=>by have d:(!decide (List.getD a i 0=I b i 0))=ae:=d;rw[rA e]at d;cases d
    refine U J<|bX ?_;repeat(first|refine cY ?_|refine ma ?_|refine m0 ?_)
    refine fK J<|bm cB ?_;rw[rz (λe=>d xU)]
   .have d:I a i 0=I b i 0:=by
     have d:(!decide (List.getD a i 0=I b i 0))=ah:=d;by_cases e:I a i 0=I b i 0
     .exact e
     .rw[rz e]at d;cases d
    refine rt J<|a4 (i+1) ⟨f,λj l=>?_⟩ ri aN;by_cases e:j=i
    .rw[e];exact d
    .exact ht j Y
  .have f:i=Z a:=by have f:¬(i:V)<(Z a:V):=bc f;omega
   subst f;refine bs<|aS<|U J<|cv J<|bm cB<|(rA<|Rx.agk n λj=>?_).symm;by_cases t:j<Z a
   .exact ht j t
   .rw[Rx.fP a Y,Rx.fP b Y]
def avX{k}(u:k<=1000000000) a(v:Z a<=1000)(g:I a (Z a-1) 0≠0)(l:∀i,QS k (I a i 0))(m:a≠[]):w O 35 [e .q a] (cB ae):=by
 refine aK Tryz.func35 ?_;have x:=cF.2 m;refine U J<|h<|U J<|ay<|bq (α:=G) (λi=>⟨[(0,e .q a),(3,c i)],[],4,[]⟩) (λi=>i<=Z a) (λi=>Z a-i) 0 (bg _) aN ?_;intro i z;refine h<|U J<|F J (λb=>?_)<|λb=>?_
 .have b:i<Z a:=by have b:(i:V)<(Z a:V):=aV b;omega
  exact aE<|h<|ay<|R<|rc J J (aug (k:=k) (I a (af<|(i:V)) 0) (l _) Y) (M J<|F J (λf=>by cases f)<|λf=>di<|bP<|rt J<|a4 (i+1) b ri aN) (hp:=aH)
 .refine bs<|aS ?_;have p:af ((Z a:V)-1)=Z a-1:=Y;refine R (rg 19 J J (λd=>?_)<|λ_=>jF J J J J J (Wt<|I a (af<|(Z a:V)-1) 0) (M J<|cv J<|bm cB ?_) (hp:=aH))
  .exfalso;have d:((Z a:V)==0)=ae:=d;have:=dw d;omega
  .show(gH (I a (af<|(Z a:V)-1) 0).num !=0)=ae;rw[p];exact bne_iff_ne.2 λt=>g<|vD<|yC.1 t
def avY{k}(t:k<=1000000000) a b(u:Z a<=1000)(v:Z b<=1000)(n:∀i,QS k (I a i 0))(p:∀i,QS k (I b i 0)):w O 181 [e .q a,e .q b] (cB<|decide<|kC a b<0):=by
 refine aK Tryz.func181 ?_;refine U J<|h<|U J<|F J (λl=>?_)<|λl=>aE ?_
 .have l:=zZ l;refine U J<|bX<|cY<|fK J<|bm cB ?_;rw[kC,q Y,rN];refine decide_eq_decide.2 ⟨λf=>by rw[q f];decide,λf=>?_⟩;split at f
  .assumption
  .split at f<;>omega
 .have l:(Z a:V)=(Z b:V):=yj l;rw[show kC a b=tm a b (Z a)by rw[kC,y Y]];refine h<|U J<|ay<|bq (α:=G) (λk=>⟨[(0,e .q a),(1,e .q b),(5,c<|(k:V)-1)],[],4,[]⟩) (λk=>k<=Z a/\tm a b (Z a)=tm a b k) (λk=>k) (Z a) ⟨aL _,J⟩ aN ?_;rintro i ⟨x,hc⟩;refine h (U J<|F J (λg=>?_)<|λg=>?_)
  .have g:0<i:=by have g:(i:V)-1>=0:=aV g;omega
   obtain⟨j,rfl⟩:∃j,i=j+1:=⟨i-1,Y⟩;have s:af (((j+1:G):V)-1)=j:=Y;have m:w O 216 [aQ (I a (af<|((j+1:G):V)-1) 0),aQ<|I b (af<|((j+1:G):V)-1) 0] (c<|pT (I a j 0)<|I b j 0):=by rw[s,<-avW];exact auf (k:=k) _ _ (n _) (p _) Y
   rw[tm]at hc;rw[hc];generalize pT (I a j 0) (I b j 0)=z at*;refine aE<|h<|ay<|R<|rc J J m (M J<|F J (λd=>?_)<|λd=>di<|bP ?_) (hp:=aH)
   .have d:z≠0:=bne_iff_ne.1 d;refine R<|rc J J m (M J<|bX ?_) (hp:=aH);repeat(first|refine cY ?_|refine ma ?_|refine m0 ?_)
    refine fK J ?_;rw[q d]
   .have d:z=0:=by
     have d:(z !=0)=ah:=d;by_cases f:z=0
     .exact f
     .rw[bne_iff_ne.2 f]at d;cases d
    exact rt J (hp:=aH)<|a4 j ⟨Y,y<|λf=>f d⟩ vk<|wk ⟨sR J,sR J,sE J<|jQ (Y:((j+1:G):V)-1-1=(j:V)-1),fp⟩ fp
  .have g:i=0:=by have g:¬(i:V)-1>=0:=bc g;omega
   subst g;rw[hc];exact bs<|aS<|U J<|cN J
end Go.El
end
