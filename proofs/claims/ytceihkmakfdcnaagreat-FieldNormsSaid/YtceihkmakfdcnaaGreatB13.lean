/- Plain: one step of the lifting of two factors. Own work; no condition. -/
import Derived.Test.YtceihkmakfdcnaaGreatB12
import Derived.Test.YtceihkmakfdcnaaGreatB9
import Derived.Test.YtceihkmakfdcnaaGreatB8
import Derived.Test.YtceihkmakfdcnaaGreatB10
set_option linter.all false
set_option maxHeartbeats 16000000
set_option maxRecDepth 100000
open Bool renaming true->ae
open Classical renaming choose->yb
open Go.El renaming rr->e,cS->S,K0->F,re->z,dj->j,cI->O,rb->R
open Go.IntKind renaming wrap->aw
open Go.Proofs.Tryz renaming prog->c,func206->af5
open Int renaming toNat->af
open List renaming range->cw,length->Z,getD->I,take->M,perm_append_comm->arI,drop->ay
open Nat renaming div_le_div_left->arz
open _root_ renaming List->E,Int->Y,Nat->V
namespace Go.El
open Go Go.Proofs Go.RowKit Fx
def me(a:E Y)(d:Y)(b:E Y):E Y:=(cw<|Z a).map λi=>I a i 0+d*I b i 0
def J3 a d b:Z (me a d b)=Z a:=by simp[me]
def PD a d b(h:Z b<=Z a) i:I (me a d b) i 0=I a i 0+d*I b i 0:=by
 by_cases c:i<Z a
 .unfold me;rw[aN,iN,jV c];rfl
 .rw[fh _ (by rw[J3];omega),fh a G,fh b G,gY];rfl
def afP a d b(h:Z b<=Z a):ps (me a d b)=ps a+PS.K d*ps b:=PS.ext λi=>by rw[PS.eo,PS.fp];exact PD a d b h i
def Wc{a b}d(f:aH a)(h:Z b<Z a):aH (me a d b):=by refine⟨λe=>by have:=J3 a d b;rw[e]at this;exact f.1<|gK this.symm,?_⟩;rw[J3,PD a d b G,f.2,fh b G,gY];rfl
section
variable{p:V}
structure vi(p:V)(f g h a K:E Y)(b:V):Prop where
 Gm:aH a
 Gl:a.length=g.length
 Gp:(fx a:Fx p)=fx g
 Gr:∀i,0<=a.getD i 0/\a.getD i 0<(p:Y)^b
 Km:aH K
 Kl:K.length=h.length
 Kp:(fx K:Fx p)=fx h
 Kr:∀i,0<=K.getD i 0/\K.getD i 0<(p:Y)^b
 pr:Cg ((p:Y)^b) (ps f) (ps a*ps K)
def vi.start{f g h}(a:Mon p g)(b:Mon p h)(k:(fx f:Fx p)=fx g*fx h):vi p f g h g h 1:=by have d:(p:Y)^1=p:=Int.pow_one _;refine⟨⟨a.ne,a.one⟩,J,J,λi=>by rw[d];exact a.c.1 i,⟨b.ne,b.one⟩,J,J,λi=>by rw[d];exact b.c.1 i,?_⟩;rw[d];exact mk_eq.1<|show Fx.mk (ps f) (bp.ps p f)=Fx.mk (ps g*ps h) ((bp.ps p g).mul<|bp.ps p h)from k
def afQ{b d}{a}(m:0<a)(f:∀i,0<=I b i 0/\I b i 0<a)(g:∀i,0<=I d i 0/\I d i 0<(p:Y))(h:Z d<=Z b) i:0<=I (me b a d) i 0/\I (me b a d) i 0<a*p:=by rw[PD b a d h];let ⟨a1,a2⟩:=f i;let ⟨k,n⟩:=g i;have o:0<=a*I d i 0:=jB G k;have l:a*(I d i 0+1)<=a*p:=kU G G;rw[oA,ni]at l;omega
def afR{a d}{b}(f:Z d<=Z a)(g:(p:Y)∣b):(fx (me a b d):Fx p)=fx a:=by refine Oo<|Cg.of λi=>?_;obtain⟨z,rfl⟩:=g;rw[cG,cG,PD _ _ _ f,jo,Nu]
def arw(H:br p){g h a t}(b:Mon p g)(k:Mon p h)(Rm:2<=Z g)(he:bx p a)(hl:Z a+2<=Z g+h.length)(ht:(fx g:Fx p)∣fx t*fx h-1):
  (aO (cL t a p) g p).2.length<Z g/\bx p (aO (cL t a p) g p).2/\
  bx p (aO (aM<|gh a (cL (aO (cL t a p) g p).2 h p) p) g p).1/\(aO (aM<|gh a (cL (aO (cL t a p) g p).2 h p) p) g p).1.length<h.length/\
  (fx a:Fx p)=fx (aO (cL t a p) g p).2*fx h+fx (aO (aM<|gh a (cL (aO (cL t a p) g p).2 h p) p) g p).1*fx g:=by
 have l:=nk H.pos t a
 let ⟨_,_,_,d4,d5,_⟩:=l6 H.hp H.le l.1 b.c b.ne
 have C:=Ov H l b.c b.ne
 rw[wG]at C
 have m:=d5 l
 generalize (aO (cL t a p) g p).2=dg at*
 have n:(fx (aM<|gh a (cL dg h p) p):Fx p)=fx a-fx dg*fx h:=by rw[UQ,wG]
 have f:bx p (aM<|gh a (cL dg h p) p):=kZ H.pos<|Cm H.pos _ _
 generalize aM (gh a (cL dg h p) p)=s at*
 have X:(fx g:Fx p)∣fx s:=by rw[n];have j:(fx g:Fx p)∣fx dg*fx h-fx t*fx a*fx h:=oD C<|n6 _ _;have K:(fx g:Fx p)∣fx a*(fx t*fx h)-fx a*1:=oD (n6 _ _) ht;rw[mul_one]at K;have q:(fx g:Fx p)∣fx dg*fx h-fx a:=np j (by have r:fx t*fx a*fx h=fx a*(fx t*fx h:Fx p):=fq;rw[r];exact K);exact n5 q
 have o:=CG H f b.c b.ne X
 let ⟨_,L,_,_,_,u⟩:=l6 H.hp H.le f.1 b.c b.ne
 have y:Z s+2<=Z g+h.length:=by
  have v:=FI H.pos (fx a:Fx p)<|fx dg*fx h;rw[<-n,cX f,cX he]at v;have P:sz (fx dg*fx h:Fx p)+2<=Z g+h.length:=by
   have z:=k.pos;by_cases d:dg=[]
   .rw[d,kz,zero_mul,kv H.pos];omega
   .have A:(fx dg:Fx p)≠0:=λa=>d (uX m (rU H.pos)<|a.trans kz.symm)
    have:=ef H A<|k.kA H;rw[cX m,cX k.c]at this;omega
  omega
 have w:bx p (aO s g p).1:=by
  refine⟨L,?_⟩;by_cases d:s=[]
  .left;refine gK ?_;rw[u,d];simp
  .have D:(fx s:Fx p)≠0:=λa=>d (uX f (rU H.pos)<|a.trans kz.symm)
   let ⟨x,hx,ex⟩:=jq H.pos (fx (aO s g p).1:Fx p);have i:(fx x:Fx p)≠0:=λa=>D (by rw[o,<-ex,a,zero_mul])
   have v:=ef H i<|b.kA H;rw[ex,<-o,cX f,<-ex,cX hx,cX b.c]at v;right;have P:(aO s g p).1.length=Z x:=by rw[u];omega
   have Q:=adn ex<|Z x-1;have T:=L<|Z x-1;have W:=hx.1<|Z x-1;rw[gX T.1 T.2,gX W.1 W.2]at Q;rw[P,<-Q];rcases hx.2 with B|B
   .exact absurd (by rw[B,kz]) i
   .exact B
 refine⟨G,m,w,?_,?_⟩
 .rw[u];have z:=k.pos;by_cases d:Z s<=Z g-1
  .omega
  .omega
 .rw[<-o,n,add_comm,lF]
def vi.step(H:br p){f g h l K o a d}{k}(m:vi p f g h l K k)(j1:1<=k) w(u:ps f=ps l*ps K+PS.K ((p:Y)^k)*w)(L:Cg p (ps o) w)
  (l1:Z a<Z g) (P:bx p a) (l2:Z d<h.length) (Q:bx p d) (T:(fx o:Fx p)=fx a*fx h+fx d*fx g):vi p f g h (me l ((p:Y)^k) a) (me K ((p:Y)^k) d) (k+1):=by
 have R:=H.hp.1
 have v:(0:Y)<(p:Y)^k:=nT G
 have n:(p:Y)∣(p:Y)^k:=by obtain⟨i,rfl⟩:∃i,k=i+1:=⟨k-1,G⟩;rw[fH];exact CK _ _
 have X:=m.Gl
 have c:=m.Kl
 have r:=afQ (p:=p) v m.Gr P.1 G
 have D:=afQ (p:=p) v m.Kr Q.1 G
 have E:=Wc ((p:Y)^k) m.Gm (b:=a) G
 have F:=Wc ((p:Y)^k) m.Km (b:=d) G
 have x:=afP l ((p:Y)^k) a G
 have s2:=afP K ((p:Y)^k) d G
 refine⟨E,by rw[J3,X],by rw[afR G n,m.Gp],λi=>by rw[fH];exact r i,F,by rw[J3,c],by rw[afR G n,m.Kp],λi=>by rw[fH];exact D i,?_⟩
 rw[fH]
 obtain⟨q,eq⟩:∃q,q=(p:Y)^k:=⟨_,J⟩
 rw[<-eq]at u x s2 n⊢
 have s:Cg p w (ps a*ps K+ps d*ps l):=by
  refine L.symm.trans ?_;have t:(fx o:Fx p)=fx a*fx K+fx d*fx l:=by rw[T,m.Kp,m.Gp]
  exact mk_eq.1<|show Fx.mk (ps o) (bp.ps p o)=Fx.mk (ps a*ps K+ps d*ps l) (((bp.ps p a).mul<|bp.ps p K).add<|(bp.ps p d).mul<|bp.ps p l)from t
 rw[x,s2]
 have t:(ps l+PS.K q*ps a)*(ps K+PS.K q*ps d)=ps l*ps K+PS.K q*(ps a*ps K+ps d*ps l)+PS.K q*(PS.K q*(ps a*ps d)):=by simp only[PS.mul_add,PS.add_mul];ac_rfl
 rw[t]
 refine Cg.Ug λi=>?_
 let ⟨z,S⟩:=s.dvd i
 let ⟨y,M⟩:=n
 rw[u,PS.eo,PS.eo,PS.eo,PS.fp,PS.fp,PS.fp,PS.fp]
 refine⟨z-y*(ps a*ps d) i,?_⟩
 generalize (ps a*ps K+ps d*ps l) i=A at*
 generalize (ps a*ps d) i=B at*
 generalize w i=W at*
 generalize (ps l*ps K) i=C at*
 have N:W=A+p*z:=G
 rw[N,Ff,oA]
 have O:q*(q*B)=q*p*(y*B):=by
  conv=>lhs;rw[eW q (q*B)]
  rw[M];ac_rfl
 rw[O,jo q (p:Y) z]
 omega
end
def arx{p}{l a}(h:l.Perm a):iS p l=iS p a:=by
 induction h with
 |nil=>rfl
 |cons x _ b=>rw[iS,iS,b]
 |swap x y l=>rw[iS,iS,iS,iS,<-mul_assoc,<-mul_assoc,mul_comm<|pk (fx y.1) _]
 |trans _ _ d h2=>rw[d,h2]
def CW.perm{p}{d}{l f}(h:CW p d l)(a:f.Perm l):CW p d f:=
 ⟨λx g=>h.parts x<|a.mem_iff.1 g,a.symm.pairwise h.ds (λb e=>b e.symm),(arx a).trans h.prod⟩
def wM{p}(H:br p){f a}(d:bx p a)(g:bx p f)(b:f≠[]):bx p (aO a f p).2/\(aO a f p).2.length<Z f/\(fx f:Fx p)∣fx (aO a f p).2-fx a:=by let ⟨d1,d2,d3,d4,d5,d6⟩:=l6 H.hp H.le d.1 g b;have h:=cR.2 b;exact⟨d5 d,G,Ov H d g b⟩
def PE{p}(H:br p) f a(n:V)(lf:Z f<=200)(i:bx p f)(d:f≠[])(L:bx p a)(Q:Z a<=200)(T:n<18446744073709551616):
  ao c 251 [S ar a,cU n,S ar f,cU p] (S ar<|iq H f<|pk (fx a) n):=by
 refine aL Tryz.func251 ?_
 have W:=H.hp.1
 have P:=H.le
 have u:bx p [1]:=⟨FD G G,by show can _;exact .inr (D:(1:Y)≠0)⟩
 let ⟨q1,X,q⟩:=wM H u i d
 let ⟨y,I,M⟩:=wM H L i d
 have s:=s6 p H.hp H.le [1] f ax G u i d
 have t:=s6 p H.hp H.le a f G G L i d
 refine e J<|R<|rl ar [1] J J (rc J J s<|z J<|bH J J t J<|j<|e J ?_)
 refine az<|bq (α:=E Y×E Y×V) (λx=>⟨[(2,S ar f),(3,cU p),(9,S ar x.1),(10,S ar x.2.1),(11,cU x.2.2)],[],5,[]⟩) (λx=>bx p x.1/\bx p x.2.1/\Z x.1<Z f/\Z x.2.1<Z f/\x.2.2<18446744073709551616/\(fx f:Fx p)∣fx x.1*pk (fx x.2.1) x.2.2-pk (fx a) n) (λx=>x.2.2) ((aO [1] f p).2,(aO a f p).2,n) ⟨q1,y,X,I,T,?_⟩ aV ?_
 .have:=oD q<|Jr M n;rwa[CB,one_mul]at this
 rintro⟨r,b,m⟩ ⟨s,t,B,lb,hm,hc⟩
 simp only at s t B lb hm hc
 have g:=VO H (a:=b) (b:=b) i d
 have N:=wm b b p
 have v:=uQ b b p G G G G t.1 t.1
 have w:=s6 p H.hp H.le (cL b b p) f G G (nk H.pos b b) i d
 refine j<|e J<|F J (λh=>?_)<|λh=>?_
 .have h:0<m:=by have h:(m:Y)>0:=aW h;omega
  refine aE<|j<|az<|j<|e J (hp:=aF)<|F J (λl=>?_)<|λl=>?_
  .have l:(m:Y).tmod 2=1:=eq_of_beq l;have O:m%2=1:=by rw[show(2:Y)=((2:V):Y)from J,mI]at l;omega
   obtain⟨k,rfl⟩:∃k,m=2*k+1:=⟨m/2,G⟩;have o:=VO H (a:=r) (b:=b) i d;have U:=wm r b p;have C:=uQ r b p G G G G s.1 t.1;have K:=s6 p H.hp H.le (cL r b p) f G G (nk H.pos r b) i d;refine cK<|rc J J C<|rc J J K<|z J<|aK ?_;refine cK<|rc J J v<|rc J J w<|z J<|bL<|rt J (hp:=aF)<|a4 (wL p f r b,wL p f b b,k) ⟨o.1,g.1,o.2.1,g.2.1,by show k<_;omega,?_⟩ (G:k<2*k+1)<|wk ⟨sR J,sR J,sR J,sR J,sE J ?_,A⟩ A
   .show fx f∣fx (wL p f r b)*pk (fx<|wL p f b b) k-pk (fx a) n;refine np (oD o.2.2<|Jr g.2.2 k) ?_;rw[uT,mul_assoc,<-zT];have cz:fx b*pk (fx b) (k+k)=(pk (fx b) (2*k+1):Fx p):=by rw[mul_comm,(G:k+k=2*k)];rfl
    rw[cz];exact hc
   .exact bP<|(Ce (2*k+1) hm).trans (G:((((2*k+1)/2:V)):Y)=(k:Y))
  .have l:(m:Y).tmod 2≠1:=nY l;have BN:m%2=0:=by rw[show(2:Y)=((2:V):Y)from J,mI]at l;omega
   obtain⟨k,rfl⟩:∃k,m=2*k:=⟨m/2,G⟩;refine aE ?_;refine cK<|rc J J v<|rc J J w<|z J<|bL<|rt J (hp:=aF)<|a4 (r,wL p f b b,k) ⟨s,g.1,B,g.2.1,by show k<_;omega,?_⟩ (G:k<2*k)<|wk ⟨sR J,sR J,sR J,sR J,sE J ?_,A⟩ A
   .show fx f∣fx r*pk (fx<|wL p f b b) k-pk (fx a) n;refine np (oD (n6 _<|fx r)<|Jr g.2.2 k) ?_;rw[uT,<-zT,(G:k+k=2*k)];exact hc
   .exact bP<|(Ce (2*k) hm).trans (G:((((2*k)/2:V)):Y)=(k:Y))
 .have h:m=0:=by have h:¬(m:Y)>0:=bc h;omega
  subst h;rw[pk,mul_one]at hc;rw[aqE H i d s B hc];exact bt<|aK<|e J<|c7 J
def yu(a b:E Y):E Y:=(cw<|max (Z a)<|Z b).map λi=>I a i 0+I b i 0
def afS a b:Z (yu a b)=max (Z a) (Z b):=by simp[yu]
def ary a b p(w:Z a<=1000)(x:Z b<=1000)(k:0<p)(B:p<=2147483648)(n:rp p a)(o:rp p b):ao c 300 [S ar a,S ar b,cU p] (S ar<|aM<|md p<|yu a b):=by
 refine aL Tryz.func300 ?_;generalize hM:max (Z a) (Z b)=M;have s:=afS a b;have d:∀i,i<M->I (yu a b) i 0=I a i 0+I b i 0:=λi t=>by unfold yu;rw[aN,iN,jV G];rfl
 have l:∀i,0<=I (yu a b) i 0:=λi=>by
  by_cases h:i<M
  .rw[d i h];have u:=n i;have h2:=o i;omega
  .rw[fh _ G];exact hY _
 rw[hM]at s;generalize yu a b=L at*;refine e J<|R<|gP ar [] J J (z J<|j<|e J ?_);refine az<|bq (α:=V) (λi=>⟨[(0,S ar a),(1,S ar b),(2,cU p),(7,.c<|.X 1000000),(8,O i)],[(1000000,.vec 150 ar<|List.take i L)],3,[]⟩) (λi=>i<=M) (λi=>M-i) 0 (bf _) aV ?_;intro i t;have C:(List.take i L).length=i:=bX;by_cases f:i<M
 .refine nX ⟨[(0,S ar a),(1,S ar b),(2,cU p),(7,.c<|.X 1000000),(8,O i)],[(1000000,.vec 150 ar<|List.take i L)],4,[]⟩ ?_ (λg=>R<|rg 14 J J (λh=>z J<|F J (λ_=>dc<|fJ g aV)<|λh2=>qJ)<|λh=>z J<|F J (λ_=>dc<|fJ g aV)<|λh2=>?_)
  .have u:=n i;have h2:=o i;refine j<|az<|cK ?_;refine rc J J (IU a i)<|rc J J (IU b i) ?_;refine rl ar [_] J J (ra J J J J J J J J J ?_ ?_<|z J ?_)
   .show(_+1+(_+1)/4+192)*8<=_;omega
   .show(_+1)*1<=_;omega
   refine bL<|rt J<|a4 (i+1) f xJ<|Wk.trans (wk (st':=⟨[(0,S ar a),(1,S ar b),(2,cU p),(7,.c<|.X 4009000),(8,O ((i+1:V):Y))],[(4009000,.vec 150 ar<|List.take (i+1) L)],8,[]⟩) (bM J) ⟨bE J ?_,A⟩)<|Wk.trans (gW 1000000 4009000 J J J) aV;refine bh (aD.vec 150 ar) ?_;rw[rR _ i G,d i f,wrap_u64 _ G G]
  .exfalso;have h:¬(i:Y)<(Z a:Y):=bc h;have h2:¬(i:Y)<(Z b:Y):=bc h2;omega
 .have m:i=M:=by omega
  subst m;have v:=xW L p G k G l;rw[iY G];refine j<|R<|rg 14 J J (λh=>?_)<|λh=>?_
  .exfalso;have h:(i:Y)<(Z a:Y):=aW h;omega
  .refine z J (F J (λh2=>?_)<|λh2=>?_)
   .exfalso;have h2:(i:Y)<(Z b:Y):=aW h2;omega
   .exact bt<|aK<|da 1000000 J J J<|bH J J v J<|c7 J
def afT f(p:V)(t:Z f<=1000)(a:0<p)(u:p<=2147483648)(l:rp p f):ao c 173 [S ar f,cU p] (S ar<|aM<|jM p f):=by
 refine aL Tryz.func173 ?_;have v:=JW p f;have b:=λi(d:i<Z f-1)=>VR p f d
 have g:=xW (jM p f) p G G G<|λi=>(JX a f i).1;rw[IW (JX a f)]at g;generalize jM p f=L at*;refine e J<|R<|gP ar [] J J (z J<|j<|e J ?_);refine az<|bq (α:=V) (λi=>⟨[(0,S ar f),(1,cU p),(5,.c<|.X 1000000),(6,O ((i+1:V):Y))],[(1000000,.vec 150 ar<|M i L)],3,[]⟩) (λi=>i<=Z f-1) (λi=>Z f-i) 0 (bf _) aV ?_;intro i d;have w:(M i L).length=i:=bX;refine j<|e J<|F J (λh=>?_)<|λh=>?_
 .have h:i+1<Z f:=by have h:((i+1:V):Y)<(Z f:Y):=aW h;omega
  have m:af (((i+1:V):Y))=i+1:=cr _;have n:=l<|i+1;refine aE<|j<|az<|cK ?_;refine rl ar [_] J J (ra J J J J J J J J J ?_ ?_<|z J ?_) (hp:=aF)
  .show(_+1+(_+1)/4+192)*8<=_;omega
  .show(_+1)*1<=_;omega
  refine bL<|rt J<|a4 (i+1) G (G:Z f-(i+1)<Z f-i)<|Wk.trans (wk (st':=⟨[(0,S ar f),(1,cU p),(5,.c<|.X 4013000),(6,O ((i+1+1:V):Y))],[(4013000,.vec 150 ar<|M (i+1) L)],8,[]⟩) (bM J) ⟨bE J ?_,A⟩)<|Wk.trans (gW 1000000 4013000 J J J) aV;refine bh (aD.vec 150 ar) ?_;have o:(aw .u64 ((i+1:V):Y)).tmod p=(((i+1)%p:V):Y):=by rw[wrap_u64 _ G G,mI]
  have x:(((i+1)%p:V):Y)<p:=by have:=fN (i+1) a;omega
  have k:0<=I f (i+1) 0*(((i+1)%p:V):Y):=jB n.1 G;have B:I f (i+1) 0*(((i+1)%p:V):Y)<=2147483648*2147483648:=xO G G G G;have s:(aw .u64<|I f (af ((i+1:V):Y)) ar.dG*(aw .u64 ((i+1:V):Y)).tmod p).tmod p=I L i 0:=by rw[o,m,b i G];show(aw .u64<|I f (i+1) 0*(((i+1)%p:V):Y)).tmod p=_;rw[wrap_u64 _ k G,lX k,eW]
  rw[s,rR _ i G]
 .have h:¬((i+1:V):Y)<(Z f:Y):=bc h;rw[iY G];exact bt<|aK<|da 1000000 J J J<|bH J J g J<|c7 J
def jW(p:V):V->V->E Y
 |0,_=>[]
 |s+1,n=>if n=0 then[]else((n%p:V):Y)::jW p s (n/p)
def PF p s:jW p s 0=[]:=by cases s<;>rfl
def Wd{p:V}(d:2<=p):∀s n,n<2^s->bx p (jW p s n)/\Z (jW p s n)<=s
 |0,n,_=>⟨rU G,aT _⟩
 |s+1,n,f=>by
  rw[jW];split
  .exact⟨rU G,bf _⟩
  .rename_i g;have a:n/p<2^s:=by have b:n/p<=n/2:=arz d D;rw[fQ]at f;omega
   let ⟨⟨i1,i2⟩,i3⟩:=Wd d s (n/p) a;refine⟨⟨λi=>?_,?_⟩,bX⟩
   .cases i with
    |zero=>
     have:=fN n (G:0<p)
     show 0<=((n%p:V):Y)/\((n%p:V):Y)<p
     omega
    |succ i=>exact i1 i
   .right;by_cases b:n/p=0
    .rw[b,PF];have:n<p:=by rwa[Nat.div_eq_zero_iff_lt G]at b
     show((n%p:V):Y)≠0;rw[oY this];omega
    .rcases i2 with i2|i2
     .exfalso;have:jW p s (n/p)≠[]:=by
       cases s with
       |zero=>exact absurd a (by rw[oC];have:=rL b;omega)
       |succ s=>rw[jW,y b];simp
      exact this i2
     .rw[iI,eE];generalize jW p s (n/p)=l at*;cases l with
      |nil=>exact absurd J i2
      |cons c l=>exact i2
def lI(p:V):E Y->V
 |[]=>0
 |a::l=>af a+p*lI p l
def afU{p:V}(k:0<p):∀(s:V)(a:E Y),Z a<=s->bx p a->jW p s (lI p a)=a
 |s,[],_,_=>PF p s
 |0,b::a,h,_=>by simp at h
 |s+1,b::a,h,hq=>by
  have n:0<=b/\b<p:=hq.1 0;have l:bx p a/\(a=[]->b≠0):=by
   refine⟨⟨λi=>hq.1<|i+1,?_⟩,λe=>?_⟩
   .rcases hq.2 with e|e
    .cases e
    .cases a with
     |nil=>exact .inl J
     |cons d a=>exact .inr e
   .subst e;rcases hq.2 with e|e
    .cases e
    .exact e
  have f:=afU k s a (by simp at h;omega) l.1;have m:lI p (b::a)%p=af b:=by rw[lI,Nat.add_mul_mod_self_left,oY G]
  have g:lI p (b::a)/p=lI p a:=by rw[lI,Nat.add_mul_div_left _ _ k,B7 G,eP]
  have o:lI p (b::a)≠0:=λe=>by rw[e,Nat.zero_div]at g;rw[e,Nat.zero_mod]at m;rw[<-g,PF]at f;exact l.2 f.symm G
  rw[jW,y o,m,g,f,vP n.1]
def afV{p:V}:∀a:E Y,(∀i,0<=I a i 0/\I a i 0<(p:Y))->lI p a<p^Z a
 |[],_=>by simp[lI]
 |b::a,h=>by
  have g:0<=b/\b<p:=h 0;have d:=afV a λi=>h<|i+1
  have f:=jk p (show lI p a+1<=p^Z a from d);rw[lI,iI,fQ,hJ<|p^_];rw[zO]at f;omega
def afW{p:V}(b:Y):∀a:E Y,lI p (a++[b])=lI p a+p^Z a*af b
 |[]=>by simp[lI]
 |d::a=>by rw[ln,lI,afW b a,lI,iI,fQ,zO];have:p*(p^Z a*af b)=p^Z a*p*af b:=fq;omega
def arA{p}{a}(b:Mon p a):p^(Z a-1)<=lI p a/\lI p a<2*p^(Z a-1):=by
 obtain⟨d,rfl⟩:∃d,a=d++[1]:=⟨a.dropLast,by
  have e:=Wa b.ne;have f:a.getLast b.ne=1:=by have:=b.one;have g:=b.pos;rw[aN,cO G]at this;rw[List.getLast_eq_getElem];exact this
  rw[f]at e;exact e.symm⟩
 have k:=afV (p:=p) d λi=>by
  by_cases h:i<Z d
  .have:=b.c.1 i;rwa[aN,DA h,<-aN]at this
  .rw[fh _ G];have:=b.c.1 0;omega
 rw[afW,iX,rA,eE];have:af (1:Y)=1:=rfl;rw[this,oW];omega
def arB(p n:V)(d:2<=p)(f:p<=2147483648)(l:n<18446744073709551616):ao c 286 [cU n,cU p] (S ar<|jW p 64 n):=by
 refine aL Tryz.func286 ?_;refine e J<|R<|gP ar [] J J (z J<|j<|e J ?_);refine az<|bq (α:=E Y×V) (λx=>⟨[(1,cU p),(5,.c<|.X 1000000),(6,cU x.2)],[(1000000,.vec 150 ar x.1)],3,[]⟩) (λx=>Z x.1<=64/\x.2<2^(64-Z x.1)/\jW p 64 n=x.1++jW p (64-Z x.1) x.2) (λx=>x.2) ([],n) ⟨bf _,l,J⟩ aV ?_;rintro⟨o,m⟩ ⟨s,h2,a⟩;simp only at s h2 a;have u:m<18446744073709551616:=fO h2<|eZ (n:=2) D (G:64-Z o<=64);refine j<|e J<|F J (λh=>?_)<|λh=>?_
 .have h:0<m:=by have h:(m:Y)>0:=aW h;omega
  have v:Z o<64:=by
   rcases pN (Z o) 64 with g|g
   .exact g
   .rw[(G:64-Z o=0)]at h2;omega
  obtain⟨k,i⟩:∃k,64-Z o=k+1:=⟨63-Z o,G⟩;have b:m/p<m:=Nat.div_lt_self h d;refine aE<|j<|az<|cK ?_;refine rl ar [_] J J (ra J J J J J J J J J ?_ ?_<|z J ?_) (hp:=aF)
  .show(Z o+1+(Z o+1)/4+192)*8<=_;omega
  .show(Z o+1)*1<=_;omega
  refine bL<|rt J (a4 (o++[((m%p:V):Y)],m/p) ⟨bX,?_,?_⟩ b<|Wk.trans (wk (st':=⟨[(1,cU p),(5,.c<|.X 4005000),(6,cU ((m/p:V):Y))],[(4005000,.vec 150 ar<|o++[((m%p:V):Y)])],8,[]⟩) ⟨sR J,sR J,sE J ?_,A⟩ ⟨bE J ?_,A⟩)<|Wk.trans (gW 1000000 4005000 J J J) aV) (hp:=aF)
  .simp only[iX,rA];rw[i,fQ]at h2;rw[(G:64-(Z o+1)=k)];have w:m/p<=m/2:=arz d D;omega
  .simp only[iX,rA];rw[a,i,jW,y G,(G:64-(Z o+1)=k),lP];rfl
  .refine bP (show aw .u64 ((m:Y).tdiv p)=((m/p:V):Y)from ?_);have t:(0:Y)<=((m/p:V):Y):=qP _;rw[<-Int.ofNat_tdiv,wrap_u64 _ t G]
  .show aD.vec 150 ar (o++[(m:Y).tmod p])=_;rw[mI]
 .have h:m=0:=by have h:¬(m:Y)>0:=bc h;omega
  subst h;rw[PF,ik]at a;rw[a];exact bt<|aK<|da 1000000 J J J<|e J<|c7 J
section
variable{p:V}(H:br p)
noncomputable def pE(f:E Y):V->E Y×E Y->E Y×E Y
 |0,x=>x
 |k+1,x=>let a:=pE f k x;let w:=iq H f<|pk (fx a.2) 2;(aM<|md p<|yu a.1 w,w)
noncomputable def jN(f:E Y):V->E Y×E Y->E Y×E Y
 |0,x=>x
 |k+1,x=>let a:=jN f k x;let w:=iq H f<|pk (fx a.2) p;(wL p f a.1 w,w)
noncomputable def Av(t f:E Y)(d:V):E Y:=
 let r:=(aO t f p).2
 if p=2 then(pE H f (d-1) (r,r)).1 else aM (gh (iq H f<|pk (fx (jN H f (d-1) (r,r)).1)<|(p-1)/2) [1] p)
variable{f:E Y}(hf:bx p f)(jE:f≠[])
include hf jE
def We{x:E Y×E Y}(a:bx p x.1)(b:bx p x.2)(d:Z x.1<Z f)(g:Z x.2<Z f):∀k,bx p (pE H f k x).1/\bx p (pE H f k x).2/\(pE H f k x).1.length<Z f/\(pE H f k x).2.length<Z f
 |0=>⟨a,b,d,g⟩
 |k+1=>by let ⟨i1,i2,i3,i4⟩:=We a b d g k;let ⟨m1,h,_⟩:=yo H hf jE<|pk (fx (pE H f k x).2) 2;have i:=pa<|md p<|yu (pE H f k x).1<|iq H f<|pk (fx (pE H f k x).2) 2;rw[xV,afS]at i;exact⟨kZ H.pos<|Ck H.pos _,m1,by show Z (aM _)<_;omega,h⟩
def arC{x:E Y×E Y}(d:bx p x.1)(g:bx p x.2)(h:Z x.1<Z f)(i:Z x.2<Z f):∀k,bx p (jN H f k x).1/\bx p (jN H f k x).2/\(jN H f k x).1.length<Z f/\(jN H f k x).2.length<Z f
 |0=>⟨d,g,h,i⟩
 |k+1=>by let ⟨m1,l,_⟩:=yo H hf jE<|pk (fx (jN H f k x).2) p;let ⟨m,n,_⟩:=VO H (a:=(jN H f k x).1) (b:=iq H f<|pk (fx (jN H f k x).2) p) hf jE;exact⟨m,m1,n,l⟩
def afX{t:E Y}(g:bx p t)(d:V):bx p (Av H t f d)/\Z (Av H t f d)<=Z f:=by
 let ⟨r1,a,_⟩:=wM H g hf jE;unfold Av;split
 .let ⟨i1,_,i3,_⟩:=We H hf jE (x:=((aO t f p).2,(aO t f p).2)) r1 r1 a a<|d-1;exact⟨i1,BZ i3⟩
 .have b:=pa<|gh (iq H f<|pk (fx (jN H f (d-1) ((aO t f p).2,(aO t f p).2)).1)<|(p-1)/2) [1] p;have h:=(yo H hf jE<|pk (fx (jN H f (d-1) ((aO t f p).2,(aO t f p).2)).1)<|(p-1)/2).2.1;rw[NU,rA]at b;exact⟨kZ H.pos<|Cm H.pos _ _,b6 b G⟩
def arD{t:E Y}(w:bx p t)(lt:Z t<=200)(m:Z f<=200)(d:V)(d1:1<=d)(d2:d<=1000):ao c 287 [S ar t,O d,S ar f,cU p] (S ar<|Av H t f d):=by
 refine aL Tryz.func287 ?_;have L:=H.hp.1;have B:=H.le;have P:=cR.2 jE;let ⟨r1,l,_⟩:=wM H w hf jE;have C:=s6 p H.hp H.le t f G G w hf jE;obtain⟨k,rfl⟩:∃k,d=k+1:=⟨d-1,G⟩;unfold Av;rw[eE];have Q:=λk=>We H hf jE (x:=((aO t f p).2,(aO t f p).2)) r1 r1 l l k
 have T:=λk=>arC H hf jE (x:=((aO t f p).2,(aO t f p).2)) r1 r1 l l k
 generalize (aO t f p).2=r at*;refine e J<|j<|e J<|F J (λh=>?_)<|λh=>aE ?_
 .have h:(p:Y)=2:=eq_of_beq h;rw[q G];refine bH J J C J<|e J<|j<|e J ?_;refine az<|bq (α:=V) (λi=>⟨[(1,O ((k+1:V):Y)),(2,S ar f),(3,cU p),(9,S ar (pE H f i (r,r)).1),(10,S ar (pE H f i (r,r)).2),(11,O ((i+1:V):Y))],[],6,[]⟩) (λi=>i<=k) (λi=>k-i) 0 (bf _) aV ?_;intro i W;let ⟨b,g,X,A⟩:=Q i;refine j (e J<|F J (λh=>?_)<|λh=>?_)
  .have h:((i+1:V):Y)<((k+1:V):Y):=aW h;have a:=PE H f (pE H f i (r,r)).2 2 m hf jE g G D;let ⟨m1,K,_⟩:=yo H hf jE<|pk (fx (pE H f i (r,r)).2) 2;have n:=ary (pE H f i (r,r)).1 (iq H f<|pk (fx (pE H f i (r,r)).2) 2) p G G H.pos G b.1 m1.1;refine aE<|j<|az<|bH J J a J<|cK<|rc J J n<|z J<|bL<|rt J (hp:=aF)<|a4 (i+1) G Ox aV
  .have h:¬((i+1:V):Y)<((k+1:V):Y):=bc h;have o:i=k:=G;subst o;exact bt<|aK<|e J<|bV<|cQ<|atR J
 .have h:(p:Y)≠2:=nY h;rw[y G];refine bH J J C J<|e J<|j<|e J ?_;refine az<|bq (α:=V) (λi=>⟨[(1,O ((k+1:V):Y)),(2,S ar f),(3,cU p),(12,S ar (jN H f i (r,r)).1),(13,S ar (jN H f i (r,r)).2),(14,O ((i+1:V):Y))],[],6,[]⟩) (λi=>i<=k) (λi=>k-i) 0 (bf _) aV ?_;intro i W;let ⟨b,g,X,A⟩:=T i;refine j (e J<|F J (λh=>?_)<|λh=>?_)
  .have h:((i+1:V):Y)<((k+1:V):Y):=aW h;have a:=PE H f (jN H f i (r,r)).2 p m hf jE g G G;let ⟨m1,K,_⟩:=yo H hf jE<|pk (fx (jN H f i (r,r)).2) p;have s:=uQ (jN H f i (r,r)).1 (iq H f<|pk (fx (jN H f i (r,r)).2) p) p G G G G b.1 m1.1;have I:=wm (jN H f i (r,r)).1 (iq H f<|pk (fx (jN H f i (r,r)).2) p) p;have u:=s6 p H.hp H.le (cL (jN H f i (r,r)).1 (iq H f<|pk (fx (jN H f i (r,r)).2) p) p) f G G (nk H.pos _ _) hf jE;refine aE<|j<|az<|bH J J a J<|cK<|rc J J s<|rc J J u<|z J<|bL<|rt J (hp:=aF)<|a4 (i+1) G Ox aV
  .have h:¬((i+1:V):Y)<((k+1:V):Y):=bc h;have o:i=k:=G;subst o;have g:aw .u64 ((aw .u64<|(p:Y)-1).tdiv 2)=(((p-1)/2:V):Y):=by have b:aw .u64 ((p:Y)-1)=(p:Y)-1:=wrap_u64 _ G G;rw[b,(G:(p:Y)-1=((p-1:V):Y))];exact Ce (p-1) G
   have a:ao c 251 [S ar (jN H f i (r,r)).1,cU<|aw .u64<|(aw .u64<|(p:Y)-1).tdiv 2,S ar f,cU p] (S ar<|iq H f<|pk (fx (jN H f i (r,r)).1)<|(p-1)/2):=by rw[g];exact PE H f _ _ m hf jE b G G
   let ⟨m1,K,_⟩:=yo H hf jE<|pk (fx (jN H f i (r,r)).1)<|(p-1)/2;have v:=IX (iq H f<|pk (fx (jN H f i (r,r)).1)<|(p-1)/2) [1] p G ax G G m1.1 (FD G G);refine bt<|aK ?_;exact R<|rc J J a<|rl ar [1] J J (rc J J v<|z J<|c7 J)
end
section
variable{p:V}(H:br p)
noncomputable def gE(f:E Y)(d n:V):E Y:=
 let g:=gk p f (aO (jW p 64 n) f p).2
 if Z g=1\/Z g=Z f then gk p f (Av H (jW p 64 n) f d)else g
variable{f:E Y}{d:V}
def afY(a:Mon p f){n:V}(b:n<18446744073709551616):Mon p (gE H f d n)/\(fx (gE H f d n):Fx p)∣fx f:=by
 let ⟨t1,t2⟩:=Wd H.hp.1 64 n b;let ⟨r1,k,_⟩:=wM H t1 a.c a.ne;let ⟨m1,g,_⟩:=Aa H a.c r1 a.ne;let ⟨h,i,_⟩:=Aa H a.c (afX H a.c a.ne t1 d).1 a.ne;unfold gE;dsimp only;split
 .exact⟨h,i⟩
 .exact⟨m1,g⟩
def arE(h:se p f d)(m:1<=d)(L:2*p^d<=18446744073709551616)(P:d+1<Z f):∃n,(p<=n/\n<18446744073709551616/\1<Z (gE H f d n)/\Z (gE H f d n)<Z f)/\∀k,k<n->¬(p<=k/\k<18446744073709551616/\1<Z (gE H f d k)/\Z (gE H f d k)<Z f):=by
 refine V' ?_;let ⟨a,q1,K,o,s⟩:=h.ex H G;let ⟨v1,v2⟩:=arA q1;rw[s,eE]at v1 v2;have b:=H.hp.1;have t:p<=p^d:=by have:=eZ (G:0<p) m;rwa[Nat.pow_one]at this
 have l:d<64:=by
  have Q:2^d<=p^d:=z7 b d;rcases pN d 64 with e|e
  .exact e
  .have T:2^64<=2^d:=eZ D e;omega
 have g:=afU (p:=p) G 64 a G q1.c;have i:(aO a f p).2=a:=by unfold aO;rw[q G]
 let ⟨m1,W,u,U,V,v⟩:=Aa H h.aH.c q1.c h.aH.ne;have w:Z (gk p f a)=d+1:=by
  have x:(fx a:Fx p)∣fx (gk p f a):=by rw[v];exact dvd_add (dQ o U)<|dvd_mul_left _ _
  have B:=jK H x<|m1.kA H;have C:=jK H u<|q1.kA H;rw[cX m1.c,cX q1.c]at B C;omega
 have e:gE H f d (lI p a)=gk p f a:=by unfold gE;rw[g,i,y G]
 exact⟨lI p a,G,G,by rw[e];omega,by rw[e];omega⟩
include H in
def Wf(v:1<=d)(W:d<=1000)(hd:2*p^d<=18446744073709551616):∀(T:V)(f:E Y),Z f<T->Z f<=200->se p f d->2<=Z f->∃l,vf p f l/\Z l+1<=Z f/\oz c 253 [S ar f,O d,cU p] 167 (.sl ar) l
 |0,_,h,_,_,_=>by omega
 |T+1,f,hN,lf,h,h2=>by
  have w:=H.hp.1;have x:=H.le;by_cases X:Z f<=d+1
  .refine⟨[f],⟨λg r=>?_,by rw[iu,iu,mul_one]⟩,bX,?_⟩
   .have m:=iw.1 r;subst m;exact⟨h.aH,h2,h.gH H h2 X v⟩
   .refine Ic Tryz.func253 J J J J D ?_;refine e J (j<|e J<|F J (λh=>?_)<|λh=>?_)
    .exact R<|gP (.sl ar) [f] J J (z J<|bV<|cQ<|Ib (id:=2001000) cv J J)
    .exfalso;have h:¬(Z f:Y)-1<=(d:Y):=bc h;omega
  .let ⟨n0,⟨n1,n2,n3,n4⟩,B⟩:=arE H h v hd G;let ⟨U,g2⟩:=afY H (d:=d) h.aH n2;let ⟨a1,a2⟩:=h.parts H U g2;let ⟨q1,q2,q3,q4⟩:=tm H h.aH U g2;let ⟨l1,o1,m1,k1⟩:=Wf v W hd T _ G G a1 G;let ⟨l2,o2,m2,k2⟩:=Wf v W hd T _ G G a2 G;refine⟨l1++l2,o1.app o2 q2,by rw[iX];omega,?_⟩;refine Ic Tryz.func253 J J J J D ?_;refine e J (j<|e J<|F J (λI=>?_)<|λI=>aE ?_)
   .exfalso;have I:(Z f:Y)-1<=(d:Y):=aW I;omega
   refine e J<|az<|bq (α:=V) (λn=>⟨[(0,S ar f),(1,O d),(2,cU p),(7,cU n)],[],4,[]⟩) (λn=>p<=n/\n<=n0) (λn=>n0-n) p ⟨aT _,n1⟩ aV ?_;rintro n ⟨b1,b2⟩;let ⟨t1,t2⟩:=Wd w 64 n (by omega:n<18446744073709551616);let ⟨r1,r2,_⟩:=wM H t1 h.aH.c h.aH.ne;have C:=arB p n w x G;have K:=s6 p H.hp H.le (jW p 64 n) f G G t1 h.aH.c h.aH.ne;have L:=FE p H.hp H.le f (aO (jW p 64 n) f p).2 G G h.aH.c r1;let ⟨s1,s2⟩:=afX H h.aH.c h.aH.ne t1 d;have i:=arD H h.aH.c h.aH.ne t1 G lf d v W;have b:=FE p H.hp H.le f (Av H (jW p 64 n) f d) G G h.aH.c s1;have t:gE H f d n=if Z (gk p f (aO (jW p 64 n) f p).2)=1\/Z (gk p f (aO (jW p 64 n) f p).2)=Z f then gk p f (Av H (jW p 64 n) f d)else gk p f (aO (jW p 64 n) f p).2:=rfl
   generalize gk p f (aO (jW p 64 n) f p).2=g at*;refine j<|az<|bH J J C J<|R<|rc J J K<|rc J J L<|z J ?_;refine nX ⟨[(0,S ar f),(1,O d),(2,cU p),(7,cU n),(9,S ar<|gE H f d n)],[],9,[]⟩ ?_<|λo=>R<|rg 33 J J (λP=>?_)<|λP=>?_
   .let ⟨c1,c2⟩:=afY H (d:=d) h.aH (G:n<18446744073709551616);have cl:=(tm H h.aH c1 c2).2.2.2;have next:¬(1<Z (gE H f d n)/\Z (gE H f d n)<Z f)->n+1<=n0:=λs=>by
     rcases pN n n0 with m|m
     .exact m
     .have M:n=n0:=by omega
      rw[M]at s;exact absurd ⟨n3,n4⟩ s
    have yes:1<Z (gE H f d n)/\Z (gE H f d n)<Z f->n=n0:=λs=>by
     rcases pN n n0 with m|m
     .exact absurd ⟨b1,G,s.1,s.2⟩<|B n m
     .omega
    generalize r:gE H f d n=u at*;refine R<|rg 51 J J (λa=>z J<|F J (λk=>?_)<|λk=>dc<|bL ?_)<|λa=>z J<|F J (λk=>by cases k)<|λk=>dc<|bL ?_
    .have a:(Z u:Y)>1:=aW a;have k:(Z u:Y)<(Z f:Y):=aW k;have M:=yes ⟨G,G⟩;subst M;rw[r]at k1 k2;have Q:=zQ p H.hp H.le f u G G h.aH.c c1.c c1.ne;rw[wj (UU H h.aH c1 cl).c.2]at Q;refine R (BT J J k1<|rc J J Q<|rc J J k2.fs<|ra J J J J J J J J J ?_ ?_<|z J<|bV<|lQ<|cQ<|mq<|lQ<|Ib (id:=10012000) cv J J)
     .show(_+_+(_+_)/4+192)*24<=_;omega
     .show(_+_)*1<=_;omega
    .have a:(Z u:Y)>1:=aW a;have k:¬(Z u:Y)<(Z f:Y):=bc k;refine rt J (hp:=aF)<|a4 (n+1) ⟨G,next λs=>G⟩ (G:n0-(n+1)<n0-n)<|wk ⟨sR J,sR J,sR J,sE J ?_,A⟩ A;exact bP<|wrap_u64 _ G G
    .have a:¬(Z u:Y)>1:=bc a;refine rt J (hp:=aF)<|a4 (n+1) ⟨G,next λs=>G⟩ (G:n0-(n+1)<n0-n)<|wk ⟨sR J,sR J,sR J,sE J ?_,A⟩ A;exact bP<|wrap_u64 _ G G
   .have P:(Z g:Y)=1:=eq_of_beq P;rw[q G]at t;refine z J<|F J (λ_=>cK<|rc J J i<|rc J J b<|z J<|fJ o<|wk ⟨sR J,sR J,sR J,sR J,sE J ?_,A⟩ A)<|λh=>fR;rw[t]
   .have P:(Z g:Y)≠1:=nY P;refine z J (F J (λa=>?_)<|λa=>?_)
    .have a:(Z g:Y)=(Z f:Y):=eq_of_beq a;rw[q G]at t;refine cK<|rc J J i<|rc J J b<|z J<|fJ o<|wk ⟨sR J,sR J,sR J,sR J,sE J ?_,A⟩ A;rw[t]
    .have a:(Z g:Y)≠(Z f:Y):=nY a;rw[y G]at t;refine dc<|fJ o<|wk ⟨sR J,sR J,sR J,sR J,sE J ?_,A⟩ A;rw[t]
end
section
variable{p:V}(H:br p)
open Classical in
noncomputable def pG(p:V)(f:E Y)(d:V):E (E Y):=if h:∃l,vf p f l/\Z l+1<=Z f/\oz c 253 [S ar f,O d,cU p] 167 (.sl ar) l then yb h else[]
include H in
def afZ{f:E Y}{d:V}(b:1<=d)(g:d<=1000)(i:2*p^d<=18446744073709551616)(k:Z f<=200)(h:se p f d)(l:2<=Z f):vf p f (pG p f d)/\Z (pG p f d)+1<=Z f/\oz c 253 [S ar f,O d,cU p] 167 (.sl ar) (pG p f d):=by have a:=Wf H b g i _ f (dJ _) k h l;unfold pG;rw[dif_pos a];exact wu a
structure mU where
 f:E Y
 h:E Y
 d:V
 o:E (E Y)
noncomputable def mU.w(x:mU):E Y:=iq H x.f<|pk (fx x.h) p
noncomputable def mU.g(x:mU):E Y:=gk p x.f<|aM<|gh (x.w H) [0,1] p
noncomputable def mU.q(x:mU):E Y:=(aO x.f (x.g H) p).1
noncomputable def mU.next(x:mU):mU:=
 if 1<(x.g H).length then⟨x.q H,if 1<Z (x.q H)then(aO (x.w H) (x.q H) p).2 else x.w H,x.d+1,x.o++pG p (x.g H) x.d⟩else⟨x.f,x.w H,x.d+1,x.o⟩
noncomputable def yv:V->mU->E (E Y)
 |0,x=>x.o
 |a+1,x=>if Z x.f<=1 then x.o else if Z x.f<=2*x.d then x.o++[x.f]else yv a (x.next H)
structure oh(p:V)(a:E Y)(x:mU):Prop where
 dg:C0 p x.f x.d
 d1:1<=x.d
 hc:bx p x.h
 hl:x.h.length<=200
 hx:(fx x.f:Fx p)∣fx x.h-pk X (p^(x.d-1))
 pt:∀g∈x.o,Mon p g/\2<=g.length/\bu (fx g:Fx p)
 pr:(fx a:Fx p)=iu p x.o*fx x.f
 fl:x.f.length<=a.length
 F2:a.length<=200
 Fm:Mon p a
def af0(H:br p):bx p [0,1]:=⟨λi=>match i with
  |0=>⟨hY _,H.pos⟩
  |1=>by have:=H.hp.1;show 0<=(1:Y)/\(1:Y)<p;omega
  |i+2=>⟨hY _,H.pos⟩,.inr (D:(1:Y)≠0)⟩
def af1:(fx [0,1]:Fx p)=X:=by rw[Js,nj,zero_add,CB,mul_one]
include H in
def oh.start{a:E Y}(d:Mon p a)(f:qR (fx a:Fx p))(b:Z a<=200):oh p a ⟨a,[0,1],1,[]⟩ where
 dg:=⟨d,f,λQ h _=>h.1⟩
 d1:=aT _
 hc:=af0 H
 hl:=ax
 hx:=by rw[af1,kg,oC,rW];exact n6 _ _
 pt:=λg i=>by cases i
 pr:=by rw[iu,one_mul]
 fl:=aT _
 F2:=b
 Fm:=d
variable{F:E Y}{x:mU}
include H in
def oh.ol(a:oh p F x):Z x.o+Z x.f<=Z F:=by
 let ⟨d,h2⟩:=VP H (l:=x.o) λg b=>⟨(a.pt g b).1,(a.pt g b).2.1⟩
 have:=ef H d<|a.dg.aH.kA H;rw[<-a.pr,cX a.Fm.c,cX a.dg.aH.c]at this;omega
def oh.w(a:oh p F x):bx p (x.w H)/\(x.w H).length<Z x.f/\(fx x.f:Fx p)∣fx (x.w H)-pk X (p^x.d):=by let ⟨m1,g,i⟩:=yo H a.dg.aH.c a.dg.aH.ne<|pk (fx x.h) p;refine⟨m1,g,np i ?_⟩;have h:=Jr a.hx p;obtain⟨k,b⟩:∃k,x.d=k+1:=⟨x.d-1,by have:=a.d1;omega⟩;rw[<-uS,b,eE,<-fQ]at h;rw[b];exact h
def oh.g(a:oh p F x):se p (x.g H) x.d/\C0 p (x.q H) (x.d+1)/\(fx (x.g H):Fx p)∣fx x.f:=by let ⟨h,i,b⟩:=a.w H;refine a.dg.step H a.d1 (kZ H.pos<|Cm H.pos _ _) b ?_;rw[UQ,af1]
def oh.next(a:oh p F x)(hl:¬Z x.f<=2*x.d)(l:2*p^x.d<=18446744073709551616):oh p F (x.next H)/\(x.next H).d=x.d+1:=by
 obtain⟨h,j,u⟩:=a.w H;obtain⟨i,b,K⟩:=a.g H;have v:=a.F2;have r:=a.fl;obtain⟨q1,q2,L,y⟩:=tm H a.dg.aH i.aH K;have z:=i.aH.pos;unfold mU.next;split
 .rename_i B;obtain⟨C,A,D⟩:=afZ H a.d1 G l G i B;have m:(fx F:Fx p)=iu p (x.o++pG p (x.g H) x.d)*fx (x.q H):=by rw[JV,C.prod,a.pr,q2,mul_assoc,mul_comm<|fx<|x.g H];rfl
  have n:∀g∈x.o++pG p (x.g H) x.d,Mon p g/\2<=Z g/\bu (fx g:Fx p):=λg P=>(be.1 P).elim (a.pt g)<|C.parts g
  have T:Z (x.q H)+(x.g H).length=Z x.f+1:=L;have k:(fx (x.q H):Fx p)∣fx (x.w H)-pk X (p^x.d):=dvd_trans Ps u;refine⟨⟨b,PG<|bf _,?_,?_,?_,n,m,by show Z (x.q H)<=_;omega,v,a.Fm⟩,J⟩
  .dsimp only;split
   .exact(wM H h b.aH.c b.aH.ne).1
   .exact h
  .dsimp only;split
   .have:=(wM H h b.aH.c b.aH.ne).2.1;omega
   .omega
  .dsimp only;rw[eE];split
   .exact np (wM H h b.aH.c b.aH.ne).2.2 k
   .exact k
 .rename_i B;have s:(x.g H).length=1:=G;have W:sz (fx (x.g H):Fx p)=1:=by rw[cX i.aH.c,s]
  refine⟨⟨⟨a.dg.aH,a.dg.lG,λQ t l=>b.low Q t ?_⟩,PG<|bf _,h,by show(x.w H).length<=_;omega,?_,a.pt,a.pr,a.fl,v,a.Fm⟩,J⟩
  .rw[show(fx x.f:Fx p)=fx (x.q H)*fx (x.g H)from q2]at l;rcases t.oE H l with e|e
   .exact e
   .have:=jK H e<|i.aH.kA H;have:=t.1;omega
  .show(fx x.f:Fx p)∣fx (x.w H)-pk X (p^(x.d+1-1));rw[eE];exact u
def af2(m:∀d,2*d<Z F->2*p^d<=18446744073709551616):∀(h:V)(x:mU),oh p F x->Z x.f<x.d+h->vf p F (yv H h x)
 |h,x,a,P=>by
  have b:Z x.f<=1->vf p F x.o:=λi=>by
   refine⟨a.pt,?_⟩;have n:=a.dg.aH;have k:=n.one;have t:=n.pos;have u:(fx x.f:Fx p)=1:=by
    rw[<-CB];congr 1;generalize x.f=v at*;match v,i,t,k with
    |[c],_,_,k=>rw[show c=1 from k]
   rw[a.pr,u,mul_one]
  cases h with
  |zero=>
   refine b<|fc λi=>?_
   let ⟨Q,q1,s⟩:=s' H _ (fx x.f:Fx p) (dJ _) (by rw[cX a.dg.aH.c];omega)
   have T:=a.dg.low Q q1 s
   have w:=jK H s<|a.dg.aH.kA H
   rw[cX a.dg.aH.c]at w
   omega
  |succ h=>
   rw[yv]
   split
   .rename_i i;exact b i
   .rename_i i;split
    .rename_i l;refine⟨λg B=>?_,?_⟩
     .rcases be.1 B with e|e
      .exact a.pt g e
      .rw[iw.1 e];exact⟨a.dg.aH,G,a.dg.gH H G l⟩
     .rw[JV,a.pr];show _*(_*_)=_;rw[iu,mul_one]
    .rename_i l;have W:=a.fl;let ⟨C,X⟩:=a.next H l<|m _ G;refine af2 m h _ C ?_;have j:(x.next H).f.length<=Z x.f:=by
      unfold mU.next;split
      .let ⟨K,_,L⟩:=a.g H;have:Z (x.q H)+(x.g H).length=Z x.f+1:=(tm H a.dg.aH K.aH L).2.2.1;show Z (x.q H)<=_;omega
      .exact aT _
     omega
include H in
def oh.dlt(a:oh p F x)(h:1<Z x.f):x.d<Z x.f:=by let ⟨Q,q1,b⟩:=s' H _ (fx x.f:Fx p) (dJ _) (by rw[cX a.dg.aH.c];omega);have i:=a.dg.low Q q1 b;have g:=jK H b<|a.dg.aH.kA H;rw[cX a.dg.aH.c]at g;omega
def arG(hF:Mon p F)(hs:qR (fx F:Fx p))(n:Z F<=200)(L:∀d,2*d<Z F->2*p^d<=18446744073709551616):ao c 205 [S ar F,cU p] (S (.sl ar)<|yv H (Z F) ⟨F,[0,1],1,[]⟩):=by
 refine aL Tryz.func205 ?_;have BX:=H.hp.1;have D:=H.le;have I0:=oh.start H hF hs n;generalize hR:yv H (Z F) ⟨F,[0,1],1,[]⟩=E at*;refine e J<|R<|gP (.sl ar) [] J J (z J<|R<|rl ar [0,1] J J (z J<|e J<|j<|e J ?_));refine az<|bq (α:=V×mU) (λi=>⟨[(0,S ar i.2.f),(1,cU p),(5,.c<|.X 1000000),(6,S ar [0,1]),(7,S ar i.2.h),(8,O i.2.d)],[(1000000,.vec 167 (.sl ar) i.2.o)],5,[]⟩) (λi=>oh p F i.2/\Z i.2.f<i.2.d+i.1/\yv H i.1 i.2=E) (λi=>i.1) (Z F,⟨F,[0,1],1,[]⟩) ⟨I0,(G:Z F<1+Z F),hR⟩ aV ?_;rintro⟨N,x⟩ ⟨I,hN,a⟩;simp only at I hN a;have ol:=I.ol H;have d1:=I.d1;have fl:=I.fl;refine j<|e J<|K0 J (λh=>?_)<|λh=>?_
 .have h:1<Z x.f:=by have h:(Z x.f:Y)>1:=aW h;omega
  have hdl:=I.dlt H h;obtain⟨M,rfl⟩:∃M,N=M+1:=⟨N-1,G⟩;rw[yv,y G]at a;refine aE<|j<|az<|j<|e J (hp:=aF)<|K0 J (λs=>?_)<|λs=>dc<|aK ?_
  .have s:2*(x.d:Y)>=(Z x.f:Y):=aW s;rw[q G]at a;refine R (rl (.sl ar) [x.f] J J (ra J J J J J J J J J ?_ ?_<|z J<|da 7003000 J J J<|bV ?_))
   .show(Z x.o+1+(Z x.o+1)/4+192)*24<=_;omega
   .show(Z x.o+1)*1<=_;omega
   repeat(first|refine cQ ?_|refine lQ ?_|refine mq ?_)
   rw[<-a];exact fg J J
  .have s:¬2*(x.d:Y)>=(Z x.f:Y):=bc s;rw[y G]at a;have L:=L x.d G;let ⟨U,w2,w3⟩:=I.w H;let ⟨K,g2,g3⟩:=I.g H;let ⟨k,n2⟩:=I.next H G L;let ⟨q1,q2,q3,q4⟩:=tm H I.dg.aH K.aH g3;have b:(x.next H).f.length<(x.next H).d+M:=by
    rw[n2];have hq:(x.next H).f.length<=Z x.f:=by
     unfold mU.next;split
     .have:Z (x.q H)+(x.g H).length=Z x.f+1:=q3;show Z (x.q H)<=_;omega
     .exact aT _
    omega
   have t:=PE H x.f x.h p G I.dg.aH.c I.dg.aH.ne I.hc I.hl G;have P:=IX (x.w H) [0,1] p G ax G G U.1 (af0 H).1;have u:=pa<|gh (x.w H) [0,1] p;rw[NU]at u;have v:=FE p H.hp H.le x.f (aM<|gh (x.w H) [0,1] p) G (by simp at u;omega) I.dg.aH.c<|kZ H.pos<|Cm H.pos _ _;have l:=zQ p H.hp H.le x.f (x.g H) G G I.dg.aH.c K.aH.c K.aH.ne;rw[wj q1.c.2]at l;have Q:iq H x.f (pk (fx x.h) p)=x.w H:=rfl;have T:gk p x.f (aM<|gh (x.w H) [0,1] p)=x.g H:=rfl;have W:(aO x.f (x.g H) p).1=x.q H:=rfl;rw[Q]at t;rw[T]at v;rw[W]at l q3;refine bH J J t J<|R<|rc J J P<|rc J J v<|z J<|e J<|K0 J (λB=>?_)<|λB=>?_
   .have B:((x.g H).length:Y)>1:=aW B;let ⟨e1,e2,e3⟩:=afZ H d1 G L G K G;have m:x.next H=⟨x.q H,if 1<Z (x.q H)then(aO (x.w H) (x.q H) p).2 else x.w H,x.d+1,x.o++pG p (x.g H) x.d⟩:=by unfold mU.next;rw[q G]
    rw[m]at a k b;refine R<|rc J J e3.fs<|ra J J J J J J J J J ?_ ?_<|z J<|bH J J l J<|e J<|K0 J (λC=>?_)<|λC=>?_
    .show(Z x.o+Z (pG p (x.g H) x.d)+(Z x.o+Z (pG p (x.g H) x.d))/4+192)*24<=_;omega
    .show(Z x.o+Z (pG p (x.g H) x.d))*1<=_;omega
    .have C:(Z (x.q H):Y)>1:=aW C;rw[q G]at a k b;have r:=s6 p H.hp H.le (x.w H) (x.q H) G G U g2.aH.c g2.aH.ne;refine cK<|rc J J r<|z J<|fB<|aK<|rt J (hp:=aF)<|a4 (M,⟨x.q H,(aO (x.w H) (x.q H) p).2,x.d+1,x.o++pG p (x.g H) x.d⟩) ⟨k,b,a⟩ (dJ M)<|Wk.trans (wk (st':=⟨[(0,S ar<|x.q H),(1,cU p),(5,.c<|.X 10005000),(6,S ar [0,1]),(7,S ar (aO (x.w H) (x.q H) p).2),(8,O ((x.d+1:V):Y))],[(10005000,.vec 167 (.sl ar)<|x.o++pG p (x.g H) x.d)],16,[]⟩) (bM J) ⟨bR J,A⟩)<|Wk.trans (gW 1000000 10005000 J J J) aV
    .have C:¬(Z (x.q H):Y)>1:=bc C;rw[y G]at a k b;refine dc<|fB<|aK<|rt J (hp:=aF)<|a4 (M,⟨x.q H,x.w H,x.d+1,x.o++pG p (x.g H) x.d⟩) ⟨k,b,a⟩ (dJ M)<|Wk.trans (wk (st':=⟨[(0,S ar<|x.q H),(1,cU p),(5,.c<|.X 10005000),(6,S ar [0,1]),(7,S ar<|x.w H),(8,O ((x.d+1:V):Y))],[(10005000,.vec 167 (.sl ar)<|x.o++pG p (x.g H) x.d)],16,[]⟩) (bM J) ⟨bR J,A⟩)<|Wk.trans (gW 1000000 10005000 J J J) aV
   .have B:¬((x.g H).length:Y)>1:=bc B;have m:x.next H=⟨x.f,x.w H,x.d+1,x.o⟩:=by unfold mU.next;rw[y G]
    rw[m]at a k b;exact dc<|bL<|rt J (hp:=aF)<|a4 (M,⟨x.f,x.w H,x.d+1,x.o⟩) ⟨k,b,a⟩ (dJ M) aV
 .have h:¬(Z x.f:Y)>1:=bc h;have a:x.o=E:=by
   cases N with
   |zero=>exact a
   |succ N=>rwa[yv,q G]at a
  refine bt<|aK<|da 1000000 J J J<|e J<|bV ?_;rw[<-a];exact fg J J
end
def arH(a b:E Y)(l:Z a<=1000)(m:Z b<=1000):ao c 254 [S ar a,S ar b] (cB<|decide<|sd a b<0):=by
 refine aL Tryz.func254 ?_;refine e J<|dj<|e J<|F J (λh=>?_)<|λh=>aE ?_
 .have h:=zK h;refine e J<|bV<|cQ<|fg J<|bh cB ?_;rw[sd,q G,py];refine decide_eq_decide.2 ⟨λg=>by rw[q g];decide,λg=>?_⟩;split at g
  .assumption
  .split at g<;>omega
 .have h:(Z a:Y)=(Z b:Y):=xS h;rw[show sd a b=CY a b (Z a)by rw[sd,y G]];refine dj<|e J ?_;refine az<|bq (α:=V) (λk=>⟨[(0,S ar a),(1,S ar b),(5,O<|(k:Y)-1)],[],4,[]⟩) (λk=>k<=Z a/\CY a b (Z a)=CY a b k) (λk=>k) (Z a) ⟨aT _,J⟩ aV ?_;rintro k ⟨n,hc⟩;refine dj (e J<|F J (λd=>?_)<|λd=>?_)
  .have d:0<k:=by have d:(k:Y)-1>=0:=aW d;omega
   obtain⟨j,rfl⟩:∃j,k=j+1:=⟨k-1,G⟩;have i:af (((j+1:V):Y)-1)=j:=G;refine aE<|dj<|az<|e J (hp:=aF)<|F J (λf=>?_)<|λf=>dc<|bL ?_
   .have f:I a (af<|((j+1:V):Y)-1) 0≠I b (af<|((j+1:V):Y)-1) 0:=zK f;rw[i]at f;refine e J (hp:=aF)<|bV ?_;repeat(first|refine cQ ?_|refine lQ ?_|refine mq ?_)
    refine fg J ?_;show cB (decide<|List.getD a (af<|((j+1:V):Y)-1) 0<I b (af<|((j+1:V):Y)-1) 0)=_;rw[i,hc,CY];refine bh cB<|decide_eq_decide.2 ?_;unfold py;split
    .rw[q D];exact⟨λ_=>D,λ_=>by assumption⟩
    .rw[q (G:I a j 0>I b j 0),q D];exact⟨λg=>G,λg=>G⟩
   .have f:I a (af<|((j+1:V):Y)-1) 0=I b (af<|((j+1:V):Y)-1) 0:=xS f;rw[i]at f;refine rt J (hp:=aF) (a4 j ⟨G,?_⟩ sY<|wk ⟨sR J,sR J,sE J ?_,A⟩ A)
    .rw[hc,CY,y];unfold py;rw[y G,y G];decide
    .exact jb (G:((j+1:V):Y)-1-1=(j:Y)-1)
  .have d:k=0:=by have d:¬(k:Y)-1>=0:=bc d;omega
   subst d;rw[hc];exact bt<|aK<|e J<|c7 J
section
variable{α:Type}(d:α)(lt:α->Bool)(x:α)(l:E α)
def je:V->Bool×E α
 |0=>(false,[])
 |i+1=>if(!(je i).1&&lt (I l i d))=ae then(ae,(je i).2++[x]++[I l i d])else((je i).1,(je i).2++[I l i d])
def Wg(i:V):je d lt x l (i+1)=if(!(je d lt x l i).1&&lt (I l i d))=ae then(ae,(je d lt x l i).2++[x]++[I l i d])else((je d lt x l i).1,(je d lt x l i).2++[I l i d]):=rfl
def si:E α:=if(je d lt x l<|Z l).1=ae then(je d lt x l<|Z l).2 else(je d lt x l<|Z l).2++[x]
def Wh:∀i,(je d lt x l i).2.length=i+(if(je d lt x l i).1=ae then 1 else 0)
 |0=>rfl
 |i+1=>by
  have:=Wh i;rw[je];cases h:(je d lt x l i).1
  .rw[h]at this;simp only[DW,Bool.true_and];split
   .simp at this⊢;omega
   .simp[h]at this⊢;omega
  .rw[h]at this;simp only[OK,Bool.false_and,iF,bQ];simp[h]at this⊢;omega
def af3:∀i,i<=Z l->(je d lt x l i).2.Perm (if(je d lt x l i).1=ae then x::M i l else M i l)
 |0,_=>by rw[je];simp
 |i+1,f=>by
  have a:=af3 i G;have b:M (i+1) l=M i l++[I l i d]:=by rw[sW,aN,cO G];rfl
  rw[je,b];cases h:(je d lt x l i).1
  .rw[h]at a;simp only[DW,Bool.true_and];simp only[iF,bQ]at a;split
   .simp only[cd];refine(List.Perm.append_right _<|a.append_right [x]).trans ?_;rw[lP];exact(List.perm_append_comm_assoc _ _ _)
   .simp only[h,iF,bQ];exact a.append_right _
  .rw[h]at a;simp only[OK,Bool.false_and,iF,bQ];simp only[cd]at a;simp only[h,cd];exact a.append_right _
def af4:(si d lt x l).Perm (x::l):=by
 have h:=af3 d lt x l (Z l)<|aT _;unfold si;rw[gQ]at h;split
 .rename_i e;rwa[e]at h
 .rename_i e;rw[Bool.not_eq_true]at e;rw[e]at h;simp only[iF,bQ]at h;exact(h.append_right [x]).trans arI
end
def arJ(l:E (E Y×Y))(x:E Y×Y)(hl:Z l<=1000)(H:Z x.1<=1000)(h:∀k∈l,Z k.1<=1000):ao c 208 [S MT l,.a<|av MT x] (S MT<|si ([],0) (λk=>decide<|sd x.1 k.1<0) x l):=by
 refine aL Tryz.func208 ?_;have p:=Wh ([],0) (λk=>decide<|sd x.1 k.1<0) x l;have C:=Wg ([],0) (λk=>decide<|sd x.1 k.1<0) x l;generalize v:je ([],0) (λk=>decide<|sd x.1 k.1<0) x l=T at*;refine e J<|R<|gP MT [] J J (z J<|e J<|j<|e J ?_);refine az<|bq (α:=V) (λi=>⟨[(0,S MT l),(3,.c<|.P 0 0),(5,.c<|.X 1000000),(6,cB (T i).1),(7,O i)],[(0,.box 178 0<|av MT x),(1000000,.vec 178 MT (T i).2)],4,[]⟩) (λi=>i<=Z l) (λi=>Z l-i) 0 (bf _) (by rw[<-v];exact(wk (bM J) ⟨bE J J,bR J,A⟩)) ?_;intro i r;have s:=p i;have K:(T i).2.length<=1001:=by split at s<;>omega
 refine j<|e J<|F J (λh1=>?_)<|λh1=>?_
 .have h1:i<Z l:=by have h1:(i:Y)<(Z l:Y):=aW h1;omega
  have L:af ((i:Y))=i:=cr i;have w:(I l (af<|(i:Y))<|ET.dG MT)=I l i ([],0):=bh (λQ=>I l Q ([],0)) L;have W:=h (I l i ([],0)) PH;have B:=arH x.1 (I l i ([],0)).1 H W;have d:=C i;have t:=p<|i+1;rw[<-w]at*;obtain⟨m,f⟩:∃m,m=if(!(T i).1&&decide (sd x.1 (I l (af<|(i:Y))<|ET.dG MT).1<0))=ae then(T i).2++[x]else(T i).2:=⟨_,J⟩
  have u:(T<|i+1).2=m++[I l (af<|(i:Y)) (ET.dG MT)]:=by rw[d,f];split<;>rfl
  have q:Z m<=1001:=by rw[u,iX,rA]at t;split at t<;>omega
  refine aE<|j<|az ?_;refine nX ⟨[(0,S MT l),(3,.c<|.P 0 0),(5,.c<|.X 1000000),(6,cB (T<|i+1).1),(7,O i)],[(0,.box 178 0<|av MT x),(1000000,.vec 178 MT m)],8,[]⟩ ?_<|λn=>R<|rg 17 J J (λb=>?_)<|λb=>?_
  .refine cK (rl MT [_] J J (ra J J J J J J J J J ?_ ?_<|z J ?_) (hp:=aF))
   .show(_+1+(_+1)/4+192)*32<=_;omega
   .show(_+1)*2<=_;omega
   refine bL<|rt J<|a4 (i+1) h1 yn<|Wk.trans (wk (st':=⟨[(0,S MT l),(3,.c<|.P 0 0),(5,.c<|.X 8006000),(6,cB (T<|i+1).1),(7,O ((i+1:V):Y))],[(0,.box 178 0<|av MT x),(8006000,.vec 178 MT (T<|i+1).2)],16,[]⟩) (bM J) ⟨bR J,bE J ?_,A⟩)<|Wk.trans (gW 1000000 8006000 J J J) aV;rw[u]
  .have b:(T i).1=false:=by
    cases o:(T i).1
    .rfl
    .rw[o]at b;cases b
   refine gO J J J J J B (z J<|F J (λg=>?_)<|λg=>?_) (hp:=aF)
   .have g:decide (sd x.1 (I l (af<|(i:Y))<|ET.dG MT).1<0)=ae:=g;rw[b,g]at f;rw[b,g]at d;have f:m=(T i).2++[x]:=f;refine R (rl MT [x] J J (ra J J J J J J J J J ?_ ?_<|z J ?_))
    .show(_+1+(_+1)/4+192)*32<=_;omega
    .show(_+1)*2<=_;omega
    refine rt J<|fJ n<|Wk.trans (wk (st':=⟨[(0,S MT l),(3,.c<|.P 0 0),(5,.c<|.X 6003000),(6,cB (T<|i+1).1),(7,O i)],[(0,.box 178 0<|av MT x),(6003000,.vec 178 MT m)],8,[]⟩) ⟨sR J,sR J,sR J,sE J ?_,sR J,A⟩ ⟨bR J,bE J ?_,A⟩)<|Wk.trans (gW 1000000 6003000 J J J) aV
    .rw[d];rfl
    .rw[f]
   .have g:decide (sd x.1 (I l (af<|(i:Y))<|ET.dG MT).1<0)=false:=g;rw[b,g]at f;rw[b,g]at d;have f:m=(T i).2:=f;refine dc (fJ n<|wk ⟨sR J,sR J,sR J,sE J ?_,sR J,A⟩ ⟨bR J,bE J ?_,A⟩)
    .rw[d,b];rfl
    .rw[f]
  .have b:(T i).1=ae:=by
    cases o:(T i).1
    .rw[o]at b;cases b
    .rfl
   rw[b]at f;rw[b]at d;have f:m=(T i).2:=f;refine z J<|F J (λg=>by cases g)<|λg=>dc<|fJ n<|wk ⟨sR J,sR J,sR J,sE J ?_,sR J,A⟩ ⟨bR J,bE J ?_,A⟩
   .rw[d,b];rfl
   .rw[f]
 .have h1:i=Z l:=by have h1:¬(i:Y)<(Z l:Y):=bc h1;omega
  subst h1;refine bt<|aK<|j<|e J<|F J (λb=>?_)<|λb=>?_
  .have b:(T<|Z l).1=false:=by
    cases o:(T<|Z l).1
    .rfl
    .rw[o]at b;cases b
   refine cK<|rl MT [x] J J (ra J J J J J J J J J ?_ ?_<|z J ?_)
   .show(_+1+(_+1)/4+192)*32<=_;omega
   .show(_+1)*2<=_;omega
   refine aK<|da 6003000 J J J<|e J<|bY J ?_;unfold si;rw[v,b];rfl
  .have b:(T<|Z l).1=ae:=by
    cases o:(T<|Z l).1
    .rw[o]at b;cases b
    .rfl
   refine aE<|da 1000000 J J J<|e J<|bY J ?_;unfold si;rw[v,b];rfl
section
variable{p:V}(H:br p)
include H in
def Wi:∀(W:V)(f:E Y),Z f<W->Z f<=200->Mon p f->∃kJ,sf p f kJ/\ao c 206 [S ar f,cU p] (S ar kJ)
 |0,_,h,_,_=>by omega
 |W+1,f,hN,lf,b=>by
  have BX:=H.hp.1;have v:=H.le;by_cases r:Z f<=1
  .refine⟨f,sf.one H b r,?_⟩;refine DQ af5 J J J J J D ?_;refine e J<|j<|e J<|F J (λh=>e J<|bV<|cQ<|iJ cv J<|bg.refl _)<|λh=>?_;exfalso;have h:¬(Z f:Y)<=1:=bc h;omega
  have i:=afT f p G G v b.c.1;have d:bx p (aM<|jM p f):=kZ H.pos<|JX G f;have hDl:Z (aM<|jM p f)<=200:=by have:=pa<|jM p f;rw[JW]at this;omega
  have w:(fx (aM<|jM p f):Fx p)=bA (fx f):=by rw[FP,VS]
  have k:aM (jM p f)=[]->bA (fx f:Fx p)=0:=aqK H;generalize aM (jM p f)=l at*;by_cases s:l=[]
  .obtain⟨e1,e2,e3,e4⟩:=ae3 H b G<|k s;obtain⟨kJ,r1,r2⟩:=Wi W _ G G e1;refine⟨kJ,r1.root H b G<|k s,?_⟩;have x:Z (mP p f<|jF p<|Z f)=jF p (Z f):=by simp[mP]
   have hk:∀a,a<jF p (Z f)↔a*p<Z f:=λa=>by unfold jF;rw[<-Nat.add_one_le_iff,Nat.le_div_iff_mul_le G,PI];omega
   have B:∀a,a<jF p (Z f)->I (mP p f<|jF p<|Z f) a 0=I f (a*p) 0:=λa hj=>by unfold mP;rw[aN,iN,jV hj];rfl
   rw[x]at e3 e4;generalize mP p f (jF p<|Z f)=L at*;generalize jF p (Z f)=m at*;subst s;refine DQ af5 J J J J J D ?_;refine e J<|j<|e J<|F J (λh=>?_)<|λh=>dc<|aK ?_
   .exfalso;have h:(Z f:Y)<=1:=aW h;omega
   refine R<|rc J J i<|z J<|j<|e J<|F J (λ_=>?_)<|λh=>fR;refine R<|gP ar [] J J (z J<|j<|e J ?_);refine az<|bq (α:=V) (λa=>⟨[(0,S ar f),(1,cU p),(6,.c<|.X 4000000),(7,O ((a*p:V):Y))],[(4000000,.vec 150 ar<|M a L)],6,[]⟩) (λa=>a<=m) (λa=>m-a) 0 (bf _) (by rw[qf];exact aV) ?_;intro a hj;have hl:(M a L).length=a:=bX;refine j<|e J<|F J (λh=>?_)<|λh=>?_
   .have h:a*p<Z f:=by have h:((a*p:V):Y)<(Z f:Y):=aW h;omega
    have C:=(hk a).2 h;have ei:af (((a*p:V):Y))=a*p:=cr _;refine dc<|aK<|j<|az<|cK<|rl ar [_] J J (ra J J J J J J J J J ?_ ?_<|z J ?_) (hp:=aF)
    .show(_+1+(_+1)/4+192)*8<=_;omega
    .show(_+1)*1<=_;omega
    refine fB<|aK<|rt J (hp:=aF)<|a4 (a+1) C (G:m-(a+1)<m-a)<|Wk.trans (wk (st':=⟨[(0,S ar f),(1,cU p),(6,.c<|.X 7006000),(7,O (((a+1)*p:V):Y))],[(7006000,.vec 150 ar<|M (a+1) L)],16,[]⟩) ⟨sR J,sR J,sR J,sE J ?_,A⟩ ⟨bE J ?_,A⟩)<|Wk.trans (gW 4000000 7006000 J J J) aV
    .refine jb (show((a*p:V):Y)+(p:Y)=(((a+1)*p:V):Y)from ?_);rw[PI];omega
    .refine bh (aD.vec 150 ar) ?_;rw[rR _ a G,B a C,ei]
   .have h:¬a*p<Z f:=by have h:¬((a*p:V):Y)<(Z f:Y):=bc h;omega
    have y:a=m:=by have:=mt (hk a).1 h;omega
    subst y;rw[iY G];exact nL<|rk<|ov<|nM<|aK<|da 4000000 J J J<|R<|rc J J r2<|z J<|bV<|cQ<|iJ cv J<|bg.refl _
  .obtain⟨t,m2,m3,_⟩:=Aa H b.c d b.ne;obtain⟨q1,q2,q3,q4⟩:=tm H b t m2;have zm:Z (gk p f l)<Z f:=by
    have U:(fx l:Fx p)≠0:=λcz=>s<|uX d (rU H.pos)<|cz.trans kz.symm
    have r:=jK H m3 U;have h3:=N8 H (fx f:Fx p);rw[<-w,cX b.c]at h3;rw[cX t.c]at r;omega
   obtain⟨K,u,s2⟩:=Wi W (gk p f l) G G t;obtain⟨_,t2⟩:=sf.step H b G d w s J u J;have v5:=u.len;refine⟨_,t2,?_⟩;have Q:=FE p H.hp H.le f l G G b.c d;have T:=zQ p H.hp H.le f (gk p f l) G G b.c t.c t.ne;rw[wj q1.c.2]at T;generalize gk p f l=g at*;generalize (aO f g p).1=P at*;obtain⟨q,n2,n3,_⟩:=Aa H q1.c u.aH.c q1.ne;obtain⟨u1,u2,u3,u4⟩:=tm H u.aH q n3;have o:=FE p H.hp H.le P K G G q1.c u.aH.c;have n:=zQ p H.hp H.le K (gk p P K) G G u.aH.c q.c q.ne;rw[wj u1.c.2]at n;generalize gk p P K=ew at*;have pc:=q.pos;have pg:=t.pos;have ry:=uQ P (aO K ew p).1 p G G G G q1.c.1 u1.c.1;refine DQ af5 J J J J J D ?_;refine e J<|j<|e J<|F J (λh=>?_)<|λh=>dc<|aK ?_
   .exfalso;have h:(Z f:Y)<=1:=aW h;omega
   refine R<|rc J J i<|z J<|j<|e J<|F J (λh=>?_)<|λ_=>dc<|aK ?_
   .exfalso;have h:(Z l:Y)=0:=eq_of_beq h;exact s<|gK G
   exact R<|rc J J Q<|z J<|R<|rc J J T<|z J<|R<|rc J J s2<|z J<|R<|rc J J o<|rc J J n<|rc J J ry<|z J<|bV<|iJ cv J<|bg.refl _
def af6(m:V)(g:E Y):∀(a:E (E Y))(x:E Y×E (E Y×Y)),gV p m (a++[g]) x=((pull p g ((gV p m a x).1.length+1) (gV p m a x).1 0).1,(gV p m a x).2++[(g,(((pull p g ((gV p m a x).1.length+1) (gV p m a x).1 0).2:V):Y)*(m:Y))])
 |[],x=>rfl
 |b::a,x=>by rw[ln,gV,af6 m g a,gV]
noncomputable def ju(p:V)(a:E Y)(l:E (E Y)):V->E Y×E (E Y×Y)
 |0=>(a,[])
 |i+1=>((pull p (l.getD i []) ((ju p a l i).1.length+1) (ju p a l i).1 0).1,si ([],0) (λb=>decide<|sd (l.getD i []) b.1<0) (l.getD i [],(((pull p (l.getD i []) ((ju p a l i).1.length+1) (ju p a l i).1 0).2:V):Y)) (ju p a l i).2)
def Wj(a:E Y)(l:E (E Y)):∀i,i<=Z l->(ju p a l i).1=(gV p 1 (M i l) (a,[])).1/\(ju p a l i).2.Perm (gV p 1 (M i l) (a,[])).2
 |0,_=>⟨J,List.Perm.refl _⟩
 |i+1,f=>by
  let ⟨d,h2⟩:=Wj a l i G;have b:M (i+1) l=M i l++[l.getD i []]:=by rw[sW,aN,cO G];rfl
  rw[b,af6,ju,d];refine⟨J,(af4 _ _ _ _).trans ?_⟩;have e:∀z:Y,z*((1:V):Y)=z:=λz=>ni z
  rw[e];exact(List.Perm.cons _ h2).trans<|arI (l₁:=[_])
def af7(m:V):∀(b:E (E Y))(x:E Y×E (E Y×Y)),∀a∈(gV p m b x).2,a∈x.2\/a.1∈b
 |[],x,a,d=> .inl d
 |f::b,x,a,d=>by
  rw[gV]at d;rcases af7 m b _ a d with h|h
  .rcases be.1 h with h|h
   .exact .inl h
   .rw[iw.1 h];exact .inr ax
  .exact .inr (by simp[h])
def CV.take{f:E Y}{a:E (E Y)}(h:CV p f a)(i:V):CV p f (M i a):=
 ⟨λg b=>h.ok g<|EX b,h.ds.sublist (List.take_sublist i a)⟩
include H in
def arK(pm:p<=2147483647){a:E Y}(la:Z a<=200)(ha:∀i,0<=I a i 0)(h0:aM (md p a)≠[])(hd:∀d,2*d<Z (aM<|md p a)->2*p^d<=18446744073709551616):∃L,CW p (fx<|lD p<|aM<|md p a) L/\ao c 175 [S ar a,cU p] (.t [(false,[.S MT L]),(false,[.I .i64 0])]):=by
 have BX:=H.hp.1;have N:=xW a p G G G ha;have C:bx p (aM<|md p a):=kZ H.pos<|Ck H.pos a;have hal:Z (aM<|md p a)<=200:=by have:=pa<|md p a;rw[xV]at this;omega
 have U:=acy p H.hp H.le (aM<|md p a) G C;let ⟨m1,m2,_⟩:=Ow H C h0;generalize aM (md p a)=qY at*;generalize lD p qY=b at*;let ⟨w,r1,r2⟩:=Wi H _ b (dJ _) G m1;have R9:=r1.len;have hsq:=arG H r1.aH r1.lG G<|λd MZ=>hd d G;have f:=af2 H (F:=w) (λd MZ=>hd d G) (Z w) ⟨w,[0,1],1,[]⟩ (oh.start H r1.aH r1.lG G) (G:Z w<1+Z w);generalize yv H (Z w) ⟨w,[0,1],1,[]⟩=l at*;have K:=arv H m1 r1 f;have hpt:=afN H r1 f;let ⟨f1,f2⟩:=Wj (p:=p) b l (Z l)<|aT _;rw[gQ]at f1 f2;refine⟨(ju p b l<|Z l).2,K.perm f2,?_⟩;have hll:Z l<=200:=by
  let ⟨h3,h4⟩:=VP H (l:=l) λg P=>⟨(f.parts g P).1,(f.parts g P).2.1⟩
  rw[f.prod,cX r1.aH.c]at h4;omega
 have hI:=λi=>VV H (M i l) b [] (vg.start m1) (hpt.take i)
 refine aL Tryz.func175 ?_;refine e J<|j<|bH J J (acm p H.hp pm) J<|F J (λh=>fR)<|λ_=>aE ?_;refine R<|rc J J N<|rc J J U<|z J<|j<|e J<|F J (λh=>?_)<|λ_=>aE ?_
 .exfalso;have h:(Z b:Y)=0:=eq_of_beq h;have:=m1.pos;omega
 refine R<|rc J J r2<|rc J J hsq<|z J<|R<|rl MT [] J J (z J<|j<|e J ?_);refine az<|bq (α:=V) (λi=>⟨[(1,cU p),(6,S ar (ju p b l i).1),(7,S (.sl ar) l),(8,S MT (ju p b l i).2),(9,O i)],[],8,[]⟩) (λi=>i<=Z l) (λi=>Z l-i) 0 (bf _) aV ?_;intro i hi;let ⟨k1,k2⟩:=Wj (p:=p) b l i hi;let ⟨i1,i2,_⟩:=hI i;rw[<-k1]at i1 i2;let ⟨i3,_,_⟩:=i1.bounds H;have i3:(gV p 1 (M i l) (b,[])).2.length+1<=Z b:=by rwa[cX m1.c]at i3
 have hq:=k2.length_eq;have i2:(ju p b l i).1.length<=Z b:=i2;refine j<|e J<|F J (λh=>?_)<|λh=>?_
 .have h:i<Z l:=by have h:(i:Y)<(Z l:Y):=aW h;omega
  have ei:af ((i:Y))=i:=cr i;have Bi:(I l (af<|(i:Y))<|ET.dG<|.sl ar)=l.getD i []:=bh (λfw=>l.getD fw []) ei;have u:l.getD i []∈l:=VM;let ⟨x,g2,_⟩:=f.parts _ u;have Q:∀g∈l,Z g<=200:=λg P=>by have h3:=jK H (Po p P) (by rw[f.prod];exact r1.aH.kA H);rw[f.prod,cX r1.aH.c,cX (f.parts g P).1.c]at h3;omega
  have zm:=Q _ u;have W:∀m∈(ju p b l i).2,Z m.1<=1000:=λm hy=>by
   rcases af7 1 (M i l) (b,[]) m (k2.mem_iff.1 hy)with X|X
   .cases X
   .have:=Q _<|EX X;omega
  have hF1:(ju p b l<|i+1).1=(pull p (l.getD i []) ((ju p b l i).1.length+1) (ju p b l i).1 0).1:=rfl;have hF2:(ju p b l<|i+1).2=si ([],0) (λm=>decide<|sd (l.getD i []) m.1<0) (l.getD i [],(((pull p (l.getD i []) ((ju p b l i).1.length+1) (ju p b l i).1 0).2:V):Y)) (ju p b l i).2:=rfl;have o:=λn:V=>arJ (ju p b l i).2 (l.getD i [],(n:Y)) G (by show Z (l.getD i [])<=_;omega) W
  have hm:=i1.aH;generalize hT:pull p (l.getD i []) ((ju p b l i).1.length+1) (ju p b l i).1 0=T at*;rw[<-Bi]at*;refine aE<|j<|az<|e J<|j ?_;refine az<|bq (α:=V×E Y×V) (λm=>⟨[(1,cU p),(6,S ar m.2.1),(7,S (.sl ar) l),(8,S MT (ju p b l i).2),(9,O i),(10,O m.2.2)],[],10,[]⟩) (λm=>pull p (I l (af<|(i:Y))<|ET.dG<|.sl ar) m.1 m.2.1 m.2.2=T/\Z m.2.1<m.1/\Mon p m.2.1/\m.2.2+Z m.2.1<=200) (λm=>m.1) ((ju p b l i).1.length+1,(ju p b l i).1,0) ⟨hT,dJ _,hm,by show 0+(ju p b l i).1.length<=_;omega⟩ aV ?_;rintro⟨k,v,n⟩ ⟨B,b2,r,b4⟩;simp only at B b2 r b4;obtain⟨k,rfl⟩:∃k',k=k'+1:=⟨k-1,G⟩;rw[pull]at B;have R8:=s6 p H.hp H.le v _ G G r.c x.c x.ne;refine j<|R<|rc J J R8 (z J<|F J (λs=>?_)<|λs=>?_) (hp:=aF)
  .have s:(aO v (I l (af<|(i:Y))<|ET.dG<|.sl ar) p).2=[]:=gK (by have:=eq_of_beq s;omega);rw[q s]at B;have Sa:=(Ou H r.c x.c x.ne).1 s;let ⟨q1,q2,q3,q4⟩:=tm H r x Sa;have D:=zQ p H.hp H.le v _ G G r.c x.c x.ne;rw[wj q1.c.2]at D;refine aE (az<|R<|rc J J D (z J<|rt J (hp:=aF)<|fB<|a4 (k,(aO v (I l (af<|(i:Y))<|ET.dG<|.sl ar) p).1,n+1) ⟨B,?_,q1,?_⟩ (dJ k) aV) (hp:=aF))
   .show(aO v (I l (af<|(i:Y))<|ET.dG<|.sl ar) p).1.length<k;omega
   .show n+1+(aO v (I l (af<|(i:Y))<|ET.dG<|.sl ar) p).1.length<=200;omega
  .have s:(aO v (I l (af<|(i:Y))<|ET.dG<|.sl ar) p).2≠[]:=λX=>by have s:¬((aO v (I l (af<|(i:Y))<|ET.dG<|.sl ar) p).2.length:Y)=0:=nY s;rw[X]at s;exact s J
   rw[y s]at B;subst B;have o:=o n;rw[<-hF2]at o;refine bt<|aK ?_;refine cK<|rc J J o (z J<|bL<|rt J (hp:=aF)<|a4 (i+1) h yn<|wk ⟨sR J,sE J ?_,sR J,sR J,sR J,A⟩ A) (hp:=aF);rw[hF1]
 .have h:i=Z l:=by have h:¬(i:Y)<(Z l:Y):=bc h;omega
  subst h;exact bt<|aK<|e J<|c7 J
end
def k8(a b:E Y):E Y:=(cw<|max (Z a)<|Z b).map λi=>I a i 0-I b i 0
def af8 a b:Z (k8 a b)=max (Z a) (Z b):=by simp[k8]
def Ge a b i:I (k8 a b) i 0=I a i 0-I b i 0:=by
 by_cases h:i<max (Z a) (Z b)
 .unfold k8;rw[aN,iN,jV h];rfl
 .rw[fh _ (by rw[af8];omega),fh a G,fh b G];rfl
def af9 a b u(o:u<=100000)(p:Z a<=1000)(s:Z b<=1000)(k:∀i,aG u (I a i 0))(l:∀i,aG u (I b i 0)):ao c 257 [S .z a,S .z b] (S .z<|aM<|k8 a b):=by
 refine aL Tryz.func257 ?_;have t:=af8 a b;have m:=Ge a b;generalize hM:max (Z a) (Z b)=M at*;have n:M<=1000:=G;generalize k8 a b=L at*;refine e J<|R<|gP .z [] J J (z J<|j<|e J ?_);refine az<|bq (α:=V) (λi=>⟨[(0,S .z a),(1,S .z b),(5,.c<|.X 1000000),(6,O i)],[(1000000,.vec 42 .z<|List.take i L)],3,[]⟩) (λi=>i<=M) (λi=>M-i) 0 (bf _) aV ?_;intro i v;have w:(List.take i L).length=i:=bX;by_cases f:i<M
 .refine nX ⟨[(0,S .z a),(1,S .z b),(5,.c<|.X 1000000),(6,O i)],[(1000000,.vec 42 .z<|List.take i L)],4,[]⟩ ?_ (λd=>R<|rg 12 J J (λh=>z J<|F J (λ_=>dc<|fJ d aV)<|λh2=>qJ)<|λh=>z J<|F J (λ_=>dc<|fJ d aV)<|λh2=>?_)
  .refine j<|az<|cK ?_;refine rc J J (Iw a i)<|rc J J (Iw b i)<|rc J J (T2 (I a i 0) (I b i 0) ((k i).sm G)<|(l i).sm G) ?_;refine rl .z [I a i 0-I b i 0] J J (ra J J J J J J J J J ?_ ?_<|z J ?_)
   .show(_+1+(_+1)/4+192)*32<=_;omega
   .show(_+1)*2<=_;omega
   refine bL<|rt J<|a4 (i+1) f xJ<|Wk.trans (wk (st':=⟨[(0,S .z a),(1,S .z b),(5,.c<|.X 4009000),(6,O ((i+1:V):Y))],[(4009000,.vec 42 .z<|List.take (i+1) L)],8,[]⟩) (bM J) ⟨bE J ?_,A⟩)<|Wk.trans (gW 1000000 4009000 J J J) aV;rw[rR _ i G,m i]
  .exfalso;have h:¬(i:Y)<(Z a:Y):=bc h;have h2:¬(i:Y)<(Z b:Y):=bc h2;omega
 .have g:i=M:=by omega
  subst g;rw[iY G];refine j<|R<|rg 12 J J (λh=>?_)<|λh=>?_
  .exfalso;have h:(i:Y)<(Z a:Y):=aW h;omega
  .refine z J (F J (λh2=>?_)<|λh2=>?_)
   .exfalso;have h2:(i:Y)<(Z b:Y):=aW h2;omega
   .exact bt<|aK<|da 1000000 J J J<|bH J J (M9 _) J<|c7 J
def jX(p:Y)(l:E (E Y)):V->E Y
 |0=>[1]
 |i+1=>cL (jX p l i) (l.getD i []) p
section
variable{p:V}(H:br p)
include H
def af':bx p [1]:=⟨FD G CC,.inr (D:(1:Y)≠0)⟩
def arP:Mon p [1]:=⟨af' H,ax,J⟩
def J4{l:E (E Y)}(h:∀g∈l,Mon p g/\1<=Z g):∀i,i<=Z l->Mon p (jX p l i)/\(fx (jX p l i):Fx p)=iu p (M i l)/\Z (jX p l i)=1+dz (M i l)
 |0,_=>⟨arP H,by rw[jX,CB];rfl,J⟩
 |i+1,m=>by
  let ⟨d,h2,n⟩:=J4 h i G;have a:l.getD i []∈l:=by rw[aN,cO G];exact tR _
  let ⟨f,g2⟩:=h _ a;let ⟨t1,t2⟩:=Wb H d f;have b:M (i+1) l=M i l++[l.getD i []]:=by rw[sW,aN,cO G];rfl
  have k:dz (M i l++[l.getD i []])=dz (M i l)+(Z (l.getD i [])-1):=by rw[Pp];rfl
  rw[b,jX];refine⟨t1,?_,?_⟩
  .rw[wG,h2,JV,iu,iu,mul_one]
  .rw[k];omega
theorem aga(l:E (E Y))(i:V):dz (M i l)<=dz l:=by
 conv=>rhs;rw[<-sI i l]
 rw[Pp];omega
def arQ{l:E (E Y)}(h:∀g∈l,Mon p g/\1<=Z g)(v:dz l<=900)(w:Z l<=1000):ao c 215 [S (.sl ar) l,cU p] (S ar<|jX p l<|Z l):=by
 refine aL Tryz.func215 ?_;have n:=H.hp.1;have f:=H.le;refine e J<|R<|rl ar [1] J J (z J<|j<|e J ?_);refine az<|bq (α:=V) (λi=>⟨[(0,S (.sl ar) l),(1,cU p),(5,S ar<|jX p l i),(6,O i)],[],4,[]⟩) (λi=>i<=Z l) (λi=>Z l-i) 0 (bf _) aV ?_;intro i o;refine j<|e J<|F J (λh1=>?_)<|λh1=>?_
 .have h1:i<Z l:=by have h1:(i:Y)<(Z l:Y):=aW h1;omega
  have s:af ((i:Y))=i:=cr i;have d:(I l (af<|(i:Y))<|ET.dG<|.sl ar)=l.getD i []:=bh (λt=>l.getD t []) s;have b:l.getD i []∈l:=PH;let ⟨t1,_,t3⟩:=J4 H h i o;have x:=aga H l i;have B:=aga H l<|i+1;let ⟨_,_,k⟩:=J4 H h (i+1) h1;let ⟨m,g2⟩:=h _ b;let ⟨_,t7⟩:=Wb H t1 m;have a:=uQ (jX p l i) (l.getD i []) p G (by have k:Z (cL (jX p l i) (l.getD i []) p)=_:=k;omega) G G t1.c.1 m.c.1;have u:jX p l (i+1)=cL (jX p l i) (l.getD i []) p:=rfl;rw[<-u]at a;rw[<-d]at a;exact aE<|j<|az<|cK<|rc J J a (z J<|bL<|rt J (hp:=aF)<|a4 (i+1) h1 yn aV) (hp:=aF)
 .have h1:i=Z l:=by have h1:¬(i:Y)<(Z l:Y):=bc h1;omega
  subst h1;exact bt<|aK<|e J<|c7 J
end
section
variable{p:V}
structure vj where
 a:E Y
 b:E Y
 t:E Y
 n:E Y
def vj.q(p:V)(x:vj):E Y:=aM (aO x.a x.b p).1
def vj.next(p:V)(x:vj):vj:=⟨x.b,(aO x.a x.b p).2,x.n,aM<|gh x.t (cL (x.q p) x.n p) p⟩
def C1(p:V):V->vj->vj
 |0,x=>x
 |k+1,x=>if x.b=[]then x else C1 p k (x.next p)
structure C2(p:V)(g h:E Y)(C:V)(x:vj):Prop where
 ca:bx p x.a
 cb:bx p x.b
 ct:bx p x.t
 cn:bx p x.n
 a0:x.a≠[]
 l1:x.n.length+x.a.length<=C
 l2:x.t.length+x.b.length<=C
 d1:(fx g:Fx p)∣fx x.a-fx x.t*fx h
 d2:(fx g:Fx p)∣fx x.b-fx x.n*fx h
 co:Co (fx x.a:Fx p) (fx x.b)
variable(H:br p)
include H
def arR{a b:E Y}(f:bx p a)(g:bx p b)(d:b≠[]):(fx a:Fx p)=fx (aO a b p).1*fx b+fx (aO a b p).2:=
 mk_eq.2 (l6 H.hp H.le f.1 g d).1
def C2.next{g h:E Y}{C:V}{x:vj}(d:C2 p g h C x)(f:x.b≠[]):C2 p g h C (x.next p)/\(x.next p).b.length<Z x.b:=by
 let ⟨_,X,j,r,u,v⟩:=l6 H.hp H.le d.ca.1 d.cb f;have o:=arR H d.ca d.cb f;have y:=d.l1;have z:=d.l2;have F:=cR.2 f;have i:(fx (x.q p):Fx p)=fx (aO x.a x.b p).1:=FP _;have w:Z (x.q p)<=Z x.a-(Z x.b-1):=by have:=pa (aO x.a x.b p).1;rw[v]at this;exact this
 have l:=pa<|gh x.t (cL (x.q p) x.n p) p;rw[NU]at l;have K:Z (cL (x.q p) x.n p)+Z x.b<=C:=by
  by_cases e:x.q p=[]\/x.n=[]
  .unfold cL;rw[q e,sH];omega
  .have L:x.q p≠[]:=λk=>e (.inl k)
   have P:x.n≠[]:=λk=>e<|.inr k
   have:=wm (x.q p) x.n p;have J:=cR.2 L;have M:=cR.2 P;omega
 have m:(fx (x.next p).n:Fx p)=fx x.t-fx (aO x.a x.b p).1*fx x.n:=by show(fx (aM<|gh x.t (cL (x.q p) x.n p) p):Fx p)=_;rw[UQ,wG,i]
 have Q:(fx (aO x.a x.b p).2:Fx p)=fx x.a-fx (aO x.a x.b p).1*fx x.b:=FG (by rw[add_comm,<-o]);refine⟨⟨d.cb,u d.ca,d.cn,kZ H.pos<|Cm H.pos _ _,f,?_,?_,d.d2,?_,?_⟩,by show(aO x.a x.b p).2.length<_;omega⟩
 .show Z (aM _)+Z x.b<=C;omega
 .show Z x.n+(aO x.a x.b p).2.length<=C;by_cases c:Z x.b<=Z x.a
  .omega
  .have:(aO x.a x.b p).2=x.a:=by unfold aO;rw[q G]
   rw[this];omega
 .show(fx g:Fx p)∣fx (aO x.a x.b p).2-fx (x.next p).n*fx h;rw[Q,m,sub_mul];have T:(fx g:Fx p)∣fx (aO x.a x.b p).1*fx x.b-fx (aO x.a x.b p).1*(fx x.n*fx h):=oD (n6 _ _) d.d2;have W:=dvd_sub d.d1 T;have e:∀A B C D:Fx p,A-B-(C-D)=A-C-(B-D):=λA B C D=>by rw[sub_def (A-B),neg_sub,sub_def<|A-C,neg_sub,sub_def A,sub_def D,sub_def A,sub_def D];ac_rfl
  rw[e]at W;rwa[mul_assoc (fx (aO x.a x.b p).1)]
 .let ⟨U,s,e⟩:=d.co;refine⟨U*fx (aO x.a x.b p).1+s,U,?_⟩;show(U*fx (aO x.a x.b p).1+s)*fx x.b+U*fx (aO x.a x.b p).2=1;rw[<-e,o,add_mul,mul_add];ac_rfl
def agb{g h:E Y}{C:V}:∀(k:V)(x:vj),C2 p g h C x->Z x.b<k->C2 p g h C (C1 p k x)/\(C1 p k x).b=[]
 |0,x,_,f=>by omega
 |k+1,x,d,f=>by
  rw[C1];split
  .rename_i a;exact⟨d,a⟩
  .rename_i a;let ⟨i,l⟩:=d.next H a;exact agb k _ i G
def arS{g h:E Y}(s:Mon p g)(hh:Mon p h)(g2:2<=Z g)(lg:Z g<=100)(lh:h.length<=100)(T:Co (fx g:Fx p) (fx h)):∃t,bx p t/\Z t<Z g/\(fx g:Fx p)∣fx t*fx h-1/\ao c 258 [S ar g,S ar h,cU p] (S ar t):=by
 have BX:=H.hp.1;have agc:=H.le;have I0:C2 p g h 101 ⟨g,h,[],[1]⟩:=⟨s.c,hh.c,rU H.pos,af' H,s.ne,by show 1+Z g<=_;omega,by show 0+h.length<=_;omega,by rw[kz,zero_mul,sub_zero];exact dvd_refl _,by rw[CB,one_mul,sub_self];exact dvd_zero _,T⟩;let ⟨l,e0⟩:=agb H (h.length+1) ⟨g,h,[],[1]⟩ I0<|dJ _;generalize hX:C1 p (h.length+1) ⟨g,h,[],[1]⟩=X at*;have hu:sz (fx X.a:Fx p)=1:=by let ⟨U,C3,m⟩:=l.co;rw[e0,kz,mul_zero,add_zero]at m;exact x4 H m
 rw[cX l.ca]at hu;obtain⟨d,Q⟩:∃d,X.a=[d]:=by
  match hxa:X.a,hu with
  |[d],_=>exact⟨d,J⟩
 have o:0<=d/\d<p:=by have:=l.ca.1 0;rw[Q]at this;exact this
 have w:d≠0:=by
  rcases l.ca.2 with m|m
  .exact absurd m l.a0
  .rw[Q]at m;exact m
 have B:=Up d p o w G G;have W:=FB H.hp H.le o.1 o.2 w;have r:((jc (af d) (af ((p:V):Y)):V):Y)<p:=by rw[aci _ _ (by rw[cr];omega) (by rw[cr];omega),cr];have:=fN (af d^(p-2)) (G:0<p);omega
 generalize jc (af d) (af ((p:V):Y))=v at*;have l2:=l.l2;have A:=uQ [(v:Y)] X.t p ax G G G (FD G r) l.ct.1;have C:=wm [(v:Y)] X.t p;have D:=s6 p H.hp H.le (cL [(v:Y)] X.t p) g (by simp at C;omega) G (nk H.pos _ _) s.c s.ne;let ⟨r1,r2,r3⟩:=wM H (nk H.pos [(v:Y)] X.t) s.c s.ne;refine⟨_,r1,r2,?_,?_⟩
 .rw[wG,UP]at r3;have k1:(fx g:Fx p)∣fx (aO (cL [(v:Y)] X.t p) g p).2*fx h-K v*fx X.t*fx h:=oD r3<|n6 _ _;have k2:(fx g:Fx p)∣K v*fx X.a-K v*(fx X.t*fx h):=oD (n6 _ _) l.d1;rw[Q,UP,<-fp,CA (a:=(v:Y)*d) (b:=1) (by rw[eW,W,H.one]),<-mul_assoc]at k2;exact np k1<|n5 k2
 refine aL Tryz.func258 ?_;refine e J<|e J<|R<|rl ar [] J J (rl ar [1] J J (z J ?_));refine j<|az<|bq (α:=V×vj) (λf=>⟨[(0,S ar g),(1,S ar h),(2,cU p),(7,S ar f.2.a),(8,S ar f.2.b),(9,S ar f.2.t),(10,S ar f.2.n)],[],3,[]⟩) (λf=>C2 p g h 101 f.2/\Z f.2.b<f.1/\C1 p f.1 f.2=X) (λf=>f.1) (h.length+1,⟨g,h,[],[1]⟩) ⟨I0,dJ _,hX⟩ aV ?_;rintro⟨k,x⟩ ⟨I,hk,u⟩;simp only at I hk u;obtain⟨k,rfl⟩:∃k',k=k'+1:=⟨k-1,G⟩;rw[C1]at u;have l1:=I.l1;have l2:=I.l2;refine j<|e J<|F J (λi=>?_)<|λi=>?_
 .have i:0<Z x.b:=by have i:(Z x.b:Y)>0:=aW i;omega
  have L:x.b≠[]:=cR.1 i;rw[y L]at u;let ⟨n1,n2⟩:=I.next H L;have P:=zQ p H.hp H.le x.a x.b G G I.ca I.cb L;have M:aM (aO x.a x.b p).1=x.q p:=rfl;rw[M]at P;have hq:Z (x.q p)<=101:=by have:=pa (aO x.a x.b p).1;rw[(l6 H.hp H.le I.ca.1 I.cb L).2.2.2.2.2]at this;show Z (aM _)<=_;omega
  have N:bx p (x.q p):=kZ H.pos (l6 H.hp H.le I.ca.1 I.cb L).2.1;have O:=uQ (x.q p) x.n p G G G G N.1 I.cn.1;have hmc:=nk H.pos (x.q p) x.n;have C:=wm (x.q p) x.n p;have Wl:=IX x.t (cL (x.q p) x.n p) p G G G G I.ct.1 hmc.1;exact dc<|aK<|az<|R<|rc J J P<|z J<|e J<|e J<|R<|rc J J O<|rc J J Wl<|z J<|e J<|rt J<|fB<|a4 (k,x.next p) ⟨n1,(G:(x.next p).b.length<k),u⟩ (dJ k) aV
 .have i:x.b=[]:=gK (by have i:¬(Z x.b:Y)>0:=bc i;omega);rw[q i]at u;subst u;refine bt<|aK ?_;show TR _ _ _ ⟨_,_,_,_⟩ _;simp only[Q];exact bH J J B J<|R<|rl ar [(v:Y)] J J (rc J J A<|rc J J D<|z J<|c7 J)
end
def nw(f a K:E Y):E Y:=aM<|k8 f<|aM<|lC a K
def jO(a:Y)(p:V)(f b K:E Y):E Y:=(nw f b K).map λx=>x/a%(p:Y)
def pH(a:Y)(p:V)(f g t b K:E Y):E Y:=(aO (cL t (aM<|jO a p f b K) p) g p).2
def Aw(a:Y)(p:V)(f g h t b K:E Y):E Y:=(aO (aM<|gh (aM<|jO a p f b K) (cL (pH a p f g t b K) h p) p) g p).1
def eX(p:V)(f g h t:E Y):V->E Y×E Y
 |0=>(g,h)
 |a+1=>(me (eX p f g h t a).1 ((p:Y)^(a+1))<|pH ((p:Y)^(a+1)) p f g t (eX p f g h t a).1 (eX p f g h t a).2,me (eX p f g h t a).2 ((p:Y)^(a+1))<|Aw ((p:Y)^(a+1)) p f g h t (eX p f g h t a).1 (eX p f g h t a).2)
structure J5(p:V)(f g h t:E Y):Prop where
 H:br p
 fm:aH f
 hg:Mon p g
 hh:Mon p h
 g2:2<=g.length
 h2:2<=h.length
 lg:g.length<=100
 lh:h.length<=100
 fl:f.length+1=g.length+h.length
 pr:(fx f:Fx p)=fx g*fx h
 tc:bx p t
 tl:t.length<g.length
 ht:(fx g:Fx p)∣fx t*fx h-1
section
variable{p:V}{f g h t:E Y}(A:J5 p f g h t)
include A
structure TwE(p:V)(f g h t b K:E Y)(a:V):Prop where
 D:(nw f b K).length+2<=g.length+h.length
 e:bx p (aM<|jO ((p:Y)^a) p f b K)
 el:(aM<|jO ((p:Y)^a) p f b K).length+2<=g.length+h.length
 cg:bx p (pH ((p:Y)^a) p f g t b K)
 lg:(pH ((p:Y)^a) p f g t b K).length<g.length
 ck:bx p (Aw ((p:Y)^a) p f g h t b K)
 lk:(Aw ((p:Y)^a) p f g h t b K).length<h.length
 nx:vi p f g h (me b ((p:Y)^a)<|pH ((p:Y)^a) p f g t b K) (me K ((p:Y)^a)<|Aw ((p:Y)^a) p f g h t b K) (a+1)
def J5.step{a K:E Y}{b:V}(d:vi p f g h a K b)(j1:1<=b):TwE p f g h t a K b:=by
 have H:=A.H;have q:=H.hp.1;have r:(0:Y)<(p:Y)^b:=nT G;let ⟨w,hw⟩:=d.pr;have l:∀i,I (nw f a K) i 0=(p:Y)^b*w i:=λi=>by
  have m:ps (nw f a K) i=ps f i-(ps a*ps K) i:=by show ps (aM<|k8 f<|aM<|lC a K) i=_;rw[qK,cG,Ge,<-cG,<-cG,qK,adK _ _ d.Gm.1 d.Km.1]
  rw[cG]at m;rw[m,hw,PS.eo,PS.fp];omega
 have v:Z (nw f a K)+2<=Z g+h.length:=by
  have k:=d.Gm.uZ.mul d.Km.uZ;have n:=A.fm.uZ;have Q:∀i,Z f-1<=i->I (nw f a K) i 0=0:=λi T=>by
   have m:I (nw f a K) i 0=ps f i-(ps a*ps K) i:=by rw[l i,hw,PS.eo,PS.fp];omega
   have W:Z a-1+(K.length-1)=Z f-1:=by have:=d.Gl;have:=d.Kl;have:=A.fl;have:=A.g2;have:=A.h2;omega
   rw[W]at k;rcases Nat.lt_or_eq_of_le T with e|e
   .rw[m,n.z i e,k.z i e];rfl
   .rw[m,<-e,n.one,k.one];rfl
  have X:can (nw f a K):=Io _;have:=A.fl;have:=A.g2;have:=A.h2;rcases X with e|e
  .rw[e];simp;omega
  .rcases pN (Z (nw f a K)-1) (Z f-1)with C|C
   .omega
   .exact absurd (Q _ C) e
 have o:∀i,I (jO ((p:Y)^b) p f a K) i 0=w i%p:=λi=>by show I ((nw f a K).map λx=>x/(p:Y)^b%(p:Y)) i 0=_;rw[getD_map (f:=λx=>x/(p:Y)^b%(p:Y)) Wm,l i,Wn _ G]
 have B:rp p (jO ((p:Y)^b) p f a K):=λi=>by rw[o i];exact⟨iP _ G,iR _ G⟩
 have s:bx p (aM<|jO ((p:Y)^b) p f a K):=kZ H.pos B;have u:Z (aM<|jO ((p:Y)^b) p f a K)+2<=Z g+h.length:=by
  have y:=pa<|jO ((p:Y)^b) p f a K;have D:Z (jO ((p:Y)^b) p f a K)=Z (nw f a K):=by simp[jO]
  omega
 let ⟨a1,a2,L,P,c⟩:=arw H A.hg A.hh A.g2 s u A.ht;exact⟨v,s,u,a2,a1,L,P,d.step H j1 w hw (Cg.of λi=>by rw[qK,cG,o i,mM]) a1 a2 P L c⟩
def J5.all:∀a,vi p f g h (eX p f g h t a).1 (eX p f g h t a).2 (a+1)
 |0=>vi.start A.hg A.hh A.pr
 |a+1=>(A.step (J5.all a)<|PG<|bf a).nx
theorem agd{a d:E Y}(b:Y)(i:aH a)(h:Z d<Z a):aM (yd a b d)=me a b d:=by
 have e:yd a b d=me a b d:=by unfold yd me;rw[(G:max (Z a) (Z d)=Z a)]
 rw[e];exact(Wc b i h).trim
def arV(hb:ao c 258 [S ar g,S ar h,cU p] (S ar t)){k u w:V}(k1:1<=k)(kk:k<=1000)(hu:∀i,aG u (I f i 0))(hw:aG w ((p:Y)^k))(u9:u<=1000)(w9:w<=1000)(w1:1<=w):ao c 214 [S .z f,S ar g,S ar h,cU p,O k] (.a [.S .z (eX p f g h t<|k-1).1,.S .z (eX p f g h t<|k-1).2]):=by
 have H:=A.H;have BX:=H.hp.1;have agc:=H.le;have lg:=A.lg;have lh:=A.lh;have g2:=A.g2;have h2:=A.h2;have fl:=A.fl;obtain⟨k,rfl⟩:∃n,k=n+1:=⟨k-1,G⟩;rw[eE];have s:∀{q:E Y},Mon p q->∀i,0<=I q i 0/\I q i 0<4294967296:=λ{q} hq i=>by have:=hq.c.1 i;omega
 have B:=ady g G<|s A.hg;have C:=ady h G<|s A.hh;rw[wj A.hg.c.2]at B;rw[wj A.hh.c.2]at C;refine aL Tryz.func214 ?_;refine e J<|bH J J hb J<|R<|rc J J B<|rc J J C<|z J ?_;refine R<|rc J J (jn p G G) (z J<|j<|e J ?_) (hp:=aF);refine az<|bq (α:=V) (λi=>⟨[(0,S .z f),(1,S ar g),(2,S ar h),(3,cU p),(4,O ((k+1:V):Y)),(10,.c<|.P 0 0),(11,S ar t),(12,.c<|.P 2005000 0),(13,.c<|.P 3003000 0),(14,O ((i+1:V):Y))],[(0,.box 208 0 [.V (.slice none 0 0),.V<|.slice none 0 0]),(2005000,.box 208 0 [.S .z (eX p f g h t i).1,.S .z (eX p f g h t i).2]),(3003000,.box 42 0<|av .z<|(p:Y)^(i+1))],5,[]⟩) (λi=>i<=k) (λi=>k-i) 0 (bf _) (wk (bM J) ⟨bE J J,bE J J,bE J ?_,Wo⟩) ?_
 .rw[fH,o8,kX];rfl
 intro i hi;have v:=A.all i;let ⟨e1,e2,e3,e4,e5,e6,e7,e8⟩:=A.step v<|PG<|bf i;have hq:(0:Y)<(p:Y)^(i+1):=nT G;have Nv:(p:Y)^(i+1)<=(p:Y)^(k+1):=by rw[<-uL,<-uL];exact Oj.2<|eZ G G
 have m:aG w ((p:Y)^(i+1)):=by unfold aG at*;omega
 have Il:(eX p f g h t<|i+1).1=me (eX p f g h t i).1 ((p:Y)^(i+1)) (pH ((p:Y)^(i+1)) p f g t (eX p f g h t i).1 (eX p f g h t i).2):=rfl;have MV:(eX p f g h t<|i+1).2=me (eX p f g h t i).2 ((p:Y)^(i+1)) (Aw ((p:Y)^(i+1)) p f g h t (eX p f g h t i).1 (eX p f g h t i).2):=rfl;have hE:jO ((p:Y)^(i+1)) p f (eX p f g h t i).1 (eX p f g h t i).2=(nw f (eX p f g h t i).1 (eX p f g h t i).2).map λx=>x/(p:Y)^(i+1)%(p:Y):=rfl
 have hGE:pH ((p:Y)^(i+1)) p f g t (eX p f g h t i).1 (eX p f g h t i).2=(aO (cL t (aM<|jO ((p:Y)^(i+1)) p f (eX p f g h t i).1 (eX p f g h t i).2) p) g p).2:=rfl;have hKE:Aw ((p:Y)^(i+1)) p f g h t (eX p f g h t i).1 (eX p f g h t i).2=(aO (aM<|gh (aM<|jO ((p:Y)^(i+1)) p f (eX p f g h t i).1 (eX p f g h t i).2) (cL (pH ((p:Y)^(i+1)) p f g t (eX p f g h t i).1 (eX p f g h t i).2) h p) p) g p).1:=rfl;have Q:nw f (eX p f g h t i).1 (eX p f g h t i).2=aM (k8 f<|aM<|lC (eX p f g h t i).1 (eX p f g h t i).2):=rfl;have gB:∀b,aG w ((eX p f g h t i).1.getD b 0):=λb=>by have:=v.Gr b;unfold aG at*;omega
 have kB:∀b,aG w ((eX p f g h t i).2.getD b 0):=λb=>by have:=v.Kr b;unfold aG at*;omega
 generalize hG0:(eX p f g h t i).1=d at*;generalize hK0:(eX p f g h t i).2=K at*;generalize IA:(p:Y)^(i+1)=q at*;refine j<|e J<|F J (λo=>?_)<|λo=>?_
 .have o:i<k:=by have o:((i+1:V):Y)<((k+1:V):Y):=aW o;omega
  have gl:=v.Gl;have kl:=v.Kl;have Bm:=acA d K w w G G G gB kB;have T:∀i,aG (2*w+1+u) (I (aM<|lC d K) i 0):=λi=>by rw[<-cG,qK,cG];exact(adL d K w w gB kB G G i).le G
  have hil:Z (aM<|lC d K)<=200:=by have:=pa<|lC d K;rw[Jx]at this;omega
  have W:=af9 f (aM<|lC d K) (2*w+1+u) G G G (λi=>(hu i).le G) T;have r:∀i,aG (2*w+2+u) (I (nw f d K) i 0):=λi=>by rw[Q,<-cG,qK,cG,Ge];exact(((hu i).le (G:u<=2*w+1+u)).sub<|T i).le G
  rw[<-Q]at W;have hLl:Z (jO q p f d K)=Z (nw f d K):=by rw[hE,cT]
  have hLr:∀b,b<Z (nw f d K)->I (jO q p f d K) b 0=I (nw f d K) b 0/q%(p:Y):=λb _=>by rw[hE];exact getD_map (f:=λx=>x/q%(p:Y)) Wm _ b
  have y:rp p (jO q p f d K):=λb=>by rw[hE,getD_map (f:=λx=>x/q%(p:Y)) Wm];exact⟨iP _ G,iR _ G⟩
  have N:=xW (jO q p f d K) p G G G<|λb=>(y b).1;rw[IW y]at N;have tl:=A.tl;have zt:=uQ t (aM<|jO q p f d K) p G G G G A.tc.1 e2.1;have Sq:=wm t (aM<|jO q p f d K) p;have U:=s6 p H.hp H.le (cL t (aM<|jO q p f d K) p) g G G (nk H.pos _ _) A.hg.c A.hg.ne;rw[<-hGE]at U;have hm2:=uQ (pH q p f g t d K) h p G G G G e4.1 A.hh.c.1;have avV:=wm (pH q p f g t d K) h p;have ar2:=IX (aM<|jO q p f d K) (cL (pH q p f g t d K) h p) p G G G G e2.1 (nk H.pos _ _).1;have v5:=pa<|gh (aM<|jO q p f d K) (cL (pH q p f g t d K) h p) p;rw[NU]at v5;have hd2:=zQ p H.hp H.le (aM<|gh (aM<|jO q p f d K) (cL (pH q p f g t d K) h p) p) g G G (kZ H.pos<|Cm H.pos _ _) A.hg.c A.hg.ne;rw[<-hKE,wj e6.2]at hd2;have ha1:=Jt d q (pH q p f g t d K) w G G G gB m (λb=>by have:=e4.1 b;omega);have Pl:=Jt K q (Aw q p f g h t d K) w G G G kB m (λb=>by have:=e6.1 b;omega);rw[agd A q v.Gm G,<-Il]at ha1;rw[agd A q v.Km G,<-MV]at Pl;have hqm:=kV q p (m.sm G)<|(aG.one (a:=(p:Y)) G).sm G;generalize pH q p f g t d K=dg at*;generalize Aw q p f g h t d K=dh at*;generalize jO q p f d K=L at*;generalize nw f d K=D at*;refine dc<|aK<|j<|az<|R<|rc J J Bm<|rc J J W<|z J<|R<|gP ar [] J J (z J<|j<|e J ?_)
  refine az<|bq (α:=V) (λb=>⟨[(0,S .z f),(1,S ar g),(2,S ar h),(3,cU p),(4,O ((k+1:V):Y)),(10,.c<|.P 0 0),(11,S ar t),(12,.c<|.P 2005000 0),(13,.c<|.P 3003000 0),(14,O ((i+1:V):Y)),(15,S .z D),(16,.c<|.X 7000000),(17,O b)],[(0,.box 208 0 [.V (.slice none 0 0),.V<|.slice none 0 0]),(2005000,.box 208 0 [.S .z d,.S .z K]),(3003000,.box 42 0<|av .z q),(7000000,.vec 150 ar<|M b L)],9,[]⟩) (λb=>b<=Z D) (λb=>Z D-b) 0 (bf _) aV ?_;intro b hj;have hl:(M b L).length=b:=bX;refine j<|e J<|F J (λl=>?_)<|λl=>?_
  .have l:b<Z D:=by have l:(b:Y)<(Z D:Y):=aW l;omega
   have ej:af ((b:Y))=b:=cr b;have TZ:=Fh (I D (af<|(b:Y)) 0) q G ((r _).sm G)<|m.sm G;have BI:=acB (I D (af<|(b:Y)) 0/q) p G G (by
    have h1:=r<|af<|(b:Y);have h2:aG (2*w+2+u) (I D (af<|(b:Y)) 0/q):=by have:=Wp (I D (af<|(b:Y)) 0) q;unfold aG at*;omega
    exact h2.sm G)
   refine aE<|j<|az ?_;refine R<|rc J J TZ (z J ?_) (hp:=aF);refine cK<|rc J J BI<|rl ar [_] J J (ra J J J J J J J J J ?_ ?_<|z J ?_)
   .show(_+1+(_+1)/4+192)*8<=_;omega
   .show(_+1)*1<=_;omega
   refine bL<|rt J (hp:=aF)<|a4 (b+1) l (G:Z D-(b+1)<Z D-b)<|Wk.trans (wk (st':=⟨[(0,S .z f),(1,S ar g),(2,S ar h),(3,cU p),(4,O ((k+1:V):Y)),(10,.c<|.P 0 0),(11,S ar t),(12,.c<|.P 2005000 0),(13,.c<|.P 3003000 0),(14,O ((i+1:V):Y)),(15,S .z D),(16,.c<|.X 11005000),(17,O ((b+1:V):Y))],[(0,.box 208 0 [.V (.slice none 0 0),.V<|.slice none 0 0]),(2005000,.box 208 0 [.S .z d,.S .z K]),(3003000,.box 42 0<|av .z q),(11005000,.vec 150 ar<|M (b+1) L)],24,[]⟩) (bM J) ⟨bR J,bR J,bR J,bE J ?_,Wo⟩)<|Wk.trans (gW 7000000 11005000 J J J) aV;refine bh (aD.vec 150 ar) ?_;rw[rR _ b G,hLr b l,ej]
  .have l:b=Z D:=by have l:¬(b:Y)<(Z D:Y):=bc l;omega
   subst l;rw[iY G];refine bt<|aK<|da 7000000 J J J<|bH J J N J ?_;refine R<|rc J J zt<|rc J J U<|z J<|R<|rc J J hm2<|rc J J ar2<|rc J J hd2<|z J ?_;refine R<|rc J J ha1<|rc J J Pl<|z J ?_;refine cK<|rc J J (jn p G G) (rc J J hqm<|z J ?_) (hp:=aF);refine bL<|rt J (hp:=aF)<|a4 (i+1) o Ox<|wk (bM J) ⟨bE J J,bE J J,bE J ?_,Wo⟩;rw[fH,IA];rfl
 .have o:i=k:=by have o:¬((i+1:V):Y)<((k+1:V):Y):=bc o;omega
  subst o;refine bt<|aK ?_;rw[hG0,hK0];exact e J<|bY J J
end
section
variable{p:V}(H:br p)
open Classical in
noncomputable def yw(p:V)(g h:E Y):E Y:=if e:∃t,bx p t/\Z t<Z g/\(fx g:Fx p)∣fx t*fx h-1/\ao c 258 [S ar g,S ar h,cU p] (S ar t)then yb e else[]
include H in
def ar4{g h:E Y}(b:Mon p g)(d:Mon p h)(f:2<=Z g)(i:Z g<=100)(k:h.length<=100)(a:Co (fx g:Fx p) (fx h)):bx p (yw p g h)/\Z (yw p g h)<Z g/\(fx g:Fx p)∣fx (yw p g h)*fx h-1/\ao c 258 [S ar g,S ar h,cU p] (S ar<|yw p g h):=by have e:=arS H b d f i k a;unfold yw;rw[dif_pos e];exact wu e
noncomputable def tn(p k:V)(f:E Y)(l:E (E Y)):E Y×E Y:=eX p f (l.getD 0 []) (jX p l.tail<|Z l.tail) (yw p (l.getD 0 [])<|jX p l.tail<|Z l.tail)<|k-1
noncomputable def sj(p k:V):E Y->E (E Y)->E (E Y)
 |_,[]=>[]
 |f,[_]=>[f.map (dB · ((p:Y)^k))]
 |f,g::h::a=>(tn p k f<|g::h::a).1.map (dB · ((p:Y)^k))::sj p k (tn p k f<|g::h::a).2 (h::a)
structure wN(p:V)(f:E Y)(l:E (E Y)):Prop where
 fm:aH f
 ok:∀g∈l,Mon p g/\2<=g.length
 pr:(fx f:Fx p)=iu p l
 co:l.Pairwise (λx a=>Co (fx x:Fx p)<|fx a)
 fl:f.length=1+dz l
 d9:dz l<=90
def agi:∀l:E (E Y),iu p l=fU l
 |[]=>rfl
 |f::l=>by rw[iu,fU,agi l]
def agj:∀{l:E (E Y)}{g:E Y},g∈l->Z g<=1+dz l
 |x::l,g,h=>by
  rw[dz];rcases bZ.1 h with rfl|h
  .omega
  .have:=agj h;omega
include H
def wN.two{f g h:E Y}{a:E (E Y)}(b:wN p f (g::h::a)):J5 p f g (jX p (h::a) (h::a).length) (yw p g<|jX p (h::a) (h::a).length)/\ao c 258 [S ar g,S ar<|jX p (h::a) (h::a).length,cU p] (S ar<|yw p g<|jX p (h::a) (h::a).length):=by
 let ⟨i,g2⟩:=b.ok g ax;let ⟨t1,t2,t3⟩:=J4 H (l:=h::a) (λx hx=>⟨(b.ok x lj).1,by have:=(b.ok x lj).2;omega⟩) _<|aT _;rw[gQ]at t2 t3;let ⟨t,h2⟩:=b.ok h ax;let ⟨c1,_⟩:=jP.1 b.co;have u:dz (g::h::a)=(Z g-1)+dz (h::a):=rfl;have k:dz (h::a)=(h.length-1)+dz a:=rfl;have v:=b.d9;have w:=b.fl;have d:Co (fx g:Fx p) (fx<|jX p (h::a) (h::a).length):=by rw[t2,agi];exact afJ H c1
 let ⟨m,n,o,s⟩:=ar4 H i t1 g2 G G d;refine⟨⟨H,b.fm,i,t1,g2,G,G,G,G,?_,m,n,o⟩,s⟩;rw[b.pr,t2];rfl
def wN.next{f g h:E Y}{a:E (E Y)}(b:wN p f (g::h::a)){k:V}(d:1<=k):vi p f g (jX p (h::a) (h::a).length) (tn p k f<|g::h::a).1 (tn p k f<|g::h::a).2 k/\wN p (tn p k f<|g::h::a).2 (h::a):=by let ⟨T,_⟩:=b.two H;have I:=T.all<|k-1;rw[(G:k-1+1=k)]at I;have I:vi p f g (jX p (h::a) (h::a).length) (tn p k f<|g::h::a).1 (tn p k f<|g::h::a).2 k:=I;let ⟨t1,t2,t3⟩:=J4 H (l:=h::a) (λx hx=>⟨(b.ok x lj).1,by have:=(b.ok x lj).2;omega⟩) _<|aT _;rw[gQ]at t2 t3;have i:dz (g::h::a)=(Z g-1)+dz (h::a):=rfl;have m:=b.d9;exact⟨I,I.Km,λx hx=>b.ok x lj,by rw[I.Kp,t2],(jP.1 b.co).2,by rw[I.Kl,t3],G⟩
def agk{k:V}(v:1<=k):∀(l:E (E Y))(f:E Y),wN p f l->Gd p k f l (sj p k f l)
 |[],f,b=>by
  refine⟨J,λi n=>absurd n ax,?_⟩;have o:f=[1]:=by
   have w:=b.fl;have s:=b.fm.2;match f,w with
   |[c],_=>rw[show c=1 from s]
  rw[o,NW];exact Cg.refl _ _
 |[g],f,b=>by
  have d:(1:Y)<(p:Y)^k:=by obtain⟨j,rfl⟩:∃j,k=j+1:=⟨k-1,G⟩;have:=H.hp.1;have s:(0:Y)<(p:Y)^j:=nT G;have x:=hZ (G:(1:Y)<=(p:Y)^j) (G:(0:Y)<=p);rw[fH];omega
  have a:(p:Y)∣(p:Y)^k:=by obtain⟨j,rfl⟩:∃j,k=j+1:=⟨k-1,G⟩;rw[fH];exact CK _ _
  have C:=b.fl;let ⟨L,g2⟩:=b.ok g ax;have P:dz [g]=Z g-1:=rfl;refine⟨J,λi n=>?_,?_⟩
  .have t:i=0:=by simp at n;omega
   subst t;show aH (f.map (dB · ((p:Y)^k)))/\(f.map (dB · ((p:Y)^k))).length=Z g/\(fx (f.map (dB · ((p:Y)^k))):Fx p)=fx g/\∀j,dB ((f.map (dB · ((p:Y)^k))).getD j 0) ((p:Y)^k)=(f.map (dB · ((p:Y)^k))).getD j 0;refine⟨CJ d b.fm,by rw[cT];omega,?_,λj=>?_⟩
   .have o:(fx f:Fx p)=fx g:=by rw[b.pr,iu,iu,mul_one]
    rw[<-o];refine Oo<|Cg.of λi=>?_;rw[cG,cG,qV _ G,<-th _ a,Ad G,th _ a]
   .rw[qV _ G];exact OI<|Ad G _
  .show Cg _ (ps f) (ps (f.map (dB · ((p:Y)^k)))*1);rw[PS.mul_one];exact Cg.of λi=>by rw[cG,cG,qV _ G,Ad G]
 |g::h::r,f,b=>by
  let ⟨I,B⟩:=b.next H v;have u:=agk v (h::r) _ B;have d:(1:Y)<(p:Y)^k:=by obtain⟨j,rfl⟩:∃j,k=j+1:=⟨k-1,G⟩;have:=H.hp.1;have s:(0:Y)<(p:Y)^j:=nT G;have x:=hZ (G:(1:Y)<=(p:Y)^j) (G:(0:Y)<=p);rw[fH];omega
  have a:(p:Y)∣(p:Y)^k:=by obtain⟨j,rfl⟩:∃j,k=j+1:=⟨k-1,G⟩;rw[fH];exact CK _ _
  rw[sj];generalize (tn p k f<|g::h::r).1=m at*;generalize (tn p k f<|g::h::r).2=K at*;refine⟨by rw[iI,u.len];rfl,λi n=>?_,?_⟩
  .cases i with
   |zero=>
    show aH (m.map (dB · ((p:Y)^k)))/\(m.map (dB · ((p:Y)^k))).length=Z g/\(fx (m.map (dB · ((p:Y)^k))):Fx p)=fx g/\∀j,dB ((m.map (dB · ((p:Y)^k))).getD j 0) ((p:Y)^k)=(m.map (dB · ((p:Y)^k))).getD j 0
    refine⟨CJ d I.Gm,by rw[cT,I.Gl],?_,λj=>?_⟩
    .rw[<-I.Gp];refine Oo<|Cg.of λi=>?_;rw[cG,cG,qV _ G,<-th _ a,Ad G,th _ a]
    .rw[qV _ G];exact OI<|Ad G _
   |succ i=>exact u.ok i (by simp only[iI]at n⊢;omega)
  .show Cg _ (ps f) (ps (m.map (dB · ((p:Y)^k)))*pn (sj p k K<|h::r));refine I.pr.trans<|Cg.mul (Cg.of λi=>?_) u.pr;rw[cG,cG,qV _ G,Ad G]
omit H in
def ar5{l:E (E Y)}{i:V}(h:i+1<Z l):∃b a,ay i l=l.getD i []::b::a/\ay (i+1) l=b::a:=by
 have f:ay i l=l.getD i []::ay (i+1) l:=by rw[rJ G,aN,cO G];rfl
 have d:ay (i+1) l=l.getD (i+1) []::ay (i+2) l:=by rw[rJ h,aN,cO h];rfl
 exact⟨_,_,by rw[f,d],d⟩
def ar6{f:E Y}{l:E (E Y)}(qY:wN p f l){k u w:V}(k1:1<=k)(kk:k<=1000)(hu:∀i,aG u (I f i 0))(hw:aG w ((p:Y)^k))(u9:u<=1000)(w9:w<=u)(w1:1<=w):ao c 179 [S .z f,S (.sl ar) l,cU p,O k] (S (.sl .z)<|sj p k f l):=by
 have BX:=H.hp.1;have agc:=H.le;have W:(0:Y)<(p:Y)^k:=nT G;have hll:Z l<=90:=by have h1:=(VQ (l:=l) λg hg=>(qY.ok g hg).2).1;have a:=qY.d9;omega
 refine aL Tryz.func179 ?_;refine e J<|bH J J (UW p k G G) J<|R<|gP (.sl .z) [] J J (z J<|j<|e J ?_);refine az<|bq (α:=V×E Y×E (E Y)) (λy=>⟨[(0,S .z y.2.1),(1,S (.sl ar) l),(2,cU p),(3,O k),(9,.c<|.P 1003000 0),(10,.c<|.X 2000000),(11,O y.1)],[(1003000,.box 42 0<|av .z<|(p:Y)^k),(2000000,.vec 161 (.sl .z) y.2.2)],4,[]⟩) (λy=>wN p y.2.1 (ay y.1 l)/\y.2.2++sj p k y.2.1 (ay y.1 l)=sj p k f l/\Z y.2.2<=y.1/\y.1<=Z l/\(l≠[]->y.1<Z l)/\∀i,aG u (I y.2.1 i 0)) (λy=>Z l-y.1) (0,f,[]) ⟨qY,J,aT _,bf _,λh=>cR.2 h,hu⟩ (wk (bM J) ⟨bE J J,bR J,A⟩) ?_;rintro⟨i,L,o⟩ ⟨B,s,b3,b4,b5,N⟩;simp only at B s b3 b4 b5 N;have dF:Z L<=91:=by have:=B.fl;have:=B.d9;omega
 refine j<|e J<|F J (λn=>?_)<|λn=>?_
 .have n:i+1<Z l:=by have n:(i:Y)+1<(Z l:Y):=aW n;omega
  let ⟨b,r,U,q⟩:=ar5 n;rw[U]at B s;let ⟨T,hbz⟩:=B.two H;let ⟨Q,B'⟩:=B.next H k1;have t:=arQ H (l:=b::r) (λx hx=>⟨(B.ok x lj).1,by have:=(B.ok x lj).2;omega⟩) (by have:=B'.d9;omega) (by rw[<-q];simp;omega);have v:=arV T hbz k1 kk N hw G G w1;have hE:eX p L (l.getD i []) (jX p (b::r)<|Z<|b::r) (yw p (l.getD i [])<|jX p (b::r)<|Z<|b::r) (k-1)=tn p k L (l.getD i []::b::r):=rfl;rw[hE]at v;rw[sj]at s;generalize hG:(tn p k L<|l.getD i []::b::r).1=C at*;generalize hK:(tn p k L<|l.getD i []::b::r).2=K at*;have gB:∀i,aG w (I C i 0):=λi=>by have:=Q.Gr i;unfold aG at*;omega
  have kB:∀i,aG u (K.getD i 0):=λi=>by have:=Q.Kr i;exact aG.le (by unfold aG at*;omega:aG w (K.getD i 0)) w9
  have gl:Z C<=100:=by rw[Q.Gl];exact T.lg
  have d:(1:Y)<(p:Y)^k:=by have:=Q.Gr<|Z C-1;rw[Q.Gm.2]at this;omega
  have m:=UY C ((p:Y)^k) w G G W gB hw;rw[(CJ d Q.Gm).trim]at m;have ei:af ((i:Y))=i:=cr i;have Bi:(I l (af<|(i:Y))<|ET.dG<|.sl ar)=l.getD i []:=bh (λfw=>l.getD fw []) ei;have es:ay (af<|(i:Y)+1) (M (Z l) l)=b::r:=by rw[gQ,(G:af ((i:Y)+1)=i+1),q]
  rw[<-Bi]at v;have t:ao c 215 [S (.sl ar) (ay (af<|(i:Y)+1)<|M (Z l) l),cU p] (S ar<|jX p (b::r)<|Z<|b::r):=by rw[es];exact t
  refine aE<|j<|az ?_;refine R<|rc J J t (rc J J v<|z J ?_) (hp:=aF);refine R<|rc J J m<|rl (.sl .z) [_] J J (ra J J J J J J J J J ?_ ?_<|z J<|rt J ?_)
  .show(Z o+1+(Z o+1)/4+192)*24<=_;omega
  .show(Z o+1)*1<=_;omega
  refine bL<|rt J (hp:=aF)<|a4 (i+1,K,o++[C.map (dB · ((p:Y)^k))]) ⟨?_,?_,?_,?_,?_,kB⟩ ?_<|Wk.trans (wk (st':=⟨[(0,S .z K),(1,S (.sl ar) l),(2,cU p),(3,O k),(9,.c<|.P 1003000 0),(10,.c<|.X 6006000),(11,O ((i+1:V):Y))],[(1003000,.box 42 0<|av .z<|(p:Y)^k),(6006000,.vec 161 (.sl .z)<|o++[C.map (dB · ((p:Y)^k))])],16,[]⟩) (bM J)<|ow J)<|Wk.trans (gW 2000000 6006000 J J J) aV
  .show wN p K (ay (i+1) l);rw[q];exact B'
  .show(o++[C.map (dB · ((p:Y)^k))])++sj p k K (ay (i+1) l)=_;rw[q,<-s,lP];rfl
  .show Z (o++[_])<=i+1;simp;omega
  .show i+1<=_;omega
  .intro _;exact n
  .show Z l-(i+1)<Z l-i;omega
 .have n:¬i+1<Z l:=by have n:¬(i:Y)+1<(Z l:Y):=bc n;omega
  refine bt<|aK<|j<|e J<|F J (λa=>?_)<|λa=>?_
  .have a:0<Z l:=by have a:(Z l:Y)>0:=aW a;omega
   have hi:=b5<|cR.1 a;have U:ay i l=[l.getD i []]:=by rw[rJ G,tK G,aN,cO G];rfl
   rw[U]at B s;have d:(1:Y)<(p:Y)^k:=by obtain⟨D,rfl⟩:∃D,k=D+1:=⟨k-1,G⟩;have a:(0:Y)<(p:Y)^D:=nT G;have h3:=hZ (G:(1:Y)<=(p:Y)^D) (G:(0:Y)<=p);rw[fH];omega
   have m:=UY L ((p:Y)^k) u G G W N<|hw.le w9;rw[(CJ d B.fm).trim]at m;refine cK<|rc J J m<|rl (.sl .z) [_] J J (ra J J J J J J J J J ?_ ?_<|z J ?_)
   .show(Z o+1+(Z o+1)/4+192)*24<=_;omega
   .show(Z o+1)*1<=_;omega
   refine aK<|da 6005000 J J J<|e J<|bY J ?_;rw[<-s];rfl
  .have a:l=[]:=gK (by have a:¬(Z l:Y)>0:=bc a;omega);subst a;refine aE<|da 2000000 J J J<|e J<|bY J ?_;rw[List.drop_nil]at s;rw[<-s];show S (.sl .z) o=_;rw[sj,ik]
end
end Go.El
namespace Go.El
open Go Go.Proofs Go.RowKit
def ar8 a b:dK (a.num*(b.den:Y)) (b.num*(a.den:Y))=oa a b:=by
 have g:=Rat.lt_iff a b;have f:=Rat.lt_iff b a;unfold dK oa;by_cases c1:a<b
 .rw[q c1,q<|g.1 c1]
 .rw[y c1,y<|λh=>c1<|g.2 h];by_cases d:b<a
  .rw[q d];first|rw[q (f.1 d)]|rw[y (by have:=f.1 d;omega)]
  .rw[y d];first|rw[y (λh=>d<|f.2 h)]|rw[q (by have:=mt f.2 d;have:=mt g.2 c1;omega)]
def ar9{k}(s:k<=1000000000) a(t:Z a<=1000)(f:I a (Z a-1) 0≠0)(g:∀i,QS k (I a i 0))(l:a≠[]):ao c 35 [S .q a] (cB ae):=by
 refine aL Tryz.func35 ?_;have u:=cR.2 l;refine e J<|j<|e J ?_;refine az<|bq (α:=V) (λi=>⟨[(0,S .q a),(3,O i)],[],4,[]⟩) (λi=>i<=Z a) (λi=>Z a-i) 0 (bf _) aV ?_;intro i v;refine j<|e J<|F J (λb=>?_)<|λb=>?_
 .have b:i<Z a:=by have b:(i:Y)<(Z a:Y):=aW b;omega
  have m:=JM (k:=k) (I a (af<|(i:Y)) 0) (g _) G;refine aE<|j<|az<|R<|rc J J m (z J<|F J (λd=>by cases d)<|λd=>dc<|bL ?_) (hp:=aF);exact rt J<|a4 (i+1) b qy aV
 .refine bt<|aK ?_;have n:af ((Z a:Y)-1)=Z a-1:=G;have o:=M7<|I a (af<|(Z a:Y)-1) 0;refine R (rg 19 J J (λh=>?_)<|λ_=>gO J J J J J o (z J<|bY J<|bh cB ?_) (hp:=aF))
  .exfalso;have h:((Z a:Y)==0)=ae:=h;have:=eq_of_beq h;omega
  .show(eV (I a (af<|(Z a:Y)-1) 0).num !=0)=ae;rw[n];exact bne_iff_ne.2 λp=>f<|yh<|u7.1 p
def ar'{k}(s:k<=1000000000) a b(t:Z a<=1000)(u:Z b<=1000)(n:∀i,QS k (I a i 0))(o:∀i,QS k (I b i 0)):ao c 181 [S .q a,S .q b] (cB<|decide<|jt a b<0):=by
 refine aL Tryz.func181 ?_;refine e J<|dj<|e J<|F J (λh=>?_)<|λh=>aE ?_
 .have h:=zK h;refine e J<|bV<|cQ<|fg J<|bh cB ?_;rw[jt,q G,py];refine decide_eq_decide.2 ⟨λf=>by rw[q f];decide,λf=>?_⟩;split at f
  .assumption
  .split at f<;>omega
 .have h:(Z a:Y)=(Z b:Y):=xS h;rw[show jt a b=qX a b (Z a)by rw[jt,y G]];refine dj<|e J ?_;refine az<|bq (α:=V) (λk=>⟨[(0,S .q a),(1,S .q b),(5,O<|(k:Y)-1)],[],4,[]⟩) (λk=>k<=Z a/\qX a b (Z a)=qX a b k) (λk=>k) (Z a) ⟨aT _,J⟩ aV ?_;rintro i ⟨v,hc⟩;refine dj (e J<|F J (λg=>?_)<|λg=>?_)
  .have g:0<i:=by have g:(i:Y)-1>=0:=aW g;omega
   obtain⟨j,rfl⟩:∃j,i=j+1:=⟨i-1,G⟩;have p:af (((j+1:V):Y)-1)=j:=G;have m:ao c 216 [aQ (I a (af<|((j+1:V):Y)-1) 0),aQ<|I b (af<|((j+1:V):Y)-1) 0] (O<|oa (I a j 0)<|I b j 0):=by rw[p,<-ar8];exact aqd (k:=k) _ _ (n _) (o _) G
   rw[qX]at hc;rw[hc];generalize oa (I a j 0) (I b j 0)=l at*;refine aE<|dj<|az<|R<|rc J J m (z J<|F J (λd=>?_)<|λd=>dc<|bL ?_) (hp:=aF)
   .have d:l≠0:=bne_iff_ne.1 d;refine R<|rc J J m (z J<|bV ?_) (hp:=aF);repeat(first|refine cQ ?_|refine lQ ?_|refine mq ?_)
    refine fg J ?_;rw[q d]
   .have d:l=0:=by
     have d:(l !=0)=false:=d;by_cases f:l=0
     .exact f
     .rw[bne_iff_ne.2 f]at d;cases d
    refine rt J (hp:=aF)<|a4 j ⟨G,?_⟩ sY<|wk ⟨sR J,sR J,sE J ?_,A⟩ A
    .exact y<|λf=>f d
    .exact jb (G:((j+1:V):Y)-1-1=(j:Y)-1)
  .have g:i=0:=by have g:¬(i:Y)-1>=0:=bc g;omega
   subst g;rw[hc];exact bt<|aK<|e J<|c7 J
end Go.El
