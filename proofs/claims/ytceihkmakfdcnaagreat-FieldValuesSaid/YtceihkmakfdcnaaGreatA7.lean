/- Contracts: modular numbers of the reference; lists of numbers modulo p. Own work; no condition. -/
import Derived.Test.YtceihkmakfdcnaaGreatA6
import Derived.Test.YtceihkmakfdcnaaGreatA5
import Derived.Test.YtceihkmakfdcnaaGreatA3
set_option linter.all false
set_option maxHeartbeats 16000000
set_option maxRecDepth 100000
open Bool renaming false->ah,true->af
open Go.Builtin renaming copy_->YQ
open Go.El renaming cS->I,rr->N,asM->R,Pb->U,iO->o,re->s,cI->j,rb->w,Cy->y,mV->q
open Go.Proofs.Tryz renaming prog->z
open Int renaming toNat->ae,natAbs->aC,gcd->gP,ediv_mul_cancel->ajY
open List renaming getD->E,length->Z,take->h,range->cc,replicate->bp,getElem?_append->ajP,map->Rn
open Nat renaming Coprime->Rg
open Nat.Coprime renaming mul_right->ajZ
open Option renaming some->ad
open Rat renaming divInt->iU,inv_def->YC
open _root_ renaming Nat->Y,Int->O,List->V,Rat->D
namespace Go.El
open Go Go.Proofs Go.RowKit
def ajG(a n p:Y)(B:n<18446744073709551616)(c:0<p)(v:p<=4294967296):al z 284 [cU a,cU n,cU p] (cU<|s8 a n p):=by
 refine aR Tryz.func284 ?_;have C:(p:O)≠0:=G;refine N J<|N J (hp:=aF)<|N J (hp:=aF)<|U<|N J ?_;refine R<|aY (α:=Y×Y×Y×Y) (λx=>⟨[(2,cU p),(7,cU x.2.1),(8,cU x.2.2.1),(9,cU x.2.2.2)],[],4,[]⟩) (λx=>qJ x.1 x.2.1 x.2.2.1 x.2.2.2 p=s8 a n p/\x.2.2.2<2^x.1/\x.2.1<p/\x.2.2.1<p/\x.2.2.2<18446744073709551616) (λx=>x.2.2.2) (64,1%p,a%p,n) ⟨J,B,fb _ c,fb _ c,B⟩ (wk ⟨sR J,sE J ?_,sE J ?_,sR J,e⟩ e) ?_
 .exact bL<|lN 1 p
 .exact bL<|lN a p
 .rintro⟨f,r,d,m⟩ ⟨g,hm,A,k,i⟩;simp only at g hm A k i;refine U (N J<|y J (λl=>?_)<|λl=>?_)
  .have l:(m:O)>0:=aK l;cases f with
   |zero=>rw[py]at hm;omega
   |succ f=>
    have t:m/2<2^f:=by rw[fF]at hm;omega
    rw[qJ,b G]at g
    have F:(m:O).tmod 2=((m%2:Y):O):=lN m 2
    refine aA<|U<|R<|U<|N J (hp:=aF)<|y J (λu=>?_)<|λu=>?_
    .have u:(m:O).tmod 2=1:=eq_of_beq u;rw[aq G]at g;refine rt J (hp:=aF) (aO<|rt J (hp:=aF)<|aX<|rt J (hp:=aF)<|aG (f,r*d%p,d*d%p,m/2) ⟨g,t,fb _ c,fb _ c,Ll⟩ Lm<|wk ⟨sR J,sE J ?_,sE J ?_,sE J ?_,e⟩ e)
     .exact bL<|Du r d p A k v
     .exact bL<|Du d d p k k v
     .exact bL<|Ay m i
    .have u:(m:O).tmod 2≠1:=nf u;rw[b G]at g;refine aA (rt J (hp:=aF)<|aX<|rt J (hp:=aF)<|aG (f,r,d*d%p,m/2) ⟨g,t,A,fb _ c,Ll⟩ Lm<|wk ⟨sR J,sR J,sE J ?_,sE J ?_,e⟩ e)
     .exact bL<|Du d d p k k v
     .exact bL<|Ay m i
  .have l:¬(m:O)>0:=aT l;have:m=0:=G;subst this;refine a6<|aO<|N J<|bQ J ?_;rw[<-g];cases f with
   |zero=>rfl
   |succ f=>rw[qJ,aq J]
def Q4 a p(f:0<=a/\a<p)(k:a≠0)(g:2<=p)(l:p<=2147483648):al z 248 [cU a,cU p] (.t [(ah,[.I .u64 (iq (ae a) (ae p):Y)]),(ah,[.I .i64 0])]):=by
 obtain⟨a,rfl⟩:=Av f.1;obtain⟨p,rfl⟩:=Av (G:0<=p);rw[bW,bW];refine aR Tryz.func248 ?_;have i:(p:O)≠0:=G;refine N J<|U<|N J (hp:=aF)<|y J (λd=>?_)<|λd=>aA ?_
 .exfalso;have d:(a:O).tmod (p:O)=0:=eq_of_beq d;rw[lN,ou G]at d;omega
 .have e:al z 284 [cU a,.c (num .u64<|(p:O)-2).1,cU p] (cU<|s8 a (p-2) p):=by rw[show(AV.c (num .u64<|(p:O)-2).1)=cU ((p-2:Y):O)from bL<|(wrap_u64 _ G G).trans G];exact ajG a (p-2) p G G G
  exact bD J J e J<|cx J
def GY(a:V O)(i:Y):al z 285 [I au a,j i] (cU<|E a i 0):=by
 refine aR Tryz.func285 ?_;refine N J<|U<|N J<|y J (λh=>?_)<|λh=>aA ?_
 .have h:(i:O)<(Z a:O):=aK h;refine N J (hp:=aF)<|bI<|cA<|dR J<|bL ?_;rw[bW]
 .have h:¬(i:O)<(Z a:O):=aT h;refine N J<|bQ J<|bL ?_;rw[aV,jQ G];rfl
def md(p:O)(a:V O):V O:=a.map (·%p)
def wC p a:(md p a).length=Z a:=cR _
def getD_map{f:O->O}(c:f 0=0) a i:E (a.map f) i 0=f (E a i 0):=by
 rw[aV,iT,aV];cases a[i]? with
 |none=>exact c.symm
 |some x=>rfl
def GZ p a i:(md p a).getD i 0=E a i 0%p:=getD_map (gw p) a i
def AE{p}(c:0<p) a:rp p (md p a):=λi=>by rw[GZ];exact⟨g6 _ G,g7 _ c⟩
def G0{p}{a}(c:rp p a):md p a=a:=by refine sL (wC p a)<|λi f d=>?_;have:=c i;rw[aV,cH d,qe]at this;simp only[md,z2];exact gk this.1 this.2
def qM(a:V O) i(c:i<Z a):h (i+1) a=h i a++[E a i 0]:=by rw[rv,aV,cH c];rfl
def wD(a:V O) p(t:Z a<=1000000)(m:0<p)(u:p<18446744073709551616)(n:∀i,0<=E a i 0):al z 203 [I au a,cU p] (I au<|aS<|md p a):=by
 refine aR Tryz.func203 ?_;have r:=wC p a;refine N J<|w<|fg au [] J J (s J<|U<|N J ?_);refine R<|aY (α:=Y) (λi=>⟨[(0,I au a),(1,cU p),(5,.c<|.X 1000000),(6,cI i)],[(1000000,.vec 150 au<|(md p a).take i)],3,[]⟩) (λi=>i<=Z a) (λi=>Z a-i) 0 (be _) aH ?_
 .intro i v;refine U (N J<|y J (λd=>?_)<|λd=>?_)
  .have d:i<Z a:=by have d:(i:O)<(Z a:O):=aK d;omega
   have x:Z ((md p a).take i)=i:=bX;refine aA<|U<|R<|bT ?_;refine rl au [_] J J (hp:=aF) (ra J J J J J J J J J ?_ ?_<|s J ?_)
   .show(_+1+(_+1)/4+192)*8<=_;omega
   .show(_+1)*1<=_;omega
   refine aX<|rt J<|aG (i+1) d oq<|Wk.trans (wk (st':=⟨[(0,I au a),(1,cU p),(5,.c<|.X 4008000),(6,cI ((i+1:Y):O))],[(4008000,.vec 150 au<|(md p a).take<|i+1)],8,[]⟩) (bJ J) ⟨bE J ?_,e⟩)<|Wk.trans (fa 1000000 4008000 J J J) aH;refine a8 (aN.vec 150 au) ?_;rw[qM _ i G,GZ,bW,kf<|n i]
  .have d:i=Z a:=by have d:¬(i:O)<(Z a:O):=aT d;omega
   subst d;refine a6<|aO<|c6 1000000 J J J ?_;generalize A:md p a=L at*;refine U<|R<|aY (α:=Y) (λk=>⟨[(5,I au<|h k L)],[],10,[]⟩) (λk=>k<=Z L/\fq L k=fq L (Z L)) (λk=>k) (Z L) ⟨a7 _,J⟩ (wk ⟨sE J ?_,e⟩ e) ?_
   .rw[iK (G:Z L<=Z a),fv];rfl
   rintro k ⟨B,f⟩;have g:(h k L).length=k:=bX;refine U<|w ?_;refine rg 26 J J (λd=>?_)<|λd=>?_
   .have d:0<k:=by have d:(((h k L).length:Y):O)>0:=aK d;rw[g]at d;omega
    obtain⟨j,rfl⟩:∃j,k=j+1:=⟨k-1,G⟩;have l:ae (((h (j+1) L).length:O)-1)=j:=by rw[g];omega
    have ev:(h (j+1) L).getD j 0=E L j 0:=by rw[aV,EU G,<-aV]
    refine s J (hp:=aF)<|y J (λh2=>?_)<|λh2=>?_
    .have h2:E L j 0=0:=by have h2:(h (j+1) L).getD (ae<|((h (j+1) L).length:O)-1) 0=0:=eq_of_beq h2;rwa[l,ev]at h2
     refine aA<|R<|rt J (hp:=aF)<|eH<|aG j ⟨G,?_⟩ rQ<|wk ⟨sE J ?_,e⟩ e
     .rw[<-f,fq,aq h2]
     .rw[l];simp only[o5,List.take_take];rw[qf G]
    .have h2:E L j 0≠0:=by have h2:(h (j+1) L).getD (ae<|((h (j+1) L).length:O)-1) 0≠0:=nf h2;rwa[l,ev]at h2
     refine a6<|aO<|N J<|bQ J ?_;unfold aS;rw[<-f,fq,b h2]
   .have d:k=0:=by have d:¬(((h k L).length:Y):O)>0:=aT d;rw[g]at d;omega
    subst d;refine s J<|y J (λh2=>oz)<|λ_=>?_;refine a6<|aO<|N J<|bQ J ?_;unfold aS;rw[<-f];rfl
def tb a b p(F:Z a<=1000)(H:Z b<=1000)(d:0<p)(r:p<=2147483648)(t:rp p a)(u:rp p b):al z 249 [I au a,I au b,cU p] (I au<|cG a b p):=by
 refine aR Tryz.func249 ?_;have k:a=[]\/b=[]->I au []=I au (cG a b p):=λh=>by rw[cG,aq h]
 refine N J<|U<|w ?_;refine rg 13 J J (λh=>?_)<|λh=>?_
 .have h:a=[]:=by simpa using h
  refine s J<|y J (λh2=>?_)<|λh2=>oz;exact N J<|bI<|cA<|gZ cq J<|bf.trans (bf.nil au)<|bf.of_eq<|k<|.inl h
 .have h:a≠[]:=by simpa using h
  refine s J<|y J (λh2=>?_)<|λh2=>?_
  .have h2:b=[]:=by simpa using h2
   exact N J<|bI<|cA<|gZ cq J<|bf.trans (bf.nil au)<|bf.of_eq<|k<|.inr h2
  .have h2:b≠[]:=by simpa using h2
   have K:=cQ.2 h;have L:=cQ.2 h2;refine aA<|w ?_;refine rm au (Z a+Z b-1) J J J J J J (lM .u64) G ?_ ?_ ?_
   .show _*8<=_;omega
   .show _*1<=_;omega
   refine s J<|U<|N J ?_;refine R<|aY (α:=Y) (λi=>⟨[(0,I au a),(1,I au b),(2,cU p),(7,.c<|.X 2006000),(8,cI i)],[(2006000,.vec 150 au<|lO a b p i)],4,[]⟩) (λi=>i<=Z a) (λi=>Z a-i) 0 (be _) aH ?_;intro i M;have v:=GM a b p i;refine U<|N J<|y J (λf=>?_)<|λf=>?_
   .have f:i<Z a:=by have f:(i:O)<(Z a:O):=aK f;omega
    refine aA<|U<|R<|N J ?_;refine R<|aY (α:=Y) (λj=>⟨[(0,I au a),(1,I au b),(2,cU p),(7,.c<|.X 2006000),(8,cI i),(9,cI j)],[(2006000,.vec 150 au<|qK a b p i j<|lO a b p i)],7,[]⟩) (λj=>j<=Z b) (λj=>Z b-j) 0 (be _) aH ?_;intro j P;have x:=GL a b p i (lO a b p i) j;refine U<|N J<|y J (λg=>?_)<|λg=>?_
    .have g:j<Z b:=by have g:(j:O)<(Z b:O):=aK g;omega
     have A:=t i;have B:=u j;have gr:=Lo d (a:=a) (b:=b) i (GN a b d i) j<|i+j;have l:ae ((i:O)+(j:O))=i+j:=G;refine aA<|U<|R<|rt J (hp:=aF) ?_;refine aX<|rt J<|aG (j+1) g QP<|wk (bJ J) ⟨bE J ?_,e⟩;refine a8 (aN.vec 150 au) ?_;rw[qK,l,<-X0 _ _ _ p gr A B r];rfl
    .have g:j=Z b:=by have g:¬(j:O)<(Z b:O):=aT g;omega
     subst g;exact a6<|aX<|rt J<|aG (i+1) f oq<|wk (bJ J) ⟨bE J J,e⟩
   .have f:i=Z a:=by have f:¬(i:O)<(Z a:O):=aT f;omega
    subst f;have m:=GN a b d<|Z a;have n:=wD (lO a b p<|Z a) p G d G<|λi=>(m i).1;rw[G0 m]at n;refine a6<|aO<|c6 2006000 J J J<|bD J J n J<|bQ J ?_;rw[cG,hY<|λC=>C.elim h h2]
def fG(a c:V O)(p:O):V O:=(cc<|max (Z a)<|Z c).map λi=>(E a i 0+p-E c i 0)%p
def Lz a c p:Z (fG a c p)=max (Z a) (Z c):=by simp[fG]
def AF{p}(c:0<p) a d:rp p (fG a d p):=λi=>by
 unfold fG;rw[aV,iT];by_cases h:i<max (Z a) (Z d)
 .rw[kS h];exact⟨g6 _ G,g7 _ c⟩
 .rw[jQ bX];exact⟨eO _,c⟩
def G3 a d p(F:Z a<=1000)(H:Z d<=1000)(m:0<p)(P:p<=2147483648)(u:rp p a)(v:rp p d):al z 252 [I au a,I au d,cU p] (I au<|aS<|fG a d p):=by
 refine aR Tryz.func252 ?_;generalize hM:max (Z a) (Z d)=M;have B:M<=1000:=G;let L:=(cc M).map λi=>E a i 0+p-E d i 0
 have K:Z L=M:=by simp[L]
 have g:∀i,i<M->E L i 0=E a i 0+p-E d i 0:=λi x=>by simp only[L];rw[aV,iT,kS x];rfl
 have n:md p L=fG a d p:=by simp only[L,md,fG,LA,hM];rfl
 have r:∀i,0<=E L i 0:=λi=>by
  by_cases f:i<M
  .rw[g i f];have C:=u i;have h2:=v i;omega
  .rw[aV,jQ G];exact eO _
 clear_value L;refine N J<|w<|fg au [] J J (s J<|U<|N J ?_);refine R<|aY (α:=Y) (λi=>⟨[(0,I au a),(1,I au d),(2,cU p),(7,.c<|.X 1000000),(8,j i)],[(1000000,.vec 150 au<|h i L)],3,[]⟩) (λi=>i<=M) (λi=>M-i) 0 (be _) aH ?_;intro i x;have Q:(h i L).length=i:=bX;by_cases k:i<M
 .refine jk ⟨[(0,I au a),(1,I au d),(2,cU p),(7,.c<|.X 1000000),(8,j i)],[(1000000,.vec 150 au<|h i L)],4,[]⟩ ?_ (λl=>w<|rg 14 J J (λf=>s J<|y J (λ_=>cZ<|dM l aH)<|λh2=>oz)<|λf=>s J<|y J (λ_=>cZ<|dM l aH)<|λh2=>?_)
  .have C:=u i;have h2:=v i;refine U<|R<|bT ?_;refine rc J J (GY a i)<|rc J J (GY d i) ?_;refine rl au [_] J J (ra J J J J J J J J J ?_ ?_<|s J ?_)
   .show(_+1+(_+1)/4+192)*8<=_;omega
   .show(_+1)*1<=_;omega
   refine aX<|rt J<|aG (i+1) k wc<|Wk.trans (wk (st':=⟨[(0,I au a),(1,I au d),(2,cU p),(7,.c<|.X 4011000),(8,j ((i+1:Y):O))],[(4011000,.vec 150 au<|h (i+1) L)],8,[]⟩) (bJ J) ⟨bE J ?_,e⟩)<|Wk.trans (fa 1000000 4011000 J J J) aH;refine a8 (aN.vec 150 au) ?_;rw[qM _ i G,g i k,wrap_u64 (E a i 0+p) G G,wrap_u64 _ G G]
  .exfalso;have f:¬(i:O)<(Z a:O):=aT f;have h2:¬(i:O)<(Z d:O):=aT h2;omega
 .have t:i=M:=by omega
  subst t;have A:=wD L p G m G r;rw[n]at A;refine U<|w<|rg 14 J J (λf=>?_)<|λf=>?_
  .exfalso;have f:(i:O)<(Z a:O):=aK f;omega
  .refine s J (y J (λh2=>?_)<|λh2=>?_)
   .exfalso;have h2:(i:O)<(Z d:O):=aK h2;omega
   .rw[iK G];exact a6<|aO<|c6 1000000 J J J<|bD J J A J<|cx J
def bs(p:O)(a:V O):Prop:=rp p a/\can a
def Yj(a:V O):∀n i,fq a n<=i->i<n->E a i 0=0
 |0,i,_,d=>by omega
 |n+1,i,c,h2=>by
  rw[fq]at c;split at c
  .rename_i d;by_cases f:i=n
   .rw[f];exact d
   .exact Yj a n i c G
  .omega
def G4(a:V O) n i:(h n a).getD i 0=if i<n then E a i 0 else 0:=by
 rw[aV,Fl];split
 .rw[aV]
 .rfl
def eK(a:V O){i}(c:Z a<=i):E a i 0=0:=by rw[aV,jQ c];rfl
def pG a:ps (aS a)=ps a:=PS.ext λi=>by
 rw[cw,cw,aS,G4];split
 .rfl
 .rename_i h;by_cases e:i<Z a
  .exact(Yj a (Z a) i G e).symm
  .exact(eK a G).symm
def Q5{p}(c:0<p){a}(d:rp p a) n:rp p (h n a):=λi=>by
 rw[G4];split
 .exact d i
 .exact⟨eO _,c⟩
def Yk{p}(c:0<p){a}(d:rp p a):rp p (aS a):=Q5 c d _
def km{p}(c:0<p){a}(d:rp p a):bs p (aS a):=⟨Yk c d,ES a⟩
def qN{p}(a:0<p):bs p []:=⟨λi=>by simp;exact a,.inl J⟩
def oB a:Z (aS a)<=Z a:=by unfold aS;rw[fp];omega
def ux{a}(c:can a):aS a=a:=by
 have:fq a (Z a)=Z a:=by
  cases hl:Z a with
  |zero=>rfl
  |succ n=>
   rw[fq,b]
   rcases c with c|c
   .rw[c]at hl;cases hl
   .rw[hl]at c;exact c
 rw[aS,this,fv]
def bs.top{p}{a}(d:bs p a){n}(c:Z a=n+1):E a n 0%p≠0:=by
 rcases d.2 with e|e
 .rw[e]at c;cases c
 .rw[c,dE]at e;have:=d.1 n;rw[gk this.1 this.2];exact e
def bs.len{p}{a}(c:bs p a){n}(d:Dl p n (ps a)):Z a<=n:=by
 by_cases e:Z a<=n
 .exact e
 .obtain⟨m,f⟩:∃m,Z a=m+1:=⟨Z a-1,G⟩;exact absurd (d m G)<|c.top f
def LB{p}{a c}(f:bs p a)(g:bs p c)(d:Cg p (ps a) (ps c)):a=c:=by have t:=f.len<|(kj p c).cg d.symm;have u:=g.len<|(kj p a).cg d;refine sL G<|λi n r=>?_;have k:=d.at i;have l:=f.1 i;have m:=g.1 i;rw[cw,cw,gk l.1 l.2,gk m.1 m.2,aV,aV,cH n,cH r]at k;exact k
def Yl p a:Cg p (ps<|md p a) (ps a):=Cg.of λi=>by rw[cw,cw,GZ,lR]
def AG:ps []=0:=PS.ext λi=>by rw[cw,PS.lP];rfl
def G5{r}{k}v(a:k<Z r):ps (r.set k v)=ps r+PS.K (v-E r k 0)*PS.X k:=PS.ext λi=>by
 rw[PS.eI,PS.eX,cw,cw,sY _ _ _ _ a];unfold PS.X;split
 .rename_i e;first
   | (subst e;simp;omega)
   | (rw[e];simp;omega)
 .rename_i e;rw[b (λa=>e a.symm)];omega
def G6 a i:ps (h (i+1) a)=ps (h i a)+PS.K (E a i 0)*PS.X i:=PS.ext λj=>by
 rw[PS.eI,PS.eX,cw,cw,G4,G4];unfold PS.X;by_cases c:j<i
 .rw[aq c,aq G,b G];omega
 .by_cases e:j=i
  .subst e;rw[aq G,b G,aq J];omega
  .rw[b G,b G,b e];omega
def G7 a:ps (h 0 a)=0:=by rw[GK,AG]
def LC:ps [1]=1:=PS.ext λi=>by
 cases i with
 |zero=>rfl
 |succ i=>rfl
def LD n:ps (bp n 0)=0:=PS.ext λi=>by rw[cw,PS.lP,aV,ln];split<;>rfl
def Cg.Ym{p a c}(d:a%p=c%p) A:Cg p (PS.K a*A) (PS.K c*A):=(Cg.K d).AB A
def Yn(a d:V O)(p:O)(i:Y)(r:V O):∀c,i+c<=Z r->Cg p (ps<|qK a d p i c r) (ps r+PS.K (E a i 0)*PS.X i*ps (h c d))
 |0,_=>by rw[qK,G7,PS.mul_zero,PS.add_zero];exact Cg.refl _ _
 |c+1,g=>by
  have f:=Yn a d p i r c G;rw[qK,G5 _ (by rw[GL];omega),G6,PS.mul_add,<-PS.add_assoc];refine f.add ?_;have e:PS.K (E a i 0)*PS.X i*(PS.K (E d c 0)*PS.X c)=PS.K (E a i 0*E d c 0)*PS.X (i+c):=by rw[PS.yh,PS.Lt];ac_rfl
  rw[e];refine Cg.Ym ?_ _;rw[wE,lR,<-wE];congr 1;omega
def Yo(a c:V O)(p:O):∀i,i<=Z a->Cg p (ps<|lO a c p i) (ps (h i a)*ps c)
 |0,_=>by rw[lO,LD,G7,PS.zero_mul];exact Cg.refl _ _
 |i+1,g=>by have f:=Yo a c p i G;have d:=Yn a c p i (lO a c p i) (Z c) (by rw[GM];omega);rw[fv]at d;rw[lO,G6,PS.add_mul];exact d.trans<|f.Dv _
def DB a c p:Cg p (ps<|cG a c p) (ps a*ps c):=by
 unfold cG;split
 .rename_i h;rcases h with h|h
  .rw[h,AG,PS.zero_mul];exact Cg.refl _ _
  .rw[h,AG,PS.mul_zero];exact Cg.refl _ _
 .rw[pG];have:=Yo a c p (Z a)<|a7 _;rwa[fv]at this
def mH{p}(c:0<p) a d:bs p (cG a d p):=by
 unfold cG;split
 .exact qN c
 .exact km c<|GN a d c _
def uy a c p:Z (cG a c p)<=Z a+Z c-1:=by
 unfold cG;split
 .exact be _
 .have:=oB<|lO a c p<|Z a;rwa[GM]at this
def Yq a c p:Cg p (ps<|aS<|fG a c p) (ps a-ps c):=by
 rw[pG];refine Cg.of λi=>?_
 rw[PS.yg,cw,cw,cw,fG,aV,iT];by_cases h:i<max (Z a) (Z c)
 .rw[kS h];show((E a i 0+p-E c i 0)%p)%p=_;rw[lR,(G:E a i 0+p-E c i 0=E a i 0-E c i 0+p),Int.add_emod_right]
 .rw[jQ bX,eK a G,eK c G];rfl
def DC{p:O}{A:PS}:∀{m:Y},Dl p m A->Cg p A 0\/∃d,d<m/\A d%p≠0/\Dl p (d+1) A
 |0,a=> .inl<|ajv a
 |m+1,a=>by
  by_cases c:A m%p=0
  .rcases DC (m:=m) (A:=A) (p:=p) (λi l=>by
    by_cases g:i=m
    .rw[g];exact c
    .exact a i G)with f|⟨d,f,h2,k⟩
   .exact .inl f
   .exact .inr ⟨d,G,h2,k⟩
  .exact .inr ⟨m,G,c,a⟩
def AH{p}(c:dw p){A B}{d a}(f:Dl p (d+1) A)(g:Dl p (a+1) B)(i:A d%p≠0)(k:B a%p≠0):(A*B) (d+a)%(p:O)≠0:=by rw[f.top g];exact c.pE i k
def ajH{p}(f:dw p){a B}{m n}(g:Dl p m a)(i:Dl p (n+1) B)(k:B n%p≠0)(l:Dl p n (a*B)):Cg p a 0:=by
 rcases DC g with c|⟨d,c,h2,r⟩
 .exact c
 .exact absurd (l (d+n) G)<|AH f r i h2 k
def ajI{p}(r:dw p){Q a c d B}{m n}(t:Dl p (n+1) B)(u:B n%p≠0)(v:Dl p m Q)(f:Dl p m c)(x:Dl p n a)(g:Dl p n d)(A:Cg p (Q*B+a) (c*B+d)):Cg p Q c/\Cg p a d:=by
 have e:Cg p ((Q-c)*B) (d-a):=by
  have C:(Q-c)*B=(Q*B+a)+ -(c*B+a):=by rw[PS.sub_def,PS.add_mul,PS.neg_mul,PS.neg_add];have:Q*B+a+(-(c*B)+ -a)=Q*B+ -(c*B)+(a+ -a):=fc;rw[this,PS.add_neg,PS.add_zero]
  have F:d-a=(c*B+d)+ -(c*B+a):=by rw[PS.sub_def,PS.neg_add];have:c*B+d+(-(c*B)+ -a)=c*B+ -(c*B)+(d+ -a):=fc;rw[this,PS.add_neg,PS.zero_add]
  rw[C,F];exact A.Dv _
 have l:=ajH r (v.sub f) t u<|(g.sub x).cg e.symm;have i:Cg p Q c:=by
  have:=l.Dv c;have k:Q-c+c=Q:=by rw[PS.sub_def,PS.add_assoc,PS.X8,PS.add_zero]
  rwa[k,PS.zero_add]at this
 refine⟨i,?_⟩;have H:Cg p (d-a) 0:=by have:=l.AB B;rw[PS.zero_mul]at this;exact e.symm.trans this
 have:=H.Dv a;have k:d-a+a=d:=by rw[PS.sub_def,PS.add_assoc,PS.X8,PS.add_zero]
 rw[k,PS.zero_add]at this;exact this.symm
def ajJ{p}(c:dw p){A B}{m n}(l:Dl p m A)(r:Dl p n B)(f:Cg p (A*B) 1):Dl p 1 A:=by
 have a:¬(1:O)%(p:O)=0:=by have:=c.1;rw[gk T G];decide
 have g:¬Cg p (A*B) 0:=λe=>a (by have:=(e.symm.trans f).at 0;rw[PS.lP,gw]at this;exact this.symm)
 rcases DC l with t|⟨d,_,h2,i⟩
 .exact absurd (by have:=t.AB B;rwa[PS.zero_mul]at this) g
 .rcases DC r with u|⟨e,_,v,x⟩
  .exact absurd (by have:=u.GR A;rwa[PS.mul_zero]at this) g
  .have k:=AH c i x h2 v;rw[f.at (d+e)]at k;by_cases C:d=0
   .subst C;exact i
   .exact absurd (Ya (p:O) (d+e) G) k
def Yr(d:V O)(p c:O)(i:Y)(r:V O):∀a,i+a<=Z r->Cg p (ps<|s' d p c i a r) (ps r-PS.K c*PS.X i*ps (h a d))
 |0,_=>by rw[s',G7,PS.mul_zero,PS.sub_def,PS.neg_zero,PS.add_zero];exact Cg.refl _ _
 |a+1,k=>by
  have f:=Yr d p c i r a G;have e:ps r-PS.K c*PS.X i*ps (h (a+1) d)=(ps r-PS.K c*PS.X i*ps (h a d))+PS.K (-(c*E d a 0))*PS.X (i+a):=by
   rw[G6,PS.mul_add,PS.sub_def,PS.neg_add,PS.sub_def,<-PS.add_assoc];congr 1;have g:PS.K c*PS.X i*(PS.K (E d a 0)*PS.X a)=PS.K (c*E d a 0)*PS.X (i+a):=by rw[PS.yh,PS.Lt];ac_rfl
   rw[g,PS.neg_eq,<-PS.mul_assoc,<-PS.yh];congr 2;omega
  rw[s',G5 _ (by rw[Lp];omega),e];refine f.add<|Cg.Ym ?_ _;rw[wE,lR,<-wE,show∀x:O,x+(p-c)*E d a 0-x= -(c*E d a 0)+p*E d a 0 by intro x;rw[EW];omega,K0]
structure DvI(a b:V O)(p:O)(m n k:Y)(x:V O×V O):Prop where
 cg:Cg p (ps a) (ps x.1*ps b+ps x.2)
 dl:Dl p (n+(m-k)) (ps x.2)
 z:∀c,c<m-k->x.1.getD c 0=0
def Ys{p:O}{a d:V O}{v:O}{n m:Y}(B:Z d=n+1)(t:Z a=n+m)(u:E d n 0*v%p=1%p):∀k,k<=m->DvI a d p m n k (gL a d p v m n k)
 |0,_=>by
  refine⟨?_,?_,λf A=>?_⟩
  .rw[gL,LD,PS.zero_mul,PS.zero_add];exact Cg.refl _ _
  .rw[gL,Dy,<-t];exact kj p a
  .rw[gL,aV,ln];split<;>rfl
 |k+1,M=>by
  have g:=Ys B t u k G;have P:=Lq a d p v m n k;obtain⟨i,Q⟩:∃i,m=i+(k+1):=⟨m-(k+1),G⟩;have C:m-(k+1)=i:=G;rw[gL,C];generalize hx:gL a d p v m n k=x at*;generalize hc:E x.2 (i+n) 0*v%p=c;have l:=Yr d p c i x.2 (Z d) G;rw[fv]at l;have F:E x.1 i 0=0:=g.z i G;have H:ps (x.1.set i c)=ps x.1+PS.K c*PS.X i:=by rw[G5 c G,F,Am]
  refine⟨?_,?_,λf A=>?_⟩
  .simp only;rw[H];have r:ps x.1*ps d+ps x.2=(ps x.1+PS.K c*PS.X i)*ps d+(ps x.2-PS.K c*PS.X i*ps d):=by rw[PS.add_mul,PS.sub_def];have:ps x.1*ps d+PS.K c*PS.X i*ps d+(ps x.2+ -(PS.K c*PS.X i*ps d))=ps x.1*ps d+ps x.2+(PS.K c*PS.X i*ps d+ -(PS.K c*PS.X i*ps d)):=fc;rw[this,PS.add_neg,PS.add_zero]
   exact(g.cg.trans<|Cg.of_eq r).trans<|l.symm.X9 _
  .simp only;refine Dl.cg (λf A=>?_) l.symm;rw[PS.yg,PS.mul_assoc,PS.eX,PS.mG];by_cases e:f=n+i
   .subst e;rw[aq G,(G:n+i-i=n),cw,cw,<-hc,J2 i n];generalize E x.2 (n+i) 0=y;rw[wE,pC,lR,<-pC,iy,ef v,pC,u,<-pC,mF,Int.sub_self,gw]
   .have r:=g.dl f G;have L:=kj p d (f-i) G;rw[aq G,wE,r,pC,L,gn,gw];rfl
  .simp only;rw[sY _ _ _ _ G];split
   .omega
   .exact g.z f G
def DD{p}(a:dw p)(c:p<=2147483648){x:O}(d:0<=x)(i:x<p)(k:x≠0):x*((iq (ae x) (ae ((p:Y):O)):Y):O)%(p:O)=1:=by
 obtain⟨y,rfl⟩:=Av d;have l:=a.1;rw[bW,bW,Yf y p G G];have f:¬p∣y:=λg=>by have:=uw G g;omega
 have m:=a.inv f;rw[<-eU];omega
def ajL{p}{r}{n}(d:rp p r)(f:Dl p n (ps r)):ps (h n r)=ps r:=PS.ext λi=>by
 rw[cw,cw,G4];split
 .rfl
 .have a:=f i G;have c:=d i;rw[cw,gk c.1 c.2]at a;exact a.symm
def lu{p}(t:dw p)(f:p<=2147483648){a c}(u:rp p a)(x:bs p c)(k:c≠[]):
  Cg p (ps a) (ps (aU a c p).1*ps c+ps (aU a c p).2)/\rp p (aU a c p).1/\rp p (aU a c p).2/\(aU a c p).2.length<=Z c-1/\(bs p a->bs p (aU a c p).2)/\(aU a c p).1.length=Z a-(Z c-1):=by
 have L:=t.1
 have d:(0:O)<(p:O):=G
 obtain⟨n,l⟩:∃n,Z c=n+1:=⟨Z c-1,by have:=cQ.2 k;omega⟩
 rw[aU,l,dE]
 by_cases h:Z a<=n
 .rw[aq h];refine⟨?_,(qN d).1,u,h,λF=>F,?_⟩
  .rw[AG,PS.zero_mul,PS.zero_add];exact Cg.refl _ _
  .show 0=_;omega
 .rw[b h];obtain⟨m,A⟩:∃m,Z a=n+m:=⟨Z a-n,G⟩;rw[A,GO];have g:=x.1 n;have r:E c n 0≠0:=by have:=x.top l;exact λe=>this DE
  have H:=DD t f g.1 g.2 r;generalize ((iq (ae<|E c n 0) (ae ((p:Y):O)):Y):O)=v at*;have B:=Ys (p:=p) (v:=v) l A (by rw[H,gk T G]) m<|a7 _;have K:=Lq a c p v m n m;have i:=QR c v m n d u m;have C:=B.dl;rw[mr,jd]at C;refine⟨?_,i.1,Yk d<|Q5 d i.2 n,?_,λ_=>km d<|Q5 d i.2 n,K.1⟩
  .simp only;rw[pG,ajL i.2 C];exact B.cg
  .simp only;have:=oB<|(gL a c p v m n m).2.take n;rw[fp]at this;omega
def oC(p:O):Y->V O->V O->V O
 |0,f,_=>f
 |k+1,f,g=>if g=[]then f else oC p k g (aU f g p).2
def kT(p:O)(a:V O):V O:=if a=[]then[]else cG a [((iq (ae<|E a (Z a-1) 0) (ae p):Y):O)] p
def fH(p:O)(f g:V O):V O:=kT p<|oC p (Z g+1) f g
def bm(p:O)(A:PS):Prop:=∃n,Dl p n A
def bm.add{p}{A B}(a:bm p A)(k:bm p B):bm p (A+B):=by let ⟨n,a⟩:=a;let ⟨m,k⟩:=k;exact⟨max n m,(a.le G).add<|k.le G⟩
def bm.neg{p}{A}(a:bm p A):bm p (-A):=by let ⟨n,a⟩:=a;exact⟨n,a.neg⟩
def bm.sub{p}{A B}(a:bm p A)(k:bm p B):bm p (A-B):=by rw[PS.sub_def];exact a.add k.neg
def bm.mul{p}{A B}(a:bm p A)(k:bm p B):bm p (A*B):=by let ⟨n,a⟩:=a;let ⟨m,k⟩:=k;exact⟨n+m,a.mul' k⟩
def bm.ps p a:bm p (ps a):=⟨_,kj p a⟩
def bm.K p c:bm p (PS.K c):=⟨_,QW p c⟩
def bm.zero p:bm p 0:=⟨0,ajx p 0⟩
def bm.one p:bm p 1:=⟨1,Ya p⟩
def wF(p:O)(A B:PS):Prop:=∃U V,bm p U/\bm p V/\Cg p (U*A+V*B) 1
def wF.step{p}{A B Q a}(d:wF p A B)(f:bm p Q)(g:Cg p A (Q*B+a)):wF p B a:=by
 let ⟨U,V,c,h2,i⟩:=d;refine⟨U*Q+V,U,(c.mul f).add h2,c,?_⟩;have:(U*Q+V)*B+U*a=U*(Q*B+a)+V*B:=by simp only[PS.mul_add,PS.add_mul];ac_rfl
 rw[this];exact((g.symm.GR U).Dv _).trans i
def wF.ajM{p}{A B Q a}(c:wF p B a)(d:bm p Q)(f:Cg p A (Q*B+a)):wF p A B:=by
 let ⟨U,V,g,h2,i⟩:=c;refine⟨V,U-V*Q,h2,g.sub<|h2.mul d,?_⟩;have k:V*(Q*B+a)+(U-V*Q)*B=U*B+V*a:=by rw[PS.mul_add,PS.sub_def,PS.add_mul,PS.neg_mul];have:V*(Q*B)+V*a+(U*B+ -(V*Q*B))=(U*B+V*a)+(V*Q*B+ -(V*Q*B)):=fc;rw[this,PS.add_neg,PS.add_zero]
 exact((f.GR V).Dv _).trans<|(Cg.of_eq k).trans i
def Q6{p:Y}(l:dw p)(a:p<=2147483648):∀(k:Y)(f g:V O),bs p f->bs p g->Z g<k->bs p (oC p k f g)/\(wF p (ps f) (ps g)↔Z (oC p k f g)=1)/\Z (oC p k f g)<=max (Z f) (Z g)
 |0,_,_,_,_,r=>by omega
 |k+1,f,g,d,hg,r=>by
  rw[oC];have F:=l.1;split
  .rename_i e;subst e;refine⟨d,⟨λc=>?_,λA=>?_⟩,G⟩
   .let ⟨U,H,t,L,c⟩:=c;rw[AG,PS.mul_zero,PS.add_zero,PS.mul_comm]at c;let ⟨m,t⟩:=t;have v:=d.len<|ajJ l (kj p f) t c;by_cases e:Z f=0
    .exfalso;have:=fB e;subst this;rw[AG,PS.zero_mul]at c;have:=c.at 0;rw[PS.lP,gw]at this;have u:(1:O)%(p:O)=1:=gk T G;have x:(0:O)=1%(p:O):=this;omega
    .omega
   .have v:=d.top (n:=0) G;have u:=d.1 0;have x:E f 0 0≠0:=λe=>v DE
    have B:=DD l a u.1 u.2 x;refine⟨PS.K ((iq (E f 0 0).toNat (ae ((p:Y):O)):Y):O),0,bm.K _ _,bm.zero _,?_⟩;rw[PS.zero_mul,PS.add_zero];have C:ps f=PS.K (E f 0 0):=PS.ext λi=>by
     unfold PS.K;split
     .rename_i e;subst e;rfl
     .exact eK f G
    rw[C,<-PS.yh,PS.GQ,ef];exact Cg.K (by rw[B,gk T G])
  .rename_i e;let ⟨d1,d2,d3,d4,d5,d6⟩:=lu l a d.1 hg e;have A:=cQ.2 e;let ⟨i1,i2,i3⟩:=Q6 l a k g (aU f g p).2 hg (d5 d) G;refine⟨i1,⟨λc=>i2.1<|c.step (bm.ps _ _) d1,λr=>(i2.2 r).ajM (bm.ps _ _) d1⟩,G⟩
def Q7{p}(m:dw p)(d:p<=2147483648){a}(r:bs p a)(t:a≠[]):bs p (kT p a)/\Z (kT p a)=Z a/\E (kT p a) (Z a-1) 0=1/\Cg p (ps<|kT p a) (ps a*PS.K ((iq (ae<|E a (Z a-1) 0) (ae ((p:Y):O)):Y):O))/\Cg p (ps a) (ps (kT p a)*PS.K (E a (Z a-1) 0)):=by
 have L:=m.1;obtain⟨n,u⟩:∃n,Z a=n+1:=⟨Z a-1,by have:=cQ.2 t;omega⟩;have x:=r.1 n;have g:E a n 0≠0:=λe=>r.top u DE
 have A:=DD m d x.1 x.2 g;rw[kT,b t,u,dE];generalize ((iq (ae<|E a n 0) (ae ((p:Y):O)):Y):O)=v at*;have k:ps [v]=PS.K v:=PS.ext λi=>by
  cases i with
  |zero=>rfl
  |succ i=>rfl
 have f:=DB a [v] p;rw[k]at f;have B:=mH (G:(0:O)<p) a [v];have c:(ps<|cG a [v] p) n%(p:O)=1:=by rw[f.at n,PS.mul_comm,PS.eX,ef,cw];exact A
 have F:n<Z (cG a [v] p):=by
  by_cases e:n<Z (cG a [v] p)
  .exact e
  .rw[cw,eK _ G]at c;simp at c
 have l:=uy a [v] p;have H:Z (cG a [v] p)=n+1:=by simp only[eB,m7]at l;omega
 refine⟨B,H,?_,f,?_⟩
 .have C:=B.1 n;rw[cw,gk C.1 C.2]at c;exact c
 .refine Cg.symm<|(f.AB _).trans ?_;rw[PS.mul_assoc,<-PS.yh,ef v];have:Cg p (ps a*PS.K (E a n 0*v)) (ps a*PS.K 1):=(Cg.K<|by rw[A,gk T G]).GR _;rw[<-PS.GQ,PS.mul_one]at this;exact this
def ajN{p}(c:dw p)(a:p<=2147483648){f g}(d:bs p f)(i:bs p g):Z (fH p f g)=1↔wF p (ps f) (ps g):=by
 let ⟨k,h2,l⟩:=Q6 c a (Z g+1) f g d i<|dL _;rw[h2,fH];by_cases e:oC p (Z g+1) f g=[]
 .rw[e,kT,aq J]
 .rw[(Q7 c a k e).2.1]
def ajO k l:ps (bp k 0++l)=PS.X k*ps l:=PS.ext λi=>by
 rw[PS.mG,cw,cw,aV,ajP,fE];by_cases h:i<k
 .rw[aq h,b G,ln,aq h];rfl
 .rw[b h,aq G,<-aV]
def ajQ{p}(a:0<p) k{l}(c:rp p l):rp p (bp k 0++l):=λi=>by
 rw[aV,ajP,fE];split
 .rw[ln];split<;>exact⟨eO _,a⟩
 .have:=c<|i-k;rwa[aV]at this
def Yt x:ps [x]=PS.K x:=PS.ext λi=>by
 cases i with
 |zero=>rfl
 |succ i=>rfl
def DF{p x}(a:0<=x)(c:x<p):rp p [x]:=λi=>by
 cases i with
 |zero=>exact⟨a,c⟩
 |succ i=>exact⟨eO _,(G:(0:O)<p)⟩
structure G8(p:O)(a b:V O)(M:Y)(x:V O×V O):Prop where
 c:bs p x.1
 l:x.1.length<=a.length
 ql:x.2.length=M
 qr:rp p x.2
 cg:Cg p (ps a) (ps x.2*ps b+ps x.1)
 z:∀d,d+b.length<=x.1.length->x.2.getD d 0=0
def G8.next{p}(hp:dw p)(t:p<=2147483648){a d}{M}{r g}(i:G8 p a d M (r,g))(hb:bs p d)(F:d≠[])(hl:Z d<=Z r)(hM:Z a-Z d<M)
 {f}(H:f=E r (Z r-1) 0*((iq (ae<|E d (Z d-1) 0) (ae ((p:Y):O)):Y):O)%(p:O)):
  G8 p a d M (aS<|fG r (bp (Z r-Z d) 0++cG [f] d p) p,g.set (Z r-Z d) f)/\Z (aS<|fG r (bp (Z r-Z d) 0++cG [f] d p) p)<Z r:=by
 have U:=hp.1
 have c:(0:O)<(p:O):=G
 have I:=cQ.2 F
 obtain⟨n,L⟩:∃n,Z d=n+1:=⟨Z d-1,G⟩
 obtain⟨k,s⟩:∃k,Z r=k+(n+1):=⟨Z r-(n+1),G⟩
 rw[s,L,dE,(G:k+(n+1)-1=n+k)]at H
 rw[s,L,dE]
 have u:=hb.1 n
 have P:E d n 0≠0:=λe=>hb.top L DE
 have J:=DD hp t u.1 u.2 P
 generalize ((iq (ae<|E d n 0) (ae ((p:Y):O)):Y):O)=v at*
 have x:0<=f/\f<p:=by rw[H];exact⟨g6 _ G,g7 _ c⟩
 generalize N:bp k 0++cG [f] d p=S
 have Q:Cg p (ps S) (PS.K f*PS.X k*ps d):=by rw[<-N,ajO];have m:=DB [f] d p;rw[Yt]at m;have W:=m.GR<|PS.X k;have e:PS.X k*(PS.K f*ps d)=PS.K f*PS.X k*ps d:=fc;rwa[e]at W
 have A:Cg p (ps<|aS<|fG r S p) (ps r-PS.K f*PS.X k*ps d):=(Yq r S p).trans<|(Cg.refl _ _).sub Q
 have B:bs p (aS<|fG r S p):=km c<|AF c r S
 have w:Z (aS<|fG r S p)<=n+k:=by
  refine B.len<|Dl.cg (λj D=>?_) A.symm;rw[PS.yg,PS.mul_assoc,PS.eX,PS.mG];by_cases e:j=n+k
  .subst e;rw[aq G,(G:n+k-k=n),cw,cw,H];generalize E r (n+k) 0=y;rw[wE,pC,lR,<-pC,iy,ef v,pC,J,mF,lR,Int.sub_self,gw]
  .have m:=kj p r j (G:Z r<=j);have W:=kj p d (j-k) G;rw[aq G,wE,m,pC,W,gn,gw];rfl
 have C:k<Z g:=by have R:Z r<=Z a:=i.l;have V:Z g=M:=i.ql;omega
 have o:E g k 0=0:=i.z k (G:k+Z d<=Z r)
 refine⟨⟨B,?_,?_,Ln i.qr _ x.1 x.2,?_,λj D=>?_⟩,G⟩
 .have R:Z r<=Z a:=i.l;show Z (aS<|fG r S p)<=Z a;omega
 .show(g.set k f).length=M;rw[rH];exact i.ql
 .simp only;rw[G5 f C,o,Am];have T:ps g*ps d+ps r=(ps g+PS.K f*PS.X k)*ps d+(ps r-PS.K f*PS.X k*ps d):=by rw[PS.add_mul,PS.sub_def];have:ps g*ps d+PS.K f*PS.X k*ps d+(ps r+ -(PS.K f*PS.X k*ps d))=ps g*ps d+ps r+(PS.K f*PS.X k*ps d+ -(PS.K f*PS.X k*ps d)):=fc;rw[this,PS.add_neg,PS.add_zero]
  have m:Cg p (ps a) (ps g*ps d+ps r):=i.cg;exact(m.trans<|Cg.of_eq T).trans<|A.symm.X9 _
 .simp only at D⊢;rw[sY _ _ _ _ C];split
  .omega
  .exact i.z j (G:j+Z d<=Z r)
def yk p(hp:dw p)(u:p<=2147483648) a d(la:Z a<=500)(lb:Z d<=500)(F:bs p a)(H:bs p d)(A:d≠[]):
  al z 207 [I au a,I au d,cU p] (.a [.S au (aS (aU a d p).1),.S au (aU a d p).2]):=by
 refine aR Tryz.func207 ?_
 have h2:=hp.1
 have g:(0:O)<(p:O):=G
 have hpz:(p:O)≠0:=G
 have Yu:=cQ.2 A
 have L:=wD a p G g G<|λi=>(F.1 i).1
 rw[G0 F.1,ux F.2]at L
 refine N J<|bD J J L J<|w ?_
 obtain⟨M,hM⟩:∃M:Y,max ((Z a:O)-(Z d:O)+1) 0=(M:O):=⟨ae<|max ((Z a:O)-(Z d:O)+1) 0,G⟩
 refine rm au M J J J J J J (lM .u64) (by rw[aq J];split<;>omega) ?_ ?_<|s J ?_
 .show _*8<=_;omega
 .show _*1<=_;omega
 have a2:ae ((Z d:O)-1)=Z d-1:=G
 have T:=H.1<|Z d-1
 have LF:E d (Z d-1) 0≠0:=λe=>H.top (n:=Z d-1) G DE
 have Q:=Q4 (E d (Z d-1) 0) p T LF G G
 have B:al z 248 [cU (E d (ae<|(Z d:O)-1) 0),cU p] (.t [(ah,[.I .u64 (iq (ae<|E d (Z d-1) 0) (ae ((p:Y):O)):Y)]),(ah,[.I .i64 0])]):=by rw[a2];exact Q
 refine w<|rc J J B<|s J (hp:=aF) ?_
 generalize hv:((iq (ae<|E d (Z d-1) 0) (ae ((p:Y):O)):Y):O)=v
 have hvb:0<=v/\v<p:=by have:=QN (ae<|E d (Z d-1) 0) (p-2) p G;rw[<-hv,iq,bW];omega
 have uu:G8 p a d M (a,bp M 0):=by
  refine⟨F,a7 _,fE,QO g M,?_,λjg _=>?_⟩
  .show Cg p (ps a) (ps (bp M 0)*ps d+ps a);rw[LD,PS.zero_mul,PS.zero_add];exact Cg.refl _ _
  .show E (bp M (0:O)) jg 0=0;rw[aV,ln];split<;>rfl
 refine U<|R<|aY (α:=V O×V O) (λx=>⟨[(1,I au d),(2,cU p),(6,.c<|.P 0 0),(7,I au x.1),(8,.c<|.X 2007000),(9,cU v)],[(0,.box 201 0 [.V (.slice none 0 0),.V<|.slice none 0 0]),(2007000,.vec 150 au x.2)],4,[]⟩) (G8 p a d M) (λx=>Z x.1) (a,bp M 0) uu (wk (bJ J) ⟨bE J J,bR J,oo⟩) ?_
 rintro⟨r,q⟩ K
 have hc:bs p r:=K.c
 have LG:Z r<=Z a:=K.l
 have K2:Z q=M:=K.ql
 refine U<|N J<|y J (λh=>?_)<|λh=>?_
 .have h:Z d<=Z r:=by have h:(Z r:O)>=(Z d:O):=aK h;omega
  generalize hf:E r (Z r-1) 0*v%(p:O)=f;let ⟨W,o⟩:=K.next hp u H A h G (f:=f) (by rw[hv];exact hf.symm);have D:0<=f/\f<p:=by rw[<-hf];exact⟨g6 _ G,g7 _ g⟩
  have hg:=hc.1<|Z r-1;have a3:ae ((Z r:O)-1)=Z r-1:=G;obtain⟨k,hk⟩:∃k,Z r=k+Z d:=⟨Z r-Z d,G⟩;have ek:(Z r:O)-(Z d:O)=(k:O):=G;rw[(G:Z r-Z d=k)]at W o;refine aA<|R<|N J<|N J (hp:=aF) ?_;refine dU (st':=⟨[(1,I au d),(2,cU p),(6,.c<|.P 0 0),(7,I au r),(8,.c<|.X 2007000),(9,cU v),(11,j k),(12,cU f)],[(0,.box 201 0 [.V (.slice none 0 0),.V<|.slice none 0 0]),(2007000,.vec 150 au q)],8,[]⟩) (wk ⟨sR J,sR J,sR J,sR J,sR J,sR J,sE J ?_,sE J ?_,oo⟩<|vG J) ?_
  .exact im ek
  .refine bL ?_;rw[a3,<-hf];exact X2 _ v p hg hvb G
  refine N J (hp:=aF)<|w ?_;refine rm au k J J J J J J (lM .u64) J ?_ ?_ ?_
  .show _*8<=_;omega
  .show _*1<=_;omega
  have Q8:=tb [f] d p ay G g G (DF D.1 D.2) H.1;have JC:=uy [f] d p;simp only[eB,m7]at JC;refine rl au [_] J J (rc J J Q8<|ra J J J J J J J J J ?_ ?_<|s J ?_)
  .show(_+_+(_+_)/4+192)*8<=_;rw[fE];omega
  .show(_+_)*1<=_;rw[fE];omega
  refine c6 9007000 J J J ?_;have Gk:=G3 r (bp k 0++cG [f] d p) p G (by rw[hP,fE];omega) g G hc.1<|ajQ g k (mH g _ _).1;refine bT<|rc J J Gk<|s J<|eH<|aG (aS<|fG r (bp k 0++cG [f] d p) p,q.set k f) W o<|wk (bJ J) ⟨bR J,bE J ?_,oo⟩;refine a8 (aN.vec 150 au) ?_;rw[bW]
 .have h:Z r<Z d:=by have h:¬(Z r:O)>=(Z d:O):=aT h;omega
  have C:rp p q:=K.qr;have hcg:Cg p (ps a) (ps q*ps d+ps r):=K.cg;let ⟨d1,d2,d3,d4,d5,d6⟩:=lu hp u F.1 H A;obtain⟨n,hn⟩:∃n,Z d=n+1:=⟨Z d-1,G⟩;let ⟨e1,e2⟩:=ajI hp (m:=max (Z q) (aU a d p).1.length) (n:=n) (hn▸kj p d) (H.top hn) ((kj p q).le G) ((kj p (aU a d p).1).le G) ((kj p r).le G) ((kj p (aU a d p).2).le G)<|hcg.symm.trans d1;have f2:r=(aU a d p).2:=LB hc (d5 F) e2;have f1:aS q=aS (aU a d p).1:=LB (km g C) (km g d2) (by rw[pG,pG];exact e1);have ht:=wD q p G g G<|λi=>(C i).1;rw[G0 C,f1]at ht;refine a6<|aO<|c6 2007000 J J J<|bD J J ht J<|bQ J ?_;rw[f2];rfl
def rW p(g:dw p)(d:p<=2147483648) a c(i:Z a<=500)(k:Z c<=500)(l:bs p a)(m:bs p c)(f:c≠[]):
  al z 200 [I au a,I au c,cU p] (I au (aU a c p).2):=by
 refine aR Tryz.func200 ?_
 exact N J<|bD J J (yk p g d a c i k l m f) J<|cx J
def Yv p(x:dw p)(d:p<=2147483648) a(F:Z a<=500)(l:bs p a):
  al z 201 [I au a,cU p] (I au<|kT p a):=by
 refine aR Tryz.func201 ?_
 have H:=x.1
 have f:(0:O)<(p:O):=G
 refine N J<|U<|N J<|y J (λh=>?_)<|λh=>aA ?_
 .have h:(Z a:O)=0:=eq_of_beq h;have m:a=[]:=fB G;refine N J<|bI<|cA<|gZ cq J ?_;rw[kT,aq m];exact bf.nil au
 .have h:(Z a:O)≠0:=nf h;have m:a≠[]:=λe=>h tU
  have B:ae ((Z a:O)-1)=Z a-1:=G;have r:=l.1<|Z a-1;have u:E a (Z a-1) 0≠0:=λe=>l.top (n:=Z a-1) G DE
  have g:=Q4 (E a (Z a-1) 0) p r u G G;have c:al z 248 [cU (E a (ae<|(Z a:O)-1) 0),cU p] (.t [(ah,[.I .u64 (iq (ae<|E a (Z a-1) 0) (ae ((p:Y):O)):Y)]),(ah,[.I .i64 0])]):=by rw[B];exact g
  refine w<|rc J J c (hp:=aF)<|s J ?_;have A:=Q7 x d l m;generalize C:((iq (ae<|E a (Z a-1) 0) (ae ((p:Y):O)):Y):O)=v at*;have i:0<=v/\v<p:=by have:=QN (ae<|E a (Z a-1) 0) (p-2) p G;rw[<-C,iq,bW];omega
  have k:=tb [v] a p ay G f G (DF i.1 i.2) l.1;have e:cG [v] a p=kT p a:=by refine LB (mH f _ _) A.1<|(DB [v] a p).trans ?_;rw[Yt,PS.mul_comm];exact A.2.2.2.1.symm
  rw[e]at k;exact w<|rl au [_] J J (rc J J k<|s J<|cx J)
def DG p(r:dw p)(c:p<=2147483648) a d(v:Z a<=500)(A:Z d<=500)(B:bs p a)(F:bs p d):
  al z 171 [I au a,I au d,cU p] (I au<|fH p a d):=by
 refine aR Tryz.func171 ?_
 refine N J<|U<|R<|aY (α:=Y×V O×V O) (λx=>⟨[(0,I au x.2.1),(1,I au x.2.2),(2,cU p)],[],1,[]⟩) (λx=>oC p x.1 x.2.1 x.2.2=oC p (Z d+1) a d/\Z x.2.2<x.1/\bs p x.2.1/\bs p x.2.2/\Z x.2.1<=500/\Z x.2.2<=500) (λx=>Z x.2.2) (Z d+1,a,d) ⟨J,dL _,B,F,v,A⟩ aH ?_
 rintro⟨k,f,g⟩ ⟨i,h2,m,n,t,u⟩
 simp only at i h2 m n t u
 cases k with
 |zero=>omega
 |succ k=>
 rw[oC]at i
 refine U<|N J<|y J (λh=>?_)<|λh=>?_
 .have l:g≠[]:=by have h:(Z g:O)>0:=aK h;intro e;rw[e]at h;simp at h
  rw[b l]at i;let ⟨d1,d2,d3,d4,d5,d6⟩:=lu r c m.1 n l;have C:=cQ.2 l;exact aA<|R<|bD J J (rW p r c f g t u m n l) J<|N J<|rt J<|eH<|aG (k,g,(aU f g p).2) ⟨i,(G:(aU f g p).2.length<k),n,d5 m,u,(G:(aU f g p).2.length<=500)⟩ (G:(aU f g p).2.length<Z g) aH
 .have l:g=[]:=by have h:¬(Z g:O)>0:=aT h;exact fB G
  rw[aq l]at i;refine a6<|aO<|bD J J (Yv p r c f t m) J<|bQ J ?_;rw[fH,<-i]
def aJ(n:Y)(a:O):Prop:=aC a<4294967296^n
def aJ.sm{n}{a}(c:aJ n a)(d:n<=1099511627776):Sm a:=by
 refine cj (zq (k:=n) ?_) d;have:((aC a:Y):O)<((4294967296^n:Y):O):=by have c:aC a<4294967296^n:=c;omega
 rwa[s7]at this
def aJ.le{m n}{a}(c:aJ m a)(k:m<=n):aJ n a:=iz c<|fT T k
def aJ.mul{m n}{a c}(d:aJ m a)(k:aJ n c):aJ (m+n) (a*c):=by unfold aJ at*;rw[pD,mE];exact Lk d k
def aJ.add{n}{a c}(d:aJ n a)(k:aJ n c):aJ (n+1) (a+c):=by unfold aJ at*;have:=Q9 a c;rw[fF];omega
def aJ.neg{n}{a}(c:aJ n a):aJ n (-a):=by unfold aJ at*;rwa[Int.natAbs_neg]
def aJ.sub{n}{a c}(d:aJ n a)(k:aJ n c):aJ (n+1) (a-c):=by rw[QA];exact d.add k.neg
def aJ.zero n:aJ n 0:=by unfold aJ;exact kh T
def aJ.emod{n}{a m}(c:0<m)(d:aJ n m):aJ n (a%m):=by have f:=g6 a (G:m≠0);have g:=g7 a c;unfold aJ at*;omega
def aJ.one{a}(c:aC a<4294967296):aJ 1 a:=by unfold aJ;rwa[Nat.pow_one]
def aJ.pow{n:Y}{a:O}(c:aJ n a):∀k,aJ (n*k+1) (a^k)
 |0=>by unfold aJ;simp
 |k+1=>by rw[eZ];exact((aJ.pow c k).mul c).le (by rw[Nat.mul_succ];omega)
def Yw a c u v(g:∀i,aJ u (E a i 0))(l:∀i,aJ v (E c i 0)) n:∀k,k<=4294967296->aJ (u+v+1) (jL (λi=>E a i 0) (λi=>E c i 0) n k):=by
 have d:∀k,aC (jL (λi=>E a i 0) (λi=>E c i 0) n k)<=k*4294967296^(u+v):=by
  intro k;induction k with
  |zero=>simp[jL]
  |succ k p=>
   have h:=(g k).mul<|l<|n-k
   unfold aJ at h
   have m:=Q9 (jL (λi=>E a i 0) (λi=>E c i 0) n k)<|E a k 0*E c (n-k) 0
   rw[fD,hO]
   simp only[jL]
   omega
 intro k t;by_cases r:k=4294967296
 .subst r;unfold aJ;have f:0<4294967296^(u+v):=kh T;have:∀k,aC (jL (λi=>E a i 0) (λi=>E c i 0) n k)<4294967296^(u+v)\/aC (jL (λi=>E a i 0) (λi=>E c i 0) n k)<k*4294967296^(u+v):=by
   intro k;induction k with
   |zero=>left;simp[jL];exact f
   |succ k p=>
    right
    have h:=(g k).mul<|l<|n-k
    unfold aJ at h
    have m:=Q9 (jL (λi=>E a i 0) (λi=>E c i 0) n k)<|E a k 0*E c (n-k) 0
    have x:=d k
    rw[fD,hO]
    simp only[jL]
    omega
  rcases this 4294967296 with h|h
  .exact iz h<|fT T G
  .rwa[fF,gN]
 .have h:=d k;unfold aJ;have f:0<4294967296^(u+v):=kh T;have m:k*4294967296^(u+v)<4294967296*4294967296^(u+v):=QG G f;rw[fF,gN<|4294967296^(u+v)];omega
def Yx a d u v(H:Z a<=1000)(L:Z d<=1000)(F:u+v<=100000)(g:∀i,aJ u (E a i 0))(l:∀i,aJ v (E d i 0)):al z 212 [I .z a,I .z d] (I .z<|aS<|kQ a d):=by
 refine aR Tryz.func212 ?_;refine N J<|w<|fg .z [] J J (s J<|U<|N J ?_);generalize hA:(λi=>E a i 0)=A;generalize m:(λi=>E d i 0)=B;refine R<|aY (α:=Y) (λn=>⟨[(0,I .z a),(1,I .z d),(5,.c<|.X 1000000),(6,j n)],[(1000000,.vec 42 .z<|(cc n).map<|conv A B)],3,[]⟩) (λn=>n<=Z a+Z d-1) (λn=>Z a+Z d-n) 0 (be _) aH ?_;intro n p;refine U<|N J ?_;refine y J (λh=>?_)<|λh=>?_
 .have h:n+1<Z a+Z d:=by have h:(n:O)+1<Z a+Z d:=dH;omega
  refine aA<|U<|R<|bD J J (iD 0 T T) J<|U<|N J ?_;refine R<|aY (α:=Y) (λk=>⟨[(0,I .z a),(1,I .z d),(5,.c<|.X 1000000),(6,j n),(7,.c<|.P 4001000 0),(8,j k)],[(4001000,.box 42 0<|av .z<|jL A B n k),(1000000,.vec 42 .z<|(cc n).map<|conv A B)],6,[]⟩) (λk=>k<=n+1) (λk=>n+1-k) 0 (be _) (wk (bJ J) ⟨bE J J,bR J,e⟩) ?_;intro k t;refine U<|N J ?_;refine y J (λh2=>?_)<|λh2=>?_
  .have h2:k<=n:=by have h2:(k:O)<=n:=o0;omega
   have x:=Yw a d u v g l n k G;rw[hA,m]at x;refine aA<|U<|R<|bT ?_;refine rc J J (GF a k) ?_;refine rc J J (f:=256) (r:=aZ<|E d (n-k) 0) (by have:=GF d<|n-k;rw[(G:((n-k:Y):O)=(n:O)-(k:O))]at this;exact this) ?_;refine rc J J (kg (E a k 0) (E d (n-k) 0) ((g k).sm G)<|(l<|n-k).sm G) ?_;refine rc J J (we (jL A B n k) (E a k 0*E d (n-k) 0) (x.sm G)<|((g k).mul<|l<|n-k).sm G)<|s J ?_;refine aX<|rt J<|aG (k+1) G (G:n+1-(k+1)<n+1-k)<|wk ⟨sR J,sR J,sR J,sR J,sR J,sE J J,e⟩ ⟨bE J ?_,bR J,e⟩;have C:jL A B n (k+1)=jL A B n k+E a k 0*E d (n-k) 0:=by simp only[jL,<-hA,<-m]
   rw[C];rfl
  .have h2:¬k<=n:=by have h2:¬(k:O)<=n:=o0;omega
   have t:k=n+1:=G;subst t;refine a6<|aO ?_;refine bT<|rl .z [conv A B n] J J (ra J J J J J J J J J ?_ ?_<|s J ?_)
   .show(_+1+(_+1)/4+192)*32<=_;simp only[cR,wG];omega
   .show(_+1)*2<=_;simp only[cR,wG];omega
   refine aX<|rt J<|aG (n+1) G (G:Z a+Z d-(n+1)<Z a+Z d-n)<|Wk.trans (wk (st':=⟨[(0,I .z a),(1,I .z d),(5,.c<|.X 7003000),(6,j ((n+1:Y):O))],[(7003000,.vec 42 .z<|(cc<|n+1).map<|conv A B)],9,[]⟩) ⟨sR J,sR J,sR J,sE J ?_,e⟩ ⟨bE J ?_,e⟩)<|Wk.trans (fa 1000000 7003000 J J J) aH
   .rfl
   .rw[zz,fe];rfl
 .have h:¬n+1<Z a+Z d:=by have h:¬(n:O)+1<Z a+Z d:=dH;omega
  have p:n=Z a+Z d-1:=G;refine a6<|aO<|c6 1000000 J J J<|bD J J (K5 _) J<|bQ J ?_;unfold kQ;rw[hA,m,<-p]
def Yy a(p:Y)(d:2<=p)(g:p<=2147483648)(f:Sm a):al z 202 [aZ a,cU p] (cU<|a%p):=by refine aR Tryz.func202 ?_;have c:=g6 a (G:(p:O)≠0);have i:=g7 a (G:(0:O)<p);refine N J<|w<|rc J J (iD p G G) (hp:=aF)<|rc J J (Dq a p G f<|Sm.of G)<|s J ?_;refine bD J J (aiN (a%p) c G) J ?_;refine N J<|bQ J<|bL ?_;exact wrap_u64 _ c G
def LH p a:md p (md p a)=md p a:=by unfold md;rw[LA];exact List.map_congr_left λx _=>lR x p
def Yz a(p:Y)(r:Z a<=1000)(d:2<=p)(l:p<=2147483648)(m:∀i,Sm (E a i 0)):al z 172 [I .z a,cU p] (I au<|aS<|md p a):=by
 refine aR Tryz.func172 ?_;have n:=wC p a;have f:=AE (G:(0:O)<(p:O)) a;have k:=wD (md p a) p G G G<|λi=>(f i).1;rw[LH]at k;refine N J<|w<|fg au [] J J (s J<|U<|N J ?_);refine R<|aY (α:=Y) (λi=>⟨[(0,I .z a),(1,cU p),(5,.c<|.X 1000000),(6,j i)],[(1000000,.vec 150 au<|(md p a).take i)],3,[]⟩) (λi=>i<=Z a) (λi=>Z a-i) 0 (be _) aH ?_;intro i t;have u:Z ((md p a).take i)=i:=bX;refine U<|N J<|y J (λh=>?_)<|λh=>?_
 .have h:i<Z a:=by have h:(i:O)<(Z a:O):=aK h;omega
  have g:al z 202 [.a (av .z<|E a (ae<|(i:O)) 0),cU p] (cU<|E a i 0%p):=by rw[bW];exact Yy (E a i 0) p d l<|m i
  refine aA<|U<|R<|bT<|rc J J g (hp:=aF) ?_;refine rl au [_] J J (ra J J J J J J J J J ?_ ?_<|s J ?_)
  .show(_+1+(_+1)/4+192)*8<=_;omega
  .show(_+1)*1<=_;omega
  refine aX<|rt J<|aG (i+1) h oq<|Wk.trans (wk (st':=⟨[(0,I .z a),(1,cU p),(5,.c<|.X 4008000),(6,j ((i+1:Y):O))],[(4008000,.vec 150 au<|(md p a).take<|i+1)],8,[]⟩) (bJ J) ⟨bE J ?_,e⟩)<|Wk.trans (fa 1000000 4008000 J J J) aH;refine a8 (aN.vec 150 au) ?_;rw[qM _ i G,GZ]
 .have h:i=Z a:=by have h:¬(i:O)<(Z a:O):=aT h;omega
  subst h;rw[iK G];exact a6<|aO<|c6 1000000 J J J<|bD J J k J<|cx J
def ajT{m}(a:Z (q m)=1):(m:O)=E (q m) 0 0:=by
 have:=dS m;rw[<-this];match hw:q m,a with
 |[w],_=>show w+4294967296*0=w;omega
def DH a:al z 156 [aZ a] (cB<|decide<|a=1):=by
 refine aR Tryz.func156 ?_;refine N J<|w<|rg 6 J J (λh=>?_)<|λh=>?_
 .have d:0<=a:=by have h:(!b6 a)=af:=h;simpa[b6]using h
  refine rg 12 J J (λc=>?_)<|λc=>?_
  .have c:Z (q<|aC a)=1:=by have c:(Z (q<|aC a):O)=1:=eq_of_beq c;omega
   have f:Z (dN a)=1:=c;refine s J (bQ J<|a8 cB ?_) (hp:=?_)
   .show((E (q<|aC a) 0 0)==1)=decide (a=1);have:=ajT c;by_cases e:a=1
    .subst e;rfl
    .rw[ox e];exact beq_eq_false_iff_ne.2<|λg=>e G
   .simp only[Pr.an,Pr.h,num,fR,true_and,and_true];first|done|omega
  .refine s J<|bQ J<|a8 cB ?_;rw[ox];intro e;subst e;cases c
 .have d:a<0:=by have h:(!b6 a)=ah:=h;simpa[b6]using h
  refine rg 12 J J (λc=>by cases c)<|λc=>?_;refine s J<|bQ J<|a8 cB ?_;rw[ox G]
def G9 x a(f:Sm x)(g:Sm a):al z 127 [I .z [x,a]] (aZ<|x*a):=by
 refine aR Tryz.func127 ?_;refine N J<|bD J J (QC 1 T T) J<|U<|N J ?_;refine R<|aY (α:=Y) (λi=>⟨[(7,I .z [x,a]),(2,.c<|.P 0 0),(3,.c<|.P 1001000 0),(8,j 2),(9,j i)],[(0,.box 42 0 [.B ah,.V<|.slice none 0 0]),(1001000,.box 42 0<|av .z (if i=0 then 1 else if i=1 then x else x*a))],3,[]⟩) (λi=>i<=2) (λi=>2-i) 0 T (wk (bJ J) ⟨bE J J,bE J J,e⟩) ?_;intro i k;rcases(G:i=0\/i=1\/i=2)with d|d|d
 .subst d;refine N J<|U<|y J (λ_=>aA ?_)<|λh=>er;refine U (R<|N J (R<|bD J J (DH x) J<|y J (λh=>cZ ?_)<|λh=>?_) (hp:=YA))
  .have h:x=1:=aK h;subst h;exact eH<|aX<|rt J (hp:=aF)<|aG 1 T T<|wk (bJ J) ⟨bE J J,bE J J,e⟩
  .refine bD J J (DH 1) J<|y J (λh=>?_)<|λh=>er;exact rt J<|eH<|aX<|rt J (hp:=aF)<|aG 1 T T<|wk (bJ J) ⟨bE J J,bE J J,e⟩
 .subst d;refine N J<|U<|y J (λ_=>aA ?_)<|λh=>er;refine U (R<|N J (R<|bD J J (DH a) J<|y J (λh=>cZ ?_)<|λh=>?_) (hp:=YA))
  .have h:a=1:=aK h;subst h;refine eH<|aX<|rt J (hp:=aF)<|aG 2 T T<|wk (bJ J) ⟨bE J J,bE J ?_,e⟩;show aN.box 42 0 (av .z x)=aN.box 42 0 (av .z<|x*1);rw[mF]
  .refine bD J J (DH x) J (y J (λh=>?_)<|λh=>?_)
   .have h:x=1:=aK h;subst h;refine rt J<|eH<|aX<|rt J (hp:=aF)<|aG 2 T T<|wk (bJ J) ⟨bE J J,bE J ?_,e⟩;show aN.box 42 0 (av .z a)=aN.box 42 0 (av .z<|1*a);rw[jS]
   .exact bT<|rc J J (aiU x a f g)<|s J<|eH<|aX<|rt J (hp:=aF)<|aG 2 T T<|wk (bJ J) ⟨bE J J,bE J J,e⟩
 .subst d;refine N J<|U<|y J (λh=>er)<|λ_=>?_;exact a6<|aO<|N J<|cx J
structure QS(k:Y)(r:D):Prop where
 n:aJ k r.num
 d:aJ k (r.den:O)
def QS.le{a k}{r}(c:QS a r)(f:a<=k):QS k r:=⟨c.n.le f,c.d.le f⟩
def LI{a}:dY a<0↔a<0:=by unfold dY;split<;>(try split)<;>omega
def uz{a}:dY a=0↔a=0:=by unfold dY;split<;>(try split)<;>omega
def G'{r}{n d}(c:r.num=n)(f:(r.den:O)=d):AV.a [C.B (b6 n),C.S ao<|dN n,C.B<|b6 d,C.S ao<|dN d]=aQ r:=by subst c f;rfl
def Q'{n d}(a:0<d):(iU n d).num=n/((gP n d:Y):O)/\((iU n d).den:O)=d/((gP n d:Y):O):=by have:=K1 n d G;rwa[b G]at this
def LJ{n d}(a:0<d)(c:gP n d=1):(iU n d).num=n/\((iU n d).den:O)=d:=by have:=Q' (n:=n) a;rwa[c,show(((1:Y):O))=1 from J,sZ,sZ]at this
def Ra n d(g:0<d)(i:Sm n)(a:Sm d):al z 126 [aZ n,aZ d] (aQ<|iU n d):=by
 refine aR Tryz.func126 ?_;let ⟨p1,k⟩:=Q' (n:=n) g;have l:gP n d≠0:=λm=>by have:=(Qq.1 m).2;omega
 have c:Sm ((gP n d:Y):O):=cj (rR<|show aC (((gP n d:Y):O))<=aC d from Nat.gcd_le_right _ G) a;refine N J<|U<|bD J J (DH d) J<|y J (λh=>?_)<|λ_=>aA ?_
 .have h:d=1:=aK h;subst h;let ⟨c1,f⟩:=LJ (n:=n) T<|Int.gcd_one_right ..;exact N J<|bI<|cA<|dR J<|G' c1 f
 refine bD J J (ajp n d i a) J<|U<|w<|rc J J (DH _)<|s J<|y J (λh=>?_)<|λ_=>aA ?_
 .have h:((gP n d:Y):O)=1:=aK h;let ⟨c1,f⟩:=LJ g<|Int.ofNat.inj h;exact N J<|bI<|cA<|dR J<|G' c1 f
 refine bD J J (XR n _ G i c) J<|w<|rc J J (XR d _ G a c)<|s J<|N J<|bQ J<|G' p1 k
def den_pos(a:D):0<(a.den:O):=by have:=a.den_nz;omega
def ajU a(c:Sm a.num):al z 71 [aQ a] (aQ<| -a):=by refine aR Tryz.func71 ?_;refine N J<|bD J J (QD a.num c) J<|bQ J<|G' J J
def Rb a:al z 137 [aQ a] (j<|dY a.num):=by refine aR Tryz.func137 ?_;exact N J<|bD J J (XB a.num) J<|cx J
def ajV n:al z 123 [aZ n] (aQ (n:D)):=by refine aR Tryz.func123 ?_;exact N J<|bD J J (QC 1 T T) J<|bQ J J
def YB n(a: -9223372036854775808<=n)(c:n<=9223372036854775807):al z 70 [j n] (aQ (n:D)):=by refine aR Tryz.func70 ?_;exact N J<|w<|rc J J (QC n a c)<|rc J J (ajV n)<|s J<|cx J
def ajW a(d:a.num≠0)(f:Sm a.num)(g:Sm (a.den:O)):al z 115 [aQ a] (.t [(af,av .q a⁻¹),(ah,[.I .i64 0])]):=by
 refine aR Tryz.func115 ?_;have c:gP (a.den:O) a.num=1:=by have:=a.reduced;rw[Int.gcd_comm];exact this
 refine N J<|U<|bD J J (XB a.num) J<|R<|N J<|y J (λh=>?_)<|λh=>?_
 .exfalso;have h:dY a.num=0:=eq_of_beq h;exact d<|uz.1 h
 refine N J<|y J (λh=>?_)<|λh=>?_
 .have h:dY a.num= -1:=eq_of_beq h;have h:a.num<0:=LI.1 G;have e:(a⁻¹).num= -(a.den:O)/\(((a⁻¹).den:Y):O)= -a.num:=by
   rw[YC];have:=K1 (a.den:O) a.num d;rw[aq h,c]at this;rw[this.1,this.2];constructor
   .rw[show-(((1:Y):O))= -1 from J,Ar,sZ]
   .rw[show-(((1:Y):O))= -1 from J,Ar,sZ]
  refine w<|rc J J (QD (a.den:O) g)<|rc J J (QD a.num f)<|s J<|bI ?_;repeat(first|refine cA ?_|refine jJ ?_|refine kd ?_)
  refine dR J ?_;show AV.t [(af,[C.B (b6<| -(a.den:O)),C.S ao<|dN<| -(a.den:O),C.B<|b6<| -a.num,C.S ao<|dN<| -a.num]),(ah,[C.I .i64 0])]=_;rw[<-e.1,<-e.2];rfl
 .have h:¬dY a.num= -1:=nf h;have h:0<a.num:=by
   unfold dY at h;split at h
   .omega
   .omega
  have e:(a⁻¹).num=(a.den:O)/\(((a⁻¹).den:Y):O)=a.num:=by rw[YC];exact LJ h c
  refine cZ<|aX ?_;refine N J<|bQ J ?_;show AV.t [(af,[C.B (b6 (a.den:O)),C.S ao<|dN (a.den:O),C.B<|b6 a.num,C.S ao<|dN a.num]),(ah,[C.I .i64 0])]=_;rw[<-e.1,<-e.2];rfl
def ajX{k}a c(f:QS k a)(g:QS k c)(A:k<=100000000000):al z 77 [aQ a,aQ c] (aQ<|a+c):=by
 refine aR Tryz.func77 ?_;have r:=f.n.mul g.d;have t:=g.n.mul f.d;have u:=f.d.mul g.d;have v:=r.add t;have m:=f.n.sm G;have i:=f.d.sm G;have p:=g.n.sm G;have l:=g.d.sm G;have x:=zu (den_pos a)<|den_pos c;have e:iU (a.num*(c.den:O)+c.num*(a.den:O)) ((a.den:O)*(c.den:O))=a+c:=by have B:=den_pos a;have C:=den_pos c;rw[<-Re _ _ G G,nh,nh]
 rw[<-e];refine N J<|w<|rl .z [a.num,(c.den:O)] J J (rc J J (G9 _ _ m l)<|rl .z [c.num,(a.den:O)] J J (rc J J (G9 _ _ p i)<|rc J J (ai6 _ _ (r.sm G)<|t.sm G)<|s J ?_));exact w<|rl .z [(a.den:O),(c.den:O)] J J (rc J J (G9 _ _ i l)<|rc J J (Ra _ _ x (v.sm G)<|u.sm G)<|s J<|cx J)
def YD{a f c d}(i:gP a f=1)(k:c∣a)(l:d∣f):gP c d=1:=by have g:((gP c d:Y):O)∣((gP a f:Y):O):=Int.dvd_coe_gcd (Ha (Int.gcd_dvd_left ..) k)<|Ha (Qp ..) l;rw[i]at g;have:=Int.ofNat_dvd.1 g;exact Nat.dvd_one.1 this
def Rf{n d}(a:0<d):(iU n d).num∣n/\(((iU n d).den:Y):O)∣d:=by let ⟨c,h2⟩:=Q' (n:=n) a;rw[c,h2];exact⟨⟨_,(ajY<|Int.gcd_dvd_left ..).symm⟩,⟨_,(ajY<|Qp ..).symm⟩⟩
def aJ.dvd{n}{a c}(f:aJ n a)(d:c∣a)(g:a≠0):aJ n c:=by have:=uw G<|GU.2 d;unfold aJ at*;omega
def Hb{k}{n d}(a:0<d)(c:aJ k n)(f:aJ k d):QS k (iU n d):=by
 let ⟨g,h2⟩:=Rf (n:=n) a;refine⟨?_,f.dvd h2 G⟩;by_cases e:n=0
 .subst e;rw[Rat.zero_divInt];exact aJ.zero _
 .exact c.dvd g e
def QS.add{k}{a c}(f:QS k a)(g:QS k c):QS (2*k+1) (a+c):=by
 have i:=den_pos a;have l:=den_pos c;have e:iU (a.num*(c.den:O)+c.num*(a.den:O)) ((a.den:O)*(c.den:O))=a+c:=by rw[<-Re _ _ G G,nh,nh]
 rw[<-e];exact Hb (zu i l) (((f.n.mul g.d).add<|g.n.mul f.d).le G)<|(f.d.mul g.d).le G
def QS.mul{k}{a c}(f:QS k a)(g:QS k c):QS (2*k) (a*c):=by
 have i:=den_pos a;have l:=den_pos c;have e:iU (a.num*c.num) ((a.den:O)*(c.den:O))=a*c:=by rw[<-DI,nh,nh]
 rw[<-e];exact Hb (zu i l) ((f.n.mul g.n).le G)<|(f.d.mul g.d).le G
def QS.neg{k}{a}(c:QS k a):QS k (-a):=⟨c.n.neg,c.d⟩
def YE{k}a c(f:QS k a)(g:QS k c)(hk:k<=100000000000):al z 72 [aQ a,aQ c] (aQ<|a*c):=by
 refine aR Tryz.func72 ?_;have m:=f.n.sm G;have p:=f.d.sm G;have r:=g.n.sm G;have t:=g.d.sm G;have A:=Hb (n:=a.num) (den_pos c) f.n g.d;have B:=Hb (n:=c.num) (den_pos a) g.n f.d;let ⟨l1,l2⟩:=Rf (n:=a.num)<|den_pos c;let ⟨r1,C⟩:=Rf (n:=c.num)<|den_pos a;have u:=Ra a.num (c.den:O) (den_pos c) m t;have v:=Ra c.num (a.den:O) (den_pos a) r p;have e:iU a.num (c.den:O)*iU c.num (a.den:O)=a*c:=by rw[DI,ef (c.den:O),<-DI,nh,nh]
 have F:gP a.num (a.den:O)=1:=a.reduced;have H:gP c.num (c.den:O)=1:=c.reduced;generalize iU a.num (c.den:O)=L at*;generalize iU c.num (a.den:O)=R at*;have x:gP (L.num*R.num) ((L.den:O)*(R.den:O))=1:=by have i:gP L.num (L.den:O)=1:=L.reduced;have l:gP R.num (R.den:O)=1:=R.reduced;have K:=YD F l1 C;have M:=YD H r1 l2;have P:Rg (aC L.num) L.den:=i;have Q:Rg (aC R.num) R.den:=l;have S:Rg (aC L.num) R.den:=K;have W:Rg (aC R.num) L.den:=M;show Nat.gcd (aC<|L.num*R.num) (aC<|(L.den:O)*(R.den:O))=1;rw[pD,pD];exact Nat.Coprime.mul_left (ajZ P S)<|ajZ W Q
 let ⟨i,l⟩:=LJ (zu (den_pos L)<|den_pos R) x;rw[<-DI,nh,nh,e]at i l;refine N J<|bD J J u J<|w<|rc J J v<|s J ?_;refine w<|rl .z [L.num,R.num] J J (rc J J (G9 _ _ (A.n.sm G)<|B.n.sm G)<|rl .z [(L.den:O),(R.den:O)] J J (rc J J (G9 _ _ (A.d.sm G)<|B.d.sm G)<|s J<|bQ J<|G' i l))
def ni(a c:D):O:=if a<c then-1 else if c<a then 1 else 0
def LK n g(c:g≠0)(d:Sm n)(a:Sm g):al z 147 [aZ n,aZ g] (aZ<|n/g):=by refine aR Tryz.func147 ?_;refine N J<|bD J J (Dq n g c d a) J<|N J<|bQ J ?_;rfl
def Sm.gcd{n d}(g:d≠0)(a:Sm d):Sm ((gP n d:Y):O):=by have c:gP n d<=aC d:=Nat.gcd_le_right _ G;have f:Z (q<|aC<|((gP n d:Y):O))<=Z (q<|aC d):=rR (by rw[oA];exact c);exact cj f a
def Sm.ng{a}(c:Sm a):Sm (-a):=by
 have e:dN (-a)=dN a:=by unfold dN;rw[Int.natAbs_neg]
 unfold Sm at*;rw[e];exact c
def LL n d(g:d≠0)(i:Sm n)(a:Sm d):al z 92 [aZ n,aZ d] (aQ<|iU n d):=by
 refine aR Tryz.func92 ?_;have k:gP n d≠0:=λl=>g (Qq.1 l).2
 let ⟨p1,f⟩:=K1 n d g;have c:Sm ((gP n d:Y):O):=Sm.gcd g a;refine N J<|bD J J (K4 n d i a) J<|U<|w<|rc J J (Ao d)<|s J ?_;refine y J (λh=>?_)<|λh=>?_
 .have h:d<0:=by
   have h:dY d<0:=dH;unfold dY at h;split at h
   .assumption
   ·(try split at h)<;>omega
  rw[aq h]at p1 f;refine bT<|rc J J (Xh _)<|s J<|aO<|w ?_;refine rc J J (LK n _ G i<|Sm.ng c)<|rc J J (LK d _ G a<|Sm.ng c)<|s J<|bQ J ?_;unfold aQ;simp only[av,p1,f];rfl
 .have h:¬d<0:=by
   have h:¬dY d<0:=dH;unfold dY at h;split at h
   .omega
   .assumption
  rw[b h]at p1 f;refine aA<|w ?_;refine rc J J (LK n _ G i c)<|rc J J (LK d _ G a c)<|s J<|bQ J ?_;unfold aQ;simp only[av,p1,f];rfl
def Rh n d(c:d≠0)(f:Sm n)(a:Sm d):al z 134 [aZ n,aZ d] (.t [(af,av .q<|iU n d),(ah,[.I .i64 0])]):=by
 refine aR Tryz.func134 ?_;refine N J<|U<|bD J J (Ao d) J ?_;refine y J (λh=>?_)<|λh=>?_
 .exfalso;have h:dY d=0:=dH;unfold dY at h;split at h
  .omega
  ·(try split at h)<;>omega
 .refine aA<|bD J J (LL n d c f a) J<|bQ J ?_;rfl
def LM{k}a c(f:QS k a)(g:QS k c)(i:k<=100000000000):al z 41 [aQ a,aQ c] (aQ<|a*c):=by
 refine aR Tryz.func41 ?_;have l:=zu (den_pos a)<|den_pos c;have e:iU (a.num*c.num) ((a.den:O)*(c.den:O))=a*c:=by rw[<-DI,nh,nh]
 rw[<-e];refine N J<|w<|rc J J (kg _ _ (f.n.sm G)<|g.n.sm G)<|rc J J (kg _ _ (f.d.sm G)<|g.d.sm G)<|rc J J (LL _ _ G ((f.n.mul g.n).sm G)<|(f.d.mul g.d).sm G)<|s J<|bQ J ?_;rfl
def YF{k}a c(f:QS k a)(g:QS k c)(r:k<=100000000000):al z 42 [aQ a,aQ c] (aQ<|a+c):=by
 refine aR Tryz.func42 ?_;have i:=f.n.mul g.d;have l:=g.n.mul f.d;have m:=f.d.mul g.d;have p:=i.add l;have t:=zu (den_pos a)<|den_pos c;have e:iU (a.num*(c.den:O)+c.num*(a.den:O)) ((a.den:O)*(c.den:O))=a+c:=by have u:=den_pos a;have v:=den_pos c;rw[<-Re _ _ G G,nh,nh]
 rw[<-e];refine N J<|w<|rc J J (kg _ _ (f.n.sm G)<|g.d.sm G)<|rc J J (kg _ _ (g.n.sm G)<|f.d.sm G)<|rc J J (we _ _ (i.sm G)<|l.sm G)<|rc J J (kg _ _ (f.d.sm G)<|g.d.sm G)<|rc J J (LL _ _ G (p.sm G)<|m.sm G)<|s J<|bQ J ?_;rfl
def aj0{k}a c(f:QS k a)(g:QS k c)(i:k<=100000000000):al z 216 [aQ a,aQ c] (j<|dy (a.num*(c.den:O))<|c.num*(a.den:O)):=by refine aR Tryz.func216 ?_;refine N J<|w<|rc J J (kg _ _ (f.n.sm G)<|g.d.sm G)<|rc J J (kg _ _ (g.n.sm G)<|f.d.sm G)<|rc J J (KL _ _)<|s J<|cx J
def aj1{k}a c(i:c.num≠0)(f:QS k a)(g:QS k c)(m:k<=100000000000):al z 133 [aQ a,aQ c] (.t [(af,av .q<|a/c),(ah,[.I .i64 0])]):=by
 refine aR Tryz.func133 ?_;have l:(a.den:O)*c.num≠0:=yl (by have:=den_pos a;omega) i;have e:iU (a.num*(c.den:O)) ((a.den:O)*c.num)=a/c:=by rw[<-DI,nh,ym];congr 1;conv=>rhs;rw[<-nh c,Rat.inv_divInt]
 rw[<-e];refine N J<|w<|rc J J (kg _ _ (f.n.sm G)<|g.d.sm G)<|rc J J (kg _ _ (f.d.sm G)<|g.n.sm G)<|rc J J (Rh _ _ l ((f.n.mul g.d).sm G)<|(f.d.mul g.n).sm G)<|s J<|bQ J ?_;rfl
def al.a1{P}{f}{x d}{xs}{r}(a:al P f (d::xs) r)(c:bf x d):al P f (x::xs) r:=
 ⟨a.call,a.iC,λH W vs g i=>a.spec H W vs g<|by obtain⟨v,r,rfl,k,l⟩:=i;exact⟨v,r,J,c.1 _ _ k,l⟩⟩
def wH(a:V O)(m:O)(c:V O):V O:=(cc<|max (Z a)<|Z c).map λi=>E a i 0+m*E c i 0
def aj2(f:Y->O) i:(cc<|i+1).map f=(cc i).map f++[f i]:=by rw[zz,fe];rfl
def DJ a m(d:V O) u(x:u<=100000)(A:Z a<=1000)(B:Z d<=1000)(r:∀i,aJ u (E a i 0))(p:aJ u m)(t:∀i,0<=E d i 0/\E d i 0<4294967296):al z 260 [I .z a,aZ m,I au d] (I .z<|aS<|wH a m d):=by
 refine aR Tryz.func260 ?_;generalize hM:max (Z a) (Z d)=M;have v:M<=1000:=G;have f:wH a m d=(cc M).map λi=>E a i 0+m*E d i 0:=by rw[wH,hM]
 rw[f];refine N J<|w<|fg .z [] J J (s J<|U<|N J ?_);refine R<|aY (α:=Y) (λi=>⟨[(0,I .z a),(2,I au d),(4,.c<|.P 0 0),(7,.c<|.X 1000000),(8,j i)],[(0,.box 42 0<|av .z m),(1000000,.vec 42 .z<|(cc i).map λi=>E a i 0+m*E d i 0)],3,[]⟩) (λi=>i<=M) (λi=>M-i) 0 (be _) (wk (bJ J) ⟨bE J J,bR J,e⟩) ?_;intro i C;have F:Z ((cc i).map λi=>E a i 0+m*E d i 0)=i:=ay;by_cases l:i<M
 .refine jk ⟨[(0,I .z a),(2,I au d),(4,.c<|.P 0 0),(7,.c<|.X 1000000),(8,j i)],[(0,.box 42 0<|av .z m),(1000000,.vec 42 .z<|(cc i).map λi=>E a i 0+m*E d i 0)],4,[]⟩ ?_ (λg=>w<|rg 14 J J (λh=>s J<|y J (λ_=>cZ<|dM g aH)<|λh2=>oz)<|λh=>s J<|y J (λ_=>cZ<|dM g aH)<|λh2=>?_)
  .have h2:=t i;have k:aJ 1 (E d i 0):= .one G;refine U<|R<|bT ?_;refine rc J J (GF a i)<|rc J J (GY d i)<|rc J J (iD (E d i 0) G G) (hp:=aF)<|rc J J (kg m (E d i 0) (p.sm G)<|k.sm G)<|rc J J (we (E a i 0) (m*E d i 0) ((r i).sm G)<|(p.mul k).sm G) ?_;refine rl .z [E a i 0+m*E d i 0] J J (ra J J J J J J J J J ?_ ?_<|s J ?_)
   .show(_+1+(_+1)/4+192)*32<=_;omega
   .show(_+1)*2<=_;omega
   refine aX<|rt J<|aG (i+1) l wc<|Wk.trans (wk (st':=⟨[(0,I .z a),(2,I au d),(4,.c<|.P 0 0),(7,.c<|.X 4013000),(8,j ((i+1:Y):O))],[(0,.box 42 0<|av .z m),(4013000,.vec 42 .z<|(cc<|i+1).map λi=>E a i 0+m*E d i 0)],8,[]⟩) (bJ J) ⟨bR J,bE J ?_,e⟩)<|Wk.trans (fa 1000000 4013000 J J J) aH;exact a8 (aN.vec 42 .z) (aj2 _ i).symm
  .exfalso;have h:¬(i:O)<(Z a:O):=aT h;have h2:¬(i:O)<(Z d:O):=aT h2;omega
 .have n:i=M:=by omega
  subst n;refine U<|w<|rg 14 J J (λh=>?_)<|λh=>?_
  .exfalso;have h:(i:O)<(Z a:O):=aK h;omega
  .refine s J (y J (λh2=>?_)<|λh2=>?_)
   .exfalso;have h2:(i:O)<(Z d:O):=aK h2;omega
   .exact a6<|aO<|c6 1000000 J J J<|bD J J (K5 _) J<|cx J
def aj3 m a:wH [] m a=a.map (m*·):=by refine sL (by simp[wH])<|λi d h2=>?_;have c:i<Z a:=o0;simp only[wH,z2,J3];rw[aV (l:=a),cH c];simp
def YG(a:V O)(c:Z a<=1000)(d:∀i,0<=E a i 0/\E a i 0<4294967296):al z 259 [I au a] (I .z<|aS a):=by refine aR Tryz.func259 ?_;have h:=DJ [] 1 a 1 T ay c (λi=>aJ.zero 1) (.one T) d;rw[aj3,show(λx:O=>1*x)=id from funext λx=>jS x,List.map_id]at h;exact N J<|w<|rc J J (iD 1 T T)<|rc J J (h.a1<|bf.nil .z)<|s J<|cx J
def Ri(p k:Y)(d:p<4294967296)(f:k<=100000):al z 177 [cU p,j k] (aZ<|(p:O)^k):=by
 refine aR Tryz.func177 ?_;have a:aJ 1 (p:O):= .one G;refine N J<|bD J J (iD 1 T T) J<|U<|N J ?_;refine R<|aY (α:=Y) (λi=>⟨[(0,cU p),(1,j k),(4,.c<|.P 0 0),(5,.c<|.P 1001000 0),(6,j i)],[(0,.box 42 0 [.B ah,.V<|.slice none 0 0]),(1001000,.box 42 0<|av .z<|(p:O)^i)],3,[]⟩) (λi=>i<=k) (λi=>k-i) 0 (be _) (wk (bJ J) ⟨bE J J,bE J ?_,e⟩) ?_
 .rw[ow];rfl
 intro i g;refine U<|N J<|y J (λh=>?_)<|λh=>?_
 .have h:i<k:=by have h:(i:O)<(k:O):=aK h;omega
  refine aA<|U<|R<|bT ?_;refine rc J J (iD p G G) (hp:=aF)<|rc J J (kg ((p:O)^i) p ((a.pow i).sm G)<|a.sm G)<|s J ?_;refine aX<|rt J<|aG (i+1) h LN<|wk (bJ J) ⟨bE J J,bE J ?_,e⟩;rw[eZ];rfl
 .have h:i=k:=by have h:¬(i:O)<(k:O):=aT h;omega
  subst h;exact a6<|aO<|N J<|bQ J J
def dq(a m:O):O:=if a%m+a%m>m then a%m-m else a%m
def Rj{n}{a m}(c:0<m)(d:aJ n m):aJ n (dq a m):=by have f:=g6 a (G:m≠0);have g:=g7 a c;unfold dq aJ at*;split<;>omega
def YH{a c}:dy a c>0↔a>c:=by
 unfold dy;split
 .omega
 .split<;>omega
def Rk a m u(x:u<=100000)(A:Z a<=1000)(l:0<m)(v:∀i,aJ u (E a i 0))(n:aJ u m):al z 211 [I .z a,aZ m] (I .z<|aS<|a.map (dq · m)):=by
 refine aR Tryz.func211 ?_;refine N J<|w<|fg .z [] J J (s J<|U<|N J ?_);refine R<|aY (α:=Y) (λi=>⟨[(0,I .z a),(3,.c<|.P 0 0),(5,.c<|.X 1000000),(6,j i)],[(0,.box 42 0<|av .z m),(1000000,.vec 42 .z<|(h i a).map (dq · m))],3,[]⟩) (λi=>i<=Z a) (λi=>Z a-i) 0 (be _) (wk (bJ J) ⟨bE J J,bR J,e⟩) ?_;intro i B;have C:((h i a).map (dq · m)).length=i:=bX;refine U<|N J<|y J (λd=>?_)<|λd=>?_
 .have d:i<Z a:=by have d:(i:O)<(Z a:O):=aK d;omega
  have p:al z 183 [.a (av .z<|E a (ae<|(i:O)) 0),aZ m] (.t [(af,av .z<|E a i 0/m),(af,av .z<|E a i 0%m),(ah,[.I .i64 0])]):=by rw[bW];exact Dq (E a i 0) m G ((v i).sm G)<|n.sm G
  have r:aJ u (E a i 0%m):=aJ.emod l n;have g:=we (E a i 0%m) (E a i 0%m) (r.sm G)<|r.sm G;refine aA<|U<|R<|w<|rc J J p (hp:=aF)<|s J ?_;refine jk ⟨[(0,I .z a),(3,.c<|.P 0 0),(5,.c<|.X 1000000),(6,j i),(8,.c<|.P 4011000 0)],[(0,.box 42 0<|av .z m),(1000000,.vec 42 .z<|(h i a).map (dq · m)),(4011000,.box 42 0<|av .z<|dq (E a i 0) m)],7,[]⟩ ?_<|λk=>?_
  .refine bT (rl .z [dq (E a i 0) m] J J (ra J J J J J J J J J ?_ ?_<|s J ?_))
   .show(_+1+(_+1)/4+192)*32<=_;omega
   .show(_+1)*2<=_;omega
   refine aX<|rt J<|aG (i+1) d oq<|Wk.trans (wk (st':=⟨[(0,I .z a),(3,.c<|.P 0 0),(5,.c<|.X 7003000),(6,j ((i+1:Y):O))],[(0,.box 42 0<|av .z m),(7003000,.vec 42 .z<|(h (i+1) a).map (dq · m))],9,[]⟩) (bJ J) ⟨bR J,bE J ?_,e⟩)<|Wk.trans (fa 1000000 7003000 J J J) aH;refine a8 (aN.vec 42 .z) ?_;rw[qM a i d,fe];rfl
  .refine w (rc J J g<|rc J J (KL (E a i 0%m+E a i 0%m) m)<|s J<|y J (λf=>?_)<|λf=>?_)
   .have f:dy (E a i 0%m+E a i 0%m) m>0:=aK f;rw[YH]at f;refine bT<|rc J J (Qz (E a i 0%m) m (r.sm G)<|n.sm G)<|s J<|dM k<|wk (bJ J) ⟨bE J J,bR J,bE J ?_,e⟩;rw[dq,aq f];rfl
   .have f:¬dy (E a i 0%m+E a i 0%m) m>0:=aT f;rw[YH]at f;refine cZ<|dM k<|wk (bJ J) ⟨bE J J,bR J,bE J ?_,e⟩;rw[dq,b f];rfl
 .have d:i=Z a:=by have d:¬(i:O)<(Z a:O):=aT d;omega
  subst d;rw[fv];exact a6<|aO<|c6 1000000 J J J<|bD J J (K5 _) J<|cx J
def aj4{a c}(d:b6 a=b6 c)(f:dN a=dN c):a=c:=by have g:val (q<|aC a)=val (q<|aC c):=a8 val f;rw[dS,dS]at g;have i:=x5 a;have k:=x5 c;rw[<-i,<-k,d,(G:aC a=aC c)]
def YI{x a:Bool}:(x !=a)=af↔x≠a:=by cases x<;>cases a<;>decide
def YJ a(d:Sm a):al z 93 [aZ a] (cB af):=by
 refine aR Tryz.func93 ?_;have f:Z (q<|aC a)<=1099511627776:=d;have c:Z (dN a)<=1099511627776:=d;refine N J<|N J<|U<|N J<|y J (λh=>?_)<|λh=>aA ?_
 .have h:(Z (q<|aC a):O)=0:=eq_of_beq h;have i:a=0:=by have:¬0<Z (q<|aC a):=G;rw[ot]at this;omega
  subst i;exact N J<|bI<|cA<|atR J
 .have h:(Z (q<|aC a):O)≠0:=nf h;have g:0<Z (dN a):=by show 0<Z (q<|aC a);omega
  refine N J (hp:=aF)<|bQ J ?_;have k:=tS<|aC a;refine a8 cB ?_;rcases k with e|e
  .rw[e]at h;simp at h
  .show(E (q<|aC a) (ae<|(Z (q<|aC a):O)-1) 0 !=0)=af;rw[(G:ae ((Z (q<|aC a):O)-1)=Z (q<|aC a)-1)];simpa using e
def YK a g(l:Sm a):al z 68 [aZ a,aZ g] (cB<|decide<|a=g):=by
 refine aR Tryz.func68 ?_;have l:Z (dN a)<=1099511627776:=l;refine N J<|U<|w<|rg 11 J J (λd=>?_)<|λd=>?_
 .have d:b6 a≠b6 g:=YI.1 d;refine s J<|y J (λ_=>N J<|bI<|cA<|dR J<|a8 cB ?_)<|λh2=>oz;rw[ox (λe=>d uA)]
 .have d:b6 a=b6 g:=by
   have d:¬(b6 a !=b6 g)=af:=by rw[d];decide
   rw[YI]at d;exact Decidable.not_not.1 d
  refine s J<|y J (λh2=>?_)<|λh2=>aA ?_
  .have h2:=ye h2;refine N J<|bI<|cA<|dR J<|a8 cB ?_;rw[ox (λe=>h2 uA)]
  .have h2:=wy h2;refine U<|N J<|R<|aY (α:=Y) (λi=>⟨[(2,.c<|.P 0 0),(3,.c<|.P 1000 0),(5,j i)],[(0,.box 42 0<|av .z a),(1000,.box 42 0<|av .z g)],4,[]⟩) (λi=>i<=Z (dN a)/\h i (dN a)=h i (dN g)) (λi=>Z (dN a)-i) 0 ⟨be _,ay⟩ (wk (bJ J) ⟨bE J J,bE J J,oo⟩) ?_;rintro i ⟨m,ht⟩;refine U (N J<|y J (λf=>?_)<|λf=>?_)
   .have f:i<Z (dN a):=by have f:(i:O)<(Z (dN a):O):=aK f;omega
    refine aA<|U<|R<|N J (hp:=aF)<|y J (λk=>?_)<|λk=>cZ<|aX ?_
    .have k:E (dN a) i 0≠E (dN g) i 0:=ye k;refine N J<|bI ?_;repeat(first|refine cA ?_|refine jJ ?_|refine kd ?_)
     refine dR J<|a8 cB ?_;rw[ox (λe=>k uA)]
    .have k:E (dN a) i 0=E (dN g) i 0:=wy k;exact rt J<|aG (i+1) ⟨f,by rw[qM _ i f,qM _ i G,ht,k]⟩ (G:Z (dN a)-(i+1)<Z (dN a)-i)<|wk (bJ J) ⟨bE J J,bE J J,oo⟩
   .have f:i=Z (dN a):=by have f:¬(i:O)<(Z (dN a):O):=aT f;omega
    subst f;rw[fv,iK G]at ht;refine a6<|aO<|N J<|bQ J<|a8 cB ?_;rw[rV (aj4 d ht)]
def YL{k}a c(g:QS k a)(i:k<=100000000000):al z 21 [aQ a,aQ c] (cB<|decide<|a=c):=by
 refine aR Tryz.func21 ?_;refine N J<|w<|rc J J (YK a.num c.num<|g.n.sm G)<|rg 10 J J (λh=>?_)<|λh=>?_
 .have h:a.num=c.num:=aK h;refine gK J J J J J (YK (a.den:O) (c.den:O)<|g.d.sm G)<|s J<|bQ J ?_;refine a8 cB ?_;by_cases e:(a.den:O)=(c.den:O)
  .rw[rV e,rV<|Rat.ext h G];rfl
  .rw[ox e,ox<|λf=>e<|by rw[f]];rfl
 .have h:¬a.num=c.num:=aT h;refine s J<|bQ J ?_;refine a8 cB ?_;rw[ox (λf=>h<|by rw[f])]
def aj5{k}a(c:QS k a)(g:k<=100000000000):al z 39 [aQ a] (cB af):=by
 refine aR Tryz.func39 ?_;have i:=den_pos a;refine N J<|U<|w<|rc J J (YJ a.num<|c.n.sm G)<|rg 7 J J (λh=>er)<|λ_=>?_;refine gK J J J J J (YJ (a.den:O)<|c.d.sm G)<|rg 13 J J (λh=>er)<|λ_=>?_;refine gK J J J J J (Ao (a.den:O))<|s J<|y J (λh=>?_)<|λ_=>aA ?_
 .exfalso;have h:dY (a.den:O)<1:=aK h;unfold dY at h;split at h
  .omega
  .split at h<;>omega
 have f:=K4 a.num (a.den:O) (c.n.sm G)<|c.d.sm G;have e:gP a.num (a.den:O)=1:=a.reduced;rw[e]at f;refine w<|rc J J f<|rc J J (iD 1 T T)<|rc J J (KL ((1:Y):O) 1)<|s J<|cx J
abbrev ZZ:ET:= .pr .z .z
def qz(r:D):O×O:=(r.num,(r.den:O))
def LO f(k:V D):kL (.vec f ZZ<|k.map qz) (.vec f .q k):=by
 refine⟨λN g W v h=>?_,λ_ h=>er⟩;rcases h with⟨a,c⟩|⟨b,d,vs,a,c,n,l,m,p,r,t⟩
 .exact .inl ⟨a,List.map_eq_nil_iff.1 c⟩
 .rw[cR]at a l m;refine .inr ⟨b,d,vs,a,c,n,l,m,λi u=>?_,r,t⟩;have:=p i (by rw[cR];exact u);rw[z2]at this;exact this
def YM(f:V D):bf (.c<|.S .q f) (.c<|.S ZZ<|f.map qz):=by
 refine⟨λg v h=>?_,λ_ h=>by simpa[AV.ak,C.ak]using h⟩;obtain⟨a,k,m,n,p,d⟩:kZ (cV g.H .q) 4 g.H f v:=h;refine⟨a,k,by rw[cR];exact m,by rw[cR];exact n,by rw[cR];exact p,?_⟩;rcases d with d|⟨b,off,e,d⟩
 .exact .inl (by rw[d];rfl)
 .refine .inr ⟨b,off,e,λi l=>?_⟩;rw[cR]at l;let ⟨cs,c1,r,t⟩:=d i l;exact⟨cs,c1,by rw[z2];exact r,t⟩
def aj6{d:Type}(a c:d){i n}(f:i<n):(bp i a++bp (n-i) c).set i a=bp (i+1) a++bp (n-(i+1)) c:=by rw[KZ _ _ ay,fE,mr,(G:n-i=(n-(i+1))+1),xx,Qj,List.replicate_succ',kF];rfl
def LP(n:Y)(d:n<=1000):nO z 118 [j n] 44 .q (bp n 0):=by
 refine Gd Tryz.func118 J J J J T ?_;refine N J<|w<|rm ZZ n J J J J J J PY J ?_ ?_<|s J<|U<|N J ?_
 .show n*64<=_;omega
 .show n*4<=_;omega
 refine R<|aY (α:=Y) (λi=>⟨[(3,.c<|.X 1001000),(7,j n),(8,j i)],[(1001000,.vec 44 ZZ<|bp i (0,1)++bp (n-i) (0,0))],3,[]⟩) (λi=>i<=n) (λi=>n-i) 0 (be _) (wk (bJ J) ⟨bE J J,e⟩) ?_;intro i f;refine N J<|U<|y J (λh=>?_)<|λh=>?_
 .have h:i<n:=by have h:(i:O)<(n:O):=aK h;omega
  have a:Z (bp i ((0,1):O×O)++bp (n-i) (0,0))=n:=bX;refine cZ<|aO<|U<|R<|N J<|bT<|rc J J (YB 0 T T)<|xW ((0,1):O×O) J J J J J ?_ (s J<|aX<|rt J (hp:=aF)<|aG (i+1) h (G:n-(i+1)<n-i)<|wk (bJ J) ⟨bE J ?_,e⟩) (hp:=?_)
  .show ae ((i:O))<_;rw[a];omega
  .refine a8 (aN.vec 44 ZZ) ?_;show(bp i ((0,1):O×O)++bp (n-i) (0,0)).set (ae<|(i:O)) (0,1)=_;rw[bW,aj6 _ _ h]
  .show 0<=(i:O)/\(i:O)<(Z (bp i ((0,1):O×O)++bp (n-i) (0,0)):O);rw[a];omega
 .have h:i=n:=by have h:¬(i:O)<(n:O):=aT h;omega
  subst h;refine a6<|aO ?_;refine dU (st':=⟨[(3,.c<|.X 1001000)],[(1001000,.vec 44 .q<|bp i 0)],4,[]⟩) (wk ⟨sR J,e⟩ ⟨⟨_,J,?_⟩,e⟩)<|N J<|bI<|Gc (id:=1001000) cq J J;have:=LO 44<|bp i 0;rw[List.map_replicate]at this;rw[mr,CK,gO];exact this
def Hc(xs:V D)(i:Z xs<=1000000):al z 120 [I .q xs] (I .q<|eV xs):=by
 refine aR Tryz.func120 ?_;refine N J<|N J ?_;refine U<|R<|aY (α:=Y) (λk=>⟨[(0,I .q xs),(3,cI k)],[],2,[]⟩) (λk=>k<=Z xs/\jx xs k=jx xs (Z xs)) (λk=>k) (Z xs) ⟨a7 _,J⟩ aH ?_;rintro k ⟨l,a⟩;have d:jx xs k=k->bf (I .q<|h k xs) (I .q<|eV xs):=λf=>by refine bf.of_eq ?_;unfold eV;rw[<-a,f]
 refine U<|w ?_;refine rg 8 J J (λc=>?_)<|λc=>?_
 .have c:0<k:=by have c:(k:O)>0:=aK c;omega
  obtain⟨j,rfl⟩:∃j,k=j+1:=⟨k-1,G⟩;have g:ae (((j+1:Y):O)-1)=j:=G;refine gK J J J J J (Rb<|E xs (ae<|((j+1:Y):O)-1) 0) (s J ?_) (hp:=jK);refine y J (λh2=>?_)<|λh2=>?_
  .have h2:(E xs j 0).num=0:=by have h2:dY (E xs (ae<|((j+1:Y):O)-1) 0).num=0:=eq_of_beq h2;rw[g]at h2;exact uz.1 h2
   refine aA<|R<|rt J (eH<|aG j ⟨G,?_⟩ rQ<|wk ⟨sR J,sE J ?_,e⟩ e) (hp:=jK)
   .rw[<-a,jx,aq h2]
   .exact im (G:((j+1:Y):O)-1=(j:O))
  .have h2:(E xs j 0).num≠0:=by have h2:dY (E xs (ae<|((j+1:Y):O)-1) 0).num≠0:=nf h2;rw[g]at h2;exact λf=>h2 (uz.2 f)
   exact a6<|aO<|N J (bI<|gZ cq J<|d<|by rw[jx,b h2]) (hp:=aF)
 .have c:k=0:=by have c:¬(k:O)>0:=aT c;omega
  subst c;exact s J<|y J (λh2=>oz)<|λ_=>a6<|aO<|N J (bI<|gZ cq J<|d J) (hp:=aF)
def nj(r:V D)(c:D)(a:V D)(k m:Y):V D:=(cc<|Z r).map λi=>if k<=i/\i<k+m then E r i 0+c*E a (i-k) 0 else E r i 0
def iV(r:V D)(c:D)(a:V D)(k:Y):V D:=nj r c a k<|Z a
def mI(r c a k m):Z (nj r c a k m)=Z r:=by simp[nj]
def te{r}{c}{a}{k m i}(d:i<Z r):E (nj r c a k m) i 0=if k<=i/\i<k+m then E r i 0+c*E a (i-k) 0 else E r i 0:=by unfold nj;rw[aV,iT,kS d];rfl
def Hd{a c:V D}(f:Z a=Z c)(g:∀i,i<Z a->E a i 0=E c i 0):a=c:=by
 refine sL f λi d k=>?_
 have:=g i d;rwa[aV,cH d,aV,cH k]at this
def aj7(r c d k):nj r c d k 0=r:=Hd (mI ..) λi a=>by rw[mI]at a;rw[te a,b G]
def aj8(r c k):iV r 0 c k=r:=Hd (mI ..) λi a=>by
 unfold iV at*;rw[mI]at a;rw[te a];split
 .rw[qO,nQ]
 .rfl
def AI{l}{i}c(x:D)(a:i<Z l):(l.set i x).getD c 0=if i=c then x else E l c 0:=by
 rw[aV,P9];by_cases e:i=c
 .subst e;rw[aq J,aq J,aq a];rfl
 .rw[b e,b e,aV]
def aj9{r}{c}{a}{k m}(g:k+m<Z r):(nj r c a k m).set (k+m) (E r (k+m) 0+c*E a m 0)=nj r c a k (m+1):=Hd (by rw[rH,mI,mI]) λi d=>by
 rw[rH,mI]at d;rw[AI _ _ (by rw[mI];exact g),te d,te d];by_cases e:k+m=i
 .subst e;rw[aq J,aq G,GO]
 .rw[b e];by_cases f:k<=i/\i<k+m
  .rw[aq f,aq G]
  .rw[b f,b G]
def aj'{r}{c}{a}{k m}(g:E a m 0=0):nj r c a k m=nj r c a k (m+1):=Hd (by rw[mI,mI]) λi d=>by
 rw[mI]at d;rw[te d,te d];by_cases e:i=k+m
 .subst e;rw[b G,aq G,GO,g,fN,nQ]
 .by_cases f:k<=i/\i<k+m
  .rw[aq f,aq G]
  .rw[b f,b G]
def AJ{r:D}(a:r.num=0):r=0:=DK.1 a
def LQ{s}(F:s<=1000000000) r c a k(H:k+Z a<=Z r)(x:Z r<=1000)(A:∀i,QS s (E r i 0))(p:QS s c)(B:∀i,QS s (E a i 0)):
  sW z 119 [.c (.X 0),aQ c,I .q a,j k] 44 .q r (.t []) (iV r c a k):=by
 refine Gf Tryz.func119 J J J J J T ?_
 refine N J<|U<|bD J J (Rb c) J<|y J (λh=>?_)<|λh=>aA ?_
 .have h:dY c.num=0:=eq_of_beq h;have h:c=0:=AJ<|uz.1 h;subst h;rw[aj8];exact bI<|cA<|xY cq J (bf.refl _) J
 refine N J ?_
 refine R<|aY (α:=Y) (λm=>⟨[(0,.c<|.X 0),(3,j k),(5,.c<|.P 1000000 0),(13,I .q a),(14,j<|Z a),(15,j m)],[(0,.vec 44 .q<|nj r c a k m),(1000000,.box 44 0<|av .q c)],4,[]⟩) (λm=>m<=Z a) (λm=>Z a-m) 0 (be _) (wk (bJ J) ⟨bE J ?_,bE J J,e⟩) ?_
 .rw[aj7]
 intro m C
 refine N J<|U<|y J (λh=>?_)<|λh=>?_
 .have h:m<Z a:=by have h:(m:O)<(Z a:O):=aK h;omega
  have u:ae ((m:O))=m:=bW m;have g:ae ((m:O)+(k:O))=k+m:=G;have l:=mI r c a k m;have v:E (nj r c a k m) (ae<|(m:O)+(k:O)) 0=E r (k+m) 0:=by rw[g,te G,b G]
  have f:QS s (E a (ae<|(m:O)) 0):=B _;have n:QS (2*s) (E (nj r c a k m) (ae<|(m:O)+(k:O)) 0):=by rw[v];exact(A _).le G
  refine aA<|U<|R<|N J<|bD J J (Rb<|E a (ae<|(m:O)) 0) J<|y J (λd=>?_)<|λd=>cZ ?_
  .refine bT (rc J J (YE c (E a (ae<|(m:O)) 0) p f G) (rc J J (ajX _ _ n (p.mul f) G)<|xW (E (nj r c a k m) (ae<|(m:O)+(k:O)) 0+c*E a (ae<|(m:O)) 0) J J J J J ?_ (re J ?_) (hp:=?_)) (hp:=?_))
   .show ae ((m:O)+(k:O))<Z (nj r c a k m);rw[g,l];omega
   .refine aX<|rt J (hp:=aF)<|aG (m+1) h (G:Z a-(m+1)<Z a-m)<|wk (bJ J) ⟨bE J ?_,bE J J,e⟩;show aN.vec 44 .q ((nj r c a k m).set (ae<|(m:O)+(k:O))<|E (nj r c a k m) (ae<|(m:O)+(k:O)) 0+c*E a (ae<|(m:O)) 0)=_;rw[v,g,u,aj9 G]
   .simp only[Pr.an,Pr.h,num,fR,true_and,and_true];omega
   .simp only[Pr.an,Pr.h,num,fR,true_and,and_true];omega
  .have d:dY (E a (ae<|(m:O)) 0).num=0:=wy d;rw[u]at d;have d:=AJ<|uz.1 d;refine aX<|rt J (hp:=aF)<|aG (m+1) h (G:Z a-(m+1)<Z a-m)<|wk (bJ J) ⟨bE J ?_,bE J J,e⟩;rw[aj' d]
 .have h:m=Z a:=by have h:¬(m:O)<(Z a:O):=aT h;omega
  subst h;exact a6<|W4 cq J (bf.refl _) J
def QS.zero{c}(f:1<=c):QS c 0:=⟨aJ.zero _,(aJ.one (a:=1) T).le f⟩
def QS.int{c}(f:1<=c){n}(g:aC n<4294967296):QS c (n:D):=⟨(aJ.one g).le f,(aJ.one (a:=1) T).le f⟩
def tf(c:D)(a:V D):V D:=a.map (c*·)
def YN c a i:E (tf c a) i 0=c*E a i 0:=by
 unfold tf;rw[aV,iT,aV];cases a[i]? with
 |none=>show(0:D)=c*0;rw[fN]
 |some x=>rfl
def He n i:E (bp n (0:D)) i 0=0:=by rw[aV,ln];split<;>rfl
def aka c a:iV (bp (Z a) 0) c a 0=tf c a:=Hd (by rw[iV,mI,fE,tf,cR]) λi d=>by rw[iV,mI,fE]at d;rw[iV,te (by rw[fE];exact d),aq G,He,Hf,Dy,YN]
def akb{f}(k:1<=f)(l:f<=1000000000) c a(g:Z a<=1000)(m:QS f c)(n:∀i,QS f (E a i 0)):al z 75 [aQ c,I .q a] (I .q<|eV<|tf c a):=by refine aR Tryz.func75 ?_;have p:=LP (Z a) g;have d:=LQ l (bp (Z a) 0) c a 0 Qs (by rw[fE];exact g) (λi=>by rw[He];exact QS.zero k) m n;rw[aka]at d;have r:=Hc (tf c a) (by unfold tf;rw[cR];omega);refine N J<|w<|Ai J J p<|s J<|w<|xZ 1002000 J d J J<|s J ?_;exact c6 1002000 J J J<|bD J J r J<|cx J
def QS.inv{i}{a}(g:QS i a)(k:a≠0):QS i a⁻¹ :=by
 have l:a.num≠0:=λe=>k<|AJ e
 rw[YC];have f:=K1 (a.den:O) a.num l;have m:gP (a.den:O) a.num=1:=by rw[Int.gcd_comm];exact a.reduced
 rw[m]at f;by_cases c:a.num<0
 .rw[aq c,show-(((1:Y):O))= -1 from J,Ar,sZ,Ar,sZ]at f;exact⟨by rw[f.1];exact g.d.neg,by rw[f.2];exact g.n.neg⟩
 .rw[b c,show(((1:Y):O))=1 from J,sZ,sZ]at f;exact⟨by rw[f.1];exact g.d,by rw[f.2];exact g.n⟩
def rX(a:V D):V D:=(cc<|Z a-1).map λi=>(((i+1:Y):O):D)*E a (i+1) 0
def Rl(a):Z (rX a)=Z a-1:=by simp[rX]
def YO{a}{i}(c:i<Z a-1):E (rX a) i 0=(((i+1:Y):O):D)*E a (i+1) 0:=by unfold rX;rw[aV,iT,kS c];rfl
def yn(a:V D)(M:Y):V D:=a++bp (M-Z a) 0
def LR{a}{M}(c:Z a<=M):Z (yn a M)=M:=by simp[yn];omega
def YP a M i:E (yn a M) i 0=E a i 0:=by
 unfold yn;rw[aV,aV];by_cases h:i<Z a
 .rw[Cj h]
 .rw[Ck G,jQ (l:=a) G,ln];split<;>rfl
def yo(a:V D)(c:D)(d:V D):V D:=iV (yn a<|max (Z a)<|Z d) c d 0
def akc{f}(A:1<=f)(m:f<=1000000000) a c d(B:Z a<=1000)(F:Z d<=1000)(n:0<max (Z a) (Z d))(p:∀i,QS f (E a i 0))(r:QS f c)(t:∀i,QS f (E d i 0)):al z 128 [I .q a,aQ c,I .q d,j 0] (I .q<|eV<|yo a c d):=by
 refine aR Tryz.func128 ?_;generalize hM:max (Z a) (Z d)=M at*;have g:M<=1000:=G;have u:=LP M g;have k:=LQ m (yn a M) c d 0 (by rw[LR G];omega) (by rw[LR G];exact g) (λi=>by rw[YP];exact p i) r t;have v:=Hc (yo a c d) (by rw[yo,iV,mI,hM,LR G];omega);have e:yo a c d=iV (yn a M) c d 0:=by rw[yo,hM]
 rw[<-e]at k;have x:(if(Z d:O)+0>(Z a:O)then(Z d:O)+0 else(Z a:O))=(M:O):=by split<;>omega
 have l:nO z 118 [j (if(Z d:O)+0>(Z a:O)then(Z d:O)+0 else(Z a:O))] 44 .q (bp M 0):=by rw[x];exact u
 refine N J<|w<|Ai J J l<|s J ?_;refine w<|KK J J J J J Qs (λe=>by have:=a8 Z e;rw[fE]at this;simp at this;omega)<|s J ?_;rw[Rm];change TR _ _ _ ⟨_,(_,.vec 44 .q<|yn a M)::_,_,_⟩ _;refine w<|xZ 1007000 J k J J<|s J ?_;exact c6 1007000 J J J<|bD J J v J<|cx J
section
variable{P:Program}{tt:V (Y×TI)}
def akd(cp:cd P tt=af){n M}{Q}{i}{aI:Oper}(ho:Q[i]? =ad aI)(hg:aI.guard=none){d:Y}(hd:aI.dst=ad d)(di:d<n){x p}{t1 t2}(bV:aI.op= .call ⟨.builtin .copy,#[x,p],#[t1,t2]⟩)
 {f}{r}{bx E1:TypeId} {u}{ei:TI} (hx:f.ev x=ad (.c<|.X r)) (hl:o r f.mem=ad (.vec bx u [])) (hy:f.ev p=ad (.c<|.S u [])) (H:xV tt t1 t2=ad (E1,ei)) (rG:ei.size=u.n):
  kI P n Q i f (f.put d<|.c<|.I .i64 0) M (bF [x,p]++cX [r],[.s d]):=by
 refine⟨(cE f x++cE f p)++fC f [r],[(.s d,ad<|.v<|.c<|.I .i64 0)],?_,?_,oa f d _,?_,λk hk=>je⟩
 .refine rF ho hg hd di _ _ M ?_;intro F w σ g W a l C;have H:=Kq cp H;rw[rG]at H;have D:a.eval x=g.γ r:=dr l f x _ hx<|λK b8=>C K dP;have G:=dr l f p _ hy<|λK b8=>C K dP;have N:σ (.m r)=ad (.b<|.vec bx u ([]:V u.den)):=C (.m r,.b<|.vec bx u []) qn;let ⟨e2,ij⟩:=H.u2;let ⟨inf,z,A,B,Z,vK,sM⟩:=H.info;let ⟨us,t,O,qA,vY⟩:=z8 (P:=P) (st:=f) (sz:=u.n) (y:= .c<|.S u []) (m:=0) (cs:=[]) (ids:=[]) l (by simp[sS]) G (λr R=>by cases R) ij J;have U:us=[]:=O;subst U;refine⟨λj hj=>(by cases hj),(.int .i64 0:Value),?_,J⟩;have q:(YQ #[t1,t2] aI.type #[a.eval x,a.eval p]).run P W= .ok (.int .i64 0) W:=by
   rw[D];have hc:=t.cells;rcases l.c8 r _ N with⟨L,_⟩|⟨b,cap,vs,L,hh,qy,sD,hlen,hr,hN,hz⟩
   .rw[L];simp[YQ,run_underlying H.u1,sizeOf,typeInfo,A,t.len,B,hc,goInt,Sem.run,pure]
   .rw[L];simp[YQ,run_underlying H.u1,sizeOf,typeInfo,A,t.len,B,hc,goInt,Sem.run,pure,storeCells]
  refine CP bV<|λcs=>?_;have e:(#[x,p]:Array Operand).map a.eval= #[a.eval x,a.eval p]:=ay;rw[e];simp only[Go.builtin,Sem.run_bind,q,Result.andThen];rfl
 .intro K b8;rcases bg.1 b8 with h|h
  .rcases bg.1 h with h|h
   .exact eG _ x K h
   .exact eG _ p K h
  .exact k9 _ [r] K h
 .intro k hk;simp only[dx,fe,bg]at hk;rcases hk with(h|h)|h
  .exact eh _<|eo f [x,p] k uc
  .exact eh _<|eo f [x,p] k vB
  .exact fZ _<|jY f [r] k h
end
section
variable{n:Y}{sl cu:V (Y×AV)}{mem cv:V (Y×aN)}{nx:Y}{gd cJ:V (Y×Bool)}{ops:Array Oper}{draw:Bool}{p:Pr}{ks dJ:V Ks}{i i' n0 cM:Y}{os dX:V Oper}{d:Y}{ty:TypeId}{pos:String}{iS:Array Edge}{R:St->Prop}
def ake{x a}{m r}{f}{v A:TypeId}{g}{u}(B:runs dK n nx draw ops.toList os i ⟨sl,mem,n0,gd⟩ .t ks=(⟨ad d,.call ⟨.builtin .copy,#[x,a],#[m,r]⟩,ty,pos,iS,none⟩::dX,i',⟨cu,cv,cM,cJ⟩,p,dJ))
  (F:St.ev ⟨cu,cv,cM,cJ⟩ x=ad (.c<|.X f)) (H:o f cv=ad (.vec v g [])) (L:St.ev ⟨cu,cv,cM,cJ⟩ a=ad (.c<|.S g [])) (M:xV dK m r=ad (A,u))
  (P:RG z n ops draw nx (i'+1) dX ⟨(d,.c<|.I .i64 0)::cu,cv,cM,cJ⟩ (gJ draw dJ (bF [x,a]++cX [f],[.s d])) R) (k:u.size=g.n:=by rfl)
  (Q:p:=by exact ll) (l:Nat.blt d n=af:=by rfl):RG z n ops draw nx i os ⟨sl,mem,n0,gd⟩ ks R:=
 lj cq B Q (mu (λC=>akd cq C J J (dc l) J F H L M k)<|mz P)
end
def dm(inv:D)(a d:V D)(n m:Y):Y->V D×V D
 |0=>(bp m 0,a)
 |c+1=>((dm inv a d n m c).1.set (m-1-c)<|(dm inv a d n m c).2.getD (m-1-c+n) 0*inv,iV (dm inv a d n m c).2 (-((dm inv a d n m c).2.getD (m-1-c+n) 0*inv)) d<|m-1-c)
def yp(inv a d n m):∀c,(dm inv a d n m c).1.length=m/\(dm inv a d n m c).2.length=Z a
 |0=>⟨fE,J⟩
 |c+1=>by let ⟨f,h2⟩:=yp inv a d n m c;exact⟨by rw[dm,rH,f],by rw[dm,iV,mI,h2]⟩
def akf{v}(h1:1<=v)(hs:v<=100000000) a g n m(hn:Z g=n+1)(hm:Z a=n+m)(Ge:0<m)(la:Z a<=1000)(A:E g n 0≠0)(M:∀i,QS v (E g i 0))(hS:∀f,f<=m->∀i,QS v ((dm (E g n 0)⁻¹ a g n m f).2.getD i 0)):
  al z 65 [I .q a,I .q g] (.t [(ah,[.S .q (eV (dm (E g n 0)⁻¹ a g n m m).1)]),(ah,[.S .q (eV<|(dm (E g n 0)⁻¹ a g n m m).2.take n)]),(ah,[.I .i64 0])]):=by
 refine aR Tryz.func65 ?_
 refine N J<|U<|N J<|y J (λl=>?_)<|λl=>aA ?_
 .have l:(Z g:O)=0:=eq_of_beq l;exact absurd l G
 refine w<|rm ZZ (Z a) J J J J J J PY J ?_ ?_<|s J ?_
 .show Z a*64<=_;omega
 .show Z a*4<=_;omega
 refine dU (st':=⟨[(0,.c<|.S ZZ<|a.map qz),(1,I .q g),(7,.c<|.X 2002000)],[(2002000,.vec 44 ZZ<|bp (Z a) (0,0))],3,[]⟩) (wk ⟨⟨_,J,YM a⟩,sR J,sR J,e⟩ ⟨bR J,e⟩) ?_
 refine w<|KK J J J J J (by rw[fE,cR];omega) (λB=>by have:=a8 Z B;rw[fE,m7]at this;omega)<|s J ?_
 have em:Rn qz a++List.drop (Z<|Rn qz a) (bp (Z a) ((0,0):O×O))=a.map qz:=by rw[cR,Rm,mr,CK,gO]
 refine dU (st':=⟨[(0,.c<|.S ZZ<|a.map qz),(1,I .q g),(7,.c<|.X 2002000)],[(2002000,.vec 44 .q a)],4,[]⟩) (wk (bJ J) ⟨⟨_,J,by rw[em];exact LO 44 a⟩,e⟩) ?_
 refine N J<|U<|N J<|y J (λl=>?_)<|λl=>aA ?_
 .have l:(Z (a.map qz):O)<=(Z g:O)-1:=aK l;rw[cR]at l;exact absurd l G
 have e1:ae ((Z g:O)-1)=n:=G
 have hi:al z 115 [aQ (E g (ae<|(Z g:O)-1) 0)] (.t [(af,av .q (E g n 0)⁻¹),(ah,[.I .i64 0])]):=by rw[e1];exact ajW _ (λB=>A<|AJ B) ((M _).n.sm G)<|(M _).d.sm G
 have C:QS v (E g n 0)⁻¹ :=(M n).inv A
 generalize (E g n 0)⁻¹ =inv at*
 have ez:(Z (a.map qz):O)-((Z g:O)-1)=(m:O):=by rw[cR];omega
 have hz:nO z 118 [j ((Z (a.map qz):O)-((Z g:O)-1))] 44 .q (bp m 0):=by rw[ez];exact LP m G
 refine w<|rc J J hi (s J<|w<|Ai J J hz<|s J ?_) (hp:=aF)
 refine U<|N J ?_
 rw[fE]
 have F:=yp inv a g n m
 refine R<|aY (α:=Y) (λf=>⟨[(1,I .q g),(7,.c<|.X 2002000),(8,j n),(9,.c<|.P 6008000 0),(11,.c<|.X 7004000),(12,j<|(m:O)-1-f)],[(7004000,.vec 44 .q (dm inv a g n m f).1),(6008000,.box 44 0<|av .q inv),(2002000,.vec 44 .q (dm inv a g n m f).2)],9,[]⟩) (λf=>f<=m) (λf=>m-f) 0 (be _) (wk ⟨sR J,sR J,sE J ?_,sR J,sR J,sE J ?_,e⟩ ⟨bR J,bE J J,bR J,e⟩) ?_
 .exact im (G:(Z g:O)-1=(n:O))
 .exact im (G:(m:O)-1=(m:O)-1-((0:Y):O))
 intro f hj
 let ⟨hq,hr⟩:=F f
 have p:=hS f hj
 have x:dm inv a g n m (f+1)=((dm inv a g n m f).1.set (m-1-f)<|(dm inv a g n m f).2.getD (m-1-f+n) 0*inv,iV (dm inv a g n m f).2 (-((dm inv a g n m f).2.getD (m-1-f+n) 0*inv)) g<|m-1-f):=rfl
 refine U<|N J<|y J (λu=>?_)<|λu=>?_
 .have u:f<m:=by have u:(m:O)-1-f>=0:=aK u;omega
  generalize dm inv a g n m f=S at*;let ⟨q,r⟩:=S;simp only at hq hr p x;have f1:ae ((m:O)-1-f)=m-1-f:=G;have f2:ae ((m:O)-1-f+n)=m-1-f+n:=G;have k:=YE (E r (ae<|(m:O)-1-f+n) 0) inv (p _) C G;have V:QS (2*v) (E r (m-1-f+n) 0*inv):=(p _).mul C;generalize H:E r (m-1-f+n) 0*inv=t at*;have k:al z 72 [aQ (E r (ae<|(m:O)-1-f+n) 0),aQ inv] (aQ t):=by
   have B:E r (ae<|(m:O)-1-f+n) 0*inv=t:=by rw[f2];exact H
   rwa[B]at k
  have Q:(q.set (ae<|(m:O)-1-f) t).getD (ae<|(m:O)-1-f) 0=t:=by rw[AI _ _ G,aq J]
  have K:al z 71 [aQ ((q.set (ae<|(m:O)-1-f) t).getD (ae<|(m:O)-1-f) 0)] (aQ<| -t):=by rw[Q];exact ajU t<|V.n.sm G
  have W:=LQ (s:=2*v) G r (-t) g (m-1-f) G G (λi=>(p i).le G) V.neg<|λi=>(M i).le G;have L:sW z 119 [.c (.X 0),aQ<| -t,I .q g,j<|(m:O)-1-f] 44 .q r (.t []) (iV r (-t) g<|m-1-f):=by rw[(G:(m:O)-1-f=((m-1-f:Y):O))];exact W
  refine cZ<|aO<|U<|R<|w<|rc J J k<|xW (T:= .q) t J J J J J ?_ (s J (bT<|rc J J K<|xZ 2002000 J L J J (s J<|aX<|rt J (hp:=aF)<|aG (f+1) u (G:m-(f+1)<m-f)<|wk ⟨sR J,sR J,sR J,sR J,sR J,sE J ?_,e⟩ ⟨bE J ?_,bR J,bE J ?_,e⟩) (hp:=?_)) (hp:=?_)) (hp:=?_)
  .show ae ((m:O)-1-f)<Z q;omega
  .exact im (G:(m:O)-1-f-1=(m:O)-1-((f+1:Y):O))
  .rw[x,f1]
  .rw[x]
  .simp only[Pr.an,Pr.h,num,fR,true_and,and_true];first|done|omega
  .simp only[Pr.an,Pr.h,num,fR,true_and,and_true];first|done|omega
  .show 0<=(m:O)-1-f/\(m:O)-1-f<(Z q:O);omega
 .have u:f=m:=by have u:¬(m:O)-1-f>=0:=aT u;omega
  subst u;refine a6<|aO<|c6 7004000 J J J<|c6 2002000 J J J ?_;have o:=Hc (dm inv a g n f f).1 G;have D:=Hc (h n (dm inv a g n f f).2) GJ;exact w<|rc J J o<|rc J J D (s J<|cx J) (hp:=aF)
def YR a c:bf (.t<|(ah,[.V (.slice none 0 0)])::c) (.t<|(ah,[.S a []])::c):=by
 refine⟨λg v h=>?_,λk h=>?_⟩
 .let ⟨vs,e,h⟩:=h;obtain⟨d,r,rfl,f,i⟩:=h;exact⟨_,e,_,_,J,(bf.nil a).1 g d f,i⟩
 .simpa[AV.ak,fP,b7,C.ak]using h
def akg(a d:V D)(g:Z a<Z d)(n:Z d<=1000):
  al z 65 [I .q a,I .q d] (.t [(ah,[.S .q []]),(ah,[.S .q a]),(ah,[.I .i64 0])]):=by
 refine aR Tryz.func65 ?_
 refine N J<|U<|N J<|y J (λh=>?_)<|λh=>aA ?_
 .have h:(Z d:O)=0:=eq_of_beq h;exact absurd h G
 refine w<|rm ZZ (Z a) J J J J J J PY J ?_ ?_<|s J ?_
 .show Z a*64<=_;omega
 .show Z a*4<=_;omega
 refine dU (st':=⟨[(0,.c<|.S ZZ<|a.map qz),(1,I .q d),(7,.c<|.X 2002000)],[(2002000,.vec 44 ZZ<|bp (Z a) (0,0))],3,[]⟩) (wk ⟨⟨_,J,YM a⟩,sR J,sR J,e⟩ ⟨bR J,e⟩) ?_
 refine jk ⟨[(0,.c<|.S ZZ<|a.map qz),(1,I .q d),(7,.c<|.X 2002000)],[(2002000,.vec 44 .q a)],4,[]⟩ ?_<|λf=>?_
 .refine N J (U<|N J<|y J (λh=>?_)<|λh=>?_)
  .exact c6 2002000 J J J<|N J<|bI<|cA<|gZ cq J<|YR _ _
  .have h:¬(Z (a.map qz):O)<=(Z d:O)-1:=aT h;rw[cR]at h;exact absurd g G
 .by_cases i:a=[]
  .subst i;exact bT<|ake J J J J J<|s J<|dM f<|wk (bJ J) ⟨⟨_,J,LO 44 []⟩,e⟩
  .have k:=cQ.2 i;have l:Rn qz a++List.drop (Z<|Rn qz a) (bp (Z a) ((0,0):O×O))=a.map qz:=by rw[cR,Rm,mr,CK,gO]
   refine bT<|KK J J J J J (by rw[fE,cR];omega) (λm=>by have:=a8 Z m;rw[fE,m7]at this;omega)<|s J<|dM f<|wk (bJ J) ⟨⟨_,J,by rw[l];exact LO 44 a⟩,e⟩
end Go.El
