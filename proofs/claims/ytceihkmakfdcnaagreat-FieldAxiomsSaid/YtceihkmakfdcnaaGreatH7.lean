/- Contracts: modular numbers of the reference; lists of numbers modulo p. Own work; no condition. -/
import Derived.Test.YtceihkmakfdcnaaGreatH6
import Derived.Test.YtceihkmakfdcnaaGreatH5
import Derived.Test.YtceihkmakfdcnaaGreatH3
set_option linter.all false
set_option maxHeartbeats 16000000
set_option maxRecDepth 100000
open Bool renaming false->ah,true->ae
open Go.Builtin renaming copy_->Yf
open Go.El renaming rr->I,cS->N,ar5->c,jt->S,jg->M,re->j,cI->y,mH->b,rb->R,vK->r
open Go.Proofs.Tryz renaming prog->z
open Int renaming toNat->af,natAbs->aA,gcd->gV,ediv_mul_cancel->ajm
open List renaming getD->E,length->Z,take->h,range->cd,replicate->bg,getElem?_append->aje,map->QN
open Nat renaming Coprime->QE
open Nat.Coprime renaming mul_right->ajn
open Option renaming some->ad
open Rat renaming divInt->iW,inv_def->X3
open _root_ renaming Nat->Y,Int->G,List->V,Rat->D
namespace Go.El
open Go Go.Proofs Go.RowKit
def ai6(a n p:Y)(u:n<18446744073709551616)(d:0<p)(q:p<=4294967296):r z 284 [cU a,cU n,cU p] (cU<|s' a n p):=by
 refine aJ Tryz.func284 ?_;have v:(p:G)≠0:=O;refine I J<|I J (hp:=aF)<|I J (hp:=aF)<|M<|I J ?_;refine ay<|bf (α:=Y×Y×Y×Y) (λx=>⟨[(2,cU p),(7,cU x.2.1),(8,cU x.2.2.1),(9,cU x.2.2.2)],[],4,[]⟩) (λx=>qt x.1 x.2.1 x.2.2.1 x.2.2.2 p=s' a n p/\x.2.2.2<2^x.1/\x.2.1<p/\x.2.2.1<p/\x.2.2.2<18446744073709551616) (λx=>x.2.2.2) (64,1%p,a%p,n) ⟨J,u,fg _ d,fg _ d,u⟩ (wk ⟨sR J,sE J ?_,sE J ?_,sR J,A⟩ A) ?_
 .exact bK<|lJ 1 p
 .exact bK<|lJ a p
 .rintro⟨f,s,b,m⟩ ⟨e,hm,t,i,g⟩;simp only at e hm t i g;refine M (I J<|c J (λk=>?_)<|λk=>?_)
  .have k:(m:G)>0:=aT k;cases f with
   |zero=>rw[oY]at hm;omega
   |succ f=>
    have l:m/2<2^f:=by rw[fp]at hm;omega
    rw[qt,w O]at e
    have B:(m:G).tmod 2=((m%2:Y):G):=lJ m 2
    refine aD<|M<|ay<|M<|I J (hp:=aF)<|c J (λo=>?_)<|λo=>?_
    .have o:(m:G).tmod 2=1:=eq_of_beq o;rw[ao O]at e;refine rt J (hp:=aF) (aI<|rt J (hp:=aF)<|bH<|rt J (hp:=aF)<|aS (f,s*b%p,b*b%p,m/2) ⟨e,l,fg _ d,fg _ d,KM⟩ KN<|wk ⟨sR J,sE J ?_,sE J ?_,sE J ?_,A⟩ A)
     .exact bK<|C5 s b p t i q
     .exact bK<|C5 b b p i i q
     .exact bK<|As m g
    .have o:(m:G).tmod 2≠1:=m5 o;rw[w O]at e;refine aD (rt J (hp:=aF)<|bH<|rt J (hp:=aF)<|aS (f,s,b*b%p,m/2) ⟨e,l,t,fg _ d,KM⟩ KN<|wk ⟨sR J,sR J,sE J ?_,sE J ?_,A⟩ A)
     .exact bK<|C5 b b p i i q
     .exact bK<|As m g
  .have k:¬(m:G)>0:=a4 k;have:m=0:=O;subst this;refine bh<|aI<|I J<|bO J ?_;rw[<-e];cases f with
   |zero=>rfl
   |succ f=>rw[qt,ao J]
def Qr a p(f:0<=a/\a<p)(k:a≠0)(g:2<=p)(l:p<=2147483648):r z 248 [cU a,cU p] (.t [(ah,[.I .u64 (iB (af a) (af p):Y)]),(ah,[.I .i64 0])]):=by
 obtain⟨a,rfl⟩:=Ao f.1;obtain⟨p,rfl⟩:=Ao (O:0<=p);rw[b6,b6];refine aJ Tryz.func248 ?_;have i:(p:G)≠0:=O;refine I J<|M<|I J (hp:=aF)<|c J (λd=>?_)<|λd=>aD ?_
 .exfalso;have d:(a:G).tmod (p:G)=0:=eq_of_beq d;rw[lJ,n5 O]at d;omega
 .have e:r z 284 [cU a,.c (num .u64<|(p:G)-2).1,cU p] (cU<|s' a (p-2) p):=by rw[show(AV.c (num .u64<|(p:G)-2).1)=cU ((p-2:Y):G)from bK<|(wrap_u64 _ O O).trans O];exact ai6 a (p-2) p O O O
  exact bw J J e J<|cJ J
def Gw(a:V G)(i:Y):r z 285 [N aq a,y i] (cU<|E a i 0):=by
 refine aJ Tryz.func285 ?_;refine I J<|M<|I J<|c J (λh=>?_)<|λh=>aD ?_
 .have h:(i:G)<(Z a:G):=aT h;refine I J (hp:=aF)<|bI<|cG<|eB J<|bK ?_;rw[b6]
 .have h:¬(i:G)<(Z a:G):=a4 h;refine I J<|bO J<|bK ?_;rw[aM,jP O];rfl
def md(p:G)(a:V G):V G:=a.map (·%p)
def wA p a:(md p a).length=Z a:=cR _
def getD_map{f:G->G}(d:f 0=0) a i:E (a.map f) i 0=f (E a i 0):=by
 rw[aM,iV,aM];cases a[i]? with
 |none=>exact d.symm
 |some x=>rfl
def Gx p a i:(md p a).getD i 0=E a i 0%p:=getD_map (gA p) a i
def Aw{p}(d:0<p) a:rp p (md p a):=λi=>by rw[Gx];exact⟨ij _ O,ik _ d⟩
def Gy{p}{a}(d:rp p a):md p a=a:=by refine sK (wA p a)<|λi f e=>?_;have:=d i;rw[aM,cK e,pS]at this;simp only[md,zY];exact gx this.1 this.2
def qy(a:V G) i(d:i<Z a):h (i+1) a=h i a++[E a i 0]:=by rw[q6,aM,cK d];rfl
def wB(a:V G) p(o:Z a<=1000000)(l:0<p)(q:p<18446744073709551616)(m:∀i,0<=E a i 0):r z 203 [N aq a,cU p] (N aq<|aK<|md p a):=by
 refine aJ Tryz.func203 ?_;have n:=wA p a;refine I J<|R<|fM aq [] J J (re J<|M<|I J ?_);refine ay<|bf (α:=Y) (λi=>⟨[(0,N aq a),(1,cU p),(5,.c<|.X 1000000),(6,y i)],[(1000000,.vec 150 aq<|(md p a).take i)],3,[]⟩) (λi=>i<=Z a) (λi=>Z a-i) 0 (a8 _) aU ?_
 .intro i s;refine M (I J<|c J (λd=>?_)<|λd=>?_)
  .have d:i<Z a:=by have d:(i:G)<(Z a:G):=aT d;omega
   have t:Z ((md p a).take i)=i:=bV;refine aD<|M<|ay<|cA ?_;refine rl aq [_] J J (hp:=aF) (ra J J J J J J J J J ?_ ?_<|re J ?_)
   .show(_+1+(_+1)/4+192)*8<=_;omega
   .show(_+1)*1<=_;omega
   refine bH<|rt J<|aS (i+1) d nY<|Wk.trans (wk (st':=⟨[(0,N aq a),(1,cU p),(5,.c<|.X 4008000),(6,y ((i+1:Y):G))],[(4008000,.vec 150 aq<|(md p a).take<|i+1)],8,[]⟩) (bJ J) ⟨bE J ?_,A⟩)<|Wk.trans (gw 1000000 4008000 J J J) aU;refine a6 (aE.vec 150 aq) ?_;rw[qy _ i O,Gx,b6,lj<|m i]
  .have d:i=Z a:=by have d:¬(i:G)<(Z a:G):=a4 d;omega
   subst d;refine bh<|aI<|c8 1000000 J J J ?_;generalize u:md p a=L at*;refine M<|ay<|bf (α:=Y) (λk=>⟨[(5,N aq<|h k L)],[],10,[]⟩) (λk=>k<=Z L/\fA L k=fA L (Z L)) (λk=>k) (Z L) ⟨aW _,J⟩ (wk ⟨sE J ?_,A⟩ A) ?_
   .rw[iO (O:Z L<=Z a),fR];rfl
   rintro k ⟨v,e⟩;have f:(h k L).length=k:=bV;refine M<|R ?_;refine rg 26 J J (λd=>?_)<|λd=>?_
   .have d:0<k:=by have d:(((h k L).length:Y):G)>0:=aT d;rw[f]at d;omega
    obtain⟨j,rfl⟩:∃j,k=j+1:=⟨k-1,O⟩;have g:af (((h (j+1) L).length:G)-1)=j:=by rw[f];omega
    have ev:(h (j+1) L).getD j 0=E L j 0:=by rw[aM,Ew O,<-aM]
    refine re J (hp:=aF)<|c J (λh2=>?_)<|λh2=>?_
    .have h2:E L j 0=0:=by have h2:(h (j+1) L).getD (af<|((h (j+1) L).length:G)-1) 0=0:=eq_of_beq h2;rwa[g,ev]at h2
     refine aD<|ay<|rt J (hp:=aF)<|eL<|aS j ⟨O,?_⟩ rK<|wk ⟨sE J ?_,A⟩ A
     .rw[<-e,fA,ao h2]
     .rw[g];simp only[oQ,List.take_take];rw[q7 O]
    .have h2:E L j 0≠0:=by have h2:(h (j+1) L).getD (af<|((h (j+1) L).length:G)-1) 0≠0:=m5 h2;rwa[g,ev]at h2
     refine bh<|aI<|I J<|bO J ?_;unfold aK;rw[<-e,fA,w h2]
   .have d:k=0:=by have d:¬(((h k L).length:Y):G)>0:=a4 d;rw[f]at d;omega
    subst d;refine re J<|c J (λh2=>oZ)<|λ_=>?_;refine bh<|aI<|I J<|bO J ?_;unfold aK;rw[<-e];rfl
def te a b p(B:Z a<=1000)(F:Z b<=1000)(d:0<p)(o:p<=2147483648)(q:rp p a)(s:rp p b):r z 249 [N aq a,N aq b,cU p] (N aq<|cH a b p):=by
 refine aJ Tryz.func249 ?_;have k:a=[]\/b=[]->N aq []=N aq (cH a b p):=λh=>by rw[cH,ao h]
 refine I J<|M<|R ?_;refine rg 13 J J (λh=>?_)<|λh=>?_
 .have h:a=[]:=by simpa using h
  refine re J<|c J (λh2=>?_)<|λh2=>oZ;exact I J<|bI<|cG<|g7 cj J<|bm.trans (bm.nil aq)<|bm.of_eq<|k<|.inl h
 .have h:a≠[]:=by simpa using h
  refine re J<|c J (λh2=>?_)<|λh2=>?_
  .have h2:b=[]:=by simpa using h2
   exact I J<|bI<|cG<|g7 cj J<|bm.trans (bm.nil aq)<|bm.of_eq<|k<|.inr h2
  .have h2:b≠[]:=by simpa using h2
   have C:=cv.2 h;have H:=cv.2 h2;refine aD<|R ?_;refine rm aq (Z a+Z b-1) J J J J J J (lH .u64) O ?_ ?_ ?_
   .show _*8<=_;omega
   .show _*1<=_;omega
   refine re J<|M<|I J ?_;refine ay<|bf (α:=Y) (λi=>⟨[(0,N aq a),(1,N aq b),(2,cU p),(7,.c<|.X 2006000),(8,y i)],[(2006000,.vec 150 aq<|lK a b p i)],4,[]⟩) (λi=>i<=Z a) (λi=>Z a-i) 0 (a8 _) aU ?_;intro i K;have t:=Gg a b p i;refine M<|I J<|c J (λf=>?_)<|λf=>?_
   .have f:i<Z a:=by have f:(i:G)<(Z a:G):=aT f;omega
    refine aD<|M<|ay<|I J ?_;refine ay<|bf (α:=Y) (λj=>⟨[(0,N aq a),(1,N aq b),(2,cU p),(7,.c<|.X 2006000),(8,y i),(9,y j)],[(2006000,.vec 150 aq<|qu a b p i j<|lK a b p i)],7,[]⟩) (λj=>j<=Z b) (λj=>Z b-j) 0 (a8 _) aU ?_;intro j L;have u:=Gf a b p i (lK a b p i) j;refine M<|I J<|c J (λg=>?_)<|λg=>?_
    .have g:j<Z b:=by have g:(j:G)<(Z b:G):=aT g;omega
     have v:=q i;have x:=s j;have gr:=KP d (a:=a) (b:=b) i (Gi a b d i) j<|i+j;have l:af ((i:G)+(j:G))=i+j:=O;refine aD<|M<|ay<|rt J (hp:=aF) ?_;refine bH<|rt J<|aS (j+1) g Qe<|wk (bJ J) ⟨bE J ?_,A⟩;refine a6 (aE.vec 150 aq) ?_;rw[qu,l,<-Xt _ _ _ p gr v x o];rfl
    .have g:j=Z b:=by have g:¬(j:G)<(Z b:G):=a4 g;omega
     subst g;exact bh<|bH<|rt J<|aS (i+1) f nY<|wk (bJ J) ⟨bE J J,A⟩
   .have f:i=Z a:=by have f:¬(i:G)<(Z a:G):=a4 f;omega
    subst f;have m:=Gi a b d<|Z a;have n:=wB (lK a b p<|Z a) p O d O<|λi=>(m i).1;rw[Gy m]at n;refine bh<|aI<|c8 2006000 J J J<|bw J J n J<|bO J ?_;rw[cH,w<|λe=>e.elim h h2]
def fG(a d:V G)(p:G):V G:=(cd<|max (Z a)<|Z d).map λi=>(E a i 0+p-E d i 0)%p
def K0 a d p:Z (fG a d p)=max (Z a) (Z d):=by simp[fG]
def Ax{p}(d:0<p) a e:rp p (fG a e p):=λi=>by
 unfold fG;rw[aM,iV];by_cases h:i<max (Z a) (Z e)
 .rw[kK h];exact⟨ij _ O,ik _ d⟩
 .rw[jP bV];exact⟨gK _,d⟩
def Gz a d p(B:Z a<=1000)(F:Z d<=1000)(l:0<p)(H:p<=2147483648)(q:rp p a)(s:rp p d):r z 252 [N aq a,N aq d,cU p] (N aq<|aK<|fG a d p):=by
 refine aJ Tryz.func252 ?_;generalize hM:max (Z a) (Z d)=M;have v:M<=1000:=O;let L:=(cd M).map λi=>E a i 0+p-E d i 0
 have C:Z L=M:=by simp[L]
 have f:∀i,i<M->E L i 0=E a i 0+p-E d i 0:=λi t=>by simp only[L];rw[aM,iV,kK t];rfl
 have m:md p L=fG a d p:=by simp only[L,md,fG,K1,hM];rfl
 have n:∀i,0<=E L i 0:=λi=>by
  by_cases e:i<M
  .rw[f i e];have x:=q i;have h2:=s i;omega
  .rw[aM,jP O];exact gK _
 clear_value L;refine I J<|R<|fM aq [] J J (j J<|jg<|I J ?_);refine ay<|bf (α:=Y) (λi=>⟨[(0,N aq a),(1,N aq d),(2,cU p),(7,.c<|.X 1000000),(8,y i)],[(1000000,.vec 150 aq<|h i L)],3,[]⟩) (λi=>i<=M) (λi=>M-i) 0 (a8 _) aU ?_;intro i t;have K:(h i L).length=i:=bV;by_cases g:i<M
 .refine m0 ⟨[(0,N aq a),(1,N aq d),(2,cU p),(7,.c<|.X 1000000),(8,y i)],[(1000000,.vec 150 aq<|h i L)],4,[]⟩ ?_ (λk=>R<|rg 14 J J (λe=>j J<|c J (λ_=>c7<|eZ k aU)<|λh2=>oZ)<|λe=>j J<|c J (λ_=>c7<|eZ k aU)<|λh2=>?_)
  .have x:=q i;have h2:=s i;refine jg<|ay<|cA ?_;refine rc J J (Gw a i)<|rc J J (Gw d i) ?_;refine rl aq [_] J J (ra J J J J J J J J J ?_ ?_<|j J ?_)
   .show(_+1+(_+1)/4+192)*8<=_;omega
   .show(_+1)*1<=_;omega
   refine bH<|rt J<|aS (i+1) g wc<|Wk.trans (wk (st':=⟨[(0,N aq a),(1,N aq d),(2,cU p),(7,.c<|.X 4011000),(8,y ((i+1:Y):G))],[(4011000,.vec 150 aq<|h (i+1) L)],8,[]⟩) (bJ J) ⟨bE J ?_,A⟩)<|Wk.trans (gw 1000000 4011000 J J J) aU;refine a6 (aE.vec 150 aq) ?_;rw[qy _ i O,f i g,wrap_u64 (E a i 0+p) O O,wrap_u64 _ O O]
  .exfalso;have e:¬(i:G)<(Z a:G):=a4 e;have h2:¬(i:G)<(Z d:G):=a4 h2;omega
 .have o:i=M:=by omega
  subst o;have u:=wB L p O l O n;rw[m]at u;refine jg<|R<|rg 14 J J (λe=>?_)<|λe=>?_
  .exfalso;have e:(i:G)<(Z a:G):=aT e;omega
  .refine j J (c J (λh2=>?_)<|λh2=>?_)
   .exfalso;have h2:(i:G)<(Z d:G):=aT h2;omega
   .rw[iO O];exact bh<|aI<|c8 1000000 J J J<|bw J J u J<|cJ J
def bs(p:G)(a:V G):Prop:=rp p a/\can a
def XM(a:V G):∀n i,fA a n<=i->i<n->E a i 0=0
 |0,i,_,f=>by omega
 |n+1,i,d,h2=>by
  rw[fA]at d;split at d
  .rename_i f;by_cases e:i=n
   .rw[e];exact f
   .exact XM a n i d O
  .omega
def GA(a:V G) n i:(h n a).getD i 0=if i<n then E a i 0 else 0:=by
 rw[aM,EW];split
 .rw[aM]
 .rfl
def eN(a:V G){i}(d:Z a<=i):E a i 0=0:=by rw[aM,jP d];rfl
def o7 a:ps (aK a)=ps a:=PS.ext λi=>by
 rw[cy,cy,aK,GA];split
 .rfl
 .rename_i h;by_cases e:i<Z a
  .exact(XM a (Z a) i O e).symm
  .exact(eN a O).symm
def Qs{p}(d:0<p){a}(e:rp p a) n:rp p (h n a):=λi=>by
 rw[GA];split
 .exact e i
 .exact⟨gK _,d⟩
def XN{p}(d:0<p){a}(e:rp p a):rp p (aK a):=Qs d e _
def kg{p}(d:0<p){a}(e:rp p a):bs p (aK a):=⟨XN d e,Ev a⟩
def qA{p}(a:0<p):bs p []:=⟨λi=>by simp;exact a,.inl J⟩
def oc a:Z (aK a)<=Z a:=by unfold aK;rw[fQ];omega
def uF{a}(d:can a):aK a=a:=by
 have:fA a (Z a)=Z a:=by
  cases hl:Z a with
  |zero=>rfl
  |succ n=>
   rw[fA,w]
   rcases d with d|d
   .rw[d]at hl;cases hl
   .rw[hl]at d;exact d
 rw[aK,this,fR]
def bs.top{p}{a}(f:bs p a){n}(d:Z a=n+1):E a n 0%p≠0:=by
 rcases f.2 with e|e
 .rw[e]at d;cases d
 .rw[d,eh]at e;have:=f.1 n;rw[gx this.1 this.2];exact e
def bs.len{p}{a}(d:bs p a){n}(f:Dl p n (ps a)):Z a<=n:=by
 by_cases e:Z a<=n
 .exact e
 .obtain⟨m,g⟩:∃m,Z a=m+1:=⟨Z a-1,O⟩;exact absurd (f m O)<|d.top g
def K2{p}{a d}(f:bs p a)(g:bs p d)(e:Cg p (ps a) (ps d)):a=d:=by have q:=f.len<|(kf p d).cg e.symm;have s:=g.len<|(kf p a).cg e;refine sK O<|λi n o=>?_;have k:=e.at i;have l:=f.1 i;have m:=g.1 i;rw[cy,cy,gx l.1 l.2,gx m.1 m.2,aM,aM,cK n,cK o]at k;exact k
def XO p a:Cg p (ps<|md p a) (ps a):=Cg.of λi=>by rw[cy,cy,Gx,lM]
def Ay:ps []=0:=PS.ext λi=>by rw[cy,PS.lL];rfl
def GB{a}{k}v(d:k<Z a):ps (a.set k v)=ps a+PS.K (v-E a k 0)*PS.X k:=PS.ext λi=>by
 rw[PS.eI,PS.eW,cy,cy,sX _ _ _ _ d];unfold PS.X;split
 .rename_i e;first
   | (subst e;simp;omega)
   | (rw[e];simp;omega)
 .rename_i e;rw[w (λd=>e d.symm)];omega
def GC a i:ps (h (i+1) a)=ps (h i a)+PS.K (E a i 0)*PS.X i:=PS.ext λj=>by
 rw[PS.eI,PS.eW,cy,cy,GA,GA];unfold PS.X;by_cases d:j<i
 .rw[ao d,ao O,w O];omega
 .by_cases e:j=i
  .subst e;rw[ao O,w O,ao J];omega
  .rw[w O,w O,w e];omega
def GD a:ps (h 0 a)=0:=by rw[Ge,Ay]
def K3:ps [1]=1:=PS.ext λi=>by
 cases i with
 |zero=>rfl
 |succ i=>rfl
def K4 n:ps (bg n 0)=0:=PS.ext λi=>by rw[cy,PS.lL,aM,ll];split<;>rfl
def Cg.XP{p a e}(f:a%p=e%p) d:Cg p (PS.K a*d) (PS.K e*d):=(Cg.K f).Au d
def XQ(a f:V G)(p:G)(i:Y)(g:V G):∀d,i+d<=Z g->Cg p (ps<|qu a f p i d g) (ps g+PS.K (E a i 0)*PS.X i*ps (h d f))
 |0,_=>by rw[qu,GD,PS.mul_zero,PS.add_zero];exact Cg.refl _ _
 |d+1,l=>by
  have k:=XQ a f p i g d O;rw[qu,GB _ (by rw[Gf];omega),GC,PS.mul_add,<-PS.add_assoc];refine k.add ?_;have e:PS.K (E a i 0)*PS.X i*(PS.K (E f d 0)*PS.X d)=PS.K (E a i 0*E f d 0)*PS.X (i+d):=by rw[PS.yn,PS.KU];ac_rfl
  rw[e];refine Cg.XP ?_ _;rw[wC,lM,<-wC];congr 1;omega
def XR(a d:V G)(p:G):∀i,i<=Z a->Cg p (ps<|lK a d p i) (ps (h i a)*ps d)
 |0,_=>by rw[lK,K4,GD,PS.zero_mul];exact Cg.refl _ _
 |i+1,g=>by have f:=XR a d p i O;have e:=XQ a d p i (lK a d p i) (Z d) (by rw[Gg];omega);rw[fR]at e;rw[lK,GC,PS.add_mul];exact e.trans<|f.C7 _
def Dd a d p:Cg p (ps<|cH a d p) (ps a*ps d):=by
 unfold cH;split
 .rename_i h;rcases h with h|h
  .rw[h,Ay,PS.zero_mul];exact Cg.refl _ _
  .rw[h,Ay,PS.mul_zero];exact Cg.refl _ _
 .rw[o7];have:=XR a d p (Z a)<|aW _;rwa[fR]at this
def mr{p}(d:0<p) a e:bs p (cH a e p):=by
 unfold cH;split
 .exact qA d
 .exact kg d<|Gi a e d _
def uG a d p:Z (cH a d p)<=Z a+Z d-1:=by
 unfold cH;split
 .exact a8 _
 .have:=oc<|lK a d p<|Z a;rwa[Gg]at this
def XS a d p:Cg p (ps<|aK<|fG a d p) (ps a-ps d):=by
 rw[o7];refine Cg.of λi=>?_
 rw[PS.uC,cy,cy,cy,fG,aM,iV];by_cases h:i<max (Z a) (Z d)
 .rw[kK h];show((E a i 0+p-E d i 0)%p)%p=_;rw[lM,(O:E a i 0+p-E d i 0=E a i 0-E d i 0+p),Int.add_emod_right]
 .rw[jP bV,eN a O,eN d O];rfl
def De{p:G}{A:PS}:∀{m:Y},Dl p m A->Cg p A 0\/∃d,d<m/\A d%p≠0/\Dl p (d+1) A
 |0,a=> .inl<|aiV a
 |m+1,a=>by
  by_cases e:A m%p=0
  .rcases De (m:=m) (A:=A) (p:=p) (λi l=>by
    by_cases g:i=m
    .rw[g];exact e
    .exact a i O)with f|⟨d,f,h2,k⟩
   .exact .inl f
   .exact .inr ⟨d,O,h2,k⟩
  .exact .inr ⟨m,O,e,a⟩
def Az{p}(f:dy p){a B}{d e}(g:Dl p (d+1) a)(i:Dl p (e+1) B)(k:a d%p≠0)(l:B e%p≠0):(a*B) (d+e)%(p:G)≠0:=by rw[g.top i];exact f.o6 k l
def ai7{p}(f:dy p){a B}{m n}(g:Dl p m a)(i:Dl p (n+1) B)(k:B n%p≠0)(l:Dl p n (a*B)):Cg p a 0:=by
 rcases De g with e|⟨d,e,h2,o⟩
 .exact e
 .exact absurd (l (d+n) O)<|Az f o i h2 k
def ai8{p}(q:dy p){Q a d f B}{m n}(s:Dl p (n+1) B)(t:B n%p≠0)(u:Dl p m Q)(g:Dl p m d)(v:Dl p n a)(i:Dl p n f)(x:Cg p (Q*B+a) (d*B+f)):Cg p Q d/\Cg p a f:=by
 have e:Cg p ((Q-d)*B) (f-a):=by
  have C:(Q-d)*B=(Q*B+a)+ -(d*B+a):=by rw[PS.sub_def,PS.add_mul,PS.neg_mul,PS.neg_add];have:Q*B+a+(-(d*B)+ -a)=Q*B+ -(d*B)+(a+ -a):=fq;rw[this,PS.add_neg,PS.add_zero]
  have F:f-a=(d*B+f)+ -(d*B+a):=by rw[PS.sub_def,PS.neg_add];have:d*B+f+(-(d*B)+ -a)=d*B+ -(d*B)+(f+ -a):=fq;rw[this,PS.add_neg,PS.zero_add]
  rw[C,F];exact x.C7 _
 have o:=ai7 q (u.sub g) s t<|(i.sub v).cg e.symm;have k:Cg p Q d:=by
  have:=o.C7 d;have l:Q-d+d=Q:=by rw[PS.sub_def,PS.add_assoc,PS.XA,PS.add_zero]
  rwa[l,PS.zero_add]at this
 refine⟨k,?_⟩;have H:Cg p (f-a) 0:=by have:=o.Au B;rw[PS.zero_mul]at this;exact e.symm.trans this
 have:=H.C7 a;have l:f-a+a=f:=by rw[PS.sub_def,PS.add_assoc,PS.XA,PS.add_zero]
 rw[l,PS.zero_add]at this;exact this.symm
def ai9{p}(g:dy p){a B}{m n}(q:Dl p m a)(s:Dl p n B)(i:Cg p (a*B) 1):Dl p 1 a:=by
 have f:¬(1:G)%(p:G)=0:=by have:=g.1;rw[gx T O];decide
 have k:¬Cg p (a*B) 0:=λe=>f (by have:=(e.symm.trans i).at 0;rw[PS.lL,gA]at this;exact this.symm)
 rcases De q with t|⟨d,_,h2,l⟩
 .exact absurd (by have:=t.Au B;rwa[PS.zero_mul]at this) k
 .rcases De s with u|⟨e,_,v,x⟩
  .exact absurd (by have:=u.Gq a;rwa[PS.mul_zero]at this) k
  .have o:=Az g l x h2 v;rw[i.at (d+e)]at o;by_cases C:d=0
   .subst C;exact l
   .exact absurd (XD (p:G) (d+e) O) o
def XT(d:V G)(p f:G)(i:Y)(g:V G):∀a,i+a<=Z g->Cg p (ps<|tb d p f i a g) (ps g-PS.K f*PS.X i*ps (h a d))
 |0,_=>by rw[tb,GD,PS.mul_zero,PS.sub_def,PS.neg_zero,PS.add_zero];exact Cg.refl _ _
 |a+1,m=>by
  have k:=XT d p f i g a O;have e:ps g-PS.K f*PS.X i*ps (h (a+1) d)=(ps g-PS.K f*PS.X i*ps (h a d))+PS.K (-(f*E d a 0))*PS.X (i+a):=by
   rw[GC,PS.mul_add,PS.sub_def,PS.neg_add,PS.sub_def,<-PS.add_assoc];congr 1;have l:PS.K f*PS.X i*(PS.K (E d a 0)*PS.X a)=PS.K (f*E d a 0)*PS.X (i+a):=by rw[PS.yn,PS.KU];ac_rfl
   rw[l,PS.neg_eq,<-PS.mul_assoc,<-PS.yn];congr 2;omega
  rw[tb,GB _ (by rw[KQ];omega),e];refine k.add<|Cg.XP ?_ _;rw[wC,lM,<-wC,show∀x:G,x+(p-f)*E d a 0-x= -(f*E d a 0)+p*E d a 0 by intro x;rw[Ez];omega,Kh]
structure DvI(a b:V G)(p:G)(m n k:Y)(x:V G×V G):Prop where
 cg:Cg p (ps a) (ps x.1*ps b+ps x.2)
 dl:Dl p (n+(m-k)) (ps x.2)
 z:∀d,d<m-k->x.1.getD d 0=0
def XU{p:G}{a d:V G}{v:G}{n m:Y}(u:Z d=n+1)(q:Z a=n+m)(s:E d n 0*v%p=1%p):∀k,k<=m->DvI a d p m n k (gP a d p v m n k)
 |0,_=>by
  refine⟨?_,?_,λf t=>?_⟩
  .rw[gP,K4,PS.zero_mul,PS.zero_add];exact Cg.refl _ _
  .rw[gP,C',<-q];exact kf p a
  .rw[gP,aM,ll];split<;>rfl
 |k+1,L=>by
  have g:=XU u q s k O;have P:=KR a d p v m n k;obtain⟨i,Q⟩:∃i,m=i+(k+1):=⟨m-(k+1),O⟩;have B:m-(k+1)=i:=O;rw[gP,B];generalize hx:gP a d p v m n k=x at*;generalize hc:E x.2 (i+n) 0*v%p=c;have l:=XT d p c i x.2 (Z d) O;rw[fR]at l;have C:E x.1 i 0=0:=g.z i O;have F:ps (x.1.set i c)=ps x.1+PS.K c*PS.X i:=by rw[GB c O,C,Af]
  refine⟨?_,?_,λf t=>?_⟩
  .simp only;rw[F];have o:ps x.1*ps d+ps x.2=(ps x.1+PS.K c*PS.X i)*ps d+(ps x.2-PS.K c*PS.X i*ps d):=by rw[PS.add_mul,PS.sub_def];have:ps x.1*ps d+PS.K c*PS.X i*ps d+(ps x.2+ -(PS.K c*PS.X i*ps d))=ps x.1*ps d+ps x.2+(PS.K c*PS.X i*ps d+ -(PS.K c*PS.X i*ps d)):=fq;rw[this,PS.add_neg,PS.add_zero]
   exact(g.cg.trans<|Cg.of_eq o).trans<|l.symm.XB _
  .simp only;refine Dl.cg (λf t=>?_) l.symm;rw[PS.uC,PS.mul_assoc,PS.eW,PS.mq];by_cases e:f=n+i
   .subst e;rw[ao O,(O:n+i-i=n),cy,cy,<-hc,Jp i n];generalize E x.2 (n+i) 0=y;rw[wC,o5,lM,<-o5,iF,et v,o5,s,<-o5,mm,Int.sub_self,gA]
   .have o:=g.dl f O;have H:=kf p d (f-i) O;rw[ao O,wC,o,o5,H,gy,gA];rfl
  .simp only;rw[sX _ _ _ _ O];split
   .omega
   .exact g.z f O
def Df{p}(a:dy p)(d:p<=2147483648){x:G}(e:0<=x)(i:x<p)(k:x≠0):x*((iB (af x) (af ((p:Y):G)):Y):G)%(p:G)=1:=by
 obtain⟨y,rfl⟩:=Ao e;have l:=a.1;rw[b6,b6,XI y p O O];have f:¬p∣y:=λg=>by have:=uE O g;omega
 have m:=a.inv f;rw[<-eY];omega
def aja{p}{a}{n}(f:rp p a)(g:Dl p n (ps a)):ps (h n a)=ps a:=PS.ext λi=>by
 rw[cy,cy,GA];split
 .rfl
 .have d:=g i O;have e:=f i;rw[cy,gx e.1 e.2]at d;exact d.symm
def lq{p}(s:dy p)(g:p<=2147483648){a d}(t:rp p a)(u:bs p d)(l:d≠[]):
  Cg p (ps a) (ps (aL a d p).1*ps d+ps (aL a d p).2)/\rp p (aL a d p).1/\rp p (aL a d p).2/\(aL a d p).2.length<=Z d-1/\(bs p a->bs p (aL a d p).2)/\(aL a d p).1.length=Z a-(Z d-1):=by
 have L:=s.1
 have f:(0:G)<(p:G):=O
 obtain⟨n,o⟩:∃n,Z d=n+1:=⟨Z d-1,by have:=cv.2 l;omega⟩
 rw[aL,o,eh]
 by_cases h:Z a<=n
 .rw[ao h];refine⟨?_,(qA f).1,t,h,λF=>F,?_⟩
  .rw[Ay,PS.zero_mul,PS.zero_add];exact Cg.refl _ _
  .show 0=_;omega
 .rw[w h];obtain⟨m,x⟩:∃m,Z a=n+m:=⟨Z a-n,O⟩;rw[x,Gj];have i:=u.1 n;have q:E d n 0≠0:=by have:=u.top o;exact λe=>this Dg
  have H:=Df s g i.1 i.2 q;generalize ((iB (af<|E d n 0) (af ((p:Y):G)):Y):G)=v at*;have B:=XU (p:=p) (v:=v) o x (by rw[H,gx T O]) m<|aW _;have K:=KR a d p v m n m;have k:=Qg d v m n f t m;have C:=B.dl;rw[ma,iR]at C;refine⟨?_,k.1,XN f<|Qs f k.2 n,?_,λ_=>kg f<|Qs f k.2 n,K.1⟩
  .simp only;rw[o7,aja k.2 C];exact B.cg
  .simp only;have:=oc<|(gP a d p v m n m).2.take n;rw[fQ]at this;omega
def oe(p:G):Y->V G->V G->V G
 |0,f,_=>f
 |k+1,f,g=>if g=[]then f else oe p k g (aL f g p).2
def kL(p:G)(a:V G):V G:=if a=[]then[]else cH a [((iB (af<|E a (Z a-1) 0) (af p):Y):G)] p
def fH(p:G)(f g:V G):V G:=kL p<|oe p (Z g+1) f g
def bc(p:G)(a:PS):Prop:=∃n,Dl p n a
def bc.add{p}{d B}(a:bc p d)(k:bc p B):bc p (d+B):=by let ⟨n,a⟩:=a;let ⟨m,k⟩:=k;exact⟨max n m,(a.le O).add<|k.le O⟩
def bc.neg{p}{d}(a:bc p d):bc p (-d):=by let ⟨n,a⟩:=a;exact⟨n,a.neg⟩
def bc.sub{p}{a B}(d:bc p a)(k:bc p B):bc p (a-B):=by rw[PS.sub_def];exact d.add k.neg
def bc.mul{p}{d B}(a:bc p d)(k:bc p B):bc p (d*B):=by let ⟨n,a⟩:=a;let ⟨m,k⟩:=k;exact⟨n+m,a.mul' k⟩
def bc.ps p a:bc p (ps a):=⟨_,kf p a⟩
def bc.K p a:bc p (PS.K a):=⟨_,Qk p a⟩
def bc.zero p:bc p 0:=⟨0,aiX p 0⟩
def bc.one p:bc p 1:=⟨1,XD p⟩
def wD(p:G)(a B:PS):Prop:=∃U V,bc p U/\bc p V/\Cg p (U*a+V*B) 1
def wD.step{p}{d B Q a}(g:wD p d B)(i:bc p Q)(e:Cg p d (Q*B+a)):wD p B a:=by
 let ⟨U,V,f,h2,k⟩:=g;refine⟨U*Q+V,U,(f.mul i).add h2,f,?_⟩;have:(U*Q+V)*B+U*a=U*(Q*B+a)+V*B:=by simp only[PS.mul_add,PS.add_mul];ac_rfl
 rw[this];exact((e.symm.Gq U).C7 _).trans k
def wD.ajb{p}{d B Q a}(f:wD p B a)(g:bc p Q)(e:Cg p d (Q*B+a)):wD p d B:=by
 let ⟨U,V,i,h2,k⟩:=f;refine⟨V,U-V*Q,h2,i.sub<|h2.mul g,?_⟩;have l:V*(Q*B+a)+(U-V*Q)*B=U*B+V*a:=by rw[PS.mul_add,PS.sub_def,PS.add_mul,PS.neg_mul];have:V*(Q*B)+V*a+(U*B+ -(V*Q*B))=(U*B+V*a)+(V*Q*B+ -(V*Q*B)):=fq;rw[this,PS.add_neg,PS.add_zero]
 exact((e.Gq V).C7 _).trans<|(Cg.of_eq l).trans k
def Qt{p:Y}(o:dy p)(a:p<=2147483648):∀(k:Y)(f g:V G),bs p f->bs p g->Z g<k->bs p (oe p k f g)/\(wD p (ps f) (ps g)↔Z (oe p k f g)=1)/\Z (oe p k f g)<=max (Z f) (Z g)
 |0,_,_,_,_,q=>by omega
 |k+1,f,g,l,hg,q=>by
  rw[oe];have F:=o.1;split
  .rename_i e;subst e;refine⟨l,⟨λd=>?_,λx=>?_⟩,O⟩
   .let ⟨U,H,s,L,d⟩:=d;rw[Ay,PS.mul_zero,PS.add_zero,PS.mul_comm]at d;let ⟨m,s⟩:=s;have u:=l.len<|ai9 o (kf p f) s d;by_cases e:Z f=0
    .exfalso;have:=fE e;subst this;rw[Ay,PS.zero_mul]at d;have:=d.at 0;rw[PS.lL,gA]at this;have t:(1:G)%(p:G)=1:=gx T O;have v:(0:G)=1%(p:G):=this;omega
    .omega
   .have u:=l.top (n:=0) O;have t:=l.1 0;have v:E f 0 0≠0:=λe=>u Dg
    have B:=Df o a t.1 t.2 v;refine⟨PS.K ((iB (E f 0 0).toNat (af ((p:Y):G)):Y):G),0,bc.K _ _,bc.zero _,?_⟩;rw[PS.zero_mul,PS.add_zero];have C:ps f=PS.K (E f 0 0):=PS.ext λi=>by
     unfold PS.K;split
     .rename_i e;subst e;rfl
     .exact eN f O
    rw[C,<-PS.yn,PS.Gn,et];exact Cg.K (by rw[B,gx T O])
  .rename_i e;let ⟨d1,d2,d3,d4,d5,d6⟩:=lq o a l.1 hg e;have x:=cv.2 e;let ⟨i1,i2,i3⟩:=Qt o a k g (aL f g p).2 hg (d5 l) O;refine⟨i1,⟨λd=>i2.1<|d.step (bc.ps _ _) d1,λq=>(i2.2 q).ajb (bc.ps _ _) d1⟩,O⟩
def Qu{p}(o:dy p)(f:p<=2147483648){a}(q:bs p a)(s:a≠[]):bs p (kL p a)/\Z (kL p a)=Z a/\E (kL p a) (Z a-1) 0=1/\Cg p (ps<|kL p a) (ps a*PS.K ((iB (af<|E a (Z a-1) 0) (af ((p:Y):G)):Y):G))/\Cg p (ps a) (ps (kL p a)*PS.K (E a (Z a-1) 0)):=by
 have L:=o.1;obtain⟨n,t⟩:∃n,Z a=n+1:=⟨Z a-1,by have:=cv.2 s;omega⟩;have u:=q.1 n;have k:E a n 0≠0:=λe=>q.top t Dg
 have x:=Df o f u.1 u.2 k;rw[kL,w s,t,eh];generalize ((iB (af<|E a n 0) (af ((p:Y):G)):Y):G)=v at*;have l:ps [v]=PS.K v:=PS.ext λi=>by
  cases i with
  |zero=>rfl
  |succ i=>rfl
 have g:=Dd a [v] p;rw[l]at g;have B:=mr (O:(0:G)<p) a [v];have d:(ps<|cH a [v] p) n%(p:G)=1:=by rw[g.at n,PS.mul_comm,PS.eW,et,cy];exact x
 have F:n<Z (cH a [v] p):=by
  by_cases e:n<Z (cH a [v] p)
  .exact e
  .rw[cy,eN _ O]at d;simp at d
 have m:=uG a [v] p;have H:Z (cH a [v] p)=n+1:=by simp only[gQ,rz]at m;omega
 refine⟨B,H,?_,g,?_⟩
 .have C:=B.1 n;rw[cy,gx C.1 C.2]at d;exact d
 .refine Cg.symm<|(g.Au _).trans ?_;rw[PS.mul_assoc,<-PS.yn,et v];have:Cg p (ps a*PS.K (E a n 0*v)) (ps a*PS.K 1):=(Cg.K<|by rw[x,gx T O]).Gq _;rw[<-PS.Gn,PS.mul_one]at this;exact this
def ajc{p}(d:dy p)(a:p<=2147483648){f g}(i:bs p f)(k:bs p g):Z (fH p f g)=1↔wD p (ps f) (ps g):=by
 let ⟨l,h2,m⟩:=Qt d a (Z g+1) f g i k<|dJ _;rw[h2,fH];by_cases e:oe p (Z g+1) f g=[]
 .rw[e,kL,ao J]
 .rw[(Qu d a l e).2.1]
def ajd k l:ps (bg k 0++l)=PS.X k*ps l:=PS.ext λi=>by
 rw[PS.mq,cy,cy,aM,aje,fF];by_cases h:i<k
 .rw[ao h,w O,ll,ao h];rfl
 .rw[w h,ao O,<-aM]
def ajf{p}(a:0<p) k{l}(d:rp p l):rp p (bg k 0++l):=λi=>by
 rw[aM,aje,fF];split
 .rw[ll];split<;>exact⟨gK _,a⟩
 .have:=d<|i-k;rwa[aM]at this
def XV x:ps [x]=PS.K x:=PS.ext λi=>by
 cases i with
 |zero=>rfl
 |succ i=>rfl
def Dh{p x}(a:0<=x)(d:x<p):rp p [x]:=λi=>by
 cases i with
 |zero=>exact⟨a,d⟩
 |succ i=>exact⟨gK _,(O:(0:G)<p)⟩
structure GF(p:G)(a b:V G)(M:Y)(x:V G×V G):Prop where
 c:bs p x.1
 l:x.1.length<=a.length
 ql:x.2.length=M
 qr:rp p x.2
 cg:Cg p (ps a) (ps x.2*ps b+ps x.1)
 z:∀d,d+b.length<=x.1.length->x.2.getD d 0=0
def GF.next{p}(hp:dy p)(s:p<=2147483648){a d}{t}{g q}(i:GF p a d t (g,q))(hb:bs p d)(H:d≠[])(hl:Z d<=Z g)(hM:Z a-Z d<t)
 {f}(L:f=E g (Z g-1) 0*((iB (af<|E d (Z d-1) 0) (af ((p:Y):G)):Y):G)%(p:G)):
  GF p a d t (aK<|fG g (bg (Z g-Z d) 0++cH [f] d p) p,q.set (Z g-Z d) f)/\Z (aK<|fG g (bg (Z g-Z d) 0++cH [f] d p) p)<Z g:=by
 have V:=hp.1
 have m:(0:G)<(p:G):=O
 have I:=cv.2 H
 obtain⟨n,P⟩:∃n,Z d=n+1:=⟨Z d-1,O⟩
 obtain⟨k,w⟩:∃k,Z g=k+(n+1):=⟨Z g-(n+1),O⟩
 rw[w,P,eh,(O:k+(n+1)-1=n+k)]at L
 rw[w,P,eh]
 have u:=hb.1 n
 have Q:E d n 0≠0:=λe=>hb.top P Dg
 have J:=Df hp s u.1 u.2 Q
 generalize ((iB (af<|E d n 0) (af ((p:Y):G)):Y):G)=v at*
 have x:0<=f/\f<p:=by rw[L];exact⟨ij _ O,ik _ m⟩
 generalize N:bg k 0++cH [f] d p=S
 have U:Cg p (ps S) (PS.K f*PS.X k*ps d):=by rw[<-N,ajd];have o:=Dd [f] d p;rw[XV]at o;have W:=o.Gq<|PS.X k;have e:PS.X k*(PS.K f*ps d)=PS.K f*PS.X k*ps d:=fq;rwa[e]at W
 have B:Cg p (ps<|aK<|fG g S p) (ps g-PS.K f*PS.X k*ps d):=(XS g S p).trans<|(Cg.refl _ _).sub U
 have C:bs p (aK<|fG g S p):=kg m<|Ax m g S
 have A:Z (aK<|fG g S p)<=n+k:=by
  refine C.len<|Dl.cg (λj D=>?_) B.symm;rw[PS.uC,PS.mul_assoc,PS.eW,PS.mq];by_cases e:j=n+k
  .subst e;rw[ao O,(O:n+k-k=n),cy,cy,L];generalize E g (n+k) 0=y;rw[wC,o5,lM,<-o5,iF,et v,o5,J,mm,lM,Int.sub_self,gA]
  .have o:=kf p g j (O:Z g<=j);have W:=kf p d (j-k) O;rw[ao O,wC,o,o5,W,gy,gA];rfl
 have F:k<Z q:=by have R:Z g<=Z a:=i.l;have h6:Z q=t:=i.ql;omega
 have c:E q k 0=0:=i.z k (O:k+Z d<=Z g)
 refine⟨⟨C,?_,?_,KO i.qr _ x.1 x.2,?_,λj D=>?_⟩,O⟩
 .have R:Z g<=Z a:=i.l;show Z (aK<|fG g S p)<=Z a;omega
 .show(q.set k f).length=t;rw[ru];exact i.ql
 .simp only;rw[GB f F,c,Af];have T:ps q*ps d+ps g=(ps q+PS.K f*PS.X k)*ps d+(ps g-PS.K f*PS.X k*ps d):=by rw[PS.add_mul,PS.sub_def];have:ps q*ps d+PS.K f*PS.X k*ps d+(ps g+ -(PS.K f*PS.X k*ps d))=ps q*ps d+ps g+(PS.K f*PS.X k*ps d+ -(PS.K f*PS.X k*ps d)):=fq;rw[this,PS.add_neg,PS.add_zero]
  have o:Cg p (ps a) (ps q*ps d+ps g):=i.cg;exact(o.trans<|Cg.of_eq T).trans<|B.symm.XB _
 .simp only at D⊢;rw[sX _ _ _ _ F];split
  .omega
  .exact i.z j (O:j+Z d<=Z g)
def yp p(hp:dy p)(u:p<=2147483648) a d(la:Z a<=500)(lb:Z d<=500)(H:bs p a)(L:bs p d)(B:d≠[]):
  r z 207 [N aq a,N aq d,cU p] (.a [.S aq (aK (aL a d p).1),.S aq (aL a d p).2]):=by
 refine aJ Tryz.func207 ?_
 have h2:=hp.1
 have g:(0:G)<(p:G):=O
 have hpz:(p:G)≠0:=O
 have hl0:=cv.2 B
 have Q:=wB a p O g O<|λi=>(H.1 i).1
 rw[Gy H.1,uF H.2]at Q
 refine I J<|bw J J Q J<|R ?_
 obtain⟨s,hM⟩:∃s:Y,max ((Z a:G)-(Z d:G)+1) 0=(s:G):=⟨af<|max ((Z a:G)-(Z d:G)+1) 0,O⟩
 refine rm aq s J J J J J J (lH .u64) (by rw[ao J];split<;>omega) ?_ ?_<|j J ?_
 .show _*8<=_;omega
 .show _*1<=_;omega
 have a2:af ((Z d:G)-1)=Z d-1:=O
 have T:=L.1<|Z d-1
 have K5:E d (Z d-1) 0≠0:=λe=>L.top (n:=Z d-1) O Dg
 have U:=Qr (E d (Z d-1) 0) p T K5 O O
 have C:r z 248 [cU (E d (af<|(Z d:G)-1) 0),cU p] (.t [(ah,[.I .u64 (iB (af<|E d (Z d-1) 0) (af ((p:Y):G)):Y)]),(ah,[.I .i64 0])]):=by rw[a2];exact U
 refine R<|rc J J C<|j J (hp:=aF) ?_
 generalize hv:((iB (af<|E d (Z d-1) 0) (af ((p:Y):G)):Y):G)=v
 have hvb:0<=v/\v<p:=by have:=Qc (af<|E d (Z d-1) 0) (p-2) p O;rw[<-hv,iB,b6];omega
 have uz:GF p a d s (a,bg s 0):=by
  refine⟨H,aW _,fF,Qd g s,?_,λl7 _=>?_⟩
  .show Cg p (ps a) (ps (bg s 0)*ps d+ps a);rw[K4,PS.zero_mul,PS.zero_add];exact Cg.refl _ _
  .show E (bg s (0:G)) l7 0=0;rw[aM,ll];split<;>rfl
 refine M<|ay<|bf (α:=V G×V G) (λx=>⟨[(1,N aq d),(2,cU p),(6,.c<|.P 0 0),(7,N aq x.1),(8,.c<|.X 2007000),(9,cU v)],[(0,.box 201 0 [.V (.slice none 0 0),.V<|.slice none 0 0]),(2007000,.vec 150 aq x.2)],4,[]⟩) (GF p a d s) (λx=>Z x.1) (a,bg s 0) uz (wk (bJ J) ⟨bE J J,bR J,A⟩) ?_
 rintro⟨o,q⟩ K
 have hc:bs p o:=K.c
 have GG:Z o<=Z a:=K.l
 have Kj:Z q=s:=K.ql
 refine M<|I J<|c J (λh=>?_)<|λh=>?_
 .have h:Z d<=Z o:=by have h:(Z o:G)>=(Z d:G):=aT h;omega
  generalize hf:E o (Z o-1) 0*v%(p:G)=f;let ⟨W,w⟩:=K.next hp u L B h O (f:=f) (by rw[hv];exact hf.symm);have D:0<=f/\f<p:=by rw[<-hf];exact⟨ij _ O,ik _ g⟩
  have hg:=hc.1<|Z o-1;have a3:af ((Z o:G)-1)=Z o-1:=O;obtain⟨k,hk⟩:∃k,Z o=k+Z d:=⟨Z o-Z d,O⟩;have ek:(Z o:G)-(Z d:G)=(k:G):=O;rw[(O:Z o-Z d=k)]at W w;refine aD<|ay<|I J<|I J (hp:=aF) ?_;refine dW (st':=⟨[(1,N aq d),(2,cU p),(6,.c<|.P 0 0),(7,N aq o),(8,.c<|.X 2007000),(9,cU v),(11,y k),(12,cU f)],[(0,.box 201 0 [.V (.slice none 0 0),.V<|.slice none 0 0]),(2007000,.vec 150 aq q)],8,[]⟩) (wk ⟨sR J,sR J,sR J,sR J,sR J,sR J,sE J ?_,sE J ?_,A⟩<|vO J) ?_
  .exact iz ek
  .refine bK ?_;rw[a3,<-hf];exact Xu _ v p hg hvb O
  refine I J (hp:=aF)<|R ?_;refine rm aq k J J J J J J (lH .u64) J ?_ ?_ ?_
  .show _*8<=_;omega
  .show _*1<=_;omega
  have Qv:=te [f] d p ax O g O (Dh D.1 D.2) L.1;have IZ:=uG [f] d p;simp only[gQ,rz]at IZ;refine rl aq [_] J J (rc J J Qv<|ra J J J J J J J J J ?_ ?_<|j J ?_)
  .show(_+_+(_+_)/4+192)*8<=_;rw[fF];omega
  .show(_+_)*1<=_;rw[fF];omega
  refine c8 9007000 J J J ?_;have FV:=Gz o (bg k 0++cH [f] d p) p O (by rw[ix,fF];omega) g O hc.1<|ajf g k (mr g _ _).1;refine cA<|rc J J FV<|j J<|eL<|aS (aK<|fG o (bg k 0++cH [f] d p) p,q.set k f) W w<|wk (bJ J) ⟨bR J,bE J ?_,A⟩;refine a6 (aE.vec 150 aq) ?_;rw[b6]
 .have h:Z o<Z d:=by have h:¬(Z o:G)>=(Z d:G):=a4 h;omega
  have F:rp p q:=K.qr;have hcg:Cg p (ps a) (ps q*ps d+ps o):=K.cg;let ⟨d1,d2,d3,d4,d5,d6⟩:=lq hp u H.1 L B;obtain⟨n,hn⟩:∃n,Z d=n+1:=⟨Z d-1,O⟩;let ⟨e1,e2⟩:=ai8 hp (m:=max (Z q) (aL a d p).1.length) (n:=n) (hn▸kf p d) (L.top hn) ((kf p q).le O) ((kf p (aL a d p).1).le O) ((kf p o).le O) ((kf p (aL a d p).2).le O)<|hcg.symm.trans d1;have f2:o=(aL a d p).2:=K2 hc (d5 H) e2;have f1:aK q=aK (aL a d p).1:=K2 (kg g F) (kg g d2) (by rw[o7,o7];exact e1);have ht:=wB q p O g O<|λi=>(F i).1;rw[Gy F,f1]at ht;refine bh<|aI<|c8 2007000 J J J<|bw J J ht J<|bO J ?_;rw[f2];rfl
def rN p(g:dy p)(e:p<=2147483648) a d(i:Z a<=500)(k:Z d<=500)(l:bs p a)(m:bs p d)(f:d≠[]):
  r z 200 [N aq a,N aq d,cU p] (N aq (aL a d p).2):=by
 refine aJ Tryz.func200 ?_
 exact I J<|bw J J (yp p g e a d i k l m f) J<|cJ J
def XW p(u:dy p)(f:p<=2147483648) a(F:Z a<=500)(m:bs p a):
  r z 201 [N aq a,cU p] (N aq<|kL p a):=by
 refine aJ Tryz.func201 ?_
 have H:=u.1
 have g:(0:G)<(p:G):=O
 refine I J<|M<|I J<|c J (λh=>?_)<|λh=>aD ?_
 .have h:(Z a:G)=0:=eq_of_beq h;have o:a=[]:=fE O;refine I J<|bI<|cG<|g7 cj J ?_;rw[kL,ao o];exact bm.nil aq
 .have h:(Z a:G)≠0:=m5 h;have o:a≠[]:=λe=>h tS
  have B:af ((Z a:G)-1)=Z a-1:=O;have q:=m.1<|Z a-1;have s:E a (Z a-1) 0≠0:=λe=>m.top (n:=Z a-1) O Dg
  have i:=Qr (E a (Z a-1) 0) p q s O O;have d:r z 248 [cU (E a (af<|(Z a:G)-1) 0),cU p] (.t [(ah,[.I .u64 (iB (af<|E a (Z a-1) 0) (af ((p:Y):G)):Y)]),(ah,[.I .i64 0])]):=by rw[B];exact i
  refine R<|rc J J d (hp:=aF)<|j J ?_;have x:=Qu u f m o;generalize C:((iB (af<|E a (Z a-1) 0) (af ((p:Y):G)):Y):G)=v at*;have k:0<=v/\v<p:=by have:=Qc (af<|E a (Z a-1) 0) (p-2) p O;rw[<-C,iB,b6];omega
  have l:=te [v] a p ax O g O (Dh k.1 k.2) m.1;have e:cH [v] a p=kL p a:=by refine K2 (mr g _ _) x.1<|(Dd [v] a p).trans ?_;rw[XV,PS.mul_comm];exact x.2.2.2.1.symm
  rw[e]at l;exact R<|rl aq [_] J J (rc J J l<|j J<|cJ J)
def Di p(q:dy p)(d:p<=2147483648) a i(u:Z a<=500)(v:Z i<=500)(B:bs p a)(F:bs p i):
  r z 171 [N aq a,N aq i,cU p] (N aq<|fH p a i):=by
 refine aJ Tryz.func171 ?_
 refine I J<|M<|ay<|bf (α:=Y×V G×V G) (λx=>⟨[(0,N aq x.2.1),(1,N aq x.2.2),(2,cU p)],[],1,[]⟩) (λx=>oe p x.1 x.2.1 x.2.2=oe p (Z i+1) a i/\Z x.2.2<x.1/\bs p x.2.1/\bs p x.2.2/\Z x.2.1<=500/\Z x.2.2<=500) (λx=>Z x.2.2) (Z i+1,a,i) ⟨J,dJ _,B,F,u,v⟩ aU ?_
 rintro⟨k,f,g⟩ ⟨l,h2,n,o,s,t⟩
 simp only at l h2 n o s t
 cases k with
 |zero=>omega
 |succ k=>
 rw[oe]at l
 refine M<|I J<|c J (λh=>?_)<|λh=>?_
 .have m:g≠[]:=by have h:(Z g:G)>0:=aT h;intro e;rw[e]at h;simp at h
  rw[w m]at l;let ⟨d1,d2,d3,d4,d5,d6⟩:=lq q d n.1 o m;have C:=cv.2 m;exact aD<|ay<|bw J J (rN p q d f g s t n o m) J<|I J<|rt J<|eL<|aS (k,g,(aL f g p).2) ⟨l,(O:(aL f g p).2.length<k),o,d5 n,t,(O:(aL f g p).2.length<=500)⟩ (O:(aL f g p).2.length<Z g) aU
 .have m:g=[]:=by have h:¬(Z g:G)>0:=a4 h;exact fE O
  rw[ao m]at l;refine bh<|aI<|bw J J (XW p q d f s n) J<|bO J ?_;rw[fH,<-l]
def aG(n:Y)(a:G):Prop:=aA a<4294967296^n
def aG.sm{n}{a}(d:aG n a)(e:n<=1099511627776):Sm a:=by
 refine bQ (zm (k:=n) ?_) e;have:((aA a:Y):G)<((4294967296^n:Y):G):=by have d:aA a<4294967296^n:=d;omega
 rwa[s7]at this
def aG.le{m n}{a}(d:aG m a)(k:m<=n):aG n a:=hP d<|fh T k
def aG.mul{m n}{a d}(e:aG m a)(k:aG n d):aG (m+n) (a*d):=by unfold aG at*;rw[qv,lI];exact KL e k
def aG.add{n}{a d}(e:aG n a)(k:aG n d):aG (n+1) (a+d):=by unfold aG at*;have:=Qw a d;rw[fp];omega
def aG.neg{n}{a}(d:aG n a):aG n (-a):=by unfold aG at*;rwa[Int.natAbs_neg]
def aG.sub{n}{a d}(e:aG n a)(k:aG n d):aG (n+1) (a-d):=by rw[P0];exact e.add k.neg
def aG.zero n:aG n 0:=by unfold aG;exact iA T
def aG.emod{n}{a m}(d:0<m)(e:aG n m):aG n (a%m):=by have f:=ij a (O:m≠0);have g:=ik a d;unfold aG at*;omega
def aG.one{a}(d:aA a<4294967296):aG 1 a:=by unfold aG;rwa[Nat.pow_one]
def aG.pow{n:Y}{a:G}(d:aG n a):∀k,aG (n*k+1) (a^k)
 |0=>by unfold aG;simp
 |k+1=>by rw[fb];exact((aG.pow d k).mul d).le (by rw[Nat.mul_succ];omega)
def XX a d u v(g:∀i,aG u (E a i 0))(l:∀i,aG v (E d i 0)) n:∀k,k<=4294967296->aG (u+v+1) (jK (λi=>E a i 0) (λi=>E d i 0) n k):=by
 have e:∀k,aA (jK (λi=>E a i 0) (λi=>E d i 0) n k)<=k*4294967296^(u+v):=by
  intro k;induction k with
  |zero=>simp[jK]
  |succ k o=>
   have h:=(g k).mul<|l<|n-k
   unfold aG at h
   have m:=Qw (jK (λi=>E a i 0) (λi=>E d i 0) n k)<|E a k 0*E d (n-k) 0
   rw[gk,iT]
   simp only[jK]
   omega
 intro k q;by_cases p:k=4294967296
 .subst p;unfold aG;have f:0<4294967296^(u+v):=iA T;have:∀k,aA (jK (λi=>E a i 0) (λi=>E d i 0) n k)<4294967296^(u+v)\/aA (jK (λi=>E a i 0) (λi=>E d i 0) n k)<k*4294967296^(u+v):=by
   intro k;induction k with
   |zero=>left;simp[jK];exact f
   |succ k o=>
    right
    have h:=(g k).mul<|l<|n-k
    unfold aG at h
    have m:=Qw (jK (λi=>E a i 0) (λi=>E d i 0) n k)<|E a k 0*E d (n-k) 0
    have s:=e k
    rw[gk,iT]
    simp only[jK]
    omega
  rcases this 4294967296 with h|h
  .exact hP h<|fh T O
  .rwa[fp,gO]
 .have h:=e k;unfold aG;have f:0<4294967296^(u+v):=iA T;have m:k*4294967296^(u+v)<4294967296*4294967296^(u+v):=P6 O f;rw[fp,gO<|4294967296^(u+v)];omega
def XY a d u v(x:Z a<=1000)(F:Z d<=1000)(t:u+v<=100000)(l:∀i,aG u (E a i 0))(m:∀i,aG v (E d i 0)):r z 212 [N .z a,N .z d] (N .z<|aK<|kJ a d):=by
 refine aJ Tryz.func212 ?_;refine I J<|R<|fM .z [] J J (j J<|M<|I J ?_);generalize hA:(λi=>E a i 0)=g;generalize o:(λi=>E d i 0)=B;refine ay<|bf (α:=Y) (λn=>⟨[(0,N .z a),(1,N .z d),(5,.c<|.X 1000000),(6,y n)],[(1000000,.vec 42 .z<|(cd n).map<|conv g B)],3,[]⟩) (λn=>n<=Z a+Z d-1) (λn=>Z a+Z d-n) 0 (a8 _) aU ?_;intro n p;refine M<|I J ?_;refine c J (λh=>?_)<|λh=>?_
 .have h:n+1<Z a+Z d:=by have h:(n:G)+1<Z a+Z d:=dL;omega
  refine aD<|M<|ay<|bw J J (iI 0 T T) J<|M<|I J ?_;refine ay<|bf (α:=Y) (λk=>⟨[(0,N .z a),(1,N .z d),(5,.c<|.X 1000000),(6,y n),(7,.c<|.P 4001000 0),(8,y k)],[(4001000,.box 42 0<|av .z<|jK g B n k),(1000000,.vec 42 .z<|(cd n).map<|conv g B)],6,[]⟩) (λk=>k<=n+1) (λk=>n+1-k) 0 (a8 _) (wk (bJ J) ⟨bE J J,bR J,A⟩) ?_;intro k q;refine M<|I J ?_;refine c J (λh2=>?_)<|λh2=>?_
  .have h2:k<=n:=by have h2:(k:G)<=n:=oO;omega
   have s:=XX a d u v l m n k O;rw[hA,o]at s;refine aD<|M<|ay<|cA ?_;refine rc J J (Ga a k) ?_;refine rc J J (f:=256) (r:=aZ<|E d (n-k) 0) (by have:=Ga d<|n-k;rw[(O:((n-k:Y):G)=(n:G)-(k:G))]at this;exact this) ?_;refine rc J J (kd (E a k 0) (E d (n-k) 0) ((l k).sm O)<|(m<|n-k).sm O) ?_;refine rc J J (we (jK g B n k) (E a k 0*E d (n-k) 0) (s.sm O)<|((l k).mul<|m<|n-k).sm O)<|j J ?_;refine bH<|rt J<|aS (k+1) O (O:n+1-(k+1)<n+1-k)<|wk ⟨sR J,sR J,sR J,sR J,sR J,sE J J,A⟩ ⟨bE J ?_,bR J,A⟩;have e:jK g B n (k+1)=jK g B n k+E a k 0*E d (n-k) 0:=by simp only[jK,<-hA,<-o]
   rw[e];rfl
  .have h2:¬k<=n:=by have h2:¬(k:G)<=n:=oO;omega
   have q:k=n+1:=O;subst q;refine bh<|aI ?_;refine cA<|rl .z [conv g B n] J J (ra J J J J J J J J J ?_ ?_<|j J ?_)
   .show(_+1+(_+1)/4+192)*32<=_;simp only[cR,rO];omega
   .show(_+1)*2<=_;simp only[cR,rO];omega
   refine bH<|rt J<|aS (n+1) O (O:Z a+Z d-(n+1)<Z a+Z d-n)<|Wk.trans (wk (st':=⟨[(0,N .z a),(1,N .z d),(5,.c<|.X 7003000),(6,y ((n+1:Y):G))],[(7003000,.vec 42 .z<|(cd<|n+1).map<|conv g B)],9,[]⟩) ⟨sR J,sR J,sR J,sE J ?_,A⟩ ⟨bE J ?_,A⟩)<|Wk.trans (gw 1000000 7003000 J J J) aU
   .rfl
   .rw[zt,fo];rfl
 .have h:¬n+1<Z a+Z d:=by have h:¬(n:G)+1<Z a+Z d:=dL;omega
  have p:n=Z a+Z d-1:=O;refine bh<|aI<|c8 1000000 J J J<|bw J J (Kt _) J<|bO J ?_;unfold kJ;rw[hA,o,<-p]
def XZ a(p:Y)(e:2<=p)(g:p<=2147483648)(f:Sm a):r z 202 [aZ a,cU p] (cU<|a%p):=by refine aJ Tryz.func202 ?_;have d:=ij a (O:(p:G)≠0);have i:=ik a (O:(0:G)<p);refine I J<|R<|rc J J (iI p O O) (hp:=aF)<|rc J J (C1 a p O f<|Sm.of O)<|j J ?_;refine bw J J (ah9 (a%p) d O) J ?_;refine I J<|bO J<|bK ?_;exact wrap_u64 _ d O
def K6 p a:md p (md p a)=md p a:=by unfold md;rw[K1];exact Qx λx _=>lM x p
def X0 a(p:Y)(n:Z a<=1000)(d:2<=p)(k:p<=2147483648)(l:∀i,Sm (E a i 0)):r z 172 [N .z a,cU p] (N aq<|aK<|md p a):=by
 refine aJ Tryz.func172 ?_;have m:=wA p a;have e:=Aw (O:(0:G)<(p:G)) a;have g:=wB (md p a) p O O O<|λi=>(e i).1;rw[K6]at g;refine I J<|R<|fM aq [] J J (j J<|M<|I J ?_);refine ay<|bf (α:=Y) (λi=>⟨[(0,N .z a),(1,cU p),(5,.c<|.X 1000000),(6,y i)],[(1000000,.vec 150 aq<|(md p a).take i)],3,[]⟩) (λi=>i<=Z a) (λi=>Z a-i) 0 (a8 _) aU ?_;intro i o;have q:Z ((md p a).take i)=i:=bV;refine M<|I J<|c J (λh=>?_)<|λh=>?_
 .have h:i<Z a:=by have h:(i:G)<(Z a:G):=aT h;omega
  have f:r z 202 [.a (av .z<|E a (af<|(i:G)) 0),cU p] (cU<|E a i 0%p):=by rw[b6];exact XZ (E a i 0) p d k<|l i
  refine aD<|M<|ay<|cA<|rc J J f (hp:=aF) ?_;refine rl aq [_] J J (ra J J J J J J J J J ?_ ?_<|j J ?_)
  .show(_+1+(_+1)/4+192)*8<=_;omega
  .show(_+1)*1<=_;omega
  refine bH<|rt J<|aS (i+1) h nY<|Wk.trans (wk (st':=⟨[(0,N .z a),(1,cU p),(5,.c<|.X 4008000),(6,y ((i+1:Y):G))],[(4008000,.vec 150 aq<|(md p a).take<|i+1)],8,[]⟩) (bJ J) ⟨bE J ?_,A⟩)<|Wk.trans (gw 1000000 4008000 J J J) aU;refine a6 (aE.vec 150 aq) ?_;rw[qy _ i O,Gx]
 .have h:i=Z a:=by have h:¬(i:G)<(Z a:G):=a4 h;omega
  subst h;rw[iO O];exact bh<|aI<|c8 1000000 J J J<|bw J J g J<|cJ J
def aji{m}(a:Z (b m)=1):(m:G)=E (b m) 0 0:=by
 have:=dU m;rw[<-this];match hw:b m,a with
 |[w],_=>show w+4294967296*0=w;omega
def Dj a:r z 156 [aZ a] (cB<|decide<|a=1):=by
 refine aJ Tryz.func156 ?_;refine I J<|R<|rg 6 J J (λh=>?_)<|λh=>?_
 .have f:0<=a:=by have h:(!bY a)=ae:=h;simpa[bY]using h
  refine rg 12 J J (λd=>?_)<|λd=>?_
  .have d:Z (b<|aA a)=1:=by have d:(Z (b<|aA a):G)=1:=eq_of_beq d;omega
   have g:Z (dP a)=1:=d;refine j J (bO J<|a6 cB ?_) (hp:=?_)
   .show((E (b<|aA a) 0 0)==1)=decide (a=1);have:=aji d;by_cases e:a=1
    .subst e;rfl
    .rw[n8 e];exact beq_eq_false_iff_ne.2<|λi=>e O
   .simp only[Pr.an,Pr.h,num,gf,true_and,and_true];first|done|omega
  .refine j J<|bO J<|a6 cB ?_;rw[n8];intro e;subst e;cases d
 .have f:a<0:=by have h:(!bY a)=ah:=h;simpa[bY]using h
  refine rg 12 J J (λd=>by cases d)<|λd=>?_;refine j J<|bO J<|a6 cB ?_;rw[n8 O]
def GH x a(d:Sm x)(f:Sm a):r z 127 [N .z [x,a]] (aZ<|x*a):=by
 refine aJ Tryz.func127 ?_;refine I J<|bw J J (P2 1 T T) J<|M<|I J ?_;refine ay<|bf (α:=Y) (λi=>⟨[(7,N .z [x,a]),(2,.c<|.P 0 0),(3,.c<|.P 1001000 0),(8,y 2),(9,y i)],[(0,.box 42 0 [.B ah,.V<|.slice none 0 0]),(1001000,.box 42 0<|av .z (if i=0 then 1 else if i=1 then x else x*a))],3,[]⟩) (λi=>i<=2) (λi=>2-i) 0 T (wk (bJ J) ⟨bE J J,bE J J,A⟩) ?_;intro i g;rcases(O:i=0\/i=1\/i=2)with e|e|e
 .subst e;refine I J<|M<|c J (λ_=>aD ?_)<|λh=>eV;refine M (ay<|I J (ay<|bw J J (Dj x) J<|c J (λh=>c7 ?_)<|λh=>?_) (hp:=X2))
  .have h:x=1:=aT h;subst h;exact eL<|bH<|rt J (hp:=aF)<|aS 1 T T<|wk (bJ J) ⟨bE J J,bE J J,A⟩
  .refine bw J J (Dj 1) J<|c J (λh=>?_)<|λh=>eV;exact rt J<|eL<|bH<|rt J (hp:=aF)<|aS 1 T T<|wk (bJ J) ⟨bE J J,bE J J,A⟩
 .subst e;refine I J<|M<|c J (λ_=>aD ?_)<|λh=>eV;refine M (ay<|I J (ay<|bw J J (Dj a) J<|c J (λh=>c7 ?_)<|λh=>?_) (hp:=X2))
  .have h:a=1:=aT h;subst h;refine eL<|bH<|rt J (hp:=aF)<|aS 2 T T<|wk (bJ J) ⟨bE J J,bE J ?_,A⟩;show aE.box 42 0 (av .z x)=aE.box 42 0 (av .z<|x*1);rw[mm]
  .refine bw J J (Dj x) J (c J (λh=>?_)<|λh=>?_)
   .have h:x=1:=aT h;subst h;refine rt J<|eL<|bH<|rt J (hp:=aF)<|aS 2 T T<|wk (bJ J) ⟨bE J J,bE J ?_,A⟩;show aE.box 42 0 (av .z a)=aE.box 42 0 (av .z<|1*a);rw[jR]
   .exact cA<|rc J J (aif x a d f)<|j J<|eL<|bH<|rt J (hp:=aF)<|aS 2 T T<|wk (bJ J) ⟨bE J J,bE J J,A⟩
 .subst e;refine I J<|M<|c J (λh=>eV)<|λ_=>?_;exact bh<|aI<|I J<|cJ J
structure QS(k:Y)(r:D):Prop where
 n:aG k r.num
 d:aG k (r.den:G)
def QS.le{a k}{e}(f:QS a e)(g:a<=k):QS k e:=⟨f.n.le g,f.d.le g⟩
def K7{a}:eS a<0↔a<0:=by unfold eS;split<;>(try split)<;>omega
def uH{a}:eS a=0↔a=0:=by unfold eS;split<;>(try split)<;>omega
def GJ{e}{n d}(f:e.num=n)(g:(e.den:G)=d):AV.a [C.B (bY n),C.S al<|dP n,C.B<|bY d,C.S al<|dP d]=aQ e:=by subst f g;rfl
def Qy{n d}(a:0<d):(iW n d).num=n/((gV n d:Y):G)/\((iW n d).den:G)=d/((gV n d:Y):G):=by have:=Ki n d O;rwa[w O]at this
def K8{n d}(a:0<d)(e:gV n d=1):(iW n d).num=n/\((iW n d).den:G)=d:=by have:=Qy (n:=n) a;rwa[e,show(((1:Y):G))=1 from J,sY,sY]at this
def Qz n d(g:0<d)(i:Sm n)(a:Sm d):r z 126 [aZ n,aZ d] (aQ<|iW n d):=by
 refine aJ Tryz.func126 ?_;let ⟨p1,k⟩:=Qy (n:=n) g;have l:gV n d≠0:=λm=>by have:=(PN.1 m).2;omega
 have e:Sm ((gV n d:Y):G):=bQ (rL<|show aA (((gV n d:Y):G))<=aA d from Nat.gcd_le_right _ O) a;refine I J<|M<|bw J J (Dj d) J<|c J (λh=>?_)<|λ_=>aD ?_
 .have h:d=1:=aT h;subst h;let ⟨c1,f⟩:=K8 (n:=n) T<|Int.gcd_one_right ..;exact I J<|bI<|cG<|eB J<|GJ c1 f
 refine bw J J (aiO n d i a) J<|M<|R<|rc J J (Dj _)<|j J<|c J (λh=>?_)<|λ_=>aD ?_
 .have h:((gV n d:Y):G)=1:=aT h;let ⟨c1,f⟩:=K8 g<|Int.ofNat.inj h;exact I J<|bI<|cG<|eB J<|GJ c1 f
 refine bw J J (Xj n _ O i e) J<|R<|rc J J (Xj d _ O a e)<|j J<|I J<|bO J<|GJ p1 k
def den_pos(a:D):0<(a.den:G):=by have:=a.den_nz;omega
def ajj a(d:Sm a.num):r z 71 [aQ a] (aQ<| -a):=by refine aJ Tryz.func71 ?_;refine I J<|bw J J (P3 a.num d) J<|bO J<|GJ J J
def QA q:r z 137 [aQ q] (y<|eS q.num):=by refine aJ Tryz.func137 ?_;exact I J<|bw J J (W0 q.num) J<|cJ J
def ajk n:r z 123 [aZ n] (aQ (n:D)):=by refine aJ Tryz.func123 ?_;exact I J<|bw J J (P2 1 T T) J<|bO J J
def QB n(a: -9223372036854775808<=n)(d:n<=9223372036854775807):r z 70 [y n] (aQ (n:D)):=by refine aJ Tryz.func70 ?_;exact I J<|R<|rc J J (P2 n a d)<|rc J J (ajk n)<|j J<|cJ J
def K9 a(f:a.num≠0)(g:Sm a.num)(i:Sm (a.den:G)):r z 115 [aQ a] (.t [(ae,av .q a⁻¹),(ah,[.I .i64 0])]):=by
 refine aJ Tryz.func115 ?_;have d:gV (a.den:G) a.num=1:=by have:=a.reduced;rw[Int.gcd_comm];exact this
 refine I J<|M<|bw J J (W0 a.num) J<|ay<|I J<|c J (λh=>?_)<|λh=>?_
 .exfalso;have h:eS a.num=0:=eq_of_beq h;exact f<|uH.1 h
 refine I J<|c J (λh=>?_)<|λh=>?_
 .have h:eS a.num= -1:=eq_of_beq h;have h:a.num<0:=K7.1 O;have e:(a⁻¹).num= -(a.den:G)/\(((a⁻¹).den:Y):G)= -a.num:=by
   rw[X3];have:=Ki (a.den:G) a.num f;rw[ao h,d]at this;rw[this.1,this.2];constructor
   .rw[show-(((1:Y):G))= -1 from J,Ak,sY]
   .rw[show-(((1:Y):G))= -1 from J,Ak,sY]
  refine R<|rc J J (P3 (a.den:G) i)<|rc J J (P3 a.num g)<|j J<|bI ?_;repeat(first|refine cG ?_|refine kE ?_|refine k8 ?_)
  refine eB J ?_;show AV.t [(ae,[C.B (bY<| -(a.den:G)),C.S al<|dP<| -(a.den:G),C.B<|bY<| -a.num,C.S al<|dP<| -a.num]),(ah,[C.I .i64 0])]=_;rw[<-e.1,<-e.2];rfl
 .have h:¬eS a.num= -1:=m5 h;have h:0<a.num:=by
   unfold eS at h;split at h
   .omega
   .omega
  have e:(a⁻¹).num=(a.den:G)/\(((a⁻¹).den:Y):G)=a.num:=by rw[X3];exact K8 h d
  refine c7<|bH ?_;refine I J<|bO J ?_;show AV.t [(ae,[C.B (bY (a.den:G)),C.S al<|dP (a.den:G),C.B<|bY a.num,C.S al<|dP a.num]),(ah,[C.I .i64 0])]=_;rw[<-e.1,<-e.2];rfl
def ajl{k}a f(g:QS k a)(i:QS k f)(x:k<=100000000000):r z 77 [aQ a,aQ f] (aQ<|a+f):=by
 refine aJ Tryz.func77 ?_;have q:=g.n.mul i.d;have s:=i.n.mul g.d;have t:=g.d.mul i.d;have u:=q.add s;have o:=g.n.sm O;have l:=g.d.sm O;have p:=i.n.sm O;have m:=i.d.sm O;have v:=zo (den_pos a)<|den_pos f;have e:iW (a.num*(f.den:G)+f.num*(a.den:G)) ((a.den:G)*(f.den:G))=a+f:=by have B:=den_pos a;have C:=den_pos f;rw[<-QC _ _ O O,m6,m6]
 rw[<-e];refine I J<|R<|rl .z [a.num,(f.den:G)] J J (rc J J (GH _ _ o m)<|rl .z [f.num,(a.den:G)] J J (rc J J (GH _ _ p l)<|rc J J (ais _ _ (q.sm O)<|s.sm O)<|j J ?_));exact R<|rl .z [(a.den:G),(f.den:G)] J J (rc J J (GH _ _ l m)<|rc J J (Qz _ _ v (u.sm O)<|t.sm O)<|j J<|cJ J)
def X4{a e f d}(i:gV a e=1)(k:f∣a)(l:d∣e):gV f d=1:=by have g:((gV f d:Y):G)∣((gV a e:Y):G):=Int.dvd_coe_gcd (GK (Int.gcd_dvd_left ..) k)<|GK (PM ..) l;rw[i]at g;have:=Int.ofNat_dvd.1 g;exact Nat.dvd_one.1 this
def QD{n d}(a:0<d):(iW n d).num∣n/\(((iW n d).den:Y):G)∣d:=by let ⟨e,h2⟩:=Qy (n:=n) a;rw[e,h2];exact⟨⟨_,(ajm<|Int.gcd_dvd_left ..).symm⟩,⟨_,(ajm<|PM ..).symm⟩⟩
def aG.dvd{n}{a d}(f:aG n a)(e:d∣a)(g:a≠0):aG n d:=by have:=uE O<|Gt.2 e;unfold aG at*;omega
def GL{k}{n d}(a:0<d)(f:aG k n)(g:aG k d):QS k (iW n d):=by
 let ⟨i,h2⟩:=QD (n:=n) a;refine⟨?_,g.dvd h2 O⟩;by_cases e:n=0
 .subst e;rw[Rat.zero_divInt];exact aG.zero _
 .exact f.dvd i e
def QS.add{k}{a f}(g:QS k a)(i:QS k f):QS (2*k+1) (a+f):=by
 have l:=den_pos a;have m:=den_pos f;have e:iW (a.num*(f.den:G)+f.num*(a.den:G)) ((a.den:G)*(f.den:G))=a+f:=by rw[<-QC _ _ O O,m6,m6]
 rw[<-e];exact GL (zo l m) (((g.n.mul i.d).add<|i.n.mul g.d).le O)<|(g.d.mul i.d).le O
def QS.mul{k}{a f}(g:QS k a)(i:QS k f):QS (2*k) (a*f):=by
 have l:=den_pos a;have m:=den_pos f;have e:iW (a.num*f.num) ((a.den:G)*(f.den:G))=a*f:=by rw[<-Dk,m6,m6]
 rw[<-e];exact GL (zo l m) ((g.n.mul i.n).le O)<|(g.d.mul i.d).le O
def QS.neg{k}{a}(e:QS k a):QS k (-a):=⟨e.n.neg,e.d⟩
def X5{k}a f(i:QS k a)(l:QS k f)(hk:k<=100000000000):r z 72 [aQ a,aQ f] (aQ<|a*f):=by
 refine aJ Tryz.func72 ?_;have p:=i.n.sm O;have q:=i.d.sm O;have s:=l.n.sm O;have t:=l.d.sm O;have B:=GL (n:=a.num) (den_pos f) i.n l.d;have C:=GL (n:=f.num) (den_pos a) l.n i.d;let ⟨l1,l2⟩:=QD (n:=a.num)<|den_pos f;let ⟨r1,F⟩:=QD (n:=f.num)<|den_pos a;have u:=Qz a.num (f.den:G) (den_pos f) p t;have v:=Qz f.num (a.den:G) (den_pos a) s q;have e:iW a.num (f.den:G)*iW f.num (a.den:G)=a*f:=by rw[Dk,et (f.den:G),<-Dk,m6,m6]
 have H:gV a.num (a.den:G)=1:=a.reduced;have K:gV f.num (f.den:G)=1:=f.reduced;generalize iW a.num (f.den:G)=L at*;generalize iW f.num (a.den:G)=g at*;have x:gV (L.num*g.num) ((L.den:G)*(g.den:G))=1:=by have m:gV L.num (L.den:G)=1:=L.reduced;have o:gV g.num (g.den:G)=1:=g.reduced;have P:=X4 H l1 F;have Q:=X4 K r1 l2;have U:QE (aA L.num) L.den:=m;have W:QE (aA g.num) g.den:=o;have X:QE (aA L.num) g.den:=P;have c:QE (aA g.num) L.den:=Q;show Nat.gcd (aA<|L.num*g.num) (aA<|(L.den:G)*(g.den:G))=1;rw[qv,qv];exact Nat.Coprime.mul_left (ajn U X)<|ajn c W
 let ⟨m,o⟩:=K8 (zo (den_pos L)<|den_pos g) x;rw[<-Dk,m6,m6,e]at m o;refine I J<|bw J J u J<|R<|rc J J v<|j J ?_;refine R<|rl .z [L.num,g.num] J J (rc J J (GH _ _ (B.n.sm O)<|C.n.sm O)<|rl .z [(L.den:G),(g.den:G)] J J (rc J J (GH _ _ (B.d.sm O)<|C.d.sm O)<|j J<|bO J<|GJ m o))
def m7(a d:D):G:=if a<d then-1 else if d<a then 1 else 0
def K' n g(d:g≠0)(e:Sm n)(a:Sm g):r z 147 [aZ n,aZ g] (aZ<|n/g):=by refine aJ Tryz.func147 ?_;refine I J<|bw J J (C1 n g d e a) J<|I J<|bO J ?_;rfl
def Sm.gcd{n d}(g:d≠0)(a:Sm d):Sm ((gV n d:Y):G):=by have e:gV n d<=aA d:=Nat.gcd_le_right _ O;have f:Z (b<|aA<|((gV n d:Y):G))<=Z (b<|aA d):=rL (by rw[ob];exact e);exact bQ f a
def Sm.ng{a}(d:Sm a):Sm (-a):=by
 have e:dP (-a)=dP a:=by unfold dP;rw[Int.natAbs_neg]
 unfold Sm at*;rw[e];exact d
def La n d(g:d≠0)(i:Sm n)(a:Sm d):r z 92 [aZ n,aZ d] (aQ<|iW n d):=by
 refine aJ Tryz.func92 ?_;have k:gV n d≠0:=λl=>g (PN.1 l).2
 let ⟨p1,f⟩:=Ki n d g;have e:Sm ((gV n d:Y):G):=Sm.gcd g a;refine I J<|bw J J (Kq n d i a) J<|M<|R<|rc J J (Ah d)<|j J ?_;refine c J (λh=>?_)<|λh=>?_
 .have h:d<0:=by
   have h:eS d<0:=dL;unfold eS at h;split at h
   .assumption
   ·(try split at h)<;>omega
  rw[ao h]at p1 f;refine cA<|rc J J (WC _)<|j J<|aI<|R ?_;refine rc J J (K' n _ O i<|Sm.ng e)<|rc J J (K' d _ O a<|Sm.ng e)<|j J<|bO J ?_;unfold aQ;simp only[av,p1,f];rfl
 .have h:¬d<0:=by
   have h:¬eS d<0:=dL;unfold eS at h;split at h
   .omega
   .assumption
  rw[w h]at p1 f;refine aD<|R ?_;refine rc J J (K' n _ O i e)<|rc J J (K' d _ O a e)<|j J<|bO J ?_;unfold aQ;simp only[av,p1,f];rfl
def QF n d(e:d≠0)(f:Sm n)(a:Sm d):r z 134 [aZ n,aZ d] (.t [(ae,av .q<|iW n d),(ah,[.I .i64 0])]):=by
 refine aJ Tryz.func134 ?_;refine I J<|M<|bw J J (Ah d) J ?_;refine c J (λh=>?_)<|λh=>?_
 .exfalso;have h:eS d=0:=dL;unfold eS at h;split at h
  .omega
  ·(try split at h)<;>omega
 .refine aD<|bw J J (La n d e f a) J<|bO J ?_;rfl
def QG{k}a f(g:QS k a)(i:QS k f)(l:k<=100000000000):r z 41 [aQ a,aQ f] (aQ<|a*f):=by
 refine aJ Tryz.func41 ?_;have m:=zo (den_pos a)<|den_pos f;have e:iW (a.num*f.num) ((a.den:G)*(f.den:G))=a*f:=by rw[<-Dk,m6,m6]
 rw[<-e];refine I J<|R<|rc J J (kd _ _ (g.n.sm O)<|i.n.sm O)<|rc J J (kd _ _ (g.d.sm O)<|i.d.sm O)<|rc J J (La _ _ O ((g.n.mul i.n).sm O)<|(g.d.mul i.d).sm O)<|j J<|bO J ?_;rfl
def ajo{k}a f(g:QS k a)(i:QS k f)(q:k<=100000000000):r z 42 [aQ a,aQ f] (aQ<|a+f):=by
 refine aJ Tryz.func42 ?_;have l:=g.n.mul i.d;have m:=i.n.mul g.d;have o:=g.d.mul i.d;have p:=l.add m;have s:=zo (den_pos a)<|den_pos f;have e:iW (a.num*(f.den:G)+f.num*(a.den:G)) ((a.den:G)*(f.den:G))=a+f:=by have t:=den_pos a;have u:=den_pos f;rw[<-QC _ _ O O,m6,m6]
 rw[<-e];refine I J<|R<|rc J J (kd _ _ (g.n.sm O)<|i.d.sm O)<|rc J J (kd _ _ (i.n.sm O)<|g.d.sm O)<|rc J J (we _ _ (l.sm O)<|m.sm O)<|rc J J (kd _ _ (g.d.sm O)<|i.d.sm O)<|rc J J (La _ _ O (p.sm O)<|o.sm O)<|j J<|bO J ?_;rfl
def ajp{k}a e(f:QS k a)(g:QS k e)(i:k<=100000000000):r z 216 [aQ a,aQ e] (y<|dz (a.num*(e.den:G))<|e.num*(a.den:G)):=by refine aJ Tryz.func216 ?_;refine I J<|R<|rc J J (kd _ _ (f.n.sm O)<|g.d.sm O)<|rc J J (kd _ _ (g.n.sm O)<|f.d.sm O)<|rc J J (J3 _ _)<|j J<|cJ J
def ajq{k}a f(l:f.num≠0)(g:QS k a)(i:QS k f)(o:k<=100000000000):r z 133 [aQ a,aQ f] (.t [(ae,av .q<|a/f),(ah,[.I .i64 0])]):=by
 refine aJ Tryz.func133 ?_;have m:(a.den:G)*f.num≠0:=yq (by have:=den_pos a;omega) l;have e:iW (a.num*(f.den:G)) ((a.den:G)*f.num)=a/f:=by rw[<-Dk,m6,yr];congr 1;conv=>rhs;rw[<-m6 f,Rat.inv_divInt]
 rw[<-e];refine I J<|R<|rc J J (kd _ _ (g.n.sm O)<|i.d.sm O)<|rc J J (kd _ _ (g.d.sm O)<|i.n.sm O)<|rc J J (QF _ _ m ((g.n.mul i.d).sm O)<|(g.d.mul i.n).sm O)<|j J<|bO J ?_;rfl
def vK.a1{P}{f}{x g}{xs}{a}(d:r P f (g::xs) a)(e:bm x g):r P f (x::xs) a:=
 ⟨d.call,d.iy,λH W vs i k=>d.spec H W vs i<|by obtain⟨v,a,rfl,l,m⟩:=k;exact⟨v,a,J,e.1 _ _ l,m⟩⟩
def wE(a:V G)(m:G)(d:V G):V G:=(cd<|max (Z a)<|Z d).map λi=>E a i 0+m*E d i 0
def ajr(f:Y->G) i:(cd<|i+1).map f=(cd i).map f++[f i]:=by rw[zt,fo];rfl
def AA a m(d:V G) u(s:u<=100000)(t:Z a<=1000)(v:Z d<=1000)(o:∀i,aG u (E a i 0))(n:aG u m)(p:∀i,0<=E d i 0/\E d i 0<4294967296):r z 260 [N .z a,aZ m,N aq d] (N .z<|aK<|wE a m d):=by
 refine aJ Tryz.func260 ?_;generalize hM:max (Z a) (Z d)=M;have q:M<=1000:=O;have e:wE a m d=(cd M).map λi=>E a i 0+m*E d i 0:=by rw[wE,hM]
 rw[e];refine I J<|R<|fM .z [] J J (j J<|jg<|I J ?_);refine ay<|bf (α:=Y) (λi=>⟨[(0,N .z a),(2,N aq d),(4,.c<|.P 0 0),(7,.c<|.X 1000000),(8,y i)],[(0,.box 42 0<|av .z m),(1000000,.vec 42 .z<|(cd i).map λi=>E a i 0+m*E d i 0)],3,[]⟩) (λi=>i<=M) (λi=>M-i) 0 (a8 _) (wk (bJ J) ⟨bE J J,bR J,A⟩) ?_;intro i x;have B:Z ((cd i).map λi=>E a i 0+m*E d i 0)=i:=ax;by_cases k:i<M
 .refine m0 ⟨[(0,N .z a),(2,N aq d),(4,.c<|.P 0 0),(7,.c<|.X 1000000),(8,y i)],[(0,.box 42 0<|av .z m),(1000000,.vec 42 .z<|(cd i).map λi=>E a i 0+m*E d i 0)],4,[]⟩ ?_ (λf=>R<|rg 14 J J (λh=>j J<|c J (λ_=>c7<|eZ f aU)<|λh2=>oZ)<|λh=>j J<|c J (λ_=>c7<|eZ f aU)<|λh2=>?_)
  .have h2:=p i;have g:aG 1 (E d i 0):= .one O;refine jg<|ay<|cA ?_;refine rc J J (Ga a i)<|rc J J (Gw d i)<|rc J J (iI (E d i 0) O O) (hp:=aF)<|rc J J (kd m (E d i 0) (n.sm O)<|g.sm O)<|rc J J (we (E a i 0) (m*E d i 0) ((o i).sm O)<|(n.mul g).sm O) ?_;refine rl .z [E a i 0+m*E d i 0] J J (ra J J J J J J J J J ?_ ?_<|j J ?_)
   .show(_+1+(_+1)/4+192)*32<=_;omega
   .show(_+1)*2<=_;omega
   refine bH<|rt J<|aS (i+1) k wc<|Wk.trans (wk (st':=⟨[(0,N .z a),(2,N aq d),(4,.c<|.P 0 0),(7,.c<|.X 4013000),(8,y ((i+1:Y):G))],[(0,.box 42 0<|av .z m),(4013000,.vec 42 .z<|(cd<|i+1).map λi=>E a i 0+m*E d i 0)],8,[]⟩) (bJ J) ⟨bR J,bE J ?_,A⟩)<|Wk.trans (gw 1000000 4013000 J J J) aU;exact a6 (aE.vec 42 .z) (ajr _ i).symm
  .exfalso;have h:¬(i:G)<(Z a:G):=a4 h;have h2:¬(i:G)<(Z d:G):=a4 h2;omega
 .have l:i=M:=by omega
  subst l;refine jg<|R<|rg 14 J J (λh=>?_)<|λh=>?_
  .exfalso;have h:(i:G)<(Z a:G):=aT h;omega
  .refine j J (c J (λh2=>?_)<|λh2=>?_)
   .exfalso;have h2:(i:G)<(Z d:G):=aT h2;omega
   .exact bh<|aI<|c8 1000000 J J J<|bw J J (Kt _) J<|cJ J
def ajs m a:wE [] m a=a.map (m*·):=by refine sK (by simp[wE])<|λi e h2=>?_;have d:i<Z a:=oO;simp only[wE,zY,Jq];rw[aM (l:=a),cK d];simp
def X6(a:V G)(d:Z a<=1000)(e:∀i,0<=E a i 0/\E a i 0<4294967296):r z 259 [N aq a] (N .z<|aK a):=by refine aJ Tryz.func259 ?_;have h:=AA [] 1 a 1 T ax d (λi=>aG.zero 1) (.one T) e;rw[ajs,show(λx:G=>1*x)=id from funext λx=>jR x,List.map_id]at h;exact I J<|R<|rc J J (iI 1 T T)<|rc J J (h.a1<|bm.nil .z)<|j J<|cJ J
def QH(p k:Y)(d:p<4294967296)(e:k<=100000):r z 177 [cU p,y k] (aZ<|(p:G)^k):=by
 refine aJ Tryz.func177 ?_;have a:aG 1 (p:G):= .one O;refine I J<|bw J J (iI 1 T T) J<|M<|I J ?_;refine ay<|bf (α:=Y) (λi=>⟨[(0,cU p),(1,y k),(4,.c<|.P 0 0),(5,.c<|.P 1001000 0),(6,y i)],[(0,.box 42 0 [.B ah,.V<|.slice none 0 0]),(1001000,.box 42 0<|av .z<|(p:G)^i)],3,[]⟩) (λi=>i<=k) (λi=>k-i) 0 (a8 _) (wk (bJ J) ⟨bE J J,bE J ?_,A⟩) ?_
 .rw[n7];rfl
 intro i f;refine M<|I J<|c J (λh=>?_)<|λh=>?_
 .have h:i<k:=by have h:(i:G)<(k:G):=aT h;omega
  refine aD<|M<|ay<|cA ?_;refine rc J J (iI p O O) (hp:=aF)<|rc J J (kd ((p:G)^i) p ((a.pow i).sm O)<|a.sm O)<|j J ?_;refine bH<|rt J<|aS (i+1) h Lb<|wk (bJ J) ⟨bE J J,bE J ?_,A⟩;rw[fb];rfl
 .have h:i=k:=by have h:¬(i:G)<(k:G):=a4 h;omega
  subst h;exact bh<|aI<|I J<|bO J J
def dt(a m:G):G:=if a%m+a%m>m then a%m-m else a%m
def QI{n}{a m}(d:0<m)(e:aG n m):aG n (dt a m):=by have f:=ij a (O:m≠0);have g:=ik a d;unfold dt aG at*;split<;>omega
def X7{a d}:dz a d>0↔a>d:=by
 unfold dz;split
 .omega
 .split<;>omega
def QJ a m u(q:u<=100000)(s:Z a<=1000)(k:0<m)(p:∀i,aG u (E a i 0))(l:aG u m):r z 211 [N .z a,aZ m] (N .z<|aK<|a.map (dt · m)):=by
 refine aJ Tryz.func211 ?_;refine I J<|R<|fM .z [] J J (j J<|M<|I J ?_);refine ay<|bf (α:=Y) (λi=>⟨[(0,N .z a),(3,.c<|.P 0 0),(5,.c<|.X 1000000),(6,y i)],[(0,.box 42 0<|av .z m),(1000000,.vec 42 .z<|(h i a).map (dt · m))],3,[]⟩) (λi=>i<=Z a) (λi=>Z a-i) 0 (a8 _) (wk (bJ J) ⟨bE J J,bR J,A⟩) ?_;intro i v;have x:((h i a).map (dt · m)).length=i:=bV;refine M<|I J<|c J (λd=>?_)<|λd=>?_
 .have d:i<Z a:=by have d:(i:G)<(Z a:G):=aT d;omega
  have n:r z 183 [.a (av .z<|E a (af<|(i:G)) 0),aZ m] (.t [(ae,av .z<|E a i 0/m),(ae,av .z<|E a i 0%m),(ah,[.I .i64 0])]):=by rw[b6];exact C1 (E a i 0) m O ((p i).sm O)<|l.sm O
  have o:aG u (E a i 0%m):=aG.emod k l;have f:=we (E a i 0%m) (E a i 0%m) (o.sm O)<|o.sm O;refine aD<|M<|ay<|R<|rc J J n (hp:=aF)<|j J ?_;refine m0 ⟨[(0,N .z a),(3,.c<|.P 0 0),(5,.c<|.X 1000000),(6,y i),(8,.c<|.P 4011000 0)],[(0,.box 42 0<|av .z m),(1000000,.vec 42 .z<|(h i a).map (dt · m)),(4011000,.box 42 0<|av .z<|dt (E a i 0) m)],7,[]⟩ ?_<|λg=>?_
  .refine cA (rl .z [dt (E a i 0) m] J J (ra J J J J J J J J J ?_ ?_<|j J ?_))
   .show(_+1+(_+1)/4+192)*32<=_;omega
   .show(_+1)*2<=_;omega
   refine bH<|rt J<|aS (i+1) d nY<|Wk.trans (wk (st':=⟨[(0,N .z a),(3,.c<|.P 0 0),(5,.c<|.X 7003000),(6,y ((i+1:Y):G))],[(0,.box 42 0<|av .z m),(7003000,.vec 42 .z<|(h (i+1) a).map (dt · m))],9,[]⟩) (bJ J) ⟨bR J,bE J ?_,A⟩)<|Wk.trans (gw 1000000 7003000 J J J) aU;refine a6 (aE.vec 42 .z) ?_;rw[qy a i d,fo];rfl
  .refine R (rc J J f<|rc J J (J3 (E a i 0%m+E a i 0%m) m)<|j J<|c J (λe=>?_)<|λe=>?_)
   .have e:dz (E a i 0%m+E a i 0%m) m>0:=aT e;rw[X7]at e;refine cA<|rc J J (PZ (E a i 0%m) m (o.sm O)<|l.sm O)<|j J<|eZ g<|wk (bJ J) ⟨bE J J,bR J,bE J ?_,A⟩;rw[dt,ao e];rfl
   .have e:¬dz (E a i 0%m+E a i 0%m) m>0:=a4 e;rw[X7]at e;refine c7<|eZ g<|wk (bJ J) ⟨bE J J,bR J,bE J ?_,A⟩;rw[dt,w e];rfl
 .have d:i=Z a:=by have d:¬(i:G)<(Z a:G):=a4 d;omega
  subst d;rw[fR];exact bh<|aI<|c8 1000000 J J J<|bw J J (Kt _) J<|cJ J
def ajt{a d}(e:bY a=bY d)(f:dP a=dP d):a=d:=by have g:val (b<|aA a)=val (b<|aA d):=a6 val f;rw[dU,dU]at g;have i:=yb a;have k:=yb d;rw[<-i,<-k,e,(O:aA a=aA d)]
def X8{x a:Bool}:(x !=a)=ae↔x≠a:=by cases x<;>cases a<;>decide
def X9 a(f:Sm a):r z 93 [aZ a] (cB ae):=by
 refine aJ Tryz.func93 ?_;have g:Z (b<|aA a)<=1099511627776:=f;have d:Z (dP a)<=1099511627776:=f;refine I J<|I J<|M<|I J<|c J (λh=>?_)<|λh=>aD ?_
 .have h:(Z (b<|aA a):G)=0:=eq_of_beq h;have k:a=0:=by have:¬0<Z (b<|aA a):=O;rw[nZ]at this;omega
  subst k;exact I J<|bI<|cG<|atR J
 .have h:(Z (b<|aA a):G)≠0:=m5 h;have i:0<Z (dP a):=by show 0<Z (b<|aA a);omega
  refine I J (hp:=aF)<|bO J ?_;have l:=tQ<|aA a;refine a6 cB ?_;rcases l with e|e
  .rw[e]at h;simp at h
  .show(E (b<|aA a) (af<|(Z (b<|aA a):G)-1) 0 !=0)=ae;rw[(O:af ((Z (b<|aA a):G)-1)=Z (b<|aA a)-1)];simpa using e
def X' a g(l:Sm a):r z 68 [aZ a,aZ g] (cB<|decide<|a=g):=by
 refine aJ Tryz.func68 ?_;have l:Z (dP a)<=1099511627776:=l;refine I J<|M<|R<|rg 11 J J (λd=>?_)<|λd=>?_
 .have d:bY a≠bY g:=X8.1 d;refine j J<|c J (λ_=>I J<|bI<|cG<|eB J<|a6 cB ?_)<|λh2=>oZ;rw[n8 (λe=>d uI)]
 .have d:bY a=bY g:=by
   have d:¬(bY a !=bY g)=ae:=by rw[d];decide
   rw[X8]at d;exact Decidable.not_not.1 d
  refine j J<|c J (λh2=>?_)<|λh2=>aD ?_
  .have h2:=yl h2;refine I J<|bI<|cG<|eB J<|a6 cB ?_;rw[n8 (λe=>h2 uI)]
  .have h2:=wu h2;refine M<|I J<|ay<|bf (α:=Y) (λi=>⟨[(2,.c<|.P 0 0),(3,.c<|.P 1000 0),(5,y i)],[(0,.box 42 0<|av .z a),(1000,.box 42 0<|av .z g)],4,[]⟩) (λi=>i<=Z (dP a)/\h i (dP a)=h i (dP g)) (λi=>Z (dP a)-i) 0 ⟨a8 _,ax⟩ (wk (bJ J) ⟨bE J J,bE J J,A⟩) ?_;rintro i ⟨m,ht⟩;refine M (I J<|c J (λf=>?_)<|λf=>?_)
   .have f:i<Z (dP a):=by have f:(i:G)<(Z (dP a):G):=aT f;omega
    refine aD<|M<|ay<|I J (hp:=aF)<|c J (λk=>?_)<|λk=>c7<|bH ?_
    .have k:E (dP a) i 0≠E (dP g) i 0:=yl k;refine I J<|bI ?_;repeat(first|refine cG ?_|refine kE ?_|refine k8 ?_)
     refine eB J<|a6 cB ?_;rw[n8 (λe=>k uI)]
    .have k:E (dP a) i 0=E (dP g) i 0:=wu k;exact rt J<|aS (i+1) ⟨f,by rw[qy _ i f,qy _ i O,ht,k]⟩ (O:Z (dP a)-(i+1)<Z (dP a)-i)<|wk (bJ J) ⟨bE J J,bE J J,A⟩
   .have f:i=Z (dP a):=by have f:¬(i:G)<(Z (dP a):G):=a4 f;omega
    subst f;rw[fR,iO O]at ht;refine bh<|aI<|I J<|bO J<|a6 cB ?_;rw[qq (ajt d ht)]
def Ya{k}a f(i:QS k a)(l:k<=100000000000):r z 21 [aQ a,aQ f] (cB<|decide<|a=f):=by
 refine aJ Tryz.func21 ?_;refine I J<|R<|rc J J (X' a.num f.num<|i.n.sm O)<|rg 10 J J (λh=>?_)<|λh=>?_
 .have h:a.num=f.num:=aT h;refine fX J J J J J (X' (a.den:G) (f.den:G)<|i.d.sm O)<|j J<|bO J ?_;refine a6 cB ?_;by_cases e:(a.den:G)=(f.den:G)
  .rw[qq e,qq<|Rat.ext h O];rfl
  .rw[n8 e,n8<|λg=>e<|by rw[g]];rfl
 .have h:¬a.num=f.num:=a4 h;refine j J<|bO J ?_;refine a6 cB ?_;rw[n8 (λg=>h<|by rw[g])]
def aju{k}a(f:QS k a)(i:k<=100000000000):r z 39 [aQ a] (cB ae):=by
 refine aJ Tryz.func39 ?_;have l:=den_pos a;refine I J<|M<|R<|rc J J (X9 a.num<|f.n.sm O)<|rg 7 J J (λh=>eV)<|λ_=>?_;refine fX J J J J J (X9 (a.den:G)<|f.d.sm O)<|rg 13 J J (λh=>eV)<|λ_=>?_;refine fX J J J J J (Ah (a.den:G))<|j J<|c J (λh=>?_)<|λ_=>aD ?_
 .exfalso;have h:eS (a.den:G)<1:=aT h;unfold eS at h;split at h
  .omega
  .split at h<;>omega
 have g:=Kq a.num (a.den:G) (f.n.sm O)<|f.d.sm O;have e:gV a.num (a.den:G)=1:=a.reduced;rw[e]at g;refine R<|rc J J g<|rc J J (iI 1 T T)<|rc J J (J3 ((1:Y):G) 1)<|j J<|cJ J
abbrev ZZ:ET:= .pr .z .z
def qz(a:D):G×G:=(a.num,(a.den:G))
def Lc f(k:V D):nw (.vec f ZZ<|k.map qz) (.vec f .q k):=by
 refine⟨λN g W u h=>?_,λ_ h=>eV⟩;rcases h with⟨a,d⟩|⟨b,e,vs,a,d,n,l,m,o,p,s⟩
 .exact .inl ⟨a,List.map_eq_nil_iff.1 d⟩
 .rw[cR]at a l m;refine .inr ⟨b,e,vs,a,d,n,l,m,λi t=>?_,p,s⟩;have:=o i (by rw[cR];exact t);rw[zY]at this;exact this
def Yb(f:V D):bm (.c<|.S .q f) (.c<|.S ZZ<|f.map qz):=by
 refine⟨λg v h=>?_,λ_ h=>by simpa[AV.ak,C.ak]using h⟩;obtain⟨a,k,m,n,o,d⟩:kX (cV g.H .q) 4 g.H f v:=h;refine⟨a,k,by rw[cR];exact m,by rw[cR];exact n,by rw[cR];exact o,?_⟩;rcases d with d|⟨b,off,e,d⟩
 .exact .inl (by rw[d];rfl)
 .refine .inr ⟨b,off,e,λi l=>?_⟩;rw[cR]at l;let ⟨cs,c1,p,s⟩:=d i l;exact⟨cs,c1,by rw[zY];exact p,s⟩
def ajv{e:Type}(a d:e){i n}(f:i<n):(bg i a++bg (n-i) d).set i a=bg (i+1) a++bg (n-(i+1)) d:=by rw[Kg _ _ ax,fF,ma,(O:n-i=(n-(i+1))+1),xx,PF,List.replicate_succ',lD];rfl
def Ld(n:Y)(d:n<=1000):nC z 118 [y n] 44 .q (bg n 0):=by
 refine FQ Tryz.func118 J J J J T ?_;refine I J<|R<|rm ZZ n J J J J J J Pg J ?_ ?_<|j J<|M<|I J ?_
 .show n*64<=_;omega
 .show n*4<=_;omega
 refine ay<|bf (α:=Y) (λi=>⟨[(3,.c<|.X 1001000),(7,y n),(8,y i)],[(1001000,.vec 44 ZZ<|bg i (0,1)++bg (n-i) (0,0))],3,[]⟩) (λi=>i<=n) (λi=>n-i) 0 (a8 _) (wk (bJ J) ⟨bE J J,A⟩) ?_;intro i e;refine I J<|M<|c J (λh=>?_)<|λh=>?_
 .have h:i<n:=by have h:(i:G)<(n:G):=aT h;omega
  have a:Z (bg i ((0,1):G×G)++bg (n-i) (0,0))=n:=bV;refine c7<|aI<|M<|ay<|I J<|cA<|rc J J (QB 0 T T)<|x5 ((0,1):G×G) J J J J J ?_ (j J<|bH<|rt J (hp:=aF)<|aS (i+1) h (O:n-(i+1)<n-i)<|wk (bJ J) ⟨bE J ?_,A⟩) (hp:=?_)
  .show af ((i:G))<_;rw[a];omega
  .refine a6 (aE.vec 44 ZZ) ?_;show(bg i ((0,1):G×G)++bg (n-i) (0,0)).set (af<|(i:G)) (0,1)=_;rw[b6,ajv _ _ h]
  .show 0<=(i:G)/\(i:G)<(Z (bg i ((0,1):G×G)++bg (n-i) (0,0)):G);rw[a];omega
 .have h:i=n:=by have h:¬(i:G)<(n:G):=a4 h;omega
  subst h;refine bh<|aI ?_;refine dW (st':=⟨[(3,.c<|.X 1001000)],[(1001000,.vec 44 .q<|bg i 0)],4,[]⟩) (wk ⟨sR J,A⟩ ⟨⟨_,J,?_⟩,A⟩)<|I J<|bI<|FP (id:=1001000) cj J J;have:=Lc 44<|bg i 0;rw[List.map_replicate]at this;rw[ma,Cm,g8];exact this
def GM(xs:V D)(i:Z xs<=1000000):r z 120 [N .q xs] (N .q<|eT xs):=by
 refine aJ Tryz.func120 ?_;refine I J<|I J ?_;refine M<|ay<|bf (α:=Y) (λk=>⟨[(0,N .q xs),(3,y k)],[],2,[]⟩) (λk=>k<=Z xs/\jx xs k=jx xs (Z xs)) (λk=>k) (Z xs) ⟨aW _,J⟩ aU ?_;rintro k ⟨l,a⟩;have f:jx xs k=k->bm (N .q<|h k xs) (N .q<|eT xs):=λe=>by refine bm.of_eq ?_;unfold eT;rw[<-a,e]
 refine M<|R ?_;refine rg 8 J J (λd=>?_)<|λd=>?_
 .have d:0<k:=by have d:(k:G)>0:=aT d;omega
  obtain⟨j,rfl⟩:∃j,k=j+1:=⟨k-1,O⟩;have g:af (((j+1:Y):G)-1)=j:=O;refine fX J J J J J (QA<|E xs (af<|((j+1:Y):G)-1) 0) (re J ?_) (hp:=jJ);refine c J (λh2=>?_)<|λh2=>?_
  .have h2:(E xs j 0).num=0:=by have h2:eS (E xs (af<|((j+1:Y):G)-1) 0).num=0:=eq_of_beq h2;rw[g]at h2;exact uH.1 h2
   refine aD<|ay<|rt J (eL<|aS j ⟨O,?_⟩ rK<|wk ⟨sR J,sE J ?_,A⟩ A) (hp:=jJ)
   .rw[<-a,jx,ao h2]
   .exact iz (O:((j+1:Y):G)-1=(j:G))
  .have h2:(E xs j 0).num≠0:=by have h2:eS (E xs (af<|((j+1:Y):G)-1) 0).num≠0:=m5 h2;rw[g]at h2;exact λe=>h2 (uH.2 e)
   exact bh<|aI<|I J (bI<|g7 cj J<|f<|by rw[jx,w h2]) (hp:=aF)
 .have d:k=0:=by have d:¬(k:G)>0:=a4 d;omega
  subst d;exact re J<|c J (λh2=>oZ)<|λ_=>bh<|aI<|I J (bI<|g7 cj J<|f J) (hp:=aF)
def m8(a:V D)(d:D)(e:V D)(k m:Y):V D:=(cd<|Z a).map λi=>if k<=i/\i<k+m then E a i 0+d*E e (i-k) 0 else E a i 0
def iX(d:V D)(e:D)(a:V D)(k:Y):V D:=m8 d e a k<|Z a
def mu(a d e k m):Z (m8 a d e k m)=Z a:=by simp[m8]
def tf{a}{d}{e}{k m i}(f:i<Z a):E (m8 a d e k m) i 0=if k<=i/\i<k+m then E a i 0+d*E e (i-k) 0 else E a i 0:=by unfold m8;rw[aM,iV,kK f];rfl
def GN{a d:V D}(f:Z a=Z d)(g:∀i,i<Z a->E a i 0=E d i 0):a=d:=by
 refine sK f λi e k=>?_
 have:=g i e;rwa[aM,cK e,aM,cK k]at this
def ajw(a e f k):m8 a e f k 0=a:=GN (mu ..) λi d=>by rw[mu]at d;rw[tf d,w O]
def ajx(a e k):iX a 0 e k=a:=GN (mu ..) λi d=>by
 unfold iX at*;rw[mu]at d;rw[tf d];split
 .rw[qB,nD]
 .rfl
def AB{l}{i}a(x:D)(d:i<Z l):(l.set i x).getD a 0=if i=a then x else E l a 0:=by
 rw[aM,Pt];by_cases e:i=a
 .subst e;rw[ao J,ao J,ao d];rfl
 .rw[w e,w e,aM]
def ajy{a}{d}{f}{k m}(n:k+m<Z a):(m8 a d f k m).set (k+m) (E a (k+m) 0+d*E f m 0)=m8 a d f k (m+1):=GN (by rw[ru,mu,mu]) λi g=>by
 rw[ru,mu]at g;rw[AB _ _ (by rw[mu];exact n),tf g,tf g];by_cases e:k+m=i
 .subst e;rw[ao J,ao O,Gj]
 .rw[w e];by_cases l:k<=i/\i<k+m
  .rw[ao l,ao O]
  .rw[w l,w O]
def ajz{f}{g}{a}{k m}(n:E a m 0=0):m8 f g a k m=m8 f g a k (m+1):=GN (by rw[mu,mu]) λi d=>by
 rw[mu]at d;rw[tf d,tf d];by_cases e:i=k+m
 .subst e;rw[w O,ao O,Gj,n,fO,nD]
 .by_cases l:k<=i/\i<k+m
  .rw[ao l,ao O]
  .rw[w l,w O]
def uJ{a:D}(d:a.num=0):a=0:=Rat.num_eq_zero.1 d
def Le{s}(H:s<=1000000000) e d a k(L:k+Z a<=Z e)(x:Z e<=1000)(B:∀i,QS s (E e i 0))(p:QS s d)(F:∀i,QS s (E a i 0)):
  sV z 119 [.c (.X 0),aQ d,N .q a,y k] 44 .q e (.t []) (iX e d a k):=by
 refine FT Tryz.func119 J J J J J T ?_
 refine I J<|M<|bw J J (QA d) J<|c J (λh=>?_)<|λh=>aD ?_
 .have h:eS d.num=0:=eq_of_beq h;have h:d=0:=uJ<|uH.1 h;subst h;rw[ajx];exact bI<|cG<|x6 cj J (bm.refl _) J
 refine I J ?_
 refine ay<|bf (α:=Y) (λm=>⟨[(0,.c<|.X 0),(3,y k),(5,.c<|.P 1000000 0),(13,N .q a),(14,y<|Z a),(15,y m)],[(0,.vec 44 .q<|m8 e d a k m),(1000000,.box 44 0<|av .q d)],4,[]⟩) (λm=>m<=Z a) (λm=>Z a-m) 0 (a8 _) (wk (bJ J) ⟨bE J ?_,bE J J,A⟩) ?_
 .rw[ajw]
 intro m C
 refine I J<|M<|c J (λh=>?_)<|λh=>?_
 .have h:m<Z a:=by have h:(m:G)<(Z a:G):=aT h;omega
  have u:af ((m:G))=m:=b6 m;have l:af ((m:G)+(k:G))=k+m:=O;have n:=mu e d a k m;have v:E (m8 e d a k m) (af<|(m:G)+(k:G)) 0=E e (k+m) 0:=by rw[l,tf O,w O]
  have g:QS s (E a (af<|(m:G)) 0):=F _;have o:QS (2*s) (E (m8 e d a k m) (af<|(m:G)+(k:G)) 0):=by rw[v];exact(B _).le O
  refine aD<|M<|ay<|I J<|bw J J (QA<|E a (af<|(m:G)) 0) J<|c J (λf=>?_)<|λf=>c7 ?_
  .refine cA (rc J J (X5 d (E a (af<|(m:G)) 0) p g O) (rc J J (ajl _ _ o (p.mul g) O)<|x5 (E (m8 e d a k m) (af<|(m:G)+(k:G)) 0+d*E a (af<|(m:G)) 0) J J J J J ?_ (j J ?_) (hp:=?_)) (hp:=?_))
   .show af ((m:G)+(k:G))<Z (m8 e d a k m);rw[l,n];omega
   .refine bH<|rt J (hp:=aF)<|aS (m+1) h (O:Z a-(m+1)<Z a-m)<|wk (bJ J) ⟨bE J ?_,bE J J,A⟩;show aE.vec 44 .q ((m8 e d a k m).set (af<|(m:G)+(k:G))<|E (m8 e d a k m) (af<|(m:G)+(k:G)) 0+d*E a (af<|(m:G)) 0)=_;rw[v,l,u,ajy O]
   .simp only[Pr.an,Pr.h,num,gf,true_and,and_true];omega
   .simp only[Pr.an,Pr.h,num,gf,true_and,and_true];omega
  .have f:eS (E a (af<|(m:G)) 0).num=0:=wu f;rw[u]at f;have f:=uJ<|uH.1 f;refine bH<|rt J (hp:=aF)<|aS (m+1) h (O:Z a-(m+1)<Z a-m)<|wk (bJ J) ⟨bE J ?_,bE J J,A⟩;rw[ajz f]
 .have h:m=Z a:=by have h:¬(m:G)<(Z a:G):=a4 h;omega
  subst h;exact bh<|Wp cj J (bm.refl _) J
def QS.zero{s}(e:1<=s):QS s 0:=⟨aG.zero _,(aG.one (a:=1) T).le e⟩
def QS.int{s}(e:1<=s){n}(f:aA n<4294967296):QS s (n:D):=⟨(aG.one f).le e,(aG.one (a:=1) T).le e⟩
def qC(d:D)(a:V D):V D:=a.map (d*·)
def Yc d a i:E (qC d a) i 0=d*E a i 0:=by
 unfold qC;rw[aM,iV,aM];cases a[i]? with
 |none=>show(0:D)=d*0;rw[fO]
 |some x=>rfl
def GO n i:E (bg n (0:D)) i 0=0:=by rw[aM,ll];split<;>rfl
def ajA d a:iX (bg (Z a) 0) d a 0=qC d a:=GN (by rw[iX,mu,fF,qC,cR]) λi e=>by rw[iX,mu,fF]at e;rw[iX,tf (by rw[fF];exact e),ao O,GO,GP,C',Yc]
def QK{s}(g:1<=s)(k:s<=1000000000) d a(f:Z a<=1000)(l:QS s d)(m:∀i,QS s (E a i 0)):r z 75 [aQ d,N .q a] (N .q<|eT<|qC d a):=by refine aJ Tryz.func75 ?_;have n:=Ld (Z a) f;have e:=Le k (bg (Z a) 0) d a 0 PT (by rw[fF];exact f) (λi=>by rw[GO];exact QS.zero g) l m;rw[ajA]at e;have o:=GM (qC d a) (by unfold qC;rw[cR];omega);refine I J<|R<|Ab J J n<|j J<|R<|x9 1002000 J e J J<|j J ?_;exact c8 1002000 J J J<|bw J J o J<|cJ J
def ajB{s}(o:s<=1000000000) a(g:a≠[])(i:Z a<=1000)(k:E a (Z a-1) 0≠0)(f:QS s (E a (Z a-1) 0)):r z 151 [N .q a] (aQ (E a (Z a-1) 0)⁻¹):=by
 refine aJ Tryz.func151 ?_;have p:=cv.2 g;have l:af ((Z a:G)-1)=Z a-1:=O;have m:r z 115 [aQ (E a (af<|(Z a:G)-1) 0)] (.t [(ae,av .q (E a (Z a-1) 0)⁻¹),(ah,[.I .i64 0])]):=by rw[l];exact K9 _ (λe=>k<|uJ e) (f.n.sm O)<|f.d.sm O
 refine I J<|M<|I J<|c J (λh=>?_)<|λh=>aD ?_
 .have h:(Z a:G)=0:=eq_of_beq h;exact absurd h O
 refine R<|rc J J m (j J<|I J<|cJ J) (hp:=aF)
def ajC{s}(k:1<=s)(l:s<=1000000000) a(m:a≠[])(o:Z a<=1000)(p:E a (Z a-1) 0≠0)(f:∀i,QS s (E a i 0))(g:QS s (E a (Z a-1) 0)⁻¹):r z 114 [N .q a] (N .q<|eT<|qC (E a (Z a-1) 0)⁻¹ a):=by
 refine aJ Tryz.func114 ?_;have u:=cv.2 m;have v:af ((Z a:G)-1)=Z a-1:=O;have x:r z 115 [aQ (E a (af<|(Z a:G)-1) 0)] (.t [(ae,av .q (E a (Z a-1) 0)⁻¹),(ah,[.I .i64 0])]):=by rw[v];exact K9 _ (λe=>p<|uJ e) ((f _).n.sm O)<|(f _).d.sm O
 refine I J<|M<|I J<|c J (λh=>?_)<|λh=>aD ?_
 .have h:(Z a:G)=0:=eq_of_beq h;exact absurd h O
 refine R<|rc J J x (j J<|bw J J (QK k l _ a o g f) J<|cJ J) (hp:=aF)
def QS.inv{s}{a}(i:QS s a)(k:a≠0):QS s a⁻¹ :=by
 have l:a.num≠0:=λe=>k<|uJ e
 rw[X3];have g:=Ki (a.den:G) a.num l;have m:gV (a.den:G) a.num=1:=by rw[Int.gcd_comm];exact a.reduced
 rw[m]at g;by_cases f:a.num<0
 .rw[ao f,show-(((1:Y):G))= -1 from J,Ak,sY,Ak,sY]at g;exact⟨by rw[g.1];exact i.d.neg,by rw[g.2];exact i.n.neg⟩
 .rw[w f,show(((1:Y):G))=1 from J,sY,sY]at g;exact⟨by rw[g.1];exact i.d,by rw[g.2];exact i.n⟩
def rP(a:V D):V D:=(cd<|Z a-1).map λi=>(((i+1:Y):G):D)*E a (i+1) 0
def QL(a):Z (rP a)=Z a-1:=by simp[rP]
def Yd{a}{i}(d:i<Z a-1):E (rP a) i 0=(((i+1:Y):G):D)*E a (i+1) 0:=by unfold rP;rw[aM,iV,kK d];rfl
def yt(a:V D)(d:Y):V D:=a++bg (d-Z a) 0
def Lf{a}{d}(e:Z a<=d):Z (yt a d)=d:=by simp[yt];omega
def Ye a d i:E (yt a d) i 0=E a i 0:=by
 unfold yt;rw[aM,aM];by_cases h:i<Z a
 .rw[B4 h]
 .rw[B5 O,jP (l:=a) O,ll];split<;>rfl
def wF(a:V D)(e:D)(d:V D):V D:=iX (yt a<|max (Z a)<|Z d) e d 0
def ajD{s}(B:1<=s)(m:s<=1000000000) a f d(F:Z a<=1000)(H:Z d<=1000)(n:0<max (Z a) (Z d))(o:∀i,QS s (E a i 0))(p:QS s f)(t:∀i,QS s (E d i 0)):r z 128 [N .q a,aQ f,N .q d,y 0] (N .q<|eT<|wF a f d):=by
 refine aJ Tryz.func128 ?_;generalize hM:max (Z a) (Z d)=M at*;have g:M<=1000:=O;have u:=Ld M g;have k:=Le m (yt a M) f d 0 (by rw[Lf O];omega) (by rw[Lf O];exact g) (λi=>by rw[Ye];exact o i) p t;have v:=GM (wF a f d) (by rw[wF,iX,mu,hM,Lf O];omega);have e:wF a f d=iX (yt a M) f d 0:=by rw[wF,hM]
 rw[<-e]at k;have x:(if(Z d:G)+0>(Z a:G)then(Z d:G)+0 else(Z a:G))=(M:G):=by split<;>omega
 have l:nC z 118 [y (if(Z d:G)+0>(Z a:G)then(Z d:G)+0 else(Z a:G))] 44 .q (bg M 0):=by rw[x];exact u
 refine I J<|R<|Ab J J l<|j J ?_;refine R<|J2 J J J J J PT (λe=>by have:=a6 Z e;rw[fF]at this;simp at this;omega)<|j J ?_;rw[QM];change TR _ _ _ ⟨_,(_,.vec 44 .q<|yt a M)::_,_,_⟩ _;refine R<|x9 1007000 J k J J<|j J ?_;exact c8 1007000 J J J<|bw J J v J<|cJ J
def ajE{s}(g:1<=s)(l:s<=1000000000) a d(m:Z a<=1000)(n:Z d<=1000)(f:0<max (Z a) (Z d))(o:∀i,QS s (E a i 0))(p:∀i,QS s (E d i 0)):r z 74 [N .q a,N .q d] (N .q<|eT<|wF a (-1) d):=by refine aJ Tryz.func74 ?_;have k:=QB (-1) T T;have e:=ajD g l a (((-1:G)):D) d m n f o (QS.int g T) p;rw[show(((-1:G)):D)= -1 from J]at e k;exact I J<|R<|rc J J k<|rc J J e<|j J<|cJ J
section
variable{P:Program}{tt:V (Y×TI)}
def ajF(bW:b8 P tt=ae){n U}{ops}{i}{o:Oper}(ho:ops[i]? =ad o)(hg:o.guard=none){d:Y}(hd:o.dst=ad d)(di:d<n){x p}{t1 t2}(bU:o.op= .call ⟨.builtin .copy,#[x,p],#[t1,t2]⟩)
 {f}{q}{be E1:TypeId} {u}{ei:TI} (hx:f.ev x=ad (.c<|.X q)) (hl:S q f.mem=ad (.vec be u [])) (hy:f.ev p=ad (.c<|.S u [])) (H:x4 tt t1 t2=ad (E1,ei)) (rk:ei.size=u.n):
  k5 P n ops i f (f.put d<|.c<|.I .i64 0) U (bD [x,p]++cX [q],[.s d]):=by
 refine⟨(cC f x++cC f p)++ff f [q],[(.s d,ad<|.v<|.c<|.I .i64 0)],?_,?_,oL f d _,?_,λk hk=>ju⟩
 .refine ri ho hg hd di _ _ U ?_;intro F w σ g W a l K;have H:=JK bW H;rw[rk]at H;have A:a.eval x=g.γ q:=du l f x _ hx<|λL bZ=>K L dR;have D:=du l f p _ hy<|λL bZ=>K L dR;have G:σ (.m q)=ad (.b<|.vec be u ([]:V u.den)):=K (.m q,.b<|.vec be u []) pY;let ⟨e2,iv⟩:=H.u2;let ⟨inf,z,B,C,R,vT,sL⟩:=H.info;let ⟨us,t,M,qi,v5⟩:=z4 (P:=P) (st:=f) (sz:=u.n) (y:= .c<|.S u []) (m:=0) (cs:=[]) (ids:=[]) l (by simp[sQ]) D (λq N=>by cases N) iv J;have O:us=[]:=M;subst O;refine⟨λj hj=>(by cases hj),(.int .i64 0:Value),?_,J⟩;have r:(Yf #[t1,t2] o.type #[a.eval x,a.eval p]).run P W= .ok (.int .i64 0) W:=by
   rw[A];have Z:=t.cells;rcases l.cL q _ G with⟨Q,_⟩|⟨b,cap,vs,Q,hh,sH,sy,hlen,hr,hN,hz⟩
   .rw[Q];simp[Yf,run_underlying H.u1,sizeOf,typeInfo,B,t.len,C,Z,goInt,Sem.run,pure]
   .rw[Q];simp[Yf,run_underlying H.u1,sizeOf,typeInfo,B,t.len,C,Z,goInt,Sem.run,pure,storeCells]
  refine Cq bU<|λcs=>?_;have e:(#[x,p]:Array Operand).map a.eval= #[a.eval x,a.eval p]:=ax;rw[e];simp only[Go.builtin,Sem.run_bind,r,Result.andThen];rfl
 .intro L bZ;rcases aY.1 bZ with h|h
  .rcases aY.1 h with h|h
   .exact dV _ x L h
   .exact dV _ p L h
  .exact jV _ [q] L h
 .intro k hk;simp only[dq,fo,aY]at hk;rcases hk with(h|h)|h
  .exact dY _<|ew f [x,p] k uf
  .exact dY _<|ew f [x,p] k vI
  .exact fU _<|jW f [q] k h
end
section
variable{n:Y}{sl cc:V (Y×AV)}{mem b9:V (Y×aE)}{nx:Y}{gd cr:V (Y×Bool)}{ops:Array Oper}{draw:Bool}{p:Pr}{ks dx:V Ks}{i i' n0 cx:Y}{os dH:V Oper}{d:Y}{ty:TypeId}{pos:String}{ig:Array Edge}{R:St->Prop}
def ajG{x a}{l m}{e}{q u:TypeId}{f}{o}(v:runs dG n nx draw ops.toList os i ⟨sl,mem,n0,gd⟩ .t ks=(⟨ad d,.call ⟨.builtin .copy,#[x,a],#[l,m]⟩,ty,pos,ig,none⟩::dH,i',⟨cc,b9,cx,cr⟩,p,dx))
  (B:St.ev ⟨cc,b9,cx,cr⟩ x=ad (.c<|.X e)) (F:S e b9=ad (.vec q f [])) (H:St.ev ⟨cc,b9,cx,cr⟩ a=ad (.c<|.S f [])) (L:x4 dG l m=ad (u,o))
  (P:RG z n ops draw nx (i'+1) dH ⟨(d,.c<|.I .i64 0)::cc,b9,cx,cr⟩ (gU draw dx (bD [x,a]++cX [e],[.s d])) R) (g:o.size=f.n:=by rfl)
  (Q:p:=by exact k9) (k:Nat.blt d n=ae:=by rfl):RG z n ops draw nx i os ⟨sl,mem,n0,gd⟩ ks R:=
 jX cj v Q (mR (λC=>ajF cj C J J (c9 k) J B F H L g)<|mT P)
end
def dm(inv:D)(a e:V D)(n m:Y):Y->V D×V D
 |0=>(bg m 0,a)
 |d+1=>((dm inv a e n m d).1.set (m-1-d)<|(dm inv a e n m d).2.getD (m-1-d+n) 0*inv,iX (dm inv a e n m d).2 (-((dm inv a e n m d).2.getD (m-1-d+n) 0*inv)) e<|m-1-d)
def wG(inv a e n m):∀d,(dm inv a e n m d).1.length=m/\(dm inv a e n m d).2.length=Z a
 |0=>⟨fF,J⟩
 |d+1=>by let ⟨f,h2⟩:=wG inv a e n m d;exact⟨by rw[dm,ru,f],by rw[dm,iX,mu,h2]⟩
def ajH{s}(h1:1<=s)(hs:s<=100000000) a g n m(hn:Z g=n+1)(hm:Z a=n+m)(FR:0<m)(la:Z a<=1000)(x:E g n 0≠0)(L:∀i,QS s (E g i 0))(hS:∀f,f<=m->∀i,QS s ((dm (E g n 0)⁻¹ a g n m f).2.getD i 0)):
  r z 65 [N .q a,N .q g] (.t [(ah,[.S .q (eT (dm (E g n 0)⁻¹ a g n m m).1)]),(ah,[.S .q (eT<|(dm (E g n 0)⁻¹ a g n m m).2.take n)]),(ah,[.I .i64 0])]):=by
 refine aJ Tryz.func65 ?_
 refine I J<|M<|I J<|c J (λl=>?_)<|λl=>aD ?_
 .have l:(Z g:G)=0:=eq_of_beq l;exact absurd l O
 refine R<|rm ZZ (Z a) J J J J J J Pg J ?_ ?_<|j J ?_
 .show Z a*64<=_;omega
 .show Z a*4<=_;omega
 refine dW (st':=⟨[(0,.c<|.S ZZ<|a.map qz),(1,N .q g),(7,.c<|.X 2002000)],[(2002000,.vec 44 ZZ<|bg (Z a) (0,0))],3,[]⟩) (wk ⟨⟨_,J,Yb a⟩,sR J,sR J,A⟩ ⟨bR J,A⟩) ?_
 refine R<|J2 J J J J J (by rw[fF,cR];omega) (λe=>by have:=a6 Z e;rw[fF,rz]at this;omega)<|j J ?_
 have V:QN qz a++List.drop (Z<|QN qz a) (bg (Z a) ((0,0):G×G))=a.map qz:=by rw[cR,QM,ma,Cm,g8]
 refine dW (st':=⟨[(0,.c<|.S ZZ<|a.map qz),(1,N .q g),(7,.c<|.X 2002000)],[(2002000,.vec 44 .q a)],4,[]⟩) (wk (bJ J) ⟨⟨_,J,by rw[V];exact Lc 44 a⟩,A⟩) ?_
 refine I J<|M<|I J<|c J (λl=>?_)<|λl=>aD ?_
 .have l:(Z (a.map qz):G)<=(Z g:G)-1:=aT l;rw[cR]at l;exact absurd l O
 have e1:af ((Z g:G)-1)=n:=O
 have hi:r z 115 [aQ (E g (af<|(Z g:G)-1) 0)] (.t [(ae,av .q (E g n 0)⁻¹),(ah,[.I .i64 0])]):=by rw[e1];exact K9 _ (λe=>x<|uJ e) ((L _).n.sm O)<|(L _).d.sm O
 have B:QS s (E g n 0)⁻¹ :=(L n).inv x
 generalize (E g n 0)⁻¹ =inv at*
 have ez:(Z (a.map qz):G)-((Z g:G)-1)=(m:G):=by rw[cR];omega
 have hz:nC z 118 [y ((Z (a.map qz):G)-((Z g:G)-1))] 44 .q (bg m 0):=by rw[ez];exact Ld m O
 refine R<|rc J J hi (j J<|R<|Ab J J hz<|j J ?_) (hp:=aF)
 refine M<|I J ?_
 rw[fF]
 have C:=wG inv a g n m
 refine ay<|bf (α:=Y) (λf=>⟨[(1,N .q g),(7,.c<|.X 2002000),(8,y n),(9,.c<|.P 6008000 0),(11,.c<|.X 7004000),(12,y<|(m:G)-1-f)],[(7004000,.vec 44 .q (dm inv a g n m f).1),(6008000,.box 44 0<|av .q inv),(2002000,.vec 44 .q (dm inv a g n m f).2)],9,[]⟩) (λf=>f<=m) (λf=>m-f) 0 (a8 _) (wk ⟨sR J,sR J,sE J ?_,sR J,sR J,sE J ?_,A⟩ ⟨bR J,bE J J,bR J,A⟩) ?_
 .exact iz (O:(Z g:G)-1=(n:G))
 .exact iz (O:(m:G)-1=(m:G)-1-((0:Y):G))
 intro f hj
 let ⟨hq,hr⟩:=C f
 have o:=hS f hj
 have v:dm inv a g n m (f+1)=((dm inv a g n m f).1.set (m-1-f)<|(dm inv a g n m f).2.getD (m-1-f+n) 0*inv,iX (dm inv a g n m f).2 (-((dm inv a g n m f).2.getD (m-1-f+n) 0*inv)) g<|m-1-f):=rfl
 refine M<|I J<|c J (λp=>?_)<|λp=>?_
 .have p:f<m:=by have p:(m:G)-1-f>=0:=aT p;omega
  generalize dm inv a g n m f=S at*;let ⟨q,u⟩:=S;simp only at hq hr o v;have f1:af ((m:G)-1-f)=m-1-f:=O;have f2:af ((m:G)-1-f+n)=m-1-f+n:=O;have k:=X5 (E u (af<|(m:G)-1-f+n) 0) inv (o _) B O;have D:QS (2*s) (E u (m-1-f+n) 0*inv):=(o _).mul B;generalize F:E u (m-1-f+n) 0*inv=t at*;have k:r z 72 [aQ (E u (af<|(m:G)-1-f+n) 0),aQ inv] (aQ t):=by
   have e:E u (af<|(m:G)-1-f+n) 0*inv=t:=by rw[f2];exact F
   rwa[e]at k
  have Q:(q.set (af<|(m:G)-1-f) t).getD (af<|(m:G)-1-f) 0=t:=by rw[AB _ _ O,ao J]
  have H:r z 71 [aQ ((q.set (af<|(m:G)-1-f) t).getD (af<|(m:G)-1-f) 0)] (aQ<| -t):=by rw[Q];exact ajj t<|D.n.sm O
  have U:=Le (s:=2*s) O u (-t) g (m-1-f) O O (λi=>(o i).le O) D.neg<|λi=>(L i).le O;have K:sV z 119 [.c (.X 0),aQ<| -t,N .q g,y<|(m:G)-1-f] 44 .q u (.t []) (iX u (-t) g<|m-1-f):=by rw[(O:(m:G)-1-f=((m-1-f:Y):G))];exact U
  refine c7<|aI<|M<|ay<|R<|rc J J k<|x5 (T:= .q) t J J J J J ?_ (j J (cA<|rc J J H<|x9 2002000 J K J J (j J<|bH<|rt J (hp:=aF)<|aS (f+1) p (O:m-(f+1)<m-f)<|wk ⟨sR J,sR J,sR J,sR J,sR J,sE J ?_,A⟩ ⟨bE J ?_,bR J,bE J ?_,A⟩) (hp:=?_)) (hp:=?_)) (hp:=?_)
  .show af ((m:G)-1-f)<Z q;omega
  .exact iz (O:(m:G)-1-f-1=(m:G)-1-((f+1:Y):G))
  .rw[v,f1]
  .rw[v]
  .simp only[Pr.an,Pr.h,num,gf,true_and,and_true];first|done|omega
  .simp only[Pr.an,Pr.h,num,gf,true_and,and_true];first|done|omega
  .show 0<=(m:G)-1-f/\(m:G)-1-f<(Z q:G);omega
 .have p:f=m:=by have p:¬(m:G)-1-f>=0:=a4 p;omega
  subst p;refine bh<|aI<|c8 7004000 J J J<|c8 2002000 J J J ?_;have W:=GM (dm inv a g n f f).1 O;have w:=GM (h n (dm inv a g n f f).2) Gd;exact R<|rc J J W<|rc J J w (j J<|cJ J) (hp:=aF)
def Yg a d:bm (.t<|(ah,[.V (.slice none 0 0)])::d) (.t<|(ah,[.S a []])::d):=by
 refine⟨λg v h=>?_,λl h=>?_⟩
 .let ⟨vs,e,h⟩:=h;obtain⟨f,r,rfl,i,k⟩:=h;exact⟨_,e,_,_,J,(bm.nil a).1 g f i,k⟩
 .simpa[AV.ak,eo,bP,C.ak]using h
def ajI(a d:V D)(g:Z a<Z d)(m:Z d<=1000):
  r z 65 [N .q a,N .q d] (.t [(ah,[.S .q []]),(ah,[.S .q a]),(ah,[.I .i64 0])]):=by
 refine aJ Tryz.func65 ?_
 refine I J<|M<|I J<|c J (λh=>?_)<|λh=>aD ?_
 .have h:(Z d:G)=0:=eq_of_beq h;exact absurd h O
 refine R<|rm ZZ (Z a) J J J J J J Pg J ?_ ?_<|j J ?_
 .show Z a*64<=_;omega
 .show Z a*4<=_;omega
 refine dW (st':=⟨[(0,.c<|.S ZZ<|a.map qz),(1,N .q d),(7,.c<|.X 2002000)],[(2002000,.vec 44 ZZ<|bg (Z a) (0,0))],3,[]⟩) (wk ⟨⟨_,J,Yb a⟩,sR J,sR J,A⟩ ⟨bR J,A⟩) ?_
 refine m0 ⟨[(0,.c<|.S ZZ<|a.map qz),(1,N .q d),(7,.c<|.X 2002000)],[(2002000,.vec 44 .q a)],4,[]⟩ ?_<|λf=>?_
 .refine I J (M<|I J<|c J (λh=>?_)<|λh=>?_)
  .exact c8 2002000 J J J<|I J<|bI<|cG<|g7 cj J<|Yg _ _
  .have h:¬(Z (a.map qz):G)<=(Z d:G)-1:=a4 h;rw[cR]at h;exact absurd g O
 .by_cases i:a=[]
  .subst i;exact cA<|ajG J J J J J<|j J<|eZ f<|wk (bJ J) ⟨⟨_,J,Lc 44 []⟩,A⟩
  .have k:=cv.2 i;have l:QN qz a++List.drop (Z<|QN qz a) (bg (Z a) ((0,0):G×G))=a.map qz:=by rw[cR,QM,ma,Cm,g8]
   refine cA<|J2 J J J J J (by rw[fF,cR];omega) (λe=>by have:=a6 Z e;rw[fF,rz]at this;omega)<|j J<|eZ f<|wk (bJ J) ⟨⟨_,J,by rw[l];exact Lc 44 a⟩,A⟩
end Go.El
